/- Written for this claim by a program of this session (a turned copy of the print): Go functions as Lean functions, and that the Go code comes to just these answers; or a statement proved out of them. No condition. -/
import Derived.Test.YtbonkedecfjmdaaZ2
import Derived.Test.YtbonkedecfjmdaaZ13
import Derived.Test.YtbonkedecfjmdaaZ14
import Derived.Test.YtbonkedecfjmdaaZ15

namespace Go.Proofs.Ytbonkedecfjmdaa.P
open Go.RowKit Go.Proofs.YtbonkedecfjmdaaW.PrintWords Go.Proofs.YtbonkedecfjmdaaW.PrintLast Go.Proofs.YtbonkedecfjmdaaW.PrintMore Go.Proofs.Ytbonkedecfjmdaa.X
attribute [local go_sem] Q2a Q2b Q2s Q2q Q1z Q1y Q19 Q2c Q2r Q2p add64
set_option linter.unusedVariables false
set_option linter.unusedSimpArgs false
mutual
def Q1k.j0:Nat→List (S27)→Bool→Int→Int→Int→Option (Int)
 | 0,_,_,_,_,_=>none
 | k+1,x1,x17,x554000,x554001,x554002=>if x17=true then (some 0) else (Q1k.l0 k x1 (-1) x1 (x1.length:Int) 0 x554000 x554001 x554002)
def Q1k.l0:Nat→List (S27)→Int→List (S27)→Int→Int→Int→Int→Int→Option (Int)
 | 0,_,_,_,_,_,_,_,_=>none
 | k+1,x1,x5,x18,x19,x20,x554000,x554001,x554002=>if x20<x19 then (if 0≤x20 then (if x20<(x18.length:Int) then (if (x1.length:Int)=0 then (none) else (if 0≤(Int.tmod (wrap64 (x20+1)) (x1.length:Int)) then (if (Int.tmod (wrap64 (x20+1)) (x1.length:Int))<(x1.length:Int) then ((Q5e.f x554000 x554001 x554002 ((Q0a x18 x20).f0) ((Q0a x18 x20).f1) ((Q0a x18 x20).f2) ((Q0a x1 (Int.tmod (wrap64 (x20+1)) (x1.length:Int))).f0) ((Q0a x1 (Int.tmod (wrap64 (x20+1)) (x1.length:Int))).f1) ((Q0a x1 (Int.tmod (wrap64 (x20+1)) (x1.length:Int))).f2)).bind fun oB=>(if oB=true then (some 0) else (if ((decide (((Q0a x18 x20).f1)>x554001))==(decide (((Q0a x1 (Int.tmod (wrap64 (x20+1)) (x1.length:Int))).f1)>x554001)))=true then (Q1k.l0 k x1 x5 x18 x19 (wrap64 (x20+1)) x554000 x554001 x554002) else (if ((Q0a x1 (Int.tmod (wrap64 (x20+1)) (x1.length:Int))).f1)<((Q0a x18 x20).f1) then ((Q2w.f k ((Q0a x1 (Int.tmod (wrap64 (x20+1)) (x1.length:Int))).f0) ((Q0a x1 (Int.tmod (wrap64 (x20+1)) (x1.length:Int))).f1) ((Q0a x1 (Int.tmod (wrap64 (x20+1)) (x1.length:Int))).f2) ((Q0a x18 x20).f0) ((Q0a x18 x20).f1) ((Q0a x18 x20).f2) x554000 x554001 x554002).bind fun pB=>(if pB>0 then (Q1k.l0 k x1 (wrap64 (-x5)) x18 x19 (wrap64 (x20+1)) x554000 x554001 x554002) else (Q1k.l0 k x1 x5 x18 x19 (wrap64 (x20+1)) x554000 x554001 x554002))) else ((Q2w.f k ((Q0a x18 x20).f0) ((Q0a x18 x20).f1) ((Q0a x18 x20).f2) ((Q0a x1 (Int.tmod (wrap64 (x20+1)) (x1.length:Int))).f0) ((Q0a x1 (Int.tmod (wrap64 (x20+1)) (x1.length:Int))).f1) ((Q0a x1 (Int.tmod (wrap64 (x20+1)) (x1.length:Int))).f2) x554000 x554001 x554002).bind fun qB=>(if qB>0 then (Q1k.l0 k x1 (wrap64 (-x5)) x18 x19 (wrap64 (x20+1)) x554000 x554001 x554002) else (Q1k.l0 k x1 x5 x18 x19 (wrap64 (x20+1)) x554000 x554001 x554002))))))) else (none)) else (none))) else (none)) else (none)) else (some x5)
end
def Q1k.f (k:Nat) (eA:Int) (cA:Int) (fA:Int) (l1:List (S27)):Option (Int):=(Q04.f k (([(⟨eA,cA,fA⟩:S27)]:List (S27)))).bind fun bB=>(if bB=true then ((Q04.f k l1).bind fun yA=>(Q1k.j0 k l1 (!yA) eA cA fA)) else (Q1k.j0 k l1 true eA cA fA))
theorem Q1k.Q1a:∀ k,(∀ y0 y1 y2 y3 y4,LeO (Q1k.j0 k y0 y1 y2 y3 y4) (Q1k.j0 (k+1) y0 y1 y2 y3 y4))∧(∀ y0 y1 y2 y3 y4 y5 y6 y7,LeO (Q1k.l0 k y0 y1 y2 y3 y4 y5 y6 y7) (Q1k.l0 (k+1) y0 y1 y2 y3 y4 y5 y6 y7))
 | 0=>⟨fun _ _ _ _ _ r h=>by simp [Q1k.j0] at h,fun _ _ _ _ _ _ _ _ r h=>by simp [Q1k.l0] at h⟩
 | k+1=>by
  obtain ⟨yF,zF⟩:=Q1k.Q1a k
  refine ⟨?_,?_⟩
  all_goals
   intros
   first|unfold Q1k.j0|unfold Q1k.l0
   repeat' with_reducible first|exact yF _ _ _ _ _|exact zF _ _ _ _ _ _ _ _|exact Q04.mono _ _|exact Q2w.mono _ _ _ _ _ _ _ _ _ _|exact LeO.refl _|exact LeO.none _|refine LeO.ite ?_ ?_|refine LeO.bind ?_ (fun _ => ?_)
theorem Q1k.mono:∀ a0 a1 a2 a3 k,LeO (Q1k.f k a0 a1 a2 a3) (Q1k.f (k+1) a0 a1 a2 a3):=by
 intro a0 a1 a2 a3 k
 obtain ⟨yF,zF⟩:=Q1k.Q1a k
 unfold Q1k.f
 repeat' with_reducible first|exact yF _ _ _ _ _|exact zF _ _ _ _ _ _ _ _|exact Q04.mono _ _|exact Q2w.mono _ _ _ _ _ _ _ _ _ _|exact LeO.refl _|exact LeO.none _|refine LeO.ite ?_ ?_|refine LeO.bind ?_ (fun _ => ?_)
set_option maxHeartbeats 8000000 in
set_option maxRecDepth 100000 in
theorem Q1k.calls (k:Nat) (eA:Int) (cA:Int) (fA:Int) (A1:Option Addr) (c1:Nat) (l1:List (S27)) (r:Int) (w:World) (tG:Kd.C k27 w A1 l1.length l1) (uG:l1.length≤c1) (h:Q1k.f k eA cA fA l1=some r) :
  Calls Try.prog 34 #[.agg #[.int .i64 eA,.int .i64 cA,.int .i64 fA],.slice A1 l1.length c1] w fun e w'=>e=.returned (.int .i64 r)∧Below w.heap.size w w':=by
 have iI:=Try.underlying27
 have aG:=AM tG
 have jI:=AM uG
 clear tG uG
 have HB:=AM (Below.refl w.heap.size w)
 have H:((Q04.f k (([(⟨eA,cA,fA⟩:S27)]:List (S27)))).bind fun bB=>(if bB=true then ((Q04.f k l1).bind fun yA=>(Q1k.j0 k l1 (!yA) eA cA fA)) else (Q1k.j0 k l1 true eA cA fA)))=some r:=h
 clear h
 have bG:=AM H
 clear H
 go_enter Try.func34,Try.ntmps34
 go_upto_region 1 with (first|go_step3|((with_reducible refine Q0i (N:=2) rfl ?_);refine bE 2 #[.int .i64 eA,.int .i64 cA,.int .i64 fA] 27 ?_;intro cB hg w4 hbox hb;have bA:=AM hbox;have bC:=kG HB hg;replace HB:=kH HB hb;have vG:=bC;clear hb hbox hg))
 (try simp only [Act.put,List.setIfInBounds_toArray,List.set_cons_zero,List.set_cons_succ])
 go_cut [17] (fun kI wc=>∃ (kq:Nat) (dB:Bool),kI=.bool dB∧Aside0 (Q1k.j0 kq l1 dB eA cA fA=some r)∧Aside0 (kq≤k)∧Aside0 (wc.heap[cB]? = some (.cells #[.int .i64 eA,.int .i64 cA,.int .i64 fA] 27 (0,0)))∧Aside0 (Below w.heap.size w wc))
 case first =>
  have H:=bG.out;clear bG
  obtain ⟨rB,zA⟩:∃ y_:List (S27),y_=(([(⟨eA,cA,fA⟩:S27)]:List (S27))):=⟨_,rfl⟩
  replace H:((Q04.f k rB).bind fun bB=>(if bB=true then ((Q04.f k l1).bind fun yA=>(Q1k.j0 k l1 (!yA) eA cA fA)) else (Q1k.j0 k l1 true eA cA fA)))=some r:=by first|(rw [zA];with_reducible exact H)|(have cG:=(Option.bind_some _ _).symm.trans H;rw [zA];with_reducible exact cG)|(have cG:=(Option.bind_some _ _).symm.trans H;with_reducible exact cG)|with_reducible exact H|(rw [zA];exact H)|exact H
  have eB:=AM zA
  clear zA
  obtain ⟨bB,A5,H⟩:=bS H
  by_cases c6:bB=true
  ·subst c6
   replace H:=iT H
   obtain ⟨yA,A7,H⟩:=bS H
   have H':=AM H
   clear H;obtain ⟨dG,eG,fG,gG,hG,iG⟩:=c3 bA
   go_wp2_with (first|go_step3|((with_reducible refine Q0i (N:=10) rfl ?_);refine Kd.Q4s k27 _ 27 ?hg (N:=10) ?hd (xs:=([(⟨eA,cA,fA⟩:S27)]:List (S27))) (inner:=[.int .i64 eA,.int .i64 cA,.int .i64 fA]) (ok:=fun _=>True) (okp:=fun _=>True) ?hr ?hp (fun _ hk=>hk) trivial (Below.refl _ _) (Nat.le_refl _) (by simp) ?_;(case hd=>rfl);(case hg=>rfl);(case hr=>first|(go_simp;done)|(go_simp;rfl));(case hp=>exact (Reps.c3 (show Kd.M k27 _ _ _ (⟨eA,cA,fA⟩:S27) [.int .i64 eA,.int .i64 cA,.int .i64 fA] from (Q2o _ _ _ (⟨eA,cA,fA⟩:S27) )) (Reps.none _ _)));intro jG w9 sB hb hg_ hnew_;clear hg_ hnew_;(first|rw [← eB.out] at sB|(simp only [Int.reduceToNat] at sB;rw [← eB.out] at sB));have qA:=AM (Kd.Q1b (Kd.Q2v sB (g:=cB) (o:=.cells #[.int .i64 eA,.int .i64 cA,.int .i64 fA] 27 (0,0)) (bK bA)) (Q0h (bH HB)));replace bA:=kB bA hb;replace HB:=kH HB hb;clear hb sB;obtain ⟨lG,mG,nG⟩:=Kd.Q01 qA.out;subst nG)|((with_reducible refine Q0n (f:=32) rfl ?_);refine gL (some 11) Try.func32 #[.slice lG rB.length mG] ?_;(with_reducible refine (Q04.calls k _ _ rB true _ ?side1 ?side2 A5.out).mono ?_);(case side1=>exact sR qA);(case side2=>exact (Kd.Q0w qA.out).2.1);rintro e pI ⟨rfl,hb⟩;refine ⟨_,rfl,?_⟩;replace qA:=kR qA hb;replace bA:=kB bA hb;replace HB:=kH HB hb;clear hb)|(go_at_call 32;(with_reducible refine (Q04.calls k _ _ l1 yA _ ?side1 ?side2 A7.out).mono ?_);(case side1=>exact sC aG HB);(case side2=>exact jI.out);rintro e qI ⟨rfl,hb⟩;replace qA:=kR qA hb;replace bA:=kB bA hb;replace HB:=kH HB hb;clear hb))
   go_meet
   case rel=>exact ⟨_,(!yA),rS,H',⟨by first|omega|exact Nat.le_refl _⟩,⟨bK bA⟩,⟨ bH HB⟩⟩
  ·replace c6:=Bool.eq_false_iff.mpr c6
   subst c6
   replace H:=iF H
   have H':=AM H
   clear H;obtain ⟨lC,mC,nC,oC,pC,qC⟩:=c3 bA
   go_wp2_with (first|go_step3|((with_reducible refine Q0i (N:=10) rfl ?_);refine Kd.Q4s k27 _ 27 ?hg (N:=10) ?hd (xs:=([(⟨eA,cA,fA⟩:S27)]:List (S27))) (inner:=[.int .i64 eA,.int .i64 cA,.int .i64 fA]) (ok:=fun _=>True) (okp:=fun _=>True) ?hr ?hp (fun _ hk=>hk) trivial (Below.refl _ _) (Nat.le_refl _) (by simp) ?_;(case hd=>rfl);(case hg=>rfl);(case hr=>first|(go_simp;done)|(go_simp;rfl));(case hp=>exact (Reps.c3 (show Kd.M k27 _ _ _ (⟨eA,cA,fA⟩:S27) [.int .i64 eA,.int .i64 cA,.int .i64 fA] from (Q2o _ _ _ (⟨eA,cA,fA⟩:S27) )) (Reps.none _ _)));intro jG rI tB hb hg_ hnew_;clear hg_ hnew_;(first|rw [← eB.out] at tB|(simp only [Int.reduceToNat] at tB;rw [← eB.out] at tB));have qA:=AM (Kd.Q1b (Kd.Q2v tB (g:=cB) (o:=.cells #[.int .i64 eA,.int .i64 cA,.int .i64 fA] 27 (0,0)) (bK bA)) (Q0h (bH HB)));replace bA:=kB bA hb;replace HB:=kH HB hb;clear hb tB;obtain ⟨oG,pG,qG⟩:=Kd.Q01 qA.out;subst qG)|((with_reducible refine Q0n (f:=32) rfl ?_);refine gL (some 11) Try.func32 #[.slice oG rB.length pG] ?_;(with_reducible refine (Q04.calls k _ _ rB false _ ?side1 ?side2 A5.out).mono ?_);(case side1=>exact sR qA);(case side2=>exact (Kd.Q0w qA.out).2.1);rintro e sI ⟨rfl,hb⟩;refine ⟨_,rfl,?_⟩;replace qA:=kR qA hb;replace bA:=kB bA hb;replace HB:=kH HB hb;clear hb))
   go_meet
   case rel=>exact ⟨_,(true),rS,H',⟨by first|omega|exact Nat.le_refl _⟩,⟨bK bA⟩,⟨ bH HB⟩⟩
 case rest =>
  clear bG
  obtain ⟨kq,dB,rfl,HA,vB,bA,HB⟩:=hcut
  cases kq with
  | zero=>exact absurd HA.out (by simp [Q1k.j0])
  | succ kj2 =>
   have H:=HA.out;clear HA
   simp only [Q1k.j0] at H
   by_cases rC:dB=true
   ·subst rC
    replace H:=iT H
    obtain rfl:=Option.some.inj H
    go_wp2_with (go_step3)
    (try rw [Exit.noGoto_ret])
    go_ret
    exact ⟨rE,bH HB⟩
   ·replace rC:=Bool.eq_false_iff.mpr rC
    subst rC
    replace H:=iF H
    have H':=AM H
    clear H
    go_wp2_with (go_step3)
    go_loopg [5,20] kj2 (fun kq v5 lI w'=>∃ (wA:Int) (aA:Int),v5=.int .i64 wA∧lI=.int .i64 aA∧Aside0 (Q1k.l0 kq l1 wA l1 (l1.length:Int) aA eA cA fA=some r)∧Aside0 (kq≤kj2)∧Aside0 (w'.heap[cB]? = some (.cells #[.int .i64 eA,.int .i64 cA,.int .i64 fA] 27 (0,0)))∧Aside0 (Below w.heap.size w w'))
    case atStart=>exact ⟨((-1)),(0),rS,rS,H',⟨Nat.le_refl _⟩,⟨bK bA⟩,⟨ bH HB⟩⟩
    case round =>
     clear H'
     obtain ⟨wA,aA,rfl,rfl,HA,wB,bA,HB⟩:=hrel
     cases gk with
     | zero=>exact absurd HA.out (by simp [Q1k.l0])
     | succ k2 =>
      have H:=HA.out;clear HA
      simp only [Q1k.l0] at H
      apply iC H<;>clear H<;>intro wG H
      ·apply iN H;clear H;intro xG H
       ·apply iN H;clear H;intro yG H
        ·by_cases cC:(l1.length:Int)=0
         ·rw [if_pos cC] at H
          exact absurd H (by simp)
         ·rw [if_neg cC] at H
          have zG:((l1.length:Int)==0)=false:=beq_eq_false_iff_ne.mpr cC
          have aH:((l1.length:Int) != 0)=true:=bne_iff_ne.mpr cC
          have cH:¬ (l1=[]):=fun h_=>cC (by rw [h_];rfl)
          obtain ⟨dA,xA⟩:∃ j_:Int,(Int.tmod (wrap64 (aA+1)) (l1.length:Int))=j_:=⟨_,rfl⟩
          replace H:(if 0≤(dA) then (if (dA)<(l1.length:Int) then ((Q5e.f eA cA fA ((Q0a l1 aA).f0) ((Q0a l1 aA).f1) ((Q0a l1 aA).f2) ((Q0a l1 (dA)).f0) ((Q0a l1 (dA)).f1) ((Q0a l1 (dA)).f2)).bind fun oB=>(if oB=true then (some 0) else (if ((decide (((Q0a l1 aA).f1)>cA))==(decide (((Q0a l1 (dA)).f1)>cA)))=true then (Q1k.l0 k2 l1 wA l1 (l1.length:Int) (wrap64 (aA+1)) eA cA fA) else (if ((Q0a l1 (dA)).f1)<((Q0a l1 aA).f1) then ((Q2w.f k2 ((Q0a l1 (dA)).f0) ((Q0a l1 (dA)).f1) ((Q0a l1 (dA)).f2) ((Q0a l1 aA).f0) ((Q0a l1 aA).f1) ((Q0a l1 aA).f2) eA cA fA).bind fun pB=>(if pB>0 then (Q1k.l0 k2 l1 (wrap64 (-wA)) l1 (l1.length:Int) (wrap64 (aA+1)) eA cA fA) else (Q1k.l0 k2 l1 wA l1 (l1.length:Int) (wrap64 (aA+1)) eA cA fA))) else ((Q2w.f k2 ((Q0a l1 aA).f0) ((Q0a l1 aA).f1) ((Q0a l1 aA).f2) ((Q0a l1 (dA)).f0) ((Q0a l1 (dA)).f1) ((Q0a l1 (dA)).f2) eA cA fA).bind fun qB=>(if qB>0 then (Q1k.l0 k2 l1 (wrap64 (-wA)) l1 (l1.length:Int) (wrap64 (aA+1)) eA cA fA) else (Q1k.l0 k2 l1 wA l1 (l1.length:Int) (wrap64 (aA+1)) eA cA fA))))))) else (none)) else (none))=some r:=by first|(rw [xA] at H;exact H)|(simp only [xA] at H ⊢;exact H)
          apply iN H;clear H;intro dH H
          ·apply iN H;clear H;intro eH H
           ·obtain ⟨oB,mI,H⟩:=bS H
            have dC:=AM H
            clear H
            have xB:0≤(aA:Int):=pD
            have yB:aA<(l1.length:Int):=pD
            obtain ⟨fB,rG,gB,hB,iB⟩:=Q2i aG.out aA xB yB
            cases rG
            replace gB:=hW HB gB;replace hB:=hW HB hB;replace iB:=hW HB iB;replace xB:=eq_true xB;replace yB:=eq_true yB
            go_upto_if 36 with (first|go_step3|((with_reducible refine Q0i (N:=7) rfl ?_);refine bE 7 #[.int .i64 0,.int .i64 0,.int .i64 0] 27 ?_;intro hA hg tI hbox hb;have nA:=AM hbox;have jB:=kG HB hg;replace HB:=kH HB hb;have fH:=jB;have rA:=kN bA hg;have sA:=kM bA hg;replace bA:=kB bA hb;clear hb hbox hg;have gH:=sA.out;have hH:=rA.out;obtain ⟨tC,uC,vC,wC,xC,yC⟩:=c3 nA;have zB:0≤((dA):Int):=pD;have aC:(dA)<(l1.length:Int):=pD;obtain ⟨eC,sG,gA,oA,pA⟩:=Q2i aG.out (dA) zB aC;obtain rfl:fB=eC:=(by injection sG);have kA:fB.block≠hA:=Nat.ne_of_lt (Nat.lt_of_lt_of_le (by have:=World.block_lt_of_cell? _ _ gA;first|rwa [add_block] at this|exact this) jB.out);have lA:fB.block≠hA:=Nat.ne_of_lt (Nat.lt_of_lt_of_le (by have:=World.block_lt_of_cell? _ _ gA;first|rwa [add_block] at this|exact this) jB.out);have mA:fB.block≠hA:=Nat.ne_of_lt (Nat.lt_of_lt_of_le (by have:=World.block_lt_of_cell? _ _ gA;first|rwa [add_block] at this|exact this) jB.out);replace gA:=hW HB gA;replace oA:=hW HB oA;replace pA:=hW HB pA;replace gA:=(cell_far (p:=⟨hA,0,none⟩) (by first|(rw [add_block];exact kA)|(show (Addr.add _ _).block≠_;rw [add_block];exact kA)|exact kA) (.int .i64 ((Q0a l1 aA).f0))).trans gA;replace oA:=(cell_far (p:=⟨hA,0,none⟩) (by first|(rw [add_block];exact kA)|(show (Addr.add _ _).block≠_;rw [add_block];exact kA)|exact kA) (.int .i64 ((Q0a l1 aA).f0))).trans oA;replace pA:=(cell_far (p:=⟨hA,0,none⟩) (by first|(rw [add_block];exact kA)|(show (Addr.add _ _).block≠_;rw [add_block];exact kA)|exact kA) (.int .i64 ((Q0a l1 aA).f0))).trans pA;replace gA:=(cell_far (p:=⟨hA,1,none⟩) (by first|(rw [add_block];exact lA)|(show (Addr.add _ _).block≠_;rw [add_block];exact lA)|exact lA) (.int .i64 ((Q0a l1 aA).f1))).trans gA;replace oA:=(cell_far (p:=⟨hA,1,none⟩) (by first|(rw [add_block];exact lA)|(show (Addr.add _ _).block≠_;rw [add_block];exact lA)|exact lA) (.int .i64 ((Q0a l1 aA).f1))).trans oA;replace pA:=(cell_far (p:=⟨hA,1,none⟩) (by first|(rw [add_block];exact lA)|(show (Addr.add _ _).block≠_;rw [add_block];exact lA)|exact lA) (.int .i64 ((Q0a l1 aA).f1))).trans pA;replace gA:=(cell_far (p:=⟨hA,2,none⟩) (by first|(rw [add_block];exact mA)|(show (Addr.add _ _).block≠_;rw [add_block];exact mA)|exact mA) (.int .i64 ((Q0a l1 aA).f2))).trans gA;replace oA:=(cell_far (p:=⟨hA,2,none⟩) (by first|(rw [add_block];exact mA)|(show (Addr.add _ _).block≠_;rw [add_block];exact mA)|exact mA) (.int .i64 ((Q0a l1 aA).f2))).trans oA;replace pA:=(cell_far (p:=⟨hA,2,none⟩) (by first|(rw [add_block];exact mA)|(show (Addr.add _ _).block≠_;rw [add_block];exact mA)|exact mA) (.int .i64 ((Q0a l1 aA).f2))).trans pA;clear kA;clear lA;clear mA;replace zB:=eq_true zB;replace aC:=eq_true aC)|((with_reducible refine Q0i (N:=8) rfl ?_);refine bE 8 #[.int .i64 0,.int .i64 0,.int .i64 0] 27 ?_;intro lB hg uI hbox hb;have vA:=AM hbox;have fC:=kG HB hg;replace HB:=kH HB hb;have iH:=fC;have tA:=kN bA hg;have uA:=kM bA hg;replace bA:=kB bA hb;have iA:=AM (by rw [hg];exact Nat.ne_of_lt (Q25 (g:=hA) (o:=.cells #[.int .i64 ((Q0a l1 aA).f0),.int .i64 ((Q0a l1 aA).f1),.int .i64 ((Q0a l1 aA).f2)] 27 (0,0)) (by (with_reducible repeat (first|refine Q0c ?_ _|refine Q0d ?_|refine Q0b ?_ _));refine Q0u (cs:=#[.int .i64 ((Q0a l1 aA).f0),.int .i64 ((Q0a l1 aA).f1),.int .i64 0]) ?_ 2 _ rfl;(with_reducible repeat (first|refine Q0c ?_ _|refine Q0d ?_|refine Q0b ?_ _));refine Q0u (cs:=#[.int .i64 ((Q0a l1 aA).f0),.int .i64 0,.int .i64 0]) ?_ 1 _ rfl;(with_reducible repeat (first|refine Q0c ?_ _|refine Q0d ?_|refine Q0b ?_ _));refine Q0u (cs:=#[.int .i64 0,.int .i64 0,.int .i64 0]) ?_ 0 _ rfl;(with_reducible repeat (first|refine Q0c ?_ _|refine Q0d ?_|refine Q0b ?_ _));exact nA.out)):hA≠lB);have jA:=AM (by rw [hg];exact Nat.ne_of_gt (Q25 (g:=hA) (o:=.cells #[.int .i64 ((Q0a l1 aA).f0),.int .i64 ((Q0a l1 aA).f1),.int .i64 ((Q0a l1 aA).f2)] 27 (0,0)) (by (with_reducible repeat (first|refine Q0c ?_ _|refine Q0d ?_|refine Q0b ?_ _));refine Q0u (cs:=#[.int .i64 ((Q0a l1 aA).f0),.int .i64 ((Q0a l1 aA).f1),.int .i64 0]) ?_ 2 _ rfl;(with_reducible repeat (first|refine Q0c ?_ _|refine Q0d ?_|refine Q0b ?_ _));refine Q0u (cs:=#[.int .i64 ((Q0a l1 aA).f0),.int .i64 0,.int .i64 0]) ?_ 1 _ rfl;(with_reducible repeat (first|refine Q0c ?_ _|refine Q0d ?_|refine Q0b ?_ _));refine Q0u (cs:=#[.int .i64 0,.int .i64 0,.int .i64 0]) ?_ 0 _ rfl;(with_reducible repeat (first|refine Q0c ?_ _|refine Q0d ?_|refine Q0b ?_ _));exact nA.out)):lB≠hA);replace nA:=AM (Q1p (g:=hA) (o:=.cells #[.int .i64 ((Q0a l1 aA).f0),.int .i64 ((Q0a l1 aA).f1),.int .i64 ((Q0a l1 aA).f2)] 27 (0,0)) (by (with_reducible repeat (first|refine Q0c ?_ _|refine Q0d ?_|refine Q0b ?_ _));refine Q0u (cs:=#[.int .i64 ((Q0a l1 aA).f0),.int .i64 ((Q0a l1 aA).f1),.int .i64 0]) ?_ 2 _ rfl;(with_reducible repeat (first|refine Q0c ?_ _|refine Q0d ?_|refine Q0b ?_ _));refine Q0u (cs:=#[.int .i64 ((Q0a l1 aA).f0),.int .i64 0,.int .i64 0]) ?_ 1 _ rfl;(with_reducible repeat (first|refine Q0c ?_ _|refine Q0d ?_|refine Q0b ?_ _));refine Q0u (cs:=#[.int .i64 0,.int .i64 0,.int .i64 0]) ?_ 0 _ rfl;(with_reducible repeat (first|refine Q0c ?_ _|refine Q0d ?_|refine Q0b ?_ _));exact nA.out) hb);clear hb hbox hg;have jH:=uA.out;have lH:=tA.out;have mH:=jA.out;have nH:=iA.out;obtain ⟨zC,aD,bD,cD,dD,eD⟩:=c3 vA;obtain ⟨fD,gD,hD,iD,jD,kD⟩:=c3 bA;obtain ⟨lD,mD,nD,oD,qD,rD⟩:=c3 nA)|((with_reducible refine Q0n (f:=59) rfl ?_);refine goesL_ (some 36) rfl rfl Try.func59 (by kernel_rfl) rfl #[.agg #[.int .i64 eA,.int .i64 cA,.int .i64 fA],.agg #[.int .i64 ((Q0a l1 aA).f0),.int .i64 ((Q0a l1 aA).f1),.int .i64 ((Q0a l1 aA).f2)],.agg #[.int .i64 ((Q0a l1 (dA)).f0),.int .i64 ((Q0a l1 (dA)).f1),.int .i64 ((Q0a l1 (dA)).f2)]] rfl (by (try simp only [List.map_toArray,List.map_cons,List.map_nil]);first|done|(simp only [xA];rfl)|rfl|(simp only [List.length_drop,List.length_take];rfl)) ?_;(with_reducible refine (Q5e.calls eA cA fA ((Q0a l1 aA).f0) ((Q0a l1 aA).f1) ((Q0a l1 aA).f2) ((Q0a l1 (dA)).f0) ((Q0a l1 (dA)).f1) ((Q0a l1 (dA)).f2) oB _ mI.out).mono ?_);rintro e vI ⟨rfl,hb⟩;refine ⟨_,rfl,?_⟩;replace bA:=kB bA hb;replace nA:=kB nA hb;replace vA:=AM (Q1p (g:=lB) (o:=.cells #[.int .i64 ((Q0a l1 (dA)).f0),.int .i64 ((Q0a l1 (dA)).f1),.int .i64 ((Q0a l1 (dA)).f2)] 27 (0,0)) (by (with_reducible repeat (first|refine Q0c ?_ _|refine Q0d ?_|refine Q0b ?_ _));refine Q0u (cs:=#[.int .i64 ((Q0a l1 (dA)).f0),.int .i64 ((Q0a l1 (dA)).f1),.int .i64 0]) ?_ 2 _ rfl;(with_reducible repeat (first|refine Q0c ?_ _|refine Q0d ?_|refine Q0b ?_ _));refine Q0u (cs:=#[.int .i64 ((Q0a l1 (dA)).f0),.int .i64 0,.int .i64 0]) ?_ 1 _ rfl;(with_reducible repeat (first|refine Q0c ?_ _|refine Q0d ?_|refine Q0b ?_ _));refine Q0u (cs:=#[.int .i64 0,.int .i64 0,.int .i64 0]) ?_ 0 _ rfl;(with_reducible repeat (first|refine Q0c ?_ _|refine Q0d ?_|refine Q0b ?_ _));exact vA.out) hb);replace HB:=kH HB hb;clear hb))
            (try simp only [Act.put,List.setIfInBounds_toArray,List.set_cons_zero,List.set_cons_succ])
            have H:=dC.out;clear dC
            by_cases sD:oB=true
            ·subst sD
             replace H:=iT H
             obtain rfl:=Option.some.inj H
             go_wp2_with (go_step3)
             (try rw [Exit.noGoto_ret])
             go_ret
             exact ⟨by first|rfl|(simp [Q24,Q23]<;>rfl)|(simp only [← xA];first|rfl|(simp [Q24,Q23]<;>rfl))|(simp [*,Q24,Q23]<;>rfl),bH HB⟩
            ·replace sD:=Bool.eq_false_iff.mpr sD
             subst sD
             replace H:=iF H
             by_cases uB:((decide (((Q0a l1 aA).f1)>cA))==(decide (((Q0a l1 (dA)).f1)>cA)))=true
             ·rw [if_pos uB] at H
              have aB:((decide (((Q0a l1 aA).f1)>cA))==(decide (((Q0a l1 (dA)).f1)>cA)))=true:=uB
              (try (have gC:decide ((decide (((Q0a l1 aA).f1)>cA))=(decide (((Q0a l1 (dA)).f1)>cA)))=true:=by simpa using uB))
              (try (have hC:((decide (((Q0a l1 aA).f1)>cA))==(decide (((Q0a l1 (dA)).f1)>cA)))=true:=by simpa using uB))
              clear uB
              (first|rw [aB]|(simp only [Q1r,Q13];rw [aB])|skip)
              have H':=AM H
              clear H;have oH:=sA.out;have pH:=rA.out;have qH:=iA.out;have rH:=jA.out;obtain ⟨tD,uD,vD,wD,xD,yD⟩:=c3 nA;have sH:=tA.out;have tH:=uA.out;obtain ⟨zD,aE,cE,dE,eE,fE⟩:=c3 bA;obtain ⟨gE,hE,iE,jE,kE,lE⟩:=c3 vA
              go_wp2_with (go_step3)
              go_roundg k2
              case measure=>have:=vB.out;have:=wB.out;omega
              case rel=>exact ⟨(wA),(wrap64 (aA+1)),rS,rS,H',⟨by have:=vB.out;have:=wB.out;omega⟩,⟨bK bA⟩,⟨ bH HB⟩⟩
             ·rw [if_neg uB] at H
              have aB:((decide (((Q0a l1 aA).f1)>cA))==(decide (((Q0a l1 (dA)).f1)>cA)))=false:=by simpa using uB
              (try (have gC:decide ((decide (((Q0a l1 aA).f1)>cA))=(decide (((Q0a l1 (dA)).f1)>cA)))=false:=by simpa using uB))
              (try (have hC:((decide (((Q0a l1 aA).f1)>cA))==(decide (((Q0a l1 (dA)).f1)>cA)))=false:=by simpa using uB))
              (try (have uH:¬ ((decide (((Q0a l1 aA).f1)>cA))=(decide (((Q0a l1 (dA)).f1)>cA))):=by simpa using uB))
              clear uB
              (first|rw [aB]|(simp only [Q1r,Q13];rw [aB])|skip)
              apply iC H<;>clear H<;>intro vH H
              ·obtain ⟨pB,nI,H⟩:=bS H
               have jC:=AM H
               clear H;have wH:=sA.out;have xH:=rA.out;have yH:=iA.out;have zH:=jA.out;obtain ⟨mE,nE,oE,pE,qE,sE⟩:=c3 nA;have aI:=tA.out;have bI:=uA.out;obtain ⟨tE,uE,vE,wE,xE,yE⟩:=c3 bA;obtain ⟨zE,aF,bF,cF,dF,eF⟩:=c3 vA
               go_upto_if 59 with (first|go_step3|((with_reducible refine Q0n (f:=60) rfl ?_);refine goesL_ (some 58) rfl rfl Try.func60 (by kernel_rfl) rfl #[.agg #[.int .i64 ((Q0a l1 (dA)).f0),.int .i64 ((Q0a l1 (dA)).f1),.int .i64 ((Q0a l1 (dA)).f2)],.agg #[.int .i64 ((Q0a l1 aA).f0),.int .i64 ((Q0a l1 aA).f1),.int .i64 ((Q0a l1 aA).f2)],.agg #[.int .i64 eA,.int .i64 cA,.int .i64 fA]] rfl (by (try simp only [List.map_toArray,List.map_cons,List.map_nil]);first|done|(simp only [xA];rfl)|rfl|(simp only [List.length_drop,List.length_take];rfl)) ?_;(with_reducible refine (Q2w.calls k2 ((Q0a l1 (dA)).f0) ((Q0a l1 (dA)).f1) ((Q0a l1 (dA)).f2) ((Q0a l1 aA).f0) ((Q0a l1 aA).f1) ((Q0a l1 aA).f2) eA cA fA pB _ nI.out).mono ?_);rintro e wI ⟨rfl,hb⟩;refine ⟨_,rfl,?_⟩;replace bA:=kB bA hb;replace nA:=AM (Q1p (g:=hA) (o:=.cells #[.int .i64 ((Q0a l1 (dA)).f0),.int .i64 ((Q0a l1 (dA)).f1),.int .i64 ((Q0a l1 (dA)).f2)] 27 (0,0)) (by (with_reducible repeat (first|refine Q0c ?_ _|refine Q0d ?_|refine Q0b ?_ _));refine Q2f ?_ iA.out _;(with_reducible repeat (first|refine Q0c ?_ _|refine Q0d ?_|refine Q0b ?_ _));refine Q2f ?_ iA.out _;(with_reducible repeat (first|refine Q0c ?_ _|refine Q0d ?_|refine Q0b ?_ _));refine Q2f ?_ iA.out _;(with_reducible repeat (first|refine Q0c ?_ _|refine Q0d ?_|refine Q0b ?_ _));refine Q0u (cs:=#[.int .i64 ((Q0a l1 (dA)).f0),.int .i64 ((Q0a l1 (dA)).f1),.int .i64 ((Q0a l1 aA).f2)]) ?_ 2 _ rfl;(with_reducible repeat (first|refine Q0c ?_ _|refine Q0d ?_|refine Q0b ?_ _));refine Q0u (cs:=#[.int .i64 ((Q0a l1 (dA)).f0),.int .i64 ((Q0a l1 aA).f1),.int .i64 ((Q0a l1 aA).f2)]) ?_ 1 _ rfl;(with_reducible repeat (first|refine Q0c ?_ _|refine Q0d ?_|refine Q0b ?_ _));refine Q0u (cs:=#[.int .i64 ((Q0a l1 aA).f0),.int .i64 ((Q0a l1 aA).f1),.int .i64 ((Q0a l1 aA).f2)]) ?_ 0 _ rfl;(with_reducible repeat (first|refine Q0c ?_ _|refine Q0d ?_|refine Q0b ?_ _));exact nA.out) hb);replace vA:=AM (Q1p (g:=lB) (o:=.cells #[.int .i64 ((Q0a l1 aA).f0),.int .i64 ((Q0a l1 aA).f1),.int .i64 ((Q0a l1 aA).f2)] 27 (0,0)) (by (with_reducible repeat (first|refine Q0c ?_ _|refine Q0d ?_|refine Q0b ?_ _));refine Q0u (cs:=#[.int .i64 ((Q0a l1 aA).f0),.int .i64 ((Q0a l1 aA).f1),.int .i64 ((Q0a l1 (dA)).f2)]) ?_ 2 _ rfl;(with_reducible repeat (first|refine Q0c ?_ _|refine Q0d ?_|refine Q0b ?_ _));refine Q0u (cs:=#[.int .i64 ((Q0a l1 aA).f0),.int .i64 ((Q0a l1 (dA)).f1),.int .i64 ((Q0a l1 (dA)).f2)]) ?_ 1 _ rfl;(with_reducible repeat (first|refine Q0c ?_ _|refine Q0d ?_|refine Q0b ?_ _));refine Q0u (cs:=#[.int .i64 ((Q0a l1 (dA)).f0),.int .i64 ((Q0a l1 (dA)).f1),.int .i64 ((Q0a l1 (dA)).f2)]) ?_ 0 _ rfl;(with_reducible repeat (first|refine Q0c ?_ _|refine Q0d ?_|refine Q0b ?_ _));refine Q2f ?_ jA.out _;(with_reducible repeat (first|refine Q0c ?_ _|refine Q0d ?_|refine Q0b ?_ _));refine Q2f ?_ jA.out _;(with_reducible repeat (first|refine Q0c ?_ _|refine Q0d ?_|refine Q0b ?_ _));refine Q2f ?_ jA.out _;(with_reducible repeat (first|refine Q0c ?_ _|refine Q0d ?_|refine Q0b ?_ _));exact vA.out) hb);replace HB:=kH HB hb;clear hb))
               (try simp only [Act.put,List.setIfInBounds_toArray,List.set_cons_zero,List.set_cons_succ])
               have H:=jC.out;clear jC
               apply iC H<;>clear H<;>intro mB H
               ·(first|rw [mB]|(simp only [Q1r,Q13];rw [mB])|skip)
                have H':=AM H
                clear H
                go_wp2_with (go_step3)
                go_roundg k2
                case measure=>have:=vB.out;have:=wB.out;omega
                case rel=>exact ⟨(wrap64 (-wA)),(wrap64 (aA+1)),rS,rS,H',⟨by have:=vB.out;have:=wB.out;omega⟩,⟨bK bA⟩,⟨ bH HB⟩⟩
               ·(first|rw [mB]|(simp only [Q1r,Q13];rw [mB])|skip)
                have H':=AM H
                clear H
                go_wp2_with (go_step3)
                go_roundg k2
                case measure=>have:=vB.out;have:=wB.out;omega
                case rel=>exact ⟨(wA),(wrap64 (aA+1)),rS,rS,H',⟨by have:=vB.out;have:=wB.out;omega⟩,⟨bK bA⟩,⟨ bH HB⟩⟩
              ·obtain ⟨qB,oI,H⟩:=bS H
               have kC:=AM H
               clear H;have cI:=sA.out;have dI:=rA.out;have eI:=iA.out;have fI:=jA.out;obtain ⟨fF,gF,hF,jF,kF,lF⟩:=c3 nA;have gI:=tA.out;have hI:=uA.out;obtain ⟨mF,nF,oF,pF,qF,rF⟩:=c3 bA;obtain ⟨sF,tF,uF,vF,wF,xF⟩:=c3 vA
               go_upto_if 59 with (first|go_step3|((with_reducible refine Q0n (f:=60) rfl ?_);refine goesL_ (some 58) rfl rfl Try.func60 (by kernel_rfl) rfl #[.agg #[.int .i64 ((Q0a l1 aA).f0),.int .i64 ((Q0a l1 aA).f1),.int .i64 ((Q0a l1 aA).f2)],.agg #[.int .i64 ((Q0a l1 (dA)).f0),.int .i64 ((Q0a l1 (dA)).f1),.int .i64 ((Q0a l1 (dA)).f2)],.agg #[.int .i64 eA,.int .i64 cA,.int .i64 fA]] rfl (by (try simp only [List.map_toArray,List.map_cons,List.map_nil]);first|done|(simp only [xA];rfl)|rfl|(simp only [List.length_drop,List.length_take];rfl)) ?_;(with_reducible refine (Q2w.calls k2 ((Q0a l1 aA).f0) ((Q0a l1 aA).f1) ((Q0a l1 aA).f2) ((Q0a l1 (dA)).f0) ((Q0a l1 (dA)).f1) ((Q0a l1 (dA)).f2) eA cA fA qB _ oI.out).mono ?_);rintro e xI ⟨rfl,hb⟩;refine ⟨_,rfl,?_⟩;replace bA:=kB bA hb;replace nA:=kB nA hb;replace vA:=kB vA hb;replace HB:=kH HB hb;clear hb))
               (try simp only [Act.put,List.setIfInBounds_toArray,List.set_cons_zero,List.set_cons_succ])
               have H:=kC.out;clear kC
               apply iC H<;>clear H<;>intro nB H
               ·(first|rw [nB]|(simp only [Q1r,Q13];rw [nB])|skip)
                have H':=AM H
                clear H
                go_wp2_with (go_step3)
                go_roundg k2
                case measure=>have:=vB.out;have:=wB.out;omega
                case rel=>exact ⟨(wrap64 (-wA)),(wrap64 (aA+1)),rS,rS,H',⟨by have:=vB.out;have:=wB.out;omega⟩,⟨bK bA⟩,⟨ bH HB⟩⟩
               ·(first|rw [nB]|(simp only [Q1r,Q13];rw [nB])|skip)
                have H':=AM H
                clear H
                go_wp2_with (go_step3)
                go_roundg k2
                case measure=>have:=vB.out;have:=wB.out;omega
                case rel=>exact ⟨(wA),(wrap64 (aA+1)),rS,rS,H',⟨by have:=vB.out;have:=wB.out;omega⟩,⟨bK bA⟩,⟨ bH HB⟩⟩
      ·obtain rfl:=Option.some.inj H
       go_wp2_with (go_step3)
       (try rw [Exit.noGoto_ret])
       go_ret
       exact ⟨rE,bH HB⟩

def Q1x.l0:Nat→List (S27)→List (S27)→Int→Int→Int→Int→Option (Int×Int)
 | 0,_,_,_,_,_,_=>none
 | k+1,x0,x13,x14,x15,x656000,x656001=>if x15<x14 then (if 0≤x15 then (if x15<(x13.length:Int) then (if (x0.length:Int)=0 then (none) else (if 0≤(Int.tmod (wrap64 (x15+1)) (x0.length:Int)) then (if (Int.tmod (wrap64 (x15+1)) (x0.length:Int))<(x0.length:Int) then ((Q1n.f k (([(Q0a x13 x15).f0,(Q0a x0 (Int.tmod (wrap64 (x15+1)) (x0.length:Int))).f1,wrap64 (-((Q0a x13 x15).f1)),(Q0a x0 (Int.tmod (wrap64 (x15+1)) (x0.length:Int))).f0]:List Int))).bind fun tA=>((Q1l.f k x656000 x656001 (([(⟨tA.1,tA.2.1⟩:S50)]:List (S50)))).bind fun pA=>(Q1x.l0 k x0 x13 x14 (wrap64 (x15+1)) pA.1 pA.2))) else (none)) else (none))) else (none)) else (none)) else (some (x656000,x656001))
def Q1x.f (k:Nat) (l0:List (S27)):Option (Int×Int):=(Q04.f k l0).bind fun hB=>(if hB=true then (Q1x.l0 k l0 l0 (l0.length:Int) 0 0 0) else (some (0,0)))
theorem Q1x.Q1a:∀ k,(∀ y0 y1 y2 y3 y4 y5,LeO (Q1x.l0 k y0 y1 y2 y3 y4 y5) (Q1x.l0 (k+1) y0 y1 y2 y3 y4 y5))
 | 0=>fun _ _ _ _ _ _ r h=>by simp [Q1x.l0] at h
 | k+1=>by
  have xE:=Q1x.Q1a k
  ·intro y0 y1 y2 y3 y4 y5
   unfold Q1x.l0
   repeat' with_reducible first|exact xE _ _ _ _ _ _|exact Q04.mono _ _|exact Q1l.mono _ _ _ _|exact Q1n.mono _ _|exact LeO.refl _|exact LeO.none _|refine LeO.ite ?_ ?_|refine LeO.bind ?_ (fun _ => ?_)
theorem Q1x.mono:∀ a0 k,LeO (Q1x.f k a0) (Q1x.f (k+1) a0):=by
 intro a0 k
 have xE:=Q1x.Q1a k
 unfold Q1x.f
 repeat' with_reducible first|exact xE _ _ _ _ _ _|exact Q04.mono _ _|exact Q1l.mono _ _ _ _|exact Q1n.mono _ _|exact LeO.refl _|exact LeO.none _|refine LeO.ite ?_ ?_|refine LeO.bind ?_ (fun _ => ?_)
set_option maxHeartbeats 8000000 in
set_option maxRecDepth 100000 in
theorem Q1x.calls (k:Nat) (A0:Option Addr) (c0:Nat) (l0:List (S27)) (r1:Int) (r2:Int) (w:World) (jF:Kd.C k27 w A0 l0.length l0) (kF:l0.length≤c0) (h:Q1x.f k l0=some (r1,r2)) :
  Calls Try.prog 46 #[.slice A0 l0.length c0] w fun e w'=>e=.returned (.agg #[.int .i64 r1,.int .u64 r2])∧Below w.heap.size w w':=by
 have xG:=Try.underlying50
 have yG:=Try.underlying27
 have yE:=AM jF
 have zG:=AM kF
 clear jF kF
 have HB:=AM (Below.refl w.heap.size w)
 have H:((Q04.f k l0).bind fun hB=>(if hB=true then (Q1x.l0 k l0 l0 (l0.length:Int) 0 0 0) else (some (0,0))))=some (r1,r2):=h
 clear h
 obtain ⟨hB,A2,H⟩:=bS H
 have lF:=AM H
 clear H
 go_enter Try.func46,Try.ntmps46
 go_upto_if 11 with (first|((with_reducible refine Q0i (N:=2) rfl ?_);refine bE 2 #[.int .i64 0,.int .u64 0] 50 ?_;intro aB hg w4 hbox hb;have bA:=AM hbox;have tC:=kG HB hg;replace HB:=kH HB hb;have mF:=tC;clear hb hbox hg)|((with_reducible refine Q0i (N:=3) rfl ?_);refine bE 3 #[.int .i64 0,.int .u64 0] 50 ?_;intro fC hg w5 hbox hb;have cA:=AM hbox;have uC:=kG HB hg;replace HB:=kH HB hb;have nF:=uC;have rA:=kN bA hg;have sA:=kM bA hg;replace bA:=kB bA hb;clear hb hbox hg)|((with_reducible refine Q0n (f:=32) rfl ?_);refine gL (some 10) Try.func32 #[.slice A0 l0.length c0] ?_;(with_reducible refine (Q04.calls k _ _ l0 hB _ ?side1 ?side2 A2.out).mono ?_);(case side1=>exact sC yE HB);(case side2=>exact zG.out);rintro e w6 ⟨rfl,hb⟩;refine ⟨_,rfl,?_⟩;replace bA:=kB bA hb;replace cA:=kB cA hb;replace HB:=kH HB hb;clear hb))
 (try simp only [Act.put,List.setIfInBounds_toArray,List.set_cons_zero,List.set_cons_succ])
 have H:=lF.out;clear lF
 by_cases c7:hB=true
 ·subst c7
  replace H:=iT H
  have H':=AM H
  clear H
  go_wp2
  go_loopg [15] k (fun kq aH w'=>∃ (aA:Int) (dA:Int) (eA:Int),aH=.int .i64 aA∧Aside0 (Q1x.l0 kq l0 l0 (l0.length:Int) aA dA eA=some (r1,r2))∧Aside0 (kq≤k)∧Aside0 (w'.heap[aB]? = some (.cells #[.int .i64 0,.int .u64 0] 50 (0,0)))∧Aside0 (w'.heap[fC]? = some (.cells #[.int .i64 dA,.int .u64 eA] 50 (0,0)))∧Aside0 (Below w.heap.size w w'))
  case atStart=>exact ⟨(0),(0),(0),rS,H',⟨Nat.le_refl _⟩,⟨bK bA⟩,⟨bK cA⟩,⟨ bH HB⟩⟩
  case round =>
   clear H'
   obtain ⟨aA,dA,eA,rfl,HA,oF,bA,cA,HB⟩:=hrel
   cases gk with
   | zero=>exact absurd HA.out (by simp [Q1x.l0])
   | succ k1 =>
    have H:=HA.out;clear HA
    simp only [Q1x.l0] at H
    apply iC H<;>clear H<;>intro eC H
    ·(first|rw [eC]|(simp only [Q1r,Q13];rw [eC])|skip)
     apply iN H;clear H;intro cH H
     ·apply iN H;clear H;intro pF H
      ·by_cases vC:(l0.length:Int)=0
       ·rw [if_pos vC] at H
        exact absurd H (by simp)
       ·rw [if_neg vC] at H
        have qF:((l0.length:Int)==0)=false:=beq_eq_false_iff_ne.mpr vC
        have rF:((l0.length:Int) != 0)=true:=bne_iff_ne.mpr vC
        have sF:¬ (l0=[]):=fun h_=>vC (by rw [h_];rfl)
        obtain ⟨lA,gC⟩:∃ j_:Int,(Int.tmod (wrap64 (aA+1)) (l0.length:Int))=j_:=⟨_,rfl⟩
        replace H:(if 0≤(lA) then (if (lA)<(l0.length:Int) then ((Q1n.f k1 (([(Q0a l0 aA).f0,(Q0a l0 (lA)).f1,wrap64 (-((Q0a l0 aA).f1)),(Q0a l0 (lA)).f0]:List Int))).bind fun tA=>((Q1l.f k1 dA eA (([(⟨tA.1,tA.2.1⟩:S50)]:List (S50)))).bind fun pA=>(Q1x.l0 k1 l0 l0 (l0.length:Int) (wrap64 (aA+1)) pA.1 pA.2))) else (none)) else (none))=some (r1,r2):=by first|(rw [gC] at H;exact H)|(simp only [gC] at H ⊢;exact H)
        apply iN H;clear H;intro tF H
        ·apply iN H;clear H;intro uF H
         ·obtain ⟨kC,xA⟩:∃ y_:List Int,y_=(([(Q0a l0 aA).f0,(Q0a l0 (lA)).f1,wrap64 (-((Q0a l0 aA).f1)),(Q0a l0 (lA)).f0]:List Int)):=⟨_,rfl⟩
          replace H:((Q1n.f k1 kC).bind fun tA=>((Q1l.f k1 dA eA (([(⟨tA.1,tA.2.1⟩:S50)]:List (S50)))).bind fun pA=>(Q1x.l0 k1 l0 l0 (l0.length:Int) (wrap64 (aA+1)) pA.1 pA.2)))=some (r1,r2):=by first|(rw [xA];with_reducible exact H)|(have lC:=(Option.bind_some _ _).symm.trans H;rw [xA];with_reducible exact lC)|(have lC:=(Option.bind_some _ _).symm.trans H;with_reducible exact lC)|with_reducible exact H|(rw [xA];exact H)|exact H
          have hC:=AM xA
          clear xA
          obtain ⟨⟨uA,wA,zE⟩,dH,H⟩:=bS H
          try dsimp only at H
          obtain ⟨mC,yA⟩:∃ y_:List (S50),y_=(([(⟨uA,wA⟩:S50)]:List (S50))):=⟨_,rfl⟩
          replace H:((Q1l.f k1 dA eA mC).bind fun pA=>(Q1x.l0 k1 l0 l0 (l0.length:Int) (wrap64 (aA+1)) pA.1 pA.2))=some (r1,r2):=by first|(rw [yA];with_reducible exact H)|(have lC:=(Option.bind_some _ _).symm.trans H;rw [yA];with_reducible exact lC)|(have lC:=(Option.bind_some _ _).symm.trans H;with_reducible exact lC)|with_reducible exact H|(rw [yA];exact H)|exact H
          have jC:=AM yA
          clear yA
          obtain ⟨⟨nC,wC⟩,eH,H⟩:=bS H
          try dsimp only at H
          have H':=AM H
          clear H
          have oC:0≤(aA:Int):=pD
          have pC:aA<(l0.length:Int):=pD
          obtain ⟨bB,aF,cB,dB,eB⟩:=Q2i yE.out aA oC pC
          cases aF
          replace cB:=hW HB cB;replace dB:=hW HB dB;replace eB:=hW HB eB;replace oC:=eq_true oC;replace pC:=eq_true pC
          go_wp2_with (first|((with_reducible refine Q0i (N:=5) rfl ?_);refine bE 5 #[.int .i64 0,.int .i64 0,.int .i64 0] 27 ?_;intro kA hg hH hbox hb;have gA:=AM hbox;have fB:=kG HB hg;replace HB:=kH HB hb;have vF:=fB;have iB:=kN bA hg;have jB:=kM bA hg;replace bA:=kB bA hb;have lB:=kN cA hg;have mB:=kM cA hg;replace cA:=kB cA hb;clear hb hbox hg;have wF:=jB.out;have xF:=iB.out;have yF:=mB.out;have zF:=lB.out;obtain ⟨aD,bD,cD,dD,eD,fD⟩:=c3 gA;have qC:0≤((lA):Int):=pD;have rC:(lA)<(l0.length:Int):=pD;obtain ⟨xC,bF,fA,mA,nA⟩:=Q2i yE.out (lA) qC rC;obtain rfl:bB=xC:=(by injection bF);have hA:bB.block≠kA:=Nat.ne_of_lt (Nat.lt_of_lt_of_le (by have:=World.block_lt_of_cell? _ _ fA;first|rwa [add_block] at this|exact this) fB.out);have iA:bB.block≠kA:=Nat.ne_of_lt (Nat.lt_of_lt_of_le (by have:=World.block_lt_of_cell? _ _ fA;first|rwa [add_block] at this|exact this) fB.out);have jA:bB.block≠kA:=Nat.ne_of_lt (Nat.lt_of_lt_of_le (by have:=World.block_lt_of_cell? _ _ fA;first|rwa [add_block] at this|exact this) fB.out);replace fA:=hW HB fA;replace mA:=hW HB mA;replace nA:=hW HB nA;replace fA:=(cell_far (p:=⟨kA,0,none⟩) (by first|(rw [add_block];exact hA)|(show (Addr.add _ _).block≠_;rw [add_block];exact hA)|exact hA) (.int .i64 ((Q0a l0 aA).f0))).trans fA;replace mA:=(cell_far (p:=⟨kA,0,none⟩) (by first|(rw [add_block];exact hA)|(show (Addr.add _ _).block≠_;rw [add_block];exact hA)|exact hA) (.int .i64 ((Q0a l0 aA).f0))).trans mA;replace nA:=(cell_far (p:=⟨kA,0,none⟩) (by first|(rw [add_block];exact hA)|(show (Addr.add _ _).block≠_;rw [add_block];exact hA)|exact hA) (.int .i64 ((Q0a l0 aA).f0))).trans nA;replace fA:=(cell_far (p:=⟨kA,1,none⟩) (by first|(rw [add_block];exact iA)|(show (Addr.add _ _).block≠_;rw [add_block];exact iA)|exact iA) (.int .i64 ((Q0a l0 aA).f1))).trans fA;replace mA:=(cell_far (p:=⟨kA,1,none⟩) (by first|(rw [add_block];exact iA)|(show (Addr.add _ _).block≠_;rw [add_block];exact iA)|exact iA) (.int .i64 ((Q0a l0 aA).f1))).trans mA;replace nA:=(cell_far (p:=⟨kA,1,none⟩) (by first|(rw [add_block];exact iA)|(show (Addr.add _ _).block≠_;rw [add_block];exact iA)|exact iA) (.int .i64 ((Q0a l0 aA).f1))).trans nA;replace fA:=(cell_far (p:=⟨kA,2,none⟩) (by first|(rw [add_block];exact jA)|(show (Addr.add _ _).block≠_;rw [add_block];exact jA)|exact jA) (.int .i64 ((Q0a l0 aA).f2))).trans fA;replace mA:=(cell_far (p:=⟨kA,2,none⟩) (by first|(rw [add_block];exact jA)|(show (Addr.add _ _).block≠_;rw [add_block];exact jA)|exact jA) (.int .i64 ((Q0a l0 aA).f2))).trans mA;replace nA:=(cell_far (p:=⟨kA,2,none⟩) (by first|(rw [add_block];exact jA)|(show (Addr.add _ _).block≠_;rw [add_block];exact jA)|exact jA) (.int .i64 ((Q0a l0 aA).f2))).trans nA;clear hA;clear iA;clear jA;replace qC:=eq_true qC;replace rC:=eq_true rC)|((with_reducible refine Q0i (N:=6) rfl ?_);refine bE 6 #[.int .i64 0,.int .i64 0,.int .i64 0] 27 ?_;intro bC hg iH hbox hb;have oA:=AM hbox;have yC:=kG HB hg;replace HB:=kH HB hb;have aG:=yC;have nB:=kN bA hg;have oB:=kM bA hg;replace bA:=kB bA hb;have pB:=kN cA hg;have qB:=kM cA hg;replace cA:=kB cA hb;have rB:=AM (by rw [hg];exact Nat.ne_of_lt (Q25 (g:=kA) (o:=.cells #[.int .i64 ((Q0a l0 aA).f0),.int .i64 ((Q0a l0 aA).f1),.int .i64 ((Q0a l0 aA).f2)] 27 (0,0)) (by (with_reducible repeat (first|refine Q0c ?_ _|refine Q0d ?_|refine Q0b ?_ _));refine Q0u (cs:=#[.int .i64 ((Q0a l0 aA).f0),.int .i64 ((Q0a l0 aA).f1),.int .i64 0]) ?_ 2 _ rfl;(with_reducible repeat (first|refine Q0c ?_ _|refine Q0d ?_|refine Q0b ?_ _));refine Q0u (cs:=#[.int .i64 ((Q0a l0 aA).f0),.int .i64 0,.int .i64 0]) ?_ 1 _ rfl;(with_reducible repeat (first|refine Q0c ?_ _|refine Q0d ?_|refine Q0b ?_ _));refine Q0u (cs:=#[.int .i64 0,.int .i64 0,.int .i64 0]) ?_ 0 _ rfl;(with_reducible repeat (first|refine Q0c ?_ _|refine Q0d ?_|refine Q0b ?_ _));exact gA.out)):kA≠bC);have sB:=AM (by rw [hg];exact Nat.ne_of_gt (Q25 (g:=kA) (o:=.cells #[.int .i64 ((Q0a l0 aA).f0),.int .i64 ((Q0a l0 aA).f1),.int .i64 ((Q0a l0 aA).f2)] 27 (0,0)) (by (with_reducible repeat (first|refine Q0c ?_ _|refine Q0d ?_|refine Q0b ?_ _));refine Q0u (cs:=#[.int .i64 ((Q0a l0 aA).f0),.int .i64 ((Q0a l0 aA).f1),.int .i64 0]) ?_ 2 _ rfl;(with_reducible repeat (first|refine Q0c ?_ _|refine Q0d ?_|refine Q0b ?_ _));refine Q0u (cs:=#[.int .i64 ((Q0a l0 aA).f0),.int .i64 0,.int .i64 0]) ?_ 1 _ rfl;(with_reducible repeat (first|refine Q0c ?_ _|refine Q0d ?_|refine Q0b ?_ _));refine Q0u (cs:=#[.int .i64 0,.int .i64 0,.int .i64 0]) ?_ 0 _ rfl;(with_reducible repeat (first|refine Q0c ?_ _|refine Q0d ?_|refine Q0b ?_ _));exact gA.out)):bC≠kA);replace gA:=AM (Q1p (g:=kA) (o:=.cells #[.int .i64 ((Q0a l0 aA).f0),.int .i64 ((Q0a l0 aA).f1),.int .i64 ((Q0a l0 aA).f2)] 27 (0,0)) (by (with_reducible repeat (first|refine Q0c ?_ _|refine Q0d ?_|refine Q0b ?_ _));refine Q0u (cs:=#[.int .i64 ((Q0a l0 aA).f0),.int .i64 ((Q0a l0 aA).f1),.int .i64 0]) ?_ 2 _ rfl;(with_reducible repeat (first|refine Q0c ?_ _|refine Q0d ?_|refine Q0b ?_ _));refine Q0u (cs:=#[.int .i64 ((Q0a l0 aA).f0),.int .i64 0,.int .i64 0]) ?_ 1 _ rfl;(with_reducible repeat (first|refine Q0c ?_ _|refine Q0d ?_|refine Q0b ?_ _));refine Q0u (cs:=#[.int .i64 0,.int .i64 0,.int .i64 0]) ?_ 0 _ rfl;(with_reducible repeat (first|refine Q0c ?_ _|refine Q0d ?_|refine Q0b ?_ _));exact gA.out) hb);clear hb hbox hg;have bG:=oB.out;have cG:=nB.out;have dG:=qB.out;have eG:=pB.out;have fG:=sB.out;have gG:=rB.out;obtain ⟨gD,hD,iD,jD,kD,lD⟩:=c3 oA;obtain ⟨mD,nD,oD,qD,rD,sD⟩:=c3 gA)|((with_reducible refine Q0i (N:=38) rfl ?_);refine Kd.Q4s (Kd.int .i64) _ 3 ?hg (N:=38) ?hd (xs:=([(Q0a l0 aA).f0,(Q0a l0 (lA)).f1,wrap64 (-((Q0a l0 aA).f1)),(Q0a l0 (lA)).f0]:List Int)) (inner:=[.int .i64 ((Q0a l0 aA).f0),.int .i64 ((Q0a l0 (lA)).f1),.int .i64 (wrap64 (-((Q0a l0 aA).f1))),.int .i64 ((Q0a l0 (lA)).f0)]) (ok:=fun _=>True) (okp:=fun _=>True) ?hr ?hp (fun _ hk=>hk) trivial (Below.refl _ _) (Nat.le_refl _) (by simp) ?_;(case hd=>rfl);(case hg=>rfl);(case hr=>first|(go_simp;done)|(go_simp;rfl));(case hp=>exact (Reps.one (show Kd.M (Kd.int .i64) _ _ _ ((Q0a l0 aA).f0) [.int .i64 ((Q0a l0 aA).f0)] from rfl) (Reps.one (show Kd.M (Kd.int .i64) _ _ _ ((Q0a l0 (lA)).f1) [.int .i64 ((Q0a l0 (lA)).f1)] from rfl) (Reps.one (show Kd.M (Kd.int .i64) _ _ _ (wrap64 (-((Q0a l0 aA).f1))) [.int .i64 (wrap64 (-((Q0a l0 aA).f1)))] from rfl) (Reps.one (show Kd.M (Kd.int .i64) _ _ _ ((Q0a l0 (lA)).f0) [.int .i64 ((Q0a l0 (lA)).f0)] from rfl) (Reps.none _ _))))));intro fH jH cC hb hg_ hnew_;clear hg_ hnew_;(first|rw [← hC.out] at cC|(simp only [Int.reduceToNat] at cC;rw [← hC.out] at cC));have qA:=AM (Kd.Q1b cC (Q0h (bH HB)));replace bA:=kB bA hb;replace cA:=kB cA hb;replace gA:=kB gA hb;replace oA:=AM (Q1p (g:=bC) (o:=.cells #[.int .i64 ((Q0a l0 (lA)).f0),.int .i64 ((Q0a l0 (lA)).f1),.int .i64 ((Q0a l0 (lA)).f2)] 27 (0,0)) (by (with_reducible repeat (first|refine Q0c ?_ _|refine Q0d ?_|refine Q0b ?_ _));refine Q0u (cs:=#[.int .i64 ((Q0a l0 (lA)).f0),.int .i64 ((Q0a l0 (lA)).f1),.int .i64 0]) ?_ 2 _ rfl;(with_reducible repeat (first|refine Q0c ?_ _|refine Q0d ?_|refine Q0b ?_ _));refine Q0u (cs:=#[.int .i64 ((Q0a l0 (lA)).f0),.int .i64 0,.int .i64 0]) ?_ 1 _ rfl;(with_reducible repeat (first|refine Q0c ?_ _|refine Q0d ?_|refine Q0b ?_ _));refine Q0u (cs:=#[.int .i64 0,.int .i64 0,.int .i64 0]) ?_ 0 _ rfl;(with_reducible repeat (first|refine Q0c ?_ _|refine Q0d ?_|refine Q0b ?_ _));exact oA.out) hb);replace HB:=kH HB hb;clear hb cC;obtain ⟨cF,dF,eF⟩:=Kd.Q01 qA.out;subst eF)|((with_reducible refine Q0n (f:=69) rfl ?_);refine gL (some 39) Try.func69 #[.slice cF kC.length dF] ?_;(with_reducible refine (Q1n.calls k1 _ _ kC uA wA zE _ ?side1 ?side2 dH.out).mono ?_);(case side1=>exact sR qA);(case side2=>exact (Kd.Q0w qA.out).2.1);rintro e lH ⟨rfl,hb⟩;refine ⟨_,rfl,?_⟩;replace qA:=kR qA hb;replace bA:=kB bA hb;replace cA:=kB cA hb;replace gA:=kB gA hb;replace oA:=kB oA hb;replace HB:=kH HB hb;clear hb)|((with_reducible refine Q0i (N:=7) rfl ?_);refine bE 7 #[.int .i64 0,.int .u64 0] 50 ?_;intro gB hg mH hbox hb;replace qA:=kR qA hb;have vA:=AM hbox;have zC:=kG HB hg;replace HB:=kH HB hb;have hG:=zC;have tB:=kN bA hg;have uB:=kM bA hg;replace bA:=kB bA hb;have vB:=kN cA hg;have wB:=kM cA hg;replace cA:=kB cA hb;have xB:=kN gA hg;have yB:=kM gA hg;replace gA:=kB gA hb;have zB:=kN oA hg;have aC:=kM oA hg;replace oA:=kB oA hb;clear hb hbox hg;have iG:=uB.out;have jG:=tB.out;have lG:=wB.out;have mG:=vB.out;have nG:=yB.out;have oG:=xB.out;have pG:=aC.out;have qG:=zB.out;obtain ⟨tD,uD,vD,wD⟩:=c2 vA;have rG:=sA.out;have sG:=rA.out;obtain ⟨xD,yD,zD,aE⟩:=c2 cA)|((with_reducible refine Q0i (N:=44) rfl ?_);refine Kd.Q4s k50 _ 50 ?hg (N:=44) ?hd (xs:=([(⟨uA,wA⟩:S50)]:List (S50))) (inner:=[.int .i64 uA,.int .u64 wA]) (ok:=fun _=>True) (okp:=fun _=>True) ?hr ?hp (fun _ hk=>hk) trivial (Below.refl _ _) (Nat.le_refl _) (by simp) ?_;(case hd=>rfl);(case hg=>rfl);(case hr=>first|(go_simp;done)|(go_simp;rfl));(case hp=>exact (Reps.c2 (show Kd.M k50 _ _ _ (⟨uA,wA⟩:S50) [.int .i64 uA,.int .u64 wA] from (Q7z _ _ _ (⟨uA,wA⟩:S50) )) (Reps.none _ _)));intro gH nH dC hb hg_ hnew_;clear hg_ hnew_;(first|rw [← jC.out] at dC|(simp only [Int.reduceToNat] at dC;rw [← jC.out] at dC));replace qA:=AM (Kd.Q40 (by (with_reducible repeat (first|apply Kd.Q10|apply Kd.Q11|apply Kd.Q2h));exact (Kd.Q1q (Kd.Q3p (p:=⟨gB,1,none⟩) (Kd.Q3p (p:=⟨gB,0,none⟩) (Kd.Q2y qA.out vA.out (by decide)) (fun _ hk=>hk.2) (.int .i64 uA)) (fun _ hk=>hk.2) (.int .u64 wA)) (fun _ h_=>h_.1))) hb);have zA:=AM (Kd.Q1b (Kd.Q2v (Kd.Q2v (Kd.Q2v dC (g:=aB) (o:=.cells #[.int .i64 0,.int .u64 0] 50 (0,0)) (bK bA)) (g:=fC) (o:=.cells #[.int .i64 dA,.int .u64 eA] 50 (0,0)) (bK cA)) (g:=gB) (o:=.cells #[.int .i64 uA,.int .u64 wA] 50 (0,0)) (by (with_reducible repeat (first|refine Q0c ?_ _|refine Q0d ?_|refine Q0b ?_ _));refine Q0u (cs:=#[.int .i64 uA,.int .u64 0]) ?_ 1 _ rfl;(with_reducible repeat (first|refine Q0c ?_ _|refine Q0d ?_|refine Q0b ?_ _));refine Q0u (cs:=#[.int .i64 0,.int .u64 0]) ?_ 0 _ rfl;(with_reducible repeat (first|refine Q0c ?_ _|refine Q0d ?_|refine Q0b ?_ _));exact vA.out)) (Q0h (bH HB)));replace bA:=kB bA hb;replace cA:=kB cA hb;replace gA:=kB gA hb;replace oA:=kB oA hb;replace vA:=AM (Q1p (g:=gB) (o:=.cells #[.int .i64 uA,.int .u64 wA] 50 (0,0)) (by (with_reducible repeat (first|refine Q0c ?_ _|refine Q0d ?_|refine Q0b ?_ _));refine Q0u (cs:=#[.int .i64 uA,.int .u64 0]) ?_ 1 _ rfl;(with_reducible repeat (first|refine Q0c ?_ _|refine Q0d ?_|refine Q0b ?_ _));refine Q0u (cs:=#[.int .i64 0,.int .u64 0]) ?_ 0 _ rfl;(with_reducible repeat (first|refine Q0c ?_ _|refine Q0d ?_|refine Q0b ?_ _));exact vA.out) hb);replace HB:=kH HB hb;clear hb dC;obtain ⟨fF,gF,hF⟩:=Kd.Q01 zA.out;subst hF)|((with_reducible refine Q0n (f:=25) rfl ?_);refine gL (some 45) Try.func25 #[.agg #[.int .i64 dA,.int .u64 eA],.slice fF mC.length gF] ?_;(with_reducible refine (Q1l.calls k1 dA eA _ _ mC nC wC _ ?side1 ?side2 eH.out).mono ?_);(case side1=>exact sR zA);(case side2=>exact (Kd.Q0w zA.out).2.1);rintro e oH ⟨rfl,hb⟩;refine ⟨_,rfl,?_⟩;replace qA:=kR qA hb;replace zA:=kR zA hb;replace bA:=kB bA hb;replace cA:=kB cA hb;replace gA:=kB gA hb;replace oA:=kB oA hb;replace vA:=kB vA hb;replace HB:=kH HB hb;clear hb;obtain ⟨cE,dE,eE,fE⟩:=c2 cA))
          go_roundg k1
          case measure=>have:=oF.out;omega
          case rel=>exact ⟨(wrap64 (aA+1)),(nC),(wC),rS,H',⟨by have:=oF.out;omega⟩,⟨bK bA⟩,⟨by (with_reducible repeat (first|refine Q0c ?_ _|refine Q0d ?_|refine Q0b ?_ _));refine Q0u (cs:=#[.int .i64 nC,.int .u64 eA]) ?_ 1 _ rfl;(with_reducible repeat (first|refine Q0c ?_ _|refine Q0d ?_|refine Q0b ?_ _));refine Q0u (cs:=#[.int .i64 dA,.int .u64 eA]) ?_ 0 _ rfl;(with_reducible repeat (first|refine Q0c ?_ _|refine Q0d ?_|refine Q0b ?_ _));exact cA.out⟩,⟨ bH HB⟩⟩
    ·(first|rw [eC]|(simp only [Q1r,Q13];rw [eC])|skip)
     simp only [Option.some.injEq,Prod.mk.injEq] at H
     obtain ⟨rfl,rfl⟩:=H
     have tG:=sA.out;have uG:=rA.out;obtain ⟨gE,hE,iE,jE⟩:=c2 cA;obtain ⟨kE,lE,mE,nE⟩:=c2 bA
     go_wp2
     refine bodyPost_ret (results_cell_row rfl _ _ aB 50 #[.int .i64 dA,.int .u64 eA] (0,0) _ rfl (by (with_reducible repeat (first|refine Q0c ?_ _|refine Q0d ?_|refine Q0b ?_ _));refine Q0u (cs:=#[.int .i64 dA,.int .u64 0]) ?_ 1 _ rfl;(with_reducible repeat (first|refine Q0c ?_ _|refine Q0d ?_|refine Q0b ?_ _));refine Q0u (cs:=#[.int .i64 0,.int .u64 0]) ?_ 0 _ rfl;(with_reducible repeat (first|refine Q0c ?_ _|refine Q0d ?_|refine Q0b ?_ _));exact bA.out) Try.underlying50 rfl (by kernel_rfl)) rfl ?_
     exact ⟨rE,bH HB⟩
 ·replace c7:=Bool.eq_false_iff.mpr c7
  subst c7
  replace H:=iF H
  simp only [Option.some.injEq,Prod.mk.injEq] at H
  obtain ⟨rfl,rfl⟩:=H
  have vG:=sA.out;have wG:=rA.out;obtain ⟨oE,pE,qE,sE⟩:=c2 cA;obtain ⟨tE,uE,vE,wE⟩:=c2 bA
  go_wp2
  refine bodyPost_ret (results_cell_row rfl _ _ aB 50 #[.int .i64 0,.int .u64 0] (0,0) _ rfl (by (with_reducible repeat (first|refine Q0c ?_ _|refine Q0d ?_|refine Q0b ?_ _));refine Q0u (cs:=#[.int .i64 0,.int .u64 0]) ?_ 1 _ rfl;(with_reducible repeat (first|refine Q0c ?_ _|refine Q0d ?_|refine Q0b ?_ _));refine Q0u (cs:=#[.int .i64 0,.int .u64 0]) ?_ 0 _ rfl;(with_reducible repeat (first|refine Q0c ?_ _|refine Q0d ?_|refine Q0b ?_ _));exact bA.out) Try.underlying50 rfl (by kernel_rfl)) rfl ?_
  exact ⟨rE,bH HB⟩
end Go.Proofs.Ytbonkedecfjmdaa.P
