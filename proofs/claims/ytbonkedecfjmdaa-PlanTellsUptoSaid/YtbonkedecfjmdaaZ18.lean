/- Written for this claim by a program of this session (a turned copy of the print): Go functions as Lean functions, and that the Go code comes to just these answers; or a statement proved out of them. No condition. -/
import Derived.Test.YtbonkedecfjmdaaZ2
import Derived.Test.YtbonkedecfjmdaaZ3
import Derived.Test.YtbonkedecfjmdaaZ17

namespace Go.Proofs.Ytbonkedecfjmdaa.P
open Go.RowKit Go.Proofs.YtbonkedecfjmdaaW.PrintWords Go.Proofs.YtbonkedecfjmdaaW.PrintLast Go.Proofs.YtbonkedecfjmdaaW.PrintMore Go.Proofs.Ytbonkedecfjmdaa.X
attribute [local go_sem] Q2a Q2b Q2s Q2q Q1z Q1y Q19 Q2c Q2r Q2p add64
set_option linter.unusedVariables false
set_option linter.unusedSimpArgs false
attribute [local go_sem high] eqA27
mutual
def Q02.l0:Nat→List (List (S27))→List Int→Int→Int→List (List (S27))→List (List Int)→List (List Int)→Option ((List (S27))×Int)
 | 0,_,_,_,_,_,_,_=>none
 | k+1,x6,x16,x17,x18,x387000,x387001,x387002=>if x18<x17 then (if 0≤x18 then (if x18<(x16.length:Int) then ((Q18.f k x387000 x387001 x387002 (rd x16 x18)).bind fun fD=>(if fD.2=0 then (if (fD.1.length:Int)=0 then (some (([]:List (S27)),2)) else (if x6.length<5864062014805 then (Q02.l0 k (x6++[fD.1]) x16 x17 (wrap64 (x18+1)) x387000 x387001 x387002) else (none))) else (some (([]:List (S27)),2)))) else (none)) else (none)) else (Q02.l1 k x6 ([]:List (S27)) (decide ((x6.length:Int)>0)) x6 (x6.length:Int) 0)
def Q02.l1:Nat→List (List (S27))→List (S27)→Bool→List (List (S27))→Int→Int→Option ((List (S27))×Int)
 | 0,_,_,_,_,_,_=>none
 | k+1,x6,x11,x12,x43,x44,x45=>if x45<x44 then (if 0≤x45 then (if x45<(x43.length:Int) then (if (x6.length:Int)=0 then (none) else (if 0≤(Int.tmod (wrap64 ((wrap64 (x45+(x6.length:Int))) - 1)) (x6.length:Int)) then (if (Int.tmod (wrap64 ((wrap64 (x45+(x6.length:Int))) - 1)) (x6.length:Int))<(x6.length:Int) then (if 0≤(wrap64 (((Q0e x6 (Int.tmod (wrap64 ((wrap64 (x45+(x6.length:Int))) - 1)) (x6.length:Int))).length:Int) - 1)) then (if (wrap64 (((Q0e x6 (Int.tmod (wrap64 ((wrap64 (x45+(x6.length:Int))) - 1)) (x6.length:Int))).length:Int) - 1))<((Q0e x6 (Int.tmod (wrap64 ((wrap64 (x45+(x6.length:Int))) - 1)) (x6.length:Int))).length:Int) then (if 0<((Q0e x43 x45).length:Int) then (if ((((Q0a (Q0e x6 (Int.tmod (wrap64 ((wrap64 (x45+(x6.length:Int))) - 1)) (x6.length:Int))) (wrap64 (((Q0e x6 (Int.tmod (wrap64 ((wrap64 (x45+(x6.length:Int))) - 1)) (x6.length:Int))).length:Int) - 1))).f0)==((Q0a (Q0e x43 x45) 0).f0)&&(((Q0a (Q0e x6 (Int.tmod (wrap64 ((wrap64 (x45+(x6.length:Int))) - 1)) (x6.length:Int))) (wrap64 (((Q0e x6 (Int.tmod (wrap64 ((wrap64 (x45+(x6.length:Int))) - 1)) (x6.length:Int))).length:Int) - 1))).f1)==((Q0a (Q0e x43 x45) 0).f1)&&(((Q0a (Q0e x6 (Int.tmod (wrap64 ((wrap64 (x45+(x6.length:Int))) - 1)) (x6.length:Int))) (wrap64 (((Q0e x6 (Int.tmod (wrap64 ((wrap64 (x45+(x6.length:Int))) - 1)) (x6.length:Int))).length:Int) - 1))).f2)==((Q0a (Q0e x43 x45) 0).f2))))=true) then (if 0≤(wrap64 (((Q0e x43 x45).length:Int) - 1)) then (if (wrap64 (((Q0e x43 x45).length:Int) - 1))≤((Q0e x43 x45).length:Int) then ((some ((Q0e x43 x45).take ((wrap64 (((Q0e x43 x45).length:Int) - 1)):Int).toNat:List (S27))).bind fun pA=>(if x11.length+pA.length<5864062014805 then (Q02.l1 k x6 (x11++pA) (((Q0a (Q0e x6 (Int.tmod (wrap64 ((wrap64 (x45+(x6.length:Int))) - 1)) (x6.length:Int))) (wrap64 (((Q0e x6 (Int.tmod (wrap64 ((wrap64 (x45+(x6.length:Int))) - 1)) (x6.length:Int))).length:Int) - 1))).f0)==((Q0a (Q0e x43 x45) 0).f0)&&(((Q0a (Q0e x6 (Int.tmod (wrap64 ((wrap64 (x45+(x6.length:Int))) - 1)) (x6.length:Int))) (wrap64 (((Q0e x6 (Int.tmod (wrap64 ((wrap64 (x45+(x6.length:Int))) - 1)) (x6.length:Int))).length:Int) - 1))).f1)==((Q0a (Q0e x43 x45) 0).f1)&&(((Q0a (Q0e x6 (Int.tmod (wrap64 ((wrap64 (x45+(x6.length:Int))) - 1)) (x6.length:Int))) (wrap64 (((Q0e x6 (Int.tmod (wrap64 ((wrap64 (x45+(x6.length:Int))) - 1)) (x6.length:Int))).length:Int) - 1))).f2)==((Q0a (Q0e x43 x45) 0).f2)))) x43 x44 (wrap64 (x45+1))) else (none))) else (none)) else (none)) else (some (([]:List (S27)),90))) else (none)) else (none)) else (none)) else (none)) else (none))) else (none)) else (none)) else (if x12=true then (some (x11,0)) else (some (([]:List (S27)),90)))
end
def Q02.f (k:Nat) (hA:List (List (S27))) (iA:List (List Int)) (jA:List (List Int)) (l1:List Int):Option ((List (S27))×Int):=Q02.l0 k ([]:List (List (S27))) l1 (l1.length:Int) 0 hA iA jA
theorem Q02.Q1a:∀ k,(∀ y0 y1 y2 y3 y4 y5 y6,LeO (Q02.l0 k y0 y1 y2 y3 y4 y5 y6) (Q02.l0 (k+1) y0 y1 y2 y3 y4 y5 y6))∧(∀ y0 y1 y2 y3 y4 y5,LeO (Q02.l1 k y0 y1 y2 y3 y4 y5) (Q02.l1 (k+1) y0 y1 y2 y3 y4 y5))
 | 0=>⟨fun _ _ _ _ _ _ _ r h=>by simp [Q02.l0] at h,fun _ _ _ _ _ _ r h=>by simp [Q02.l1] at h⟩
 | k+1=>by
  obtain ⟨qG,rG⟩:=Q02.Q1a k
  refine ⟨?_,?_⟩
  all_goals
   intros
   first|unfold Q02.l0|unfold Q02.l1
   repeat' with_reducible first|exact qG _ _ _ _ _ _ _|exact rG _ _ _ _ _ _|exact Q18.mono _ _ _ _ _|exact LeO.refl _|exact LeO.none _|refine LeO.ite ?_ ?_|refine LeO.bind ?_ (fun _ => ?_)
theorem Q02.mono:∀ a0 a1 a2 a3 k,LeO (Q02.f k a0 a1 a2 a3) (Q02.f (k+1) a0 a1 a2 a3):=by
 intro a0 a1 a2 a3 k
 obtain ⟨qG,rG⟩:=Q02.Q1a k
 unfold Q02.f
 repeat' with_reducible first|exact qG _ _ _ _ _ _ _|exact rG _ _ _ _ _ _|exact Q18.mono _ _ _ _ _|exact LeO.refl _|exact LeO.none _|refine LeO.ite ?_ ?_|refine LeO.bind ?_ (fun _ => ?_)
set_option maxHeartbeats 8000000 in
set_option maxRecDepth 100000 in
theorem Q02.calls (k:Nat) (pB:Option Addr) (qB:Nat) (hA:List (List (S27))) (rB:Option Addr) (sB:Nat) (iA:List (List Int)) (tB:Option Addr) (uB:Nat) (jA:List (List Int)) (A1:Option Addr) (c1:Nat) (l1:List Int) (r1:List (S27)) (r2:Int) (w:World) (cE:Kd.C (Kd.slice 27 k27) w pB hA.length hA) (dE:hA.length≤qB) (eE:Kd.C (Kd.slice 3 (Kd.int .i64)) w rB iA.length iA) (fE:iA.length≤sB) (gE:Kd.C (Kd.slice 3 (Kd.int .i64)) w tB jA.length jA) (hE:jA.length≤uB) (eH:Kd.C (Kd.int .i64) w A1 l1.length l1) (fH:l1.length≤c1) (h:Q02.f k hA iA jA l1=some (r1,r2)) :
  Calls Try.prog 58 #[.agg #[.slice pB hA.length qB,.slice rB iA.length sB,.slice tB jA.length uB],.slice A1 l1.length c1] w fun e w'=>∃ v0_:Value,e=.returned (.tuple #[v0_,.int .i64 r2])∧Kd.R k27 27 w' w.heap.size (fun _=>True) v0_ r1∧Below w.heap.size w w':=by
 have fI:=Try.underlying25
 have gI:=Try.underlying27
 have bB:=AM cE
 have cB:=AM dE
 clear cE dE
 have dB:=AM eE
 have eB:=AM fE
 clear eE fE
 have fB:=AM gE
 have gB:=AM hE
 clear gE hE
 have sG:=AM eH
 have pI:=AM fH
 clear eH fH
 have HB:=AM (Below.refl w.heap.size w)
 have H:(Q02.l0 k ([]:List (List (S27))) l1 (l1.length:Int) 0 hA iA jA)=some (r1,r2):=h
 clear h
 have H':=AM H
 clear H
 go_enter Try.func58,Try.ntmps58
 go_wp2_with (first|go_step3|((with_reducible refine Q0i (N:=2) rfl ?_);(try (refine Q2e (by rfl) ?_;dsimp only));refine bE 2 #[.slice pB hA.length qB,.slice rB iA.length sB,.slice tB jA.length uB] 25 ?_;intro zA hg w3 hbox hb;have dA:=AM hbox;have jC:=kG HB hg;replace HB:=kH HB hb;have iE:=jC;clear hb hbox hg))
 repeat (go_quiet (first|((with_reducible refine Q0i (N:=2) rfl ?_);(try (refine Q2e (by rfl) ?_;dsimp only));refine bE 2 #[.slice pB hA.length qB,.slice rB iA.length sB,.slice tB jA.length uB] 25 ?_;intro zA hg w3 hbox hb;have dA:=AM hbox;have jC:=kG HB hg;replace HB:=kH HB hb;have iE:=jC;clear hb hbox hg));try go_wp2_with (first|go_step3|((with_reducible refine Q0i (N:=2) rfl ?_);(try (refine Q2e (by rfl) ?_;dsimp only));refine bE 2 #[.slice pB hA.length qB,.slice rB iA.length sB,.slice tB jA.length uB] 25 ?_;intro zA hg w3 hbox hb;have dA:=AM hbox;have jC:=kG HB hg;replace HB:=kH HB hb;have iE:=jC;clear hb hbox hg)))
 go_loopg [6,18] k (fun kq v6 hI w'=>∃ (aA:List (List (S27))) (fA:Int),hI=.int .i64 fA∧Aside0 (Q02.l0 kq aA l1 (l1.length:Int) fA hA iA jA=some (r1,r2))∧Aside0 (kq≤k)∧Aside0 (Kd.S (Kd.slice 27 k27) 31 w' w.heap.size (fun _=>True) v6 aA)∧Aside0 (w'.heap[zA]? = some (.cells #[(.slice pB hA.length qB),(.slice rB iA.length sB),(.slice tB jA.length uB)] 25 (0,0)))∧Aside0 (Below w.heap.size w w'))
 case atStart=>exact ⟨(([]:List (List (S27)))),(0),rS,H',⟨Nat.le_refl _⟩,⟨by first|exact Kd.Q3y _ _ _ _ _|exact Kd.Q3t _ _ _ _ _|exact Kd.Q3x _ _ _ _ _|exact Kd.Q3v _ _ _ _ _|exact Kd.Q3k _ _ _ _ _⟩,⟨bK dA⟩,⟨ bH HB⟩⟩
 case round =>
  clear H'
  obtain ⟨aA,fA,rfl,HA,sF,HO_6,dA,HB⟩:=hrel
  cases gk with
  | zero=>exact absurd HA.out (by simp [Q02.l0])
  | succ k1 =>
   have H:=HA.out;clear HA
   simp only [Q02.l0] at H
   apply iC H<;>clear H<;>intro tG H
   ·apply iN H;clear H;intro iI H
    ·apply iN H;clear H;intro jI H
     ·obtain ⟨⟨mA,hB⟩,A7,H⟩:=bS H
      try dsimp only at H
      by_cases c8:hB=0
      ·rw [if_pos c8] at H
       have uG:(hB==0)=true:=beq_iff_eq.mpr c8
       have vG:(hB != 0)=false:=bne_eq_false_iff_eq.mpr c8
       clear c8
       by_cases c9:(mA.length:Int)=0
       ·rw [if_pos c9] at H
        have wG:((mA.length:Int)==0)=true:=beq_iff_eq.mpr c9
        have xG:((mA.length:Int) != 0)=false:=bne_eq_false_iff_eq.mpr c9
        clear c9
        simp only [Option.some.injEq,Prod.mk.injEq] at H
        obtain ⟨rfl,rfl⟩:=H
        have vB:0≤(fA:Int):=pD
        have wB:fA<(l1.length:Int):=pD
        obtain ⟨jE,gD,oA⟩:=Kd.Q2n sG.out fA vB wB
        cases gD
        replace oA:=hW HB oA;replace vB:=eq_true vB;replace wB:=eq_true wB;obtain ⟨tF,uF,vF,wF,xF,yF⟩:=c3 dA
        go_wp2_with (first|go_step3|(go_at_call 78;(with_reducible refine (Q18.calls k1 _ _ hA _ _ iA _ _ jA (rd l1 fA) mA hB _ ?side1 ?side2 ?side3 ?side4 ?side5 ?side6 A7.out).mono ?_);(case side1=>exact sC bB HB);(case side2=>exact cB.out);(case side3=>exact sC dB HB);(case side4=>exact eB.out);(case side5=>exact sC fB HB);(case side6=>exact gB.out);rintro e gH ⟨kC,rfl,yA,hb⟩;replace HO_6:=AM (Kd.Q4i (by (with_reducible repeat (first|apply Kd.Q27|apply Kd.Q26|apply Kd.Q3l));exact HO_6.out) (Kd.Q2l yA) hb);have gA:=AM (Kd.Q1b yA (Q0h (bH HB)));replace dA:=kB dA hb;replace HB:=kH HB hb;clear hb yA;obtain ⟨xE,yE,hD⟩:=Kd.Q01 gA.out;subst hD))
        repeat (go_quiet (first|(go_at_call 78;(with_reducible refine (Q18.calls k1 _ _ hA _ _ iA _ _ jA (rd l1 fA) mA hB _ ?side1 ?side2 ?side3 ?side4 ?side5 ?side6 A7.out).mono ?_);(case side1=>exact sC bB HB);(case side2=>exact cB.out);(case side3=>exact sC dB HB);(case side4=>exact eB.out);(case side5=>exact sC fB HB);(case side6=>exact gB.out);rintro e gH ⟨kC,rfl,yA,hb⟩;replace HO_6:=AM (Kd.Q4i (by (with_reducible repeat (first|apply Kd.Q27|apply Kd.Q26|apply Kd.Q3l));exact HO_6.out) (Kd.Q2l yA) hb);have gA:=AM (Kd.Q1b yA (Q0h (bH HB)));replace dA:=kB dA hb;replace HB:=kH HB hb;(try clear hb);(try clear hb2);(try clear hk);(try clear hi);(try clear yA);obtain ⟨xE,yE,hD⟩:=Kd.Q01 gA.out;subst hD));try go_wp2_with (first|go_step3|(go_at_call 78;(with_reducible refine (Q18.calls k1 _ _ hA _ _ iA _ _ jA (rd l1 fA) mA hB _ ?side1 ?side2 ?side3 ?side4 ?side5 ?side6 A7.out).mono ?_);(case side1=>exact sC bB HB);(case side2=>exact cB.out);(case side3=>exact sC dB HB);(case side4=>exact eB.out);(case side5=>exact sC fB HB);(case side6=>exact gB.out);rintro e gH ⟨kC,rfl,yA,hb⟩;replace HO_6:=AM (Kd.Q4i (by (with_reducible repeat (first|apply Kd.Q27|apply Kd.Q26|apply Kd.Q3l));exact HO_6.out) (Kd.Q2l yA) hb);have gA:=AM (Kd.Q1b yA (Q0h (bH HB)));replace dA:=kB dA hb;replace HB:=kH HB hb;(try clear hb);(try clear hb2);(try clear hk);(try clear hi);(try clear yA);obtain ⟨xE,yE,hD⟩:=Kd.Q01 gA.out;subst hD)))
        (try rw [Exit.noGoto_ret])
        go_ret2
        exact ⟨_,rE,by first|exact Kd.Q3k _ _ _ _ _|exact Kd.Q3t _ _ _ _ _|exact Kd.Q3x _ _ _ _ _|exact Kd.Q3v _ _ _ _ _|exact Kd.Q3y _ _ _ _ _,bH HB⟩
       ·rw [if_neg c9] at H
        have wG:((mA.length:Int)==0)=false:=beq_eq_false_iff_ne.mpr c9
        have xG:((mA.length:Int) != 0)=true:=bne_iff_ne.mpr c9
        have kI:¬ (mA=[]):=fun h_=>c9 (by rw [h_];rfl)
        by_cases zF:aA.length<5864062014805
        ·rw [if_pos zF] at H
         have iD:=AM zF
         clear zF
         obtain ⟨zE,lC⟩:∃ y_:List (List (S27)),y_=(aA++[mA]):=⟨_,rfl⟩
         replace H:(Q02.l0 k1 zE l1 (l1.length:Int) (wrap64 (fA+1)) hA iA jA)=some (r1,r2):=by first|(rw [lC];with_reducible exact H)|(have jD:=(Option.bind_some _ _).symm.trans H;rw [lC];with_reducible exact jD)|(have jD:=(Option.bind_some _ _).symm.trans H;with_reducible exact jD)|with_reducible exact H|(rw [lC];exact H)|exact H
         have kD:=AM lC
         clear lC
         have H':=AM H
         clear H
         have vB:0≤(fA:Int):=pD
         have wB:fA<(l1.length:Int):=pD
         obtain ⟨jE,gD,oA⟩:=Kd.Q2n sG.out fA vB wB
         cases gD
         replace oA:=hW HB oA;replace vB:=eq_true vB;replace wB:=eq_true wB;obtain ⟨aG,bG,cG,dG,eG,fG⟩:=c3 dA
         go_wp2_with (first|go_step3|(go_at_call 78;(with_reducible refine (Q18.calls k1 _ _ hA _ _ iA _ _ jA (rd l1 fA) mA hB _ ?side1 ?side2 ?side3 ?side4 ?side5 ?side6 A7.out).mono ?_);(case side1=>exact sC bB HB);(case side2=>exact cB.out);(case side3=>exact sC dB HB);(case side4=>exact eB.out);(case side5=>exact sC fB HB);(case side6=>exact gB.out);rintro e hH ⟨kC,rfl,yA,hb⟩;replace HO_6:=AM (Kd.Q4i (by (with_reducible repeat (first|apply Kd.Q27|apply Kd.Q26|apply Kd.Q3l));exact HO_6.out) (Kd.Q2l yA) hb);have gA:=AM (Kd.Q1b yA (Q0h (bH HB)));replace dA:=kB dA hb;replace HB:=kH HB hb;clear hb yA;obtain ⟨mC,nC,lD⟩:=Kd.Q01 gA.out;subst lD)|((with_reducible refine Q1v (b:=.append) (xs:=#[.tmp 35,.tmp 37]) rfl ?_);(try (refine Q2e (by rfl) ?_;dsimp only));at_builtin;refine Kd.Q7m (Kd.slice 27 k27) (w0:=w) w.heap.size rfl (.tmp 35) (.tmp 37) 22 31 (.slice none 0 0) 24 rfl Try.underlying22 info31 rfl (by decide) (by omega) u6 aA mA [.slice mC mA.length nC] (fun _=>True) (fun k_=>some k_=(.slice mC mA.length nC:Value).ownBlock) rfl rfl ?aP (fun k_ hk_=>((Kd.Q1q (ok':=fun k_=>((fun _=>True)) k_∧some k_≠(u6:Value).ownBlock) (Kd.Q3s (gA.out) (Kd.Q57 HO_6.out) (by decide)) (fun k_ hk=>⟨trivial,hk.2⟩))).1 k_ hk_.symm) ?aF ?aO ?aB ?aS ?aL ?_;(case aP=>exact Kd.Qfd (Kd.Q1q (Kd.Q75 rfl (Kd.Q1q (ok':=fun k_=>((fun _=>True)) k_∧some k_≠(u6:Value).ownBlock) (Kd.Q3s (gA.out) (Kd.Q57 HO_6.out) (by decide)) (fun k_ hk=>⟨trivial,hk.2⟩))) (fun _ h_=>h_)));(case aB=>exact (bH HB));(case aF=>exact (fun _ _=>trivial));(case aO=>exact (by (with_reducible repeat (first|apply Kd.Q27|apply Kd.Q26|apply Kd.Q3l));exact Kd.Q4r HO_6.out (fun k_ hk=>⟨trivial,fun e_=>hk.2 e_⟩)));(case aS=>exact (Q0h (bH HB)));(case aL=>have:=iD.out;omega);intro bF iH ho hb hg hat;rw [← kD.out] at ho;replace dA:=AM (Q1w (g:=zA) (o:=.cells #[.slice pB hA.length qB,.slice rB iA.length sB,.slice tB jA.length uB] 25 (0,0)) (bK dA) hg (Kd.S_ne HO_6.out dA.out (by decide)));replace HB:=AM hb;have mD:=AM ho;clear HO_6 gA;clear ho hb hg hat))
         repeat (go_quiet (first|(go_at_call 78;(with_reducible refine (Q18.calls k1 _ _ hA _ _ iA _ _ jA (rd l1 fA) mA hB _ ?side1 ?side2 ?side3 ?side4 ?side5 ?side6 A7.out).mono ?_);(case side1=>exact sC bB HB);(case side2=>exact cB.out);(case side3=>exact sC dB HB);(case side4=>exact eB.out);(case side5=>exact sC fB HB);(case side6=>exact gB.out);rintro e hH ⟨kC,rfl,yA,hb⟩;replace HO_6:=AM (Kd.Q4i (by (with_reducible repeat (first|apply Kd.Q27|apply Kd.Q26|apply Kd.Q3l));exact HO_6.out) (Kd.Q2l yA) hb);have gA:=AM (Kd.Q1b yA (Q0h (bH HB)));replace dA:=kB dA hb;replace HB:=kH HB hb;(try clear hb);(try clear hb2);(try clear hk);(try clear hi);(try clear yA);obtain ⟨mC,nC,lD⟩:=Kd.Q01 gA.out;subst lD)|((with_reducible refine Q1v (b:=.append) (xs:=#[.tmp 35,.tmp 37]) rfl ?_);(try (refine Q2e (by rfl) ?_;dsimp only));at_builtin;refine Kd.Q7m (Kd.slice 27 k27) (w0:=w) w.heap.size rfl (.tmp 35) (.tmp 37) 22 31 (.slice none 0 0) 24 rfl Try.underlying22 info31 rfl (by decide) (by omega) u6 aA mA [.slice mC mA.length nC] (fun _=>True) (fun k_=>some k_=(.slice mC mA.length nC:Value).ownBlock) rfl rfl ?aP (fun k_ hk_=>((Kd.Q1q (ok':=fun k_=>((fun _=>True)) k_∧some k_≠(u6:Value).ownBlock) (Kd.Q3s (gA.out) (Kd.Q57 HO_6.out) (by decide)) (fun k_ hk=>⟨trivial,hk.2⟩))).1 k_ hk_.symm) ?aF ?aO ?aB ?aS ?aL ?_;(case aP=>exact Kd.Qfd (Kd.Q1q (Kd.Q75 rfl (Kd.Q1q (ok':=fun k_=>((fun _=>True)) k_∧some k_≠(u6:Value).ownBlock) (Kd.Q3s (gA.out) (Kd.Q57 HO_6.out) (by decide)) (fun k_ hk=>⟨trivial,hk.2⟩))) (fun _ h_=>h_)));(case aB=>exact (bH HB));(case aF=>exact (fun _ _=>trivial));(case aO=>exact (by (with_reducible repeat (first|apply Kd.Q27|apply Kd.Q26|apply Kd.Q3l));exact Kd.Q4r HO_6.out (fun k_ hk=>⟨trivial,fun e_=>hk.2 e_⟩)));(case aS=>exact (Q0h (bH HB)));(case aL=>have:=iD.out;omega);intro bF iH ho hb hg hat;rw [← kD.out] at ho;replace dA:=AM (Q1w (g:=zA) (o:=.cells #[.slice pB hA.length qB,.slice rB iA.length sB,.slice tB jA.length uB] 25 (0,0)) (bK dA) hg (Kd.S_ne HO_6.out dA.out (by decide)));replace HB:=AM hb;have mD:=AM ho;clear HO_6 gA;clear ho hb hg hat));try go_wp2_with (first|go_step3|(go_at_call 78;(with_reducible refine (Q18.calls k1 _ _ hA _ _ iA _ _ jA (rd l1 fA) mA hB _ ?side1 ?side2 ?side3 ?side4 ?side5 ?side6 A7.out).mono ?_);(case side1=>exact sC bB HB);(case side2=>exact cB.out);(case side3=>exact sC dB HB);(case side4=>exact eB.out);(case side5=>exact sC fB HB);(case side6=>exact gB.out);rintro e hH ⟨kC,rfl,yA,hb⟩;replace HO_6:=AM (Kd.Q4i (by (with_reducible repeat (first|apply Kd.Q27|apply Kd.Q26|apply Kd.Q3l));exact HO_6.out) (Kd.Q2l yA) hb);have gA:=AM (Kd.Q1b yA (Q0h (bH HB)));replace dA:=kB dA hb;replace HB:=kH HB hb;(try clear hb);(try clear hb2);(try clear hk);(try clear hi);(try clear yA);obtain ⟨mC,nC,lD⟩:=Kd.Q01 gA.out;subst lD)|((with_reducible refine Q1v (b:=.append) (xs:=#[.tmp 35,.tmp 37]) rfl ?_);(try (refine Q2e (by rfl) ?_;dsimp only));at_builtin;refine Kd.Q7m (Kd.slice 27 k27) (w0:=w) w.heap.size rfl (.tmp 35) (.tmp 37) 22 31 (.slice none 0 0) 24 rfl Try.underlying22 info31 rfl (by decide) (by omega) u6 aA mA [.slice mC mA.length nC] (fun _=>True) (fun k_=>some k_=(.slice mC mA.length nC:Value).ownBlock) rfl rfl ?aP (fun k_ hk_=>((Kd.Q1q (ok':=fun k_=>((fun _=>True)) k_∧some k_≠(u6:Value).ownBlock) (Kd.Q3s (gA.out) (Kd.Q57 HO_6.out) (by decide)) (fun k_ hk=>⟨trivial,hk.2⟩))).1 k_ hk_.symm) ?aF ?aO ?aB ?aS ?aL ?_;(case aP=>exact Kd.Qfd (Kd.Q1q (Kd.Q75 rfl (Kd.Q1q (ok':=fun k_=>((fun _=>True)) k_∧some k_≠(u6:Value).ownBlock) (Kd.Q3s (gA.out) (Kd.Q57 HO_6.out) (by decide)) (fun k_ hk=>⟨trivial,hk.2⟩))) (fun _ h_=>h_)));(case aB=>exact (bH HB));(case aF=>exact (fun _ _=>trivial));(case aO=>exact (by (with_reducible repeat (first|apply Kd.Q27|apply Kd.Q26|apply Kd.Q3l));exact Kd.Q4r HO_6.out (fun k_ hk=>⟨trivial,fun e_=>hk.2 e_⟩)));(case aS=>exact (Q0h (bH HB)));(case aL=>have:=iD.out;omega);intro bF iH ho hb hg hat;rw [← kD.out] at ho;replace dA:=AM (Q1w (g:=zA) (o:=.cells #[.slice pB hA.length qB,.slice rB iA.length sB,.slice tB jA.length uB] 25 (0,0)) (bK dA) hg (Kd.S_ne HO_6.out dA.out (by decide)));replace HB:=AM hb;have mD:=AM ho;clear HO_6 gA;clear ho hb hg hat)))
         go_roundg k1
         case measure=>have:=sF.out;omega
         case rel=>exact ⟨(zE),(wrap64 (fA+1)),(by first|rfl|exact congrArg Value.bool (Eq.symm (by with_reducible assumption))|(simp;done)|(simp [*];done)),H',⟨by have:=sF.out;omega⟩,⟨by (with_reducible repeat (first|apply Kd.Q27|apply Kd.Q26|apply Kd.Q3l));exact mD.out⟩,⟨bK dA⟩,⟨ bH HB⟩⟩
        ·rw [if_neg zF] at H
         exact absurd H (by simp)
      ·rw [if_neg c8] at H
       have uG:(hB==0)=false:=beq_eq_false_iff_ne.mpr c8
       have vG:(hB != 0)=true:=bne_iff_ne.mpr c8
       simp only [Option.some.injEq,Prod.mk.injEq] at H
       obtain ⟨rfl,rfl⟩:=H
       have vB:0≤(fA:Int):=pD
       have wB:fA<(l1.length:Int):=pD
       obtain ⟨jE,gD,oA⟩:=Kd.Q2n sG.out fA vB wB
       cases gD
       replace oA:=hW HB oA;replace vB:=eq_true vB;replace wB:=eq_true wB;obtain ⟨gG,hG,iG,jG,lG,mG⟩:=c3 dA
       go_wp2_with (first|go_step3|(go_at_call 78;(with_reducible refine (Q18.calls k1 _ _ hA _ _ iA _ _ jA (rd l1 fA) mA hB _ ?side1 ?side2 ?side3 ?side4 ?side5 ?side6 A7.out).mono ?_);(case side1=>exact sC bB HB);(case side2=>exact cB.out);(case side3=>exact sC dB HB);(case side4=>exact eB.out);(case side5=>exact sC fB HB);(case side6=>exact gB.out);rintro e jH ⟨kC,rfl,yA,hb⟩;replace HO_6:=AM (Kd.Q4i (by (with_reducible repeat (first|apply Kd.Q27|apply Kd.Q26|apply Kd.Q3l));exact HO_6.out) (Kd.Q2l yA) hb);have gA:=AM (Kd.Q1b yA (Q0h (bH HB)));replace dA:=kB dA hb;replace HB:=kH HB hb;clear hb yA))
       repeat (go_quiet (first|(go_at_call 78;(with_reducible refine (Q18.calls k1 _ _ hA _ _ iA _ _ jA (rd l1 fA) mA hB _ ?side1 ?side2 ?side3 ?side4 ?side5 ?side6 A7.out).mono ?_);(case side1=>exact sC bB HB);(case side2=>exact cB.out);(case side3=>exact sC dB HB);(case side4=>exact eB.out);(case side5=>exact sC fB HB);(case side6=>exact gB.out);rintro e jH ⟨kC,rfl,yA,hb⟩;replace HO_6:=AM (Kd.Q4i (by (with_reducible repeat (first|apply Kd.Q27|apply Kd.Q26|apply Kd.Q3l));exact HO_6.out) (Kd.Q2l yA) hb);have gA:=AM (Kd.Q1b yA (Q0h (bH HB)));replace dA:=kB dA hb;replace HB:=kH HB hb;(try clear hb);(try clear hb2);(try clear hk);(try clear hi);(try clear yA)));try go_wp2_with (first|go_step3|(go_at_call 78;(with_reducible refine (Q18.calls k1 _ _ hA _ _ iA _ _ jA (rd l1 fA) mA hB _ ?side1 ?side2 ?side3 ?side4 ?side5 ?side6 A7.out).mono ?_);(case side1=>exact sC bB HB);(case side2=>exact cB.out);(case side3=>exact sC dB HB);(case side4=>exact eB.out);(case side5=>exact sC fB HB);(case side6=>exact gB.out);rintro e jH ⟨kC,rfl,yA,hb⟩;replace HO_6:=AM (Kd.Q4i (by (with_reducible repeat (first|apply Kd.Q27|apply Kd.Q26|apply Kd.Q3l));exact HO_6.out) (Kd.Q2l yA) hb);have gA:=AM (Kd.Q1b yA (Q0h (bH HB)));replace dA:=kB dA hb;replace HB:=kH HB hb;(try clear hb);(try clear hb2);(try clear hk);(try clear hi);(try clear yA))))
       (try rw [Exit.noGoto_ret])
       go_ret2
       exact ⟨_,rE,by first|exact Kd.Q3k _ _ _ _ _|exact Kd.Q3t _ _ _ _ _|exact Kd.Q3x _ _ _ _ _|exact Kd.Q3v _ _ _ _ _|exact Kd.Q3y _ _ _ _ _,bH HB⟩
   ·have H':=AM H
    clear H
    obtain ⟨cF,oC,yG⟩:=Kd.Qfk HO_6.out
    subst yG
    go_wp2_with (go_step3)
    repeat (go_quiet (fail);try go_wp2)
    go_loopg [11,12,45] k1 (fun kq zG lI mI w'=>∃ (nA:List (S27)) (bD:Bool) (bA:Int),lI=.bool bD∧mI=.int .i64 bA∧Aside0 (Q02.l1 kq aA nA bD aA (aA.length:Int) bA=some (r1,r2))∧Aside0 (kq≤k1)∧Aside0 (Kd.S (Kd.slice 27 k27) 31 w' w.heap.size (fun k_=>some k_≠(zG:Value).ownBlock) (.slice cF aA.length oC) aA)∧Aside0 (Kd.R k27 27 w' w.heap.size (fun _=>True) zG nA)∧Aside0 (Kd.S (Kd.slice 27 k27) 31 w' w.heap.size (fun k_=>some k_≠(zG:Value).ownBlock) (.slice cF aA.length oC) aA)∧Aside0 (w'.heap[zA]? = some (.cells #[(.slice pB hA.length qB),(.slice rB iA.length sB),(.slice tB jA.length uB)] 25 (0,0)))∧Aside0 (Below w.heap.size w w'))
    case atStart=>exact ⟨(([]:List (S27))),(decide ((aA.length:Int)>0)),(0),rS,rS,H',⟨Nat.le_refl _⟩,⟨by (with_reducible repeat (first|apply Kd.Q27|apply Kd.Q26|apply Kd.Q3l));exact Kd.Q4r HO_6.out (fun _ hk=>(by simp [Value.ownBlock]))⟩,⟨by first|exact Kd.Q3k _ _ _ _ _|exact Kd.Q3t _ _ _ _ _|exact Kd.Q3x _ _ _ _ _|exact Kd.Q3v _ _ _ _ _|exact Kd.Q3y _ _ _ _ _⟩,⟨by (with_reducible repeat (first|apply Kd.Q27|apply Kd.Q26|apply Kd.Q3l));exact Kd.Q4r HO_6.out (fun _ hk=>(by simp [Value.ownBlock]))⟩,⟨bK dA⟩,⟨ bH HB⟩⟩
    case round =>
     clear H'
     clear tG
     obtain ⟨nA,bD,bA,rfl,rfl,HA,lH,HO_6,HO_11,HO_43,dA,HB⟩:=hrel
     cases gk with
     | zero=>exact absurd HA.out (by simp [Q02.l1])
     | succ k2 =>
      have H:=HA.out;clear HA
      simp only [Q02.l1] at H
      apply iC H<;>clear H<;>intro mH H
      ·apply iN H;clear H;intro nH H
       ·apply iN H;clear H;intro oH H
        ·by_cases dF:(aA.length:Int)=0
         ·rw [if_pos dF] at H
          exact absurd H (by simp)
         ·rw [if_neg dF] at H
          have pH:((aA.length:Int)==0)=false:=beq_eq_false_iff_ne.mpr dF
          have qH:((aA.length:Int) != 0)=true:=bne_iff_ne.mpr dF
          have rH:¬ (aA=[]):=fun h_=>dF (by rw [h_];rfl)
          obtain ⟨cA,cD⟩:∃ j_:Int,(Int.tmod (wrap64 ((wrap64 (bA+(aA.length:Int))) - 1)) (aA.length:Int))=j_:=⟨_,rfl⟩
          replace H:(if 0≤(cA) then (if (cA)<(aA.length:Int) then (if 0≤(wrap64 (((Q0e aA (cA)).length:Int) - 1)) then (if (wrap64 (((Q0e aA (cA)).length:Int) - 1))<((Q0e aA (cA)).length:Int) then (if 0<((Q0e aA bA).length:Int) then (if ((((Q0a (Q0e aA (cA)) (wrap64 (((Q0e aA (cA)).length:Int) - 1))).f0)==((Q0a (Q0e aA bA) 0).f0)&&(((Q0a (Q0e aA (cA)) (wrap64 (((Q0e aA (cA)).length:Int) - 1))).f1)==((Q0a (Q0e aA bA) 0).f1)&&(((Q0a (Q0e aA (cA)) (wrap64 (((Q0e aA (cA)).length:Int) - 1))).f2)==((Q0a (Q0e aA bA) 0).f2))))=true) then (if 0≤(wrap64 (((Q0e aA bA).length:Int) - 1)) then (if (wrap64 (((Q0e aA bA).length:Int) - 1))≤((Q0e aA bA).length:Int) then ((some ((Q0e aA bA).take ((wrap64 (((Q0e aA bA).length:Int) - 1)):Int).toNat:List (S27))).bind fun pA=>(if nA.length+pA.length<5864062014805 then (Q02.l1 k2 aA (nA++pA) (((Q0a (Q0e aA (cA)) (wrap64 (((Q0e aA (cA)).length:Int) - 1))).f0)==((Q0a (Q0e aA bA) 0).f0)&&(((Q0a (Q0e aA (cA)) (wrap64 (((Q0e aA (cA)).length:Int) - 1))).f1)==((Q0a (Q0e aA bA) 0).f1)&&(((Q0a (Q0e aA (cA)) (wrap64 (((Q0e aA (cA)).length:Int) - 1))).f2)==((Q0a (Q0e aA bA) 0).f2)))) aA (aA.length:Int) (wrap64 (bA+1))) else (none))) else (none)) else (none)) else (some (([]:List (S27)),90))) else (none)) else (none)) else (none)) else (none)) else (none))=some (r1,r2):=by first|(rw [cD] at H;exact H)|(simp only [cD] at H ⊢;exact H)
          apply iN H;clear H;intro sH H
          ·apply iN H;clear H;intro tH H
           ·obtain ⟨eA,pC⟩:∃ j_:Int,(wrap64 (((Q0e aA (cA)).length:Int) - 1))=j_:=⟨_,rfl⟩
            replace H:(if 0≤(eA) then (if (eA)<((Q0e aA (cA)).length:Int) then (if 0<((Q0e aA bA).length:Int) then (if ((((Q0a (Q0e aA (cA)) (eA)).f0)==((Q0a (Q0e aA bA) 0).f0)&&(((Q0a (Q0e aA (cA)) (eA)).f1)==((Q0a (Q0e aA bA) 0).f1)&&(((Q0a (Q0e aA (cA)) (eA)).f2)==((Q0a (Q0e aA bA) 0).f2))))=true) then (if 0≤(wrap64 (((Q0e aA bA).length:Int) - 1)) then (if (wrap64 (((Q0e aA bA).length:Int) - 1))≤((Q0e aA bA).length:Int) then ((some ((Q0e aA bA).take ((wrap64 (((Q0e aA bA).length:Int) - 1)):Int).toNat:List (S27))).bind fun pA=>(if nA.length+pA.length<5864062014805 then (Q02.l1 k2 aA (nA++pA) (((Q0a (Q0e aA (cA)) (eA)).f0)==((Q0a (Q0e aA bA) 0).f0)&&(((Q0a (Q0e aA (cA)) (eA)).f1)==((Q0a (Q0e aA bA) 0).f1)&&(((Q0a (Q0e aA (cA)) (eA)).f2)==((Q0a (Q0e aA bA) 0).f2)))) aA (aA.length:Int) (wrap64 (bA+1))) else (none))) else (none)) else (none)) else (some (([]:List (S27)),90))) else (none)) else (none)) else (none))=some (r1,r2):=by first|(rw [pC] at H;exact H)|(simp only [pC] at H ⊢;exact H)
            have aH:(IntKind.i64.wrap (((Q0e aA (cA)).length:Int) - 1))=eA:=(Q1r _).trans pC
            apply iN H;clear H;intro uH H
            ·apply iN H;clear H;intro vH H
             ·by_cases nG:0<((Q0e aA bA).length:Int)
              ·rw [if_pos nG] at H
               have wH:=decide_eq_true nG
               have xH:decide (0<(Q0e aA bA).length)=true:=decide_eq_true (by omega)
               clear nG
               by_cases nD:((((Q0a (Q0e aA (cA)) (eA)).f0)==((Q0a (Q0e aA bA) 0).f0)&&(((Q0a (Q0e aA (cA)) (eA)).f1)==((Q0a (Q0e aA bA) 0).f1)&&(((Q0a (Q0e aA (cA)) (eA)).f2)==((Q0a (Q0e aA bA) 0).f2))))=true)
               ·rw [if_pos nD] at H
                have eF:(((Q0a (Q0e aA (cA)) (eA)).f0)==((Q0a (Q0e aA bA) 0).f0)&&(((Q0a (Q0e aA (cA)) (eA)).f1)==((Q0a (Q0e aA bA) 0).f1)&&(((Q0a (Q0e aA (cA)) (eA)).f2)==((Q0a (Q0e aA bA) 0).f2))))=true:=nD
                (try (have fF:decide (((Q0a (Q0e aA (cA)) (eA)).f0)=((Q0a (Q0e aA bA) 0).f0)&&(((Q0a (Q0e aA (cA)) (eA)).f1)==((Q0a (Q0e aA bA) 0).f1)&&(((Q0a (Q0e aA (cA)) (eA)).f2)==((Q0a (Q0e aA bA) 0).f2))))=true:=by simpa using nD))
                (try (have gF:(((Q0a (Q0e aA (cA)) (eA)).f0)==((Q0a (Q0e aA bA) 0).f0)&&(((Q0a (Q0e aA (cA)) (eA)).f1)==((Q0a (Q0e aA bA) 0).f1)&&(((Q0a (Q0e aA (cA)) (eA)).f2)==((Q0a (Q0e aA bA) 0).f2))))=true:=by simpa using nD))
                clear nD
                obtain ⟨xB,oD⟩:∃ j_:Int,(wrap64 (((Q0e aA bA).length:Int) - 1))=j_:=⟨_,rfl⟩
                replace H:(if 0≤(xB) then (if (xB)≤((Q0e aA bA).length:Int) then ((some ((Q0e aA bA).take ((xB):Int).toNat:List (S27))).bind fun pA=>(if nA.length+pA.length<5864062014805 then (Q02.l1 k2 aA (nA++pA) (((Q0a (Q0e aA (cA)) (eA)).f0)==((Q0a (Q0e aA bA) 0).f0)&&(((Q0a (Q0e aA (cA)) (eA)).f1)==((Q0a (Q0e aA bA) 0).f1)&&(((Q0a (Q0e aA (cA)) (eA)).f2)==((Q0a (Q0e aA bA) 0).f2)))) aA (aA.length:Int) (wrap64 (bA+1))) else (none))) else (none)) else (none))=some (r1,r2):=by first|(rw [oD] at H;exact H)|(simp only [oD] at H ⊢;exact H)
                have cH:(IntKind.i64.wrap (((Q0e aA bA).length:Int) - 1))=xB:=(Q1r _).trans oD
                by_cases hF:0≤(xB)
                ·rw [if_pos hF] at H
                 have yH:=eq_true hF;have zH:=decide_eq_true hF;clear hF
                 by_cases jF:(xB)≤((Q0e aA bA).length:Int)
                 ·rw [if_pos jF] at H
                  have aI:=eq_true jF;have bI:=decide_eq_true jF;clear jF
                  obtain ⟨pA,qC⟩:∃ y_:List (S27),y_=((Q0e aA bA).take ((xB):Int).toNat):=⟨_,rfl⟩
                  replace H:(if nA.length+pA.length<5864062014805 then (Q02.l1 k2 aA (nA++pA) (((Q0a (Q0e aA (cA)) (eA)).f0)==((Q0a (Q0e aA bA) 0).f0)&&(((Q0a (Q0e aA (cA)) (eA)).f1)==((Q0a (Q0e aA bA) 0).f1)&&(((Q0a (Q0e aA (cA)) (eA)).f2)==((Q0a (Q0e aA bA) 0).f2)))) aA (aA.length:Int) (wrap64 (bA+1))) else (none))=some (r1,r2):=by first|(rw [qC];with_reducible exact H)|(have jD:=(Option.bind_some _ _).symm.trans H;rw [qC];with_reducible exact jD)|(have jD:=(Option.bind_some _ _).symm.trans H;with_reducible exact jD)|with_reducible exact H|(rw [qC];exact H)|exact H
                  have kE:=AM qC
                  clear qC
                  by_cases oG:nA.length+pA.length<5864062014805
                  ·rw [if_pos oG] at H
                   have qD:=AM oG
                   clear oG
                   obtain ⟨kF,rC⟩:∃ y_:List (S27),y_=(nA++pA):=⟨_,rfl⟩
                   replace H:(Q02.l1 k2 aA kF (((Q0a (Q0e aA (cA)) (eA)).f0)==((Q0a (Q0e aA bA) 0).f0)&&(((Q0a (Q0e aA (cA)) (eA)).f1)==((Q0a (Q0e aA bA) 0).f1)&&(((Q0a (Q0e aA (cA)) (eA)).f2)==((Q0a (Q0e aA bA) 0).f2)))) aA (aA.length:Int) (wrap64 (bA+1)))=some (r1,r2):=by first|(rw [rC];with_reducible exact H)|(have jD:=(Option.bind_some _ _).symm.trans H;rw [rC];with_reducible exact jD)|(have jD:=(Option.bind_some _ _).symm.trans H;with_reducible exact jD)|with_reducible exact H|(rw [rC];exact H)|exact H
                   have rD:=AM rC
                   clear rC
                   have H':=AM H
                   clear H
                   have bC:0≤(bA:Int):=pD
                   have cC:bA<(aA.length:Int):=pD
                   obtain ⟨iB,mE,dC,nE,eC,jB,lB⟩:=Q30 (Kd.Q4o HO_43.out).2.2 bA bC cC
                   cases nE
                   obtain ⟨lF,tC,uC,yB⟩:=Kd.Qed HO_43.out [] bA bC (by first|exact cC|exact pD|(have e_:=(Kd.Q4o HO_43.out).1;omega))
                   obtain ⟨vD,rfl,qA⟩:=uC
                   have kA:=yB 0 _ rfl
                   rw [Nat.add_zero,show ((Kd.slice 27 k27)).sz=1 from rfl,Nat.mul_one] at kA
                   replace kA:=Option.some.inj (kA.symm.trans eC)
                   rw [kA] at qA
                   have rA:=AM (show Kd.R k27 27 _ _ _ _ (Q0e aA bA) from qA)
                   clear kA qA;clear yB tC
                   have sA:=AM lB
                   have dD:=AM jB
                   clear lB jB;replace bC:=eq_true bC;replace cC:=eq_true cC
                   have fC:0≤((cA):Int):=pD
                   have gC:(cA)<(aA.length:Int):=pD
                   obtain ⟨sD,oE,pE,qE,hC,mB,nB⟩:=Q30 (Kd.Q4o HO_6.out).2.2 (cA) fC gC
                   obtain rfl:iB=sD:=(by injection qE)
                   obtain ⟨mF,vC,wC,zB⟩:=Kd.Qed HO_6.out [] (cA) fC (by first|exact gC|exact pD|(have e_:=(Kd.Q4o HO_6.out).1;omega))
                   obtain ⟨wD,rfl,tA⟩:=wC
                   have lA:=zB 0 _ rfl
                   rw [Nat.add_zero,show ((Kd.slice 27 k27)).sz=1 from rfl,Nat.mul_one] at lA
                   replace lA:=Option.some.inj (lA.symm.trans hC)
                   rw [lA] at tA
                   have uA:=AM (show Kd.R k27 27 _ _ _ _ (Q0e aA (cA)) from tA)
                   clear lA tA;clear zB vC
                   have oB:=AM nB
                   have xD:=AM mB
                   clear nB mB;replace fC:=eq_true fC;replace gC:=eq_true gC
                   have xC:0≤((eA):Int):=pD
                   have yC:(eA)<((Q0e aA (cA)).length:Int):=pD
                   obtain ⟨nF,sE,yD,zD,aE⟩:=Q2i (by repeat (first|(with_reducible exact oB.out)|(with_reducible refine Kd.Q3m ?_ _)|(with_reducible refine Kd.Q3n ?_ _)|(with_reducible refine Kd.Q33 ?_)|exact oB.out)) (eA) xC yC
                   cases sE
                   replace xC:=eq_true xC;replace yC:=eq_true yC
                   have zC:0≤(0:Int):=(by omega)
                   have aD:0<((Q0e aA bA).length:Int):=pD
                   obtain ⟨tD,tE,vA,wA,xA⟩:=Q2i (by repeat (first|(with_reducible exact sA.out)|(with_reducible refine Kd.Q3m ?_ _)|(with_reducible refine Kd.Q3n ?_ _)|(with_reducible refine Kd.Q33 ?_)|exact sA.out)) 0 zC aD
                   cases tE
                   have oF:(0<(Q0e aA bA).length)=True:=eq_true (by omega)
                   (try rw [show ((0:Int)).toNat=0 from rfl] at vA)
                   (try rw [show 0*3=0 from rfl] at vA)
                   (try rw [Addr.add_zero'] at vA)
                   (try rw [show ((0:Int)).toNat=0 from rfl] at wA)
                   (try rw [show 0*3=0 from rfl] at wA)
                   (try rw [Addr.add_zero'] at wA)
                   (try rw [show ((0:Int)).toNat=0 from rfl] at xA)
                   (try rw [show 0*3=0 from rfl] at xA)
                   (try rw [Addr.add_zero'] at xA)
                   replace zC:=eq_true zC;replace aD:=eq_true aD
                   have dH:((xB):Int)≤(((Q0e aA bA).length:Int):Int):=pD
                   obtain ⟨nI,lE,_,pF,_⟩:=info_parts info27
                   have eD:(Q0e aA bA).length≤dC:=dD.out
                   have qF:Kd.C k27 _ (some tD) (Q0e aA bA).length (Q0e aA bA):=(by repeat (first|(with_reducible exact sA.out)|(with_reducible refine Kd.Q3m ?_ _)|(with_reducible refine Kd.Q3n ?_ _)|(with_reducible refine Kd.Q33 ?_)|exact sA.out))
                   have uE:=Qb0 (P:=Try.prog) 31 27 .i64 Try.underlying31 lE (some tD) (Q0e aA bA).length dC (xB) (pD) dH eD
                   have vE:=Kd.Q8t (m:=((xB):Int).toNat) qF (by omega)
                   have wE:pA.length=((xB):Int).toNat:=(by rw [kE.out,List.length_take];omega)
                   rw [← kE.out] at vE
                   rw [← wE] at uE
                   have aC:=AM vE
                   have cI:=AM (show pA.length≤dC from by omega)
                   clear vE qF eD lE pF
                   have oI:=AM wE
                   clear wE;replace dH:=eq_true dH
                   go_wp2_with (first|go_step3|((with_reducible refine Q1v (b:=.append) (xs:=#[.tmp 73,.tmp 78]) rfl ?_);(try (refine Q2e (by rfl) ?_;dsimp only));at_builtin;refine Kd.Q3h k27 (w0:=w) w.heap.size rfl (.tmp 73) (.tmp 78) 31 27 (.agg #[(.int .i64 0),(.int .i64 0),(.int .i64 0)]) 24 rfl Try.underlying31 info27 rfl (by decide) (by omega) u11 nA pA _ _ _ (fun _=>True) (fun _=>False) rfl rfl ?aO ?aR (fun _ _ h=>h) (fun _ h=>h.elim) ?aF ?aB ?aS ?aL ?_;(case aR=>repeat (first|exact (by repeat (first|(with_reducible exact aC.out)|(with_reducible refine Kd.Q3m ?_ _)|(with_reducible refine Kd.Q3n ?_ _)|(with_reducible refine Kd.Q33 ?_)|exact aC.out))|(with_reducible refine Kd.Q3m ?_ _)|(with_reducible refine Kd.Q3n ?_ _)|(with_reducible refine Kd.Q33 ?_)));(case aB=>exact (bH HB));(case aF=>exact (fun _ _=>trivial));(case aO=>exact (rK HO_11));(case aS=>exact (Q0h (bH HB)));(case aL=>have:=qD.out;omega);intro rF dI ho hb hg hat;rw [← rD.out] at ho;replace HO_6:=AM (Kd.Q54 (ok:=(fun _=>True)) (by (with_reducible repeat (first|apply Kd.Q27|apply Kd.Q26|apply Kd.Q3l));exact Kd.Q4r HO_6.out (fun _ hk=>⟨trivial,hk⟩)) hg hat);replace HO_43:=AM (Kd.Q54 (ok:=(fun _=>True)) (by (with_reducible repeat (first|apply Kd.Q27|apply Kd.Q26|apply Kd.Q3l));exact Kd.Q4r HO_43.out (fun _ hk=>⟨trivial,hk⟩)) hg hat);replace dA:=AM (Q1w (g:=zA) (o:=.cells #[.slice pB hA.length qB,.slice rB iA.length sB,.slice tB jA.length uB] 25 (0,0)) (bK dA) hg (Kd.R_ne HO_11.out dA.out (by decide)));replace rA:=AM (Kd.Q3w (ok:=(fun k_=>some k_≠(.slice (some iB) aA.length oC:Value).ownBlock)) (by (with_reducible repeat (first|apply Kd.Q10|apply Kd.Q11|apply Kd.Q2h));exact Kd.Q1q rA.out (fun _ hk=>⟨hk.2,hk.1⟩)) hg hat);replace uA:=AM (Kd.Q3w (ok:=(fun k_=>some k_≠(.slice (some iB) aA.length oC:Value).ownBlock)) (by (with_reducible repeat (first|apply Kd.Q10|apply Kd.Q11|apply Kd.Q2h));exact Kd.Q1q uA.out (fun _ hk=>⟨hk.2,hk.1⟩)) hg hat);replace HB:=AM hb;have uD:=AM ho;clear HO_11;clear ho hb hg hat))
                   repeat (go_quiet (first|((with_reducible refine Q1v (b:=.append) (xs:=#[.tmp 73,.tmp 78]) rfl ?_);(try (refine Q2e (by rfl) ?_;dsimp only));at_builtin;refine Kd.Q3h k27 (w0:=w) w.heap.size rfl (.tmp 73) (.tmp 78) 31 27 (.agg #[(.int .i64 0),(.int .i64 0),(.int .i64 0)]) 24 rfl Try.underlying31 info27 rfl (by decide) (by omega) u11 nA pA _ _ _ (fun _=>True) (fun _=>False) rfl rfl ?aO ?aR (fun _ _ h=>h) (fun _ h=>h.elim) ?aF ?aB ?aS ?aL ?_;(case aR=>repeat (first|exact (by repeat (first|(with_reducible exact aC.out)|(with_reducible refine Kd.Q3m ?_ _)|(with_reducible refine Kd.Q3n ?_ _)|(with_reducible refine Kd.Q33 ?_)|exact aC.out))|(with_reducible refine Kd.Q3m ?_ _)|(with_reducible refine Kd.Q3n ?_ _)|(with_reducible refine Kd.Q33 ?_)));(case aB=>exact (bH HB));(case aF=>exact (fun _ _=>trivial));(case aO=>exact (rK HO_11));(case aS=>exact (Q0h (bH HB)));(case aL=>have:=qD.out;omega);intro rF dI ho hb hg hat;rw [← rD.out] at ho;replace HO_6:=AM (Kd.Q54 (ok:=(fun _=>True)) (by (with_reducible repeat (first|apply Kd.Q27|apply Kd.Q26|apply Kd.Q3l));exact Kd.Q4r HO_6.out (fun _ hk=>⟨trivial,hk⟩)) hg hat);replace HO_43:=AM (Kd.Q54 (ok:=(fun _=>True)) (by (with_reducible repeat (first|apply Kd.Q27|apply Kd.Q26|apply Kd.Q3l));exact Kd.Q4r HO_43.out (fun _ hk=>⟨trivial,hk⟩)) hg hat);replace dA:=AM (Q1w (g:=zA) (o:=.cells #[.slice pB hA.length qB,.slice rB iA.length sB,.slice tB jA.length uB] 25 (0,0)) (bK dA) hg (Kd.R_ne HO_11.out dA.out (by decide)));replace rA:=AM (Kd.Q3w (ok:=(fun k_=>some k_≠(.slice (some iB) aA.length oC:Value).ownBlock)) (by (with_reducible repeat (first|apply Kd.Q10|apply Kd.Q11|apply Kd.Q2h));exact Kd.Q1q rA.out (fun _ hk=>⟨hk.2,hk.1⟩)) hg hat);replace uA:=AM (Kd.Q3w (ok:=(fun k_=>some k_≠(.slice (some iB) aA.length oC:Value).ownBlock)) (by (with_reducible repeat (first|apply Kd.Q10|apply Kd.Q11|apply Kd.Q2h));exact Kd.Q1q uA.out (fun _ hk=>⟨hk.2,hk.1⟩)) hg hat);replace HB:=AM hb;have uD:=AM ho;clear HO_11;clear ho hb hg hat));try go_wp2_with (first|go_step3|((with_reducible refine Q1v (b:=.append) (xs:=#[.tmp 73,.tmp 78]) rfl ?_);(try (refine Q2e (by rfl) ?_;dsimp only));at_builtin;refine Kd.Q3h k27 (w0:=w) w.heap.size rfl (.tmp 73) (.tmp 78) 31 27 (.agg #[(.int .i64 0),(.int .i64 0),(.int .i64 0)]) 24 rfl Try.underlying31 info27 rfl (by decide) (by omega) u11 nA pA _ _ _ (fun _=>True) (fun _=>False) rfl rfl ?aO ?aR (fun _ _ h=>h) (fun _ h=>h.elim) ?aF ?aB ?aS ?aL ?_;(case aR=>repeat (first|exact (by repeat (first|(with_reducible exact aC.out)|(with_reducible refine Kd.Q3m ?_ _)|(with_reducible refine Kd.Q3n ?_ _)|(with_reducible refine Kd.Q33 ?_)|exact aC.out))|(with_reducible refine Kd.Q3m ?_ _)|(with_reducible refine Kd.Q3n ?_ _)|(with_reducible refine Kd.Q33 ?_)));(case aB=>exact (bH HB));(case aF=>exact (fun _ _=>trivial));(case aO=>exact (rK HO_11));(case aS=>exact (Q0h (bH HB)));(case aL=>have:=qD.out;omega);intro rF dI ho hb hg hat;rw [← rD.out] at ho;replace HO_6:=AM (Kd.Q54 (ok:=(fun _=>True)) (by (with_reducible repeat (first|apply Kd.Q27|apply Kd.Q26|apply Kd.Q3l));exact Kd.Q4r HO_6.out (fun _ hk=>⟨trivial,hk⟩)) hg hat);replace HO_43:=AM (Kd.Q54 (ok:=(fun _=>True)) (by (with_reducible repeat (first|apply Kd.Q27|apply Kd.Q26|apply Kd.Q3l));exact Kd.Q4r HO_43.out (fun _ hk=>⟨trivial,hk⟩)) hg hat);replace dA:=AM (Q1w (g:=zA) (o:=.cells #[.slice pB hA.length qB,.slice rB iA.length sB,.slice tB jA.length uB] 25 (0,0)) (bK dA) hg (Kd.R_ne HO_11.out dA.out (by decide)));replace rA:=AM (Kd.Q3w (ok:=(fun k_=>some k_≠(.slice (some iB) aA.length oC:Value).ownBlock)) (by (with_reducible repeat (first|apply Kd.Q10|apply Kd.Q11|apply Kd.Q2h));exact Kd.Q1q rA.out (fun _ hk=>⟨hk.2,hk.1⟩)) hg hat);replace uA:=AM (Kd.Q3w (ok:=(fun k_=>some k_≠(.slice (some iB) aA.length oC:Value).ownBlock)) (by (with_reducible repeat (first|apply Kd.Q10|apply Kd.Q11|apply Kd.Q2h));exact Kd.Q1q uA.out (fun _ hk=>⟨hk.2,hk.1⟩)) hg hat);replace HB:=AM hb;have uD:=AM ho;clear HO_11;clear ho hb hg hat)))
                   go_roundg k2
                   case measure=>have:=sF.out;have:=lH.out;omega
                   case rel=>exact ⟨(kF),((((Q0a (Q0e aA (cA)) (eA)).f0)==((Q0a (Q0e aA bA) 0).f0)&&(((Q0a (Q0e aA (cA)) (eA)).f1)==((Q0a (Q0e aA bA) 0).f1)&&(((Q0a (Q0e aA (cA)) (eA)).f2)==((Q0a (Q0e aA bA) 0).f2))))),(wrap64 (bA+1)),(by first|rfl|exact congrArg Value.bool (Eq.symm (by with_reducible assumption))|(simp;done)|(simp only [← cD,← pC]<;>(first|rfl|simp))|(simp [*];done)),(by first|rfl|exact congrArg Value.bool (Eq.symm (by with_reducible assumption))|(simp;done)|(simp [*];done)),H',⟨by have:=sF.out;have:=lH.out;omega⟩,⟨by (with_reducible repeat (first|apply Kd.Q27|apply Kd.Q26|apply Kd.Q3l));exact Kd.Q4r HO_6.out (fun _ hk=>hk.2)⟩,⟨rK uD⟩,⟨by (with_reducible repeat (first|apply Kd.Q27|apply Kd.Q26|apply Kd.Q3l));exact Kd.Q4r HO_43.out (fun _ hk=>hk.2)⟩,⟨bK dA⟩,⟨ bH HB⟩⟩
                  ·rw [if_neg oG] at H
                   exact absurd H (by simp)
                 ·rw [if_neg jF] at H
                  exact absurd H (by simp)
                ·rw [if_neg hF] at H
                 exact absurd H (by simp)
               ·rw [if_neg nD] at H
                have eF:(((Q0a (Q0e aA (cA)) (eA)).f0)==((Q0a (Q0e aA bA) 0).f0)&&(((Q0a (Q0e aA (cA)) (eA)).f1)==((Q0a (Q0e aA bA) 0).f1)&&(((Q0a (Q0e aA (cA)) (eA)).f2)==((Q0a (Q0e aA bA) 0).f2))))=false:=by simpa using nD
                (try (have fF:decide (((Q0a (Q0e aA (cA)) (eA)).f0)=((Q0a (Q0e aA bA) 0).f0)&&(((Q0a (Q0e aA (cA)) (eA)).f1)==((Q0a (Q0e aA bA) 0).f1)&&(((Q0a (Q0e aA (cA)) (eA)).f2)==((Q0a (Q0e aA bA) 0).f2))))=false:=by simpa using nD))
                (try (have gF:(((Q0a (Q0e aA (cA)) (eA)).f0)==((Q0a (Q0e aA bA) 0).f0)&&(((Q0a (Q0e aA (cA)) (eA)).f1)==((Q0a (Q0e aA bA) 0).f1)&&(((Q0a (Q0e aA (cA)) (eA)).f2)==((Q0a (Q0e aA bA) 0).f2))))=false:=by simpa using nD))
                (try (have eI:¬ (((Q0a (Q0e aA (cA)) (eA)).f0)=((Q0a (Q0e aA bA) 0).f0)&&(((Q0a (Q0e aA (cA)) (eA)).f1)==((Q0a (Q0e aA bA) 0).f1)&&(((Q0a (Q0e aA (cA)) (eA)).f2)==((Q0a (Q0e aA bA) 0).f2)))):=by simpa using nD))
                clear nD
                simp only [Option.some.injEq,Prod.mk.injEq] at H
                obtain ⟨rfl,rfl⟩:=H
                have bC:0≤(bA:Int):=pD
                have cC:bA<(aA.length:Int):=pD
                obtain ⟨iB,mE,dC,nE,eC,jB,lB⟩:=Q30 (Kd.Q4o HO_43.out).2.2 bA bC cC
                cases nE
                obtain ⟨lF,tC,uC,yB⟩:=Kd.Qed HO_43.out [] bA bC (by first|exact cC|exact pD|(have e_:=(Kd.Q4o HO_43.out).1;omega))
                obtain ⟨vD,rfl,qA⟩:=uC
                have kA:=yB 0 _ rfl
                rw [Nat.add_zero,show ((Kd.slice 27 k27)).sz=1 from rfl,Nat.mul_one] at kA
                replace kA:=Option.some.inj (kA.symm.trans eC)
                rw [kA] at qA
                have rA:=AM (show Kd.R k27 27 _ _ _ _ (Q0e aA bA) from qA)
                clear kA qA;clear yB tC
                have sA:=AM lB
                have dD:=AM jB
                clear lB jB;replace bC:=eq_true bC;replace cC:=eq_true cC
                have fC:0≤((cA):Int):=pD
                have gC:(cA)<(aA.length:Int):=pD
                obtain ⟨sD,oE,pE,qE,hC,mB,nB⟩:=Q30 (Kd.Q4o HO_6.out).2.2 (cA) fC gC
                obtain rfl:iB=sD:=(by injection qE)
                obtain ⟨mF,vC,wC,zB⟩:=Kd.Qed HO_6.out [] (cA) fC (by first|exact gC|exact pD|(have e_:=(Kd.Q4o HO_6.out).1;omega))
                obtain ⟨wD,rfl,tA⟩:=wC
                have lA:=zB 0 _ rfl
                rw [Nat.add_zero,show ((Kd.slice 27 k27)).sz=1 from rfl,Nat.mul_one] at lA
                replace lA:=Option.some.inj (lA.symm.trans hC)
                rw [lA] at tA
                have uA:=AM (show Kd.R k27 27 _ _ _ _ (Q0e aA (cA)) from tA)
                clear lA tA;clear zB vC
                have oB:=AM nB
                have xD:=AM mB
                clear nB mB;replace fC:=eq_true fC;replace gC:=eq_true gC
                have xC:0≤((eA):Int):=pD
                have yC:(eA)<((Q0e aA (cA)).length:Int):=pD
                obtain ⟨nF,sE,yD,zD,aE⟩:=Q2i (by repeat (first|(with_reducible exact oB.out)|(with_reducible refine Kd.Q3m ?_ _)|(with_reducible refine Kd.Q3n ?_ _)|(with_reducible refine Kd.Q33 ?_)|exact oB.out)) (eA) xC yC
                cases sE
                replace xC:=eq_true xC;replace yC:=eq_true yC
                have zC:0≤(0:Int):=(by omega)
                have aD:0<((Q0e aA bA).length:Int):=pD
                obtain ⟨tD,tE,vA,wA,xA⟩:=Q2i (by repeat (first|(with_reducible exact sA.out)|(with_reducible refine Kd.Q3m ?_ _)|(with_reducible refine Kd.Q3n ?_ _)|(with_reducible refine Kd.Q33 ?_)|exact sA.out)) 0 zC aD
                cases tE
                have oF:(0<(Q0e aA bA).length)=True:=eq_true (by omega)
                (try rw [show ((0:Int)).toNat=0 from rfl] at vA)
                (try rw [show 0*3=0 from rfl] at vA)
                (try rw [Addr.add_zero'] at vA)
                (try rw [show ((0:Int)).toNat=0 from rfl] at wA)
                (try rw [show 0*3=0 from rfl] at wA)
                (try rw [Addr.add_zero'] at wA)
                (try rw [show ((0:Int)).toNat=0 from rfl] at xA)
                (try rw [show 0*3=0 from rfl] at xA)
                (try rw [Addr.add_zero'] at xA)
                replace zC:=eq_true zC;replace aD:=eq_true aD
                go_wp2_with (go_step3)
                repeat (go_quiet (fail);try go_wp2)
                (try rw [Exit.noGoto_ret])
                go_ret2
                exact ⟨_,by first|rfl|(simp [Q24,Q23]<;>rfl)|(simp only [← cD,← pC];first|rfl|(simp [Q24,Q23]<;>rfl))|(simp [*,Q24,Q23]<;>rfl),by first|exact Kd.Q3k _ _ _ _ _|exact Kd.Q3t _ _ _ _ _|exact Kd.Q3x _ _ _ _ _|exact Kd.Q3v _ _ _ _ _|exact Kd.Q3y _ _ _ _ _,bH HB⟩
              ·rw [if_neg nG] at H
               exact absurd H (by simp)
      ·by_cases pG:bD=true
       ·subst pG
        replace H:=iT H
        simp only [Option.some.injEq,Prod.mk.injEq] at H
        obtain ⟨rfl,rfl⟩:=H
        go_wp2_with (go_step3)
        repeat (go_quiet (fail);try go_wp2)
        (try rw [Exit.noGoto_ret])
        go_ret2
        exact ⟨_,rE,rK HO_11,bH HB⟩
       ·replace pG:=Bool.eq_false_iff.mpr pG
        subst pG
        replace H:=iF H
        simp only [Option.some.injEq,Prod.mk.injEq] at H
        obtain ⟨rfl,rfl⟩:=H
        go_wp2_with (go_step3)
        repeat (go_quiet (fail);try go_wp2)
        (try rw [Exit.noGoto_ret])
        go_ret2
        exact ⟨_,rE,by first|exact Kd.Q3k _ _ _ _ _|exact Kd.Q3t _ _ _ _ _|exact Kd.Q3x _ _ _ _ _|exact Kd.Q3v _ _ _ _ _|exact Kd.Q3y _ _ _ _ _,bH HB⟩
end Go.Proofs.Ytbonkedecfjmdaa.P
