/- Written for this claim by a program of this session (a turned copy of the print): Go functions as Lean functions, and that the Go code comes to just these answers; or a statement proved out of them. No condition. -/
import Derived.Test.YtbonkedecfjmdaaZ2
import Derived.Test.YtbonkedecfjmdaaZ3

namespace Go.Proofs.Ytbonkedecfjmdaa.P
open Go.RowKit Go.Proofs.YtbonkedecfjmdaaW.PrintWords Go.Proofs.YtbonkedecfjmdaaW.PrintLast Go.Proofs.YtbonkedecfjmdaaW.PrintMore Go.Proofs.Ytbonkedecfjmdaa.X
attribute [local go_sem] Q2a Q2b Q2s Q2q Q1z Q1y Q19 Q2c Q2r Q2p add64
set_option linter.unusedVariables false
set_option linter.unusedSimpArgs false
mutual
def Q1e.j0:Nat→Int→List (S27)→Int→List (List (S27))→List (List Int)→List (List Int)→Option ((List (S27))×Int)
 | 0,_,_,_,_,_,_=>none
 | k+1,x1,x6,x7,x106000,x106001,x106002=>if x7<0 then (Q1e.j1 k x1 x6 x7 true x106000 x106001 x106002) else (Q1e.j1 k x1 x6 x7 (decide (x7≥(x106000.length:Int))) x106000 x106001 x106002)
def Q1e.j1:Nat→Int→List (S27)→Int→Bool→List (List (S27))→List (List Int)→List (List Int)→Option ((List (S27))×Int)
 | 0,_,_,_,_,_,_,_=>none
 | k+1,x1,x6,x7,x23,x106000,x106001,x106002=>if x23=true then (some (([]:List (S27)),2)) else (if 0≤x7 then (if x7<(x106000.length:Int) then (Q1e.l0 k x1 x6 (Q0e x106000 x7) 0) else (none)) else (none))
def Q1e.l0:Nat→Int→List (S27)→List (S27)→Int→Option ((List (S27))×Int)
 | 0,_,_,_,_=>none
 | k+1,x1,x6,x8,x9=>if x9<(x8.length:Int) then (if x1<0 then (if 0≤(wrap64 ((wrap64 ((x8.length:Int) - 1)) - x9)) then (if (wrap64 ((wrap64 ((x8.length:Int) - 1)) - x9))<(x8.length:Int) then (if x6.length<5864062014805 then (Q1e.l0 k x1 (x6++[(⟨(Q0a x8 (wrap64 ((wrap64 ((x8.length:Int) - 1)) - x9))).f0,(Q0a x8 (wrap64 ((wrap64 ((x8.length:Int) - 1)) - x9))).f1,(Q0a x8 (wrap64 ((wrap64 ((x8.length:Int) - 1)) - x9))).f2⟩:S27)]) x8 (wrap64 (x9+1))) else (none)) else (none)) else (none)) else (if 0≤x9 then (if x6.length<5864062014805 then (Q1e.l0 k x1 (x6++[(⟨(Q0a x8 x9).f0,(Q0a x8 x9).f1,(Q0a x8 x9).f2⟩:S27)]) x8 (wrap64 (x9+1))) else (none)) else (none))) else (some (x6,0))
end
def Q1e.f (k:Nat) (aA:List (List (S27))) (fA:List (List Int)) (gA:List (List Int)) (a1:Int):Option ((List (S27))×Int):=if a1<0 then (Q1e.j0 k a1 ([]:List (S27)) (wrap64 ((-1) - a1)) aA fA gA) else (Q1e.j0 k a1 ([]:List (S27)) a1 aA fA gA)
theorem Q1e.Q1a:∀ k,(∀ y0 y1 y2 y3 y4 y5,LeO (Q1e.j0 k y0 y1 y2 y3 y4 y5) (Q1e.j0 (k+1) y0 y1 y2 y3 y4 y5))∧(∀ y0 y1 y2 y3 y4 y5 y6,LeO (Q1e.j1 k y0 y1 y2 y3 y4 y5 y6) (Q1e.j1 (k+1) y0 y1 y2 y3 y4 y5 y6))∧(∀ y0 y1 y2 y3,LeO (Q1e.l0 k y0 y1 y2 y3) (Q1e.l0 (k+1) y0 y1 y2 y3))
 | 0=>⟨fun _ _ _ _ _ _ r h=>by simp [Q1e.j0] at h,fun _ _ _ _ _ _ _ r h=>by simp [Q1e.j1] at h,fun _ _ _ _ r h=>by simp [Q1e.l0] at h⟩
 | k+1=>by
  obtain ⟨tC,uC,vC⟩:=Q1e.Q1a k
  refine ⟨?_,?_,?_⟩
  all_goals
   intros
   first|unfold Q1e.j0|unfold Q1e.j1|unfold Q1e.l0
   repeat' with_reducible first|exact tC _ _ _ _ _ _|exact uC _ _ _ _ _ _ _|exact vC _ _ _ _|exact LeO.refl _|exact LeO.none _|refine LeO.ite ?_ ?_|refine LeO.bind ?_ (fun _ => ?_)
theorem Q1e.mono:∀ a0 a1 a2 a3 k,LeO (Q1e.f k a0 a1 a2 a3) (Q1e.f (k+1) a0 a1 a2 a3):=by
 intro a0 a1 a2 a3 k
 obtain ⟨tC,uC,vC⟩:=Q1e.Q1a k
 unfold Q1e.f
 repeat' with_reducible first|exact tC _ _ _ _ _ _|exact uC _ _ _ _ _ _ _|exact vC _ _ _ _|exact LeO.refl _|exact LeO.none _|refine LeO.ite ?_ ?_|refine LeO.bind ?_ (fun _ => ?_)
set_option maxHeartbeats 8000000 in
set_option maxRecDepth 100000 in
theorem Q1e.calls (k:Nat) (cB:Option Addr) (jA:Nat) (aA:List (List (S27))) (kA:Option Addr) (lA:Nat) (fA:List (List Int)) (mA:Option Addr) (nA:Nat) (gA:List (List Int)) (a1:Int) (r1:List (S27)) (r2:Int) (w:World) (pB:Kd.C (Kd.slice 27 k27) w cB aA.length aA) (qB:aA.length≤jA) (rB:Kd.C (Kd.slice 3 (Kd.int .i64)) w kA fA.length fA) (sB:fA.length≤lA) (tB:Kd.C (Kd.slice 3 (Kd.int .i64)) w mA gA.length gA) (uB:gA.length≤nA) (h:Q1e.f k aA fA gA a1=some (r1,r2)) :
  Calls Try.prog 61 #[.agg #[.slice cB aA.length jA,.slice kA fA.length lA,.slice mA gA.length nA],.int .i64 a1] w fun e w'=>∃ v0_:Value,e=.returned (.tuple #[v0_,.int .i64 r2])∧Kd.R k27 27 w' w.heap.size (fun _=>True) v0_ r1∧Below w.heap.size w w':=by
 have yD:=Try.underlying25
 have zD:=Try.underlying27
 have bC:=AM pB
 have kD:=AM qB
 clear pB qB
 have lD:=AM rB
 have mD:=AM sB
 clear rB sB
 have nD:=AM tB
 have oD:=AM uB
 clear tB uB
 have HB:=AM (Below.refl w.heap.size w)
 have H:(if a1<0 then (Q1e.j0 k a1 ([]:List (S27)) (wrap64 ((-1) - a1)) aA fA gA) else (Q1e.j0 k a1 ([]:List (S27)) a1 aA fA gA))=some (r1,r2):=h
 clear h
 have wC:=AM H
 clear H
 go_enter Try.func61,Try.ntmps61
 go_upto_if 12 with (first|((with_reducible refine Q0i (N:=2) rfl ?_);(try (refine Q2e (by rfl) ?_;dsimp only));refine bE 2 #[.slice cB aA.length jA,.slice kA fA.length lA,.slice mA gA.length nA] 25 ?_;intro oA hg w4 hbox hb;have cA:=AM hbox;have cC:=kG HB hg;replace HB:=kH HB hb;have qD:=cC;clear hb hbox hg))
 (try simp only [Act.put,List.setIfInBounds_toArray,List.set_cons_zero,List.set_cons_succ])
 go_cut [7] (fun v7 wc=>∃ (kq:Nat) (bA:Int),v7=.int .i64 bA∧Aside0 (Q1e.j0 kq a1 ([]:List (S27)) bA aA fA gA=some (r1,r2))∧Aside0 (kq≤k)∧Aside0 (Kd.R k27 27 wc w.heap.size (fun _=>True) (.slice none 0 0) ([]:List (S27)))∧Aside0 (wc.heap[oA]? = some (.cells #[(.slice cB aA.length jA),(.slice kA fA.length lA),(.slice mA gA.length nA)] 25 (0,0)))∧Aside0 (Below w.heap.size w wc))
 case first =>
  have H:=wC.out;clear wC
  apply iC H<;>clear H<;>intro fB H
  ·(first|rw [fB]|(simp only [Q1r,Q13];rw [fB])|skip)
   have H':=AM H
   clear H
   go_wp2
   go_meet
   case rel=>exact ⟨_,(wrap64 ((-1) - a1)),rS,H',⟨by first|omega|exact Nat.le_refl _⟩,⟨by first|exact Kd.Q3k _ _ _ _ _|exact Kd.Q3t _ _ _ _ _|exact Kd.Q3x _ _ _ _ _|exact Kd.Q3v _ _ _ _ _|exact Kd.Q3y _ _ _ _ _⟩,⟨bK cA⟩,⟨ bH HB⟩⟩
  ·(first|rw [fB]|(simp only [Q1r,Q13];rw [fB])|skip)
   have H':=AM H
   clear H
   go_wp2
   go_meet
   case rel=>exact ⟨_,(a1),rS,H',⟨by first|omega|exact Nat.le_refl _⟩,⟨by first|exact Kd.Q3k _ _ _ _ _|exact Kd.Q3t _ _ _ _ _|exact Kd.Q3x _ _ _ _ _|exact Kd.Q3v _ _ _ _ _|exact Kd.Q3y _ _ _ _ _⟩,⟨bK cA⟩,⟨ bH HB⟩⟩
 case rest =>
  clear wC
  obtain ⟨kq,bA,rfl,HA,aC,HO_6,cA,HB⟩:=hcut
  cases kq with
  | zero=>exact absurd HA.out (by simp [Q1e.j0])
  | succ kj2 =>
   have H:=HA.out;clear HA
   simp only [Q1e.j0] at H
   have xC:=AM H
   clear H
   go_upto_region 5 with (fail)
   go_cut [23] (fun aE wc=>∃ (kq:Nat) (rA:Bool),aE=.bool rA∧Aside0 (Q1e.j1 kq a1 ([]:List (S27)) bA rA aA fA gA=some (r1,r2))∧Aside0 (kq≤kj2)∧Aside0 (Kd.R k27 27 wc w.heap.size (fun _=>True) (.slice none 0 0) ([]:List (S27)))∧Aside0 (wc.heap[oA]? = some (.cells #[(.slice cB aA.length jA),(.slice kA fA.length lA),(.slice mA gA.length nA)] 25 (0,0)))∧Aside0 (Below w.heap.size w wc))
   case first =>
    have H:=xC.out;clear xC
    apply iC H<;>clear H<;>intro gB H
    ·(first|rw [gB]|(simp only [Q1r,Q13];rw [gB])|skip)
     have H':=AM H
     clear H
     go_wp2
     go_meet
     case rel=>exact ⟨_,(true),rS,H',⟨by have:=aC.out;first|omega|exact Nat.le_refl _⟩,⟨rK HO_6⟩,⟨bK cA⟩,⟨ bH HB⟩⟩
    ·(first|rw [gB]|(simp only [Q1r,Q13];rw [gB])|skip)
     have H':=AM H
     clear H;obtain ⟨yC,zC,aD,bD,cD,dD⟩:=c3 cA
     go_wp2
     go_meet
     case rel=>exact ⟨_,(decide (bA≥(aA.length:Int))),rS,H',⟨by have:=aC.out;first|omega|exact Nat.le_refl _⟩,⟨rK HO_6⟩,⟨bK cA⟩,⟨ bH HB⟩⟩
   case rest =>
    clear xC
    obtain ⟨kq,rA,rfl,HA,oC,HO_6,cA,HB⟩:=hcut
    cases kq with
    | zero=>exact absurd HA.out (by simp [Q1e.j1])
    | succ kj5 =>
     have H:=HA.out;clear HA
     simp only [Q1e.j1] at H
     by_cases c9:rA=true
     ·subst c9
      replace H:=iT H
      simp only [Option.some.injEq,Prod.mk.injEq] at H
      obtain ⟨rfl,rfl⟩:=H
      go_wp2
      go_ret2
      exact ⟨_,rE,by first|exact Kd.Q3k _ _ _ _ _|exact Kd.Q3t _ _ _ _ _|exact Kd.Q3x _ _ _ _ _|exact Kd.Q3v _ _ _ _ _|exact Kd.Q3y _ _ _ _ _,bH HB⟩
     ·replace c9:=Bool.eq_false_iff.mpr c9
      subst c9
      replace H:=iF H
      apply iN H;clear H;intro dC H
      ·apply iN H;clear H;intro eC H
       ·have H':=AM H
        clear H;obtain ⟨hB,iB,jB,kB,lB,mB⟩:=c3 cA
        have nB:0≤(bA:Int):=pD
        have oB:bA<(aA.length:Int):=pD
        obtain ⟨dB,eD,fD,gD,iA,sA,tA⟩:=Q30 bC.out bA nB oB
        cases gD
        replace iA:=hW HB iA
        have uA:=AM tA
        have pC:=AM sA
        clear tA sA;replace nB:=eq_true nB;replace oB:=eq_true oB
        go_wp2
        go_loopg [6,9] kj5 (fun kq v6 v9 w'=>∃ (hA:List (S27)) (dA:Int),v9=.int .i64 dA∧Aside0 (Q1e.l0 kq a1 hA (Q0e aA bA) dA=some (r1,r2))∧Aside0 (kq≤kj5)∧Aside0 (Kd.R k27 27 w' w.heap.size (fun _=>True) v6 hA)∧Aside0 (w'.heap[oA]? = some (.cells #[(.slice (some dB) aA.length jA),(.slice kA fA.length lA),(.slice mA gA.length nA)] 25 (0,0)))∧Aside0 (Below w.heap.size w w'))
        case atStart=>exact ⟨(([]:List (S27))),(0),rS,H',⟨Nat.le_refl _⟩,⟨rK HO_6⟩,⟨bK cA⟩,⟨ bH HB⟩⟩
        case round =>
         clear H'
         clear dC eC hB iB jB kB lB mB iA nB oB
         obtain ⟨hA,dA,rfl,HA,qC,HO_6,cA,HB⟩:=hrel
         cases gk with
         | zero=>exact absurd HA.out (by simp [Q1e.l0])
         | succ k3 =>
          have H:=HA.out;clear HA
          simp only [Q1e.l0] at H
          apply iC H<;>clear H<;>intro rD H
          ·apply iC H<;>clear H<;>intro sD H
           ·obtain ⟨eA,eB⟩:∃ j_:Int,(wrap64 ((wrap64 (((Q0e aA bA).length:Int) - 1)) - dA))=j_:=⟨_,rfl⟩
            replace H:(if 0≤(eA) then (if (eA)<((Q0e aA bA).length:Int) then (if hA.length<5864062014805 then (Q1e.l0 k3 a1 (hA++[(⟨(Q0a (Q0e aA bA) (eA)).f0,(Q0a (Q0e aA bA) (eA)).f1,(Q0a (Q0e aA bA) (eA)).f2⟩:S27)]) (Q0e aA bA) (wrap64 (dA+1))) else (none)) else (none)) else (none))=some (r1,r2):=by first|(rw [eB] at H;exact H)|(simp only [eB] at H ⊢;exact H)
            have hD:(IntKind.i64.wrap ((wrap64 (((Q0e aA bA).length:Int) - 1)) - dA))=eA:=(Q1r _).trans eB
            apply iN H;clear H;intro tD H
            ·apply iN H;clear H;intro uD H
             ·by_cases rC:hA.length<5864062014805
              ·rw [if_pos rC] at H
               have fC:=AM rC
               clear rC
               obtain ⟨gC,pA⟩:∃ y_:List (S27),y_=(hA++[(⟨(Q0a (Q0e aA bA) (eA)).f0,(Q0a (Q0e aA bA) (eA)).f1,(Q0a (Q0e aA bA) (eA)).f2⟩:S27)]):=⟨_,rfl⟩
               replace H:(Q1e.l0 k3 a1 gC (Q0e aA bA) (wrap64 (dA+1)))=some (r1,r2):=by first|(rw [pA];with_reducible exact H)|(have vB:=(Option.bind_some _ _).symm.trans H;rw [pA];with_reducible exact vB)|(have vB:=(Option.bind_some _ _).symm.trans H;with_reducible exact vB)|with_reducible exact H|(rw [pA];exact H)|exact H
               have hC:=AM pA
               clear pA
               have H':=AM H
               clear H
               have wB:0≤((eA):Int):=pD
               have xB:(eA)<((Q0e aA bA).length:Int):=pD
               obtain ⟨vD,iD,vA,wA,xA⟩:=Q2i uA.out (eA) wB xB
               cases iD
               replace vA:=hW HB vA;replace wA:=hW HB wA;replace xA:=hW HB xA;replace wB:=eq_true wB;replace xB:=eq_true xB
               go_wp2_with (first|((with_reducible refine Q1v (b:=.append) (xs:=#[.tmp 37,.tmp 46]) rfl ?_);(try (refine Q2e (by rfl) ?_;dsimp only));at_builtin;refine Kd.Q3j k27 (w0:=w) w.heap.size rfl (.tmp 37) (.tmp 46) 31 27 (.agg #[(.int .i64 0),(.int .i64 0),(.int .i64 0)]) 24 rfl Try.underlying31 info27 rfl (by decide) (by omega) u6 hA (⟨(Q0a (Q0e aA bA) (eA)).f0,(Q0a (Q0e aA bA) (eA)).f1,(Q0a (Q0e aA bA) (eA)).f2⟩:S27) [.int .i64 ((Q0a (Q0e aA bA) (eA)).f0),.int .i64 ((Q0a (Q0e aA bA) (eA)).f1),.int .i64 ((Q0a (Q0e aA bA) (eA)).f2)] (fun _=>True) (fun _=>False) rfl rfl ?aP (fun _ hk=>hk.elim) ?aF ?aO ?aB ?aS ?aL ?_;(case aP=>exact Q2o _ _ _ (⟨(Q0a (Q0e aA bA) (eA)).f0,(Q0a (Q0e aA bA) (eA)).f1,(Q0a (Q0e aA bA) (eA)).f2⟩:S27));(case aB=>exact (bH HB));(case aF=>exact (fun _ _=>trivial));(case aO=>exact (rK HO_6));(case aS=>exact (Q0h (bH HB)));(case aL=>have:=fC.out;omega);intro cE eE ho hb hg hat;rw [← hC.out] at ho;replace cA:=AM (Q1w (g:=oA) (o:=.cells #[.slice (some dB) aA.length jA,.slice kA fA.length lA,.slice mA gA.length nA] 25 (0,0)) (bK cA) hg (Kd.R_ne HO_6.out cA.out (by decide)));replace HB:=AM hb;have jC:=AM ho;clear HO_6;clear ho hb hg hat))
               go_roundg k3
               case measure=>have:=aC.out;have:=oC.out;have:=qC.out;omega
               case rel=>exact ⟨(gC),(wrap64 (dA+1)),rS,H',⟨by have:=aC.out;have:=oC.out;have:=qC.out;omega⟩,⟨rK jC⟩,⟨bK cA⟩,⟨ bH HB⟩⟩
              ·rw [if_neg rC] at H
               exact absurd H (by simp)
           ·apply iN H;clear H;intro wD H
            ·by_cases sC:hA.length<5864062014805
             ·rw [if_pos sC] at H
              have kC:=AM sC
              clear sC
              obtain ⟨lC,qA⟩:∃ y_:List (S27),y_=(hA++[(⟨(Q0a (Q0e aA bA) dA).f0,(Q0a (Q0e aA bA) dA).f1,(Q0a (Q0e aA bA) dA).f2⟩:S27)]):=⟨_,rfl⟩
              replace H:(Q1e.l0 k3 a1 lC (Q0e aA bA) (wrap64 (dA+1)))=some (r1,r2):=by first|(rw [qA];with_reducible exact H)|(have vB:=(Option.bind_some _ _).symm.trans H;rw [qA];with_reducible exact vB)|(have vB:=(Option.bind_some _ _).symm.trans H;with_reducible exact vB)|with_reducible exact H|(rw [qA];exact H)|exact H
              have mC:=AM qA
              clear qA
              have H':=AM H
              clear H
              have yB:0≤(dA:Int):=pD
              have zB:dA<((Q0e aA bA).length:Int):=pD
              obtain ⟨xD,jD,yA,zA,bB⟩:=Q2i uA.out dA yB zB
              cases jD
              replace yA:=hW HB yA;replace zA:=hW HB zA;replace bB:=hW HB bB;replace yB:=eq_true yB;replace zB:=eq_true zB
              go_wp2_with (first|((with_reducible refine Q1v (b:=.append) (xs:=#[.tmp 48,.tmp 53]) rfl ?_);(try (refine Q2e (by rfl) ?_;dsimp only));at_builtin;refine Kd.Q3j k27 (w0:=w) w.heap.size rfl (.tmp 48) (.tmp 53) 31 27 (.agg #[(.int .i64 0),(.int .i64 0),(.int .i64 0)]) 24 rfl Try.underlying31 info27 rfl (by decide) (by omega) u6 hA (⟨(Q0a (Q0e aA bA) dA).f0,(Q0a (Q0e aA bA) dA).f1,(Q0a (Q0e aA bA) dA).f2⟩:S27) [.int .i64 ((Q0a (Q0e aA bA) dA).f0),.int .i64 ((Q0a (Q0e aA bA) dA).f1),.int .i64 ((Q0a (Q0e aA bA) dA).f2)] (fun _=>True) (fun _=>False) rfl rfl ?aP (fun _ hk=>hk.elim) ?aF ?aO ?aB ?aS ?aL ?_;(case aP=>exact Q2o _ _ _ (⟨(Q0a (Q0e aA bA) dA).f0,(Q0a (Q0e aA bA) dA).f1,(Q0a (Q0e aA bA) dA).f2⟩:S27));(case aB=>exact (bH HB));(case aF=>exact (fun _ _=>trivial));(case aO=>exact (rK HO_6));(case aS=>exact (Q0h (bH HB)));(case aL=>have:=kC.out;omega);intro dE fE ho hb hg hat;rw [← mC.out] at ho;replace cA:=AM (Q1w (g:=oA) (o:=.cells #[.slice (some dB) aA.length jA,.slice kA fA.length lA,.slice mA gA.length nA] 25 (0,0)) (bK cA) hg (Kd.R_ne HO_6.out cA.out (by decide)));replace HB:=AM hb;have nC:=AM ho;clear HO_6;clear ho hb hg hat))
              go_roundg k3
              case measure=>have:=aC.out;have:=oC.out;have:=qC.out;omega
              case rel=>exact ⟨(lC),(wrap64 (dA+1)),rS,H',⟨by have:=aC.out;have:=oC.out;have:=qC.out;omega⟩,⟨rK nC⟩,⟨bK cA⟩,⟨ bH HB⟩⟩
             ·rw [if_neg sC] at H
              exact absurd H (by simp)
          ·simp only [Option.some.injEq,Prod.mk.injEq] at H
           obtain ⟨rfl,rfl⟩:=H
           go_wp2
           go_ret2
           exact ⟨_,rE,rK HO_6,bH HB⟩
end Go.Proofs.Ytbonkedecfjmdaa.P

namespace Go.Proofs.Ytbonkedecfjmdaa.P
open Go.RowKit Go.Proofs.YtbonkedecfjmdaaW.PrintWords Go.Proofs.YtbonkedecfjmdaaW.PrintLast Go.Proofs.YtbonkedecfjmdaaW.PrintMore Go.Proofs.Ytbonkedecfjmdaa.X
attribute [local go_sem] Q2a Q2b Q2s Q2q Q1z Q1y Q19 Q2c Q2r Q2p add64
set_option linter.unusedVariables false
set_option linter.unusedSimpArgs false
attribute [local go_sem high] eqA27
mutual
def Q0f.l0:Nat→List Int→Int→List (List (S27))→List (List Int)→List (List Int)→Option ((List (S27))×Int)
 | 0,_,_,_,_,_=>none
 | k+1,x1,x7,x116000,x116001,x116002=>if x7<(x1.length:Int) then (if 0≤x7 then ((Q1e.f k x116000 x116001 x116002 (rd x1 x7)).bind fun oC=>(if oC.2=0 then (if (oC.1.length:Int)=0 then (some (([]:List (S27)),2)) else (Q0f.l0 k x1 (wrap64 (x7+1)) x116000 x116001 x116002)) else (some (([]:List (S27)),2)))) else (none)) else (if (x1.length:Int)=0 then (some (([]:List (S27)),90)) else (Q0f.l1 k x1 ([]:List (S27)) 0 x116000 x116001 x116002))
def Q0f.l1:Nat→List Int→List (S27)→Int→List (List (S27))→List (List Int)→List (List Int)→Option ((List (S27))×Int)
 | 0,_,_,_,_,_,_=>none
 | k+1,x1,x6,x10,x116000,x116001,x116002=>if x10<(x1.length:Int) then (if (wrap64 (x10+1))=(x1.length:Int) then (Q0f.j2 k x1 x6 x10 0 x116000 x116001 x116002) else (Q0f.j2 k x1 x6 x10 (wrap64 (x10+1)) x116000 x116001 x116002)) else (some (x6,0))
def Q0f.j2:Nat→List Int→List (S27)→Int→Int→List (List (S27))→List (List Int)→List (List Int)→Option ((List (S27))×Int)
 | 0,_,_,_,_,_,_,_=>none
 | k+1,x1,x6,x10,x11,x116000,x116001,x116002=>if 0≤x10 then (if x10<(x1.length:Int) then ((Q1e.f k x116000 x116001 x116002 (rd x1 x10)).bind fun mA=>(if 0≤x11 then (if x11<(x1.length:Int) then ((Q1e.f k x116000 x116001 x116002 (rd x1 x11)).bind fun sB=>(if 0≤(wrap64 ((mA.1.length:Int) - 1)) then (if (wrap64 ((mA.1.length:Int) - 1))<(mA.1.length:Int) then (if 0<(sB.1.length:Int) then (if (!(((Q0a mA.1 (wrap64 ((mA.1.length:Int) - 1))).f0)==((Q0a sB.1 0).f0)) || (!(((Q0a mA.1 (wrap64 ((mA.1.length:Int) - 1))).f1)==((Q0a sB.1 0).f1)) || (!(((Q0a mA.1 (wrap64 ((mA.1.length:Int) - 1))).f2)==((Q0a sB.1 0).f2)))))=true then (some (([]:List (S27)),90)) else (if (wrap64 ((mA.1.length:Int) - 1))≤(mA.1.length:Int) then ((some (mA.1.take ((wrap64 ((mA.1.length:Int) - 1)):Int).toNat:List (S27))).bind fun pA=>(if x6.length+pA.length<5864062014805 then (Q0f.l1 k x1 (x6++pA) (wrap64 (x10+1)) x116000 x116001 x116002) else (none))) else (none))) else (none)) else (none)) else (none))) else (none)) else (none))) else (none)) else (none)
end
def Q0f.f (k:Nat) (eA:List (List (S27))) (fA:List (List Int)) (gA:List (List Int)) (l1:List Int):Option ((List (S27))×Int):=Q0f.l0 k l1 0 eA fA gA
theorem Q0f.Q1a:∀ k,(∀ y0 y1 y2 y3 y4,LeO (Q0f.l0 k y0 y1 y2 y3 y4) (Q0f.l0 (k+1) y0 y1 y2 y3 y4))∧(∀ y0 y1 y2 y3 y4 y5,LeO (Q0f.l1 k y0 y1 y2 y3 y4 y5) (Q0f.l1 (k+1) y0 y1 y2 y3 y4 y5))∧(∀ y0 y1 y2 y3 y4 y5 y6,LeO (Q0f.j2 k y0 y1 y2 y3 y4 y5 y6) (Q0f.j2 (k+1) y0 y1 y2 y3 y4 y5 y6))
 | 0=>⟨fun _ _ _ _ _ r h=>by simp [Q0f.l0] at h,fun _ _ _ _ _ _ r h=>by simp [Q0f.l1] at h,fun _ _ _ _ _ _ _ r h=>by simp [Q0f.j2] at h⟩
 | k+1=>by
  obtain ⟨tE,uE,vE⟩:=Q0f.Q1a k
  refine ⟨?_,?_,?_⟩
  all_goals
   intros
   first|unfold Q0f.l0|unfold Q0f.l1|unfold Q0f.j2
   repeat' with_reducible first|exact tE _ _ _ _ _|exact uE _ _ _ _ _ _|exact vE _ _ _ _ _ _ _|exact Q1e.mono _ _ _ _ _|exact LeO.refl _|exact LeO.none _|refine LeO.ite ?_ ?_|refine LeO.bind ?_ (fun _ => ?_)
theorem Q0f.mono:∀ a0 a1 a2 a3 k,LeO (Q0f.f k a0 a1 a2 a3) (Q0f.f (k+1) a0 a1 a2 a3):=by
 intro a0 a1 a2 a3 k
 obtain ⟨tE,uE,vE⟩:=Q0f.Q1a k
 unfold Q0f.f
 repeat' with_reducible first|exact tE _ _ _ _ _|exact uE _ _ _ _ _ _|exact vE _ _ _ _ _ _ _|exact Q1e.mono _ _ _ _ _|exact LeO.refl _|exact LeO.none _|refine LeO.ite ?_ ?_|refine LeO.bind ?_ (fun _ => ?_)
def Q0f.T5:Bool×List (List Nat×List Nat):=(true,[([],[]),([],[]),([],[]),([1,2],[1,2]),([3],[3]),([0,4],[0,4]),([5],[5]),([6],[6]),([6],[6]),([7,5,0,1,2,3,4,5,6,7],[7]),([8,9,0,1,2,3,4,5,6,7,8,9],[8])])
def Q0f.B5:List Nat:=[0,0,0,6,14,31,63,127,127,255,1023]
theorem Q0f.tab5:rtab .any (opsOf Try.f35 5)=Q0f.T5:=by kernel_rfl
theorem Q0f.bits5:waitsOk Q0f.T5.2 Q0f.B5=true:=by kernel_rfl
def Q0f.T16:Bool×List (List Nat×List Nat):=(true,[([],[]),([],[]),([],[]),([1,2],[1,2]),([3],[3]),([0,4],[0,4]),([5],[5]),([6],[6]),([6],[6]),([7,5,0,1,2,3,4,5,6,7],[7]),([8,9,0,1,2,3,4,5,6,7,8,9],[8])])
def Q0f.B16:List Nat:=[0,0,0,6,14,31,63,127,127,255,1023]
theorem Q0f.tab16:rtab .any (opsOf Try.f35 16)=Q0f.T16:=by kernel_rfl
theorem Q0f.bits16:waitsOk Q0f.T16.2 Q0f.B16=true:=by kernel_rfl
def Q0f.T17:Bool×List (List Nat×List Nat):=(true,[([],[]),([],[]),([],[]),([1,2],[1,2]),([3],[3]),([0,4],[0,4]),([5],[5]),([6],[6]),([6],[6]),([7,5,0,1,2,3,4,5,6,7],[7]),([8,9,0,1,2,3,4,5,6,7,8,9],[8])])
def Q0f.B17:List Nat:=[0,0,0,6,14,31,63,127,127,255,1023]
theorem Q0f.tab17:rtab .any (opsOf Try.f35 17)=Q0f.T17:=by kernel_rfl
theorem Q0f.bits17:waitsOk Q0f.T17.2 Q0f.B17=true:=by kernel_rfl
def Q0f.T18:Bool×List (List Nat×List Nat):=(true,[([],[]),([],[]),([1],[1]),([2],[2]),([0,3],[0,3]),([4],[4]),([],[]),([6],[6]),([7],[7]),([5,8],[5,8])])
def Q0f.B18:List Nat:=[0,0,2,6,15,31,0,64,192,511]
theorem Q0f.tab18:rtab .any (opsOf Try.f35 18)=Q0f.T18:=by kernel_rfl
theorem Q0f.bits18:waitsOk Q0f.T18.2 Q0f.B18=true:=by kernel_rfl
set_option maxHeartbeats 8000000 in
set_option maxRecDepth 100000 in
theorem Q0f.calls (k:Nat) (qA:Option Addr) (rA:Nat) (eA:List (List (S27))) (sA:Option Addr) (tA:Nat) (fA:List (List Int)) (uA:Option Addr) (vA:Nat) (gA:List (List Int)) (A1:Option Addr) (c1:Nat) (l1:List Int) (r1:List (S27)) (r2:Int) (w:World) (pC:Kd.C (Kd.slice 27 k27) w qA eA.length eA) (qC:eA.length≤rA) (rC:Kd.C (Kd.slice 3 (Kd.int .i64)) w sA fA.length fA) (tC:fA.length≤tA) (uC:Kd.C (Kd.slice 3 (Kd.int .i64)) w uA gA.length gA) (vC:gA.length≤vA) (oF:Kd.C (Kd.int .i64) w A1 l1.length l1) (pF:l1.length≤c1) (h:Q0f.f k eA fA gA l1=some (r1,r2)) :
  Calls Try.prog 35 #[.agg #[.slice qA eA.length rA,.slice sA fA.length tA,.slice uA gA.length vA],.slice A1 l1.length c1] w fun e w'=>∃ v0_:Value,e=.returned (.tuple #[v0_,.int .i64 r2])∧Kd.R k27 27 w' w.heap.size (fun _=>True) v0_ r1∧Below w.heap.size w w':=by
 have iG:=Try.underlying25
 have jG:=Try.underlying27
 have tB:=AM pC
 have uB:=AM qC
 clear pC qC
 have vB:=AM rC
 have wB:=AM tC
 clear rC tC
 have xB:=AM uC
 have yB:=AM vC
 clear uC vC
 have oE:=AM oF
 have aH:=AM pF
 clear oF pF
 have HB:=AM (Below.refl w.heap.size w)
 have H:(Q0f.l0 k l1 0 eA fA gA)=some (r1,r2):=h
 clear h
 have H':=AM H
 clear H
 go_enter Try.func35,Try.ntmps35
 go_wp2_with (first|((with_reducible refine Q0i (N:=2) rfl ?_);(try (refine Q2e (by rfl) ?_;dsimp only));refine bE 2 #[.slice qA eA.length rA,.slice sA fA.length tA,.slice uA gA.length vA] 25 ?_;intro iA hg w3 hbox hb;have aA:=AM hbox;have uD:=kG HB hg;replace HB:=kH HB hb;have qF:=uD;clear hb hbox hg))
 go_loopg [7] k (fun kq v7 w'=>∃ (nA:Int),v7=.int .i64 nA∧Aside0 (Q0f.l0 kq l1 nA eA fA gA=some (r1,r2))∧Aside0 (kq≤k)∧Aside0 (w'.heap[iA]? = some (.cells #[(.slice qA eA.length rA),(.slice sA fA.length tA),(.slice uA gA.length vA)] 25 (0,0)))∧Aside0 (Below w.heap.size w w'))
 case atStart=>exact ⟨(0),rS,H',⟨Nat.le_refl _⟩,⟨bK aA⟩,⟨ bH HB⟩⟩
 case round =>
  clear H'
  obtain ⟨nA,rfl,HA,sD,aA,HB⟩:=hrel
  cases gk with
  | zero=>exact absurd HA.out (by simp [Q0f.l0])
  | succ k1 =>
   have H:=HA.out;clear HA
   simp only [Q0f.l0] at H
   apply iC H<;>clear H<;>intro wE H
   ·apply iN H;clear H;intro lG H
    ·obtain ⟨⟨iB,pB⟩,A6,H⟩:=bS H
     try dsimp only at H
     by_cases c7:pB=0
     ·rw [if_pos c7] at H
      have xE:(pB==0)=true:=beq_iff_eq.mpr c7
      have yE:(pB != 0)=false:=bne_eq_false_iff_eq.mpr c7
      clear c7
      have rF:=AM H
      clear H
      try go_wp2
      replace aA:=dB aA;replace HB:=dH HB
      have qB:0≤(nA:Int):=pD
      have rB:nA<(l1.length:Int):=pD
      obtain ⟨hC,bD,jA⟩:=Kd.Q2n oE.out nA qB rB
      have wA:=jA
      cases bD
      replace jA:=hW HB jA;replace qB:=eq_true qB;replace rB:=eq_true rB
      refine sP 11 (S:=fun w'=>w'.cell? ⟨iA,0,none⟩=some (.slice qA eA.length rA)∧w'.cell? ⟨iA,1,none⟩=some (.slice sA fA.length tA)∧w'.cell? ⟨iA,2,none⟩=some (.slice uA gA.length vA)∧w'.cell? (hC.add (nA).toNat)=some (.int .i64 (rd l1 nA))) (ds:=[]) ⟨bC aA,bC aA,bC aA,(hW HB wA :)⟩ fun hHeld => ?_;refine Q1m Q0f.tab5 Q0f.bits5 (fun HT_ HW_ => ?_)
      generalize wr.drew=w9 at aA HB jA hHeld ⊢
      refine pQ 1 (some 24) HT_ ?_;refine pQ 2 (some 25) HT_ ?_;refine pQ 3 (some 26) HT_ ?_;refine tQ 0 (some 23) HT_ HW_ hHeld ?_;refine tQ 4 (some 27) HT_ HW_ hHeld ?_
      refine oQ 5 (some 28) HT_ rfl fun K hK => ?_
      refine gO Try.func61 #[.agg #[.slice qA eA.length rA,.slice sA fA.length tA,.slice uA gA.length vA],.int .i64 (rd l1 nA)] ?_
      with_reducible refine (Q1e.calls k1 _ _ eA _ _ fA _ _ gA (rd l1 nA) iB pB _ ?side1 ?side2 ?side3 ?side4 ?side5 ?side6 A6.out).mono ?_
      (case side1=>exact sC tB HB)
      (case side2=>exact uB.out)
      (case side3=>exact sC vB HB)
      (case side4=>exact wB.out)
      (case side5=>exact sC xB HB)
      (case side6=>exact yB.out)
      rintro e cH ⟨zE,rfl,zB,hb⟩
      refine ⟨_,rfl,?_⟩
      have wC:=AM (Kd.Q1b zB (Q0h (bH HB)))
      replace aA:=kB aA hb;replace HB:=kH HB hb;clear hb zB
      refine hK.out _ _ ⟨bC aA,bC aA,bC aA,(hW HB wA :)⟩ (fun hHeld => ?_)
      clear hK K;refine nP (some 28) ?_;refine pQ 6 (some 22) HT_ ?_;refine pQ 7 (some 29) HT_ ?_;refine pQ 8 (some 30) HT_ ?_;refine pQ 9 (some 8) HT_ ?_;refine pQ 10 (some 9) HT_ ?_
      refine done_ (Q2d HT_.out (by kernel_rfl)) ?_
      obtain ⟨mG,nG,bF⟩:=Kd.Q01 wC.out
      subst bF
      go_upto_if 37 with (fail)
      have H:=rF.out;clear rF
      by_cases xC:(iB.length:Int)=0
      ·rw [if_pos xC] at H
       have jB:((iB.length:Int)==0)=true:=beq_iff_eq.mpr xC
       have vD:((iB.length:Int) != 0)=false:=bne_eq_false_iff_eq.mpr xC
       clear xC
       (first|rw [jB]|(simp only [Q1r,Q13];rw [jB])|skip)
       simp only [Option.some.injEq,Prod.mk.injEq] at H
       obtain ⟨rfl,rfl⟩:=H
       go_wp2
       go_ret2
       exact ⟨_,rE,by first|exact Kd.Q3k _ _ _ _ _|exact Kd.Q3t _ _ _ _ _|exact Kd.Q3x _ _ _ _ _|exact Kd.Q3v _ _ _ _ _|exact Kd.Q3y _ _ _ _ _,bH HB⟩
      ·rw [if_neg xC] at H
       have jB:((iB.length:Int)==0)=false:=beq_eq_false_iff_ne.mpr xC
       have vD:((iB.length:Int) != 0)=true:=bne_iff_ne.mpr xC
       have sF:¬ (iB=[]):=fun h_=>xC (by rw [h_];rfl)
       (first|rw [jB]|(simp only [Q1r,Q13];rw [jB])|skip)
       have H':=AM H
       clear H
       go_wp2
       go_roundg k1
       case measure=>have:=sD.out;omega
       case rel=>exact ⟨(wrap64 (nA+1)),rS,H',⟨by have:=sD.out;omega⟩,⟨bK aA⟩,⟨ bH HB⟩⟩
     ·rw [if_neg c7] at H
      have xE:(pB==0)=false:=beq_eq_false_iff_ne.mpr c7
      have yE:(pB != 0)=true:=bne_iff_ne.mpr c7
      simp only [Option.some.injEq,Prod.mk.injEq] at H
      obtain ⟨rfl,rfl⟩:=H
      try go_wp2
      replace aA:=dB aA;replace HB:=dH HB
      have qB:0≤(nA:Int):=pD
      have rB:nA<(l1.length:Int):=pD
      obtain ⟨hC,bD,jA⟩:=Kd.Q2n oE.out nA qB rB
      have wA:=jA
      cases bD
      replace jA:=hW HB jA;replace qB:=eq_true qB;replace rB:=eq_true rB
      refine sP 11 (S:=fun w'=>w'.cell? ⟨iA,0,none⟩=some (.slice qA eA.length rA)∧w'.cell? ⟨iA,1,none⟩=some (.slice sA fA.length tA)∧w'.cell? ⟨iA,2,none⟩=some (.slice uA gA.length vA)∧w'.cell? (hC.add (nA).toNat)=some (.int .i64 (rd l1 nA))) (ds:=[]) ⟨bC aA,bC aA,bC aA,(hW HB wA :)⟩ fun hHeld => ?_;refine Q1m Q0f.tab5 Q0f.bits5 (fun HT_ HW_ => ?_)
      generalize wr.drew=w13 at aA HB jA hHeld ⊢
      refine pQ 1 (some 24) HT_ ?_;refine pQ 2 (some 25) HT_ ?_;refine pQ 3 (some 26) HT_ ?_;refine tQ 0 (some 23) HT_ HW_ hHeld ?_;refine tQ 4 (some 27) HT_ HW_ hHeld ?_
      refine oQ 5 (some 28) HT_ rfl fun K hK => ?_
      refine gO Try.func61 #[.agg #[.slice qA eA.length rA,.slice sA fA.length tA,.slice uA gA.length vA],.int .i64 (rd l1 nA)] ?_
      with_reducible refine (Q1e.calls k1 _ _ eA _ _ fA _ _ gA (rd l1 nA) iB pB _ ?side1 ?side2 ?side3 ?side4 ?side5 ?side6 A6.out).mono ?_
      (case side1=>exact sC tB HB)
      (case side2=>exact uB.out)
      (case side3=>exact sC vB HB)
      (case side4=>exact wB.out)
      (case side5=>exact sC xB HB)
      (case side6=>exact yB.out)
      rintro e eH ⟨zE,rfl,zB,hb⟩
      refine ⟨_,rfl,?_⟩
      have wC:=AM (Kd.Q1b zB (Q0h (bH HB)))
      replace aA:=kB aA hb;replace HB:=kH HB hb;clear hb zB
      refine hK.out _ _ ⟨bC aA,bC aA,bC aA,(hW HB wA :)⟩ (fun hHeld => ?_)
      clear hK K;refine nP (some 28) ?_;refine pQ 6 (some 22) HT_ ?_;refine pQ 7 (some 29) HT_ ?_;refine pQ 8 (some 30) HT_ ?_;refine pQ 9 (some 8) HT_ ?_;refine pQ 10 (some 9) HT_ ?_
      refine done_ (Q2d HT_.out (by kernel_rfl)) ?_
      try go_wp2
      go_ret2
      exact ⟨_,rE,by first|exact Kd.Q3k _ _ _ _ _|exact Kd.Q3t _ _ _ _ _|exact Kd.Q3x _ _ _ _ _|exact Kd.Q3v _ _ _ _ _|exact Kd.Q3y _ _ _ _ _,bH HB⟩
   ·by_cases nC:(l1.length:Int)=0
    ·rw [if_pos nC] at H
     have yC:((l1.length:Int)==0)=true:=beq_iff_eq.mpr nC
     have zC:((l1.length:Int) != 0)=false:=bne_eq_false_iff_eq.mpr nC
     clear nC
     simp only [Option.some.injEq,Prod.mk.injEq] at H
     obtain ⟨rfl,rfl⟩:=H
     go_wp2
     go_ret2
     exact ⟨_,rE,by first|exact Kd.Q3k _ _ _ _ _|exact Kd.Q3t _ _ _ _ _|exact Kd.Q3x _ _ _ _ _|exact Kd.Q3v _ _ _ _ _|exact Kd.Q3y _ _ _ _ _,bH HB⟩
    ·rw [if_neg nC] at H
     have yC:((l1.length:Int)==0)=false:=beq_eq_false_iff_ne.mpr nC
     have zC:((l1.length:Int) != 0)=true:=bne_iff_ne.mpr nC
     have wD:¬ (l1=[]):=fun h_=>nC (by rw [h_];rfl)
     have H':=AM H
     clear H
     go_wp2
     go_loopg [6,10] k1 (fun kq v6 oG w'=>∃ (eB:List (S27)) (cA:Int),oG=.int .i64 cA∧Aside0 (Q0f.l1 kq l1 eB cA eA fA gA=some (r1,r2))∧Aside0 (kq≤k1)∧Aside0 (Kd.R k27 27 w' w.heap.size (fun _=>True) v6 eB)∧Aside0 (w'.heap[iA]? = some (.cells #[(.slice qA eA.length rA),(.slice sA fA.length tA),(.slice uA gA.length vA)] 25 (0,0)))∧Aside0 (Below w.heap.size w w'))
     case atStart=>exact ⟨(([]:List (S27))),(0),rS,H',⟨Nat.le_refl _⟩,⟨by first|exact Kd.Q3k _ _ _ _ _|exact Kd.Q3t _ _ _ _ _|exact Kd.Q3x _ _ _ _ _|exact Kd.Q3v _ _ _ _ _|exact Kd.Q3y _ _ _ _ _⟩,⟨bK aA⟩,⟨ bH HB⟩⟩
     case round =>
      clear H'
      clear wE nC yC zC wD
      obtain ⟨eB,cA,rfl,HA,pE,HO_6,aA,HB⟩:=hrel
      cases gk with
      | zero=>exact absurd HA.out (by simp [Q0f.l1])
      | succ k2 =>
       have H:=HA.out;clear HA
       simp only [Q0f.l1] at H
       apply iC H<;>clear H<;>intro xD H
       ·have cD:=AM H
        clear H
        go_upto_if 52 with (fail)
        go_cut [11] (fun pG wc=>∃ (kq:Nat) (lA:Int),pG=.int .i64 lA∧Aside0 (Q0f.j2 kq l1 eB cA lA eA fA gA=some (r1,r2))∧Aside0 (kq≤k2)∧Aside0 (Kd.R k27 27 wc w.heap.size (fun _=>True) u6 eB)∧Aside0 (wc.heap[iA]? = some (.cells #[(.slice qA eA.length rA),(.slice sA fA.length tA),(.slice uA gA.length vA)] 25 (0,0)))∧Aside0 (Below w.heap.size w wc))
        case first =>
         have H:=cD.out;clear cD
         by_cases dD:(wrap64 (cA+1))=(l1.length:Int)
         ·rw [if_pos dD] at H
          have lB:((wrap64 (cA+1))==(l1.length:Int))=true:=beq_iff_eq.mpr dD
          have yD:((wrap64 (cA+1)) != (l1.length:Int))=false:=bne_eq_false_iff_eq.mpr dD
          clear dD
          (first|rw [lB]|(simp only [Q1r,Q13];rw [lB])|skip)
          have H':=AM H
          clear H
          go_wp2
          go_meet
          case rel=>exact ⟨_,(0),rS,H',⟨by have:=sD.out;have:=pE.out;first|omega|exact Nat.le_refl _⟩,⟨rK HO_6⟩,⟨bK aA⟩,⟨ bH HB⟩⟩
         ·rw [if_neg dD] at H
          have lB:((wrap64 (cA+1))==(l1.length:Int))=false:=beq_eq_false_iff_ne.mpr dD
          have yD:((wrap64 (cA+1)) != (l1.length:Int))=true:=bne_iff_ne.mpr dD
          (first|rw [lB]|(simp only [Q1r,Q13];rw [lB])|skip)
          have H':=AM H
          clear H
          go_wp2
          go_meet
          case rel=>exact ⟨_,(wrap64 (cA+1)),rS,H',⟨by have:=sD.out;have:=pE.out;first|omega|exact Nat.le_refl _⟩,⟨rK HO_6⟩,⟨bK aA⟩,⟨ bH HB⟩⟩
        case rest =>
         clear cD xD
         obtain ⟨kq,lA,rfl,HA,zD,HO_6,aA,HB⟩:=hcut
         cases kq with
         | zero=>exact absurd HA.out (by simp [Q0f.j2])
         | succ kj16 =>
          have H:=HA.out;clear HA
          simp only [Q0f.j2] at H
          apply iN H;clear H;intro tF H
          ·apply iN H;clear H;intro uF H
           ·obtain ⟨⟨dA,cF⟩,vF,H⟩:=bS H
            try dsimp only at H
            apply iN H;clear H;intro wF H
            ·apply iN H;clear H;intro xF H
             ·obtain ⟨⟨kA,dF⟩,yF,H⟩:=bS H
              try dsimp only at H
              obtain ⟨bA,hB⟩:∃ j_:Int,(wrap64 ((dA.length:Int) - 1))=j_:=⟨_,rfl⟩
              replace H:(if 0≤(bA) then (if (bA)<(dA.length:Int) then (if 0<(kA.length:Int) then (if (!(((Q0a dA (bA)).f0)==((Q0a kA 0).f0)) || (!(((Q0a dA (bA)).f1)==((Q0a kA 0).f1)) || (!(((Q0a dA (bA)).f2)==((Q0a kA 0).f2)))))=true then (some (([]:List (S27)),90)) else (if (bA)≤(dA.length:Int) then ((some (dA.take ((bA):Int).toNat:List (S27))).bind fun pA=>(if eB.length+pA.length<5864062014805 then (Q0f.l1 kj16 l1 (eB++pA) (wrap64 (cA+1)) eA fA gA) else (none))) else (none))) else (none)) else (none)) else (none))=some (r1,r2):=by first|(rw [hB] at H;exact H)|(simp only [hB] at H ⊢;exact H)
              (try rw [hB] at vF)
              (try rw [hB] at yF)
              have eF:(IntKind.i64.wrap ((dA.length:Int) - 1))=bA:=(Q1r _).trans hB
              apply iN H;clear H;intro zF H
              ·apply iN H;clear H;intro aG H
               ·by_cases qE:0<(kA.length:Int)
                ·rw [if_pos qE] at H
                 have bG:=decide_eq_true qE
                 have cG:decide (0<kA.length)=true:=decide_eq_true (by omega)
                 clear qE
                 have aE:=AM H
                 clear H
                 try go_wp2
                 replace HO_6:=dR HO_6;replace aA:=dB aA;replace HB:=dH HB
                 have eD:0≤(cA:Int):=pD
                 have fD:cA<(l1.length:Int):=pD
                 obtain ⟨jC,fF,fB⟩:=Kd.Q2n oE.out cA eD fD
                 have aC:=fB
                 cases fF
                 replace fB:=hW HB fB;replace eD:=eq_true eD;replace fD:=eq_true fD
                 refine sP 11 (S:=fun w'=>w'.cell? ⟨iA,0,none⟩=some (.slice qA eA.length rA)∧w'.cell? ⟨iA,1,none⟩=some (.slice sA fA.length tA)∧w'.cell? ⟨iA,2,none⟩=some (.slice uA gA.length vA)∧w'.cell? (jC.add (cA).toNat)=some (.int .i64 (rd l1 cA))) (ds:=[]) ⟨bC aA,bC aA,bC aA,(hW HB aC :)⟩ fun hHeld => ?_;refine Q1m Q0f.tab16 Q0f.bits16 (fun HT_ HW_ => ?_)
                 generalize wc.drew=w30 at HO_6 aA HB fB hHeld ⊢
                 refine pQ 1 (some 55) HT_ ?_;refine pQ 2 (some 56) HT_ ?_;refine pQ 3 (some 57) HT_ ?_;refine tQ 0 (some 54) HT_ HW_ hHeld ?_;refine tQ 4 (some 58) HT_ HW_ hHeld ?_
                 refine oQ 5 (some 59) HT_ rfl fun K hK => ?_
                 refine gO Try.func61 #[.agg #[.slice qA eA.length rA,.slice sA fA.length tA,.slice uA gA.length vA],.int .i64 (rd l1 cA)] ?_
                 with_reducible refine (Q1e.calls kj16 _ _ eA _ _ fA _ _ gA (rd l1 cA) dA cF _ ?side1 ?side2 ?side3 ?side4 ?side5 ?side6 vF.out).mono ?_
                 (case side1=>exact sC tB HB)
                 (case side2=>exact uB.out)
                 (case side3=>exact sC vB HB)
                 (case side4=>exact wB.out)
                 (case side5=>exact sC xB HB)
                 (case side6=>exact yB.out)
                 rintro e qG ⟨rG,rfl,zB,hb⟩
                 refine ⟨_,rfl,?_⟩
                 have hA:=AM (Kd.Q1b (Kd.Q2z zB (Kd.R_lt (rK HO_6))) (Q0h (bH HB)))
                 replace HO_6:=AM (Kd.Q16 (rK HO_6) (Kd.Q2l zB) hb)
                 replace aA:=kB aA hb;replace HB:=kH HB hb;clear hb zB
                 refine hK.out _ _ ⟨bC aA,bC aA,bC aA,(hW HB aC :)⟩ (fun hHeld => ?_)
                 clear hK K;refine nP (some 59) ?_;refine pQ 6 (some 53) HT_ ?_;refine pQ 7 (some 60) HT_ ?_;refine pQ 8 (some 61) HT_ ?_;refine pQ 9 (some 12) HT_ ?_;refine pQ 10 (some 13) HT_ ?_
                 refine done_ (Q2d HT_.out (by kernel_rfl)) ?_
                 try go_wp2
                 replace HO_6:=dR HO_6;replace hA:=dR hA;replace aA:=dB aA;replace HB:=dH HB
                 have gD:0≤(lA:Int):=pD
                 have hD:lA<(l1.length:Int):=pD
                 obtain ⟨cE,gF,gB⟩:=Kd.Q2n oE.out lA gD hD
                 have cC:=gB
                 obtain rfl:jC=cE:=(by injection gF)
                 replace gB:=hW HB gB;replace gD:=eq_true gD;replace hD:=eq_true hD
                 refine sP 11 (S:=fun w'=>w'.cell? ⟨iA,0,none⟩=some (.slice qA eA.length rA)∧w'.cell? ⟨iA,1,none⟩=some (.slice sA fA.length tA)∧w'.cell? ⟨iA,2,none⟩=some (.slice uA gA.length vA)∧w'.cell? (jC.add (lA).toNat)=some (.int .i64 (rd l1 lA))) (ds:=[]) ⟨bC aA,bC aA,bC aA,(hW HB cC :)⟩ fun hHeld => ?_;refine Q1m Q0f.tab17 Q0f.bits17 (fun HT_ HW_ => ?_)
                 generalize qG.drew=w32 at HO_6 hA aA HB gB hHeld ⊢
                 refine pQ 1 (some 64) HT_ ?_;refine pQ 2 (some 65) HT_ ?_;refine pQ 3 (some 66) HT_ ?_;refine tQ 0 (some 63) HT_ HW_ hHeld ?_;refine tQ 4 (some 67) HT_ HW_ hHeld ?_
                 refine oQ 5 (some 68) HT_ rfl fun K hK => ?_
                 refine gO Try.func61 #[.agg #[.slice qA eA.length rA,.slice sA fA.length tA,.slice uA gA.length vA],.int .i64 (rd l1 lA)] ?_
                 with_reducible refine (Q1e.calls kj16 _ _ eA _ _ fA _ _ gA (rd l1 lA) kA dF _ ?side1 ?side2 ?side3 ?side4 ?side5 ?side6 yF.out).mono ?_
                 (case side1=>exact sC tB HB)
                 (case side2=>exact uB.out)
                 (case side3=>exact sC vB HB)
                 (case side4=>exact wB.out)
                 (case side5=>exact sC xB HB)
                 (case side6=>exact yB.out)
                 rintro e sG ⟨tG,rfl,zB,hb⟩
                 refine ⟨_,rfl,?_⟩
                 have bB:=AM (Kd.Q1b (Kd.Q2z (Kd.Q2z zB (Kd.R_lt (rK HO_6))) (Kd.R_lt (rK hA))) (Q0h (bH HB)))
                 replace HO_6:=AM (Kd.Q16 (rK HO_6) (Kd.Q2l zB) hb)
                 replace hA:=AM (Kd.Q16 (rK hA) (Kd.Q2l zB) hb)
                 replace aA:=kB aA hb;replace HB:=kH HB hb;clear hb zB
                 refine hK.out _ _ ⟨bC aA,bC aA,bC aA,(hW HB cC :)⟩ (fun hHeld => ?_)
                 clear hK K;refine nP (some 68) ?_;refine pQ 6 (some 62) HT_ ?_;refine pQ 7 (some 69) HT_ ?_;refine pQ 8 (some 70) HT_ ?_;refine pQ 9 (some 14) HT_ ?_;refine pQ 10 (some 15) HT_ ?_
                 refine done_ (Q2d HT_.out (by kernel_rfl)) ?_
                 try go_wp2
                 replace HO_6:=dR HO_6;replace hA:=dR hA;replace bB:=dR bB;replace aA:=dB aA;replace HB:=dH HB
                 obtain ⟨uG,kC,dE⟩:=Kd.Q01 hA.out
                 (first|subst dE|(injection dE with eE hF fE;have iF:=eE.symm;have jF:=fE.symm;clear eE hF fE;subst iF;subst jF))
                 have iD:0≤((bA):Int):=pD
                 have jD:(bA)<(dA.length:Int):=pD
                 obtain ⟨oA,kF,dC,eC,fC⟩:=Q2i (Kd.Q0w hA.out).2.2 (bA) iD jD
                 cases kF
                 replace iD:=eq_true iD;replace jD:=eq_true jD
                 obtain ⟨vG,kD,gE⟩:=Kd.Q01 bB.out
                 (first|subst gE|(injection gE with eE hF fE;have iF:=eE.symm;have jF:=fE.symm;clear eE hF fE;subst iF;subst jF))
                 have lD:0≤(0:Int):=(by omega)
                 have mD:0<(kA.length:Int):=pD
                 obtain ⟨cB,lF,xA,yA,zA⟩:=Q2i (Kd.Q0w bB.out).2.2 0 lD mD
                 cases lF
                 have dG:(0<kA.length)=True:=eq_true (by omega)
                 (try rw [show ((0:Int)).toNat=0 from rfl] at xA)
                 (try rw [show 0*3=0 from rfl] at xA)
                 (try rw [Addr.add_zero'] at xA)
                 (try rw [show ((0:Int)).toNat=0 from rfl] at yA)
                 (try rw [show 0*3=0 from rfl] at yA)
                 (try rw [Addr.add_zero'] at yA)
                 (try rw [show ((0:Int)).toNat=0 from rfl] at zA)
                 (try rw [show 0*3=0 from rfl] at zA)
                 (try rw [Addr.add_zero'] at zA)
                 replace lD:=eq_true lD;replace mD:=eq_true mD
                 refine sP 10 (S:=fun w'=>w'.cell? (oA.add (((bA)).toNat*3))=some (.int .i64 ((Q0a dA (bA)).f0))∧w'.cell? ⟨(oA.add (((bA)).toNat*3)).block,(oA.add (((bA)).toNat*3)).off+1,none⟩=some (.int .i64 ((Q0a dA (bA)).f1))∧w'.cell? ⟨(oA.add (((bA)).toNat*3)).block,(oA.add (((bA)).toNat*3)).off+2,none⟩=some (.int .i64 ((Q0a dA (bA)).f2))∧w'.cell? cB=some (.int .i64 ((Q0a kA 0).f0))∧w'.cell? ⟨cB.block,cB.off+1,none⟩=some (.int .i64 ((Q0a kA 0).f1))∧w'.cell? ⟨cB.block,cB.off+2,none⟩=some (.int .i64 ((Q0a kA 0).f2))) (ds:=[]) ⟨dC,eC,fC,xA,yA,zA⟩ fun hHeld => ?_;refine Q1m Q0f.tab18 Q0f.bits18 (fun HT_ HW_ => ?_)
                 generalize sG.drew=w34 at HO_6 hA bB aA HB dC eC fC xA yA zA hHeld ⊢
                 refine pQ 0 (some 71) HT_ ?_;refine pQ 1 (some 72) HT_ ?_;refine pQ 2 (some 73) HT_ ?_;refine pQ 3 (some 74) HT_ ?_;refine pQ 4 (some 75) HT_ ?_;refine pQ 6 (some 77) HT_ ?_;refine pQ 7 (some 78) HT_ ?_;refine tQ 5 (some 76) HT_ HW_ hHeld ?_;refine tQ 8 (some 79) HT_ HW_ hHeld ?_;refine pQ 9 (some 80) HT_ ?_
                 refine done_ (Q2d HT_.out (by kernel_rfl)) ?_
                 go_upto_if 80 with (fail)
                 have H:=aE.out;clear aE
                 by_cases tD:(!(((Q0a dA (bA)).f0)==((Q0a kA 0).f0)) || (!(((Q0a dA (bA)).f1)==((Q0a kA 0).f1)) || (!(((Q0a dA (bA)).f2)==((Q0a kA 0).f2)))))=true
                 ·rw [if_pos tD] at H
                  have mB:(!(((Q0a dA (bA)).f0)==((Q0a kA 0).f0)) || (!(((Q0a dA (bA)).f1)==((Q0a kA 0).f1)) || (!(((Q0a dA (bA)).f2)==((Q0a kA 0).f2)))))=true:=tD
                  clear tD
                  (first|rw [mB]|(simp only [Q1r,Q13];rw [mB])|skip)
                  simp only [Option.some.injEq,Prod.mk.injEq] at H
                  obtain ⟨rfl,rfl⟩:=H
                  go_wp2
                  go_ret2
                  exact ⟨_,by first|rfl|(simp [Q24,Q23]<;>rfl)|(simp only [← hB];first|rfl|(simp [Q24,Q23]<;>rfl))|(simp [*,Q24,Q23]<;>rfl),by first|exact Kd.Q3k _ _ _ _ _|exact Kd.Q3t _ _ _ _ _|exact Kd.Q3x _ _ _ _ _|exact Kd.Q3v _ _ _ _ _|exact Kd.Q3y _ _ _ _ _,bH HB⟩
                 ·rw [if_neg tD] at H
                  have mB:(!(((Q0a dA (bA)).f0)==((Q0a kA 0).f0)) || (!(((Q0a dA (bA)).f1)==((Q0a kA 0).f1)) || (!(((Q0a dA (bA)).f2)==((Q0a kA 0).f2)))))=false:=by simpa using tD
                  clear tD
                  (first|rw [mB]|(simp only [Q1r,Q13];rw [mB])|skip)
                  have eG:=eq_true (pD:0≤(bA))
                  by_cases hE:(bA)≤(dA.length:Int)
                  ·rw [if_pos hE] at H
                   have fG:=eq_true hE;have gG:=decide_eq_true hE;clear hE
                   obtain ⟨pA,nB⟩:∃ y_:List (S27),y_=(dA.take ((bA):Int).toNat):=⟨_,rfl⟩
                   replace H:(if eB.length+pA.length<5864062014805 then (Q0f.l1 kj16 l1 (eB++pA) (wrap64 (cA+1)) eA fA gA) else (none))=some (r1,r2):=by first|(rw [nB];with_reducible exact H)|(have nD:=(Option.bind_some _ _).symm.trans H;rw [nB];with_reducible exact nD)|(have nD:=(Option.bind_some _ _).symm.trans H;with_reducible exact nD)|with_reducible exact H|(rw [nB];exact H)|exact H
                   have lC:=AM nB
                   clear nB
                   by_cases sE:eB.length+pA.length<5864062014805
                   ·rw [if_pos sE] at H
                    have iE:=AM sE
                    clear sE
                    obtain ⟨jE,oB⟩:∃ y_:List (S27),y_=(eB++pA):=⟨_,rfl⟩
                    replace H:(Q0f.l1 kj16 l1 jE (wrap64 (cA+1)) eA fA gA)=some (r1,r2):=by first|(rw [oB];with_reducible exact H)|(have nD:=(Option.bind_some _ _).symm.trans H;rw [oB];with_reducible exact nD)|(have nD:=(Option.bind_some _ _).symm.trans H;with_reducible exact nD)|with_reducible exact H|(rw [oB];exact H)|exact H
                    have kE:=AM oB
                    clear oB
                    have H':=AM H
                    clear H
                    have mF:((bA):Int)≤((dA.length:Int):Int):=pD
                    obtain ⟨wG,aD,_,lE,_⟩:=info_parts info27
                    have gC:dA.length≤kC:=(Kd.Q0w hA.out).2.1
                    have mE:Kd.C k27 _ (some oA) dA.length dA:=(Kd.Q0w hA.out).2.2
                    have oD:=Qb0 (P:=Try.prog) 31 27 .i64 Try.underlying31 aD (some oA) dA.length kC (bA) (pD) mF gC
                    have qD:=Kd.Q8t (m:=((bA):Int).toNat) mE (by omega)
                    have rD:pA.length=((bA):Int).toNat:=(by rw [lC.out,List.length_take];omega)
                    rw [← lC.out] at qD
                    rw [← rD] at oD
                    have mC:=AM qD
                    have hG:=AM (show pA.length≤kC from by omega)
                    clear qD mE gC aD lE
                    have xG:=AM rD
                    clear rD
                    have nF:=AM (show ((bA):Int).toNat≤dA.length from by omega)
                    replace mF:=eq_true mF
                    go_wp2_with (first|((with_reducible refine Q1v (b:=.append) (xs:=#[.tmp 81,.tmp 86]) rfl ?_);(try (refine Q2e (by rfl) ?_;dsimp only));at_builtin;refine Kd.Q3h k27 (w0:=w) w.heap.size rfl (.tmp 81) (.tmp 86) 31 27 (.agg #[(.int .i64 0),(.int .i64 0),(.int .i64 0)]) 24 rfl Try.underlying31 info27 rfl (by decide) (by omega) u6 eB pA _ _ _ (fun k_=>some k_≠(.slice (some oA) dA.length kC:Value).ownBlock∧some k_≠(.slice (some cB) kA.length kD:Value).ownBlock) (fun _=>False) rfl rfl ?aO ?aR (fun _ _ h=>h) (fun _ h=>h.elim) ?aF ?aB ?aS ?aL ?_;(case aR=>repeat (first|exact (by repeat (first|(with_reducible exact mC.out)|(with_reducible refine Kd.Q3m ?_ _)|(with_reducible refine Kd.Q3n ?_ _)|(with_reducible refine Kd.Q33 ?_)|exact mC.out))|(with_reducible refine Kd.Q3m ?_ _)|(with_reducible refine Kd.Q3n ?_ _)|(with_reducible refine Kd.Q33 ?_)));(case aB=>exact (bH HB));(case aF=>exact (fun k_ hk=>⟨Kd.fresh' (Kd.R_lt (rK hA)) k_ hk,Kd.fresh' (Kd.R_lt (rK bB)) k_ hk⟩));(case aO=>exact (by (with_reducible repeat (first|apply Kd.Q10|apply Kd.Q11|apply Kd.Q2h));exact Kd.Q1q HO_6.out (fun _ hk=>⟨hk.1.2,hk.2⟩)));(case aS=>exact (Q0h (bH HB)));(case aL=>have:=iE.out;omega);intro yG zG ho hb hg hat;rw [← kE.out] at ho;replace aA:=AM (Q1w (g:=iA) (o:=.cells #[.slice qA eA.length rA,.slice sA fA.length tA,.slice uA gA.length vA] 25 (0,0)) (bK aA) hg (Kd.R_ne HO_6.out aA.out (by decide)));replace bB:=AM (Kd.Q3w (ok:=(fun k_=>some k_≠(.slice (some oA) dA.length kC:Value).ownBlock)) (by (with_reducible repeat (first|apply Kd.Q10|apply Kd.Q11|apply Kd.Q2h));exact Kd.Q1q bB.out (fun _ hk=>⟨hk.2,hk.1.2⟩)) hg hat);replace HB:=AM hb;replace mC:=AM (show Kd.C k27 zG (some oA) pA.length pA from by rw [lC.out];exact Kd.Q8t (m:=((bA):Int).toNat) ((Kd.Q0w (Kd.Q3w (ok:=(fun k_=>some k_≠(.slice (some cB) kA.length kD:Value).ownBlock)) (by (with_reducible repeat (first|apply Kd.Q10|apply Kd.Q11|apply Kd.Q2h));exact Kd.Q1q hA.out (fun _ hk=>⟨hk.2,hk.1.2⟩)) hg hat)).2.2) nF.out);replace hA:=AM (Kd.Q3w (ok:=(fun k_=>some k_≠(.slice (some cB) kA.length kD:Value).ownBlock)) (by (with_reducible repeat (first|apply Kd.Q10|apply Kd.Q11|apply Kd.Q2h));exact Kd.Q1q hA.out (fun _ hk=>⟨hk.2,hk.1.2⟩)) hg hat);have nE:=AM ho;clear HO_6;clear ho hb hg hat))
                    go_roundg kj16
                    case measure=>have:=sD.out;have:=pE.out;have:=zD.out;omega
                    case rel=>exact ⟨(jE),(wrap64 (cA+1)),rS,H',⟨by have:=sD.out;have:=pE.out;have:=zD.out;omega⟩,⟨by (with_reducible repeat (first|apply Kd.Q10|apply Kd.Q11|apply Kd.Q2h));exact Kd.Q1q nE.out (fun _ hk=>trivial)⟩,⟨bK aA⟩,⟨ bH HB⟩⟩
                   ·rw [if_neg sE] at H
                    exact absurd H (by simp)
                  ·rw [if_neg hE] at H
                   exact absurd H (by simp)
                ·rw [if_neg qE] at H
                 exact absurd H (by simp)
       ·simp only [Option.some.injEq,Prod.mk.injEq] at H
        obtain ⟨rfl,rfl⟩:=H
        go_wp2
        go_ret2
        exact ⟨_,rE,rK HO_6,bH HB⟩
end Go.Proofs.Ytbonkedecfjmdaa.P
