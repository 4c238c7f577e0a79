/- Written for this claim by a program of this session (a turned copy of the print): Go functions as Lean functions, and that the Go code comes to just these answers; or a statement proved out of them. No condition. Arguments that are structs, slices of structs, slices of slices: what their reading as data says of them, kind by kind, whatever the type. Polygons told in another order: what Fills says stays. -/
import Derived.Test.YtbonkedecfjmdaaZ2
import Derived.Test.YtbonkedecfjmdaaZ3
import Derived.Test.YtbonkedecfjmdaaZ6
import Derived.Test.YtbonkedecfjmdaaZ25
import Derived.Test.YtbonkedecfjmdaaZ27
import Derived.Test.YtbonkedecfjmdaaZ28
import Derived.Test.YtbonkedecfjmdaaZ29
import Derived.Test.YtbonkedecfjmdaaZ30
import Derived.Test.YtbonkedecfjmdaaZ23
import Derived.Test.YtbonkedecfjmdaaRows
import Derived.Test.YtbonkedecfjmdaaZ1
import Derived.Deep.Slices
import Derived.Deep.Fields
import Derived.ChangeSame
import Derived.ProofKit
import Derived.KernelRfl
import Derived.Test.YtbonkedecfjmdaaZ26

namespace Go.Proofs.Ytbonkedecfjmdaa.P
open Go.RowKit Go.Proofs.YtbonkedecfjmdaaW.PrintWords Go.Proofs.YtbonkedecfjmdaaW.PrintLast Go.Proofs.YtbonkedecfjmdaaW.PrintMore Go.Proofs.Ytbonkedecfjmdaa.X
attribute [local go_sem] Q2a Q2b Q2s Q2q Q1z Q1y Q19 Q2c Q2r Q2p add64
set_option linter.unusedVariables false
set_option linter.unusedSimpArgs false
mutual
def Q0q.l0:Nat→List (S50)→List Int→Int→Int→List (List (S27))→List (List Int)→List (List Int)→Int→Int→Int→Option (Bool)
 | 0,_,_,_,_,_,_,_,_,_,_=>none
 | k+1,x5,x7,x8,x10,x713000,x713001,x713002,x714000,x714001,x714002=>if x10<(x713002.length:Int) then ((Q1o.f k 0).bind fun cC=>(Q0q.l1 k x5 x7 x8 x10 0 x713000 x713001 x713002 x714000 x714001 x714002 cC)) else ((Q0s.f k (([(⟨x714000,x714001,x714002⟩:S27)]:List (S27)))).bind fun wD=>(if wD=true then (if x8=0 then ((Q0r.f k x713000 x713001 x713002 x714000 x714001 x714002).bind fun xD=>((Q07.f k x7 xD).bind fun zD=>(if zD=true then ((Q22.f).bind fun aE=>(some aE)) else (none)))) else (none)) else (if x8=2 then (if (x7.length:Int)=0 then ((Q22.f).bind fun cE=>(some cE)) else (none)) else (none))))
def Q0q.l1:Nat→List (S50)→List Int→Int→Int→Int→List (List (S27))→List (List Int)→List (List Int)→Int→Int→Int→List Int→Option (Bool)
 | 0,_,_,_,_,_,_,_,_,_,_,_,_=>none
 | k+1,x5,x7,x8,x10,x12,x713000,x713001,x713002,x714000,x714001,x714002,x730000=>if 0≤x10 then (if x10<(x713002.length:Int) then (if x12<((Q06 x713002 x10).length:Int) then (if 0≤x12 then ((Q2g.f k x713000 x713001 x713002 (rd (Q06 x713002 x10) x12)).bind fun dE=>((Q1h.f k x730000 dE).bind fun dC=>(Q0q.l1 k x5 x7 x8 x10 (wrap64 (x12+1)) x713000 x713001 x713002 x714000 x714001 x714002 dC))) else (none)) else (if (x5.length:Int)=(x713002.length:Int) then (if x10<(x5.length:Int) then ((Q31.f k x730000 ((Q2t x5 x10).f0) ((Q2t x5 x10).f1)).bind fun uF=>(if uF=true then (Q0q.l0 k x5 x7 x8 (wrap64 (x10+1)) x713000 x713001 x713002 x714000 x714001 x714002) else (none))) else (none)) else (none))) else (none)) else (none)
end
def Q0q.f (k:Nat) (gA:List (List (S27))) (hA:List (List Int)) (dA:List (List Int)) (kA:Int) (lA:Int) (mA:Int):Option (Bool):=(Q1t.f k gA hA dA).bind fun yD=>(if yD=true then ((Q22.f).bind fun eE=>(some eE)) else ((Q08.f k gA hA dA).bind fun lB=>((Q0x.f k gA hA dA kA lA mA).bind fun tA=>((Q1g.f k gA hA dA).bind fun uA=>(if lB.2=uA then (if uA=0 then (Q0q.l0 k lB.1 tA.1 tA.2 0 gA hA dA kA lA mA) else (if tA.2=uA then (if (lB.1.length:Int)=0 then (if (tA.1.length:Int)=0 then ((Q22.f).bind fun fE=>(some fE)) else (none)) else (none)) else (none))) else (none))))))
theorem Q0q.Q1a:∀ k,(∀ y0 y1 y2 y3 y4 y5 y6 y7 y8 y9,LeO (Q0q.l0 k y0 y1 y2 y3 y4 y5 y6 y7 y8 y9) (Q0q.l0 (k+1) y0 y1 y2 y3 y4 y5 y6 y7 y8 y9))∧(∀ y0 y1 y2 y3 y4 y5 y6 y7 y8 y9 y10 y11,LeO (Q0q.l1 k y0 y1 y2 y3 y4 y5 y6 y7 y8 y9 y10 y11) (Q0q.l1 (k+1) y0 y1 y2 y3 y4 y5 y6 y7 y8 y9 y10 y11))
 | 0=>⟨fun _ _ _ _ _ _ _ _ _ _ r h=>by simp [Q0q.l0] at h,fun _ _ _ _ _ _ _ _ _ _ _ _ r h=>by simp [Q0q.l1] at h⟩
 | k+1=>by
  obtain ⟨bJ,cJ⟩:=Q0q.Q1a k
  refine ⟨?_,?_⟩
  all_goals
   intros
   first|unfold Q0q.l0|unfold Q0q.l1
   repeat' with_reducible first|exact bJ _ _ _ _ _ _ _ _ _ _|exact cJ _ _ _ _ _ _ _ _ _ _ _ _|exact Q1t.mono _ _ _ _|exact Q07.mono _ _ _|exact Q1h.mono _ _ _|exact Q31.mono _ _ _ _|exact Q1o.mono _ _|exact Q0s.mono _ _|exact Q2g.mono _ _ _ _ _|exact Q1g.mono _ _ _ _|exact Q0r.mono _ _ _ _ _ _ _|exact Q08.mono _ _ _ _|exact Q0x.mono _ _ _ _ _ _ _|exact LeO.refl _|exact LeO.none _|refine LeO.ite ?_ ?_|refine LeO.bind ?_ (fun _ => ?_)
theorem Q0q.mono:∀ a0 a1 a2 a3 a4 a5 k,LeO (Q0q.f k a0 a1 a2 a3 a4 a5) (Q0q.f (k+1) a0 a1 a2 a3 a4 a5):=by
 intro a0 a1 a2 a3 a4 a5 k
 obtain ⟨bJ,cJ⟩:=Q0q.Q1a k
 unfold Q0q.f
 repeat' with_reducible first|exact bJ _ _ _ _ _ _ _ _ _ _|exact cJ _ _ _ _ _ _ _ _ _ _ _ _|exact Q1t.mono _ _ _ _|exact Q07.mono _ _ _|exact Q1h.mono _ _ _|exact Q31.mono _ _ _ _|exact Q1o.mono _ _|exact Q0s.mono _ _|exact Q2g.mono _ _ _ _ _|exact Q1g.mono _ _ _ _|exact Q0r.mono _ _ _ _ _ _ _|exact Q08.mono _ _ _ _|exact Q0x.mono _ _ _ _ _ _ _|exact LeO.refl _|exact LeO.none _|refine LeO.ite ?_ ?_|refine LeO.bind ?_ (fun _ => ?_)
def Q0q.T17:Bool×List (List Nat×List Nat):=(true,[([],[]),([],[]),([],[]),([2],[2]),([],[]),([3,4],[3,4]),([5],[5]),([],[]),([6,7],[6,7]),([8],[8]),([1,9],[1,9]),([0,10,10],[0,10]),([11,11,0,1,2,3,4,5,6,7,8,9,10,11],[11])])
def Q0q.B17:List Nat:=[0,0,0,4,0,28,60,0,252,508,1022,2047,4095]
theorem Q0q.tab17:rtab .any (opsOf Try.f5 17)=Q0q.T17:=by kernel_rfl
theorem Q0q.bits17:waitsOk Q0q.T17.2 Q0q.B17=true:=by kernel_rfl
def Q0q.T18:Bool×List (List Nat×List Nat):=(true,[([],[]),([0],[0]),([],[]),([2],[2]),([3],[3]),([1,4],[1,4]),([5],[5]),([6],[6]),([6],[6]),([6],[6]),([8,9,6],[6,8,9]),([10,6],[6,10]),([11,6],[6,11]),([6],[6]),([6],[6]),([13,14,6],[6,13,14]),([15,6],[6,15]),([16,6],[6,16]),([7,12,17,6,6],[6,7,12,17]),([18,6],[6,18]),([6,19],[6,19])])
def Q0q.B18:List Nat:=[0,1,0,4,12,31,63,127,127,127,895,1919,3967,127,127,24703,57471,123007,262143,524287,1048575]
theorem Q0q.tab18:rtab .any (opsOf Try.f5 18)=Q0q.T18:=by kernel_rfl
theorem Q0q.bits18:waitsOk Q0q.T18.2 Q0q.B18=true:=by kernel_rfl
set_option maxHeartbeats 8000000 in
set_option maxRecDepth 100000 in
theorem Q0q.calls (k:Nat) (bB:Option Addr) (cB:Nat) (gA:List (List (S27))) (eB:Option Addr) (fB:Nat) (hA:List (List Int)) (yB:Option Addr) (gB:Nat) (dA:List (List Int)) (kA:Int) (lA:Int) (mA:Int) (r:Bool) (w:World) (jF:Kd.C (Kd.slice 27 k27) w bB gA.length gA) (kF:gA.length≤cB) (lF:Kd.C (Kd.slice 3 (Kd.int .i64)) w eB hA.length hA) (mF:hA.length≤fB) (nF:Kd.C (Kd.slice 3 (Kd.int .i64)) w yB dA.length dA) (oF:dA.length≤gB) (h:Q0q.f k gA hA dA kA lA mA=some r) :
  Calls Try.prog 5 #[.agg #[.slice bB gA.length cB,.slice eB hA.length fB,.slice yB dA.length gB],.agg #[.int .i64 kA,.int .i64 lA,.int .i64 mA]] w fun e w'=>e=.returned (.bool r)∧Below w.heap.size w w':=by
 have vL:=Try.underlying25
 have wL:=Try.underlying27
 have xL:=Try.underlying43
 have nB:=AM jF
 have oB:=AM kF
 clear jF kF
 have pB:=AM lF
 have qB:=AM mF
 clear lF mF
 have vA:=AM nF
 have rB:=AM oF
 clear nF oF
 have HB:=AM (Below.refl w.heap.size w)
 have H:((Q1t.f k gA hA dA).bind fun yD=>(if yD=true then ((Q22.f).bind fun eE=>(some eE)) else ((Q08.f k gA hA dA).bind fun lB=>((Q0x.f k gA hA dA kA lA mA).bind fun tA=>((Q1g.f k gA hA dA).bind fun uA=>(if lB.2=uA then (if uA=0 then (Q0q.l0 k lB.1 tA.1 tA.2 0 gA hA dA kA lA mA) else (if tA.2=uA then (if (lB.1.length:Int)=0 then (if (tA.1.length:Int)=0 then ((Q22.f).bind fun fE=>(some fE)) else (none)) else (none)) else (none))) else (none)))))))=some r:=h
 clear h
 obtain ⟨yD,A3,H⟩:=bS H
 have zJ:=AM H
 clear H
 go_enter Try.func5,Try.ntmps5
 go_upto_if 14 with (first|((with_reducible refine Q0i (N:=2) rfl ?_);(try (refine Q2e (by rfl) ?_;dsimp only));refine bE 2 #[.slice bB gA.length cB,.slice eB hA.length fB,.slice yB dA.length gB] 25 ?_;intro zA hg w5 hbox hb;have aA:=AM hbox;have oG:=kG HB hg;replace HB:=kH HB hb;have aK:=oG;clear hb hbox hg)|((with_reducible refine Q0i (N:=3) rfl ?_);(try (refine Q2e (by rfl) ?_;dsimp only));refine bE 3 #[.int .i64 kA,.int .i64 lA,.int .i64 mA] 27 ?_;intro gE hg w6 hbox hb;have bA:=AM hbox;have pG:=kG HB hg;replace HB:=kH HB hb;have cK:=pG;have iA:=kN aA hg;have jA:=kM aA hg;replace aA:=kB aA hb;clear hb hbox hg;have yL:=iA.out;have zL:=jA.out;obtain ⟨hE,iE,jE,kE,lE,mE⟩:=c3 aA)|((with_reducible refine Q0n (f:=7) rfl ?_);refine gL (some 14) Try.func7 #[.agg #[.slice bB gA.length cB,.slice eB hA.length fB,.slice yB dA.length gB]] ?_;(with_reducible refine (Q1t.calls k _ _ gA _ _ hA _ _ dA yD _ ?side1 ?side2 ?side3 ?side4 ?side5 ?side6 A3.out).mono ?_);(case side1=>exact sC nB HB);(case side2=>exact oB.out);(case side3=>exact sC pB HB);(case side4=>exact qB.out);(case side5=>exact sC vA HB);(case side6=>exact rB.out);rintro e w9 ⟨rfl,hb⟩;refine ⟨_,rfl,?_⟩;replace aA:=kB aA hb;replace bA:=kB bA hb;replace HB:=kH HB hb;(try clear hb);(try clear hb2);(try clear hk);(try clear hi)))
 (try simp only [Act.put,List.setIfInBounds_toArray,List.set_cons_zero,List.set_cons_succ])
 have H:=zJ.out;clear zJ
 by_cases nG:yD=true
 ·subst nG
  replace H:=iT H
  obtain ⟨eE,aM,H⟩:=bS H
  obtain rfl:=Option.some.inj H
  go_wp2_with (first|((with_reducible refine Q0n (f:=9) rfl ?_);refine gL (some 15) Try.func9 #[] ?_;(with_reducible refine (Q22.calls  eE _ aM.out).mono ?_);rintro e nN ⟨rfl,hb⟩;refine ⟨_,rfl,?_⟩;replace aA:=kB aA hb;replace bA:=kB bA hb;replace HB:=kH HB hb;(try clear hb);(try clear hb2);(try clear hk);(try clear hi)))
  go_ret
  exact ⟨rE,bH HB⟩
 ·replace nG:=Bool.eq_false_iff.mpr nG
  subst nG
  replace H:=iF H
  obtain ⟨⟨nA,dJ⟩,bM,H⟩:=bS H
  try dsimp only at H
  obtain ⟨⟨eC,nE⟩,cM,H⟩:=bS H
  try dsimp only at H
  obtain ⟨uA,dM,H⟩:=bS H
  apply iM H;clear H;intro kC pF H
  ·(first|rw [kC]|(simp only [Q1r,Q13];rw [kC])|skip)
   have qG:=AM H
   clear H;have dK:=iA.out;have eK:=jA.out;obtain ⟨lC,mC,nC,oC,pC,qC⟩:=c3 aA
   go_upto_if 33 with (first|((with_reducible refine Q0n (f:=17) rfl ?_);refine gL (some 18) Try.func17 #[.agg #[.slice bB gA.length cB,.slice eB hA.length fB,.slice yB dA.length gB]] ?_;(with_reducible refine (Q08.calls k _ _ gA _ _ hA _ _ dA nA dJ _ ?side1 ?side2 ?side3 ?side4 ?side5 ?side6 bM.out).mono ?_);(case side1=>exact sC nB HB);(case side2=>exact oB.out);(case side3=>exact sC pB HB);(case side4=>exact qB.out);(case side5=>exact sC vA HB);(case side6=>exact rB.out);rintro e oN ⟨rG,rfl,hB,hb⟩;refine ⟨_,rfl,?_⟩;have aB:=AM (Kd.Q1b hB (Q0h (bH HB)));replace aA:=kB aA hb;replace bA:=kB bA hb;replace HB:=kH HB hb;(try clear hb);(try clear hb2);(try clear hk);(try clear hi);(try clear hB);obtain ⟨rC,tC,uC,vC,wC,xC⟩:=c3 aA;obtain ⟨yC,zC,aD,bD,cD,dD⟩:=c3 bA)|((with_reducible refine Q0n (f:=10) rfl ?_);refine gL (some 24) Try.func10 #[.agg #[.slice bB gA.length cB,.slice eB hA.length fB,.slice yB dA.length gB],.agg #[.int .i64 kA,.int .i64 lA,.int .i64 mA]] ?_;(with_reducible refine (Q0x.calls k _ _ gA _ _ hA _ _ dA kA lA mA eC nE _ ?side1 ?side2 ?side3 ?side4 ?side5 ?side6 cM.out).mono ?_);(case side1=>exact sC nB HB);(case side2=>exact oB.out);(case side3=>exact sC pB HB);(case side4=>exact qB.out);(case side5=>exact sC vA HB);(case side6=>exact rB.out);rintro e pN ⟨vF,rfl,hB,hb⟩;refine ⟨_,rfl,?_⟩;replace aB:=kR aB hb;have sB:=AM (Kd.Q1b hB (Q0h (bH HB)));replace aA:=kB aA hb;replace bA:=kB bA hb;replace HB:=kH HB hb;(try clear hb);(try clear hb2);(try clear hk);(try clear hi);(try clear hB);obtain ⟨eD,fD,gD,hD,iD,jD⟩:=c3 aA)|((with_reducible refine Q0n (f:=8) rfl ?_);refine gL (some 28) Try.func8 #[.agg #[.slice bB gA.length cB,.slice eB hA.length fB,.slice yB dA.length gB]] ?_;(with_reducible refine (Q1g.calls k _ _ gA _ _ hA _ _ dA uA _ ?side1 ?side2 ?side3 ?side4 ?side5 ?side6 dM.out).mono ?_);(case side1=>exact sC nB HB);(case side2=>exact oB.out);(case side3=>exact sC pB HB);(case side4=>exact qB.out);(case side5=>exact sC vA HB);(case side6=>exact rB.out);rintro e qN ⟨rfl,hb⟩;refine ⟨_,rfl,?_⟩;replace aB:=kR aB hb;replace sB:=kR sB hb;replace aA:=kB aA hb;replace bA:=kB bA hb;replace HB:=kH HB hb;(try clear hb);(try clear hb2);(try clear hk);(try clear hi)))
   (try simp only [Act.put,List.setIfInBounds_toArray,List.set_cons_zero,List.set_cons_succ])
   have H:=qG.out;clear qG
   by_cases pE:uA=0
   ·rw [if_pos pE] at H
    have tB:(uA==0)=true:=beq_iff_eq.mpr pE
    have kD:(uA != 0)=false:=bne_eq_false_iff_eq.mpr pE
    clear pE
    (first|rw [kD]|rw [tB])
    have H':=AM H
    clear H
    go_wp2
    go_loopg [10] k (fun kq eM w'=>∃ (cA:Int),eM=.int .i64 cA∧Aside0 (Q0q.l0 kq nA eC nE cA gA hA dA kA lA mA=some r)∧Aside0 (kq≤k)∧Aside0 (Kd.R k50 50 w' w.heap.size (fun _=>True) rG nA)∧Aside0 (Kd.R (Kd.int .i64) 3 w' w.heap.size (fun _=>True) vF eC)∧Aside0 (w'.heap[zA]? = some (.cells #[(.slice bB gA.length cB),(.slice eB hA.length fB),(.slice yB dA.length gB)] 25 (0,0)))∧Aside0 (w'.heap[gE]? = some (.cells #[.int .i64 kA,.int .i64 lA,.int .i64 mA] 27 (0,0)))∧Aside0 (Below w.heap.size w w'))
    case atStart=>exact ⟨(0),rS,H',⟨Nat.le_refl _⟩,⟨rK aB⟩,⟨rK sB⟩,⟨bK aA⟩,⟨bK bA⟩,⟨ bH HB⟩⟩
    case round =>
     clear H'
     (try clear c1);(try clear c2);(try clear p2);(try clear c5);(try clear c7);(try clear c8);(try clear c9);(try clear nG);(try clear c16);(try clear kC);(try clear pF);(try clear c17);(try clear c18);(try clear pE);(try clear tB);(try clear kD);(try clear lC);(try clear mC);(try clear nC);(try clear rC);(try clear tC);(try clear uC);(try clear yC);(try clear zC);(try clear aD);(try clear eD);(try clear fD);(try clear gD);(try clear hE);(try clear iE);(try clear jE);(try clear oC);(try clear pC);(try clear qC);(try clear vC);(try clear wC);(try clear xC);(try clear bD);(try clear cD);(try clear dD);(try clear hD);(try clear iD);(try clear jD);(try clear kE);(try clear lE);(try clear mE)
     obtain ⟨cA,rfl,HA,gH,HO_5,HO_7,aA,bA,HB⟩:=hrel
     cases gk with
     | zero=>exact absurd HA.out (by simp [Q0q.l0])
     | succ k1 =>
      have H:=HA.out;clear HA
      simp only [Q0q.l0] at H
      apply iC H<;>clear H<;>intro sG H
      ·obtain ⟨cC,fM,H⟩:=bS H
       have H':=AM H
       clear H;have fK:=iA.out;have gK:=jA.out;obtain ⟨qE,sE,tE,uE,vE,wE⟩:=c3 aA
       go_wp2_with (first|((with_reducible refine Q0n (f:=18) rfl ?_);refine gL (some 57) Try.func18 #[.int .i64 0] ?_;(with_reducible refine (Q1o.calls k1 0 cC _ fM.out).mono ?_);rintro e rN ⟨gM,rfl,hB,hb⟩;refine ⟨_,rfl,?_⟩;replace HO_5:=kR HO_5 hb;have lD:=AM (Kd.Q1b (Kd.Q2z hB (Kd.R_lt (rK HO_7))) (Q0h (bH HB)));replace HO_7:=AM (Kd.Q16 (rK HO_7) (Kd.Q2l hB) hb);replace aA:=kB aA hb;replace bA:=kB bA hb;replace HB:=kH HB hb;(try clear hb);(try clear hb2);(try clear hk);(try clear hi);(try clear hB))|((with_reducible refine Q0i (N:=11) rfl ?_);(try (refine Q2e (by rfl) ?_;dsimp only));refine bE 11 #[.slice none 0 0] 43 ?_;intro sA hg sN hbox hb;replace HO_5:=kR HO_5 hb;replace HO_7:=kR HO_7 hb;replace lD:=kR lD hb;have eA:=AM hbox;have tG:=kG HB hg;replace HB:=kH HB hb;have iK:=tG;have qA:=kN aA hg;have rA:=kM aA hg;replace aA:=kB aA hb;have uB:=kN bA hg;have vB:=kM bA hg;replace bA:=kB bA hb;clear hb hbox hg;obtain ⟨xE,yE,eJ⟩:=Kd.Q01 lD.out;subst eJ;have jK:=rA.out;have kK:=qA.out;have lK:=vB.out;have mK:=uB.out;obtain ⟨zE,aF⟩:=c1 eA))
       go_loopg [12] k1 (fun kq hM w'=>∃ (oA:Int) (fA:List Int) (u730000:Value),hM=.int .i64 oA∧Aside0 (Q0q.l1 kq nA eC nE cA oA gA hA dA kA lA mA fA=some r)∧Aside0 (kq≤k1)∧Aside0 (Kd.R k50 50 w' w.heap.size (fun _=>True) rG nA)∧Aside0 (Kd.R (Kd.int .i64) 3 w' w.heap.size (fun k_=>some k_≠(u730000:Value).ownBlock) vF eC)∧Aside0 (Kd.R (Kd.int .i64) 3 w' w.heap.size (fun k_=>some k_≠(vF:Value).ownBlock) u730000 fA)∧Aside0 (w'.heap[zA]? = some (.cells #[(.slice bB gA.length cB),(.slice eB hA.length fB),(.slice yB dA.length gB)] 25 (0,0)))∧Aside0 (w'.heap[gE]? = some (.cells #[.int .i64 kA,.int .i64 lA,.int .i64 mA] 27 (0,0)))∧Aside0 (w'.heap[sA]? = some (.cells #[u730000] 43 (0,0)))∧Aside0 (Below w.heap.size w w'))
       case atStart=>exact ⟨(0),(cC),(.slice xE cC.length yE),rS,H',⟨Nat.le_refl _⟩,⟨by (with_reducible repeat (first|apply Kd.Q10|apply Kd.Q11|apply Kd.Q2h));exact Kd.Q1q (Kd.Q3p (p:=⟨sA,0,none⟩) (Kd.Q2y HO_5.out eA.out (by decide)) (fun _ hk=>hk.2) (.slice xE cC.length yE)) (fun _ hk=>trivial)⟩,⟨by (with_reducible repeat (first|apply Kd.Q10|apply Kd.Q11|apply Kd.Q2h));exact Kd.Q1q (Kd.Q3p (p:=⟨sA,0,none⟩) (Kd.Q2y HO_7.out eA.out (by decide)) (fun _ hk=>hk.2) (.slice xE cC.length yE)) (fun _ hk=>hk.1.2)⟩,⟨by (with_reducible repeat (first|apply Kd.Q10|apply Kd.Q11|apply Kd.Q2h));exact Kd.Q1q (Kd.Q3p (p:=⟨sA,0,none⟩) (Kd.Q2y lD.out eA.out (by decide)) (fun _ hk=>hk.2) (.slice xE cC.length yE)) (fun _ hk=>hk.1.2)⟩,⟨bK aA⟩,⟨bK bA⟩,⟨by (with_reducible repeat (first|refine Q0c ?_ _|refine Q0d ?_|refine Q0b ?_ _));refine Q0u (cs:=#[.slice none 0 0]) ?_ 0 _ rfl;(with_reducible repeat (first|refine Q0c ?_ _|refine Q0d ?_|refine Q0b ?_ _));exact eA.out⟩,⟨ bH HB⟩⟩
       case round =>
        clear H'
        (try clear c1);(try clear c2);(try clear p2);(try clear c3);(try clear c5);(try clear c7);(try clear c8);(try clear c9);(try clear nG);(try clear c16);(try clear kC);(try clear pF);(try clear c17);(try clear c18);(try clear pE);(try clear tB);(try clear kD);(try clear c27);(try clear sG);(try clear c29);(try clear c34);(try clear c35);(try clear lC);(try clear mC);(try clear nC);(try clear rC);(try clear tC);(try clear uC);(try clear yC);(try clear zC);(try clear aD);(try clear eD);(try clear fD);(try clear gD);(try clear qE);(try clear sE);(try clear tE);(try clear zE);(try clear hE);(try clear iE);(try clear jE);(try clear oC);(try clear pC);(try clear qC);(try clear vC);(try clear wC);(try clear xC);(try clear bD);(try clear cD);(try clear dD);(try clear hD);(try clear iD);(try clear jD)
        (try clear uE);(try clear vE);(try clear wE);(try clear aF);(try clear kE);(try clear lE);(try clear mE);(try clear p2)
        obtain ⟨oA,fA,u730000,rfl,HA,hH,HO_5,HO_7,HO_730000,aA,bA,eA,HB⟩:=hrel
        cases gk with
        | zero=>exact absurd HA.out (by simp [Q0q.l1])
        | succ k2 =>
         have H:=HA.out;clear HA
         simp only [Q0q.l1] at H
         apply iN H;clear H;intro nK H
         ·apply iN H;clear H;intro oK H
          ·apply iC H<;>clear H<;>intro pK H
           ·apply iN H;clear H;intro qK H
            ·obtain ⟨dE,jM,H⟩:=bS H
             obtain ⟨dC,lM,H⟩:=bS H
             have H':=AM H
             clear H;have sK:=iA.out;have tK:=jA.out;have uK:=qA.out;have vK:=rA.out;obtain ⟨iH,jH,lH,mH,nH,oH⟩:=c3 aA
             have hC:0≤(cA:Int):=pD
             have jC:cA<(dA.length:Int):=pD
             obtain ⟨wB,wF,xF,yF,wA,xA,yA⟩:=Q3c vA.out cA hC jC
             cases yF
             replace wA:=hW HB wA
             have bF:=AM yA
             have cF:=AM xA
             clear yA xA;replace hC:=eq_true hC;replace jC:=eq_true jC
             try go_wp2
             replace HO_5:=dR HO_5;replace HO_7:=dR HO_7;replace HO_730000:=dR HO_730000;replace aA:=dB aA;replace bA:=dB bA;replace eA:=dB eA;replace HB:=dH HB
             have zF:0≤(cA:Int):=pD
             have aG:cA<(dA.length:Int):=pD
             obtain ⟨uG,fJ,bG,gJ,iB,mD,nD⟩:=Q3c vA.out cA zF aG
             have zB:=iB
             obtain rfl:wB=uG:=(by injection gJ)
             replace iB:=hW HB iB
             have oD:=AM nD
             have pH:=AM mD
             clear nD mD;replace zF:=eq_true zF;replace aG:=eq_true aG
             have cG:0≤(oA:Int):=pD
             have dG:oA<((Q06 dA cA).length:Int):=pD
             obtain ⟨qF,hJ,jB⟩:=Kd.Q2n oD.out oA cG dG
             have aC:=jB
             cases hJ
             replace jB:=hW HB jB;replace cG:=eq_true cG;replace dG:=eq_true dG
             refine sP 13 (S:=fun w'=>w'.cell? ⟨sA,0,none⟩=some (u730000)∧w'.cell? ⟨zA,0,none⟩=some (.slice bB gA.length cB)∧w'.cell? ⟨zA,1,none⟩=some (.slice eB hA.length fB)∧w'.cell? ⟨zA,2,none⟩=some (.slice (some wB) dA.length gB)∧w'.cell? (wB.add (cA).toNat)=some (.slice (some qF) (Q06 dA cA).length bG)∧w'.cell? (qF.add (oA).toNat)=some (.int .i64 (rd (Q06 dA cA) oA))) (ds:=[12]) ⟨bC eA,bC aA,bC aA,bC aA,(hW HB zB :),(hW HB aC :)⟩ fun hHeld => ?_;refine Q1m Q0q.tab17 Q0q.bits17 (fun HT_ HW_ => ?_)
             generalize wr.drew=w46 at HO_5 HO_7 HO_730000 aA bA eA HB oD iB jB hHeld ⊢
             refine pQ 2 (some 70) HT_ ?_;refine pQ 4 (some 72) HT_ ?_;refine pQ 7 (some 75) HT_ ?_;refine tQ 0 (some 68) HT_ HW_ hHeld ?_;refine tQ 1 (some 69) HT_ HW_ hHeld ?_;refine tQ 3 (some 71) HT_ HW_ hHeld ?_;refine pQ 5 (some 73) HT_ ?_;refine tQ 6 (some 74) HT_ HW_ hHeld ?_;refine pQ 8 (some 76) HT_ ?_;refine tQ 9 (some 77) HT_ HW_ hHeld ?_
             refine oQ 10 (some 78) HT_ rfl fun K hK => ?_
             refine gO Try.func20 #[.agg #[.slice bB gA.length cB,.slice eB hA.length fB,.slice (some wB) dA.length gB],.int .i64 (rd (Q06 dA cA) oA)] ?_
             with_reducible refine (Q2g.calls k2 _ _ gA _ _ hA _ _ dA (rd (Q06 dA cA) oA) dE _ ?side1 ?side2 ?side3 ?side4 ?side5 ?side6 jM.out).mono ?_
             (case side1=>exact sC nB HB)
             (case side2=>exact oB.out)
             (case side3=>exact sC pB HB)
             (case side4=>exact qB.out)
             (case side5=>exact sC vA HB)
             (case side6=>exact rB.out)
             rintro e tN ⟨mM,rfl,hB,hb⟩
             refine ⟨_,rfl,?_⟩
             replace HO_5:=kR HO_5 hb
             have xB:=AM (Kd.Q1b (Kd.Q2z (Kd.Q2z hB (Kd.R_lt (rK HO_7))) (Kd.R_lt (rK HO_730000))) (Q0h (bH HB)))
             replace HO_7:=AM (Kd.Q16 (rK HO_7) (Kd.Q2l hB) hb)
             replace HO_730000:=AM (Kd.Q16 (rK HO_730000) (Kd.Q2l hB) hb)
             replace aA:=kB aA hb;replace bA:=kB bA hb;replace eA:=kB eA hb;replace HB:=kH HB hb;(try clear hb);(try clear hb2);(try clear hk);(try clear hi);(try clear hB)
             obtain ⟨eG,fG,vG⟩:=Kd.Q01 HO_730000.out
             (first|subst vG|(injection vG with qD dF rD;have eF:=qD.symm;have fF:=rD.symm;clear qD dF rD;subst eF;subst fF))
             obtain ⟨iJ,jJ,wG⟩:=Kd.Q01 xB.out
             (first|subst wG|(injection wG with qD dF rD;have eF:=qD.symm;have fF:=rD.symm;clear qD dF rD;subst eF;subst fF))
             refine hK.out _ _ ⟨bC eA,bC aA,bC aA,bC aA,(hW HB zB :),(hW HB aC :)⟩ (fun hHeld => ?_)
             clear hK K;refine nP (some 78) ?_
             refine oQ 11 (some 79) HT_ rfl fun K hK => ?_
             refine gO Try.func19 #[.agg #[.slice eG fA.length fG],.agg #[.slice iJ dE.length jJ]] ?_
             with_reducible refine (Q1h.calls k2 _ _ fA _ _ dE dC _ ?side1 ?side2 ?side3 ?side4 lM.out).mono ?_
             (case side1=>exact sR HO_730000)
             (case side2=>exact (Kd.Q0w HO_730000.out).2.1)
             (case side3=>exact sR xB)
             (case side4=>exact (Kd.Q0w xB.out).2.1)
             rintro e nM ⟨oM,rfl,hB,hb⟩
             refine ⟨_,rfl,?_⟩
             replace HO_5:=kR HO_5 hb
             have rF:=AM (Kd.Q1b (Kd.Q2z (Kd.Q2z (Kd.Q2z hB (Kd.R_lt (rK HO_7))) (Kd.R_lt (rK HO_730000))) (Kd.R_lt (rK xB))) (Q0h (bH HB)))
             replace HO_7:=AM (Kd.Q16 (rK HO_7) (Kd.Q2l hB) hb)
             replace HO_730000:=AM (Kd.Q16 (rK HO_730000) (Kd.Q2l hB) hb)
             replace xB:=AM (Kd.Q16 (rK xB) (Kd.Q2l hB) hb)
             replace aA:=kB aA hb;replace bA:=kB bA hb;replace eA:=kB eA hb;replace HB:=kH HB hb;(try clear hb);(try clear hb2);(try clear hk);(try clear hi);(try clear hB)
             obtain ⟨gF,hF,xG⟩:=Kd.Q01 rF.out
             (first|subst xG|(injection xG with qD dF rD;have eF:=qD.symm;have fF:=rD.symm;clear qD dF rD;subst eF;subst fF))
             refine hK.out _ _ ⟨bC eA,bC aA,bC aA,bC aA,(hW HB zB :),(hW HB aC :)⟩ (fun hHeld => ?_)
             clear hK K;refine nP (some 79) ?_
             refine last_ (i:=12) (N:=none) #[true,true,true,true,true,true,true,true,true,true,true,true,true] rfl rfl (Q7e HT_.out (by kernel_rfl)) (by decide) (fun K hK => ?_)
             have pM:nM.cell? ⟨sA,0,none⟩=some (.slice eG fA.length fG):=bC eA
             have wK:=Q0k eA.out 0
             have qH:=qA.out;have rH:=uB.out;have sH:=rA.out;have tH:=vB.out
             refine skip_ (w1 := ?_) (by rfl) rfl ?_ ?_
             rotate_left
             ·go_simp
              rfl
             refine hK.out _ _ ?_
             clear hK K
             refine done_ (Q2d HT_.out (by kernel_rfl)) ?_
             try go_wp2
             go_roundg k2
             case measure=>have:=gH.out;have:=hH.out;omega
             case rel=>exact ⟨(wrap64 (oA+1)),(dC),(.slice gF dC.length hF),rS,H',⟨by have:=gH.out;have:=hH.out;omega⟩,⟨by (with_reducible repeat (first|apply Kd.Q10|apply Kd.Q11|apply Kd.Q2h));exact Kd.Q1q (Kd.Q3p (p:=⟨sA,0,none⟩) (Kd.Q2y HO_5.out eA.out (by decide)) (fun _ hk=>hk.2) (.slice gF dC.length hF)) (fun _ hk=>trivial)⟩,⟨by (with_reducible repeat (first|apply Kd.Q10|apply Kd.Q11|apply Kd.Q2h));exact Kd.Q1q (Kd.Q3p (p:=⟨sA,0,none⟩) (Kd.Q2y HO_7.out eA.out (by decide)) (fun _ hk=>hk.2) (.slice gF dC.length hF)) (fun _ hk=>hk.1.2)⟩,⟨by (with_reducible repeat (first|apply Kd.Q10|apply Kd.Q11|apply Kd.Q2h));exact Kd.Q1q (Kd.Q3p (p:=⟨sA,0,none⟩) (Kd.Q2y rF.out eA.out (by decide)) (fun _ hk=>hk.2) (.slice gF dC.length hF)) (fun _ hk=>hk.1.1.1.2)⟩,⟨bK aA⟩,⟨bK bA⟩,⟨by (with_reducible repeat (first|refine Q0c ?_ _|refine Q0d ?_|refine Q0b ?_ _));refine Q0u (cs:=#[.slice eG fA.length fG]) ?_ 0 _ rfl;(with_reducible repeat (first|refine Q0c ?_ _|refine Q0d ?_|refine Q0b ?_ _));exact eA.out⟩,⟨ bH HB⟩⟩
           ·by_cases gG:(nA.length:Int)=(dA.length:Int)
            ·rw [if_pos gG] at H
             have xK:((nA.length:Int)==(dA.length:Int))=true:=beq_iff_eq.mpr gG
             have yK:((nA.length:Int) != (dA.length:Int))=false:=bne_eq_false_iff_eq.mpr gG
             have zK:(nA.length==dA.length)=true:=by first|simpa using gG|(simp at gG ⊢;omega)
             clear gG
             apply iN H;clear H;intro aL H
             ·obtain ⟨uF,qM,H⟩:=bS H
              by_cases uH:uF=true
              ·subst uH
               replace H:=iT H
               have H':=AM H
               clear H;have bL:=iA.out;have cL:=jA.out;have dL:=qA.out;have eL:=rA.out;obtain ⟨vH,wH,xH,yH,zH,aI⟩:=c3 aA
               have hC:0≤(cA:Int):=pD
               have jC:cA<(dA.length:Int):=pD
               obtain ⟨wB,wF,xF,yF,wA,xA,yA⟩:=Q3c vA.out cA hC jC
               cases yF
               replace wA:=hW HB wA
               have bF:=AM yA
               have cF:=AM xA
               clear yA xA;replace hC:=eq_true hC;replace jC:=eq_true jC
               try go_wp2
               replace HO_5:=dR HO_5;replace HO_7:=dR HO_7;replace HO_730000:=dR HO_730000;replace aA:=dB aA;replace bA:=dB bA;replace eA:=dB eA;replace HB:=dH HB
               obtain ⟨rM,sM,yG⟩:=Kd.Q01 HO_5.out
               (first|subst yG|(injection yG with qD dF rD;have eF:=qD.symm;have fF:=rD.symm;clear qD dF rD;subst eF;subst fF))
               have hG:0≤(cA:Int):=pD
               have iG:cA<(nA.length:Int):=pD
               obtain ⟨mB,kJ,sD,tD⟩:=Qbv (Kd.Q0w HO_5.out).2.2 cA hG iG
               cases kJ
               replace hG:=eq_true hG;replace iG:=eq_true iG
               have jG:0≤(cA:Int):=pD
               have lG:cA<(nA.length:Int):=pD
               obtain ⟨zG,lJ,uD,vD⟩:=Qbv (Kd.Q0w HO_5.out).2.2 cA jG lG
               obtain rfl:mB=zG:=(by injection lJ)
               replace jG:=eq_true jG;replace lG:=eq_true lG
               obtain ⟨aH,cH,eH⟩:=Kd.Q01 HO_730000.out
               (first|subst eH|(injection eH with qD dF rD;have eF:=qD.symm;have fF:=rD.symm;clear qD dF rD;subst eF;subst fF))
               refine sP 21 (S:=fun w'=>w'.cell? ⟨zA,0,none⟩=some (.slice bB gA.length cB)∧w'.cell? ⟨zA,1,none⟩=some (.slice eB hA.length fB)∧w'.cell? ⟨zA,2,none⟩=some (.slice (some wB) dA.length gB)∧w'.cell? ⟨sA,0,none⟩=some (.slice aH fA.length cH)∧w'.cell? (mB.add ((cA).toNat*2))=some (.int .i64 ((Q2t nA cA).f0))∧w'.cell? ⟨(mB.add ((cA).toNat*2)).block,(mB.add ((cA).toNat*2)).off+1,none⟩=some (.int .u64 ((Q2t nA cA).f1))∧w'.cell? (mB.add ((cA).toNat*2))=some (.int .i64 ((Q2t nA cA).f0))∧w'.cell? ⟨(mB.add ((cA).toNat*2)).block,(mB.add ((cA).toNat*2)).off+1,none⟩=some (.int .u64 ((Q2t nA cA).f1))) (ds:=[]) ⟨bC aA,bC aA,bC aA,bC eA,sD,tD,uD,vD⟩ fun hHeld => ?_;refine Q1m Q0q.tab18 Q0q.bits18 (fun HT_ HW_ => ?_)
               generalize wr.drew=w60 at HO_5 HO_7 HO_730000 aA bA eA HB sD tD uD vD hHeld ⊢
               refine pQ 0 (some 80) HT_ ?_;refine pQ 1 (some 81) HT_ ?_;refine pQ 2 (some 82) HT_ ?_;refine tQ 3 (some 83) HT_ HW_ hHeld ?_;refine pQ 4 (some 84) HT_ ?_;refine pQ 5 (some 85) HT_ ?_;refine pQ 6 (some 86) HT_ ?_;refine pQ 8 (some 88) HT_ ?_;refine pQ 9 (some 89) HT_ ?_;refine pQ 10 (some 90) HT_ ?_;refine pQ 11 (some 91) HT_ ?_;refine pQ 13 (some 93) HT_ ?_;refine pQ 14 (some 94) HT_ ?_;refine pQ 15 (some 95) HT_ ?_;refine pQ 16 (some 96) HT_ ?_;refine tQ 7 (some 87) HT_ HW_ hHeld ?_;refine tQ 12 (some 92) HT_ HW_ hHeld ?_;refine tQ 17 (some 97) HT_ HW_ hHeld ?_
               refine oQ 18 (some 98) HT_ rfl fun K hK => ?_
               refine gO Try.func21 #[.agg #[.slice aH fA.length cH],.int .i64 ((Q2t nA cA).f0),.int .u64 ((Q2t nA cA).f1)] ?_
               with_reducible refine (Q31.calls k2 _ _ fA ((Q2t nA cA).f0) ((Q2t nA cA).f1) true _ ?side1 ?side2 qM.out).mono ?_
               (case side1=>exact sR HO_730000)
               (case side2=>exact (Kd.Q0w HO_730000.out).2.1)
               rintro e uN ⟨rfl,hb⟩
               have mJ:=(hb.cell (World.block_lt_of_cell? _ _ (hHeld.2.2.2.2.1))).trans (hHeld.2.2.2.2.1)
               have nJ:=(hb.cell (World.block_lt_of_cell? _ _ (hHeld.2.2.2.2.2.1))).trans (hHeld.2.2.2.2.2.1)
               have oJ:=(hb.cell (World.block_lt_of_cell? _ _ (hHeld.2.2.2.2.2.2.1))).trans (hHeld.2.2.2.2.2.2.1)
               have pJ:=(hb.cell (World.block_lt_of_cell? _ _ (hHeld.2.2.2.2.2.2.2))).trans (hHeld.2.2.2.2.2.2.2)
               refine ⟨_,rfl,?_⟩
               replace HO_5:=kR HO_5 hb;replace HO_7:=kR HO_7 hb;replace HO_730000:=kR HO_730000 hb;replace aA:=kB aA hb;replace bA:=kB bA hb;replace eA:=kB eA hb;replace HB:=kH HB hb;(try clear hb);(try clear hb2);(try clear hk);(try clear hi)
               refine hK.out _ _ ⟨bC aA,bC aA,bC aA,bC eA,mJ,nJ,oJ,pJ⟩ (fun hHeld => ?_)
               clear hK K;refine nP (some 98) ?_;refine pQ 19 (some 99) HT_ ?_;refine pQ 20 (some 100) HT_ ?_
               refine done_ (Q2d HT_.out (by kernel_rfl)) ?_
               try go_wp2
               go_roundg k2
               case measure=>have:=gH.out;have:=hH.out;omega
               case rel=>exact ⟨(wrap64 (cA+1)),rS,H',⟨by have:=gH.out;have:=hH.out;omega⟩,⟨rK HO_5⟩,⟨by (with_reducible repeat (first|apply Kd.Q10|apply Kd.Q11|apply Kd.Q2h));exact Kd.Q1q HO_7.out (fun _ hk=>trivial)⟩,⟨bK aA⟩,⟨bK bA⟩,⟨ bH HB⟩⟩
              ·replace uH:=Bool.eq_false_iff.mpr uH
               subst uH
               replace H:=iF H
               exact absurd H (by simp)
            ·rw [if_neg gG] at H
             exact absurd H (by simp)
      ·obtain ⟨mG,fC⟩:∃ y_:List (S27),y_=(([(⟨kA,lA,mA⟩:S27)]:List (S27))):=⟨_,rfl⟩
       replace H:((Q0s.f k1 mG).bind fun wD=>(if wD=true then (if nE=0 then ((Q0r.f k1 gA hA dA kA lA mA).bind fun xD=>((Q07.f k1 eC xD).bind fun zD=>(if zD=true then ((Q22.f).bind fun aE=>(some aE)) else (none)))) else (none)) else (if nE=2 then (if (eC.length:Int)=0 then ((Q22.f).bind fun cE=>(some cE)) else (none)) else (none))))=some r:=by first|(rw [fC];with_reducible exact H)|(have qJ:=(Option.bind_some _ _).symm.trans H;rw [fC];with_reducible exact qJ)|(have qJ:=(Option.bind_some _ _).symm.trans H;with_reducible exact qJ)|with_reducible exact H|(rw [fC];exact H)|exact H
       have sF:=AM fC
       clear fC
       obtain ⟨wD,tM,H⟩:=bS H
       have fH:=AM H
       clear H;have fL:=iA.out;have hL:=jA.out;obtain ⟨bI,cI,dI,eI,fI,gI⟩:=c3 aA;obtain ⟨hI,iI,jI,kI,lI,mI⟩:=c3 bA
       go_upto_if 104 with (first|((with_reducible refine Q0i (N:=102) rfl ?_);(try (refine Q2e (by rfl) ?_;dsimp only));refine Kd.Q4s k27 _ 27 ?hg (N:=102) ?hd (xs:=([(⟨kA,lA,mA⟩:S27)]:List (S27))) (inner:=[.int .i64 kA,.int .i64 lA,.int .i64 mA]) (ok:=fun _=>True) (okp:=fun _=>True) ?hr ?hp (fun _ hk=>hk) trivial (Below.refl _ _) (Nat.le_refl _) (by simp) ?_;(case hd=>rfl);(case hg=>rfl);(case hr=>first|(go_simp;done)|(go_simp;rfl));(case hp=>exact (Reps.c3 (show Kd.M k27 _ _ _ (⟨kA,lA,mA⟩:S27) [.int .i64 kA,.int .i64 lA,.int .i64 mA] from (Q2o _ _ _ (⟨kA,lA,mA⟩:S27) )) (Reps.none _ _)));intro uM vN oE hb hg_ hnew_;clear hg_ hnew_;(first|rw [← sF.out] at oE|(simp only [Int.reduceToNat] at oE;rw [← sF.out] at oE));replace HO_5:=kR HO_5 hb;replace HO_7:=kR HO_7 hb;have pA:=AM (Kd.Q1b (Kd.Q2v oE (g:=gE) (o:=.cells #[.int .i64 kA,.int .i64 lA,.int .i64 mA] 27 (0,0)) (bK bA)) (Q0h (bH HB)));replace aA:=kB aA hb;replace bA:=kB bA hb;replace HB:=kH HB hb;clear hb oE;obtain ⟨rJ,sJ,tJ⟩:=Kd.Q01 pA.out;subst tJ)|((with_reducible refine Q0n (f:=22) rfl ?_);refine gL (some 103) Try.func22 #[.slice rJ mG.length sJ] ?_;(with_reducible refine (Q0s.calls k1 _ _ mG wD _ ?side1 ?side2 tM.out).mono ?_);(case side1=>exact sR pA);(case side2=>exact (Kd.Q0w pA.out).2.1);rintro e wN ⟨rfl,hb⟩;refine ⟨_,rfl,?_⟩;replace HO_5:=kR HO_5 hb;replace HO_7:=kR HO_7 hb;replace pA:=kR pA hb;replace aA:=kB aA hb;replace bA:=kB bA hb;replace HB:=kH HB hb;(try clear hb);(try clear hb2);(try clear hk);(try clear hi)))
       (try simp only [Act.put,List.setIfInBounds_toArray,List.set_cons_zero,List.set_cons_succ])
       have H:=fH.out;clear fH
       by_cases nI:wD=true
       ·subst nI
        replace H:=iT H
        apply iM H;clear H;intro tF iL H
        ·(first|rw [tF]|(simp only [Q1r,Q13];rw [tF])|skip)
         obtain ⟨xD,vM,H⟩:=bS H
         obtain ⟨zD,wM,H⟩:=bS H
         by_cases oI:zD=true
         ·subst oI
          replace H:=iT H
          obtain ⟨aE,xM,H⟩:=bS H
          obtain rfl:=Option.some.inj H
          have jL:=iA.out;have kL:=jA.out;obtain ⟨pI,qI,rI,sI,tI,uI⟩:=c3 aA;obtain ⟨vI,wI,xI,yI,zI,aJ⟩:=c3 bA
          go_wp2_with (first|(go_at_call 12;(with_reducible refine (Q0r.calls k1 _ _ gA _ _ hA _ _ dA kA lA mA xD _ ?side1 ?side2 ?side3 ?side4 ?side5 ?side6 vM.out).mono ?_);(case side1=>exact sC nB HB);(case side2=>exact oB.out);(case side3=>exact sC pB HB);(case side4=>exact qB.out);(case side5=>exact sC vA HB);(case side6=>exact rB.out);rintro e xN ⟨yM,rfl,hB,hb⟩;replace HO_5:=kR HO_5 hb;replace pA:=kR pA hb;have gC:=AM (Kd.Q1b (Kd.Q2z hB (Kd.R_lt (rK HO_7))) (Q0h (bH HB)));replace HO_7:=AM (Kd.Q16 (rK HO_7) (Kd.Q2l hB) hb);replace aA:=kB aA hb;replace bA:=kB bA hb;replace HB:=kH HB hb;(try clear hb);(try clear hb2);(try clear hk);(try clear hi);(try clear hB);obtain ⟨zM,aN,uJ⟩:=Kd.Q01 HO_7.out;subst uJ;obtain ⟨bN,cN,vJ⟩:=Kd.Q01 gC.out;subst vJ)|(go_at_call 11;(with_reducible refine (Q07.calls k1 _ _ eC _ _ xD true _ ?side1 ?side2 ?side3 ?side4 wM.out).mono ?_);(case side1=>exact sR HO_7);(case side2=>exact (Kd.Q0w HO_7.out).2.1);(case side3=>exact sR gC);(case side4=>exact (Kd.Q0w gC.out).2.1);rintro e w' ⟨rfl,⟨nd,rfl⟩⟩)|(go_at_call 9;(with_reducible refine (Q22.calls  aE _ xM.out).mono ?_);rintro e yN ⟨rfl,hb⟩;replace HO_5:=kR HO_5 hb;replace HO_7:=kR HO_7 hb;replace pA:=kR pA hb;replace gC:=kR gC hb;replace aA:=kB aA hb;replace bA:=kB bA hb;replace HB:=kH HB hb;(try clear hb);(try clear hb2);(try clear hk);(try clear hi)))
          go_ret
          exact ⟨rE,bH HB⟩
         ·replace oI:=Bool.eq_false_iff.mpr oI
          subst oI
          replace H:=iF H
          exact absurd H (by simp)
       ·replace nI:=Bool.eq_false_iff.mpr nI
        subst nI
        replace H:=iF H
        apply iM H;clear H;intro lL mL H
        ·apply iM H;clear H;intro nL oL H
         ·obtain ⟨cE,dN,H⟩:=bS H
          obtain rfl:=Option.some.inj H
          obtain ⟨eN,fN,wJ⟩:=Kd.Q01 HO_7.out
          subst wJ
          go_wp2_with (first|(go_at_call 9;(with_reducible refine (Q22.calls  cE _ dN.out).mono ?_);rintro e zN ⟨rfl,hb⟩;replace HO_5:=kR HO_5 hb;replace HO_7:=kR HO_7 hb;replace pA:=kR pA hb;replace aA:=kB aA hb;replace bA:=kB bA hb;replace HB:=kH HB hb;(try clear hb);(try clear hb2);(try clear hk);(try clear hi)))
          go_ret
          exact ⟨rE,bH HB⟩
   ·rw [if_neg pE] at H
    have tB:(uA==0)=false:=beq_eq_false_iff_ne.mpr pE
    have kD:(uA != 0)=true:=bne_iff_ne.mpr pE
    (first|rw [tB]|(simp only [Q1r,Q13];rw [tB])|skip)
    apply iM H;clear H;intro pL qL H
    ·apply iM H;clear H;intro rL sL H
     ·apply iM H;clear H;intro tL uL H
      ·obtain ⟨fE,gN,H⟩:=bS H
       obtain rfl:=Option.some.inj H
       obtain ⟨hN,jN,xJ⟩:=Kd.Q01 aB.out
       subst xJ
       obtain ⟨lN,mN,yJ⟩:=Kd.Q01 sB.out
       subst yJ
       go_wp2_with (first|(go_at_call 9;(with_reducible refine (Q22.calls  fE _ gN.out).mono ?_);rintro e aO ⟨rfl,hb⟩;replace aB:=kR aB hb;replace sB:=kR sB hb;replace aA:=kB aA hb;replace bA:=kB bA hb;replace HB:=kH HB hb;(try clear hb);(try clear hb2);(try clear hk);(try clear hi)))
       go_ret
       exact ⟨rE,bH HB⟩
end Go.Proofs.Ytbonkedecfjmdaa.P

namespace Go.Proofs.Ytbonkedecfjmdaa.O
set_option linter.unusedVariables false
set_option linter.unusedSimpArgs false
open Go.RowKit Go.Deep Go.ChangeShapes Go.WideShapes Go.Proofs.YtbonkedecfjmdaaW.PrintWords
def Opens {α:Type} (P:Program) (t:TypeId) (d:Kd α) (ok:α→Prop) (mu:α→Nat):Prop :=
 ∀ (H:Type) (enc:TypeId×Value→H) (w:World) (fuel:Nat) (cs:List Value) (x:DataW H×List MemPlace),
  DataW.trod enc P w 0 (fun _=>true) true fuel t cs=some x→∃ y:α,d.K w y cs∧ok y∧mu y≤Rows.uptoBulk x.1
theorem Q6k {H:Type} (d:DataW H):1≤Rows.uptoBulk d:=by
 cases d with
 | lit l=>cases l<;>simp [Rows.uptoBulk]
 | _=>simp [Rows.uptoBulk]
theorem Q5b {P:Program} {t:TypeId} {k:IntKind} (ht:P.underlying t=some (.int k)):Opens P t (Kd.int k) (fun n=>(Lit.int k n).wf=true) (fun _=>1):=by
 intro H enc w fuel cs x h
 obtain ⟨n,rfl,rfl,hw⟩:=DataW.trod_int ht h
 exact ⟨n,rfl,hw,Q6k _⟩
theorem Qaw {H:Type} (D:Nat→DataW H) (m:Nat→Nat):∀ n,(∀ i,i<n→m i≤Rows.uptoBulk (D i))→((List.range n).map m).sum≤Rows.uptoBulkAll ((List.range n).map D):=by
 have app:∀ l r:List (DataW H),Rows.uptoBulkAll (l++r)=Rows.uptoBulkAll l+Rows.uptoBulkAll r:=by
  intro l r
  induction l with
  | nil=>simp [Rows.uptoBulkAll]
  | cons x l ih=>simp only [List.cons_append,Rows.uptoBulkAll,ih];omega
 intro n
 induction n with
 | zero=>intro _;simp
 | succ n ih =>
  intro h
  have h1:=ih fun i hi=>h i (by omega)
  have h2:=h n (by omega)
  rw [List.range_succ,List.map_append,List.map_append,app,List.sum_append]
  simp only [List.map_cons,List.map_nil,List.sum_cons,List.sum_nil,Rows.uptoBulkAll]
  omega
theorem Q37 {α:Type} [Inhabited α] {P:Program} {t e:TypeId} {d:Kd α} {ok:α→Prop} {mu:α→Nat} (ht:P.underlying t=some (.slice e)) (hs:d.sz=P.cellsOf e) (h:Opens P e d ok mu) :
  Opens P t (Kd.slice e d) (fun l=>l.length≤maxLen∧∀ x∈l,ok x) (fun l=>1+(l.map mu).sum):=by
 intro H enc w fuel cs x hx
 rcases open_slice ht hx with ⟨rfl,rfl⟩|⟨a,len,cap,m,n,D,Pl,rfl,hb,hl,hm,hmm,rfl,hi⟩
 ·exact ⟨[],⟨none,0,rfl,Nat.le_refl _,rfl,by simp,fun h0=>absurd h0 (by simp)⟩,⟨by simp,by simp⟩,by simpa using Q6k _⟩
 ·have hle:len≤m:=by simp at hmm;omega
  obtain ⟨f,hf⟩:=choose_lt (α:=α) (n:=len) (p:=fun i y=>∃ cs',w.cells? 0 (a.add (i*P.cellsOf e)) (P.cellsOf e)=some cs'∧d.K w y cs'∧ok y∧mu y≤Rows.uptoBulk (D i)) (fun i hil=>by
   obtain ⟨cs',hc,hy⟩:=hi i (by omega)
   obtain ⟨y,hK,ho,hmu⟩:=h H enc w n cs' _ hy
   exact ⟨y,cs',hc,hK,ho,hmu⟩)
  refine ⟨(List.range len).map f,⟨some a,cap,by simp,by simpa using hl,by simp,by (have:maxLen≤9223372036854775807:=by (unfold maxLen;omega));(simp;omega),fun h0=>⟨a,rfl,fun j p hj => ?_⟩⟩,⟨by simp;omega,fun x hx => ?_⟩,?_⟩
  ·rw [List.getElem?_map] at hj
   have hjl:j<len:=by
    by_cases hjl:j<len
    ·exact hjl
    ·rw [List.getElem?_eq_none (by simp;omega)] at hj;simp at hj
   rw [List.getElem?_range hjl] at hj
   simp only [Option.map_some,Option.some.injEq] at hj
   subst hj
   obtain ⟨cs',hc,hK,ho,hmu⟩:=hf j hjl
   obtain ⟨_,hlen,hat⟩:=World.cells?_some hc
   refine ⟨cs',by rw [hs];exact hlen,hK,fun i u hu => ?_⟩
   have hil:i<P.cellsOf e:=by
    have:=(List.getElem?_eq_some_iff.1 hu).1;omega
   rw [hs,← Go.Deep.add_add,hat i hil,hu]
  ·simp only [List.mem_map,List.mem_range] at hx
   obtain ⟨i,hil,rfl⟩:=hx
   obtain ⟨_,_,_,ho,_⟩:=hf i hil
   exact ho
  ·have:=Qaw D (fun i=>mu (f i)) len fun i hil=>(hf i hil).choose_spec.2.2.2
   simp only [List.map_map,Rows.uptoBulk]
   have e1:(List.range len).map (mu ∘ f)=(List.range len).map fun i=>mu (f i):=rfl
   rw [e1]
   omega
theorem Q5s {α β γ δ:Type} {P:Program} {t:TypeId} {f0 f1 f2:Field} {d0:Kd α} {d1:Kd β} {d2:Kd γ} {ok0:α→Prop} {ok1:β→Prop} {ok2:γ→Prop} {mu0:α→Nat} {mu1:β→Nat} {mu2:γ→Nat}
  (hs:P.underlying t=some (.struct #[f0,f1,f2])) (hone:oneCellFields P #[f0,f1,f2]=true) (hC:P.cellsOf t=3) (h0:Opens P f0.type d0 ok0 mu0) (h1:Opens P f1.type d1 ok1 mu1) (h2:Opens P f2.type d2 ok2 mu2)
  (mk:α→β→γ→δ) (d:Kd δ) (hd:∀ w y0 y1 y2 c0 c1 c2,d0.K w y0 [c0]→d1.K w y1 [c1]→d2.K w y2 [c2]→d.K w (mk y0 y1 y2) [c0,c1,c2])
  (ok:δ→Prop) (hok:∀ y0 y1 y2,ok0 y0→ok1 y1→ok2 y2→ok (mk y0 y1 y2)) (mu:δ→Nat) (hmu:∀ y0 y1 y2,mu (mk y0 y1 y2)≤1+mu0 y0+mu1 y1+mu2 y2):Opens P t d ok mu:=by
 intro H enc w fuel cs x hx
 obtain ⟨xs,n,_,rfl,hcl,hlen,hg⟩:=DataW.trod_struct hs hx
 rw [hC] at hcl
 match cs,hcl with
 | [c0,c1,c2],_ =>
  obtain ⟨o0,k0⟩:=hone_of hone 0 f0 rfl
  obtain ⟨o1,k1⟩:=hone_of hone 1 f1 rfl
  obtain ⟨o2,k2⟩:=hone_of hone 2 f2 rfl
  match xs,hlen with
  | [y0,y1,y2],_ =>
   have g0:DataW.trod enc P w 0 (fun _=>true) true n f0.type [c0]=some y0:=by simpa [o0,k0] using hg 0 f0 rfl
   have g1:DataW.trod enc P w 0 (fun _=>true) true n f1.type [c1]=some y1:=by simpa [o1,k1] using hg 1 f1 rfl
   have g2:DataW.trod enc P w 0 (fun _=>true) true n f2.type [c2]=some y2:=by simpa [o2,k2] using hg 2 f2 rfl
   obtain ⟨z0,K0,O0,M0⟩:=h0 H enc w n _ _ g0
   obtain ⟨z1,K1,O1,M1⟩:=h1 H enc w n _ _ g1
   obtain ⟨z2,K2,O2,M2⟩:=h2 H enc w n _ _ g2
   refine ⟨mk z0 z1 z2,hd w _ _ _ _ _ _ K0 K1 K2,hok _ _ _ O0 O1 O2,Nat.le_trans (hmu _ _ _) ?_⟩
   simp only [List.map_cons,List.map_nil,Rows.uptoBulk,Rows.uptoBulkAll]
   omega
theorem Qc6 {α β δ:Type} {P:Program} {t:TypeId} {f0 f1:Field} {d0:Kd α} {d1:Kd β} {ok0:α→Prop} {ok1:β→Prop} {mu0:α→Nat} {mu1:β→Nat}
  (hs:P.underlying t=some (.struct #[f0,f1])) (hone:oneCellFields P #[f0,f1]=true) (hC:P.cellsOf t=2) (h0:Opens P f0.type d0 ok0 mu0) (h1:Opens P f1.type d1 ok1 mu1)
  (mk:α→β→δ) (d:Kd δ) (hd:∀ w y0 y1 c0 c1,d0.K w y0 [c0]→d1.K w y1 [c1]→d.K w (mk y0 y1) [c0,c1])
  (ok:δ→Prop) (hok:∀ y0 y1,ok0 y0→ok1 y1→ok (mk y0 y1)) (mu:δ→Nat) (hmu:∀ y0 y1,mu (mk y0 y1)≤1+mu0 y0+mu1 y1):Opens P t d ok mu:=by
 intro H enc w fuel cs x hx
 obtain ⟨xs,n,_,rfl,hcl,hlen,hg⟩:=DataW.trod_struct hs hx
 rw [hC] at hcl
 match cs,hcl with
 | [c0,c1],_ =>
  obtain ⟨o0,k0⟩:=hone_of hone 0 f0 rfl
  obtain ⟨o1,k1⟩:=hone_of hone 1 f1 rfl
  match xs,hlen with
  | [y0,y1],_ =>
   have g0:DataW.trod enc P w 0 (fun _=>true) true n f0.type [c0]=some y0:=by simpa [o0,k0] using hg 0 f0 rfl
   have g1:DataW.trod enc P w 0 (fun _=>true) true n f1.type [c1]=some y1:=by simpa [o1,k1] using hg 1 f1 rfl
   obtain ⟨z0,K0,O0,M0⟩:=h0 H enc w n _ _ g0
   obtain ⟨z1,K1,O1,M1⟩:=h1 H enc w n _ _ g1
   refine ⟨mk z0 z1,hd w _ _ _ _ K0 K1,hok _ _ O0 O1,Nat.le_trans (hmu _ _) ?_⟩
   simp only [List.map_cons,List.map_nil,Rows.uptoBulk,Rows.uptoBulkAll]
   omega
end Go.Proofs.Ytbonkedecfjmdaa.O

namespace Go.Proofs.Ytbonkedecfjmdaa.P
open Go.RowKit Go.Proofs.Ytbonkedecfjmdaa.O Go.Proofs.YtbonkedecfjmdaaW.PrintWords Go.Proofs.YtbonkedecfjmdaaW.PrintLast
instance inh27:Inhabited S27:=⟨z27⟩
def ok27 (x:S27):Prop:=(fun n=>(Lit.int .i64 n).wf=true) x.f0∧(fun n=>(Lit.int .i64 n).wf=true) x.f1∧(fun n=>(Lit.int .i64 n).wf=true) x.f2
def mu27 (x:S27):Nat:=1+(fun _=>1) x.f0+(fun _=>1) x.f1+(fun _=>1) x.f2
theorem op27:Opens Try.prog 27 k27 ok27 mu27 :=
 Q5s Try.underlying27 (by kernel_rfl) (by kernel_rfl) (Q5b Try.underlying3) (Q5b Try.underlying3) (Q5b Try.underlying3) (fun a b c=>⟨a,b,c⟩) k27 (fun w y0 y1 y2 c0 c1 c2 h0 h1 h2=>⟨[c0],[c1,c2],rfl,h0,⟨[c1],[c2],rfl,h1,h2⟩⟩) ok27 (fun _ _ _ a b c=>⟨a,b,c⟩) mu27 (fun _ _ _=>Nat.le_refl _)
instance inh25:Inhabited S25:=⟨z25⟩
def ok25 (x:S25):Prop:=(fun l=>l.length≤maxLen∧∀ x∈l,(fun l=>l.length≤maxLen∧∀ x∈l,ok27 x) x) x.f0∧(fun l=>l.length≤maxLen∧∀ x∈l,(fun l=>l.length≤maxLen∧∀ x∈l,(fun n=>(Lit.int .i64 n).wf=true) x) x) x.f1∧(fun l=>l.length≤maxLen∧∀ x∈l,(fun l=>l.length≤maxLen∧∀ x∈l,(fun n=>(Lit.int .i64 n).wf=true) x) x) x.f2
def mu25 (x:S25):Nat:=1+(fun l=>1+(l.map (fun l=>1+(l.map mu27).sum)).sum) x.f0+(fun l=>1+(l.map (fun l=>1+(l.map (fun _=>1)).sum)).sum) x.f1+(fun l=>1+(l.map (fun l=>1+(l.map (fun _=>1)).sum)).sum) x.f2
theorem op25:Opens Try.prog 25 k25 ok25 mu25 :=
 Q5s Try.underlying25 (by kernel_rfl) (by kernel_rfl) (Q37 (e:=31) Try.underlying22 (by kernel_rfl) (Q37 (e:=27) Try.underlying31 (by kernel_rfl) op27)) (Q37 (e:=32) Try.underlying23 (by kernel_rfl) (Q37 (e:=3) Try.underlying32 (by kernel_rfl) (Q5b Try.underlying3))) (Q37 (e:=32) Try.underlying23 (by kernel_rfl) (Q37 (e:=3) Try.underlying32 (by kernel_rfl) (Q5b Try.underlying3))) (fun a b c=>⟨a,b,c⟩) k25 (fun w y0 y1 y2 c0 c1 c2 h0 h1 h2=>⟨[c0],[c1,c2],rfl,h0,⟨[c1],[c2],rfl,h1,h2⟩⟩) ok25 (fun _ _ _ a b c=>⟨a,b,c⟩) mu25 (fun _ _ _=>Nat.le_refl _)
end Go.Proofs.Ytbonkedecfjmdaa.P

namespace Go.Proofs.Ytbonkedecfjmdaa.Pl
set_option linter.unusedVariables false
set_option linter.unusedSimpArgs false
open Go Go.RowKit Go.Proofs.Ytbonkedecfjmdaa.P Go.Proofs.Ytbonkedecfjmdaa.G Go.Proofs.Ytbonkedecfjmdaa.WL Go.Proofs.YtbonkedecfjmdaaW.PrintWords Go.Proofs.YtbonkedecfjmdaaW.PrintLast Go.Proofs.YtbonkedecfjmdaaW.PrintMore
def turnL {α:Type} (p:List α) (k:Nat):List α:=p.drop k++p.take k
theorem Q56 {α:Type} (p:List α) (k:Nat):(turnL p k).Perm p:=by
 unfold turnL
 refine List.perm_append_comm.trans ?_
 rw [List.take_append_drop]
theorem Qaa {α:Type} {u v:List α} (f:α→Bool) (h:u.Perm v):u.all f=v.all f:=by
 rw [Bool.eq_iff_iff,List.all_eq_true,List.all_eq_true]
 exact ⟨fun a x hx=>a x (h.mem_iff.2 hx),fun a x hx=>a x (h.mem_iff.1 hx)⟩
theorem Q9d (m:List (List Pt)) (r p:List (List Int)) (k:Nat):FillsV m r (turnL p k)=FillsV m r p:=by
 have hp:=Q56 p k
 have hf:(turnL p k).flatten.Perm p.flatten:=hp.flatten
 unfold FillsV
 rw [Qaa (inR r) hf,Qaa (fillsV m r) hp]
 congr 2
 congr 1
 funext j
 rw [hf.count_eq]
theorem Qbw {α:Type} (p:List α) (k:Nat):(turnL p k).length=p.length:=(Q56 p k).length_eq
theorem Q65 (p:List (List Int)) (k:Nat):(turnL p k).flatten.length=p.flatten.length:=((Q56 p k).flatten).length_eq
end Go.Proofs.Ytbonkedecfjmdaa.Pl
