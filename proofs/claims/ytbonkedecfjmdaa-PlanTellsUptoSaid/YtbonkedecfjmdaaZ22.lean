/- Written for this claim by a program of this session (a turned copy of the print): Go functions as Lean functions, and that the Go code comes to just these answers; or a statement proved out of them. No condition. -/
import Derived.Test.YtbonkedecfjmdaaZ2
import Derived.Test.YtbonkedecfjmdaaZ3
import Derived.Test.YtbonkedecfjmdaaZ7
import Derived.Test.YtbonkedecfjmdaaZ8

namespace Go.Proofs.Ytbonkedecfjmdaa.P
open Go.RowKit Go.Proofs.YtbonkedecfjmdaaW.PrintWords Go.Proofs.YtbonkedecfjmdaaW.PrintLast Go.Proofs.YtbonkedecfjmdaaW.PrintMore Go.Proofs.Ytbonkedecfjmdaa.X
attribute [local go_sem] Q2a Q2b Q2s Q2q Q1z Q1y Q19 Q2c Q2r Q2p add64
set_option linter.unusedVariables false
set_option linter.unusedSimpArgs false
attribute [local go_sem high] eqA27
mutual
def Q0t.l0:Nat→List (S27)→List (S27)→Int→Int→Int→Int→Int→Int→Int→Int→Int→Int→Int→Int→Int→Option (Int)
 | 0,_,_,_,_,_,_,_,_,_,_,_,_,_,_,_=>none
 | k+1,x9,x10,x11,x332000,x332001,x332002,x333000,x333001,x333002,x334000,x334001,x334002,x335000,x335001,x335002=>if x11<4 then (if 0≤x11 then (if x11<(x9.length:Int) then ((Q28.f k ((Q0a x9 x11).f0) ((Q0a x9 x11).f1) ((Q0a x9 x11).f2) x332000 x332001 x332002 x333000 x333001 x333002).bind fun lE=>(if lE=true then ((Q28.f k ((Q0a x9 x11).f0) ((Q0a x9 x11).f1) ((Q0a x9 x11).f2) x334000 x334001 x334002 x335000 x335001 x335002).bind fun dD=>(Q0t.j1 k x9 x10 x11 (!dD) x332000 x332001 x332002 x333000 x333001 x333002 x334000 x334001 x334002 x335000 x335001 x335002)) else (Q0t.j1 k x9 x10 x11 true x332000 x332001 x332002 x333000 x333001 x333002 x334000 x334001 x334002 x335000 x335001 x335002))) else (none)) else (none)) else (if (x10.length:Int)>1 then (some 3) else (if (x10.length:Int)=1 then (some 1) else ((Q1d.f k x332000 x332001 x332002 x333000 x333001 x333002 x334000 x334001 x334002).bind fun eD=>((Q1d.f k x332000 x332001 x332002 x333000 x333001 x333002 x335000 x335001 x335002).bind fun fD=>(if (wrap64 (eD*fD))<0 then ((Q1d.f k x334000 x334001 x334002 x335000 x335001 x335002 x332000 x332001 x332002).bind fun mE=>((Q1d.f k x334000 x334001 x334002 x335000 x335001 x335002 x333000 x333001 x333002).bind fun nE=>(if (wrap64 (mE*nE))<0 then (some 2) else (some 0)))) else (some 0))))))
def Q0t.j1:Nat→List (S27)→List (S27)→Int→Bool→Int→Int→Int→Int→Int→Int→Int→Int→Int→Int→Int→Int→Option (Int)
 | 0,_,_,_,_,_,_,_,_,_,_,_,_,_,_,_,_=>none
 | k+1,x9,x10,x11,x41,x332000,x332001,x332002,x333000,x333001,x333002,x334000,x334001,x334002,x335000,x335001,x335002=>if x41=true then (Q0t.l0 k x9 x10 (wrap64 (x11+1)) x332000 x332001 x332002 x333000 x333001 x333002 x334000 x334001 x334002 x335000 x335001 x335002) else (if (x10.length:Int)=0 then (if 0≤x11 then (if x11<(x9.length:Int) then (if x10.length<5864062014805 then (Q0t.l0 k x9 (x10++[(⟨(Q0a x9 x11).f0,(Q0a x9 x11).f1,(Q0a x9 x11).f2⟩:S27)]) (wrap64 (x11+1)) x332000 x332001 x332002 x333000 x333001 x333002 x334000 x334001 x334002 x335000 x335001 x335002) else (none)) else (none)) else (none)) else (if 0<(x10.length:Int) then (if 0≤x11 then (if x11<(x9.length:Int) then (if (!(((Q0a x10 0).f0)==((Q0a x9 x11).f0)) || (!(((Q0a x10 0).f1)==((Q0a x9 x11).f1)) || (!(((Q0a x10 0).f2)==((Q0a x9 x11).f2)))))=true then (if x10.length<5864062014805 then (Q0t.l0 k x9 (x10++[(⟨(Q0a x9 x11).f0,(Q0a x9 x11).f1,(Q0a x9 x11).f2⟩:S27)]) (wrap64 (x11+1)) x332000 x332001 x332002 x333000 x333001 x333002 x334000 x334001 x334002 x335000 x335001 x335002) else (none)) else (Q0t.l0 k x9 x10 (wrap64 (x11+1)) x332000 x332001 x332002 x333000 x333001 x333002 x334000 x334001 x334002 x335000 x335001 x335002)) else (none)) else (none)) else (none)))
end
def Q0t.f (k:Nat) (hA:Int) (iA:Int) (jA:Int) (kA:Int) (lA:Int) (mA:Int) (pA:Int) (qA:Int) (rA:Int) (sA:Int) (tA:Int) (uA:Int):Option (Int):=(some (([(⟨hA,iA,jA⟩:S27),(⟨kA,lA,mA⟩:S27),(⟨pA,qA,rA⟩:S27),(⟨sA,tA,uA⟩:S27)]:List (S27)):List (S27))).bind fun fA=>((Q0s.f k fA).bind fun oB=>(if oB=true then (Q0t.l0 k fA ([]:List (S27)) 0 hA iA jA kA lA mA pA qA rA sA tA uA) else (some 0)))
theorem Q0t.Q1a:∀ k,(∀ y0 y1 y2 y3 y4 y5 y6 y7 y8 y9 y10 y11 y12 y13 y14,LeO (Q0t.l0 k y0 y1 y2 y3 y4 y5 y6 y7 y8 y9 y10 y11 y12 y13 y14) (Q0t.l0 (k+1) y0 y1 y2 y3 y4 y5 y6 y7 y8 y9 y10 y11 y12 y13 y14))∧(∀ y0 y1 y2 y3 y4 y5 y6 y7 y8 y9 y10 y11 y12 y13 y14 y15,LeO (Q0t.j1 k y0 y1 y2 y3 y4 y5 y6 y7 y8 y9 y10 y11 y12 y13 y14 y15) (Q0t.j1 (k+1) y0 y1 y2 y3 y4 y5 y6 y7 y8 y9 y10 y11 y12 y13 y14 y15))
 | 0=>⟨fun _ _ _ _ _ _ _ _ _ _ _ _ _ _ _ r h=>by simp [Q0t.l0] at h,fun _ _ _ _ _ _ _ _ _ _ _ _ _ _ _ _ r h=>by simp [Q0t.j1] at h⟩
 | k+1=>by
  obtain ⟨vG,wG⟩:=Q0t.Q1a k
  refine ⟨?_,?_⟩
  all_goals
   intros
   first|unfold Q0t.l0|unfold Q0t.j1
   repeat' with_reducible first|exact vG _ _ _ _ _ _ _ _ _ _ _ _ _ _ _|exact wG _ _ _ _ _ _ _ _ _ _ _ _ _ _ _ _|exact Q28.mono _ _ _ _ _ _ _ _ _ _|exact Q0s.mono _ _|exact Q1d.mono _ _ _ _ _ _ _ _ _ _|exact LeO.refl _|exact LeO.none _|refine LeO.ite ?_ ?_|refine LeO.bind ?_ (fun _ => ?_)
theorem Q0t.mono:∀ a0 a1 a2 a3 a4 a5 a6 a7 a8 a9 a10 a11 k,LeO (Q0t.f k a0 a1 a2 a3 a4 a5 a6 a7 a8 a9 a10 a11) (Q0t.f (k+1) a0 a1 a2 a3 a4 a5 a6 a7 a8 a9 a10 a11):=by
 intro a0 a1 a2 a3 a4 a5 a6 a7 a8 a9 a10 a11 k
 obtain ⟨vG,wG⟩:=Q0t.Q1a k
 unfold Q0t.f
 repeat' with_reducible first|exact vG _ _ _ _ _ _ _ _ _ _ _ _ _ _ _|exact wG _ _ _ _ _ _ _ _ _ _ _ _ _ _ _ _|exact Q28.mono _ _ _ _ _ _ _ _ _ _|exact Q0s.mono _ _|exact Q1d.mono _ _ _ _ _ _ _ _ _ _|exact LeO.refl _|exact LeO.none _|refine LeO.ite ?_ ?_|refine LeO.bind ?_ (fun _ => ?_)
def Q0t.T8:Bool×List (List Nat×List Nat):=(true,[([],[]),([],[]),([0,1],[0,1]),([2],[2]),([],[]),([],[]),([3,4,5],[3,4,5]),([6],[6]),([7,6],[7]),([8],[8]),([8],[8]),([9,10,8],[8,9,10]),([11,8],[8,11]),([8],[8]),([8],[8]),([12,13,14,8,8],[8,12,13,14]),([15,8],[8,15]),([8,16],[8,16])])
def Q0t.B8:List Nat:=[0,0,3,7,0,0,63,127,255,511,511,2047,4095,511,511,32767,65535,131071]
theorem Q0t.tab8:rtab .any (opsOf Try.f74 8)=Q0t.T8:=by kernel_rfl
theorem Q0t.bits8:waitsOk Q0t.T8.2 Q0t.B8=true:=by kernel_rfl
def Q0t.T9:Bool×List (List Nat×List Nat):=(true,[([],[]),([0],[0]),([1],[1]),([2],[2]),([3],[3]),([4,3],[3,4]),([5,3],[3,5]),([3],[3]),([3],[3]),([7,8,3],[3,7,8]),([9,3],[3,9]),([6,10,3],[3,6,10]),([3,11],[3,11])])
def Q0t.B9:List Nat:=[0,1,3,7,15,31,63,15,15,399,911,2047,4095]
theorem Q0t.tab9:rtab .any (opsOf Try.f74 9)=Q0t.T9:=by kernel_rfl
theorem Q0t.bits9:waitsOk Q0t.T9.2 Q0t.B9=true:=by kernel_rfl
def Q0t.T15:Bool×List (List Nat×List Nat):=(true,[([],[]),([],[]),([],[]),([0,1,2],[0,1,2]),([],[]),([],[]),([],[]),([4,5,6,3],[4,5,6]),([3,7],[3,7]),([8],[8]),([9,7],[9]),([10],[10]),([10],[10]),([10],[10]),([11,12,13,10,10],[10,11,12,13]),([10],[10]),([10],[10]),([10],[10]),([15,16,17,14,10],[10,15,16,17]),([14,18,10],[10,14,18]),([19,10],[10,19]),([10,20],[10,20])])
def Q0t.B15:List Nat:=[0,0,0,7,0,0,0,127,255,511,1023,2047,2047,2047,16383,2047,2047,2047,262143,524287,1048575,2097151]
theorem Q0t.tab15:rtab .any (opsOf Try.f74 15)=Q0t.T15:=by kernel_rfl
theorem Q0t.bits15:waitsOk Q0t.T15.2 Q0t.B15=true:=by kernel_rfl
set_option maxHeartbeats 8000000 in
set_option maxRecDepth 100000 in
theorem Q0t.calls (k:Nat) (hA:Int) (iA:Int) (jA:Int) (kA:Int) (lA:Int) (mA:Int) (pA:Int) (qA:Int) (rA:Int) (sA:Int) (tA:Int) (uA:Int) (r:Int) (w:World) (h:Q0t.f k hA iA jA kA lA mA pA qA rA sA tA uA=some r) :
  Calls Try.prog 74 #[.agg #[.int .i64 hA,.int .i64 iA,.int .i64 jA],.agg #[.int .i64 kA,.int .i64 lA,.int .i64 mA],.agg #[.int .i64 pA,.int .i64 qA,.int .i64 rA],.agg #[.int .i64 sA,.int .i64 tA,.int .i64 uA]] w fun e w'=>e=.returned (.int .i64 r)∧Below w.heap.size w w':=by
 have sI:=Try.underlying27
 have HB:=AM (Below.refl w.heap.size w)
 have H:((some (([(⟨hA,iA,jA⟩:S27),(⟨kA,lA,mA⟩:S27),(⟨pA,qA,rA⟩:S27),(⟨sA,tA,uA⟩:S27)]:List (S27)):List (S27))).bind fun fA=>((Q0s.f k fA).bind fun oB=>(if oB=true then (Q0t.l0 k fA ([]:List (S27)) 0 hA iA jA kA lA mA pA qA rA sA tA uA) else (some 0))))=some r:=h
 clear h
 obtain ⟨fA,pB⟩:∃ y_:List (S27),y_=(([(⟨hA,iA,jA⟩:S27),(⟨kA,lA,mA⟩:S27),(⟨pA,qA,rA⟩:S27),(⟨sA,tA,uA⟩:S27)]:List (S27))):=⟨_,rfl⟩
 replace H:((Q0s.f k fA).bind fun oB=>(if oB=true then (Q0t.l0 k fA ([]:List (S27)) 0 hA iA jA kA lA mA pA qA rA sA tA uA) else (some 0)))=some r:=by first|(rw [pB];with_reducible exact H)|(have tC:=(Option.bind_some _ _).symm.trans H;rw [pB];with_reducible exact tC)|(have tC:=(Option.bind_some _ _).symm.trans H;with_reducible exact tC)|with_reducible exact H|(rw [pB];exact H)|exact H
 have gE:=AM pB
 clear pB
 obtain ⟨oB,A5,H⟩:=bS H
 have oH:=AM H
 clear H
 go_enter Try.func74,Try.ntmps74
 go_upto_if 19 with (first|((with_reducible refine Q0i (N:=4) rfl ?_);refine bE 4 #[.int .i64 hA,.int .i64 iA,.int .i64 jA] 27 ?_;intro nA hg w7 hbox hb;have bA:=AM hbox;have dF:=kG HB hg;replace HB:=kH HB hb;have pH:=dF;clear hb hbox hg)|((with_reducible refine Q0i (N:=5) rfl ?_);refine bE 5 #[.int .i64 kA,.int .i64 lA,.int .i64 mA] 27 ?_;intro oA hg w8 hbox hb;have cA:=AM hbox;have eF:=kG HB hg;replace HB:=kH HB hb;have qH:=eF;have gC:=kN bA hg;have hC:=kM bA hg;replace bA:=kB bA hb;clear hb hbox hg)|((with_reducible refine Q0i (N:=6) rfl ?_);refine bE 6 #[.int .i64 pA,.int .i64 qA,.int .i64 rA] 27 ?_;intro vA hg w9 hbox hb;have dA:=AM hbox;have fF:=kG HB hg;replace HB:=kH HB hb;have rH:=fF;have jC:=kN bA hg;have kC:=kM bA hg;replace bA:=kB bA hb;have lC:=kN cA hg;have mC:=kM cA hg;replace cA:=kB cA hb;clear hb hbox hg)|((with_reducible refine Q0i (N:=7) rfl ?_);refine bE 7 #[.int .i64 sA,.int .i64 tA,.int .i64 uA] 27 ?_;intro wA hg mJ hbox hb;have eA:=AM hbox;have gF:=kG HB hg;replace HB:=kH HB hb;have sH:=gF;have nC:=kN bA hg;have oC:=kM bA hg;replace bA:=kB bA hb;have pC:=kN cA hg;have qC:=kM cA hg;replace cA:=kB cA hb;have rC:=kN dA hg;have sC:=kM dA hg;replace dA:=kB dA hb;clear hb hbox hg;have tH:=gC.out;have uH:=hC.out;have vH:=jC.out;have wH:=kC.out;have xH:=nC.out;have yH:=oC.out;obtain ⟨gD,hD,iD,jD,kD,lD⟩:=c3 bA;have zH:=lC.out;have aI:=mC.out;have bI:=pC.out;have cI:=qC.out;obtain ⟨mD,nD,oD,qD,rD,sD⟩:=c3 cA;have dI:=rC.out;have eI:=sC.out;obtain ⟨tD,uD,vD,wD,xD,yD⟩:=c3 dA;obtain ⟨zD,aE,cE,dE,eE,fE⟩:=c3 eA)|((with_reducible refine Q0i (N:=16) rfl ?_);refine Kd.Q4s k27 _ 27 ?hg (N:=16) ?hd (xs:=([(⟨hA,iA,jA⟩:S27),(⟨kA,lA,mA⟩:S27),(⟨pA,qA,rA⟩:S27),(⟨sA,tA,uA⟩:S27)]:List (S27))) (inner:=[.int .i64 hA,.int .i64 iA,.int .i64 jA,.int .i64 kA,.int .i64 lA,.int .i64 mA,.int .i64 pA,.int .i64 qA,.int .i64 rA,.int .i64 sA,.int .i64 tA,.int .i64 uA]) (ok:=fun _=>True) (okp:=fun _=>True) ?hr ?hp (fun _ hk=>hk) trivial (Below.refl _ _) (Nat.le_refl _) (by simp) ?_;(case hd=>rfl);(case hg=>rfl);(case hr=>first|(go_simp;done)|(go_simp;rfl));(case hp=>exact (Reps.c3 (show Kd.M k27 _ _ _ (⟨hA,iA,jA⟩:S27) [.int .i64 hA,.int .i64 iA,.int .i64 jA] from (Q2o _ _ _ (⟨hA,iA,jA⟩:S27) )) (Reps.c3 (show Kd.M k27 _ _ _ (⟨kA,lA,mA⟩:S27) [.int .i64 kA,.int .i64 lA,.int .i64 mA] from (Q2o _ _ _ (⟨kA,lA,mA⟩:S27) )) (Reps.c3 (show Kd.M k27 _ _ _ (⟨pA,qA,rA⟩:S27) [.int .i64 pA,.int .i64 qA,.int .i64 rA] from (Q2o _ _ _ (⟨pA,qA,rA⟩:S27) )) (Reps.c3 (show Kd.M k27 _ _ _ (⟨sA,tA,uA⟩:S27) [.int .i64 sA,.int .i64 tA,.int .i64 uA] from (Q2o _ _ _ (⟨sA,tA,uA⟩:S27) )) (Reps.none _ _))))));intro tI nJ uC hb hg_ hnew_;clear hg_ hnew_;(first|rw [← gE.out] at uC|(simp only [Int.reduceToNat] at uC;rw [← gE.out] at uC));have mB:=AM (Kd.Q1b (Kd.Q2v (Kd.Q2v (Kd.Q2v (Kd.Q2v uC (g:=nA) (o:=.cells #[.int .i64 hA,.int .i64 iA,.int .i64 jA] 27 (0,0)) (bK bA)) (g:=oA) (o:=.cells #[.int .i64 kA,.int .i64 lA,.int .i64 mA] 27 (0,0)) (bK cA)) (g:=vA) (o:=.cells #[.int .i64 pA,.int .i64 qA,.int .i64 rA] 27 (0,0)) (bK dA)) (g:=wA) (o:=.cells #[.int .i64 sA,.int .i64 tA,.int .i64 uA] 27 (0,0)) (bK eA)) (Q0h (bH HB)));replace bA:=kB bA hb;replace cA:=kB cA hb;replace dA:=kB dA hb;replace eA:=kB eA hb;replace HB:=kH HB hb;clear hb uC;obtain ⟨vC,uB,xG⟩:=Kd.Q01 mB.out;subst xG)|((with_reducible refine Q0n (f:=22) rfl ?_);refine gL (some 18) Try.func22 #[.slice vC fA.length uB] ?_;(with_reducible refine (Q0s.calls k _ _ fA oB _ ?side1 ?side2 A5.out).mono ?_);(case side1=>exact sR mB);(case side2=>exact (Kd.Q0w mB.out).2.1);rintro e oJ ⟨rfl,hb⟩;refine ⟨_,rfl,?_⟩;replace mB:=kR mB hb;replace bA:=kB bA hb;replace cA:=kB cA hb;replace dA:=kB dA hb;replace eA:=kB eA hb;replace HB:=kH HB hb;clear hb))
 (try simp only [Act.put,List.setIfInBounds_toArray,List.set_cons_zero,List.set_cons_succ])
 have H:=oH.out;clear oH
 by_cases iG:oB=true
 ·subst iG
  replace H:=iT H
  have H':=AM H
  clear H
  go_wp2
  go_loopg [10,11] k (fun kq fI uI w'=>∃ (gA:List (S27)) (aA:Int),uI=.int .i64 aA∧Aside0 (Q0t.l0 kq fA gA aA hA iA jA kA lA mA pA qA rA sA tA uA=some r)∧Aside0 (kq≤k)∧Aside0 (Kd.R k27 27 w' w.heap.size (fun k_=>some k_≠(fI:Value).ownBlock∧k_≠nA∧k_≠oA∧k_≠vA∧k_≠wA) (.slice vC fA.length uB) fA)∧Aside0 (Kd.R k27 27 w' w.heap.size (fun k_=>some k_≠((.slice vC fA.length uB):Value).ownBlock∧k_≠nA∧k_≠oA∧k_≠vA∧k_≠wA) fI gA)∧Aside0 (w'.heap[nA]? = some (.cells #[.int .i64 hA,.int .i64 iA,.int .i64 jA] 27 (0,0)))∧Aside0 (w'.heap[oA]? = some (.cells #[.int .i64 kA,.int .i64 lA,.int .i64 mA] 27 (0,0)))∧Aside0 (w'.heap[vA]? = some (.cells #[.int .i64 pA,.int .i64 qA,.int .i64 rA] 27 (0,0)))∧Aside0 (w'.heap[wA]? = some (.cells #[.int .i64 sA,.int .i64 tA,.int .i64 uA] 27 (0,0)))∧Aside0 (Below w.heap.size w w'))
  case atStart=>exact ⟨(([]:List (S27))),(0),rS,H',⟨Nat.le_refl _⟩,⟨by (with_reducible repeat (first|apply Kd.Q10|apply Kd.Q11|apply Kd.Q2h));exact Kd.Q1q mB.out (fun _ hk=>⟨(by simp [Value.ownBlock]),⟨hk.1.1.1.2,⟨hk.1.1.2,⟨hk.1.2,hk.2⟩⟩⟩⟩)⟩,⟨by first|exact Kd.Q3k _ _ _ _ _|exact Kd.Q3t _ _ _ _ _|exact Kd.Q3x _ _ _ _ _|exact Kd.Q3v _ _ _ _ _|exact Kd.Q3y _ _ _ _ _⟩,⟨bK bA⟩,⟨bK cA⟩,⟨bK dA⟩,⟨bK eA⟩,⟨ bH HB⟩⟩
  case round =>
   clear H'
   clear gD hD iD mD nD oD tD uD vD zD aE cE jD kD lD qD rD sD wD xD yD dE eE fE
   obtain ⟨gA,aA,rfl,HA,cD,HO_9,HO_10,bA,cA,dA,eA,HB⟩:=hrel
   cases gk with
   | zero=>exact absurd HA.out (by simp [Q0t.l0])
   | succ k1 =>
    have H:=HA.out;clear HA
    simp only [Q0t.l0] at H
    apply iC H<;>clear H<;>intro qB H
    ·(first|rw [qB]|(simp only [Q1r,Q13];rw [qB])|skip)
     have oE:=AM H
     clear H
     go_upto_region 8 with (fail)
     go_cut [41] (fun vI wc=>∃ (kq:Nat) (nB:Bool),vI=.bool nB∧Aside0 (Q0t.j1 kq fA gA aA nB hA iA jA kA lA mA pA qA rA sA tA uA=some r)∧Aside0 (kq≤k1)∧Aside0 (Kd.R k27 27 wc w.heap.size (fun k_=>some k_≠(u10:Value).ownBlock∧k_≠nA∧k_≠oA∧k_≠vA∧k_≠wA) (.slice vC fA.length uB) fA)∧Aside0 (Kd.R k27 27 wc w.heap.size (fun k_=>some k_≠((.slice vC fA.length uB):Value).ownBlock∧k_≠nA∧k_≠oA∧k_≠vA∧k_≠wA) u10 gA)∧Aside0 (wc.heap[nA]? = some (.cells #[.int .i64 hA,.int .i64 iA,.int .i64 jA] 27 (0,0)))∧Aside0 (wc.heap[oA]? = some (.cells #[.int .i64 kA,.int .i64 lA,.int .i64 mA] 27 (0,0)))∧Aside0 (wc.heap[vA]? = some (.cells #[.int .i64 pA,.int .i64 qA,.int .i64 rA] 27 (0,0)))∧Aside0 (wc.heap[wA]? = some (.cells #[.int .i64 sA,.int .i64 tA,.int .i64 uA] 27 (0,0)))∧Aside0 (Below w.heap.size w wc))
     case first =>
      have H:=oE.out;clear oE
      apply iN H;clear H;intro hE H
      ·(first|rw [hE]|(simp only [Q1r,Q13];rw [hE])|skip)
       apply iN H;clear H;intro gI H
       ·obtain ⟨lE,hI,H⟩:=bS H
        by_cases jG:lE=true
        ·subst jG
         replace H:=iT H
         obtain ⟨dD,wI,H⟩:=bS H
         have H':=AM H
         clear H
         try go_wp2
         replace HO_9:=dR HO_9;replace HO_10:=dR HO_10;replace bA:=dB bA;replace cA:=dB cA;replace dA:=dB dA;replace eA:=dB eA;replace HB:=dH HB
         have vB:0≤(aA:Int):=pD
         have wB:aA<(fA.length:Int):=pD
         obtain ⟨bB,pE,fB,gB,hB⟩:=Q2i (Kd.Q0w HO_9.out).2.2 aA vB wB
         cases pE
         replace vB:=eq_true vB;replace wB:=eq_true wB
         have qE:0≤(aA:Int):=pD
         have sE:aA<(fA.length:Int):=pD
         obtain ⟨hF,yG,cC,dC,eC⟩:=Q2i (Kd.Q0w HO_9.out).2.2 aA qE sE
         obtain rfl:bB=hF:=(by injection yG)
         replace qE:=eq_true qE;replace sE:=eq_true sE
         refine sP 18 (S:=fun w'=>w'.cell? ⟨nA,0,none⟩=some (.int .i64 hA)∧w'.cell? ⟨nA,1,none⟩=some (.int .i64 iA)∧w'.cell? ⟨nA,2,none⟩=some (.int .i64 jA)∧w'.cell? ⟨oA,0,none⟩=some (.int .i64 kA)∧w'.cell? ⟨oA,1,none⟩=some (.int .i64 lA)∧w'.cell? ⟨oA,2,none⟩=some (.int .i64 mA)∧w'.cell? ⟨vA,0,none⟩=some (.int .i64 pA)∧w'.cell? ⟨vA,1,none⟩=some (.int .i64 qA)∧w'.cell? ⟨vA,2,none⟩=some (.int .i64 rA)∧w'.cell? ⟨wA,0,none⟩=some (.int .i64 sA)∧w'.cell? ⟨wA,1,none⟩=some (.int .i64 tA)∧w'.cell? ⟨wA,2,none⟩=some (.int .i64 uA)∧w'.cell? (bB.add ((aA).toNat*3))=some (.int .i64 ((Q0a fA aA).f0))∧w'.cell? ⟨(bB.add ((aA).toNat*3)).block,(bB.add ((aA).toNat*3)).off+1,none⟩=some (.int .i64 ((Q0a fA aA).f1))∧w'.cell? ⟨(bB.add ((aA).toNat*3)).block,(bB.add ((aA).toNat*3)).off+2,none⟩=some (.int .i64 ((Q0a fA aA).f2))∧w'.cell? (bB.add ((aA).toNat*3))=some (.int .i64 ((Q0a fA aA).f0))∧w'.cell? ⟨(bB.add ((aA).toNat*3)).block,(bB.add ((aA).toNat*3)).off+1,none⟩=some (.int .i64 ((Q0a fA aA).f1))∧w'.cell? ⟨(bB.add ((aA).toNat*3)).block,(bB.add ((aA).toNat*3)).off+2,none⟩=some (.int .i64 ((Q0a fA aA).f2))) (ds:=[]) ⟨bC bA,bC bA,bC bA,bC cA,bC cA,bC cA,bC dA,bC dA,bC dA,bC eA,bC eA,bC eA,fB,gB,hB,cC,dC,eC⟩ fun hHeld => ?_;refine Q1m Q0t.tab8 Q0t.bits8 (fun HT_ HW_ => ?_)
         generalize wr.drew=w33 at HO_9 HO_10 bA cA dA eA HB fB gB hB cC dC eC hHeld ⊢
         refine pQ 0 (some 24) HT_ ?_;refine pQ 1 (some 25) HT_ ?_;refine pQ 2 (some 26) HT_ ?_;refine tQ 3 (some 27) HT_ HW_ hHeld ?_;refine tQ 4 (some 28) HT_ HW_ hHeld ?_;refine tQ 5 (some 29) HT_ HW_ hHeld ?_
         refine oQ 6 (some 30) HT_ rfl fun K hK => ?_
         refine gO Try.func62 #[.agg #[.int .i64 ((Q0a fA aA).f0),.int .i64 ((Q0a fA aA).f1),.int .i64 ((Q0a fA aA).f2)],.agg #[.int .i64 hA,.int .i64 iA,.int .i64 jA],.agg #[.int .i64 kA,.int .i64 lA,.int .i64 mA]] ?_
         with_reducible refine (Q28.calls k1 ((Q0a fA aA).f0) ((Q0a fA aA).f1) ((Q0a fA aA).f2) hA iA jA kA lA mA true _ hI.out).mono ?_
         rintro e pJ ⟨rfl,hb⟩
         have wC:=(hb.cell (World.block_lt_of_cell? _ _ (hHeld.2.2.2.2.2.2.2.2.2.2.2.2.1))).trans (hHeld.2.2.2.2.2.2.2.2.2.2.2.2.1)
         have xC:=(hb.cell (World.block_lt_of_cell? _ _ (hHeld.2.2.2.2.2.2.2.2.2.2.2.2.2.1))).trans (hHeld.2.2.2.2.2.2.2.2.2.2.2.2.2.1)
         have yC:=(hb.cell (World.block_lt_of_cell? _ _ (hHeld.2.2.2.2.2.2.2.2.2.2.2.2.2.2.1))).trans (hHeld.2.2.2.2.2.2.2.2.2.2.2.2.2.2.1)
         have zC:=(hb.cell (World.block_lt_of_cell? _ _ (hHeld.2.2.2.2.2.2.2.2.2.2.2.2.2.2.2.1))).trans (hHeld.2.2.2.2.2.2.2.2.2.2.2.2.2.2.2.1)
         have aD:=(hb.cell (World.block_lt_of_cell? _ _ (hHeld.2.2.2.2.2.2.2.2.2.2.2.2.2.2.2.2.1))).trans (hHeld.2.2.2.2.2.2.2.2.2.2.2.2.2.2.2.2.1)
         have bD:=(hb.cell (World.block_lt_of_cell? _ _ (hHeld.2.2.2.2.2.2.2.2.2.2.2.2.2.2.2.2.2))).trans (hHeld.2.2.2.2.2.2.2.2.2.2.2.2.2.2.2.2.2)
         refine ⟨_,rfl,?_⟩
         replace HO_9:=kR HO_9 hb;replace HO_10:=kR HO_10 hb;replace bA:=kB bA hb;replace cA:=kB cA hb;replace dA:=kB dA hb;replace eA:=kB eA hb;replace HB:=kH HB hb;clear hb
         refine hK.out _ _ ⟨bC bA,bC bA,bC bA,bC cA,bC cA,bC cA,bC dA,bC dA,bC dA,bC eA,bC eA,bC eA,wC,xC,yC,zC,aD,bD⟩ (fun hHeld => ?_)
         clear hK K;refine nP (some 30) ?_;refine pQ 7 (some 31) HT_ ?_;refine pQ 8 (some 32) HT_ ?_;refine pQ 9 (some 33) HT_ ?_;refine pQ 10 (some 34) HT_ ?_;refine pQ 11 (some 35) HT_ ?_;refine tQ 12 (some 36) HT_ HW_ hHeld ?_;refine tQ 13 (some 37) HT_ HW_ hHeld ?_;refine tQ 14 (some 38) HT_ HW_ hHeld ?_
         refine oQ 15 (some 39) HT_ rfl fun K hK => ?_
         refine gO Try.func62 #[.agg #[.int .i64 ((Q0a fA aA).f0),.int .i64 ((Q0a fA aA).f1),.int .i64 ((Q0a fA aA).f2)],.agg #[.int .i64 pA,.int .i64 qA,.int .i64 rA],.agg #[.int .i64 sA,.int .i64 tA,.int .i64 uA]] ?_
         with_reducible refine (Q28.calls k1 ((Q0a fA aA).f0) ((Q0a fA aA).f1) ((Q0a fA aA).f2) pA qA rA sA tA uA dD _ wI.out).mono ?_
         rintro e qJ ⟨rfl,hb⟩
         have wC:=(hb.cell (World.block_lt_of_cell? _ _ (hHeld.2.2.2.2.2.2.2.2.2.2.2.2.1))).trans (hHeld.2.2.2.2.2.2.2.2.2.2.2.2.1)
         have xC:=(hb.cell (World.block_lt_of_cell? _ _ (hHeld.2.2.2.2.2.2.2.2.2.2.2.2.2.1))).trans (hHeld.2.2.2.2.2.2.2.2.2.2.2.2.2.1)
         have yC:=(hb.cell (World.block_lt_of_cell? _ _ (hHeld.2.2.2.2.2.2.2.2.2.2.2.2.2.2.1))).trans (hHeld.2.2.2.2.2.2.2.2.2.2.2.2.2.2.1)
         have zC:=(hb.cell (World.block_lt_of_cell? _ _ (hHeld.2.2.2.2.2.2.2.2.2.2.2.2.2.2.2.1))).trans (hHeld.2.2.2.2.2.2.2.2.2.2.2.2.2.2.2.1)
         have aD:=(hb.cell (World.block_lt_of_cell? _ _ (hHeld.2.2.2.2.2.2.2.2.2.2.2.2.2.2.2.2.1))).trans (hHeld.2.2.2.2.2.2.2.2.2.2.2.2.2.2.2.2.1)
         have bD:=(hb.cell (World.block_lt_of_cell? _ _ (hHeld.2.2.2.2.2.2.2.2.2.2.2.2.2.2.2.2.2))).trans (hHeld.2.2.2.2.2.2.2.2.2.2.2.2.2.2.2.2.2)
         refine ⟨_,rfl,?_⟩
         replace HO_9:=kR HO_9 hb;replace HO_10:=kR HO_10 hb;replace bA:=kB bA hb;replace cA:=kB cA hb;replace dA:=kB dA hb;replace eA:=kB eA hb;replace HB:=kH HB hb;clear hb
         refine hK.out _ _ ⟨bC bA,bC bA,bC bA,bC cA,bC cA,bC cA,bC dA,bC dA,bC dA,bC eA,bC eA,bC eA,wC,xC,yC,zC,aD,bD⟩ (fun hHeld => ?_)
         clear hK K;refine nP (some 39) ?_;refine pQ 16 (some 40) HT_ ?_;refine pQ 17 (some 41) HT_ ?_
         refine done_ (Q2d HT_.out (by kernel_rfl)) ?_
         try go_wp2
         go_meet
         case rel=>exact ⟨_,(!dD),rS,H',⟨by have:=cD.out;first|omega|exact Nat.le_refl _⟩,⟨rK HO_9⟩,⟨rK HO_10⟩,⟨bK bA⟩,⟨bK cA⟩,⟨bK dA⟩,⟨bK eA⟩,⟨ bH HB⟩⟩
        ·replace jG:=Bool.eq_false_iff.mpr jG
         subst jG
         replace H:=iF H
         have H':=AM H
         clear H
         try go_wp2
         replace HO_9:=dR HO_9;replace HO_10:=dR HO_10;replace bA:=dB bA;replace cA:=dB cA;replace dA:=dB dA;replace eA:=dB eA;replace HB:=dH HB
         have vB:0≤(aA:Int):=pD
         have wB:aA<(fA.length:Int):=pD
         obtain ⟨bB,pE,fB,gB,hB⟩:=Q2i (Kd.Q0w HO_9.out).2.2 aA vB wB
         cases pE
         replace vB:=eq_true vB;replace wB:=eq_true wB
         refine sP 18 (S:=fun w'=>w'.cell? ⟨nA,0,none⟩=some (.int .i64 hA)∧w'.cell? ⟨nA,1,none⟩=some (.int .i64 iA)∧w'.cell? ⟨nA,2,none⟩=some (.int .i64 jA)∧w'.cell? ⟨oA,0,none⟩=some (.int .i64 kA)∧w'.cell? ⟨oA,1,none⟩=some (.int .i64 lA)∧w'.cell? ⟨oA,2,none⟩=some (.int .i64 mA)∧w'.cell? (bB.add ((aA).toNat*3))=some (.int .i64 ((Q0a fA aA).f0))∧w'.cell? ⟨(bB.add ((aA).toNat*3)).block,(bB.add ((aA).toNat*3)).off+1,none⟩=some (.int .i64 ((Q0a fA aA).f1))∧w'.cell? ⟨(bB.add ((aA).toNat*3)).block,(bB.add ((aA).toNat*3)).off+2,none⟩=some (.int .i64 ((Q0a fA aA).f2))) (ds:=[]) ⟨bC bA,bC bA,bC bA,bC cA,bC cA,bC cA,fB,gB,hB⟩ fun hHeld => ?_;refine Q1m Q0t.tab8 Q0t.bits8 (fun HT_ HW_ => ?_)
         generalize wr.drew=w36 at HO_9 HO_10 bA cA dA eA HB fB gB hB hHeld ⊢
         refine pQ 0 (some 24) HT_ ?_;refine pQ 1 (some 25) HT_ ?_;refine pQ 2 (some 26) HT_ ?_;refine tQ 3 (some 27) HT_ HW_ hHeld ?_;refine tQ 4 (some 28) HT_ HW_ hHeld ?_;refine tQ 5 (some 29) HT_ HW_ hHeld ?_
         refine oQ 6 (some 30) HT_ rfl fun K hK => ?_
         refine gO Try.func62 #[.agg #[.int .i64 ((Q0a fA aA).f0),.int .i64 ((Q0a fA aA).f1),.int .i64 ((Q0a fA aA).f2)],.agg #[.int .i64 hA,.int .i64 iA,.int .i64 jA],.agg #[.int .i64 kA,.int .i64 lA,.int .i64 mA]] ?_
         with_reducible refine (Q28.calls k1 ((Q0a fA aA).f0) ((Q0a fA aA).f1) ((Q0a fA aA).f2) hA iA jA kA lA mA false _ hI.out).mono ?_
         rintro e rJ ⟨rfl,hb⟩
         have zG:=(hb.cell (World.block_lt_of_cell? _ _ (hHeld.2.2.2.2.2.2.1))).trans (hHeld.2.2.2.2.2.2.1)
         have aH:=(hb.cell (World.block_lt_of_cell? _ _ (hHeld.2.2.2.2.2.2.2.1))).trans (hHeld.2.2.2.2.2.2.2.1)
         have cH:=(hb.cell (World.block_lt_of_cell? _ _ (hHeld.2.2.2.2.2.2.2.2))).trans (hHeld.2.2.2.2.2.2.2.2)
         refine ⟨_,rfl,?_⟩
         replace HO_9:=kR HO_9 hb;replace HO_10:=kR HO_10 hb;replace bA:=kB bA hb;replace cA:=kB cA hb;replace dA:=kB dA hb;replace eA:=kB eA hb;replace HB:=kH HB hb;clear hb
         refine hK.out _ _ ⟨bC bA,bC bA,bC bA,bC cA,bC cA,bC cA,zG,aH,cH⟩ (fun hHeld => ?_)
         clear hK K;refine nP (some 30) ?_;refine pQ 7 (some 31) HT_ ?_;refine pQ 8 (some 32) HT_ ?_;refine uQ 9 (some 33) HT_ ?_;refine uQ 10 (some 34) HT_ ?_;refine uQ 11 (some 35) HT_ ?_;refine uQ 12 (some 36) HT_ ?_;refine uQ 13 (some 37) HT_ ?_;refine uQ 14 (some 38) HT_ ?_;refine uQ 15 (some 39) HT_ ?_;refine uQ 16 (some 40) HT_ ?_;refine pQ 17 (some 41) HT_ ?_
         refine done_ (Q2d HT_.out (by kernel_rfl)) ?_
         try go_wp2
         go_meet
         case rel=>exact ⟨_,(true),rS,H',⟨by have:=cD.out;first|omega|exact Nat.le_refl _⟩,⟨rK HO_9⟩,⟨rK HO_10⟩,⟨bK bA⟩,⟨bK cA⟩,⟨bK dA⟩,⟨bK eA⟩,⟨ bH HB⟩⟩
     case rest =>
      clear oE qB
      obtain ⟨kq,nB,rfl,HA,rB,HO_9,HO_10,bA,cA,dA,eA,HB⟩:=hcut
      cases kq with
      | zero=>exact absurd HA.out (by simp [Q0t.j1])
      | succ kj26 =>
       have H:=HA.out;clear HA
       simp only [Q0t.j1] at H
       by_cases lG:nB=true
       ·subst lG
        replace H:=iT H
        have H':=AM H
        clear H
        go_wp2
        go_roundg kj26
        case measure=>have:=cD.out;have:=rB.out;omega
        case rel=>exact ⟨(gA),(wrap64 (aA+1)),rS,H',⟨by have:=cD.out;have:=rB.out;omega⟩,⟨rK HO_9⟩,⟨rK HO_10⟩,⟨bK bA⟩,⟨bK cA⟩,⟨bK dA⟩,⟨bK eA⟩,⟨ bH HB⟩⟩
       ·replace lG:=Bool.eq_false_iff.mpr lG
        subst lG
        replace H:=iF H
        by_cases iE:(gA.length:Int)=0
        ·rw [if_pos iE] at H
         have jF:((gA.length:Int)==0)=true:=beq_iff_eq.mpr iE
         have kF:((gA.length:Int) != 0)=false:=bne_eq_false_iff_eq.mpr iE
         clear iE
         apply iN H;clear H;intro iI H
         ·apply iN H;clear H;intro jI H
          ·by_cases mG:gA.length<5864062014805
           ·rw [if_pos mG] at H
            have lF:=AM mG
            clear mG
            obtain ⟨mF,sB⟩:∃ y_:List (S27),y_=(gA++[(⟨(Q0a fA aA).f0,(Q0a fA aA).f1,(Q0a fA aA).f2⟩:S27)]):=⟨_,rfl⟩
            replace H:(Q0t.l0 kj26 fA mF (wrap64 (aA+1)) hA iA jA kA lA mA pA qA rA sA tA uA)=some r:=by first|(rw [sB];with_reducible exact H)|(have tC:=(Option.bind_some _ _).symm.trans H;rw [sB];with_reducible exact tC)|(have tC:=(Option.bind_some _ _).symm.trans H;with_reducible exact tC)|with_reducible exact H|(rw [sB];exact H)|exact H
            have nF:=AM sB
            clear sB
            have H':=AM H
            clear H
            try go_wp2
            replace HO_9:=dR HO_9;replace HO_10:=dR HO_10;replace bA:=dB bA;replace cA:=dB cA;replace dA:=dB dA;replace eA:=dB eA;replace HB:=dH HB
            obtain ⟨eH,fH,oF⟩:=Kd.Q01 HO_10.out
            (first|subst oF|(injection oF with jE pF kE;have qF:=jE.symm;have rF:=kE.symm;clear jE pF kE;subst qF;subst rF))
            refine sP 13 (S:=fun w'=>True) (ds:=[]) trivial fun hHeld => ?_;refine Q1m Q0t.tab9 Q0t.bits9 (fun HT_ HW_ => ?_)
            generalize wc.drew=w43 at HO_9 HO_10 bA cA dA eA HB hHeld ⊢
            refine pQ 0 (some 42) HT_ ?_;refine pQ 1 (some 43) HT_ ?_;refine pQ 2 (some 44) HT_ ?_;refine pQ 3 (some 45) HT_ ?_;refine uQ 4 (some 46) HT_ ?_;refine uQ 5 (some 47) HT_ ?_;refine uQ 6 (some 48) HT_ ?_;refine uQ 7 (some 49) HT_ ?_;refine uQ 8 (some 50) HT_ ?_;refine uQ 9 (some 51) HT_ ?_;refine uQ 10 (some 52) HT_ ?_;refine uQ 11 (some 53) HT_ ?_;refine pQ 12 (some 54) HT_ ?_
            refine done_ (Q2d HT_.out (by kernel_rfl)) ?_
            have tE:0≤(aA:Int):=pD
            have uE:aA<(fA.length:Int):=pD
            obtain ⟨sF,gH,nG,oG,pG⟩:=Q2i (Kd.Q0w HO_9.out).2.2 aA tE uE
            cases gH
            replace tE:=eq_true tE;replace uE:=eq_true uE
            try go_wp2_with (first|((with_reducible refine Q1v (b:=.append) (xs:=#[.tmp 55,.tmp 60]) rfl ?_);at_builtin;refine Kd.Q3j k27 (w0:=w) w.heap.size rfl (.tmp 55) (.tmp 60) 31 27 (.agg #[(.int .i64 0),(.int .i64 0),(.int .i64 0)]) 24 rfl Try.underlying31 info27 rfl (by decide) (by omega) (.slice eH gA.length fH) gA (⟨(Q0a fA aA).f0,(Q0a fA aA).f1,(Q0a fA aA).f2⟩:S27) [.int .i64 ((Q0a fA aA).f0),.int .i64 ((Q0a fA aA).f1),.int .i64 ((Q0a fA aA).f2)] (fun k_=>some k_≠(.slice (some sF) fA.length uB:Value).ownBlock∧k_≠nA∧k_≠oA∧k_≠vA∧k_≠wA) (fun _=>False) rfl rfl ?aP (fun _ hk=>hk.elim) ?aF ?aO ?aB ?aS ?aL ?_;(case aP=>exact Q2o _ _ _ (⟨(Q0a fA aA).f0,(Q0a fA aA).f1,(Q0a fA aA).f2⟩:S27));(case aB=>exact (bH HB));(case aF=>exact (fun k_ hk=>⟨Kd.fresh' (Kd.R_lt (rK HO_9)) k_ hk,Kd.freshB (g:=nA) (o:=.cells #[.int .i64 hA,.int .i64 iA,.int .i64 jA] 27 (0,0)) (bK bA) k_ hk,Kd.freshB (g:=oA) (o:=.cells #[.int .i64 kA,.int .i64 lA,.int .i64 mA] 27 (0,0)) (bK cA) k_ hk,Kd.freshB (g:=vA) (o:=.cells #[.int .i64 pA,.int .i64 qA,.int .i64 rA] 27 (0,0)) (bK dA) k_ hk,Kd.freshB (g:=wA) (o:=.cells #[.int .i64 sA,.int .i64 tA,.int .i64 uA] 27 (0,0)) (bK eA) k_ hk⟩));(case aO=>exact (rK HO_10));(case aS=>exact (Q0h (bH HB)));(case aL=>have:=lF.out;omega);intro xI sJ ho hb hg hat;rw [← nF.out] at ho;replace HO_9:=AM (Kd.Q3w (ok:=(fun k_=>k_≠nA∧k_≠oA∧k_≠vA∧k_≠wA)) (by (with_reducible repeat (first|apply Kd.Q10|apply Kd.Q11|apply Kd.Q2h));exact Kd.Q1q HO_9.out (fun _ hk=>⟨⟨hk.2.1,⟨hk.2.2.1,⟨hk.2.2.2.1,hk.2.2.2.2⟩⟩⟩,hk.1⟩)) hg hat);replace bA:=AM (Q1w (g:=nA) (o:=.cells #[.int .i64 hA,.int .i64 iA,.int .i64 jA] 27 (0,0)) (bK bA) hg (Kd.Q5p HO_10.out (fun _ hk=>hk.2.1)));replace cA:=AM (Q1w (g:=oA) (o:=.cells #[.int .i64 kA,.int .i64 lA,.int .i64 mA] 27 (0,0)) (bK cA) hg (Kd.Q5p HO_10.out (fun _ hk=>hk.2.2.1)));replace dA:=AM (Q1w (g:=vA) (o:=.cells #[.int .i64 pA,.int .i64 qA,.int .i64 rA] 27 (0,0)) (bK dA) hg (Kd.Q5p HO_10.out (fun _ hk=>hk.2.2.2.1)));replace eA:=AM (Q1w (g:=wA) (o:=.cells #[.int .i64 sA,.int .i64 tA,.int .i64 uA] 27 (0,0)) (bK eA) hg (Kd.Q5p HO_10.out (fun _ hk=>hk.2.2.2.2)));replace HB:=AM hb;have tF:=AM ho;clear HO_10;clear ho hb hg hat))
            go_roundg kj26
            case measure=>have:=cD.out;have:=rB.out;omega
            case rel=>exact ⟨(mF),(wrap64 (aA+1)),rS,H',⟨by have:=cD.out;have:=rB.out;omega⟩,⟨by (with_reducible repeat (first|apply Kd.Q10|apply Kd.Q11|apply Kd.Q2h));exact Kd.Q1q HO_9.out (fun _ hk=>⟨hk.2,⟨hk.1.1,⟨hk.1.2.1,⟨hk.1.2.2.1,hk.1.2.2.2⟩⟩⟩⟩)⟩,⟨rK tF⟩,⟨bK bA⟩,⟨bK cA⟩,⟨bK dA⟩,⟨bK eA⟩,⟨ bH HB⟩⟩
           ·rw [if_neg mG] at H
            exact absurd H (by simp)
        ·rw [if_neg iE] at H
         have jF:((gA.length:Int)==0)=false:=beq_eq_false_iff_ne.mpr iE
         have kF:((gA.length:Int) != 0)=true:=bne_iff_ne.mpr iE
         have kI:¬ (gA=[]):=fun h_=>iE (by rw [h_];rfl)
         by_cases qG:0<(gA.length:Int)
         ·rw [if_pos qG] at H
          have lI:=decide_eq_true qG
          have mI:decide (0<gA.length)=true:=decide_eq_true (by omega)
          clear qG
          apply iN H;clear H;intro nI H
          ·apply iN H;clear H;intro oI H
           ·by_cases bF:(!(((Q0a gA 0).f0)==((Q0a fA aA).f0)) || (!(((Q0a gA 0).f1)==((Q0a fA aA).f1)) || (!(((Q0a gA 0).f2)==((Q0a fA aA).f2)))))=true
            ·rw [if_pos bF] at H
             have uF:(!(((Q0a gA 0).f0)==((Q0a fA aA).f0)) || (!(((Q0a gA 0).f1)==((Q0a fA aA).f1)) || (!(((Q0a gA 0).f2)==((Q0a fA aA).f2)))))=true:=bF
             clear bF
             by_cases rG:gA.length<5864062014805
             ·rw [if_pos rG] at H
              have vF:=AM rG
              clear rG
              obtain ⟨wF,tB⟩:∃ y_:List (S27),y_=(gA++[(⟨(Q0a fA aA).f0,(Q0a fA aA).f1,(Q0a fA aA).f2⟩:S27)]):=⟨_,rfl⟩
              replace H:(Q0t.l0 kj26 fA wF (wrap64 (aA+1)) hA iA jA kA lA mA pA qA rA sA tA uA)=some r:=by first|(rw [tB];with_reducible exact H)|(have tC:=(Option.bind_some _ _).symm.trans H;rw [tB];with_reducible exact tC)|(have tC:=(Option.bind_some _ _).symm.trans H;with_reducible exact tC)|with_reducible exact H|(rw [tB];exact H)|exact H
              have xF:=AM tB
              clear tB
              have H':=AM H
              clear H
              try go_wp2
              replace HO_9:=dR HO_9;replace HO_10:=dR HO_10;replace bA:=dB bA;replace cA:=dB cA;replace dA:=dB dA;replace eA:=dB eA;replace HB:=dH HB
              obtain ⟨yI,hH,yF⟩:=Kd.Q01 HO_10.out
              (first|subst yF|(injection yF with jE pF kE;have qF:=jE.symm;have rF:=kE.symm;clear jE pF kE;subst qF;subst rF))
              have xB:0≤(0:Int):=(by omega)
              have yB:0<(gA.length:Int):=pD
              obtain ⟨eB,vE,xA,yA,zA⟩:=Q2i (Kd.Q0w HO_10.out).2.2 0 xB yB
              cases vE
              have zF:(0<gA.length)=True:=eq_true (by omega)
              (try rw [show ((0:Int)).toNat=0 from rfl] at xA)
              (try rw [show 0*3=0 from rfl] at xA)
              (try rw [Addr.add_zero'] at xA)
              (try rw [show ((0:Int)).toNat=0 from rfl] at yA)
              (try rw [show 0*3=0 from rfl] at yA)
              (try rw [Addr.add_zero'] at yA)
              (try rw [show ((0:Int)).toNat=0 from rfl] at zA)
              (try rw [show 0*3=0 from rfl] at zA)
              (try rw [Addr.add_zero'] at zA)
              replace xB:=eq_true xB;replace yB:=eq_true yB
              have zB:0≤(aA:Int):=pD
              have aC:aA<(fA.length:Int):=pD
              obtain ⟨cB,wE,iB,jB,lB⟩:=Q2i (Kd.Q0w HO_9.out).2.2 aA zB aC
              cases wE
              replace zB:=eq_true zB;replace aC:=eq_true aC
              refine sP 13 (S:=fun w'=>w'.cell? eB=some (.int .i64 ((Q0a gA 0).f0))∧w'.cell? ⟨eB.block,eB.off+1,none⟩=some (.int .i64 ((Q0a gA 0).f1))∧w'.cell? ⟨eB.block,eB.off+2,none⟩=some (.int .i64 ((Q0a gA 0).f2))∧w'.cell? (cB.add ((aA).toNat*3))=some (.int .i64 ((Q0a fA aA).f0))∧w'.cell? ⟨(cB.add ((aA).toNat*3)).block,(cB.add ((aA).toNat*3)).off+1,none⟩=some (.int .i64 ((Q0a fA aA).f1))∧w'.cell? ⟨(cB.add ((aA).toNat*3)).block,(cB.add ((aA).toNat*3)).off+2,none⟩=some (.int .i64 ((Q0a fA aA).f2))) (ds:=[]) ⟨xA,yA,zA,iB,jB,lB⟩ fun hHeld => ?_;refine Q1m Q0t.tab9 Q0t.bits9 (fun HT_ HW_ => ?_)
              generalize wc.drew=w51 at HO_9 HO_10 bA cA dA eA HB xA yA zA iB jB lB hHeld ⊢
              refine pQ 0 (some 42) HT_ ?_;refine pQ 1 (some 43) HT_ ?_;refine pQ 2 (some 44) HT_ ?_;refine pQ 3 (some 45) HT_ ?_;refine pQ 4 (some 46) HT_ ?_;refine pQ 5 (some 47) HT_ ?_;refine pQ 7 (some 49) HT_ ?_;refine pQ 8 (some 50) HT_ ?_;refine pQ 9 (some 51) HT_ ?_;refine tQ 6 (some 48) HT_ HW_ hHeld ?_;refine tQ 10 (some 52) HT_ HW_ hHeld ?_;refine pQ 11 (some 53) HT_ ?_;refine pQ 12 (some 54) HT_ ?_
              refine done_ (Q2d HT_.out (by kernel_rfl)) ?_
              have xE:0≤(aA:Int):=pD
              have yE:aA<(fA.length:Int):=pD
              obtain ⟨aG,iH,sG,tG,uG⟩:=Q2i (Kd.Q0w HO_9.out).2.2 aA xE yE
              obtain rfl:cB=aG:=(by injection iH)
              replace xE:=eq_true xE;replace yE:=eq_true yE
              try go_wp2_with (first|((with_reducible refine Q1v (b:=.append) (xs:=#[.tmp 55,.tmp 60]) rfl ?_);at_builtin;refine Kd.Q3j k27 (w0:=w) w.heap.size rfl (.tmp 55) (.tmp 60) 31 27 (.agg #[(.int .i64 0),(.int .i64 0),(.int .i64 0)]) 24 rfl Try.underlying31 info27 rfl (by decide) (by omega) (.slice (some eB) gA.length hH) gA (⟨(Q0a fA aA).f0,(Q0a fA aA).f1,(Q0a fA aA).f2⟩:S27) [.int .i64 ((Q0a fA aA).f0),.int .i64 ((Q0a fA aA).f1),.int .i64 ((Q0a fA aA).f2)] (fun k_=>some k_≠(.slice (some cB) fA.length uB:Value).ownBlock∧k_≠nA∧k_≠oA∧k_≠vA∧k_≠wA) (fun _=>False) rfl rfl ?aP (fun _ hk=>hk.elim) ?aF ?aO ?aB ?aS ?aL ?_;(case aP=>exact Q2o _ _ _ (⟨(Q0a fA aA).f0,(Q0a fA aA).f1,(Q0a fA aA).f2⟩:S27));(case aB=>exact (bH HB));(case aF=>exact (fun k_ hk=>⟨Kd.fresh' (Kd.R_lt (rK HO_9)) k_ hk,Kd.freshB (g:=nA) (o:=.cells #[.int .i64 hA,.int .i64 iA,.int .i64 jA] 27 (0,0)) (bK bA) k_ hk,Kd.freshB (g:=oA) (o:=.cells #[.int .i64 kA,.int .i64 lA,.int .i64 mA] 27 (0,0)) (bK cA) k_ hk,Kd.freshB (g:=vA) (o:=.cells #[.int .i64 pA,.int .i64 qA,.int .i64 rA] 27 (0,0)) (bK dA) k_ hk,Kd.freshB (g:=wA) (o:=.cells #[.int .i64 sA,.int .i64 tA,.int .i64 uA] 27 (0,0)) (bK eA) k_ hk⟩));(case aO=>exact (rK HO_10));(case aS=>exact (Q0h (bH HB)));(case aL=>have:=vF.out;omega);intro zI tJ ho hb hg hat;rw [← xF.out] at ho;replace HO_9:=AM (Kd.Q3w (ok:=(fun k_=>k_≠nA∧k_≠oA∧k_≠vA∧k_≠wA)) (by (with_reducible repeat (first|apply Kd.Q10|apply Kd.Q11|apply Kd.Q2h));exact Kd.Q1q HO_9.out (fun _ hk=>⟨⟨hk.2.1,⟨hk.2.2.1,⟨hk.2.2.2.1,hk.2.2.2.2⟩⟩⟩,hk.1⟩)) hg hat);replace bA:=AM (Q1w (g:=nA) (o:=.cells #[.int .i64 hA,.int .i64 iA,.int .i64 jA] 27 (0,0)) (bK bA) hg (Kd.Q5p HO_10.out (fun _ hk=>hk.2.1)));replace cA:=AM (Q1w (g:=oA) (o:=.cells #[.int .i64 kA,.int .i64 lA,.int .i64 mA] 27 (0,0)) (bK cA) hg (Kd.Q5p HO_10.out (fun _ hk=>hk.2.2.1)));replace dA:=AM (Q1w (g:=vA) (o:=.cells #[.int .i64 pA,.int .i64 qA,.int .i64 rA] 27 (0,0)) (bK dA) hg (Kd.Q5p HO_10.out (fun _ hk=>hk.2.2.2.1)));replace eA:=AM (Q1w (g:=wA) (o:=.cells #[.int .i64 sA,.int .i64 tA,.int .i64 uA] 27 (0,0)) (bK eA) hg (Kd.Q5p HO_10.out (fun _ hk=>hk.2.2.2.2)));replace HB:=AM hb;have bG:=AM ho;clear HO_10;clear ho hb hg hat))
              go_roundg kj26
              case measure=>have:=cD.out;have:=rB.out;omega
              case rel=>exact ⟨(wF),(wrap64 (aA+1)),rS,H',⟨by have:=cD.out;have:=rB.out;omega⟩,⟨by (with_reducible repeat (first|apply Kd.Q10|apply Kd.Q11|apply Kd.Q2h));exact Kd.Q1q HO_9.out (fun _ hk=>⟨hk.2,⟨hk.1.1,⟨hk.1.2.1,⟨hk.1.2.2.1,hk.1.2.2.2⟩⟩⟩⟩)⟩,⟨rK bG⟩,⟨bK bA⟩,⟨bK cA⟩,⟨bK dA⟩,⟨bK eA⟩,⟨ bH HB⟩⟩
             ·rw [if_neg rG] at H
              exact absurd H (by simp)
            ·rw [if_neg bF] at H
             have uF:(!(((Q0a gA 0).f0)==((Q0a fA aA).f0)) || (!(((Q0a gA 0).f1)==((Q0a fA aA).f1)) || (!(((Q0a gA 0).f2)==((Q0a fA aA).f2)))))=false:=by simpa using bF
             clear bF
             have H':=AM H
             clear H
             try go_wp2
             replace HO_9:=dR HO_9;replace HO_10:=dR HO_10;replace bA:=dB bA;replace cA:=dB cA;replace dA:=dB dA;replace eA:=dB eA;replace HB:=dH HB
             obtain ⟨aJ,bJ,cG⟩:=Kd.Q01 HO_10.out
             (first|subst cG|(injection cG with jE pF kE;have qF:=jE.symm;have rF:=kE.symm;clear jE pF kE;subst qF;subst rF))
             have xB:0≤(0:Int):=(by omega)
             have yB:0<(gA.length:Int):=pD
             obtain ⟨eB,vE,xA,yA,zA⟩:=Q2i (Kd.Q0w HO_10.out).2.2 0 xB yB
             cases vE
             have zF:(0<gA.length)=True:=eq_true (by omega)
             (try rw [show ((0:Int)).toNat=0 from rfl] at xA)
             (try rw [show 0*3=0 from rfl] at xA)
             (try rw [Addr.add_zero'] at xA)
             (try rw [show ((0:Int)).toNat=0 from rfl] at yA)
             (try rw [show 0*3=0 from rfl] at yA)
             (try rw [Addr.add_zero'] at yA)
             (try rw [show ((0:Int)).toNat=0 from rfl] at zA)
             (try rw [show 0*3=0 from rfl] at zA)
             (try rw [Addr.add_zero'] at zA)
             replace xB:=eq_true xB;replace yB:=eq_true yB
             have zB:0≤(aA:Int):=pD
             have aC:aA<(fA.length:Int):=pD
             obtain ⟨cB,wE,iB,jB,lB⟩:=Q2i (Kd.Q0w HO_9.out).2.2 aA zB aC
             cases wE
             replace zB:=eq_true zB;replace aC:=eq_true aC
             refine sP 13 (S:=fun w'=>w'.cell? eB=some (.int .i64 ((Q0a gA 0).f0))∧w'.cell? ⟨eB.block,eB.off+1,none⟩=some (.int .i64 ((Q0a gA 0).f1))∧w'.cell? ⟨eB.block,eB.off+2,none⟩=some (.int .i64 ((Q0a gA 0).f2))∧w'.cell? (cB.add ((aA).toNat*3))=some (.int .i64 ((Q0a fA aA).f0))∧w'.cell? ⟨(cB.add ((aA).toNat*3)).block,(cB.add ((aA).toNat*3)).off+1,none⟩=some (.int .i64 ((Q0a fA aA).f1))∧w'.cell? ⟨(cB.add ((aA).toNat*3)).block,(cB.add ((aA).toNat*3)).off+2,none⟩=some (.int .i64 ((Q0a fA aA).f2))) (ds:=[]) ⟨xA,yA,zA,iB,jB,lB⟩ fun hHeld => ?_;refine Q1m Q0t.tab9 Q0t.bits9 (fun HT_ HW_ => ?_)
             generalize wc.drew=w54 at HO_9 HO_10 bA cA dA eA HB xA yA zA iB jB lB hHeld ⊢
             refine pQ 0 (some 42) HT_ ?_;refine pQ 1 (some 43) HT_ ?_;refine pQ 2 (some 44) HT_ ?_;refine pQ 3 (some 45) HT_ ?_;refine pQ 4 (some 46) HT_ ?_;refine pQ 5 (some 47) HT_ ?_;refine pQ 7 (some 49) HT_ ?_;refine pQ 8 (some 50) HT_ ?_;refine pQ 9 (some 51) HT_ ?_;refine tQ 6 (some 48) HT_ HW_ hHeld ?_;refine tQ 10 (some 52) HT_ HW_ hHeld ?_;refine pQ 11 (some 53) HT_ ?_;refine pQ 12 (some 54) HT_ ?_
             refine done_ (Q2d HT_.out (by kernel_rfl)) ?_
             try go_wp2
             go_roundg kj26
             case measure=>have:=cD.out;have:=rB.out;omega
             case rel=>exact ⟨(gA),(wrap64 (aA+1)),rS,H',⟨by have:=cD.out;have:=rB.out;omega⟩,⟨rK HO_9⟩,⟨rK HO_10⟩,⟨bK bA⟩,⟨bK cA⟩,⟨bK dA⟩,⟨bK eA⟩,⟨ bH HB⟩⟩
         ·rw [if_neg qG] at H
          exact absurd H (by simp)
    ·(first|rw [qB]|(simp only [Q1r,Q13];rw [qB])|skip)
     by_cases cF:(gA.length:Int)>1
     ·rw [if_pos cF] at H
      have dG:=decide_eq_true cF
      have eG:decide (1<gA.length)=true:=decide_eq_true (by omega)
      clear cF
      obtain rfl:=Option.some.inj H
      obtain ⟨cJ,dJ,jH⟩:=Kd.Q01 HO_10.out
      subst jH
      go_wp2
      go_ret
      exact ⟨rE,bH HB⟩
     ·rw [if_neg cF] at H
      have dG:=decide_eq_false cF
      have eG:decide (1<gA.length)=false:=decide_eq_false (by omega)
      clear cF
      by_cases zE:(gA.length:Int)=1
      ·rw [if_pos zE] at H
       have fG:((gA.length:Int)==1)=true:=beq_iff_eq.mpr zE
       have gG:((gA.length:Int) != 1)=false:=bne_eq_false_iff_eq.mpr zE
       clear zE
       obtain rfl:=Option.some.inj H
       obtain ⟨eJ,fJ,lH⟩:=Kd.Q01 HO_10.out
       subst lH
       go_wp2
       go_ret
       exact ⟨rE,bH HB⟩
      ·rw [if_neg zE] at H
       have fG:((gA.length:Int)==1)=false:=beq_eq_false_iff_ne.mpr zE
       have gG:((gA.length:Int) != 1)=true:=bne_iff_ne.mpr zE
       obtain ⟨eD,pI,H⟩:=bS H
       obtain ⟨fD,qI,H⟩:=bS H
       apply iC H<;>clear H<;>intro rI H
       ·obtain ⟨mE,gJ,H⟩:=bS H
        obtain ⟨nE,hJ,H⟩:=bS H
        have hG:=AM H
        clear H
        obtain ⟨iJ,jJ,mH⟩:=Kd.Q01 HO_10.out
        subst mH
        try go_wp2
        replace HO_9:=dR HO_9;replace HO_10:=dR HO_10;replace bA:=dB bA;replace cA:=dB cA;replace dA:=dB dA;replace eA:=dB eA;replace HB:=dH HB
        refine sP 22 (S:=fun w'=>w'.cell? ⟨nA,0,none⟩=some (.int .i64 hA)∧w'.cell? ⟨nA,1,none⟩=some (.int .i64 iA)∧w'.cell? ⟨nA,2,none⟩=some (.int .i64 jA)∧w'.cell? ⟨oA,0,none⟩=some (.int .i64 kA)∧w'.cell? ⟨oA,1,none⟩=some (.int .i64 lA)∧w'.cell? ⟨oA,2,none⟩=some (.int .i64 mA)∧w'.cell? ⟨vA,0,none⟩=some (.int .i64 pA)∧w'.cell? ⟨vA,1,none⟩=some (.int .i64 qA)∧w'.cell? ⟨vA,2,none⟩=some (.int .i64 rA)∧w'.cell? ⟨wA,0,none⟩=some (.int .i64 sA)∧w'.cell? ⟨wA,1,none⟩=some (.int .i64 tA)∧w'.cell? ⟨wA,2,none⟩=some (.int .i64 uA)) (ds:=[]) ⟨bC bA,bC bA,bC bA,bC cA,bC cA,bC cA,bC dA,bC dA,bC dA,bC eA,bC eA,bC eA⟩ fun hHeld => ?_;refine Q1m Q0t.tab15 Q0t.bits15 (fun HT_ HW_ => ?_)
        generalize wr.drew=w67 at HO_9 HO_10 bA cA dA eA HB hHeld ⊢
        refine tQ 0 (some 68) HT_ HW_ hHeld ?_;refine tQ 1 (some 69) HT_ HW_ hHeld ?_;refine tQ 2 (some 70) HT_ HW_ hHeld ?_;refine tQ 4 (some 72) HT_ HW_ hHeld ?_;refine tQ 5 (some 73) HT_ HW_ hHeld ?_;refine tQ 6 (some 74) HT_ HW_ hHeld ?_
        refine oQ 3 (some 71) HT_ rfl fun K hK => ?_
        refine gO Try.func63 #[.agg #[.int .i64 hA,.int .i64 iA,.int .i64 jA],.agg #[.int .i64 kA,.int .i64 lA,.int .i64 mA],.agg #[.int .i64 pA,.int .i64 qA,.int .i64 rA]] ?_
        with_reducible refine (Q1d.calls k1 hA iA jA kA lA mA pA qA rA eD _ pI.out).mono ?_
        rintro e uJ ⟨rfl,hb⟩
        refine ⟨_,rfl,?_⟩
        replace HO_9:=kR HO_9 hb;replace HO_10:=kR HO_10 hb;replace bA:=kB bA hb;replace cA:=kB cA hb;replace dA:=kB dA hb;replace eA:=kB eA hb;replace HB:=kH HB hb;clear hb
        refine hK.out _ _ ⟨bC bA,bC bA,bC bA,bC cA,bC cA,bC cA,bC dA,bC dA,bC dA,bC eA,bC eA,bC eA⟩ (fun hHeld => ?_)
        clear hK K;refine nP (some 71) ?_
        refine oQ 7 (some 75) HT_ rfl fun K hK => ?_
        refine gO Try.func63 #[.agg #[.int .i64 hA,.int .i64 iA,.int .i64 jA],.agg #[.int .i64 kA,.int .i64 lA,.int .i64 mA],.agg #[.int .i64 sA,.int .i64 tA,.int .i64 uA]] ?_
        with_reducible refine (Q1d.calls k1 hA iA jA kA lA mA sA tA uA fD _ qI.out).mono ?_
        rintro e vJ ⟨rfl,hb⟩
        refine ⟨_,rfl,?_⟩
        replace HO_9:=kR HO_9 hb;replace HO_10:=kR HO_10 hb;replace bA:=kB bA hb;replace cA:=kB cA hb;replace dA:=kB dA hb;replace eA:=kB eA hb;replace HB:=kH HB hb;clear hb
        refine hK.out _ _ ⟨bC bA,bC bA,bC bA,bC cA,bC cA,bC cA,bC dA,bC dA,bC dA,bC eA,bC eA,bC eA⟩ (fun hHeld => ?_)
        clear hK K;refine nP (some 75) ?_;refine pQ 8 (some 76) HT_ ?_;refine pQ 9 (some 77) HT_ ?_;refine pQ 10 (some 78) HT_ ?_;refine tQ 11 (some 79) HT_ HW_ hHeld ?_;refine tQ 12 (some 80) HT_ HW_ hHeld ?_;refine tQ 13 (some 81) HT_ HW_ hHeld ?_;refine tQ 15 (some 83) HT_ HW_ hHeld ?_;refine tQ 16 (some 84) HT_ HW_ hHeld ?_;refine tQ 17 (some 85) HT_ HW_ hHeld ?_
        refine oQ 14 (some 82) HT_ rfl fun K hK => ?_
        refine gO Try.func63 #[.agg #[.int .i64 pA,.int .i64 qA,.int .i64 rA],.agg #[.int .i64 sA,.int .i64 tA,.int .i64 uA],.agg #[.int .i64 hA,.int .i64 iA,.int .i64 jA]] ?_
        with_reducible refine (Q1d.calls k1 pA qA rA sA tA uA hA iA jA mE _ gJ.out).mono ?_
        rintro e wJ ⟨rfl,hb⟩
        refine ⟨_,rfl,?_⟩
        replace HO_9:=kR HO_9 hb;replace HO_10:=kR HO_10 hb;replace bA:=kB bA hb;replace cA:=kB cA hb;replace dA:=kB dA hb;replace eA:=kB eA hb;replace HB:=kH HB hb;clear hb
        refine hK.out _ _ ⟨bC bA,bC bA,bC bA,bC cA,bC cA,bC cA,bC dA,bC dA,bC dA,bC eA,bC eA,bC eA⟩ (fun hHeld => ?_)
        clear hK K;refine nP (some 82) ?_
        refine oQ 18 (some 86) HT_ rfl fun K hK => ?_
        refine gO Try.func63 #[.agg #[.int .i64 pA,.int .i64 qA,.int .i64 rA],.agg #[.int .i64 sA,.int .i64 tA,.int .i64 uA],.agg #[.int .i64 kA,.int .i64 lA,.int .i64 mA]] ?_
        with_reducible refine (Q1d.calls k1 pA qA rA sA tA uA kA lA mA nE _ hJ.out).mono ?_
        rintro e xJ ⟨rfl,hb⟩
        refine ⟨_,rfl,?_⟩
        replace HO_9:=kR HO_9 hb;replace HO_10:=kR HO_10 hb;replace bA:=kB bA hb;replace cA:=kB cA hb;replace dA:=kB dA hb;replace eA:=kB eA hb;replace HB:=kH HB hb;clear hb
        refine hK.out _ _ ⟨bC bA,bC bA,bC bA,bC cA,bC cA,bC cA,bC dA,bC dA,bC dA,bC eA,bC eA,bC eA⟩ (fun hHeld => ?_)
        clear hK K;refine nP (some 86) ?_;refine pQ 19 (some 87) HT_ ?_;refine pQ 20 (some 88) HT_ ?_;refine pQ 21 (some 89) HT_ ?_
        refine done_ (Q2d HT_.out (by kernel_rfl)) ?_
        go_upto_if 89 with (fail)
        have H:=hG.out;clear hG
        apply iC H<;>clear H<;>intro fC H
        ·(first|rw [fC]|(simp only [Q1r,Q13];rw [fC])|skip)
         obtain rfl:=Option.some.inj H
         go_wp2
         go_ret
         exact ⟨rE,bH HB⟩
        ·(first|rw [fC]|(simp only [Q1r,Q13];rw [fC])|skip)
         obtain rfl:=Option.some.inj H
         go_wp2
         go_ret
         exact ⟨rE,bH HB⟩
       ·obtain rfl:=Option.some.inj H
        obtain ⟨kJ,lJ,nH⟩:=Kd.Q01 HO_10.out
        subst nH
        try go_wp2
        replace HO_9:=dR HO_9;replace HO_10:=dR HO_10;replace bA:=dB bA;replace cA:=dB cA;replace dA:=dB dA;replace eA:=dB eA;replace HB:=dH HB
        refine sP 22 (S:=fun w'=>w'.cell? ⟨nA,0,none⟩=some (.int .i64 hA)∧w'.cell? ⟨nA,1,none⟩=some (.int .i64 iA)∧w'.cell? ⟨nA,2,none⟩=some (.int .i64 jA)∧w'.cell? ⟨oA,0,none⟩=some (.int .i64 kA)∧w'.cell? ⟨oA,1,none⟩=some (.int .i64 lA)∧w'.cell? ⟨oA,2,none⟩=some (.int .i64 mA)∧w'.cell? ⟨vA,0,none⟩=some (.int .i64 pA)∧w'.cell? ⟨vA,1,none⟩=some (.int .i64 qA)∧w'.cell? ⟨vA,2,none⟩=some (.int .i64 rA)∧w'.cell? ⟨wA,0,none⟩=some (.int .i64 sA)∧w'.cell? ⟨wA,1,none⟩=some (.int .i64 tA)∧w'.cell? ⟨wA,2,none⟩=some (.int .i64 uA)) (ds:=[]) ⟨bC bA,bC bA,bC bA,bC cA,bC cA,bC cA,bC dA,bC dA,bC dA,bC eA,bC eA,bC eA⟩ fun hHeld => ?_;refine Q1m Q0t.tab15 Q0t.bits15 (fun HT_ HW_ => ?_)
        generalize wr.drew=w74 at HO_9 HO_10 bA cA dA eA HB hHeld ⊢
        refine tQ 0 (some 68) HT_ HW_ hHeld ?_;refine tQ 1 (some 69) HT_ HW_ hHeld ?_;refine tQ 2 (some 70) HT_ HW_ hHeld ?_;refine tQ 4 (some 72) HT_ HW_ hHeld ?_;refine tQ 5 (some 73) HT_ HW_ hHeld ?_;refine tQ 6 (some 74) HT_ HW_ hHeld ?_
        refine oQ 3 (some 71) HT_ rfl fun K hK => ?_
        refine gO Try.func63 #[.agg #[.int .i64 hA,.int .i64 iA,.int .i64 jA],.agg #[.int .i64 kA,.int .i64 lA,.int .i64 mA],.agg #[.int .i64 pA,.int .i64 qA,.int .i64 rA]] ?_
        with_reducible refine (Q1d.calls k1 hA iA jA kA lA mA pA qA rA eD _ pI.out).mono ?_
        rintro e yJ ⟨rfl,hb⟩
        refine ⟨_,rfl,?_⟩
        replace HO_9:=kR HO_9 hb;replace HO_10:=kR HO_10 hb;replace bA:=kB bA hb;replace cA:=kB cA hb;replace dA:=kB dA hb;replace eA:=kB eA hb;replace HB:=kH HB hb;clear hb
        refine hK.out _ _ ⟨bC bA,bC bA,bC bA,bC cA,bC cA,bC cA,bC dA,bC dA,bC dA,bC eA,bC eA,bC eA⟩ (fun hHeld => ?_)
        clear hK K;refine nP (some 71) ?_
        refine oQ 7 (some 75) HT_ rfl fun K hK => ?_
        refine gO Try.func63 #[.agg #[.int .i64 hA,.int .i64 iA,.int .i64 jA],.agg #[.int .i64 kA,.int .i64 lA,.int .i64 mA],.agg #[.int .i64 sA,.int .i64 tA,.int .i64 uA]] ?_
        with_reducible refine (Q1d.calls k1 hA iA jA kA lA mA sA tA uA fD _ qI.out).mono ?_
        rintro e zJ ⟨rfl,hb⟩
        refine ⟨_,rfl,?_⟩
        replace HO_9:=kR HO_9 hb;replace HO_10:=kR HO_10 hb;replace bA:=kB bA hb;replace cA:=kB cA hb;replace dA:=kB dA hb;replace eA:=kB eA hb;replace HB:=kH HB hb;clear hb
        refine hK.out _ _ ⟨bC bA,bC bA,bC bA,bC cA,bC cA,bC cA,bC dA,bC dA,bC dA,bC eA,bC eA,bC eA⟩ (fun hHeld => ?_)
        clear hK K;refine nP (some 75) ?_;refine pQ 8 (some 76) HT_ ?_;refine pQ 9 (some 77) HT_ ?_;refine pQ 10 (some 78) HT_ ?_;refine uQ 11 (some 79) HT_ ?_;refine uQ 12 (some 80) HT_ ?_;refine uQ 13 (some 81) HT_ ?_;refine uQ 14 (some 82) HT_ ?_;refine uQ 15 (some 83) HT_ ?_;refine uQ 16 (some 84) HT_ ?_;refine uQ 17 (some 85) HT_ ?_;refine uQ 18 (some 86) HT_ ?_;refine uQ 19 (some 87) HT_ ?_;refine uQ 20 (some 88) HT_ ?_;refine pQ 21 (some 89) HT_ ?_
        refine done_ (Q2d HT_.out (by kernel_rfl)) ?_
        try go_wp2
        go_ret
        exact ⟨rE,bH HB⟩
 ·replace iG:=Bool.eq_false_iff.mpr iG
  subst iG
  replace H:=iF H
  obtain rfl:=Option.some.inj H
  go_wp2
  go_ret
  exact ⟨rE,bH HB⟩
end Go.Proofs.Ytbonkedecfjmdaa.P
