/- Written for this claim by a program of this session (a turned copy of the print): Go functions as Lean functions, and that the Go code comes to just these answers; or a statement proved out of them. No condition. Arcs: in their direction, and the other way round; how long a map is. No condition. The points of arcs that close, as the program lays them together. No condition. The points of arcs: of whatever numbers. No condition. How long a map is; what its size bounds; how long the points are; rings. No condition. A map, plainly: its sides, what they may have in common, whether its rings close and its polygons fill. No condition. The sides of arcs, and what two may have in common: what the program answers. No condition. -/
import Derived.Test.YtbonkedecfjmdaaZ2
import Derived.Test.YtbonkedecfjmdaaZ18
import Derived.Test.YtbonkedecfjmdaaZ17
import Derived.Test.YtbonkedecfjmdaaZ12
import Derived.Test.YtbonkedecfjmdaaZ13
import Derived.Test.YtbonkedecfjmdaaZ15

namespace Go.Proofs.Ytbonkedecfjmdaa.P
open Go.RowKit Go.Proofs.YtbonkedecfjmdaaW.PrintWords Go.Proofs.YtbonkedecfjmdaaW.PrintLast Go.Proofs.YtbonkedecfjmdaaW.PrintMore Go.Proofs.Ytbonkedecfjmdaa.X
attribute [local go_sem] Q2a Q2b Q2s Q2q Q1z Q1y Q19 Q2c Q2r Q2p add64
set_option linter.unusedVariables false
set_option linter.unusedSimpArgs false
def Q1u.f (k:Nat) (cA:List (List (S27))) (aA:List (List Int)) (dA:List (List Int)) (a1:Int):Option ((List (S27))×Int):=if a1<0 then (some (([]:List (S27)),2)) else (if a1≥(aA.length:Int) then (some (([]:List (S27)),2)) else (if 0≤a1 then (if a1<(aA.length:Int) then ((Q02.f k cA aA dA (Q06 aA a1)).bind fun fA=>(some (fA.1,fA.2))) else (none)) else (none)))
theorem Q1u.mono:∀ a0 a1 a2 a3 k,LeO (Q1u.f k a0 a1 a2 a3) (Q1u.f (k+1) a0 a1 a2 a3):=by
 intro a0 a1 a2 a3 k
 unfold Q1u.f
 repeat' with_reducible first|exact Q02.mono _ _ _ _ _|exact LeO.refl _|exact LeO.none _|refine LeO.ite ?_ ?_|refine LeO.bind ?_ (fun _ => ?_)
def Q1u.T3:Bool×List (List Nat×List Nat):=(true,[([],[]),([],[]),([1],[1]),([],[]),([2,3],[2,3]),([4],[4]),([0,5],[0,5]),([6],[6]),([6],[6]),([7,6,0,1,2,3,4,5,6,7,8],[7]),([8,9,0,1,2,3,4,5,6,7,8,9],[8])])
def Q1u.B3:List Nat:=[0,0,2,0,14,30,63,127,127,511,1023]
theorem Q1u.tab3:rtab .any (opsOf Try.f33 3)=Q1u.T3:=by kernel_rfl
theorem Q1u.bits3:waitsOk Q1u.T3.2 Q1u.B3=true:=by kernel_rfl
set_option maxHeartbeats 8000000 in
set_option maxRecDepth 100000 in
theorem Q1u.calls (k:Nat) (lA:Option Addr) (mA:Nat) (cA:List (List (S27))) (uA:Option Addr) (nA:Nat) (aA:List (List Int)) (oA:Option Addr) (pA:Nat) (dA:List (List Int)) (a1:Int) (r1:List (S27)) (r2:Int) (w:World) (xA:Kd.C (Kd.slice 27 k27) w lA cA.length cA) (yA:cA.length≤mA) (zA:Kd.C (Kd.slice 3 (Kd.int .i64)) w uA aA.length aA) (aB:aA.length≤nA) (bB:Kd.C (Kd.slice 3 (Kd.int .i64)) w oA dA.length dA) (cB:dA.length≤pA) (h:Q1u.f k cA aA dA a1=some (r1,r2)) :
  Calls Try.prog 33 #[.agg #[.slice lA cA.length mA,.slice uA aA.length nA,.slice oA dA.length pA],.int .i64 a1] w fun e w'=>∃ v0_:Value,e=.returned (.tuple #[v0_,.int .i64 r2])∧Kd.R k27 27 w' w.heap.size (fun _=>True) v0_ r1∧Below w.heap.size w w':=by
 have cC:=Try.underlying25
 have hB:=AM xA
 have iB:=AM yA
 clear xA yA
 have eB:=AM zA
 have jB:=AM aB
 clear zA aB
 have lB:=AM bB
 have mB:=AM cB
 clear bB cB
 have HB:=AM (Below.refl w.heap.size w)
 have H:(if a1<0 then (some (([]:List (S27)),2)) else (if a1≥(aA.length:Int) then (some (([]:List (S27)),2)) else (if 0≤a1 then (if a1<(aA.length:Int) then ((Q02.f k cA aA dA (Q06 aA a1)).bind fun fA=>(some (fA.1,fA.2))) else (none)) else (none))))=some (r1,r2):=h
 clear h
 apply iC H<;>clear H<;>intro dC H
 ·simp only [Option.some.injEq,Prod.mk.injEq] at H
  obtain ⟨rfl,rfl⟩:=H
  go_enter Try.func33,Try.ntmps33
  go_wp2_with (first|((with_reducible refine Q0i (N:=2) rfl ?_);(try (refine Q2e (by rfl) ?_;dsimp only));refine bE 2 #[.slice lA cA.length mA,.slice uA aA.length nA,.slice oA dA.length pA] 25 ?_;intro gA hg w4 hbox hb;have bA:=AM hbox;have qA:=kG HB hg;replace HB:=kH HB hb;have nB:=qA;clear hb hbox hg))
  go_ret2
  exact ⟨_,rE,by first|exact Kd.Q3k _ _ _ _ _|exact Kd.Q3t _ _ _ _ _|exact Kd.Q3x _ _ _ _ _|exact Kd.Q3v _ _ _ _ _|exact Kd.Q3y _ _ _ _ _,bH HB⟩
 ·have yB:=AM H
  clear H
  go_enter Try.func33,Try.ntmps33
  go_upto_if 14 with (first|((with_reducible refine Q0i (N:=2) rfl ?_);(try (refine Q2e (by rfl) ?_;dsimp only));refine bE 2 #[.slice lA cA.length mA,.slice uA aA.length nA,.slice oA dA.length pA] 25 ?_;intro gA hg w6 hbox hb;have bA:=AM hbox;have qA:=kG HB hg;replace HB:=kH HB hb;have nB:=qA;clear hb hbox hg;obtain ⟨pB,qB,rB,sB,tB,uB⟩:=c3 bA))
  (try simp only [Act.put,List.setIfInBounds_toArray,List.set_cons_zero,List.set_cons_succ])
  have H:=yB.out;clear yB
  apply iC H<;>clear H<;>intro vA H
  ·(first|rw [vA]|(simp only [Q1r,Q13];rw [vA])|skip)
   simp only [Option.some.injEq,Prod.mk.injEq] at H
   obtain ⟨rfl,rfl⟩:=H
   go_wp2
   go_ret2
   exact ⟨_,rE,by first|exact Kd.Q3k _ _ _ _ _|exact Kd.Q3t _ _ _ _ _|exact Kd.Q3x _ _ _ _ _|exact Kd.Q3v _ _ _ _ _|exact Kd.Q3y _ _ _ _ _,bH HB⟩
  ·(first|rw [vA]|(simp only [Q1r,Q13];rw [vA])|skip)
   apply iN H;clear H;intro eC H
   ·apply iN H;clear H;intro zB H
    ·obtain ⟨⟨vB,wB⟩,fC,H⟩:=bS H
     try dsimp only at H
     simp only [Option.some.injEq,Prod.mk.injEq] at H
     obtain ⟨rfl,rfl⟩:=H
     try go_wp2
     replace bA:=dB bA;replace HB:=dH HB
     have fB:0≤(a1:Int):=pD
     have gB:a1<(aA.length:Int):=pD
     obtain ⟨rA,sA,tA,xB,eA,hA,iA⟩:=Q3c eB.out a1 fB gB
     have jA:=eA
     cases xB
     replace eA:=hW HB eA
     have kA:=AM iA
     have wA:=AM hA
     clear iA hA;replace fB:=eq_true fB;replace gB:=eq_true gB
     refine sP 11 (S:=fun w'=>w'.cell? ⟨gA,0,none⟩=some (.slice lA cA.length mA)∧w'.cell? ⟨gA,1,none⟩=some (.slice (some rA) aA.length nA)∧w'.cell? ⟨gA,2,none⟩=some (.slice oA dA.length pA)∧w'.cell? (rA.add (a1).toNat)=some (.slice sA (Q06 aA a1).length tA)) (ds:=[]) ⟨bC bA,bC bA,bC bA,(hW HB jA :)⟩ fun hHeld => ?_;refine Q1m Q1u.tab3 Q1u.bits3 (fun HT_ HW_ => ?_)
     generalize w6.drew=w12 at bA HB kA eA hHeld ⊢
     refine pQ 1 (some 16) HT_ ?_;refine pQ 3 (some 18) HT_ ?_;refine tQ 0 (some 15) HT_ HW_ hHeld ?_;refine tQ 2 (some 17) HT_ HW_ hHeld ?_;refine pQ 4 (some 19) HT_ ?_;refine tQ 5 (some 20) HT_ HW_ hHeld ?_
     refine oQ 6 (some 21) HT_ rfl fun K hK => ?_
     refine gO Try.func58 #[.agg #[.slice lA cA.length mA,.slice (some rA) aA.length nA,.slice oA dA.length pA],.slice sA (Q06 aA a1).length tA] ?_
     with_reducible refine (Q02.calls k _ _ cA _ _ aA _ _ dA _ _ (Q06 aA a1) vB wB _ ?side1 ?side2 ?side3 ?side4 ?side5 ?side6 ?side7 ?side8 fC.out).mono ?_
     (case side1=>exact sC hB HB)
     (case side2=>exact iB.out)
     (case side3=>exact sC eB HB)
     (case side4=>exact jB.out)
     (case side5=>exact sC lB HB)
     (case side6=>exact mB.out)
     (case side7=>exact sC kA HB)
     (case side8=>exact wA.out)
     rintro e hC ⟨gC,rfl,aC,hb⟩
     refine ⟨_,rfl,?_⟩
     have oB:=AM (Kd.Q1b aC (Q0h (bH HB)))
     replace bA:=kB bA hb;replace HB:=kH HB hb;clear hb aC
     refine hK.out _ _ ⟨bC bA,bC bA,bC bA,(hW HB jA :)⟩ (fun hHeld => ?_)
     clear hK K;refine nP (some 21) ?_;refine pQ 7 (some 22) HT_ ?_;refine pQ 8 (some 23) HT_ ?_;refine pQ 9 (some 4) HT_ ?_;refine pQ 10 (some 5) HT_ ?_
     refine done_ (Q2d HT_.out (by kernel_rfl)) ?_
     try go_wp2
     go_ret2
     exact ⟨_,rE,rK oB,bH HB⟩
end Go.Proofs.Ytbonkedecfjmdaa.P

namespace Go.Proofs.Ytbonkedecfjmdaa.Gr
set_option linter.unusedVariables false
set_option linter.unusedSimpArgs false
open Go.RowKit Go.Proofs.Ytbonkedecfjmdaa.P Go.Proofs.YtbonkedecfjmdaaW.PrintWords Go.Proofs.YtbonkedecfjmdaaW.PrintLast Go.Proofs.YtbonkedecfjmdaaW.PrintMore
theorem Q2u {x:Int} (h : -9223372036854775808≤x) (h':x≤9223372036854775807):wrap64 x=x:=by unfold wrap64;omega
theorem not64 {x:Int} (h : -9223372036854775808≤x) (h':x≤9223372036854775807):Go.bits .xor .i64 (-1) x = -x - 1:=by
 unfold Go.bits
 have e:(BitVec.ofInt IntKind.i64.bits (-1) ^^^ BitVec.ofInt IntKind.i64.bits x) = ~~~ (BitVec.ofInt 64 x):=by
  show BitVec.ofInt 64 (-1) ^^^ BitVec.ofInt 64 x=_
  rw [show BitVec.ofInt 64 (-1)=BitVec.allOnes 64 by decide,BitVec.allOnes_xor]
 simp only [e]
 have h2:(~~~ (BitVec.ofInt 64 x)).toNat=(18446744073709551615 - x % 18446744073709551616).toNat:=by
  rw [BitVec.toNat_not,BitVec.toNat_ofInt]
  show 18446744073709551616 - 1 - (x % 18446744073709551616).toNat=_
  omega
 show IntKind.i64.wrap (((~~~ (BitVec.ofInt 64 x)).toNat:Nat):Int)=_
 rw [h2]
 simp only [Q1r]
 unfold wrap64
 omega
abbrev Pt:=S27
theorem rdp (l:List Pt) (i:Nat) (h:i<l.length):Q0a l (i:Int)=l[i]:=by
 unfold Q0a
 simp [h]
theorem Qfj (a:List Pt) (hl:a.length<5864062014805):∀ (n:Nat) (b:List Pt),n≤a.length→b.length+n≤a.length→Ev (fun k=>Q2m.l0 k a b ((n:Int) - 1)) (b++(a.take n).reverse):=by
 intro n
 induction n with
 | zero =>
  intro b _ _
  refine Ev.step (fun k=>Q2m.l0.eq_2 _ _ _ _) ?_
  simp only [if_neg (show ¬ (((0:Nat):Int) - 1≥0) by omega),List.take_zero,List.reverse_nil,List.append_nil]
  exact Ev.now b
 | succ n ih =>
  intro b h1 h2
  refine Ev.step (fun k=>Q2m.l0.eq_2 _ _ _ _) ?_
  have e:((n+1:Nat):Int) - 1=(n:Int):=by omega
  simp only [e,if_pos (show (n:Int)≥0 by omega),if_pos (show (0:Int)≤(n:Int) by omega),if_pos (show (n:Int)<(a.length:Int) by omega),if_pos (show b.length<5864062014805 by omega),rdp a n (by omega),Q2u (x:=(n:Int) - 1) (by omega) (by omega)]
  have I:=ih (b++[a[n]]) (by omega) (by rw [List.length_append,List.length_singleton];omega)
  have I':(b++[a[n]])++(a.take n).reverse=b++(a.take (n+1)).reverse:=by rw [List.take_succ_eq_append_getElem (by omega),List.reverse_append,List.reverse_singleton,List.append_assoc]
  rw [I'] at I
  exact I
theorem Qfe (a:List Pt) (hl:a.length<5864062014805):Ev (fun k=>Q2m.f k a) a.reverse:=by
 unfold Q2m.f
 rw [Q2u (by omega) (by omega)]
 have h:=Qfj a hl a.length [] (Nat.le_refl _) (by simp)
 simpa using h
def arcB (m:List (List Pt)) (n:Int):Option (List Pt):=if 0≤n then m[n.toNat]? else (m[(-1 - n).toNat]?).map List.reverse
theorem rdl (m:List (List Pt)) (i:Nat) (h:i<m.length):Q0e m (i:Int)=m[i]:=by
 unfold Q0e
 simp [h]
theorem Qgn (m:List (List Pt)) (r p:List (List Int)) (n:Int) (h1 : -9223372036854775808≤n) (h2:n≤9223372036854775807) (hm:∀ x∈m,x.length<5864062014805) :
  Ev (fun k=>Q18.f k m r p n) (match arcB m n with|some l=>(l,0)|none=>([],2)):=by
 unfold Q18.f arcB
 by_cases h:n<0
 ·simp only [if_pos h,if_neg (show ¬ 0≤n by omega),not64 h1 h2]
  obtain ⟨i,hi⟩:=Int.eq_ofNat_of_zero_le (show 0 ≤ -n - 1 by omega)
  rw [show -1 - n=(i:Int) by omega,show -n - 1=(i:Int) by omega,Int.toNat_natCast]
  refine Ev.step (fun k=>Q18.j0.eq_2 _ _ _ _ _ _) ?_
  by_cases hl:i<m.length
  ·simp only [if_neg (show ¬ ((i:Int)≥(m.length:Int)) by omega),decide_eq_true h,if_true,if_pos (show (0:Int)≤(i:Int) by omega),if_pos (show (i:Int)<(m.length:Int) by omega),rdl m i hl,List.getElem?_eq_getElem hl,Option.map_some]
   exact Ev.bind (Qfe m[i] (hm _ (List.getElem_mem hl))) (Ev.now _)
  ·simp only [if_pos (show ((i:Int)≥(m.length:Int)) by omega),List.getElem?_eq_none (show m.length≤i by omega),Option.map_none]
   exact Ev.now _
 ·simp only [if_neg h,if_pos (show 0≤n by omega)]
  obtain ⟨i,rfl⟩:=Int.eq_ofNat_of_zero_le (show 0≤n by omega)
  rw [Int.toNat_natCast]
  refine Ev.step (fun k=>Q18.j0.eq_2 _ _ _ _ _ _) ?_
  by_cases hl:i<m.length
  ·simp only [if_neg (show ¬ ((i:Int)≥(m.length:Int)) by omega),decide_eq_false h,Bool.false_eq_true,if_false,if_pos (show (0:Int)≤(i:Int) by omega),if_pos (show (i:Int)<(m.length:Int) by omega),rdl m i hl,List.getElem?_eq_getElem hl]
   refine Ev.bind (a:=m[i]) ?_ (Ev.now _)
   unfold Q3f.f
   simp only [if_pos (hm _ (List.getElem_mem hl))]
   exact Ev.now _
  ·simp only [if_pos (show ((i:Int)≥(m.length:Int)) by omega),List.getElem?_eq_none (show m.length≤i by omega)]
   exact Ev.now _

def lastP (a:List Pt):Pt:=Q0a a ((a.length:Int) - 1)
def headP (a:List Pt):Pt:=Q0a a 0
def eqP (p q:Pt):Bool:=p.f0==q.f0&&(p.f1==q.f1&&(p.f2==q.f2))
def okAt (l:List (List Pt)) (i:Nat):Bool:=eqP (lastP (Q0e l (((i+l.length - 1) % l.length:Nat):Int))) (headP (Q0e l (i:Int)))
def okFrom (l:List (List Pt)) (i n:Nat):Bool:=(List.range' i n).all (okAt l)
def flatL (l:List (List Pt)):List Pt:=(l.map List.dropLast).flatten
theorem Q7n (l:List (List Pt)):(flatL l).length≤(l.map List.length).sum:=by
 unfold flatL
 induction l with
 | nil=>simp
 | cons a l ih=>simp only [List.map_cons,List.flatten_cons,List.length_append,List.length_dropLast,List.sum_cons];omega
theorem Qgv (l:List (List Pt)) (hl:l.length≤1000000000000) (hne:∀ a∈l,0<a.length∧a.length<5864062014805) (hs:(l.map List.length).sum<5864062014805):∀ (n i:Nat),i+n=l.length→0<l.length →
  Ev (fun k=>Q02.l1 k l (flatL (l.take i)) true l (l.length:Int) (i:Int)) (if okFrom l i n then (flatL l,0) else ([],90)):=by
 intro n
 induction n with
 | zero =>
  intro i hi h0
  refine Ev.step (fun k=>Q02.l1.eq_2 _ _ _ _ _ _ _) ?_
  simp only [if_neg (show ¬ ((i:Int)<(l.length:Int)) by omega),if_true]
  rw [show i=l.length by omega,List.take_length]
  simp only [okFrom,List.range'_zero,List.all_nil,if_true]
  exact Ev.now _
 | succ n ih =>
  intro i hi h0
  have h1:i<l.length:=by omega
  have I:=ih (i+1) (by omega) h0
  have hp:(i+l.length - 1) % l.length<l.length:=Nat.mod_lt _ h0
  have e:Int.tmod (wrap64 (wrap64 ((i:Int)+(l.length:Int)) - 1)) (l.length:Int)=(((i+l.length - 1) % l.length:Nat):Int):=by
   rw [Q2u (x:=(i:Int)+(l.length:Int)) (by omega) (by omega),Q2u (by omega) (by omega),Int.tmod_eq_emod_of_nonneg (by omega),show (i:Int)+(l.length:Int) - 1=((i+l.length - 1:Nat):Int) by omega,Int.natCast_emod]
  have hok:okAt l i=eqP (lastP l[(i+l.length - 1) % l.length]) (headP l[i]):=by unfold okAt;rw [rdl l _ hp,rdl l i h1]
  have hq:=hne _ (List.getElem_mem hp)
  have hi':=hne _ (List.getElem_mem h1)
  have hsp:okFrom l i (n+1)=(okAt l i&&okFrom l (i+1) n):=by unfold okFrom;rw [List.range'_succ,List.all_cons]
  have hfl:flatL (l.take (i+1))=flatL (l.take i)++l[i].dropLast:=by
   unfold flatL;rw [List.take_succ_eq_append_getElem h1,List.map_append,List.flatten_append];simp
  have hlen:(flatL (l.take (i+1))).length<5864062014805:=by
   have h2:=Q7n (l.take (i+1))
   have h3:((l.take (i+1)).map List.length).sum≤(l.map List.length).sum:=by
    rw [List.map_take]
    conv=>rhs;rw [← List.take_append_drop (i+1) (l.map List.length),List.sum_append]
    omega
   omega
  rw [hfl,List.length_append,List.length_dropLast] at hlen
  refine Ev.step (fun k=>Q02.l1.eq_2 _ _ _ _ _ _ _) ?_
  generalize hj:(i+l.length - 1) % l.length=j at *
  simp only [e,rdl l j hp,rdl l i h1,Q2u (x:=(l[j].length:Int) - 1) (by omega) (by omega),Q2u (x:=(l[i].length:Int) - 1) (by omega) (by omega),Q2u (x:=(i:Int)+1) (by omega) (by omega),
   if_pos (show (i:Int)<(l.length:Int) by omega),if_pos (show (0:Int)≤(i:Int) by omega),if_neg (show ¬ ((l.length:Int)=0) by omega),if_pos (show (0:Int)≤(j:Int) by omega),if_pos (show (j:Int)<(l.length:Int) by omega),
   if_pos (show (0:Int)≤(l[j].length:Int) - 1 by omega),if_pos (show (l[j].length:Int) - 1<(l[j].length:Int) by omega),if_pos (show (0:Int)<(l[i].length:Int) by omega),if_pos (show (0:Int)≤(l[i].length:Int) - 1 by omega),if_pos (show (l[i].length:Int) - 1≤(l[i].length:Int) by omega)]
  rw [hsp,hok]
  by_cases hc:eqP (lastP l[j]) (headP l[i])=true
  ·have hc':=hc
   unfold eqP lastP headP at hc'
   simp only [hc',if_true,hc,Bool.true_and,Option.bind_some,show ((l[i].length:Int) - 1).toNat=l[i].length - 1 by omega,← List.dropLast_eq_take,List.length_dropLast,if_pos hlen]
   rw [hfl] at I
   exact I
  ·have hc':=hc
   unfold eqP lastP headP at hc'
   rw [Bool.not_eq_true] at hc hc'
   simp only [hc',hc,Bool.false_and,Bool.false_eq_true,if_false]
   exact Ev.now _

def arcsOf (m:List (List Pt)):List Int→Option (List (List Pt))
 | []=>some []
 | n :: t=>match arcB m n with
  | none=>none
  | some a=>if a.length=0 then none else (arcsOf m t).map (a :: ·)
def ringV (L:List (List Pt)):List Pt×Int:=if 0<L.length then (if okFrom L 0 L.length then (flatL L,0) else ([],90)) else ([],90)
def ptsV (m:List (List Pt)) (acc:List (List Pt)) (refs:List Int):List Pt×Int:=match arcsOf m refs with
 | none=>([],2)
 | some ls=>ringV (acc++ls)
theorem Q7s {m:List (List Pt)} {n:Int} {a:List Pt} (h:arcB m n=some a):∃ x∈m,x.length=a.length:=by
 unfold arcB at h
 split at h
 ·obtain ⟨h1,rfl⟩:=List.getElem?_eq_some_iff.1 h;exact ⟨_,List.getElem_mem h1,rfl⟩
 ·obtain ⟨y,hy,rfl⟩:=Option.map_eq_some_iff.1 h
  obtain ⟨h1,rfl⟩:=List.getElem?_eq_some_iff.1 hy
  exact ⟨_,List.getElem_mem h1,(List.length_reverse).symm⟩
theorem Q6w (B:Nat):∀ l:List (List Pt),(∀ a∈l,a.length≤B)→(l.map List.length).sum≤l.length*B:=by
 intro l
 induction l with
 | nil=>intro _;simp
 | cons a l ih =>
  intro h
  rw [List.map_cons,List.sum_cons,List.length_cons,Nat.add_mul,Nat.one_mul]
  have:=ih (fun x hx=>h x (List.mem_cons_of_mem _ hx))
  have:=h a (List.mem_cons_self ..)
  omega
theorem Qe7 (L:List (List Pt)) (B:Nat) (hb:B<5864062014805) (hl:L.length≤1000000000000) (hL:∀ a∈L,0<a.length∧a.length≤B) (hs:L.length*B<5864062014805) :
  Ev (fun k=>Q02.l1 k L [] (decide ((L.length:Int)>0)) L (L.length:Int) 0) (ringV L):=by
 unfold ringV
 by_cases h:0<L.length
 ·have h1:=Q6w B L (fun a ha=>(hL a ha).2)
  have h2:=Qgv L hl (fun a ha=>⟨(hL a ha).1,by have:=(hL a ha).2;omega⟩) (by omega) L.length 0 (by omega) h
  rw [if_pos h,decide_eq_true (show (L.length:Int)>0 by omega)]
  exact h2
 ·rw [if_neg h,decide_eq_false (show ¬ ((L.length:Int)>0) by omega)]
  refine Ev.step (fun k=>Q02.l1.eq_2 _ _ _ _ _ _ _) ?_
  simp only [if_neg (show ¬ ((0:Int)<(L.length:Int)) by omega),Bool.false_eq_true,if_false]
  exact Ev.now _
theorem Qhd (m:List (List Pt)) (r p:List (List Int)) (B:Nat) (hb:B<5864062014805) (hm:∀ x∈m,x.length≤B) (refs:List Int) (hr:refs.length≤1000000000000) (hw:∀ x∈refs,-9223372036854775808≤x∧x≤9223372036854775807) (hs:refs.length*B<5864062014805) :
  ∀ (n i:Nat) (acc:List (List Pt)),i+n=refs.length→acc.length=i→(∀ a∈acc,0<a.length∧a.length≤B)→Ev (fun k=>Q02.l0 k acc refs (refs.length:Int) (i:Int) m r p) (ptsV m acc (refs.drop i)):=by
 intro n
 induction n with
 | zero =>
  intro i acc hi ha hA
  refine Ev.step (fun k=>Q02.l0.eq_2 _ _ _ _ _ _ _ _) ?_
  simp only [if_neg (show ¬ ((i:Int)<(refs.length:Int)) by omega)]
  rw [List.drop_of_length_le (by omega)]
  unfold ptsV arcsOf
  simp only [List.append_nil]
  have e:acc.length=refs.length:=by omega
  exact Qe7 acc B hb (by omega) hA (by rw [e];exact hs)
 | succ n ih =>
  intro i acc hi ha hA
  have h1:i<refs.length:=by omega
  have hx:=hw _ (List.getElem_mem h1)
  refine Ev.step (fun k=>Q02.l0.eq_2 _ _ _ _ _ _ _ _) ?_
  have hrd:rd refs (i:Int)=refs[i]:=by unfold rd;simp [h1]
  simp only [if_pos (show (i:Int)<(refs.length:Int) by omega),if_pos (show (0:Int)≤(i:Int) by omega),hrd,Q2u (x:=(i:Int)+1) (by omega) (by omega)]
  refine Ev.bind (Qgn m r p refs[i] hx.1 hx.2 (fun x hx=>by have:=hm x hx;omega)) ?_
  rw [List.drop_eq_getElem_cons h1]
  unfold ptsV arcsOf
  cases hq:arcB m refs[i] with
  | none =>
   simp only [if_neg (show ¬ ((2:Int)=0) by decide)]
   exact Ev.now _
  | some a =>
   obtain ⟨x,hxm,hxl⟩:=Q7s hq
   have hB:=hm x hxm
   simp only [if_true]
   by_cases h0:a.length=0
   ·simp only [if_pos (show ((a.length:Int)=0) by omega),if_pos h0]
    exact Ev.now _
   ·have I:=ih (i+1) (acc++[a]) (by omega) (by rw [List.length_append,List.length_singleton];omega) (by
     intro y hy
     rcases List.mem_append.1 hy with h|h
     ·exact hA y h
     ·rw [List.mem_singleton.1 h];omega)
    simp only [if_neg (show ¬ ((a.length:Int)=0) by omega),if_neg h0,if_pos (show acc.length<5864062014805 by omega)]
    unfold ptsV at I
    cases hz:arcsOf m (refs.drop (i+1)) with
    | none=>rw [hz] at I;simp only [Option.map_none] at I ⊢;exact I
    | some ls=>rw [hz] at I;simp only [Option.map_some,List.append_assoc,List.singleton_append] at I ⊢;exact I
theorem Qbq (m:List (List Pt)) (r p:List (List Int)) (B:Nat) (hb:B<5864062014805) (hm:∀ x∈m,x.length≤B) (refs:List Int) (hr:refs.length≤1000000000000) (hw:∀ x∈refs,-9223372036854775808≤x∧x≤9223372036854775807) (hs:refs.length*B<5864062014805) :
  Ev (fun k=>Q02.f k m r p refs) (ptsV m [] refs):=by
 unfold Q02.f
 exact Qhd m r p B hb hm refs hr hw hs refs.length 0 [] (by omega) rfl (by simp)
theorem Q52 (m:List (List Pt)):∀ (refs:List Int) (L:List (List Pt)),arcsOf m refs=some L→L.length=refs.length∧∀ i (h:i<refs.length) (h':i<L.length),arcB m refs[i]=some L[i]∧0<L[i].length:=by
 intro refs
 induction refs with
 | nil =>
  intro L h
  have e:[]=L:=Option.some.inj h
  subst e
  exact ⟨rfl,fun i h=>by simp at h⟩
 | cons n t ih =>
  intro L h
  unfold arcsOf at h
  cases hq:arcB m n with
  | none=>rw [hq] at h;cases h
  | some a =>
   rw [hq] at h
   simp only at h
   split at h
   ·cases h
   ·obtain ⟨ls,h1,rfl⟩:=Option.map_eq_some_iff.1 h
    obtain ⟨h2,h3⟩:=ih ls h1
    refine ⟨by simp [h2],fun i hi hi' => ?_⟩
    cases i with
    | zero=>exact ⟨hq,by simp only [List.getElem_cons_zero];omega⟩
    | succ i=>exact h3 i (by simpa using hi) (by simpa using hi')

theorem Qgj {a b:Nat} (h:a≤1048576) (h':b≤1048576):a*b<5864062014805:=Nat.lt_of_le_of_lt (Nat.mul_le_mul h h') (by decide)
theorem Qc4 (m:List (List Pt)) (B:Nat) (hm:∀ x∈m,x.length≤B) (refs:List Int) (hs:refs.length*B<5864062014805):(ptsV m [] refs).1.length<5864062014805:=by
 unfold ptsV
 cases hL:arcsOf m refs with
 | none=>show 0<5864062014805;decide
 | some L =>
  obtain ⟨hn,hg⟩:=Q52 m refs L hL
  have h1:=Q6w B L (by
   intro a ha
   obtain ⟨j,hj,rfl⟩:=List.mem_iff_getElem.1 ha
   obtain ⟨x,hx,e⟩:=Q7s (hg j (by omega) hj).1
   have:=hm x hx;omega)
  have h2:=Q7n L
  rw [hn] at h1
  unfold ringV
  simp only [List.nil_append]
  split
  ·split
   ·show (flatL L).length<_;omega
   ·show 0<5864062014805;decide
  ·show 0<5864062014805;decide
theorem rdl3 (m:List (List Int)) (i:Nat) (h:i<m.length):Q06 m (i:Int)=m[i]:=by
 unfold Q06
 simp [h]
theorem Qey (m:List (List Pt)) (r p:List (List Int)) (B:Nat) (hb:B<5864062014805) (hm:∀ x∈m,x.length≤B) (i:Nat) (hi:i<r.length) (hr:r[i].length≤1000000000000) (hw:∀ x∈r[i],-9223372036854775808≤x∧x≤9223372036854775807) (hs:r[i].length*B<5864062014805) :
  Ev (fun k=>Q1u.f k m r p (i:Int)) (ptsV m [] r[i]):=by
 unfold Q1u.f
 simp only [if_neg (show ¬ ((i:Int)<0) by omega),if_neg (show ¬ ((i:Int)≥(r.length:Int)) by omega),if_pos (show 0≤(i:Int) by omega),if_pos (show (i:Int)<(r.length:Int) by omega),rdl3 r i hi]
 exact Ev.bind (Qbq m r p B hb hm r[i] hr hw hs) (Ev.now _)
end Go.Proofs.Ytbonkedecfjmdaa.Gr

namespace Go.Proofs.Ytbonkedecfjmdaa.Pl
set_option linter.unusedVariables false
set_option linter.unusedSimpArgs false
open Go.RowKit Go.Proofs.Ytbonkedecfjmdaa.P Go.Proofs.Ytbonkedecfjmdaa.G Go.Proofs.Ytbonkedecfjmdaa.WL Go.Proofs.YtbonkedecfjmdaaW.PrintWords Go.Proofs.YtbonkedecfjmdaaW.PrintLast Go.Proofs.YtbonkedecfjmdaaW.PrintMore
abbrev Sd:=S109
def pa (a:List Pt) (i:Nat):Pt:=a.getD i z27
theorem Qal (a:List Pt) (i:Nat) (h:i<a.length):pa a i=a[i]:=by simp [pa,List.getD,List.getElem?_eq_getElem h]
theorem Q60 (a:List Pt) (i:Nat):Q0a a (i:Int)=pa a i:=by unfold Q0a pa;rw [Int.toNat_natCast]
theorem Q34 (m:List (List Pt)) (i:Nat) (h:i<m.length):Q0e m (i:Int)=m[i]:=by simp [Q0e,List.getD,List.getElem?_eq_getElem h]
def stepA (a:List Pt) (i:Nat):Bool:=rt (pa a i)&&(decide (i=0) || !Gr.eqP (pa a i) (pa a (i - 1)))
def okArc (a:List Pt):Bool:=decide (2≤a.length)&&(List.range' 0 a.length).all (stepA a)
def arcsV (l:List (List Pt)):Int:=if 2000<l.length∨20000<(l.map List.length).sum then 3 else if l.all okArc then 0 else 2
theorem right_eq (p:Pt):Q4a.f p.f0 p.f1 p.f2=some (rt p):=by
 unfold Q4a.f rt
 by_cases h1:p.f2=0
 ·rw [if_pos h1]
  by_cases h2:p.f0 ≥ -2147483648
  ·rw [if_pos h2]
   by_cases h3:p.f0≤2147483647
   ·rw [if_pos h3]
    by_cases h4:p.f1 ≥ -2147483648
    ·rw [if_pos h4];congr 1;rw [decide_eq_decide];constructor
     ·intro h;exact ⟨h1,h2,h3,h4,h⟩
     ·intro h;exact h.2.2.2.2
    ·rw [if_neg h4];congr 1;symm;exact decide_eq_false (fun h=>h4 h.2.2.2.1)
   ·rw [if_neg h3];congr 1;symm;exact decide_eq_false (fun h=>h3 h.2.2.1)
  ·rw [if_neg h2];congr 1;symm;exact decide_eq_false (fun h=>h2 h.2.1)
 ·rw [if_neg h1];congr 1;symm;exact decide_eq_false (fun h=>h1 h.1)
theorem nxt (i:Nat) (h:i≤100000000):wrap64 ((i:Int)+1)=((i+1:Nat):Int):=by unfold wrap64;omega
theorem prv (i:Nat) (h0:0<i) (h:i≤100000000):wrap64 ((i:Int) - 1)=((i - 1:Nat):Int):=by unfold wrap64;omega
theorem Qgz (m:List (List Pt)) (a:List Pt) (x29 x30:Int) (R:Int) (ha:a.length≤1048576) (next:Ev (fun k=>Q0o.l1 k m x29 (wrap64 (x30+1))) R):∀ (n i:Nat),i+n=a.length →
  Ev (fun k=>Q0o.l2 k a m x29 x30 a (a.length:Int) (i:Int)) (if (List.range' i n).all (stepA a) then R else 2):=by
 intro n
 induction n with
 | zero =>
  intro i hi
  refine Ev.step (f:=fun k=>Q0o.l1 k m x29 (wrap64 (x30+1))) (fun k => ?_) next
  conv=>lhs;unfold Q0o.l2
  rw [if_neg (by omega)]
 | succ n ih =>
  intro i hi
  have hlt:i<a.length:=by omega
  have I:=ih (i+1) (by omega)
  rw [List.range'_succ,List.all_cons]
  have hst:stepA a i=(rt (pa a i)&&(decide (i=0) || !Gr.eqP (pa a i) (pa a (i - 1)))):=rfl
  have unf:∀ k,Q0o.l2 (k+1) a m x29 x30 a (a.length:Int) (i:Int)=if rt (pa a i)=true then (if (i:Int)>0 then (if 0≤((i - 1:Nat):Int) then (if ((i - 1:Nat):Int)<(a.length:Int) then (if Gr.eqP (pa a i) (pa a (i - 1))=true then some 2 else Q0o.l2 k a m x29 x30 a (a.length:Int) ((i+1:Nat):Int)) else none) else none) else Q0o.l2 k a m x29 x30 a (a.length:Int) ((i+1:Nat):Int)) else some 2:=by
   intro k
   conv=>lhs;unfold Q0o.l2
   rw [if_pos (by omega),if_pos (by omega),if_pos (by omega),Q60,right_eq,Option.bind_some,nxt i (by omega)]
   by_cases h0:0<i
   ·rw [prv i h0 (by omega),Q60]
    rfl
   ·by_cases hr:rt (pa a i)=true
    ·rw [if_pos hr,if_pos hr,if_neg (by omega),if_neg (by omega)]
    ·rw [if_neg hr,if_neg hr]
  have yes:stepA a i=true→(∀ k,Q0o.l2 (k+1) a m x29 x30 a (a.length:Int) (i:Int)=Q0o.l2 k a m x29 x30 a (a.length:Int) ((i+1:Nat):Int))→Ev (fun k=>Q0o.l2 k a m x29 x30 a (a.length:Int) (i:Int)) (if (stepA a i&&(List.range' (i+1) n).all (stepA a))=true then R else 2):=fun h hk=>by
   rw [h,Bool.true_and]
   exact Ev.step hk I
  have no:stepA a i=false→(∀ k,Q0o.l2 (k+1) a m x29 x30 a (a.length:Int) (i:Int)=some 2)→Ev (fun k=>Q0o.l2 k a m x29 x30 a (a.length:Int) (i:Int)) (if (stepA a i&&(List.range' (i+1) n).all (stepA a))=true then R else 2):=fun h hk=>by
   rw [h,Bool.false_and]
   exact Ev.step (f:=fun _=>some 2) hk (Ev.now _)
  by_cases hr:rt (pa a i)=true
  ·by_cases h0:0<i
   ·have hd:decide (i=0)=false:=decide_eq_false (by omega)
    by_cases he:Gr.eqP (pa a i) (pa a (i - 1))=true
    ·refine no (by rw [hst,hr,he,hd];rfl) (fun k => ?_)
     rw [unf,if_pos hr,if_pos (by omega),if_pos (by omega),if_pos (by omega),if_pos he]
    ·have he':Gr.eqP (pa a i) (pa a (i - 1))=false:=by simpa using he
     refine yes (by rw [hst,hr,he',hd];rfl) (fun k => ?_)
     rw [unf,if_pos hr,if_pos (by omega),if_pos (by omega),if_pos (by omega),if_neg he]
   ·refine yes (by rw [hst,hr,decide_eq_true (show i=0 by omega)];rfl) (fun k => ?_)
    rw [unf,if_pos hr,if_neg (by omega)]
  ·have hr':rt (pa a i)=false:=by simpa using hr
   refine no (by rw [hst,hr'];rfl) (fun k => ?_)
   rw [unf,if_neg hr]
theorem Qho (m:List (List Pt)) (hm:m.length≤1048576) (hx:∀ a∈m,a.length≤1048576):∀ (n i:Nat),i+n=m.length→Ev (fun k=>Q0o.l1 k m (m.length:Int) (i:Int)) (if (m.drop i).all okArc then 0 else 2):=by
 intro n
 induction n with
 | zero =>
  intro i hi
  rw [List.drop_of_length_le (by omega)]
  exact Ev.step (f:=fun _=>some 0) (fun k=>by conv=>{ lhs;unfold Q0o.l1 };rw [if_neg (by omega)]) (Ev.now _)
 | succ n ih =>
  intro i hi
  have hlt:i<m.length:=by omega
  have I:=ih (i+1) (by omega)
  have ha:=hx _ (List.getElem_mem hlt)
  rw [List.drop_eq_getElem_cons hlt,List.all_cons]
  rw [← nxt i (by omega)] at I
  by_cases h2:(m[i].length:Int)<2
  ·have:okArc m[i]=false:=by unfold okArc;rw [decide_eq_false (by omega)];rfl
   rw [this]
   refine Ev.step (f:=fun _=>some 2) (fun k => ?_) (by simp;exact Ev.now _)
   conv=>lhs;unfold Q0o.l1
   rw [if_pos (by omega),if_pos (by omega),if_pos (by omega),Q34 m i hlt,if_pos h2]
  ·have hk:okArc m[i]=(List.range' 0 m[i].length).all (stepA m[i]):=by unfold okArc;rw [decide_eq_true (by omega)];rfl
   rw [hk]
   refine Ev.step (f:=fun k=>Q0o.l2 k m[i] m (m.length:Int) (i:Int) m[i] (m[i].length:Int) ((0:Nat):Int)) (fun k => ?_) ?_
   ·conv=>lhs;unfold Q0o.l1
    rw [if_pos (by omega),if_pos (by omega),if_pos (by omega),Q34 m i hlt,if_neg h2]
    rfl
   ·have:=Qgz m m[i] (m.length:Int) (i:Int) _ ha I m[i].length 0 (by omega)
    rw [show (if ((List.range' 0 m[i].length).all (stepA m[i])&&(m.drop (i+1)).all okArc)=true then (0:Int) else 2)=(if (List.range' 0 m[i].length).all (stepA m[i])=true then (if (m.drop (i+1)).all okArc=true then (0:Int) else 2) else 2) by
     cases (List.range' 0 m[i].length).all (stepA m[i])<;>rfl]
    exact this
theorem Qe2 (m:List (List Pt)) (hm:m.length≤1048576) (hx:∀ a∈m,a.length≤1048576):∀ (n i:Nat),i+n=m.length→Ev (fun k=>Q0o.l0 k m (((m.take i).map List.length).sum:Int) m (m.length:Int) (i:Int)) (arcsV m):=by
 have sle:∀ (l:List (List Pt)),(∀ a∈l,a.length≤1048576)→(l.map List.length).sum≤l.length*1048576:=by
  intro l
  induction l with
  | nil=>intro _;simp
  | cons a l ih =>
   intro h
   have:=ih (fun x hx=>h x (List.mem_cons_of_mem _ hx))
   have:=h a (List.mem_cons_self ..)
   simp only [List.map_cons,List.sum_cons,List.length_cons,Nat.add_mul]
   omega
 intro n
 induction n with
 | zero =>
  intro i hi
  rw [List.take_of_length_le (by omega)]
  have L1:=Qho m hm hx m.length 0 (by omega)
  rw [List.drop_zero] at L1
  have hj:∀ z:Bool,z=decide (2000<m.length∨20000<(m.map List.length).sum)→Ev (fun k=>Q0o.j1 k m z) (arcsV m):=by
   intro z hz
   unfold arcsV
   by_cases h:2000<m.length∨20000<(m.map List.length).sum
   ·rw [decide_eq_true h] at hz
    subst hz
    rw [if_pos h]
    exact Ev.step (f:=fun _=>some 3) (fun k=>by unfold Q0o.j1;rfl) (Ev.now _)
   ·rw [decide_eq_false h] at hz
    subst hz
    rw [if_neg h]
    exact Ev.step (f:=fun k=>Q0o.l1 k m (m.length:Int) ((0:Nat):Int)) (fun k=>by conv=>{ lhs;unfold Q0o.j1 };rfl) L1
  by_cases h2:(m.length:Int)>2000
  ·refine Ev.step (f:=fun k=>Q0o.j1 k m true) (fun k => ?_) (hj true (by rw [decide_eq_true (Or.inl (by omega))]))
   conv=>lhs;unfold Q0o.l0
   rw [if_neg (by omega),if_pos h2]
  ·refine Ev.step (f:=fun k=>Q0o.j1 k m (decide (((m.map List.length).sum:Int)>20000))) (fun k => ?_) (hj _ ?_)
   ·conv=>lhs;unfold Q0o.l0
    rw [if_neg (by omega),if_neg h2]
   ·rw [decide_eq_decide]
    omega
 | succ n ih =>
  intro i hi
  have hlt:i<m.length:=by omega
  have I:=ih (i+1) (by omega)
  have hs:((m.take (i+1)).map List.length).sum=((m.take i).map List.length).sum+m[i].length:=by
   rw [List.take_add_one,List.getElem?_eq_getElem hlt,List.map_append,List.sum_append]
   rfl
  have hb:=sle (m.take (i+1)) (fun a ha=>hx a (List.mem_of_mem_take ha))
  have hb2:(m.take (i+1)).length≤1048576:=by rw [List.length_take];omega
  have hb3:=Nat.mul_le_mul_right 1048576 hb2
  rw [hs] at I
  refine Ev.step (f:=fun k=>Q0o.l0 k m ((((m.take i).map List.length).sum+m[i].length:Nat):Int) m (m.length:Int) ((i+1:Nat):Int)) (fun k => ?_) I
  conv=>lhs;unfold Q0o.l0
  rw [if_pos (by omega),if_pos (by omega),if_pos (by omega),Q34 m i hlt,nxt i (by omega)]
  congr 1
  unfold wrap64
  omega
theorem Qb6 (m:List (List Pt)) (hm:m.length≤1048576) (hx:∀ a∈m,a.length≤1048576):Ev (fun k=>Q0o.f k m) (arcsV m):=Qe2 m hm hx m.length 0 (by omega)

def sideAt (k:Nat) (a:List Pt) (i:Nat):Sd:=⟨pa a i,pa a (i+1),(k:Int),((i+1:Nat):Int),((i+1:Nat):Int)==1,((i+1:Nat):Int)==(a.length:Int) - 1⟩
def sidesA (k:Nat) (a:List Pt):List Sd:=(List.range' 0 (a.length - 1)).map (sideAt k a)
def sidesV:Nat→List (List Pt)→List Sd
 | _,[]=>[]
 | k,a :: m=>sidesA k a++sidesV (k+1) m
theorem lst (a:List Pt) (h:a.length≤1048576):wrap64 ((a.length:Int) - 1)=(a.length:Int) - 1:=by unfold wrap64;omega
theorem Qdz (m:List (List Pt)) (x9 x10:Int) (k:Nat) (a:List Pt) (R:List Sd) (ha:a.length≤1048576):∀ (n i:Nat) (acc:List Sd),(n=0→a.length≤i+1)→(n≠0→i+n+1=a.length)→acc.length+n≤1200000000000 →
  Ev (fun f=>Q05.l0 f (acc++(List.range' i n).map (sideAt k a)) m x9 (wrap64 (x10+1))) R→Ev (fun f=>Q05.l1 f acc (k:Int) a ((i+1:Nat):Int) m x9 x10) R:=by
 intro n
 induction n with
 | zero =>
  intro i acc h1 h2 hc next
  have:=h1 rfl
  refine Ev.step (fun f => ?_) (by simpa using next)
  conv=>lhs;unfold Q05.l1
  rw [if_neg (by omega)]
 | succ n ih =>
  intro i acc h1 h2 hc next
  have:=h2 (by omega)
  have I:=ih (i+1) (acc++[sideAt k a i]) (fun h=>by omega) (fun h=>by omega) (by rw [List.length_append];show acc.length+1+n≤_;omega) (by rw [List.append_assoc];exact next)
  refine Ev.step (f:=fun f=>Q05.l1 f (acc++[sideAt k a i]) (k:Int) a ((i+1+1:Nat):Int) m x9 x10) (fun f => ?_) I
  conv=>lhs;unfold Q05.l1
  have e0:wrap64 (((i+1:Nat):Int) - 1)=(i:Int):=by unfold wrap64;omega
  rw [if_pos (by omega),e0,if_pos (by omega),if_pos (by omega),if_pos (by omega),if_pos (by omega),Q60,Q60,lst a ha,nxt (i+1) (by omega)]
  rfl
theorem Qde (m:List (List Pt)) (hm:m.length≤1048576) (hx:∀ a∈m,a.length≤1048576):∀ (n i:Nat) (acc:List Sd),i+n=m.length→acc.length≤i*1048576→Ev (fun f=>Q05.l0 f acc m (m.length:Int) (i:Int)) (acc++sidesV i (m.drop i)):=by
 intro n
 induction n with
 | zero =>
  intro i acc hi _
  rw [List.drop_of_length_le (by omega)]
  refine Ev.step (f:=fun _=>some acc) (fun f => ?_) (by simp [sidesV];exact Ev.now _)
  conv=>lhs;unfold Q05.l0
  rw [if_neg (by omega)]
 | succ n ih =>
  intro i acc hi hac
  have hlt:i<m.length:=by omega
  have ha:=hx _ (List.getElem_mem hlt)
  have hl:(acc++sidesA i m[i]).length≤(i+1)*1048576:=by
   rw [List.length_append]
   unfold sidesA
   rw [List.length_map,List.length_range']
   omega
  have I:=ih (i+1) (acc++sidesA i m[i]) (by omega) hl
  rw [List.drop_eq_getElem_cons hlt,sidesV,← List.append_assoc]
  rw [← nxt i (by omega)] at I
  refine Ev.step (f:=fun f=>Q05.l1 f acc (i:Int) m[i] ((0+1:Nat):Int) m (m.length:Int) (i:Int)) (fun f => ?_) ?_
  ·conv=>lhs;unfold Q05.l0
   rw [if_pos (by omega),if_pos (by omega),if_pos (by omega),Q34 m i hlt]
   rfl
  ·exact Qdz m _ _ i m[i] _ ha (m[i].length - 1) 0 acc (fun h=>by omega) (fun h=>by omega) (by omega) I
theorem Qeg (m:List (List Pt)) (r p:List (List Int)) (hm:m.length≤1048576) (hx:∀ a∈m,a.length≤1048576):Ev (fun f=>Q05.f f m r p) (sidesV 0 m):=by
 have:=Qde m hm hx m.length 0 [] (by omega) (Nat.zero_le _)
 rwa [List.nil_append,List.drop_zero] at this
theorem Qa3 (p q:Pt):Gr.eqP p q=true↔p=q:=by
 obtain ⟨p0,p1,p2⟩:=p
 obtain ⟨q0,q1,q2⟩:=q
 unfold Gr.eqP
 simp only [Bool.and_eq_true,beq_iff_eq,S27.mk.injEq]
def endsOn (a b c d:Pt):List Pt:=[a,b,c,d].filter (fun x=>both x a b c d)
def meetC (a b c d:Pt):Int:=if (rt a&&(rt b&&(rt c&&rt d)))=true then
  (if (endsOn a b c d).any (fun x=>(endsOn a b c d).any (fun y => !Gr.eqP x y))=true then 3 else if (endsOn a b c d).isEmpty=false then 1 else if decide (side a b c*side a b d<0)&&decide (side c d a*side c d b<0) then 2 else 0)
 else 0
theorem Q5u (a b c d:Pt):meetC a b c d=meetV a b c d:=by
 unfold meetC meetV meetM crsV
 have h2:(endsOn a b c d).any (fun x=>(endsOn a b c d).any (fun y => !Gr.eqP x y))=true↔G.two_ a b c d:=by
  unfold G.two_ endsOn
  simp only [List.any_eq_true,List.mem_filter,Bool.not_eq_true']
  constructor
  ·rintro ⟨x,⟨hx,hbx⟩,y,⟨hy,hby⟩,hne⟩
   exact ⟨x,y,hx,hy,hbx,hby,fun e=>by rw [(Qa3 x y).2 e] at hne;cases hne⟩
  ·rintro ⟨x,y,hx,hy,hbx,hby,hne⟩
   exact ⟨x,⟨hx,hbx⟩,y,⟨hy,hby⟩,by cases h:Gr.eqP x y with|false=>rfl|true=>exact absurd ((Qa3 x y).1 h) hne⟩
 have h1:(endsOn a b c d).isEmpty=false↔G.one_ a b c d:=by
  unfold G.one_ endsOn
  rw [List.isEmpty_eq_false_iff_exists_mem]
  simp only [List.mem_filter]
 have h0:(decide (side a b c*side a b d<0)&&decide (side c d a*side c d b<0))=true↔crs a b c d:=by
  unfold crs
  rw [Bool.and_eq_true,decide_eq_true_eq,decide_eq_true_eq]
 by_cases hr:(rt a&&(rt b&&(rt c&&rt d)))=true
 ·rw [if_pos hr,if_pos hr]
  by_cases c2:G.two_ a b c d
  ·rw [if_pos (h2.2 c2),if_pos c2]
  ·rw [if_neg (fun h=>c2 (h2.1 h)),if_neg c2]
   by_cases c1:G.one_ a b c d
   ·rw [if_pos (h1.2 c1),if_pos c1]
   ·rw [if_neg (fun h=>c1 (h1.1 h)),if_neg c1]
    by_cases c0:crs a b c d
    ·rw [if_pos (h0.2 c0),if_pos c0]
    ·rw [if_neg (fun h=>c0 (h0.1 h)),if_neg c0]
 ·rw [if_neg hr,if_neg hr]
def endV (s:Sd) (p:Pt):Bool:=(s.f4&&Gr.eqP p s.f0) || (s.f5&&Gr.eqP p s.f1)
def pk (s t:Sd) (p x:Pt):Pt:=if both p s.f0 s.f1 t.f0 t.f1=true then p else x
def pickV (s t:Sd):Pt:=pk s t (pk s t (pk s t s.f0 s.f1) t.f0) t.f1
def finV (s t:Sd) (p:Pt):Bool:=(s.f2==t.f2&&(s.f3+1==t.f3&&Gr.eqP p s.f1)) || (endV s p&&endV t p)
def mayV (s t:Sd):Bool:=if meetC s.f0 s.f1 t.f0 t.f1=1 then finV s t (pickV s t) else meetC s.f0 s.f1 t.f0 t.f1==0
theorem Qg9 (s:Sd) (p:Pt):Q32.f s.f0.f0 s.f0.f1 s.f0.f2 s.f1.f0 s.f1.f1 s.f1.f2 s.f2 s.f3 s.f4 s.f5 p.f0 p.f1 p.f2=some (endV s p):=by
 unfold Q32.f endV Gr.eqP
 cases s.f4 with
 | true =>
  simp only [if_true,Bool.true_and]
  by_cases h:(p.f0==s.f0.f0&&(p.f1==s.f0.f1&&p.f2==s.f0.f2))=true
  ·rw [if_pos h,h,Bool.true_or]
  ·rw [if_neg h,Bool.eq_false_iff.2 h,Bool.false_or]
   cases s.f5<;>rfl
 | false =>
  simp only [Bool.false_eq_true,if_false,Bool.false_and,Bool.false_or]
  cases s.f5<;>rfl
end Go.Proofs.Ytbonkedecfjmdaa.Pl
