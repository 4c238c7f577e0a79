/- Written for this claim by a program of this session (a turned copy of the print): Go functions as Lean functions, and that the Go code comes to just these answers; or a statement proved out of them. No condition. Wide numbers: what the document's own functions answer, for any digits. Points of the plane: what the document's functions answer. Two segments: what the document's function answers. -/
import Derived.Test.YtbonkedecfjmdaaZ2
import Derived.Test.YtbonkedecfjmdaaZ3
import Derived.Test.YtbonkedecfjmdaaZ7
import Derived.Test.YtbonkedecfjmdaaZ5
import Derived.Test.YtbonkedecfjmdaaZ14
import Derived.Test.YtbonkedecfjmdaaZ8
import Derived.Test.YtbonkedecfjmdaaZ15
import Derived.Test.YtbonkedecfjmdaaZ22

namespace Go.Proofs.Ytbonkedecfjmdaa.P
open Go.RowKit Go.Proofs.YtbonkedecfjmdaaW.PrintWords Go.Proofs.YtbonkedecfjmdaaW.PrintLast Go.Proofs.YtbonkedecfjmdaaW.PrintMore Go.Proofs.Ytbonkedecfjmdaa.X
attribute [local go_sem] Q2a Q2b Q2s Q2q Q1z Q1y Q19 Q2c Q2r Q2p add64
set_option linter.unusedVariables false
set_option linter.unusedSimpArgs false
def Q17.l0:Nat→Int→List Int→Int→List Int→Option (List Int)
 | 0,_,_,_,_=>none
 | k+1,x1,x6,x7,x697000=>if x7<4 then (if x6.length<17592186044416 then (Q17.l0 k (IntKind.u64.wrap (Int.tdiv x1 65536)) (x6++[wrap64 (Int.tmod x1 65536)]) (wrap64 (x7+1)) x697000) else (none)) else (if 4≤(x697000.length:Int) then ((some (x697000.take 4:List Int)).bind fun dA=>(if x6.length+dA.length<17592186044416 then (some (x6++dA)) else (none))) else (none))
def Q17.f (k:Nat) (a0:Int) (a1:Int):Option (List Int):=(Q1o.f k a0).bind fun bA=>(Q17.l0 k a1 ([]:List Int) 0 bA)
theorem Q17.Q1a:∀ k,(∀ y0 y1 y2 y3,LeO (Q17.l0 k y0 y1 y2 y3) (Q17.l0 (k+1) y0 y1 y2 y3))
 | 0=>fun _ _ _ _ r h=>by simp [Q17.l0] at h
 | k+1=>by
  have yB:=Q17.Q1a k
  ·intro y0 y1 y2 y3
   unfold Q17.l0
   repeat' with_reducible first|exact yB _ _ _ _|exact Q1o.mono _ _|exact LeO.refl _|exact LeO.none _|refine LeO.ite ?_ ?_|refine LeO.bind ?_ (fun _ => ?_)
theorem Q17.mono:∀ a0 a1 k,LeO (Q17.f k a0 a1) (Q17.f (k+1) a0 a1):=by
 intro a0 a1 k
 have yB:=Q17.Q1a k
 unfold Q17.f
 repeat' with_reducible first|exact yB _ _ _ _|exact Q1o.mono _ _|exact LeO.refl _|exact LeO.none _|refine LeO.ite ?_ ?_|refine LeO.bind ?_ (fun _ => ?_)
set_option maxHeartbeats 8000000 in
set_option maxRecDepth 100000 in
theorem Q17.calls (k:Nat) (a0:Int) (a1:Int) (r:List Int) (w:World) (h:Q17.f k a0 a1=some r) :
  Calls Try.prog 50 #[.int .i64 a0,.int .u64 a1] w fun e w'=>∃ v0_:Value,e=.returned (.agg #[v0_])∧Kd.R (Kd.int .i64) 3 w' w.heap.size (fun _=>True) v0_ r∧Below w.heap.size w w':=by
 have nC:=Try.underlying43
 have HB:=AM (Below.refl w.heap.size w)
 have H:((Q1o.f k a0).bind fun bA=>(Q17.l0 k a1 ([]:List Int) 0 bA))=some r:=h
 clear h
 obtain ⟨bA,A3,H⟩:=bS H
 have H':=AM H
 clear H
 go_enter Try.func50,Try.ntmps50
 go_wp2_with (first|((with_reducible refine Q0i (N:=4) rfl ?_);refine bE 4 #[.slice none 0 0] 43 ?_;intro hA hg w4 hbox hb;have aA:=AM hbox;have eB:=kG HB hg;replace HB:=kH HB hb;have cC:=eB;clear hb hbox hg)|((with_reducible refine Q0n (f:=18) rfl ?_);refine gL (some 9) Try.func18 #[.int .i64 a0] ?_;(with_reducible refine (Q1o.calls k a0 bA _ A3.out).mono ?_);rintro e w5 ⟨oC,rfl,dC,hb⟩;refine ⟨_,rfl,?_⟩;have mA:=AM (Kd.Q1b dC (Q0h (bH HB)));replace aA:=kB aA hb;replace HB:=kH HB hb;clear hb dC)|((with_reducible refine Q0i (N:=5) rfl ?_);refine bE 5 #[.slice none 0 0] 43 ?_;intro nA hg w6 hbox hb;replace mA:=kR mA hb;have cA:=AM hbox;have fB:=kG HB hg;replace HB:=kH HB hb;have eC:=fB;have fA:=kN aA hg;have gA:=kM aA hg;replace aA:=kB aA hb;clear hb hbox hg;obtain ⟨pA,qA,pC⟩:=Kd.Q01 mA.out;subst pC;have qC:=gA.out;have rC:=fA.out;obtain ⟨xA,yA⟩:=c1 cA))
 go_loopg [1,6,7] k (fun kq v1 v6 v7 w'=>∃ (iA:Int) (eA:List Int) (rA:Int),v1=.int .u64 iA∧v7=.int .i64 rA∧Aside0 (Q17.l0 kq iA eA rA bA=some r)∧Aside0 (kq≤k)∧Aside0 (Kd.R (Kd.int .i64) 3 w' w.heap.size (fun k_=>some k_≠((.slice pA bA.length qA):Value).ownBlock) v6 eA)∧Aside0 (Kd.R (Kd.int .i64) 3 w' w.heap.size (fun k_=>some k_≠(v6:Value).ownBlock) (.slice pA bA.length qA) bA)∧Aside0 (w'.heap[hA]? = some (.cells #[(.slice none 0 0)] 43 (0,0)))∧Aside0 (w'.heap[nA]? = some (.cells #[(.slice pA bA.length qA)] 43 (0,0)))∧Aside0 (Below w.heap.size w w'))
 case atStart=>exact ⟨(a1),(([]:List Int)),(0),rS,rS,H',⟨Nat.le_refl _⟩,⟨by first|exact Kd.Q3k _ _ _ _ _|exact Kd.Q3t _ _ _ _ _|exact Kd.Q3x _ _ _ _ _|exact Kd.Q3v _ _ _ _ _|exact Kd.Q3y _ _ _ _ _⟩,⟨by (with_reducible repeat (first|apply Kd.Q10|apply Kd.Q11|apply Kd.Q2h));exact Kd.Q1q (Kd.Q3p (p:=⟨nA,0,none⟩) (Kd.Q2y mA.out cA.out (by decide)) (fun _ hk=>hk.2) (.slice pA bA.length qA)) (fun _ hk=>(by simp [Value.ownBlock]))⟩,⟨bK aA⟩,⟨by (with_reducible repeat (first|refine Q0c ?_ _|refine Q0d ?_|refine Q0b ?_ _));refine Q0u (cs:=#[.slice none 0 0]) ?_ 0 _ rfl;(with_reducible repeat (first|refine Q0c ?_ _|refine Q0d ?_|refine Q0b ?_ _));exact cA.out⟩,⟨ bH HB⟩⟩
 case round =>
  clear H'
  clear xA yA
  obtain ⟨iA,eA,rA,rfl,rfl,HA,fC,HO_6,HO_697000,aA,cA,HB⟩:=hrel
  cases gk with
  | zero=>exact absurd HA.out (by simp [Q17.l0])
  | succ k1 =>
   have H:=HA.out;clear HA
   simp only [Q17.l0] at H
   apply iC H<;>clear H<;>intro gC H
   ·by_cases sB:eA.length<17592186044416
    ·rw [if_pos sB] at H
     have gB:=AM sB
     clear sB
     obtain ⟨hB,jA⟩:∃ y_:List Int,y_=(eA++[wrap64 (Int.tmod iA 65536)]):=⟨_,rfl⟩
     replace H:(Q17.l0 k1 (IntKind.u64.wrap (Int.tdiv iA 65536)) hB (wrap64 (rA+1)) bA)=some r:=by first|(rw [jA];with_reducible exact H)|(have sA:=(Option.bind_some _ _).symm.trans H;rw [jA];with_reducible exact sA)|(have sA:=(Option.bind_some _ _).symm.trans H;with_reducible exact sA)|with_reducible exact H|(rw [jA];exact H)|exact H
     have iB:=AM jA
     clear jA
     have H':=AM H
     clear H
     go_wp2_with (first|((with_reducible refine Q1v (b:=.append) (xs:=#[.tmp 14,.tmp 18]) rfl ?_);at_builtin;refine Kd.Q3j (Kd.int .i64) (w0:=w) w.heap.size rfl (.tmp 14) (.tmp 18) 32 3 (.int .i64 0) 8 rfl Try.underlying32 info3 rfl (by decide) (by omega) u6 eA (wrap64 (Int.tmod iA 65536)) [.int .i64 (wrap64 (Int.tmod iA 65536))] (fun k_=>some k_≠(.slice pA bA.length qA:Value).ownBlock) (fun _=>False) rfl rfl ?aP (fun _ hk=>hk.elim) ?aF ?aO ?aB ?aS ?aL ?_;(case aP=>exact rfl);(case aB=>exact (bH HB));(case aF=>exact (fun k_ hk=>Kd.fresh' (Kd.R_lt (rK HO_697000)) k_ hk));(case aO=>exact (rK HO_6));(case aS=>exact (Q0h (bH HB)));(case aL=>have:=gB.out;omega);intro sC xC ho hb hg hat;rw [← iB.out] at ho;replace HO_697000:=AM (Kd.Q3w (ok:=(fun _=>True)) (by (with_reducible repeat (first|apply Kd.Q10|apply Kd.Q11|apply Kd.Q2h));exact Kd.Q1q HO_697000.out (fun _ hk=>⟨trivial,hk⟩)) hg hat);replace aA:=AM (Q1w (g:=hA) (o:=.cells #[.slice none 0 0] 43 (0,0)) (bK aA) hg (Kd.R_ne HO_6.out aA.out (by decide)));replace cA:=AM (Q1w (g:=nA) (o:=.cells #[.slice pA bA.length qA] 43 (0,0)) (bK cA) hg (Kd.R_ne HO_6.out cA.out (by decide)));replace HB:=AM hb;have jB:=AM ho;clear HO_6;clear ho hb hg hat))
     go_roundg k1
     case measure=>have:=fC.out;omega
     case rel=>exact ⟨(IntKind.u64.wrap (Int.tdiv iA 65536)),(hB),(wrap64 (rA+1)),rS,rS,H',⟨by have:=fC.out;omega⟩,⟨rK jB⟩,⟨by (with_reducible repeat (first|apply Kd.Q10|apply Kd.Q11|apply Kd.Q2h));exact Kd.Q1q HO_697000.out (fun _ hk=>hk.2)⟩,⟨bK aA⟩,⟨bK cA⟩,⟨ bH HB⟩⟩
    ·rw [if_neg sB] at H
     exact absurd H (by simp)
   ·by_cases lB:4≤(bA.length:Int)
    ·rw [if_pos lB] at H
     have hC:=eq_true lB;have jC:=decide_eq_true lB;clear lB
     obtain ⟨dA,kA⟩:∃ y_:List Int,y_=(bA.take 4):=⟨_,rfl⟩
     replace H:(if eA.length+dA.length<17592186044416 then (some (eA++dA)) else (none))=some r:=by first|(rw [kA];with_reducible exact H)|(have sA:=(Option.bind_some _ _).symm.trans H;rw [kA];with_reducible exact sA)|(have sA:=(Option.bind_some _ _).symm.trans H;with_reducible exact sA)|with_reducible exact H|(rw [kA];exact H)|exact H
     have tA:=AM kA
     clear kA
     by_cases tB:eA.length+dA.length<17592186044416
     ·rw [if_pos tB] at H
      have mB:=AM tB
      clear tB
      obtain ⟨zA,lA⟩:∃ y_:List Int,y_=(eA++dA):=⟨_,rfl⟩
      replace H:(some zA)=some r:=by first|(rw [lA];with_reducible exact H)|(have sA:=(Option.bind_some _ _).symm.trans H;rw [lA];with_reducible exact sA)|(have sA:=(Option.bind_some _ _).symm.trans H;with_reducible exact sA)|with_reducible exact H|(rw [lA];exact H)|exact H
      have nB:=AM lA
      clear lA
      obtain rfl:=Option.some.inj H
      have kC:=gA.out;have lC:=fA.out;obtain ⟨uB,vB⟩:=c1 cA
      have zB:(4:Int)≤((bA.length:Int):Int):=pD
      obtain ⟨tC,vA,_,oB,_⟩:=info_parts info3
      have oA:bA.length≤qA:=(Kd.Q0w HO_697000.out).2.1
      have pB:Kd.C (Kd.int .i64) _ pA bA.length bA:=(Kd.Q0w HO_697000.out).2.2
      have bB:=Qb0 (P:=Try.prog) 32 3 .i64 Try.underlying32 vA pA bA.length qA 4 (by omega) zB oA
      have cB:=Kd.Q8t (m:=4) pB (by omega)
      have dB:dA.length=(4:Int).toNat:=(by rw [tA.out,List.length_take];omega)
      rw [← tA.out] at cB
      rw [← dB] at bB
      have uA:=AM cB
      have mC:=AM (show dA.length≤qA from by omega)
      clear cB pB oA vA oB
      have uC:=AM dB
      clear dB
      have aC:=AM (show 4≤bA.length from by omega)
      replace zB:=eq_true zB
      go_wp2_with (first|((with_reducible refine Q1v (b:=.append) (xs:=#[.tmp 22,.tmp 25]) rfl ?_);at_builtin;refine Kd.Q3h (Kd.int .i64) (w0:=w) w.heap.size rfl (.tmp 22) (.tmp 25) 32 3 (.int .i64 0) 8 rfl Try.underlying32 info3 rfl (by decide) (by omega) u6 eA dA _ _ _ (fun k_=>some k_≠(.slice pA bA.length qA:Value).ownBlock) (fun _=>False) rfl rfl ?aO ?aR (fun _ _ h=>h) (fun _ h=>h.elim) ?aF ?aB ?aS ?aL ?_;(case aR=>repeat (first|exact (by repeat (first|(with_reducible exact uA.out)|(with_reducible refine Kd.Q3m ?_ _)|(with_reducible refine Kd.Q3n ?_ _)|(with_reducible refine Kd.Q33 ?_)|exact uA.out))|(with_reducible refine Kd.Q3m ?_ _)|(with_reducible refine Kd.Q3n ?_ _)|(with_reducible refine Kd.Q33 ?_)));(case aB=>exact (bH HB));(case aF=>exact (fun k_ hk=>Kd.fresh' (Kd.R_lt (rK HO_697000)) k_ hk));(case aO=>exact (rK HO_6));(case aS=>exact (Q0h (bH HB)));(case aL=>have:=mB.out;omega);intro vC wC ho hb hg hat;rw [← nB.out] at ho;replace aA:=AM (Q1w (g:=hA) (o:=.cells #[.slice none 0 0] 43 (0,0)) (bK aA) hg (Kd.R_ne HO_6.out aA.out (by decide)));replace cA:=AM (Q1w (g:=nA) (o:=.cells #[.slice pA bA.length qA] 43 (0,0)) (bK cA) hg (Kd.R_ne HO_6.out cA.out (by decide)));replace HB:=AM hb;replace uA:=AM (show Kd.C (Kd.int .i64) wC pA dA.length dA from by rw [tA.out];exact Kd.Q8t (m:=4) ((Kd.Q0w (Kd.Q3w (ok:=(fun _=>True)) (by (with_reducible repeat (first|apply Kd.Q10|apply Kd.Q11|apply Kd.Q2h));exact Kd.Q1q HO_697000.out (fun _ hk=>⟨trivial,hk⟩)) hg hat)).2.2) aC.out);replace HO_697000:=AM (Kd.Q3w (ok:=(fun _=>True)) (by (with_reducible repeat (first|apply Kd.Q10|apply Kd.Q11|apply Kd.Q2h));exact Kd.Q1q HO_697000.out (fun _ hk=>⟨trivial,hk⟩)) hg hat);have wA:=AM ho;clear HO_6;clear ho hb hg hat;obtain ⟨qB,rB,bC⟩:=Kd.Q01 wA.out;subst bC;obtain ⟨wB,xB⟩:=c1 aA))
      refine bodyPost_ret (results_cell_row rfl _ _ hA 43 #[.slice qB zA.length rB] (0,0) _ rfl (by (with_reducible repeat (first|refine Q0c ?_ _|refine Q0d ?_|refine Q0b ?_ _));refine Q0u (cs:=#[.slice none 0 0]) ?_ 0 _ rfl;(with_reducible repeat (first|refine Q0c ?_ _|refine Q0d ?_|refine Q0b ?_ _));exact aA.out) Try.underlying43 rfl (by kernel_rfl)) rfl ?_
      exact ⟨_,rE,by (with_reducible repeat (first|apply Kd.Q10|apply Kd.Q11|apply Kd.Q2h));exact Kd.Q1q (Kd.Q3p (p:=⟨hA,0,none⟩) (Kd.Q2y wA.out aA.out (by decide)) (fun _ hk=>hk.2) (.slice qB zA.length rB)) (fun _ hk=>trivial),bH HB⟩
     ·rw [if_neg tB] at H
      exact absurd H (by simp)
    ·rw [if_neg lB] at H
     exact absurd H (by simp)

def Q31.f (k:Nat) (bA:List Int) (a1:Int) (a2:Int):Option (Bool):=(Q17.f k a1 a2).bind fun dA=>((Q1i.f k bA dA).bind fun eA=>(some (eA==0)))
theorem Q31.mono:∀ a0 a1 a2 k,LeO (Q31.f k a0 a1 a2) (Q31.f (k+1) a0 a1 a2):=by
 intro a0 a1 a2 k
 unfold Q31.f
 repeat' with_reducible first|exact Q1i.mono _ _ _|exact Q17.mono _ _ _|exact LeO.refl _|exact LeO.none _|refine LeO.ite ?_ ?_|refine LeO.bind ?_ (fun _ => ?_)
set_option maxHeartbeats 8000000 in
set_option maxRecDepth 100000 in
theorem Q31.calls (k:Nat) (fA:Option Addr) (gA:Nat) (bA:List Int) (a1:Int) (a2:Int) (r:Bool) (w:World) (hA:Kd.C (Kd.int .i64) w fA bA.length bA) (iA:bA.length≤gA) (h:Q31.f k bA a1 a2=some r) :
  Calls Try.prog 21 #[.agg #[.slice fA bA.length gA],.int .i64 a1,.int .u64 a2] w fun e w'=>e=.returned (.bool r)∧Below w.heap.size w w':=by
 have sA:=Try.underlying43
 have jA:=AM hA
 have kA:=AM iA
 clear hA iA
 have HB:=AM (Below.refl w.heap.size w)
 have H:((Q17.f k a1 a2).bind fun dA=>((Q1i.f k bA dA).bind fun eA=>(some (eA==0))))=some r:=h
 clear h
 obtain ⟨dA,A4,H⟩:=bS H
 obtain ⟨eA,A5,H⟩:=bS H
 obtain rfl:=Option.some.inj H
 go_enter Try.func21,Try.ntmps21
 try go_wp2_with (first|((with_reducible refine Q0i (N:=3) rfl ?_);refine bE 3 #[.slice fA bA.length gA] 43 ?_;intro lA hg w6 hbox hb;have aA:=AM hbox;have mA:=kG HB hg;replace HB:=kH HB hb;have nA:=mA;clear hb hbox hg))
 replace aA:=dB aA;replace HB:=dH HB
 refine sP 7 (S:=fun w'=>w'.cell? ⟨lA,0,none⟩=some (.slice fA bA.length gA)) (ds:=[]) (bC aA) fun hHeld => ?_
 generalize w6.drew=w7 at aA HB hHeld ⊢
 refine pP 1 (some 8) ?_;refine pP 2 (some 9) ?_;refine tP 0 (some 7) hHeld ?_
 refine oP 3 (some 10) rfl fun K hK => ?_
 refine gO Try.func50 #[.int .i64 a1,.int .u64 a2] ?_
 with_reducible refine (Q17.calls k a1 a2 dA _ A4.out).mono ?_
 rintro e w8 ⟨tA,rfl,oA,hb⟩
 refine ⟨_,rfl,?_⟩
 have cA:=AM (Kd.Q1b oA (Q0h (bH HB)))
 replace aA:=kB aA hb;replace HB:=kH HB hb;clear hb oA
 obtain ⟨uA,vA,pA⟩:=Kd.Q01 cA.out
 (first|subst pA|(injection pA with qA wA rA;have xA:=qA.symm;have yA:=rA.symm;clear qA wA rA;subst xA;subst yA))
 refine hK.out _ _ (bC aA) (fun hHeld => ?_)
 clear hK K;refine nP (some 10) ?_
 refine oP 4 (some 11) rfl fun K hK => ?_
 refine gO Try.func49 #[.agg #[.slice fA bA.length gA],.agg #[.slice uA dA.length vA]] ?_
 with_reducible refine (Q1i.calls k _ _ bA _ _ dA eA _ ?side1 ?side2 ?side3 ?side4 A5.out).mono ?_
 (case side1=>exact sC jA HB)
 (case side2=>exact kA.out)
 (case side3=>exact sR cA)
 (case side4=>exact (Kd.Q0w cA.out).2.1)
 rintro e zA ⟨rfl,hb⟩
 refine ⟨_,rfl,?_⟩
 replace cA:=kR cA hb;replace aA:=kB aA hb;replace HB:=kH HB hb;clear hb
 refine hK.out _ _ (bC aA) (fun hHeld => ?_)
 clear hK K;refine nP (some 11) ?_;refine pP 5 (some 12) ?_;refine pP 6 (some 6) ?_
 refine done_ (by kernel_rfl) ?_
 try go_wp2
 go_ret
 exact ⟨rE,bH HB⟩
end Go.Proofs.Ytbonkedecfjmdaa.P

namespace Go.Proofs.Ytbonkedecfjmdaa.WL
set_option linter.unusedVariables false
set_option linter.unusedSimpArgs false
open Go.RowKit Go.Proofs.Ytbonkedecfjmdaa.P Go.Proofs.Ytbonkedecfjmdaa.X Go.Proofs.YtbonkedecfjmdaaW.PrintWords Go.Proofs.YtbonkedecfjmdaaW.PrintLast Go.Proofs.YtbonkedecfjmdaaW.PrintMore
theorem Qic:∀ (n k:Nat) (x:Int) (acc:List Int) (i:Int),i=8 - (n:Int)→0≤i→n<k→acc.length≤8 - n → -9223372036854775808≤x→x≤9223372036854775807 →
  Q1o.l0 k x acc i=some (acc++digs n x):=by
 intro n
 induction n with
 | zero =>
  intro k x acc i hi _ hk _ _ _
  obtain ⟨k,rfl⟩:∃ m,k=m+1:=⟨k - 1,by omega⟩
  simp only [Q1o.l0];rw [if_neg (by omega)];simp [digs]
 | succ n ih =>
  intro k x acc i hi h0 hk hl h1 h2
  obtain ⟨k,rfl⟩:∃ m,k=m+1:=⟨k - 1,by omega⟩
  have hw:wrap64 (i+1)=i+1:=by unfold wrap64;omega
  have key:Q1o.l0 k (x / 65536) (acc++[x % 65536]) (i+1)=some (acc++digs (n+1) x):=by
   rw [ih k (x / 65536) (acc++[x % 65536]) (i+1) (by omega) (by omega) (by omega) (by simp;omega) (by omega) (by omega)]
   simp [digs]
  simp only [Q1o.l0];rw [if_pos (by omega)]
  have ht:=tmod65536 x
  by_cases hs:Int.tmod x 65536<0
  ·rw [if_pos hs,if_pos (by omega)]
   have e1:Int.tmod x 65536+65536=x % 65536:=by split at ht<;>omega
   rw [e1,Q2u (x:=x % 65536) (by omega) (by omega),Q2u (x:=x - x % 65536) (by omega) (by omega),show x - x % 65536=65536*(x / 65536) by omega,Qbs,Q2u (x:=x / 65536) (by omega) (by omega),hw]
   exact key
  ·rw [if_neg hs,if_pos (by omega)]
   have e1:Int.tmod x 65536=x % 65536:=by split at ht<;>omega
   rw [e1,Q2u (x:=x - x % 65536) (by omega) (by omega),show x - x % 65536=65536*(x / 65536) by omega,Qbs,Q2u (x:=x / 65536) (by omega) (by omega),hw]
   exact key
theorem Qam {x:Int} (h1 : -9223372036854775808≤x) (h2:x≤9223372036854775807):Ev (fun k=>Q1o.f k x) (dig x) :=
 ⟨9,fun k hk=>by show Q1o.f k x=_;unfold Q1o.f;rw [Qic 8 k x [] 0 rfl (by omega) (by omega) (by simp) h1 h2];rfl⟩
theorem Qf3:∀ (n k:Nat) (x:Int) (acc:List Int) (i:Int) (h:List Int),i=4 - (n:Int)→0≤i→n<k→acc.length≤4 - n→0≤x→x<18446744073709551616→h.length=8 →
  Q17.l0 k x acc i h=some (acc++digs n x++h.take 4):=by
 intro n
 induction n with
 | zero =>
  intro k x acc i h hi _ hk _ _ _ hh
  obtain ⟨k,rfl⟩:∃ m,k=m+1:=⟨k - 1,by omega⟩
  simp only [Q17.l0];rw [if_neg (by omega),if_pos (by omega)]
  simp only [Option.bind_some]
  rw [if_pos (by simp;omega)];simp [digs]
 | succ n ih =>
  intro k x acc i h hi h0 hk hl h1 h2 hh
  obtain ⟨k,rfl⟩:∃ m,k=m+1:=⟨k - 1,by omega⟩
  have hw:wrap64 (i+1)=i+1:=by unfold wrap64;omega
  simp only [Q17.l0];rw [if_pos (by omega),if_pos (by omega),Qcx h1,Q7x h1,u64w,hw,Q2u (by omega) (by omega),show x / 65536 % 18446744073709551616=x / 65536 by omega]
  rw [ih k (x / 65536) _ (i+1) h (by omega) (by omega) (by omega) (by simp;omega) (by omega) (by omega) hh]
  simp [digs]
theorem Qfa {hi lo:Int} (h1 : -9223372036854775808≤hi) (h2:hi≤9223372036854775807) (h3:0≤lo) (h4:lo<18446744073709551616) :
  Ev (fun k=>Q17.f k hi lo) (dig (hi*18446744073709551616+lo)):=by
 unfold Q17.f
 refine Ev.bind (f:=fun n a=>Q17.l0 n lo ([]:List Int) 0 a) (Qam h1 h2) ⟨5,fun k hk => ?_⟩
 show Q17.l0 k lo [] 0 _=_
 rw [Qf3 4 k lo [] 0 _ rfl (by omega) (by omega) (by simp) h3 h4 (Q3o _ _)]
 rw [List.nil_append,Qf9 hi lo h3 h4]
theorem Qas:∀ (n k:Nat) (d acc:List Int) (c i:Int),d.length=8→i=8 - (n:Int)→0≤i→n<k→acc.length≤8 - n→0≤c→c≤1000000000000000→(∀ x∈d,0≤x∧x≤9000000000000000000) →
  Q09.l0 k d acc c i=some (acc++digs n (c+hor (d.drop i.toNat))):=by
 intro n
 induction n with
 | zero =>
  intro k d acc c i hd hi _ hk _ _ _ _
  obtain ⟨k,rfl⟩:∃ m,k=m+1:=⟨k - 1,by omega⟩
  simp only [Q09.l0];rw [if_neg (by omega)];simp [digs]
 | succ n ih =>
  intro k d acc c i hd hi h0 hk hl hc hc' hr
  obtain ⟨k,rfl⟩:∃ m,k=m+1:=⟨k - 1,by omega⟩
  have hw:wrap64 (i+1)=i+1:=by unfold wrap64;omega
  have hlt:i.toNat<d.length:=by omega
  have hx:=hr d[i.toNat] (List.getElem_mem hlt)
  have hrd:rd d i=d[i.toNat]:=by unfold rd;rw [List.getD_eq_getElem?_getD,List.getElem?_eq_getElem hlt];rfl
  simp only [Q09.l0];rw [if_pos (by omega),if_pos (by omega),if_pos (by omega),if_pos (by omega),hrd]
  generalize hX:d[i.toNat]=X at *
  rw [Q2u (x:=c+X) (by omega) (by omega),Q7x (by omega),Qcx (by omega),Q2u (by omega) (by omega),hw]
  rw [ih k d _ _ (i+1) hd (by omega) (by omega) (by omega) (by simp;omega) (by omega) (by omega) hr]
  rw [List.drop_eq_getElem_cons hlt,hX,show (i+1).toNat=i.toNat+1 by omega]
  simp only [hor,digs,List.append_assoc,List.cons_append,List.nil_append]
  generalize hor (d.drop (i.toNat+1))=R
  rw [show (c+(X+65536*R)) % 65536=(c+X) % 65536 by omega,show (c+(X+65536*R)) / 65536=(c+X) / 65536+R by omega]
theorem Q67 {d:List Int} (hd:d.length=8) (hr:∀ x∈d,0≤x∧x≤9000000000000000000):Ev (fun k=>Q09.f k d) (dig (hor d)) :=
 ⟨9,fun k hk=>by
  show Q09.f k d=_
  unfold Q09.f
  rw [Qas 8 k d [] 0 0 hd rfl (by omega) (by omega) (by simp) (by omega) (by omega) hr];simp⟩
theorem Qer (k:Nat) (i x y:Int) (a b:List Int):Q1i.j1 (k+1) i x y a b=if x<y then some (-1) else if x>y then some 1 else Q1i.l0 k (wrap64 (i - 1)) a b:=by
 simp only [Q1i.j1]
theorem Qhw:∀ (n k:Nat) (a b:List Int),n≤7→a.length=8→b.length=8→(∀ d∈a,0≤d∧d<65536)→(∀ d∈b,0≤d∧d<65536)→2*n<k →
  Q1i.l0 k ((n:Int) - 1) a b=some (cmp3 (hor (a.take n)) (hor (b.take n))):=by
 intro n
 induction n with
 | zero =>
  intro k a b _ _ _ _ _ hk
  obtain ⟨k,rfl⟩:∃ m,k=m+1:=⟨k - 1,by omega⟩
  simp only [Q1i.l0];rw [if_neg (by omega)];simp [hor,cmp3]
 | succ n ih =>
  intro k a b hn ha hb hda hdb hk
  obtain ⟨k,rfl⟩:∃ m,k=m+2:=⟨k - 2,by omega⟩
  simp only [Q1i.l0]
  rw [if_pos (by omega),if_pos (by omega),if_pos (by omega),if_pos (by omega),if_neg (by omega),Qer]
  have hA:n<a.length:=by omega
  have hB:n<b.length:=by omega
  have e1:(((n+1:Nat):Int) - 1).toNat=n:=by omega
  rw [Qf0 a _ (by omega),Qf0 b _ (by omega)]
  simp only [e1]
  rw [Q70 a n hA,Q70 b n hB,show wrap64 (((n+1:Nat):Int) - 1 - 1)=(n:Int) - 1 by unfold wrap64;omega]
  rw [ih k a b (by omega) ha hb hda hdb (by omega)]
  have u:=Q4v (a.take n) fun d hd=>hda d (List.mem_of_mem_take hd)
  have v:=Q4v (b.take n) fun d hd=>hdb d (List.mem_of_mem_take hd)
  rw [show (a.take n).length=n by simp;omega] at u
  rw [show (b.take n).length=n by simp;omega] at v
  generalize hor (a.take n)=U at *
  generalize hor (b.take n)=V at *
  generalize a[n]=X at *
  generalize b[n]=Y at *
  have hP:(0:Int)<65536 ^ n:=Int.pow_pos (by decide)
  generalize (65536:Int) ^ n=P at *
  unfold cmp3
  by_cases h1:X<Y
  ·have:=Int.mul_le_mul_of_nonneg_right (show X+1≤Y by omega) (Int.le_of_lt hP)
   rw [Int.add_mul] at this
   rw [if_pos h1,if_pos (by omega)]
  ·by_cases h2:Y<X
   ·have:=Int.mul_le_mul_of_nonneg_right (show Y+1≤X by omega) (Int.le_of_lt hP)
    rw [Int.add_mul] at this
    rw [if_neg h1,if_pos h2,if_neg (by omega),if_pos (by omega)]
   ·have:X=Y:=by omega
    subst this
    rw [if_neg h1,if_neg h2]
    congr 1
    generalize X*P=Q
    split<;>split<;>first|rfl|omega|(split<;>first|rfl|omega)
theorem Qbk (x y:Int):Ev (fun k=>Q1i.f k (dig x) (dig y)) (cmp3 (off x) (off y)):=⟨20,fun k hk=>by
 obtain ⟨k,rfl⟩:∃ m,k=m+2:=⟨k - 2,by omega⟩
 show Q1i.f (k+2) (dig x) (dig y)=_
 unfold Q1i.f
 simp only [Q1i.l0]
 have lx:(dig x).length=8:=Q3o 8 x
 have ly:(dig y).length=8:=Q3o 8 y
 have rx:=Q3d 8 x
 have ry:=Q3d 8 y
 rw [if_pos (by omega),if_pos (by omega),if_pos (by omega),if_pos (by omega),if_pos True.intro]
 have ex:rd (dig x) 7=x / 65536 / 65536 / 65536 / 65536 / 65536 / 65536 / 65536 % 65536:=rfl
 have ey:rd (dig y) 7=y / 65536 / 65536 / 65536 / 65536 / 65536 / 65536 / 65536 % 65536:=rfl
 rw [ex,ey,Q2u (by omega) (by omega),Q2u (by omega) (by omega),Q7x (by omega),Q7x (by omega),Qer,show wrap64 (7 - 1)=((7:Nat):Int) - 1 by unfold wrap64;omega]
 rw [Qhw 7 k (dig x) (dig y) (by omega) lx ly rx ry (by omega)]
 have tx:=Q7g x
 have ty:=Q7g y
 have u:=Q4v (digs 7 x) (Q3d 7 x)
 have v:=Q4v (digs 7 y) (Q3d 7 y)
 rw [show List.take 7 (dig x)=digs 7 x from rfl,show List.take 7 (dig y)=digs 7 y from rfl]
 rw [Q3o] at u v
 rw [← tx,← ty]
 have e7:(65536:Int) ^ 7=5192296858534827628530496329220096:=by decide
 rw [e7] at *
 generalize hor (digs 7 x)=U at *
 generalize hor (digs 7 y)=V at *
 generalize (x / 65536 / 65536 / 65536 / 65536 / 65536 / 65536 / 65536 % 65536+32768) % 65536=X at *
 generalize (y / 65536 / 65536 / 65536 / 65536 / 65536 / 65536 / 65536 % 65536+32768) % 65536=Y at *
 unfold cmp3
 by_cases h1:X<Y
 ·rw [if_pos h1,if_pos (by omega)]
 ·by_cases h2:X>Y
  ·rw [if_neg h1,if_pos h2,if_neg (by omega),if_pos (by omega)]
  ·rw [if_neg h1,if_neg h2]
   congr 1
   split<;>split<;>first|rfl|omega|(split<;>first|rfl|omega)⟩
theorem Qig {x hi lo:Int} (h1 : -9223372036854775808≤hi) (h2:hi≤9223372036854775807) (h3:0≤lo) (h4:lo<18446744073709551616) (h:(x - (hi*18446744073709551616+lo)) % 340282366920938463463374607431768211456=0) :
  Ev (fun k=>Q31.f k (dig x) hi lo) true:=by
 unfold Q31.f
 refine Ev.bind (f:=fun n t=>(Q1i.f n (dig x) t).bind fun t131=>(some (t131==0))) (Qfa h1 h2 h3 h4) ?_
 refine Ev.bind (f:=fun n t=>some (t==0)) (Qbk _ _) ?_
 rw [(Q91 _ _).2 (Qgp.2 h)]
 exact Ev.now true
theorem Qg0:∀ (n:Nat) (acc a b:List Int) (i:Nat),i+n=8→acc.length=i→a.length=8→b.length=8→(∀ d∈a,0≤d∧d<65536)→(∀ d∈b,0≤d∧d<65536)→(∀ d∈acc,0≤d∧d≤9000000000000000000) →
  Ev (fun k=>Q1h.l0 k acc (i:Int) a b) (dig (hor (acc++List.zipWith (· + ·) (a.drop i) (b.drop i)))):=by
 intro n
 induction n with
 | zero =>
  intro acc a b i hi hl ha hb hda hdb hacc
  obtain rfl:i=8:=by omega
  refine Ev.step (f:=fun k=>(Q09.f k acc).bind fun t217=>(some t217)) (fun k=>by simp only [Q1h.l0];rw [if_neg (by omega)]) ?_
  rw [List.drop_of_length_le (by omega),List.zipWith_nil_left,List.append_nil]
  exact Ev.bind (f:=fun _ t=>some t) (Q67 hl hacc) (Ev.now _)
 | succ n ih =>
  intro acc a b i hi hl ha hb hda hdb hacc
  have hA:i<a.length:=by omega
  have hB:i<b.length:=by omega
  have ra:=hda _ (List.getElem_mem hA)
  have rb:=hdb _ (List.getElem_mem hB)
  refine Ev.step (f:=fun k=>Q1h.l0 k (acc++[a[i]+b[i]]) ((i+1:Nat):Int) a b) (fun k => ?_) ?_
  ·simp only [Q1h.l0]
   rw [if_pos (by omega),if_pos (by omega),if_pos (by omega),if_pos (by omega),if_pos (by omega),Q6b a i hA,Q6b b i hB,Q2u (by omega) (by omega),Q29 i (by omega)]
  ·have:=ih (acc++[a[i]+b[i]]) a b (i+1) (by omega) (by simp;omega) ha hb hda hdb (fun d hd=>by
    simp only [List.mem_append,List.mem_singleton] at hd
    rcases hd with hd|rfl
    ·exact hacc d hd
    ·omega)
   rw [List.drop_eq_getElem_cons hA,List.drop_eq_getElem_cons hB,List.zipWith_cons_cons]
   rw [List.append_assoc] at this
   exact this
theorem Qad (x y:Int):Ev (fun k=>Q1h.f k (dig x) (dig y)) (dig (x+y)):=by
 have:=Qg0 8 [] (dig x) (dig y) 0 rfl rfl (Q3o _ _) (Q3o _ _) (Q3d _ _) (Q3d _ _) (by simp)
 rw [List.drop_zero,List.drop_zero,List.nil_append,Qba _ _ (by rw [Q3o,Q3o])] at this
 obtain ⟨q,hq⟩:=Q47 8 x
 obtain ⟨p,hp⟩:=Q47 8 y
 have e:dig (hor (dig x)+hor (dig y))=dig (x+y):=Q4x ⟨-q - p,by
  show hor (digs 8 x)+hor (digs 8 y)=_
  rw [hq,hp,Int.sub_mul,Int.neg_mul];omega⟩
 rw [e] at this
 exact this
theorem Qg3 (a b:List Int) (ha:a.length=8) (hb:b.length=8) (hda:∀ d∈a,0≤d∧d<65536) (hdb:∀ d∈b,0≤d∧d<65536) (i:Nat) (hi:i<8) (T:Int)
  (out:∀ (d:List Int) (c:Int),d.length=8→(∀ x∈d,0≤x∧x≤c)→c+(7 - (i:Int))*9*4294836225≤9000000000000000000→Ev (fun k=>Q1f.l0 k d ((i+1:Nat):Int) a b) (dig (hor d+T))) :
  ∀ (n kk:Nat) (d:List Int) (c:Int),i+kk+n=8→d.length=8→(∀ x∈d,0≤x∧x≤c)→c+((n:Int)+(7 - (i:Int))*9)*4294836225≤9000000000000000000 →
   Ev (fun k=>Q1f.l1 k d (i:Int) (kk:Int) a b) (dig (hor d+a[i]*65536 ^ (i+kk)*hor (b.drop kk)+T)):=by
 intro n
 induction n with
 | zero =>
  intro kk d c hk hd hr hc
  refine Ev.step (f:=fun k=>Q1f.l0 k d ((i+1:Nat):Int) a b) (fun k => ?_) ?_
  ·simp only [Q1f.l1]
   rw [show wrap64 ((i:Int)+kk)=8 by unfold wrap64;omega,if_neg (by omega),Q29 i (by omega)]
  ·have e:dig (hor d+a[i]*65536 ^ (i+kk)*hor (b.drop kk)+T)=dig (hor d+T):=Q4x ⟨a[i]*hor (b.drop kk),by
    rw [show i+kk=8 by omega];exact ring1 _ _ _ _ _⟩
   rw [e]
   exact out d c hd hr (by omega)
 | succ n ih =>
  intro kk d c hk hd hr hc
  have hA:i<a.length:=by omega
  have hB:kk<b.length:=by omega
  have hD:i+kk<d.length:=by omega
  have ra:=hda _ (List.getElem_mem hA)
  have rb:=hdb _ (List.getElem_mem hB)
  have rD:=hr _ (List.getElem_mem hD)
  obtain ⟨hm0,hm1⟩:=mulb ra.1 ra.2 rb.1 rb.2
  have q1:((i+kk:Nat):Int)<8:=by clear hm0 hm1 rD hc hr;omega
  have q2:(0:Int)≤((i+kk:Nat):Int):=by clear hm0 hm1 rD hc hr;omega
  have q3:((i+kk:Nat):Int)<(d.length:Int):=by clear hm0 hm1 rD hc hr;omega
  have q4:(0:Int)≤(i:Int):=by clear hm0 hm1 rD hc hr;omega
  have q5:(i:Int)<(a.length:Int):=by clear hm0 hm1 rD hc hr;omega
  have q6:(0:Int)≤(kk:Int):=by clear hm0 hm1 rD hc hr;omega
  have q7:(kk:Int)<(b.length:Int):=by clear hm0 hm1 rD hc hr;omega
  have q8:wrap64 ((i:Int)+kk)=((i+kk:Nat):Int):=by clear hm0 hm1 rD hc hr;unfold wrap64;omega
  have q9:wrap64 ((kk:Int)+1)=((kk+1:Nat):Int):=Q29 kk (by clear hm0 hm1 rD hc hr;omega)
  have hc1:c+4294836225≤9000000000000000000:=by clear hm0 hm1 rD hr q1 q2 q3 q4 q5 q6 q7 q8 q9;omega
  have hc2:c+4294836225+((n:Int)+(7 - (i:Int))*9)*4294836225≤9000000000000000000:=by clear hm0 hm1 rD hr q1 q2 q3 q4 q5 q6 q7 q8 q9;omega
  have q10:wrap64 (a[i]*b[kk])=a[i]*b[kk]:=by clear hc hc2;exact Q2u (Int.le_trans (by decide) hm0) (Int.le_trans hm1 (by decide))
  have q11:wrap64 (d[i+kk]+a[i]*b[kk])=d[i+kk]+a[i]*b[kk]:=Q2u (Int.le_trans (by decide) (Int.add_nonneg rD.1 hm0)) (Int.le_trans (Int.add_le_add rD.2 hm1) (Int.le_trans hc1 (by decide)))
  refine Ev.step (f:=fun k=>Q1f.l1 k (d.set (i+kk) (d[i+kk]+a[i]*b[kk])) (i:Int) ((kk+1:Nat):Int) a b) (fun k => ?_) ?_
  ·simp only [Q1f.l1]
   rw [q8,if_pos q1,if_pos q2,if_pos q3,if_pos q4,if_pos q5,if_pos q6,if_pos q7,Q6b a i hA,Q6b b kk hB,Q6b d (i+kk) hD,q10,q11,q9,Int.toNat_natCast]
  ·have:=ih (kk+1) (d.set (i+kk) (d[i+kk]+a[i]*b[kk])) (c+4294836225) (by clear hm0 hm1 rD hr hc hc1 hc2 q1 q2 q3 q4 q5 q6 q7 q8 q9 q10 q11;omega) (by simpa using hd) (fun x hx=>by
    rcases List.mem_or_eq_of_mem_set hx with h|rfl
    ·exact ⟨(hr x h).1,Int.le_trans (hr x h).2 (Int.le_add_of_nonneg_right (by decide))⟩
    ·exact ⟨Int.add_nonneg rD.1 hm0,Int.add_le_add rD.2 hm1⟩) hc2
   rw [Qbc d (i+kk) _ hD] at this
   rw [List.drop_eq_getElem_cons hB]
   simp only [hor]
   have e:hor d+(d[i+kk]+a[i]*b[kk] - d[i+kk])*65536 ^ (i+kk)+a[i]*65536 ^ (i+(kk+1))*hor (b.drop (kk+1))+T
     = hor d+a[i]*65536 ^ (i+kk)*(b[kk]+65536*hor (b.drop (kk+1)))+T:=by
    rw [show i+(kk+1)=(i+kk)+1 by omega,Int.pow_succ];exact ring2 _ _ _ _ _ _ _
   rw [e] at this
   exact this
theorem Qhx (a b:List Int) (ha:a.length=8) (hb:b.length=8) (hda:∀ d∈a,0≤d∧d<65536) (hdb:∀ d∈b,0≤d∧d<65536) :
  ∀ (n i:Nat) (d:List Int) (c:Int),i+n=8→d.length=8→(∀ x∈d,0≤x∧x≤c)→c+(8 - (i:Int))*9*4294836225≤9000000000000000000 →
   Ev (fun k=>Q1f.l0 k d (i:Int) a b) (dig (hor d+65536 ^ i*hor (a.drop i)*hor b)):=by
 intro n
 induction n with
 | zero =>
  intro i d c hi hd hr hc
  obtain rfl:i=8:=by omega
  refine Ev.step (f:=fun k=>(Q09.f k d).bind fun t149=>(some t149)) (fun k=>by simp only [Q1f.l0];rw [if_neg (by omega)]) ?_
  rw [List.drop_of_length_le (by omega)]
  simp only [hor,Int.mul_zero,Int.zero_mul,Int.add_zero]
  exact Ev.bind (f:=fun _ t=>some t) (Q67 hd fun x hx=>by have:=hr x hx;omega) (Ev.now _)
 | succ n ih =>
  intro i d c hi hd hr hc
  have hA:i<a.length:=by omega
  refine Ev.step (f:=fun k=>Q1f.l1 k d (i:Int) ((0:Nat):Int) a b) (fun k=>by simp only [Q1f.l0];rw [if_pos (by omega)];rfl) ?_
  have:=Qg3 a b ha hb hda hdb i (by omega) (65536 ^ (i+1)*hor (a.drop (i+1))*hor b) (fun d' c' h1 h2 h3=>ih (i+1) d' c' (by omega) h1 h2 (by omega)) (8 - i) 0 d c (by omega) hd hr (by omega)
  rw [List.drop_eq_getElem_cons hA]
  simp only [hor]
  have e:hor d+a[i]*65536 ^ (i+0)*hor (b.drop 0)+65536 ^ (i+1)*hor (a.drop (i+1))*hor b=hor d+65536 ^ i*(a[i]+65536*hor (a.drop (i+1)))*hor b:=by
   rw [Nat.add_zero,List.drop_zero,Int.pow_succ];exact ring3 _ _ _ _ _
  rw [e] at this
  exact this
theorem Qgs (x y:Int):Ev (fun k=>Q1f.f k (dig x) (dig y)) (dig (x*y)):=by
 have:=Qhx (dig x) (dig y) (Q3o _ _) (Q3o _ _) (Q3d _ _) (Q3d _ _) 8 0 (List.replicate 8 0) 0 rfl (by simp) (by simp) (by omega)
 refine Ev.congr (f:=fun k=>Q1f.l0 k (List.replicate 8 0) 0 (dig x) (dig y)) (fun k=>by unfold Q1f.f;rw [if_pos (by omega)]) ?_
 obtain ⟨q,hq⟩:=Q47 8 x
 obtain ⟨p,hp⟩:=Q47 8 y
 have e:dig (hor (List.replicate 8 0)+65536 ^ 0*hor (List.drop 0 (dig x))*hor (dig y))=dig (x*y):=Q4x ⟨q*p*65536 ^ 8 - q*y - p*x,by
  rw [List.drop_zero,show hor (List.replicate 8 0)=0 by decide]
  show _+_*hor (digs 8 x)*hor (digs 8 y)=_
  rw [hq,hp];grind⟩
 rw [e] at this
 exact this
theorem Qg6 (x:Int):∀ (n:Nat) (acc a:List Int) (i:Nat),i+n=8→acc.length=i→a.length=8→(∀ d∈a,0≤d∧d<65536)→acc++(a.drop i).map (fun d=>65535 - d)=dig (-x - 1) →
  Ev (fun k=>Q2j.l0 k acc (i:Int) a) (dig (-x)):=by
 intro n
 induction n with
 | zero =>
  intro acc a i hi hl ha hda he
  obtain rfl:i=8:=by omega
  rw [List.drop_of_length_le (by omega),List.map_nil,List.append_nil] at he
  subst he
  refine Ev.step (f:=fun k=>(Q1o.f k 1).bind fun t281=>((Q1h.f k (dig (-x - 1)) t281).bind fun t284=>(some t284))) (fun k=>by simp only [Q2j.l0];rw [if_neg (by omega)]) ?_
  refine Ev.bind (f:=fun k t281=>(Q1h.f k (dig (-x - 1)) t281).bind fun t284=>(some t284)) (Qam (by decide) (by decide)) ?_
  refine Ev.bind (f:=fun _ t=>some t) (Qad _ _) ?_
  rw [show -x - 1+1 = -x by omega]
  exact Ev.now _
 | succ n ih =>
  intro acc a i hi hl ha hda he
  have hA:i<a.length:=by omega
  have ra:=hda _ (List.getElem_mem hA)
  refine Ev.step (f:=fun k=>Q2j.l0 k (acc++[65535 - a[i]]) ((i+1:Nat):Int) a) (fun k => ?_) ?_
  ·simp only [Q2j.l0]
   rw [if_pos (by omega),if_pos (by omega),if_pos (by omega),if_pos (by omega),Q6b a i hA,Q2u (by omega) (by omega),Q29 i (by omega)]
  ·refine ih _ a (i+1) (by omega) (by simp;omega) ha hda ?_
   rw [List.drop_eq_getElem_cons hA,List.map_cons,List.append_cons] at he
   exact he
theorem Qgl (x:Int):Ev (fun k=>Q2j.f k (dig x)) (dig (-x)) :=
 Qg6 x 8 [] (dig x) 0 rfl rfl (Q3o _ _) (Q3d _ _) (by rw [List.drop_zero,List.nil_append,Q9z])
end Go.Proofs.Ytbonkedecfjmdaa.WL

namespace Go.Proofs.Ytbonkedecfjmdaa.G
set_option linter.unusedVariables false
set_option linter.unusedSimpArgs false
open Go.RowKit Go.Proofs.Ytbonkedecfjmdaa.P Go.Proofs.Ytbonkedecfjmdaa.X Go.Proofs.Ytbonkedecfjmdaa.WL Go.Proofs.YtbonkedecfjmdaaW.PrintWords Go.Proofs.YtbonkedecfjmdaaW.PrintLast Go.Proofs.YtbonkedecfjmdaaW.PrintMore
theorem Qb1 (l:List Pt) (hl:l.length≤9223372036854775807):∀ (n i:Nat),i+n=l.length→Ev (fun k=>Q0s.l0 k l (i:Int)) ((l.drop i).all rt):=by
 intro n
 induction n with
 | zero =>
  intro i hi
  rw [List.drop_of_length_le (by omega)]
  exact Ev.step (f:=fun _=>some true) (fun k=>by simp only [Q0s.l0];rw [if_neg (by omega)]) (Ev.now _)
 | succ n ih =>
  intro i hi
  have hA:i<l.length:=by omega
  rw [List.drop_eq_getElem_cons hA,List.all_cons]
  have I:=ih (i+1) (by omega)
  have q1:(i:Int)<(l.length:Int):=by omega
  by_cases hp:rt l[i]=true
  ·rw [hp,Bool.true_and]
   obtain ⟨h1,h2,h3,h4,h5⟩:=Q3e.1 hp
   refine Ev.step (f:=fun k=>Q0s.l0 k l ((i+1:Nat):Int)) (fun k => ?_) I
   simp only [Q0s.l0]
   rw [if_pos q1,if_pos (by omega),rdp l i hA,if_neg (by omega),if_neg (by omega),if_neg (by omega),if_neg (by omega),if_pos h1,Q29 i (by omega)]
  ·rw [Bool.eq_false_iff.2 hp,Bool.false_and]
   refine Ev.step (f:=fun _=>some false) (fun k => ?_) (Ev.now _)
   rw [Q3e] at hp
   simp only [Q0s.l0]
   rw [if_pos q1,if_pos (by omega),rdp l i hA]
   by_cases h2:l[i].f0 < -2147483648
   ·rw [if_pos h2]
   ·rw [if_neg h2]
    by_cases h3:l[i].f0>2147483647
    ·rw [if_pos h3]
    ·rw [if_neg h3]
     by_cases h4:l[i].f1 < -2147483648
     ·rw [if_pos h4]
     ·rw [if_neg h4]
      by_cases h5:l[i].f1>2147483647
      ·rw [if_pos h5]
      ·rw [if_neg h5,if_neg (by omega)]
theorem Q4d (l:List Pt) (hl:l.length≤9223372036854775807):Ev (fun k=>Q0s.f k l) (l.all rt):=by
 have:=Qb1 l hl l.length 0 (by omega)
 exact Ev.congr (f:=fun k=>Q0s.l0 k l ((0:Nat):Int)) (fun k=>by unfold Q0s.f;rfl) this
theorem Q6e {a b:Int} (h1 : -9223372036854775808≤a) (h2:a≤9223372036854775807) (h3 : -9223372036854775808≤b) (h4:b≤9223372036854775807):Ev (fun k=>Q1s.f k a b) (dig (a*b)):=by
 unfold Q1s.f
 refine Ev.bind (Qam h1 h2) ?_
 refine Ev.bind (Qam h3 h4) ?_
 exact Ev.bind (f:=fun _ t=>some t) (Qgs a b) (Ev.now _)
theorem Q5k (a b c:Pt):Ev (fun k=>Q1d.f k a.f0 a.f1 a.f2 b.f0 b.f1 b.f2 c.f0 c.f1 c.f2) (if rt a&&(rt b&&rt c) then side a b c else 0):=by
 unfold Q1d.f
 refine Ev.bind (Q4d [a,b,c] (by simp)) ?_
 simp only [List.all_cons,List.all_nil,Bool.and_true]
 by_cases h:(rt a&&(rt b&&rt c))=true
 ·simp only [if_pos h]
  simp only [Bool.and_eq_true] at h
  obtain ⟨ha,hb,hc⟩:=h
  obtain ⟨⟨m1,m2⟩,m3,m4⟩:=Q8z ha hb hc
  obtain ⟨_,a1,a2,a3,a4⟩:=Q3e.1 ha
  obtain ⟨_,b1,b2,b3,b4⟩:=Q3e.1 hb
  obtain ⟨_,c1,c2,c3,c4⟩:=Q3e.1 hc
  rw [Q2u (x:=b.f0 - a.f0) (by omega) (by omega),Q2u (x:=c.f1 - a.f1) (by omega) (by omega),Q2u (x:=b.f1 - a.f1) (by omega) (by omega),Q2u (x:=c.f0 - a.f0) (by omega) (by omega)]
  refine Ev.bind (Q6e (by omega) (by omega) (by omega) (by omega)) ?_
  refine Ev.bind (Q6e (by omega) (by omega) (by omega) (by omega)) ?_
  have C:=Qbk ((b.f0 - a.f0)*(c.f1 - a.f1)) ((b.f1 - a.f1)*(c.f0 - a.f0))
  rw [Qfy m1 m2 m3 m4] at C
  exact Ev.bind (f:=fun _ t=>some t) C (Ev.now _)
 ·simp only [if_neg h];exact Ev.now _
theorem Qcg (n a b:Int):Q20.f n a b=some (decide (min a b≤n∧n≤max a b)):=by
 unfold Q20.f
 by_cases h1:a≤n<;>by_cases h2:n≤b<;>by_cases h3:b≤n<;>by_cases h4:n≤a<;>simp [h1,h2,h3,h4]<;>omega
theorem Q95 (p a b:Pt):Ev (fun k=>Q28.f k p.f0 p.f1 p.f2 a.f0 a.f1 a.f2 b.f0 b.f1 b.f2) (onB p a b):=by
 unfold Q28.f
 refine Ev.bind (Q4d [p,a,b] (by simp)) ?_
 simp only [List.all_cons,List.all_nil,Bool.and_true]
 by_cases h:(rt p&&(rt a&&rt b))=true
 ·simp only [if_pos h]
  simp only [Bool.and_eq_true] at h
  obtain ⟨hp,ha,hb⟩:=h
  have T:=Q5k a b p
  rw [ha,hb,hp] at T
  refine Ev.bind T ?_
  simp only [Bool.and_self,if_true]
  unfold onB
  simp only [hp,ha,hb,Bool.true_and,Qcg,Option.bind_some]
  by_cases h0:side a b p=0
  ·simp only [if_pos h0]
   have h0':=side0.1 h0
   refine Ev.congr (f:=fun _=>some (decide (cross a b p=0∧(min a.f0 b.f0≤p.f0∧p.f0≤max a.f0 b.f0)∧(min a.f1 b.f1≤p.f1∧p.f1≤max a.f1 b.f1)))) (fun k => ?_) (Ev.now _)
   by_cases g1:min a.f0 b.f0≤p.f0∧p.f0≤max a.f0 b.f0<;>simp [h0',g1]
  ·simp only [if_neg h0]
   have h0':¬ cross a b p=0:=fun e=>h0 (side0.2 e)
   rw [show decide (cross a b p=0∧(min a.f0 b.f0≤p.f0∧p.f0≤max a.f0 b.f0)∧(min a.f1 b.f1≤p.f1∧p.f1≤max a.f1 b.f1))=false by simp [h0']]
   exact Ev.now _
 ·simp only [if_neg h]
  rw [show onB p a b=false by
   unfold onB
   cases hp:rt p<;>cases ha:rt a<;>cases hb:rt b<;>simp_all]
  exact Ev.now _

def Inv (fl acc:List Pt):Prop:=(fl=[]∧acc=[])∨∃ e es as_,fl=e :: es∧acc=e :: as_∧(as_=[]↔∀ x∈es,x=e)
theorem Qh4 {fl acc:List Pt} (h:Inv fl acc):Inv fl acc:=h
theorem Qbj {x:Pt}:Inv [x] [x]:=.inr ⟨x,[],[],rfl,rfl,by simp⟩
open Classical in
theorem Qdw {a b c d:Pt} (R:∀ x,x∈[a,b,c,d]→rt x=true) (out:Ev (fun k=>(Q1d.f k a.f0 a.f1 a.f2 b.f0 b.f1 b.f2 c.f0 c.f1 c.f2).bind fun t276=>((Q1d.f k a.f0 a.f1 a.f2 b.f0 b.f1 b.f2 d.f0 d.f1 d.f2).bind fun t277=>(if (wrap64 (t276*t277))<0 then ((Q1d.f k c.f0 c.f1 c.f2 d.f0 d.f1 d.f2 a.f0 a.f1 a.f2).bind fun t278=>((Q1d.f k c.f0 c.f1 c.f2 d.f0 d.f1 d.f2 b.f0 b.f1 b.f2).bind fun t279=>(if (wrap64 (t278*t279))<0 then (some 2) else (some 0)))) else (some 0)))) (crsV a b c d)) :
  ∀ (n i:Nat) (fl acc:List Pt),i+n=4→Inv fl acc→acc.length≤i→fl++(([a,b,c,d].drop i).filter fun x=>both x a b c d)=[a,b,c,d].filter (fun x=>both x a b c d) →
  Ev (fun k=>Q0t.l0 k [a,b,c,d] acc (i:Int) a.f0 a.f1 a.f2 b.f0 b.f1 b.f2 c.f0 c.f1 c.f2 d.f0 d.f1 d.f2) (meetM a b c d):=by
 intro n
 induction n with
 | zero =>
  intro i fl acc hi hI hl hf
  obtain rfl:i=4:=by omega
  simp only [List.drop_succ_cons,List.drop_zero,List.drop_nil,List.filter_nil,List.append_nil] at hf
  have hmem:∀ x,x∈fl↔x∈[a,b,c,d]∧both x a b c d=true:=fun x=>by rw [hf,List.mem_filter]
  have l0:∀ k,Q0t.l0 (k+1) [a,b,c,d] acc ((4:Nat):Int) a.f0 a.f1 a.f2 b.f0 b.f1 b.f2 c.f0 c.f1 c.f2 d.f0 d.f1 d.f2=_:=fun k=>by simp only [Q0t.l0];rw [if_neg (by omega)]
  rcases hI with ⟨h1,h2⟩|⟨e,es,as_,h1,h2,h3⟩
  ·subst h1 h2
   have n1:¬ one_ a b c d:=fun ⟨x,hx,hb⟩=>by simpa using (hmem x).2 ⟨hx,hb⟩
   have n2:¬ two_ a b c d:=fun ⟨x,_,hx,_,hb,_⟩=>n1 ⟨x,hx,hb⟩
   unfold meetM
   rw [if_neg n2,if_neg n1]
   refine Ev.step (fun k => ?_) out
   rw [l0,if_neg (by simp),if_neg (by simp)]
  ·subst h1 h2
   have e1:=(hmem e).1 (by simp)
   have o1:one_ a b c d:=⟨e,e1.1,e1.2⟩
   by_cases hz:as_=[]
   ·have n2:¬ two_ a b c d:=fun ⟨x,y,hx,hy,bx,by_,hne⟩=>by
     have mx:=(hmem x).2 ⟨hx,bx⟩
     have my:=(hmem y).2 ⟨hy,by_⟩
     have all:=h3.1 hz
     simp only [List.mem_cons] at mx my
     exact hne ((mx.elim id (all x)).trans (my.elim id (all y)).symm)
    subst hz
    unfold meetM
    rw [if_neg n2,if_pos o1]
    exact Ev.step (f:=fun _=>some 1) (fun k=>by rw [l0];simp only [List.length_cons,List.length_nil];rw [if_neg (by omega),if_pos (by omega)]) (Ev.now _)
   ·have:∃ y,y∈es∧y≠e:=by
     refine Classical.byContradiction fun hn=>hz (h3.2 fun x hx=>Classical.byContradiction fun hne=>hn ⟨x,hx,hne⟩)
    obtain ⟨y,hy,hne⟩:=this
    have y1:=(hmem y).1 (by simp [hy])
    have t2:two_ a b c d:=⟨y,e,y1.1,e1.1,y1.2,e1.2,hne⟩
    unfold meetM
    rw [if_pos t2]
    have hlen:0<as_.length:=List.length_pos_iff.2 hz
    exact Ev.step (f:=fun _=>some 3) (fun k=>by rw [l0];simp only [List.length_cons];rw [if_pos (by omega)]) (Ev.now _)
 | succ n ih =>
  intro i fl acc hi hI hl hf
  have hA:i<[a,b,c,d].length:=by simp;omega
  rw [List.drop_eq_getElem_cons hA] at hf
  have hacc:acc.length<5864062014805:=by omega
  generalize hx:[a,b,c,d][i]=x at *
  have hrd:Q0a [a,b,c,d] (i:Int)=x:=by rw [rdp _ i hA,hx]
  have q1:(i:Int)<4:=by omega
  have q2:(0:Int)≤(i:Int):=by omega
  have q3:(i:Int)<(([a,b,c,d]:List Pt).length:Int):=by simp only [List.length_cons,List.length_nil];omega
  have w1:wrap64 ((i:Int)+1)=((i+1:Nat):Int):=Q29 i (by omega)
  have hskip:both x a b c d=false→Ev (fun k=>Q0t.l0 k [a,b,c,d] acc ((i+1:Nat):Int) a.f0 a.f1 a.f2 b.f0 b.f1 b.f2 c.f0 c.f1 c.f2 d.f0 d.f1 d.f2) (meetM a b c d):=fun hb=>by
   rw [List.filter_cons_of_neg (by simp [hb])] at hf
   exact ih (i+1) fl acc (by omega) hI (by omega) hf
  have jt:Ev (fun k=>Q0t.l0 k [a,b,c,d] acc ((i+1:Nat):Int) a.f0 a.f1 a.f2 b.f0 b.f1 b.f2 c.f0 c.f1 c.f2 d.f0 d.f1 d.f2) (meetM a b c d)→Ev (fun k=>Q0t.j1 k [a,b,c,d] acc (i:Int) true a.f0 a.f1 a.f2 b.f0 b.f1 b.f2 c.f0 c.f1 c.f2 d.f0 d.f1 d.f2) (meetM a b c d):=fun h =>
   Ev.step (fun k=>by simp only [Q0t.j1,if_true];rw [w1]) h
  refine Ev.step (f:=fun k=>(Q28.f k x.f0 x.f1 x.f2 a.f0 a.f1 a.f2 b.f0 b.f1 b.f2).bind fun t263=>(if t263=true then ((Q28.f k x.f0 x.f1 x.f2 c.f0 c.f1 c.f2 d.f0 d.f1 d.f2).bind fun t265=>(Q0t.j1 k [a,b,c,d] acc (i:Int) (!t265) a.f0 a.f1 a.f2 b.f0 b.f1 b.f2 c.f0 c.f1 c.f2 d.f0 d.f1 d.f2)) else (Q0t.j1 k [a,b,c,d] acc (i:Int) true a.f0 a.f1 a.f2 b.f0 b.f1 b.f2 c.f0 c.f1 c.f2 d.f0 d.f1 d.f2))) (fun k=>by simp only [Q0t.l0];rw [if_pos q1,if_pos q2,if_pos q3,hrd]) ?_
  refine Ev.bind (Q95 x a b) ?_
  by_cases b1:onB x a b=true
  ·simp only [b1,if_true]
   refine Ev.bind (Q95 x c d) ?_
   by_cases b2:onB x c d=true
   ·have hb:both x a b c d=true:=by unfold both;rw [b1,b2];rfl
    rw [List.filter_cons_of_pos (by simp [hb]),List.append_cons] at hf
    simp only [b2,Bool.not_true]
    rcases hI with ⟨h1,h2⟩|⟨e,es,as_,h1,h2,h3⟩
    ·subst h1 h2
     have I:=ih (i+1) [x] [x] (by omega) Qbj (by simp) hf
     refine Ev.step (fun k => ?_) I
     simp only [Q0t.j1,List.length_nil,Bool.false_eq_true,if_false]
     rw [if_pos (by omega),if_pos q2,if_pos q3,if_pos (by omega),w1,hrd]
     rfl
    ·subst h1 h2
     have hr0:Q0a (e :: as_) 0=e:=rfl
     by_cases hne:x=e
     ·have I:=ih (i+1) ((e :: es)++[x]) (e :: as_) (by omega) (.inr ⟨e,es++[x],as_,rfl,rfl,by rw [h3];simp only [List.mem_append,List.mem_singleton];exact ⟨fun h y hy=>hy.elim (h y) fun h'=>h'.trans hne,fun h y hy=>h y (.inl hy)⟩⟩) (by omega) hf
      refine Ev.step (fun k => ?_) I
      simp only [Q0t.j1,List.length_cons,Bool.false_eq_true,if_false]
      rw [if_neg (by omega),if_pos (by omega),if_pos q2,if_pos (by have:=q3;simp only [List.length_cons,List.length_nil] at this;omega),hrd,hr0,if_neg (by rw [Qeh];exact fun h=>h hne.symm),w1]
     ·have I:=ih (i+1) ((e :: es)++[x]) ((e :: as_)++[x]) (by omega) (.inr ⟨e,es++[x],as_++[x],rfl,rfl,by simp [hne]⟩) (by simp only [List.length_append,List.length_cons,List.length_nil] at hl ⊢;omega) hf
      refine Ev.step (fun k => ?_) I
      simp only [Q0t.j1,List.length_cons,Bool.false_eq_true,if_false]
      rw [if_neg (by omega),if_pos (by omega),if_pos q2,if_pos (by have:=q3;simp only [List.length_cons,List.length_nil] at this;omega),hrd,hr0,if_pos (by rw [Qeh];exact fun h=>hne h.symm),if_pos (by simp only [List.length_cons] at hacc;omega),w1]
   ·have hb:both x a b c d=false:=by unfold both;rw [b1,Bool.eq_false_iff.2 b2];rfl
    simp only [Bool.eq_false_iff.2 b2,Bool.not_false]
    exact jt (hskip hb)
  ·have hb:both x a b c d=false:=by unfold both;rw [Bool.eq_false_iff.2 b1];rfl
   simp only [b1,Bool.false_eq_true,if_false]
   exact jt (hskip hb)
theorem Qdl (a b c d:Pt):Ev (fun k=>Q0t.f k a.f0 a.f1 a.f2 b.f0 b.f1 b.f2 c.f0 c.f1 c.f2 d.f0 d.f1 d.f2) (meetV a b c d):=by
 unfold Q0t.f
 simp only [Option.bind_some]
 refine Ev.bind (Q4d [a,b,c,d] (by simp)) ?_
 simp only [List.all_cons,List.all_nil,Bool.and_true]
 unfold meetV
 by_cases h:(rt a&&(rt b&&(rt c&&rt d)))=true
 ·simp only [if_pos h]
  simp only [Bool.and_eq_true] at h
  obtain ⟨ha,hb,hc,hd⟩:=h
  have t1:=Q5k a b c
  have t2:=Q5k a b d
  have t3:=Q5k c d a
  have t4:=Q5k c d b
  simp only [ha,hb,hc,hd,Bool.and_self,if_true] at t1 t2 t3 t4
  refine Qdw (fun x hx=>by simp only [List.mem_cons,List.not_mem_nil,or_false] at hx;rcases hx with rfl|rfl|rfl|rfl<;>assumption) ?_ 4 0 [] [] rfl (.inl ⟨rfl,rfl⟩) (by simp) (by simp)
  refine Ev.bind t1 ?_
  refine Ev.bind t2 ?_
  rw [Q6h]
  by_cases c1:side a b c*side a b d<0
  ·simp only [if_pos c1]
   refine Ev.bind t3 ?_
   refine Ev.bind t4 ?_
   rw [Q6h]
   by_cases c2:side c d a*side c d b<0
   ·rw [show crsV a b c d=2 from if_pos (show crs a b c d from ⟨c1,c2⟩)]
    simp only [if_pos c2];exact Ev.now _
   ·rw [show crsV a b c d=0 from if_neg (show ¬ crs a b c d from fun h=>c2 h.2)]
    simp only [if_neg c2];exact Ev.now _
  ·rw [show crsV a b c d=0 from if_neg (show ¬ crs a b c d from fun h=>c1 h.1)]
   simp only [if_neg c1];exact Ev.now _
 ·simp only [if_neg h];exact Ev.now _
end Go.Proofs.Ytbonkedecfjmdaa.G
