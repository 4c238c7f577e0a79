/- Written for this claim by a program of this session (a turned copy of the print): Go functions as Lean functions, and that the Go code comes to just these answers; or a statement proved out of them. No condition. Rows of rows in memory, as the headers that stand there: cut, and laid behind one another. No condition. What the chapter's example fixes: the walk. No condition. -/
import Derived.Test.YtbonkedecfjmdaaZ2
import Derived.Test.YtbonkedecfjmdaaZ1
import Derived.Test.YtbonkedecfjmdaaZ27
import Derived.Test.YtbonkedecfjmdaaZ26

namespace Go.Proofs.Ytbonkedecfjmdaa.P
open Go.RowKit Go.Proofs.YtbonkedecfjmdaaW.PrintWords Go.Proofs.YtbonkedecfjmdaaW.PrintLast Go.Proofs.YtbonkedecfjmdaaW.PrintMore Go.Proofs.Ytbonkedecfjmdaa.X
attribute [local go_sem] Q2a Q2b Q2s Q2q Q1z Q1y Q19 Q2c Q2r Q2p add64
set_option linter.unusedVariables false
set_option linter.unusedSimpArgs false
def Q07.l0:Nat→List Int→List Int→Int→Option (Bool)
 | 0,_,_,_=>none
 | k+1,x0,x1,x5=>if x5<(x0.length:Int) then (if 0≤x5 then (if x5<(x1.length:Int) then (if (rd x0 x5)=(rd x1 x5) then (Q07.l0 k x0 x1 (wrap64 (x5+1))) else (some false)) else (none)) else (none)) else (some true)
def Q07.f (k:Nat) (l0:List Int) (l1:List Int):Option (Bool):=if (l0.length:Int)=(l1.length:Int) then (Q07.l0 k l0 l1 0) else (some false)
theorem Q07.Q1a:∀ k,(∀ y0 y1 y2,LeO (Q07.l0 k y0 y1 y2) (Q07.l0 (k+1) y0 y1 y2))
 | 0=>fun _ _ _ r h=>by simp [Q07.l0] at h
 | k+1=>by
  have oA:=Q07.Q1a k
  ·intro y0 y1 y2
   unfold Q07.l0
   repeat' with_reducible first|exact oA _ _ _|exact LeO.refl _|exact LeO.none _|refine LeO.ite ?_ ?_|refine LeO.bind ?_ (fun _ => ?_)
theorem Q07.mono:∀ a0 a1 k,LeO (Q07.f k a0 a1) (Q07.f (k+1) a0 a1):=by
 intro a0 a1 k
 have oA:=Q07.Q1a k
 unfold Q07.f
 repeat' with_reducible first|exact oA _ _ _|exact LeO.refl _|exact LeO.none _|refine LeO.ite ?_ ?_|refine LeO.bind ?_ (fun _ => ?_)
set_option maxHeartbeats 8000000 in
set_option maxRecDepth 100000 in
theorem Q07.calls (k:Nat) (A0:Option Addr) (c0:Nat) (l0:List Int) (A1:Option Addr) (c1:Nat) (l1:List Int) (r:Bool) (w:World) (rA:Kd.C (Kd.int .i64) w A0 l0.length l0) (sA:l0.length≤c0) (tA:Kd.C (Kd.int .i64) w A1 l1.length l1) (uA:l1.length≤c1) (h:Q07.f k l0 l1=some r) :
  Calls Try.prog 11 #[.slice A0 l0.length c0,.slice A1 l1.length c1] w fun e w'=>e=.returned (.bool r)∧Drawn0 w w':=by
 have vA:=AM rA
 have bB:=AM sA
 clear rA sA
 have wA:=AM tA
 have cB:=AM uA
 clear tA uA
 have H:(if (l0.length:Int)=(l1.length:Int) then (Q07.l0 k l0 l1 0) else (some false))=some r:=h
 clear h
 by_cases c3:(l0.length:Int)=(l1.length:Int)
 ·rw [if_pos c3] at H
  have jA:((l0.length:Int)==(l1.length:Int))=true:=beq_iff_eq.mpr c3
  have kA:((l0.length:Int) != (l1.length:Int))=false:=bne_eq_false_iff_eq.mpr c3
  have lA:(l0.length==l1.length)=true:=by first|simpa using c3|(simp at c3 ⊢;omega)
  clear c3
  have H':=AM H
  clear H
  go_enter Try.func11,Try.ntmps11
  go_wp2
  repeat (go_quiet (fail);try go_wp2)
  go_loopg [5] k (fun kq v5 w'=>∃ (aA:Int),v5=.int .i64 aA∧Aside0 (Q07.l0 kq l0 l1 aA=some r)∧Aside0 (kq≤k)∧Drawn0 w w')
  case atStart=>exact ⟨(0),rS,H',⟨Nat.le_refl _⟩,by repeat (first|exact Drawn0.refl _|apply Drawn0.step)⟩
  case round =>
   clear H'
   clear jA kA lA
   obtain ⟨aA,rfl,HA,xA,⟨m1,rfl⟩⟩:=hrel
   cases gk with
   | zero=>exact absurd HA.out (by simp [Q07.l0])
   | succ k1 =>
    have H:=HA.out;clear HA
    simp only [Q07.l0] at H
    apply iC H<;>clear H<;>intro yA H
    ·apply iN H;clear H;intro zA H
     ·apply iN H;clear H;intro aB H
      ·by_cases c7:(rd l0 aA)=(rd l1 aA)
       ·rw [if_pos c7] at H
        have pA:((rd l0 aA)==(rd l1 aA))=true:=beq_iff_eq.mpr c7
        have qA:((rd l0 aA) != (rd l1 aA))=false:=bne_eq_false_iff_eq.mpr c7
        clear c7
        have H':=AM H
        clear H
        have bA:0≤(aA:Int):=pD
        have cA:aA<(l0.length:Int):=pD
        obtain ⟨mA,hA,fA⟩:=Kd.Q2n vA.out aA bA cA
        cases hA
        replace bA:=eq_true bA;replace cA:=eq_true cA
        have dA:0≤(aA:Int):=pD
        have eA:aA<(l1.length:Int):=pD
        obtain ⟨nA,iA,gA⟩:=Kd.Q2n wA.out aA dA eA
        cases iA
        replace dA:=eq_true dA;replace eA:=eq_true eA
        go_wp2
        repeat (go_quiet (fail);try go_wp2)
        go_roundg k1
        case measure=>have:=xA.out;omega
        case rel=>exact ⟨(wrap64 (aA+1)),rS,H',⟨by have:=xA.out;omega⟩,by repeat (first|exact Drawn0.refl _|apply Drawn0.step)⟩
       ·rw [if_neg c7] at H
        have pA:((rd l0 aA)==(rd l1 aA))=false:=beq_eq_false_iff_ne.mpr c7
        have qA:((rd l0 aA) != (rd l1 aA))=true:=bne_iff_ne.mpr c7
        obtain rfl:=Option.some.inj H
        have bA:0≤(aA:Int):=pD
        have cA:aA<(l0.length:Int):=pD
        obtain ⟨mA,hA,fA⟩:=Kd.Q2n vA.out aA bA cA
        cases hA
        replace bA:=eq_true bA;replace cA:=eq_true cA
        have dA:0≤(aA:Int):=pD
        have eA:aA<(l1.length:Int):=pD
        obtain ⟨nA,iA,gA⟩:=Kd.Q2n wA.out aA dA eA
        cases iA
        replace dA:=eq_true dA;replace eA:=eq_true eA
        go_wp2
        repeat (go_quiet (fail);try go_wp2)
        go_ret
        exact ⟨by first|rfl|(simp;done)|(simp [*];done),by repeat (first|exact Drawn0.refl _|apply Drawn0.step)⟩
    ·obtain rfl:=Option.some.inj H
     go_wp2
     repeat (go_quiet (fail);try go_wp2)
     go_ret
     exact ⟨by first|rfl|(simp;done)|(simp [*];done),by repeat (first|exact Drawn0.refl _|apply Drawn0.step)⟩
 ·rw [if_neg c3] at H
  have jA:((l0.length:Int)==(l1.length:Int))=false:=beq_eq_false_iff_ne.mpr c3
  have kA:((l0.length:Int) != (l1.length:Int))=true:=bne_iff_ne.mpr c3
  have lA:(l0.length==l1.length)=false:=by first|simpa using c3|(simp at c3 ⊢;omega)
  obtain rfl:=Option.some.inj H
  go_enter Try.func11,Try.ntmps11
  go_wp2
  repeat (go_quiet (fail);try go_wp2)
  go_ret
  exact ⟨by first|rfl|(simp;done)|(simp [*];done),by repeat (first|exact Drawn0.refl _|apply Drawn0.step)⟩

def Qb3.f  : Option ((List (List (S27)))×(List (List Int))×(List (List Int))):=some ((([(([(⟨0,0,0⟩:S27),(⟨1,0,0⟩:S27),(⟨0,1,0⟩:S27),(⟨0,0,0⟩:S27)]:List (S27)))]:List (List (S27)))),(([(([0]:List Int))]:List (List Int))),(([(([0]:List Int))]:List (List Int))))
set_option maxHeartbeats 8000000 in
set_option maxRecDepth 100000 in
theorem Qb3.calls  (r1:List (List (S27))) (r2:List (List Int)) (r3:List (List Int)) (w:World) (h:Qb3.f  = some (r1,r2,r3)) :
  Calls Try.prog 30 #[] w fun e w'=>∃ v0_ v1_ v2_:Value,e=.returned (.agg #[v0_,v1_,v2_])∧Kd.N (Kd.slice 27 k27) 31 w' w.heap.size (fun k_=>(w.heap.size≤k_)∧some k_≠(v1_:Value).ownBlock∧some k_≠(v2_:Value).ownBlock) v0_ r1∧Kd.N (Kd.slice 3 (Kd.int .i64)) 32 w' w.heap.size (fun k_=>(w.heap.size≤k_)∧some k_≠(v0_:Value).ownBlock∧some k_≠(v2_:Value).ownBlock) v1_ r2∧Kd.N (Kd.slice 3 (Kd.int .i64)) 32 w' w.heap.size (fun k_=>(w.heap.size≤k_)∧some k_≠(v0_:Value).ownBlock∧some k_≠(v1_:Value).ownBlock) v2_ r3∧Below w.heap.size w w':=by
 have iC:=Try.underlying25
 have jC:=Try.underlying27
 have HB:=AM (Below.refl w.heap.size w)
 have H:(some ((([(([(⟨0,0,0⟩:S27),(⟨1,0,0⟩:S27),(⟨0,1,0⟩:S27),(⟨0,0,0⟩:S27)]:List (S27)))]:List (List (S27)))),(([(([0]:List Int))]:List (List Int))),(([(([0]:List Int))]:List (List Int)))))=some (r1,r2,r3):=h
 clear h
 obtain ⟨tA,hA⟩:∃ y_:List (S27),y_=(([(⟨0,0,0⟩:S27),(⟨1,0,0⟩:S27),(⟨0,1,0⟩:S27),(⟨0,0,0⟩:S27)]:List (S27))):=⟨_,rfl⟩
 replace H:(some ((([tA]:List (List (S27)))),(([(([0]:List Int))]:List (List Int))),(([(([0]:List Int))]:List (List Int)))))=some (r1,r2,r3):=by first|(rw [hA];with_reducible exact H)|(have eA:=(Option.bind_some _ _).symm.trans H;rw [hA];with_reducible exact eA)|(have eA:=(Option.bind_some _ _).symm.trans H;with_reducible exact eA)|with_reducible exact H|(rw [hA];exact H)|exact H
 have fB:=AM hA
 clear hA
 obtain ⟨fA,iA⟩:∃ y_:List (List (S27)),y_=(([tA]:List (List (S27)))):=⟨_,rfl⟩
 replace H:(some (fA,(([(([0]:List Int))]:List (List Int))),(([(([0]:List Int))]:List (List Int)))))=some (r1,r2,r3):=by first|(rw [iA];with_reducible exact H)|(have eA:=(Option.bind_some _ _).symm.trans H;rw [iA];with_reducible exact eA)|(have eA:=(Option.bind_some _ _).symm.trans H;with_reducible exact eA)|with_reducible exact H|(rw [iA];exact H)|exact H
 have gB:=AM iA
 clear iA
 obtain ⟨uA,jA⟩:∃ y_:List Int,y_=(([0]:List Int)):=⟨_,rfl⟩
 replace H:(some (fA,(([uA]:List (List Int))),(([(([0]:List Int))]:List (List Int)))))=some (r1,r2,r3):=by first|(rw [jA];with_reducible exact H)|(have eA:=(Option.bind_some _ _).symm.trans H;rw [jA];with_reducible exact eA)|(have eA:=(Option.bind_some _ _).symm.trans H;with_reducible exact eA)|with_reducible exact H|(rw [jA];exact H)|exact H
 have hB:=AM jA
 clear jA
 obtain ⟨kA,lA⟩:∃ y_:List (List Int),y_=(([uA]:List (List Int))):=⟨_,rfl⟩
 replace H:(some (fA,kA,(([(([0]:List Int))]:List (List Int)))))=some (r1,r2,r3):=by first|(rw [lA];with_reducible exact H)|(have eA:=(Option.bind_some _ _).symm.trans H;rw [lA];with_reducible exact eA)|(have eA:=(Option.bind_some _ _).symm.trans H;with_reducible exact eA)|with_reducible exact H|(rw [lA];exact H)|exact H
 have iB:=AM lA
 clear lA
 obtain ⟨vA,mA⟩:∃ y_:List Int,y_=(([0]:List Int)):=⟨_,rfl⟩
 replace H:(some (fA,kA,(([vA]:List (List Int)))))=some (r1,r2,r3):=by first|(rw [mA];with_reducible exact H)|(have eA:=(Option.bind_some _ _).symm.trans H;rw [mA];with_reducible exact eA)|(have eA:=(Option.bind_some _ _).symm.trans H;with_reducible exact eA)|with_reducible exact H|(rw [mA];exact H)|exact H
 have jB:=AM mA
 clear mA
 obtain ⟨zA,nA⟩:∃ y_:List (List Int),y_=(([vA]:List (List Int))):=⟨_,rfl⟩
 replace H:(some (fA,kA,zA))=some (r1,r2,r3):=by first|(rw [nA];with_reducible exact H)|(have eA:=(Option.bind_some _ _).symm.trans H;rw [nA];with_reducible exact eA)|(have eA:=(Option.bind_some _ _).symm.trans H;with_reducible exact eA)|with_reducible exact H|(rw [nA];exact H)|exact H
 have lB:=AM nA
 clear nA
 simp only [Option.some.injEq,Prod.mk.injEq] at H
 obtain ⟨rfl,rfl,rfl⟩:=H
 go_enter Try.func30,Try.ntmps30
 go_wp2_with (first|((with_reducible refine Q0i (N:=0) rfl ?_);refine bE 0 #[.slice none 0 0,.slice none 0 0,.slice none 0 0] 25 ?_;intro aA hg w1 hbox hb;have bA:=AM hbox;have oB:=kG HB hg;replace HB:=kH HB hb;have dC:=oB;clear hb hbox hg)|((with_reducible refine Q0i (N:=5) rfl ?_);refine Kd.Q4s k27 _ 27 ?hg (N:=5) ?hd (xs:=([(⟨0,0,0⟩:S27),(⟨1,0,0⟩:S27),(⟨0,1,0⟩:S27),(⟨0,0,0⟩:S27)]:List (S27))) (inner:=[.int .i64 0,.int .i64 0,.int .i64 0,.int .i64 1,.int .i64 0,.int .i64 0,.int .i64 0,.int .i64 1,.int .i64 0,.int .i64 0,.int .i64 0,.int .i64 0]) (ok:=fun _=>True) (okp:=fun _=>True) ?hr ?hp (fun _ hk=>hk) trivial (Below.refl _ _) (Nat.le_refl _) (by simp) ?_;(case hd=>rfl);(case hg=>rfl);(case hr=>first|(go_simp;done)|(go_simp;rfl));(case hp=>exact (Reps.c3 (show Kd.M k27 _ _ _ (⟨0,0,0⟩:S27) [.int .i64 0,.int .i64 0,.int .i64 0] from (Q2o _ _ _ (⟨0,0,0⟩:S27) )) (Reps.c3 (show Kd.M k27 _ _ _ (⟨1,0,0⟩:S27) [.int .i64 1,.int .i64 0,.int .i64 0] from (Q2o _ _ _ (⟨1,0,0⟩:S27) )) (Reps.c3 (show Kd.M k27 _ _ _ (⟨0,1,0⟩:S27) [.int .i64 0,.int .i64 1,.int .i64 0] from (Q2o _ _ _ (⟨0,1,0⟩:S27) )) (Reps.c3 (show Kd.M k27 _ _ _ (⟨0,0,0⟩:S27) [.int .i64 0,.int .i64 0,.int .i64 0] from (Q2o _ _ _ (⟨0,0,0⟩:S27) )) (Reps.none _ _))))));intro kC w2 pB hb hg_ hnew_;clear hg_ hnew_;(first|rw [← fB.out] at pB|(simp only [Int.reduceToNat] at pB;rw [← fB.out] at pB));have qA:=AM (Kd.Q1b (Kd.Qbn (M:=fun k_=>(w.heap.size≤k_)) pB (Q0h (bH HB)) (fun k_ h_=>h_)) (Q0h (bH HB)));replace bA:=kB bA hb;replace HB:=kH HB hb;clear hb pB;obtain ⟨eC,fC,lC⟩:=Kd.Q01 qA.out;subst lC)|((with_reducible refine Q0i (N:=6) rfl ?_);refine Kd.Qfi (Kd.slice 27 k27) _ 31 ?hg (N':=6) ?hd (xs:=([tA]:List (List (S27)))) (inner:=[.slice eC tA.length fC]) (ok:=(fun k_=>(w.heap.size≤k_)∧k_≠aA)) (okp:=(fun k_=>(w.heap.size≤k_)∧k_≠aA)) ?hr ?hp (fun _ hk=>hk) ((show ∀ k_,w2.heap.size≤k_→(fun k_=>(w.heap.size≤k_)∧k_≠aA) k_ from fun k_ hk=>⟨(Nat.le_trans (Q0h (bH HB)) hk),Kd.freshB (g:=aA) (o:=.cells #[.slice none 0 0,.slice none 0 0,.slice none 0 0] 25 (0,0)) (bK bA) k_ hk⟩) _ (Nat.le_refl _)) (Below.refl _ _) (Nat.le_refl _) (by simp) ?_;(case hd=>rfl);(case hg=>rfl);(case hr=>first|(go_simp;done)|(go_simp;rfl));(case hp=>exact (Reps.one (show Kd.FK (Kd.slice 27 k27) _ _ tA [.slice eC tA.length fC] from (Kd.Q5l (Kd.Q0w (Kd.Q1q (ok':=(fun k_=>(w.heap.size≤k_)∧k_≠aA)) (Kd.Q2y (qA.out) bA.out (by decide)) (fun k_ hk=>⟨hk.1.1,hk.2⟩))).2.1 (Kd.R_F (Kd.Q1q (ok':=(fun k_=>(w.heap.size≤k_)∧k_≠aA)) (Kd.Q2y (qA.out) bA.out (by decide)) (fun k_ hk=>⟨hk.1.1,hk.2⟩))))) (Reps.none _ _)));intro gA w5 qB hb hg_ hnew_;clear hg_ hnew_;(first|rw [← gB.out] at qB|(simp only [Int.reduceToNat] at qB;rw [← gB.out] at qB));have cA:=AM (Kd.Q9l qB (Q0h (bH HB)));replace bA:=kB bA hb;replace HB:=kH HB hb;clear qA;clear hb qB)|((with_reducible refine Q0i (N:=7) rfl ?_);refine Kd.Q4s (Kd.int .i64) _ 3 ?hg (N:=7) ?hd (xs:=([0]:List Int)) (inner:=[.int .i64 0]) (ok:=fun _=>True) (okp:=fun _=>True) ?hr ?hp (fun _ hk=>hk) trivial (Below.refl _ _) (Nat.le_refl _) (by simp) ?_;(case hd=>rfl);(case hg=>rfl);(case hr=>first|(go_simp;done)|(go_simp;rfl));(case hp=>exact (Reps.one (show Kd.M (Kd.int .i64) _ _ _ 0 [.int .i64 0] from rfl) (Reps.none _ _)));intro mC w7 nB hb hg_ hnew_;clear hg_ hnew_;(first|rw [← hB.out] at nB|(simp only [Int.reduceToNat] at nB;rw [← hB.out] at nB));replace cA:=AM (Kd.Q5i (by (with_reducible repeat (first|apply Kd.Q4g|apply Kd.Q4h|apply Kd.Q5a));exact cA.out) (Kd.Q2l nB) hb);have rA:=AM (Kd.Q1b (Kd.Qbn (M:=fun k_=>(w.heap.size≤k_)) nB (Q0h (bH HB)) (fun k_ h_=>h_)) (Q0h (bH HB)));replace bA:=kB bA hb;replace HB:=kH HB hb;clear hb nB;obtain ⟨gC,hC,nC⟩:=Kd.Q01 rA.out;subst nC)|((with_reducible refine Q0i (N:=8) rfl ?_);refine Kd.Qfi (Kd.slice 3 (Kd.int .i64)) _ 32 ?hg (N':=8) ?hd (xs:=([uA]:List (List Int))) (inner:=[.slice gC uA.length hC]) (ok:=(fun k_=>(w.heap.size≤k_)∧some k_≠(gA:Value).ownBlock∧k_≠aA)) (okp:=(fun k_=>(w.heap.size≤k_)∧some k_≠(gA:Value).ownBlock∧k_≠aA)) ?hr ?hp (fun _ hk=>hk) ((show ∀ k_,w7.heap.size≤k_→(fun k_=>(w.heap.size≤k_)∧some k_≠(gA:Value).ownBlock∧k_≠aA) k_ from fun k_ hk=>⟨(Nat.le_trans (Q0h (bH HB)) hk),Kd.fresh' (Kd.N_lt (by (with_reducible repeat (first|apply Kd.Q4g|apply Kd.Q4h|apply Kd.Q5a));exact cA.out)) k_ hk,Kd.freshB (g:=aA) (o:=.cells #[.slice none 0 0,.slice none 0 0,.slice none 0 0] 25 (0,0)) (bK bA) k_ hk⟩) _ (Nat.le_refl _)) (Below.refl _ _) (Nat.le_refl _) (by simp) ?_;(case hd=>rfl);(case hg=>rfl);(case hr=>first|(go_simp;done)|(go_simp;rfl));(case hp=>exact (Reps.one (show Kd.FK (Kd.slice 3 (Kd.int .i64)) _ _ uA [.slice gC uA.length hC] from (Kd.Q5l (Kd.Q0w (Kd.Q1q (ok':=(fun k_=>(w.heap.size≤k_)∧some k_≠(gA:Value).ownBlock∧k_≠aA)) (Kd.Q2y (Kd.Q3s (rA.out) (Kd.Q51 cA.out) (by decide)) bA.out (by decide)) (fun k_ hk=>⟨hk.1.1.1,⟨hk.1.2,hk.2⟩⟩))).2.1 (Kd.R_F (Kd.Q1q (ok':=(fun k_=>(w.heap.size≤k_)∧some k_≠(gA:Value).ownBlock∧k_≠aA)) (Kd.Q2y (Kd.Q3s (rA.out) (Kd.Q51 cA.out) (by decide)) bA.out (by decide)) (fun k_ hk=>⟨hk.1.1.1,⟨hk.1.2,hk.2⟩⟩))))) (Reps.none _ _)));intro aB rC wA hb hg_ hnew_;clear hg_ hnew_;(first|rw [← iB.out] at wA|(simp only [Int.reduceToNat] at wA;rw [← iB.out] at wA));replace cA:=AM (Kd.Q5i (by (with_reducible repeat (first|apply Kd.Q4g|apply Kd.Q4h|apply Kd.Q5a));exact cA.out) (Kd.Qch wA) hb);have dA:=AM (Kd.Q9l wA (Q0h (bH HB)));replace bA:=kB bA hb;replace HB:=kH HB hb;clear rA;clear hb wA)|((with_reducible refine Q0i (N:=9) rfl ?_);refine Kd.Q4s (Kd.int .i64) _ 3 ?hg (N:=9) ?hd (xs:=([0]:List Int)) (inner:=[.int .i64 0]) (ok:=fun _=>True) (okp:=fun _=>True) ?hr ?hp (fun _ hk=>hk) trivial (Below.refl _ _) (Nat.le_refl _) (by simp) ?_;(case hd=>rfl);(case hg=>rfl);(case hr=>first|(go_simp;done)|(go_simp;rfl));(case hp=>exact (Reps.one (show Kd.M (Kd.int .i64) _ _ _ 0 [.int .i64 0] from rfl) (Reps.none _ _)));intro oC pC oA hb hg_ hnew_;clear hg_ hnew_;(first|rw [← jB.out] at oA|(simp only [Int.reduceToNat] at oA;rw [← jB.out] at oA));replace cA:=AM (Kd.Q5i (by (with_reducible repeat (first|apply Kd.Q4g|apply Kd.Q4h|apply Kd.Q5a));exact cA.out) (Kd.Q2l oA) hb);replace dA:=AM (Kd.Q5i (by (with_reducible repeat (first|apply Kd.Q4g|apply Kd.Q4h|apply Kd.Q5a));exact dA.out) (Kd.Q2l oA) hb);have sA:=AM (Kd.Q1b (Kd.Qbn (M:=fun k_=>(w.heap.size≤k_)) oA (Q0h (bH HB)) (fun k_ h_=>h_)) (Q0h (bH HB)));replace bA:=kB bA hb;replace HB:=kH HB hb;clear hb oA;obtain ⟨rB,sB,zB⟩:=Kd.Q01 sA.out;subst zB)|((with_reducible refine Q0i (N:=10) rfl ?_);refine Kd.Qfi (Kd.slice 3 (Kd.int .i64)) _ 32 ?hg (N':=10) ?hd (xs:=([vA]:List (List Int))) (inner:=[.slice rB vA.length sB]) (ok:=(fun k_=>(w.heap.size≤k_)∧some k_≠(gA:Value).ownBlock∧some k_≠(aB:Value).ownBlock∧k_≠aA)) (okp:=(fun k_=>(w.heap.size≤k_)∧some k_≠(gA:Value).ownBlock∧some k_≠(aB:Value).ownBlock∧k_≠aA)) ?hr ?hp (fun _ hk=>hk) ((show ∀ k_,pC.heap.size≤k_→(fun k_=>(w.heap.size≤k_)∧some k_≠(gA:Value).ownBlock∧some k_≠(aB:Value).ownBlock∧k_≠aA) k_ from fun k_ hk=>⟨(Nat.le_trans (Q0h (bH HB)) hk),Kd.fresh' (Kd.N_lt (by (with_reducible repeat (first|apply Kd.Q4g|apply Kd.Q4h|apply Kd.Q5a));exact cA.out)) k_ hk,Kd.fresh' (Kd.N_lt (by (with_reducible repeat (first|apply Kd.Q4g|apply Kd.Q4h|apply Kd.Q5a));exact dA.out)) k_ hk,Kd.freshB (g:=aA) (o:=.cells #[.slice none 0 0,.slice none 0 0,.slice none 0 0] 25 (0,0)) (bK bA) k_ hk⟩) _ (Nat.le_refl _)) (Below.refl _ _) (Nat.le_refl _) (by simp) ?_;(case hd=>rfl);(case hg=>rfl);(case hr=>first|(go_simp;done)|(go_simp;rfl));(case hp=>exact (Reps.one (show Kd.FK (Kd.slice 3 (Kd.int .i64)) _ _ vA [.slice rB vA.length sB] from (Kd.Q5l (Kd.Q0w (Kd.Q1q (ok':=(fun k_=>(w.heap.size≤k_)∧some k_≠(gA:Value).ownBlock∧some k_≠(aB:Value).ownBlock∧k_≠aA)) (Kd.Q2y (Kd.Q3s (Kd.Q3s (sA.out) (Kd.Q51 cA.out) (by decide)) (Kd.Q51 dA.out) (by decide)) bA.out (by decide)) (fun k_ hk=>⟨hk.1.1.1.1,⟨hk.1.1.2,⟨hk.1.2,hk.2⟩⟩⟩))).2.1 (Kd.R_F (Kd.Q1q (ok':=(fun k_=>(w.heap.size≤k_)∧some k_≠(gA:Value).ownBlock∧some k_≠(aB:Value).ownBlock∧k_≠aA)) (Kd.Q2y (Kd.Q3s (Kd.Q3s (sA.out) (Kd.Q51 cA.out) (by decide)) (Kd.Q51 dA.out) (by decide)) bA.out (by decide)) (fun k_ hk=>⟨hk.1.1.1.1,⟨hk.1.1.2,⟨hk.1.2,hk.2⟩⟩⟩))))) (Reps.none _ _)));intro qC sC pA hb hg_ hnew_;clear hg_ hnew_;(first|rw [← lB.out] at pA|(simp only [Int.reduceToNat] at pA;rw [← lB.out] at pA));replace cA:=AM (Kd.Q5i (by (with_reducible repeat (first|apply Kd.Q4g|apply Kd.Q4h|apply Kd.Q5a));exact cA.out) (Kd.Qch pA) hb);replace dA:=AM (Kd.Q5i (by (with_reducible repeat (first|apply Kd.Q4g|apply Kd.Q4h|apply Kd.Q5a));exact dA.out) (Kd.Qch pA) hb);have mB:=AM (Kd.Q9l pA (Q0h (bH HB)));replace bA:=kB bA hb;replace HB:=kH HB hb;clear sA;clear hb pA;obtain ⟨dB,eB,aC⟩:=Kd.Q4f mB.out;subst aC;obtain ⟨bB,cB,bC⟩:=Kd.Q4f dA.out;subst bC;obtain ⟨xA,yA,cC⟩:=Kd.Q4f cA.out;subst cC;obtain ⟨tB,uB,vB,wB,xB,yB⟩:=c3 bA))
 refine bodyPost_ret (results_cell_row rfl _ _ aA 25 #[.slice xA fA.length yA,.slice bB kA.length cB,.slice dB zA.length eB] (0,0) _ rfl (by (with_reducible repeat (first|refine Q0c ?_ _|refine Q0d ?_|refine Q0b ?_ _));refine Q0u (cs:=#[.slice xA fA.length yA,.slice bB kA.length cB,.slice none 0 0]) ?_ 2 _ rfl;(with_reducible repeat (first|refine Q0c ?_ _|refine Q0d ?_|refine Q0b ?_ _));refine Q0u (cs:=#[.slice xA fA.length yA,.slice none 0 0,.slice none 0 0]) ?_ 1 _ rfl;(with_reducible repeat (first|refine Q0c ?_ _|refine Q0d ?_|refine Q0b ?_ _));refine Q0u (cs:=#[.slice none 0 0,.slice none 0 0,.slice none 0 0]) ?_ 0 _ rfl;(with_reducible repeat (first|refine Q0c ?_ _|refine Q0d ?_|refine Q0b ?_ _));exact bA.out) Try.underlying25 rfl (by kernel_rfl)) rfl ?_
 exact ⟨_,_,_,rE,by (with_reducible repeat (first|apply Kd.Q4g|apply Kd.Q4h|apply Kd.Q5a));exact Kd.Q6y (Kd.Q7u (p:=⟨aA,2,none⟩) (Kd.Q7u (p:=⟨aA,1,none⟩) (Kd.Q7u (p:=⟨aA,0,none⟩) (Kd.Q6y cA.out (fun k_ hk=>(⟨hk,hk.1.1.1.1.2⟩:_∧k_≠aA))) (fun _ hk=>hk.2) (.slice xA fA.length yA)) (fun _ hk=>hk.2) (.slice bB kA.length cB)) (fun _ hk=>hk.2) (.slice dB zA.length eB)) (fun _ hk=>⟨hk.1.1.1.1.1.1,⟨hk.1.1.1.2,hk.1.2⟩⟩),by (with_reducible repeat (first|apply Kd.Q4g|apply Kd.Q4h|apply Kd.Q5a));exact Kd.Q6y (Kd.Q7u (p:=⟨aA,2,none⟩) (Kd.Q7u (p:=⟨aA,1,none⟩) (Kd.Q7u (p:=⟨aA,0,none⟩) (Kd.Q6y dA.out (fun k_ hk=>(⟨hk,hk.1.1.2.2⟩:_∧k_≠aA))) (fun _ hk=>hk.2) (.slice xA fA.length yA)) (fun _ hk=>hk.2) (.slice bB kA.length cB)) (fun _ hk=>hk.2) (.slice dB zA.length eB)) (fun _ hk=>⟨hk.1.1.1.1,⟨hk.1.1.1.2.1,hk.1.2⟩⟩),by (with_reducible repeat (first|apply Kd.Q4g|apply Kd.Q4h|apply Kd.Q5a));exact Kd.Q6y (Kd.Q7u (p:=⟨aA,2,none⟩) (Kd.Q7u (p:=⟨aA,1,none⟩) (Kd.Q7u (p:=⟨aA,0,none⟩) (Kd.Q6y mB.out (fun k_ hk=>(⟨hk,hk.2.2.2⟩:_∧k_≠aA))) (fun _ hk=>hk.2) (.slice xA fA.length yA)) (fun _ hk=>hk.2) (.slice bB kA.length cB)) (fun _ hk=>hk.2) (.slice dB zA.length eB)) (fun _ hk=>⟨hk.1.1,⟨hk.1.2.1,hk.1.2.2.1⟩⟩),bH HB⟩
end Go.Proofs.Ytbonkedecfjmdaa.P

namespace Go.Proofs.Ytbonkedecfjmdaa.Pl
set_option linter.unusedVariables false
set_option linter.unusedSimpArgs false
open Go Go.RowKit Go.Proofs.YtbonkedecfjmdaaW.PrintWords Go.Proofs.YtbonkedecfjmdaaW.PrintLast Go.Proofs.YtbonkedecfjmdaaW.PrintMore
variable {α:Type}
def Hds (d:Kd α) (w:World) (xs:List α) (H:List (List Value)):Prop:=H.length=xs.length∧∀ (j:Nat) (x:α),xs[j]? = some x→∃ c,H[j]? = some c∧d.K w x c
theorem Hds.of_C {d:Kd α} {w:World} {A:Option Addr} {xs:List α} (h:d.C w A xs.length xs):∃ H,Hds d w xs H∧(Kd.raw d.sz).C w A xs.length H:=by
 cases xs with
 | nil=>exact ⟨[],⟨rfl,fun j x hj=>by simp at hj⟩,rfl,by simp,fun h0=>absurd h0 (Nat.lt_irrefl 0)⟩
 | cons y ys =>
  obtain ⟨h1,h2,h3⟩:=h
  obtain ⟨ad,rfl,hc⟩:=h3 (by simp)
  generalize y :: ys=xs at *
  have key:∀ n,n≤xs.length→∃ H:List (List Value),H.length=n∧∀ (j:Nat) (x:α),j<n→xs[j]? = some x→∃ c,H[j]? = some c∧d.K w x c∧∀ i u,c[i]? = some u→w.cell? (ad.add (j*d.sz+i))=some u:=by
   intro n
   induction n with
   | zero=>exact fun _=>⟨[],rfl,fun j x hj=>absurd hj (Nat.not_lt_zero _)⟩
   | succ n ih =>
    intro hn
    obtain ⟨H,hl,hH⟩:=ih (by omega)
    obtain ⟨c,q1,q2,q3⟩:=hc n _ (List.getElem?_eq_getElem (show n<xs.length by omega))
    refine ⟨H++[c],by simp [hl],fun j x hj hx => ?_⟩
    rcases Nat.lt_or_ge j n with hlt|hge
    ·obtain ⟨c',e1,e2⟩:=hH j x hlt hx
     exact ⟨c',by rw [List.getElem?_append_left (by omega)];exact e1,e2⟩
    ·obtain rfl:j=n:=by omega
     rw [List.getElem?_eq_getElem (by omega)] at hx
     injection hx with hx
     subst hx
     exact ⟨c,by rw [List.getElem?_append_right (by omega),hl,Nat.sub_self];rfl,q2,q3⟩
  obtain ⟨H,hl,hH⟩:=key xs.length (Nat.le_refl _)
  have hj:∀ (j:Nat) (x:α),xs[j]? = some x→j<xs.length:=fun j x hx=>by
   rw [List.getElem?_eq_some_iff] at hx
   exact hx.1
  refine ⟨H,⟨hl,fun j x hx => ?_⟩,hl,h2,fun _=>⟨ad,rfl,fun j c hc' => ?_⟩⟩
  ·obtain ⟨c,e1,e2,_⟩:=hH j x (hj j x hx) hx
   exact ⟨c,e1,e2⟩
  ·have hlt:j<xs.length:=by
    rw [List.getElem?_eq_some_iff] at hc'
    obtain ⟨q,_⟩:=hc'
    omega
   obtain ⟨c2,e1,e2,e3⟩:=hH j _ hlt (List.getElem?_eq_getElem hlt)
   rw [hc'] at e1
   injection e1 with e1
   subst e1
   exact ⟨c,d.K_len e2,⟨rfl,d.K_len e2,d.K_one e2⟩,e3⟩
theorem Hds.to_C {d:Kd α} {w:World} {A:Option Addr} {xs:List α} {H:List (List Value)} (hh:Hds d w xs H) (h:(Kd.raw d.sz).C w A H.length H):d.C w A xs.length xs:=by
 obtain ⟨hl,hh⟩:=hh
 obtain ⟨h1,h2,h3⟩:=h
 refine ⟨rfl,by omega,fun h0 => ?_⟩
 obtain ⟨ad,rfl,hc⟩:=h3 (by omega)
 refine ⟨ad,rfl,fun j x hx => ?_⟩
 obtain ⟨c,e1,e2⟩:=hh j x hx
 obtain ⟨c',q1,⟨rfl,q2,_⟩,q3⟩:=hc j c e1
 exact ⟨_,q1,e2,q3⟩
theorem Hds.below {d:Kd α} {w w1:World} {xs:List α} {H:List (List Value)} (h:Hds d w xs H) (hb:Below w.heap.size w w1):Hds d w1 xs H :=
 ⟨h.1,fun j x hx=>by
  obtain ⟨c,e1,e2⟩:=h.2 j x hx
  exact ⟨c,e1,d.K_below hb e2⟩⟩
theorem Hds.take {d:Kd α} {w:World} {xs:List α} {H:List (List Value)} (h:Hds d w xs H) (k:Nat):Hds d w (xs.take k) (H.take k) :=
 ⟨by rw [List.length_take,List.length_take,h.1],fun j x hx=>by
  rw [List.getElem?_take] at hx
  split at hx
  ·rename_i hj
   obtain ⟨c,e1,e2⟩:=h.2 j x hx
   exact ⟨c,by rw [List.getElem?_take,if_pos hj];exact e1,e2⟩
  ·cases hx⟩
theorem Hds.drop {d:Kd α} {w:World} {xs:List α} {H:List (List Value)} (h:Hds d w xs H) (k:Nat):Hds d w (xs.drop k) (H.drop k) :=
 ⟨by rw [List.length_drop,List.length_drop,h.1],fun j x hx=>by
  rw [List.getElem?_drop] at hx
  obtain ⟨c,e1,e2⟩:=h.2 (k+j) x hx
  exact ⟨c,by rw [List.getElem?_drop];exact e1,e2⟩⟩
theorem Hds.append {d:Kd α} {w:World} {xs ys:List α} {H G:List (List Value)} (h:Hds d w xs H) (h':Hds d w ys G):Hds d w (xs++ys) (H++G) :=
 ⟨by rw [List.length_append,List.length_append,h.1,h'.1],fun j x hx=>by
  rcases Nat.lt_or_ge j xs.length with hlt|hge
  ·rw [List.getElem?_append_left hlt] at hx
   obtain ⟨c,e1,e2⟩:=h.2 j x hx
   exact ⟨c,by rw [List.getElem?_append_left (by rw [h.1];exact hlt)];exact e1,e2⟩
  ·rw [List.getElem?_append_right hge] at hx
   obtain ⟨c,e1,e2⟩:=h'.2 _ x hx
   exact ⟨c,by rw [List.getElem?_append_right (by rw [h.1];exact hge),h.1];exact e1,e2⟩⟩
theorem Qh1 {l:List α} (k:Nat) (hk:k<l.length) (i:Nat) (hi:i<l.length):(l.drop k++l.take k)[i]? = l[(i+k) % l.length]? := by
 rcases Nat.lt_or_ge (i+k) l.length with h|h
 ·rw [List.getElem?_append_left (by rw [List.length_drop];omega),List.getElem?_drop,Nat.mod_eq_of_lt h,Nat.add_comm]
 ·rw [List.getElem?_append_right (by rw [List.length_drop];omega),List.length_drop,List.getElem?_take,if_pos (by omega)]
  congr 1
  rw [Nat.mod_eq_sub_mod h,Nat.mod_eq_of_lt (by omega)]
  omega
end Go.Proofs.Ytbonkedecfjmdaa.Pl

namespace Go.Proofs.Ytbonkedecfjmdaa.Pl
set_option linter.unusedVariables false
set_option linter.unusedSimpArgs false
open Go Go.RowKit Go.Proofs.Ytbonkedecfjmdaa.P Go.Proofs.YtbonkedecfjmdaaW.PrintWords Go.Proofs.YtbonkedecfjmdaaW.PrintLast Go.Proofs.YtbonkedecfjmdaaW.PrintMore
def oneM:List (List S27):=[[⟨0,0,0⟩,⟨1,0,0⟩,⟨0,1,0⟩,⟨0,0,0⟩]]
theorem Qe5 {w:World} {g:Nat} {A:Option Addr} {c:Nat} {l:List Int} (h:w.cell? ⟨g,0,none⟩=some (.slice A l.length c)) (hl:l.length≤c) (hC:Kd.C (Kd.int .i64) w A l.length l):Kd.C (Kd.slice 3 (Kd.int .i64)) w (some ⟨g,0,none⟩) [l].length [l] :=
 ⟨rfl,by show 1≤9223372036854775807;decide,fun _=>⟨_,rfl,fun j p hj=>by
  cases j with
  | zero =>
   injection hj with hj
   subst hj
   refine ⟨[.slice A l.length c],rfl,⟨A,c,rfl,hl,hC⟩,fun i u hu => ?_⟩
   cases i with
   | zero =>
    injection hu with hu
    subst hu
    exact h
   | succ i=>cases hu
  | succ j=>cases hj⟩⟩
set_option maxHeartbeats 8000000 in
set_option maxRecDepth 100000 in
theorem Q9o (w:World):Calls Try.prog 9 #[] w fun e w'=>e=.returned (.bool true)∧Below w.heap.size w w':=by
 have hu25:=Try.underlying25
 have hone:=fun W=>Qb3.calls oneM [[0]] [[0]] W rfl
 obtain ⟨KW,hKW⟩:Ev (fun k=>Q0x.f k oneM [[0]] [[0]] 0 0 0) ([0],0):=Ev.of (fun k=>Q0x.mono _ _ _ _ _ _ k) (k:=60) (by decide +kernel)
 obtain ⟨K1,hK1⟩:Ev (fun k=>Q0y.f k oneM [[0]] [[0]]) 0:=Ev.of (fun k=>Q0y.mono _ _ _ k) (k:=60) (by decide +kernel)
 obtain ⟨K2,hK2⟩:Ev (fun k=>Q0y.f k oneM [[-1]] [[0]]) 92:=Ev.of (fun k=>Q0y.mono _ _ _ k) (k:=60) (by decide +kernel)
 obtain ⟨K3,hK3⟩:Ev (fun k=>Q07.f k [0] [0]) true:=Ev.of (fun k=>Q07.mono _ _ k) (k:=60) (by decide +kernel)
 have hwhere:=fun W A0 A1 A2 c0 c1 c2 q0 g0 q1 g1 q2 g2=>Q0x.calls KW A0 c0 oneM A1 c1 [[0]] A2 c2 [[0]] 0 0 0 [0] 0 W q0 g0 q1 g1 q2 g2 (hKW KW (Nat.le_refl _))
 have hcheck:=fun W A0 A1 A2 c0 c1 c2 q0 g0 q1 g1 q2 g2=>Q0y.calls K1 A0 c0 oneM A1 c1 [[0]] A2 c2 [[0]] 0 W q0 g0 q1 g1 q2 g2 (hK1 K1 (Nat.le_refl _))
 have hcheck2:=fun W A0 A1 A2 c0 c1 c2 q0 g0 q1 g1 q2 g2=>Q0y.calls K2 A0 c0 oneM A1 c1 [[-1]] A2 c2 [[0]] 92 W q0 g0 q1 g1 q2 g2 (hK2 K2 (Nat.le_refl _))
 have hsame:=fun W A0 A1 c0 c1 q0 g0 q1 g1=>Q07.calls K3 A0 c0 [0] A1 c1 [0] true W q0 g0 q1 g1 (hK3 K3 (Nat.le_refl _))
 clear hKW hK1 hK2 hK3
 generalize oneM=M at *
 go_enter Try.func9,Try.ntmps9
 go_upto_region 2 with (first|(go_at_call 30;refine (hone _).mono ?_;rintro e w1 ⟨v0,v1,v2,rfl,h0,h1,h2,hb1⟩;obtain ⟨A0,c0,e0⟩:=Kd.Q4f h0;subst e0;obtain ⟨A1,c1,e1⟩:=Kd.Q4f h1;subst e1;obtain ⟨A2,c2,e2⟩:=Kd.Q4f h2;subst e2)|((with_reducible refine Q0i (N:=1) rfl ?_);refine Q8b ?hg (N:=1) ?hd (cs:=#[.slice none 0 0,.slice none 0 0,.slice none 0 0]) (t:=25) ?hr ?_;(case hd=>rfl);(case hg=>rfl);(case hr=>first|(go_simp;done)|(go_simp;rfl));intro g1 hg w2 hbox hb2;have hge:w1.heap.size≤g1:=Nat.le_of_eq hg.symm;clear hg;have x0:w2.cell? ⟨g1,0,none⟩=some (.slice none 0 0):=(Q0v hbox 0).trans rfl;have x1:w2.cell? ⟨g1,1,none⟩=some (.slice none 0 0):=(Q0v hbox 1).trans rfl;have x2:w2.cell? ⟨g1,2,none⟩=some (.slice none 0 0):=(Q0v hbox 2).trans rfl;have f0:=Q0k hbox 0;have f1:=Q0k hbox 1;have f2:=Q0k hbox 2))
 clear x0 x1 x2 f0 f1 f2
 have hb1':=hb1
 have r0:=(Kd.Q3i h0).2
 have r1:=(Kd.Q3i h1).2
 have r2:=(Kd.Q3i h2).2
 clear h0 h1 h2
 have hg3:=Q0u (cs':=#[.slice A0 M.length c0,.slice A1 1 c1,.slice A2 1 c2]) (Q0u (Q0u hbox 0 (.slice A0 M.length c0) rfl) 1 (.slice A1 1 c1) rfl) 2 (.slice A2 1 c2) rfl
 have hb3:Below w1.heap.size w1 (((w2.setCell ⟨g1,0,none⟩ (.slice A0 M.length c0)).setCell ⟨g1,1,none⟩ (.slice A1 1 c1)).setCell ⟨g1,2,none⟩ (.slice A2 1 c2)):=Q2x (Q2x (Q2x hb2 hge) hge) hge
 generalize ((w2.setCell ⟨g1,0,none⟩ (.slice A0 M.length c0)).setCell ⟨g1,1,none⟩ (.slice A1 1 c1)).setCell ⟨g1,2,none⟩ (.slice A2 1 c2)=w3 at hg3 hb3 ⊢
 clear hbox hb2
 have x1:w3.cell? ⟨g1,1,none⟩=some (.slice A1 1 c1):=(Q0v hg3 1).trans rfl
 have f1:=Q0k hg3 1
 have hlt:=Q25 hg3
 have hne1:g1≠w3.heap.size:=by omega
 have hne2:g1≠w3.heap.size+1:=by omega
 go_upto_region 3 with (fail)
 clear x1 f1
 have hg4:=Q0u (cs':=#[.slice A0 M.length c0,.slice (some ⟨w3.heap.size+1,0,none⟩) 1 1,.slice A2 1 c2]) hg3 1 (.slice (some ⟨w3.heap.size+1,0,none⟩) 1 1) rfl
 have hb4:=Q2x (v:=.slice (some ⟨w3.heap.size+1,0,none⟩) 1 1) (j:=1) hb3 hge
 have s4:(w3.setCell ⟨g1,1,none⟩ (.slice (some ⟨w3.heap.size+1,0,none⟩) 1 1)).heap.size=w3.heap.size:=by simp
 generalize w3.setCell ⟨g1,1,none⟩ (.slice (some ⟨w3.heap.size+1,0,none⟩) 1 1)=w4 at hg4 hb4 s4 ⊢
 have hn4:=heap_alloc_new w4 (.cells #[.int .i64 (-1)] 3)
 have s5:(w4.alloc (.cells #[.int .i64 (-1)] 3)).heap.size=w3.heap.size+1:=by simp [s4]
 have hg5:=Q0b hg4 (.cells #[.int .i64 (-1)] 3)
 have hb5:=Q14 hb4 (.cells #[.int .i64 (-1)] 3)
 rw [s4] at hn4
 generalize w4.alloc (.cells #[.int .i64 (-1)] 3)=w5 at hn4 s5 hg5 hb5 ⊢
 have hn5:=heap_alloc_new w5 (.cells #[.slice (some ⟨w3.heap.size,0,none⟩) 1 1] 32)
 have hn4:=Q0b hn4 (.cells #[.slice (some ⟨w3.heap.size,0,none⟩) 1 1] 32)
 have hg6:=Q0b hg5 (.cells #[.slice (some ⟨w3.heap.size,0,none⟩) 1 1] 32)
 have hb6:=Q14 hb5 (.cells #[.slice (some ⟨w3.heap.size,0,none⟩) 1 1] 32)
 rw [s5] at hn5
 generalize w5.alloc (.cells #[.slice (some ⟨w3.heap.size,0,none⟩) 1 1] 32)=w6 at hn4 hn5 hg6 hb6 ⊢
 have hi:Kd.C (Kd.int .i64) w6 (some ⟨w3.heap.size,0,none⟩) [(-1:Int)].length [-1]:=Qcs w6 w3.heap.size [-1] 3 (0,0) hn4 (by decide)
 have hr6:Kd.C (Kd.slice 3 (Kd.int .i64)) w6 (some ⟨w3.heap.size+1,0,none⟩) [[(-1:Int)]].length [[-1]]:=Qe5 ((Q0v hn5 0).trans rfl) (Nat.le_refl _) hi
 have hm6:=Kd.Q12 r0.2 hb6
 have hp6:=Kd.Q12 r2.2 hb6
 have hcheck2':=fun W (h:Below w6.heap.size w6 W)=>hcheck2 W A0 (some ⟨w3.heap.size+1,0,none⟩) A2 c0 1 c2 (Kd.Q12 hm6 h) r0.1 (Kd.Q12 hr6 h) (Nat.le_refl _) (Kd.Q12 hp6 h) r2.1
 have hcell:=fun W (h:Below w6.heap.size w6 W)=>(show W.cell? ⟨g1,0,none⟩=some (.slice A0 M.length c0)∧W.cell? ⟨g1,1,none⟩=some (.slice (some ⟨w3.heap.size+1,0,none⟩) 1 1)∧W.cell? ⟨g1,2,none⟩=some (.slice A2 1 c2) from ⟨(Q0v (Q1p hg6 h) 0).trans rfl,(Q0v (Q1p hg6 h) 1).trans rfl,(Q0v (Q1p hg6 h) 2).trans rfl⟩)
 have hB6:=Q0j hb1' hb6
 clear hcheck2 hn4 hn5 hi hr6 hm6 hp6 hg6 hb6 s4 s5 hg4 hb4 hg5 hb5 hg3 hb3 hlt hne1 hne2 hge r0 r1 r2 hb1 hb1'
 go_upto_region 4 with (first|(go_at_call 30;refine (hone _).mono ?_;rintro e w7 ⟨v0,v1,v2,rfl,h0,h1,h2,hb7⟩;obtain ⟨B0,d0,e0⟩:=Kd.Q4f h0;subst e0;obtain ⟨B1,d1,e1⟩:=Kd.Q4f h1;subst e1;obtain ⟨B2,d2,e2⟩:=Kd.Q4f h2;subst e2)|(go_at_call 10;refine (hwhere _ _ _ _ _ _ _ (Kd.Q3i h0).2.2 (Kd.Q3i h0).2.1 (Kd.Q3i h1).2.2 (Kd.Q3i h1).2.1 (Kd.Q3i h2).2.2 (Kd.Q3i h2).2.1).mono ?_;rintro e w8 ⟨v8,rfl,hR8,hb8⟩;obtain ⟨C8,f8,e8⟩:=Kd.Q01 hR8;subst e8))
 have hB8:=Q0j hb7 hb8
 have hW8:=Q0j hB6 hB8
 have hC8:=(Kd.Q0w hR8).2
 clear h0 h1 h2 hb7 hb8 hR8
 have hsame':=fun (W:World) (h:Below w8.heap.size w8 W) (g:Nat) (hg:W.heap[g]? = some (.cells #[.int .i64 0] 3 (0,0)))=>hsame W C8 (some ⟨g,0,none⟩) f8 1 (Kd.Q12 hC8.2 h) hC8.1 (Qcs W g [0] 3 (0,0) hg (by decide)) (Nat.le_refl _)
 clear hsame hwhere hC8
 go_wp2_with (first|(go_at_call 30;refine (hone _).mono ?_;rintro e w9 ⟨v0,v1,v2,rfl,h0,h1,h2,hb9⟩;obtain ⟨D0,d0',e0⟩:=Kd.Q4f h0;subst e0;obtain ⟨D1,d1',e1⟩:=Kd.Q4f h1;subst e1;obtain ⟨D2,d2',e2⟩:=Kd.Q4f h2;subst e2)|(go_at_call 31;refine (hcheck _ _ _ _ _ _ _ (Kd.Q3i h0).2.2 (Kd.Q3i h0).2.1 (Kd.Q3i h1).2.2 (Kd.Q3i h1).2.1 (Kd.Q3i h2).2.2 (Kd.Q3i h2).2.1).mono ?_;rintro e w10 ⟨rfl,hb10⟩;clear h0 h1 h2;have hB10:=Q0j hb9 hb10;have hB10':=Q0j hB8 hB10;obtain ⟨y0,y1,y2⟩:=hcell _ hB10')|(go_at_call 31;refine (hcheck2' _ hB10').mono ?_;rintro e w11 ⟨rfl,hb11⟩;clear y0 y1 y2;have hB11:=Q0j hB10 hb11)|(go_at_call 11;refine (hsame' _ (Q14 hB11 _) w11.heap.size (heap_alloc_new _ _)).mono ?_;rintro e w12 ⟨rfl,hd12⟩))
 go_ret
 exact ⟨rfl,Q0j hW8 (Q0j (Q14 hB11 _) hd12.below)⟩
end Go.Proofs.Ytbonkedecfjmdaa.Pl

namespace Go.Proofs.Ytbonkedecfjmdaa.P
open Go.RowKit Go.Proofs.YtbonkedecfjmdaaW.PrintWords Go.Proofs.YtbonkedecfjmdaaW.PrintLast Go.Proofs.YtbonkedecfjmdaaW.PrintMore Go.Proofs.Ytbonkedecfjmdaa.X
attribute [local go_sem] Q2a Q2b Q2s Q2q Q1z Q1y Q19 Q2c Q2r Q2p add64
set_option linter.unusedVariables false
set_option linter.unusedSimpArgs false
def Q22.f  : Option (Bool):=some true
set_option maxHeartbeats 8000000 in
set_option maxRecDepth 100000 in
theorem Q22.calls  (r:Bool) (w:World) (h:Q22.f  = some r) :
  Calls Try.prog 9 #[] w fun e w'=>e=.returned (.bool r)∧Below w.heap.size w w':=by
 unfold Q22.f at h
 obtain rfl:=Option.some.inj h
 exact Pl.Q9o w
end Go.Proofs.Ytbonkedecfjmdaa.P
