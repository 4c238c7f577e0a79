/- The document's check whether arcs meet: the value. No condition. The document's check of a whole map: the value is the program's. No condition. What is long, and what the example fixes: the values. No condition. What the laws of a point in a map share. No condition. -/
import Derived.Test.YtbonkedecfjmdaaZ32
import Derived.Test.YtbonkedecfjmdaaZ30
import Derived.Test.YtbonkedecfjmdaaZ25
import Derived.Test.YtbonkedecfjmdaaZ11
import Derived.Test.YtbonkedecfjmdaaZ3
import Derived.Test.YtbonkedecfjmdaaZ19
import Derived.Test.YtbonkedecfjmdaaZ28

namespace Go.Proofs.Ytbonkedecfjmdaa.Pl
set_option linter.unusedVariables false
set_option linter.unusedSimpArgs false
open Go.RowKit Go.Proofs.Ytbonkedecfjmdaa.P Go.Proofs.Ytbonkedecfjmdaa.G Go.Proofs.Ytbonkedecfjmdaa.WL Go.Proofs.YtbonkedecfjmdaaW.PrintWords Go.Proofs.YtbonkedecfjmdaaW.PrintLast Go.Proofs.YtbonkedecfjmdaaW.PrintMore
theorem ite2 (A B R:Bool):(if (A&&B)=true then R else true)=(if A=true then (if B=true then R else true) else true):=by cases A<;>rfl
structure Fit (m:List (List Pt)):Prop where
 n:m.length≤2000
 x:∀ a∈m,a.length≤20000
 t:∀ a∈m,2≤a.length
theorem Qhb {m:List (List Pt)} (h:arcsV m=0):Fit m:=by
 obtain ⟨h1,h2⟩:=Q5h h
 refine ⟨h1,h2,fun a ha => ?_⟩
 unfold arcsV at h
 split at h
 ·cases h
 ·split at h
  ·rename_i hk
   have:=List.all_eq_true.1 hk a ha
   unfold okArc at this
   rw [Bool.and_eq_true,decide_eq_true_iff] at this
   exact this.1
  ·cases h
theorem Q9v (m:List (List Pt)) (x:Nat) (h:x<m.length):m.getD x []=m[x]:=by simp [List.getD,List.getElem?_eq_getElem h]
theorem Qd0 {m:List (List Pt)} (hf:Fit m) (r p:List (List Int)) (x y i k:Nat) (hx:x<m.length) (hy:y<m.length) (hi:i+1<m[x].length) (hk:k+1<m[y].length) (b R:Bool) (hb:b=(decide (x=y)&&decide (i=k)))
  (next:Ev (fun q=>Q0n.l3 q (x:Int) (y:Int) (i:Int) ((k+1:Nat):Int) m r p) R):Ev (fun q=>Q0n.j4 q (x:Int) (y:Int) (i:Int) (k:Int) b m r p) (if pairOk m x i y k=true then R else true):=by
 have bx:=hf.x _ (List.getElem_mem hx)
 have by_:=hf.x _ (List.getElem_mem hy)
 unfold pairOk
 rw [← hb,Q9v m x hx,Q9v m y hy]
 cases b with
 | true =>
  rw [Bool.true_or,if_pos rfl]
  refine Ev.step (fun q => ?_) next
  conv=>lhs;simp only [Q0n.j4]
  rw [if_pos trivial,nxt k (by omega)]
 | false =>
  rw [Bool.false_or]
  have e:((x:Int)==(y:Int))=decide (x=y):=by rw [Bool.eq_iff_iff,beq_iff_eq,decide_eq_true_iff];omega
  have hc:Q3z.f m[x] (i:Int) m[y] (k:Int) (decide (x=y))=some (commonV m[x] i m[y] k (decide (x=y))):=by
   unfold Q3z.f
   rw [if_pos ⟨by omega,by omega,by omega,by omega,by omega,by omega⟩,Int.toNat_natCast,Int.toNat_natCast]
  cases hv:commonV m[x] i m[y] k (decide (x=y)) with
  | true =>
   rw [if_pos rfl]
   refine Ev.step (fun q => ?_) next
   conv=>lhs;simp only [Q0n.j4]
   rw [if_neg Bool.false_ne_true,if_pos (by omega),if_pos (by omega),if_pos (by omega),if_pos (by omega),Q30 m x hx,Q30 m y hy,e,hc,hv,Option.bind_some,if_pos rfl,nxt k (by omega)]
  | false =>
   rw [if_neg (by decide)]
   refine Ev.step (f:=fun _=>some true) (fun q => ?_) (Ev.now _)
   conv=>lhs;simp only [Q0n.j4]
   rw [if_neg Bool.false_ne_true,if_pos (by omega),if_pos (by omega),if_pos (by omega),if_pos (by omega),Q30 m x hx,Q30 m y hy,e,hc,hv,Option.bind_some,if_neg (by decide)]
theorem Qd8 {m:List (List Pt)} (hf:Fit m) (r p:List (List Int)) (x y i:Nat) (hx:x<m.length) (hy:y<m.length) (hi:i+1<m[x].length) (R:Bool)
  (next:Ev (fun q=>Q0n.l2 q (x:Int) (y:Int) ((i+1:Nat):Int) m r p) R):∀ n k:Nat,k+n+1=m[y].length→Ev (fun q=>Q0n.l3 q (x:Int) (y:Int) (i:Int) (k:Int) m r p) (if ((List.range' k n).all fun k=>pairOk m x i y k)=true then R else true):=by
 have bx:=hf.x _ (List.getElem_mem hx)
 have by_:=hf.x _ (List.getElem_mem hy)
 intro n
 induction n with
 | zero =>
  intro k hk
  refine Ev.step (fun q => ?_) next
  conv=>lhs;simp only [Q0n.l3]
  rw [if_pos (by omega),if_pos (by omega),Q30 m y hy,nxt k (by omega),if_neg (by omega),nxt i (by omega)]
 | succ n ih =>
  intro k hk
  have I:=Qd0 hf r p x y i k hx hy hi (by omega) _ _ rfl (ih (k+1) (by omega))
  rw [List.range'_succ,List.all_cons,ite2]
  refine Ev.step (fun q => ?_) I
  conv=>lhs;simp only [Q0n.l3]
  rw [if_pos (by omega),if_pos (by omega),Q30 m y hy,nxt k (by omega),if_pos (by omega)]
  by_cases h:x=y
  ·rw [if_pos (by omega),decide_eq_true h,Bool.true_and]
   congr 1
   rw [Bool.eq_iff_iff,beq_iff_eq,decide_eq_true_iff];omega
  ·rw [if_neg (by omega),decide_eq_false h,Bool.false_and]
def rowOk (m:List (List Pt)) (x y i:Nat):Bool:=(List.range' 0 ((m.getD y []).length - 1)).all fun k=>pairOk m x i y k
theorem Qd2 {m:List (List Pt)} (hf:Fit m) (r p:List (List Int)) (x y:Nat) (hx:x<m.length) (hy:y<m.length) (R:Bool)
  (next:Ev (fun q=>Q0n.l1 q (x:Int) ((y+1:Nat):Int) m r p) R):∀ n i:Nat,i+n+1=m[x].length→Ev (fun q=>Q0n.l2 q (x:Int) (y:Int) (i:Int) m r p) (if ((List.range' i n).all fun i=>rowOk m x y i)=true then R else true):=by
 have bx:=hf.x _ (List.getElem_mem hx)
 have by_:=hf.x _ (List.getElem_mem hy)
 have ty:=hf.t _ (List.getElem_mem hy)
 have hn:=hf.n
 intro n
 induction n with
 | zero =>
  intro i hi
  refine Ev.step (fun q => ?_) next
  conv=>lhs;simp only [Q0n.l2]
  rw [if_pos (by omega),if_pos (by omega),Q30 m x hx,nxt i (by omega),if_neg (by omega),nxt y (by omega)]
 | succ n ih =>
  intro i hi
  have I:=Qd8 hf r p x y i hx hy (by omega) _ (ih (i+1) (by omega)) (m[y].length - 1) 0 (by omega)
  rw [List.range'_succ,List.all_cons,ite2]
  unfold rowOk at I ⊢
  rw [Q9v m y hy] at I ⊢
  refine Ev.step (fun q => ?_) I
  conv=>lhs;simp only [Q0n.l2]
  rw [if_pos (by omega),if_pos (by omega),Q30 m x hx,nxt i (by omega),if_pos (by omega)]
  rfl
def arcOk (m:List (List Pt)) (x y:Nat):Bool:=(List.range' 0 ((m.getD x []).length - 1)).all fun i=>rowOk m x y i
theorem Qdy {m:List (List Pt)} (hf:Fit m) (r p:List (List Int)) (x:Nat) (hx:x<m.length) (R:Bool)
  (next:Ev (fun q=>Q0n.l0 q ((x+1:Nat):Int) m r p) R):∀ n y:Nat,y+n=m.length→Ev (fun q=>Q0n.l1 q (x:Int) (y:Int) m r p) (if ((List.range' y n).all fun y=>arcOk m x y)=true then R else true):=by
 have tx:=hf.t _ (List.getElem_mem hx)
 have hn:=hf.n
 intro n
 induction n with
 | zero =>
  intro y hy
  refine Ev.step (fun q => ?_) next
  conv=>lhs;simp only [Q0n.l1]
  rw [if_neg (by omega),nxt x (by omega)]
 | succ n ih =>
  intro y hy
  have I:=Qd2 hf r p x y hx (by omega) _ (ih (y+1) (by omega)) (m[x].length - 1) 0 (by omega)
  rw [List.range'_succ,List.all_cons,ite2]
  unfold arcOk at I ⊢
  rw [Q9v m x hx] at I ⊢
  refine Ev.step (fun q => ?_) I
  conv=>lhs;simp only [Q0n.l1]
  rw [if_pos (by omega)]
  rfl
theorem Qdg {m:List (List Pt)} (hf:Fit m) (r p:List (List Int)):∀ n x:Nat,x+n=m.length→Ev (fun q=>Q0n.l0 q (x:Int) m r p) (if ((List.range' x n).all fun x=>(List.range' 0 m.length).all fun y=>arcOk m x y)=true then false else true):=by
 have hn:=hf.n
 intro n
 induction n with
 | zero =>
  intro x hx
  refine Ev.step (f:=fun _=>some false) (fun q => ?_) (Ev.now _)
  conv=>lhs;simp only [Q0n.l0]
  rw [if_neg (by omega)]
 | succ n ih =>
  intro x hx
  have I:=Qdy hf r p x (by omega) _ (ih (x+1) (by omega)) m.length 0 (by omega)
  rw [List.range'_succ,List.all_cons,ite2]
  refine Ev.step (fun q => ?_) I
  conv=>lhs;simp only [Q0n.l0]
  rw [if_pos (by omega)]
  rfl
theorem Qcg {m:List (List Pt)}:allOk m=((List.range' 0 m.length).all fun x=>(List.range' 0 m.length).all fun y=>arcOk m x y):=rfl
theorem Qbf (m:List (List Pt)) (r p:List (List Int)) (h:arcsV m=0):Ev (fun k=>Q0n.f k m r p) (meetsV m):=by
 have hf:=Qhb h
 have hn:=hf.n
 have hx:∀ a∈m,a.length≤1048576:=fun a ha=>Nat.le_trans (hf.x a ha) (by decide)
 unfold Q0n.f
 refine Ev.bind (Q97 m (by omega) hx) ?_
 rw [h]
 simp only [if_true]
 have I:=Qdg hf r p m.length 0 (by omega)
 rw [← Qcg] at I
 have e:meetsV m=(if allOk m=true then false else true):=by
  unfold meetsV
  rw [h,Qfu]
  cases allOk m<;>rfl
 rw [e]
 exact I

theorem Qf7 (l:List (List Int)) (hl:l.length≤100000000):∀ n i c:Nat,i+n=l.length→c+(l.drop i).flatten.length≤100000000→Ev (fun k=>Q12.l0 k l (c:Int) (i:Int)) ((c+(l.drop i).flatten.length:Nat):Int):=by
 intro n
 induction n with
 | zero =>
  intro i c hi hc
  rw [List.drop_of_length_le (by omega)]
  refine Ev.step (f:=fun _=>some (c:Int)) (fun k => ?_) (Ev.now _)
  simp only [Q12.l0]
  rw [if_neg (by omega)]
 | succ n ih =>
  intro i c hi hc
  have hlt:i<l.length:=by omega
  rw [List.drop_eq_getElem_cons hlt,List.flatten_cons,List.length_append] at hc
  have I:=ih (i+1) (c+l[i].length) (by omega) (by omega)
  rw [List.drop_eq_getElem_cons hlt,List.flatten_cons,List.length_append,← Nat.add_assoc]
  refine Ev.step (fun k => ?_) I
  conv=>lhs;simp only [Q12.l0]
  rw [if_pos (by omega),if_pos (by omega),rdL3 l i hlt,nxt i (by omega)]
  congr 1
  unfold wrap64
  omega
theorem Qc1 (l:List (List Int)) (hl:l.length≤100000000) (hf:l.flatten.length≤100000000):Ev (fun k=>Q12.f k l) ((l.flatten.length:Nat):Int):=by
 have h:=Qf7 l hl l.length 0 0 (by omega) (by rw [List.drop_zero];omega)
 rw [List.drop_zero,Nat.zero_add] at h
 exact h
theorem Q88 (m:List (List Pt)) (r p:List (List Int)) (b:Bool) (hb:b=true→arcsV m=3∨longV m r p=true) (hb2:b=false→¬ arcsV m=3∧longV m r p=false) (hwf:∀ x∈r,∀ n∈x,wf64 n):Ev (fun k=>Q1g.j0 k (arcsV m) b m r p) (checkV m r p):=by
 unfold checkV
 cases b with
 | true =>
  rw [if_pos (hb rfl)]
  exact Ev.step (f:=fun _=>some 3) (fun k=>by simp only [Q1g.j0,if_true]) (Ev.now _)
 | false =>
  obtain ⟨h3,hl⟩:=hb2 rfl
  rw [if_neg (by rw [hl];simpa using h3)]
  by_cases h0:arcsV m=0
  ·obtain ⟨hm,hx⟩:=Q5h h0
   unfold longV at hl
   simp only [Bool.or_eq_false_iff,decide_eq_false_iff_not] at hl
   obtain ⟨l1,l2,l3,l4⟩:=hl
   have hs:Small m r:=⟨hx,by omega,by omega,hwf⟩
   rw [if_neg (by simpa using h0)]
   refine Ev.step (fun k=>by simp only [Q1g.j0,Bool.false_eq_true,if_false,if_pos h0];rfl) (Ev.bind (Qbf m r p h0) ?_)
   cases meetsV m with
   | true =>
    simp only [if_true]
    exact Ev.now _
   | false =>
    simp only [Bool.false_eq_true,if_false]
    refine Ev.bind (Qap hs p (by omega)) ?_
    cases closesV m r with
    | false =>
     simp only [Bool.false_eq_true,if_false]
     exact Ev.now _
    | true =>
     simp only [if_true]
     refine Ev.bind (Qbu hs p (by omega) (by omega)) ?_
     cases FillsV m r p with
     | true =>
      simp only [if_true]
      exact Ev.now _
     | false =>
      simp only [Bool.false_eq_true,if_false]
      exact Ev.now _
  ·rw [if_pos h0]
   exact Ev.step (f:=fun _=>some (arcsV m)) (fun k=>by simp only [Q1g.j0,Bool.false_eq_true,if_false,if_neg h0]) (Ev.now _)
theorem Qcd (m:List (List Pt)) (r p:List (List Int)) (hm:m.length≤1048576) (hx:∀ a∈m,a.length≤1048576) (hr:r.length≤1048576) (hrf:r.flatten.length≤1048576) (hp:p.length≤1048576) (hpf:p.flatten.length≤1048576) (hwf:∀ x∈r,∀ n∈x,wf64 n):Ev (fun k=>Q1g.f k m r p) (checkV m r p):=by
 unfold Q1g.f
 refine Ev.bind (Q97 m hm hx) ?_
 have jt:(arcsV m=3∨longV m r p=true)→Ev (fun k=>Q1g.j0 k (arcsV m) true m r p) (checkV m r p):=fun h=>Q88 m r p true (fun _=>h) (by simp) hwf
 by_cases h3:arcsV m=3
 ·simp only [if_pos h3]
  exact jt (.inl h3)
 ·simp only [if_neg h3]
  by_cases h1:(r.length:Int)>1000
  ·simp only [if_pos h1]
   exact jt (.inr (by unfold longV;rw [decide_eq_true (show r.length>1000 by omega)];rfl))
  ·simp only [if_neg h1]
   by_cases h2:(p.length:Int)>1000
   ·simp only [if_pos h2]
    exact jt (.inr (by unfold longV;rw [decide_eq_true (show p.length>1000 by omega),Bool.true_or,Bool.or_true]))
   ·simp only [if_neg h2]
    refine Ev.bind (Qc1 r (by omega) (by omega)) ?_
    have hl:longV m r p=(decide (r.flatten.length>20000) || decide (p.flatten.length>20000)):=by
     unfold longV
     rw [decide_eq_false (show ¬ r.length>1000 by omega),decide_eq_false (show ¬ p.length>1000 by omega),Bool.false_or,Bool.false_or]
    by_cases h4:((r.flatten.length:Nat):Int)>20000
    ·simp only [if_pos h4]
     exact jt (.inr (by rw [hl,decide_eq_true (show r.flatten.length>20000 by omega),Bool.true_or]))
    ·simp only [if_neg h4]
     refine Ev.bind (Qc1 p (by omega) (by omega)) ?_
     rw [decide_eq_false (show ¬ r.flatten.length>20000 by omega),Bool.false_or] at hl
     have e:decide (((p.flatten.length:Nat):Int)>20000)=longV m r p:=by rw [hl,decide_eq_decide];omega
     rw [e]
     exact Q88 m r p _ (fun h=>.inr h) (fun h=>⟨h3,h⟩) hwf
end Go.Proofs.Ytbonkedecfjmdaa.Pl

namespace Go.Proofs.Ytbonkedecfjmdaa.Pl
set_option linter.unusedVariables false
set_option linter.unusedSimpArgs false
open Go.RowKit Go.Proofs.Ytbonkedecfjmdaa.P Go.Proofs.Ytbonkedecfjmdaa.G Go.Proofs.YtbonkedecfjmdaaW.PrintWords Go.Proofs.YtbonkedecfjmdaaW.PrintLast Go.Proofs.YtbonkedecfjmdaaW.PrintMore
def S1 {α:Type} (l:List (List α)):Nat:=(l.map (fun a=>1+a.length)).sum
theorem Q55 {α:Type} (a:List α) (l:List (List α)):S1 (a :: l)=1+a.length+S1 l:=by simp [S1]
theorem Q7g {α:Type} (l:List (List α)):l.length+l.flatten.length=S1 l:=by
 induction l with
 | nil=>rfl
 | cons a l ih=>rw [Q55,List.flatten_cons,List.length_append,List.length_cons];omega
theorem Qgl {α:Type} (l:List (List α)) (a:List α) (h:a∈l):a.length≤S1 l:=by
 induction l with
 | nil=>simp at h
 | cons b l ih =>
  rw [Q55]
  rcases List.mem_cons.1 h with rfl|h
  ·omega
  ·have:=ih h;omega
theorem step1 (x i n:Nat) (h:x+i+n≤400000000):wrap64 (wrap64 ((x:Int)+1)+(n:Int))=((x+(1+n):Nat):Int)∧wrap64 ((i:Int)+1)=((i+1:Nat):Int):=by unfold wrap64;omega
theorem Qhe (m:List (List Pt)) (r p:List (List Int)):∀ (d i x:Nat),i+d=p.length→p.length≤100000000→x+S1 (p.drop i)≤100000000→Ev (fun k=>Q1q.l2 k (x:Int) (i:Int) m r p) (decide (x+S1 (p.drop i)>80)):=by
 intro d
 induction d with
 | zero =>
  intro i x hi hn hb
  rw [List.drop_of_length_le (by omega)]
  refine Ev.step (f:=fun _=>some (decide (x+S1 ([]:List (List Int))>80))) (fun k => ?_) (Ev.now _)
  rw [Q1q.l2.eq_2,if_neg (by omega)]
  congr 1
  rw [show x+S1 ([]:List (List Int))=x from rfl]
  by_cases h:x>80
  ·rw [decide_eq_true h,decide_eq_true (by omega)]
  ·rw [decide_eq_false h,decide_eq_false (by omega)]
 | succ d ih =>
  intro i x hi hn hb
  have hlt:i<p.length:=by omega
  rw [List.drop_eq_getElem_cons hlt,Q55] at hb ⊢
  have ih:=ih (i+1) (x+(1+p[i].length)) (by omega) hn (by omega)
  obtain ⟨e1,e2⟩:=step1 x i p[i].length (by omega)
  rw [← Nat.add_assoc]
  refine Ev.step (fun k=>Q1q.l2.eq_2 _ _ _ _ _ _) ?_
  simp only [if_pos (show (i:Int)<(p.length:Int) by omega),if_pos (show (0:Int)≤(i:Int) by omega),show Q09 p (i:Int)=p[i] by simp [Q09,List.getD,List.getElem?_eq_getElem hlt],e1,e2]
  exact ih
theorem Qgg (m:List (List Pt)) (r p:List (List Int)):∀ (d i x:Nat),i+d=r.length→r.length≤100000000→x+S1 (r.drop i)+S1 p≤100000000→Ev (fun k=>Q1q.l1 k (x:Int) (i:Int) m r p) (decide (x+S1 (r.drop i)+S1 p>80)):=by
 intro d
 induction d with
 | zero =>
  intro i x hi hn hb
  rw [List.drop_of_length_le (by omega)]
  have hpl:=Q7g p
  have h:=Qhe m r p p.length 0 x (by omega) (by omega) (by rw [List.drop_zero];omega)
  rw [List.drop_zero] at h
  refine Ev.step (fun k => ?_) h
  rw [Q1q.l1.eq_2,if_neg (by omega)]
  rfl
 | succ d ih =>
  intro i x hi hn hb
  have hlt:i<r.length:=by omega
  rw [List.drop_eq_getElem_cons hlt,Q55] at hb ⊢
  have ih:=ih (i+1) (x+(1+r[i].length)) (by omega) hn (by omega)
  obtain ⟨e1,e2⟩:=step1 x i r[i].length (by omega)
  rw [← Nat.add_assoc]
  refine Ev.step (fun k=>Q1q.l1.eq_2 _ _ _ _ _ _) ?_
  simp only [if_pos (show (i:Int)<(r.length:Int) by omega),if_pos (show (0:Int)≤(i:Int) by omega),show Q09 r (i:Int)=r[i] by simp [Q09,List.getD,List.getElem?_eq_getElem hlt],e1,e2]
  exact ih
theorem Qhc (m:List (List Pt)) (r p:List (List Int)):∀ (d i x:Nat),i+d=m.length→m.length≤100000000→x+S1 (m.drop i)+S1 r+S1 p≤100000000→Ev (fun k=>Q1q.l0 k (x:Int) (i:Int) m r p) (decide (x+S1 (m.drop i)+S1 r+S1 p>80)):=by
 intro d
 induction d with
 | zero =>
  intro i x hi hn hb
  rw [List.drop_of_length_le (by omega)]
  have hpl:=Q7g r
  have h:=Qgg m r p r.length 0 x (by omega) (by omega) (by rw [List.drop_zero];omega)
  rw [List.drop_zero] at h
  refine Ev.step (fun k => ?_) h
  rw [Q1q.l0.eq_2,if_neg (by omega)]
  rfl
 | succ d ih =>
  intro i x hi hn hb
  have hlt:i<m.length:=by omega
  rw [List.drop_eq_getElem_cons hlt,Q55] at hb ⊢
  have ih:=ih (i+1) (x+(1+m[i].length)) (by omega) hn (by omega)
  obtain ⟨e1,e2⟩:=step1 x i m[i].length (by omega)
  rw [← Nat.add_assoc]
  refine Ev.step (fun k=>Q1q.l0.eq_2 _ _ _ _ _ _) ?_
  simp only [if_pos (show (i:Int)<(m.length:Int) by omega),if_pos (show (0:Int)≤(i:Int) by omega),show Q0d m (i:Int)=m[i] by simp [Q0d,List.getD,List.getElem?_eq_getElem hlt],e1,e2]
  exact ih
theorem Qhu (m:List (List Pt)) (r p:List (List Int)) (h:S1 m+S1 r+S1 p≤100000000):Ev (fun k=>Q1q.f k m r p) (decide (S1 m+S1 r+S1 p>80)):=by
 have hpl:=Q7g m
 have h:=Qhc m r p m.length 0 0 (by omega) (by omega) (by rw [List.drop_zero];omega)
 rw [List.drop_zero,Nat.zero_add] at h
 unfold Q1q.f
 exact h
end Go.Proofs.Ytbonkedecfjmdaa.Pl

namespace Go.Proofs.Ytbonkedecfjmdaa.Pl
set_option linter.unusedVariables false
set_option linter.unusedSimpArgs false
open Go Go.RowKit Go.Proofs.Ytbonkedecfjmdaa.P Go.Proofs.Ytbonkedecfjmdaa.G Go.Proofs.Ytbonkedecfjmdaa.WL Go.Proofs.YtbonkedecfjmdaaW.PrintWords Go.Proofs.YtbonkedecfjmdaaW.PrintLast Go.Proofs.YtbonkedecfjmdaaW.PrintMore
theorem Qdh {α:Type} (f:α→Nat) (hf:∀ x,1≤f x):∀ l:List α,l.length≤(l.map f).sum:=by
 intro l
 induction l with
 | nil=>simp
 | cons y l ih=>rw [List.map_cons,List.sum_cons,List.length_cons];have:=hf y;omega
theorem S1_s {α:Type} (f:α→Nat) (hf:∀ x,1≤f x) (m:List (List α)):S1 m≤(m.map (fun l:List α=>1+(l.map f).sum)).sum:=by
 induction m with
 | nil=>exact Nat.le_refl _
 | cons y m ih =>
  rw [Q55,List.map_cons,List.sum_cons]
  have:=Qdh f hf y
  omega
theorem wf_s {n:Int} (h:(Lit.int .i64 n).wf=true) : -9223372036854775808≤n∧n≤9223372036854775807:=by
 simpa [Lit.wf,IntKind.min,IntKind.max,IntKind.signed,IntKind.bits] using h
theorem Qe3 (l:List Int) (hl:l.length≤100000000):∀ n i:Nat,i+n=l.length→Ev (fun k=>Q06.l0 k l l (i:Int)) true:=by
 intro n
 induction n with
 | zero =>
  intro i hi
  refine Ev.step (f:=fun _=>some true) (fun k => ?_) (Ev.now _)
  simp only [Q06.l0]
  rw [if_neg (by omega)]
 | succ n ih =>
  intro i hi
  refine Ev.step (fun k => ?_) (ih (i+1) (by omega))
  conv=>lhs;simp only [Q06.l0]
  rw [if_pos (by omega),if_pos (by omega),if_pos (by omega),if_pos trivial,nxt i (by omega)]
theorem Qa9 (l:List Int) (hl:l.length≤100000000):Ev (fun k=>Q06.f k l l) true:=by
 unfold Q06.f
 simp only [if_true]
 exact Qe3 l hl l.length 0 (by omega)
theorem Qhk {m:List (List Pt)} (h:arcsV m=0) (i:Nat) (hi:i<m.length) (j:Nat) (hj:j<m[i].length):rt m[i][j]=true:=by
 have hk:∀ a∈m,okArc a=true:=by
  unfold arcsV at h
  split at h
  ·cases h
  ·split at h
   ·rename_i hk
    exact List.all_eq_true.1 hk
   ·cases h
 have:=hk _ (List.getElem_mem hi)
 rw [Q94,Bool.and_eq_true,Bool.and_eq_true] at this
 exact List.all_eq_true.1 this.2.1 _ (List.getElem_mem hj)
structure Fine (m:List (List Pt)) (r p:List (List Int)):Prop where
 cm:m.length≤1048576
 cx:∀ a∈m,a.length≤1048576
 cr:r.length≤1048576
 cf:r.flatten.length≤1048576
 cp:p.length≤1048576
 cg:p.flatten.length≤1048576
 cw:∀ x∈r,∀ n∈x,wf64 n
theorem Qf9 {m:List (List Pt)} {r p:List (List Int)} (h:S1 m+S1 r+S1 p≤1048576) (hwf:∀ x∈r,∀ n∈x,wf64 n):Fine m r p:=by
 have l0:=Q7g m
 have l1:=Q7g r
 have l2:=Q7g p
 exact ⟨by omega,fun a ha=>by have:=Qgl m a ha;omega,by omega,by omega,by omega,by omega,hwf⟩
theorem Q8s {m:List (List Pt)} {r p:List (List Int)} {pt:Pt} (h:checkV m r p=0) (hr:rt pt=true):whereO m r p pt=(whL m r p pt p.length,0):=by
 unfold whereO
 rw [if_pos h,if_pos hr]
end Go.Proofs.Ytbonkedecfjmdaa.Pl
