/- What is long, and what the example fixes: the values. No condition. What the laws of a point in a map share. No condition. -/
import Derived.Test.YtbonkedecfjmdaaZ3
import Derived.Test.YtbonkedecfjmdaaZ19
import Derived.Test.YtbonkedecfjmdaaZ33
import Derived.Test.YtbonkedecfjmdaaZ28

namespace Go.Proofs.Ytbonkedecfjmdaa.Pl
set_option linter.unusedVariables false
set_option linter.unusedSimpArgs false
open Go.RowKit Go.Proofs.Ytbonkedecfjmdaa.P Go.Proofs.Ytbonkedecfjmdaa.G Go.Proofs.YtbonkedecfjmdaaW.PrintWords Go.Proofs.YtbonkedecfjmdaaW.PrintLast Go.Proofs.YtbonkedecfjmdaaW.PrintMore
def S1 {α:Type} (l:List (List α)):Nat:=(l.map (fun a=>1+a.length)).sum
theorem Q53 {α:Type} (a:List α) (l:List (List α)):S1 (a :: l)=1+a.length+S1 l:=by simp [S1]
theorem Q68 {α:Type} (l:List (List α)):l.length+l.flatten.length=S1 l:=by
 induction l with
 | nil=>rfl
 | cons a l ih=>rw [Q53,List.flatten_cons,List.length_append,List.length_cons];omega
theorem Qhm {α:Type} (l:List (List α)) (a:List α) (h:a∈l):a.length≤S1 l:=by
 induction l with
 | nil=>simp at h
 | cons b l ih =>
  rw [Q53]
  rcases List.mem_cons.1 h with rfl|h
  ·omega
  ·have:=ih h;omega
theorem step1 (x i n:Nat) (h:x+i+n≤400000000):wrap64 (wrap64 ((x:Int)+1)+(n:Int))=((x+(1+n):Nat):Int)∧wrap64 ((i:Int)+1)=((i+1:Nat):Int):=by unfold wrap64;omega
theorem Qht (m:List (List Pt)) (r p:List (List Int)):∀ (d i x:Nat),i+d=p.length→p.length≤100000000→x+S1 (p.drop i)≤100000000→Ev (fun k=>Q1t.l2 k (x:Int) (i:Int) m r p) (decide (x+S1 (p.drop i)>80)):=by
 intro d
 induction d with
 | zero =>
  intro i x hi hn hb
  rw [List.drop_of_length_le (by omega)]
  refine Ev.step (f:=fun _=>some (decide (x+S1 ([]:List (List Int))>80))) (fun k => ?_) (Ev.now _)
  rw [Q1t.l2.eq_2,if_neg (by omega)]
  congr 1
  rw [show x+S1 ([]:List (List Int))=x from rfl]
  by_cases h:x>80
  ·rw [decide_eq_true h,decide_eq_true (by omega)]
  ·rw [decide_eq_false h,decide_eq_false (by omega)]
 | succ d ih =>
  intro i x hi hn hb
  have hlt:i<p.length:=by omega
  rw [List.drop_eq_getElem_cons hlt,Q53] at hb ⊢
  have ih:=ih (i+1) (x+(1+p[i].length)) (by omega) hn (by omega)
  obtain ⟨e1,e2⟩:=step1 x i p[i].length (by omega)
  rw [← Nat.add_assoc]
  refine Ev.step (fun k=>Q1t.l2.eq_2 _ _ _ _ _ _) ?_
  simp only [if_pos (show (i:Int)<(p.length:Int) by omega),if_pos (show (0:Int)≤(i:Int) by omega),show Q06 p (i:Int)=p[i] by simp [Q06,List.getD,List.getElem?_eq_getElem hlt],e1,e2]
  exact ih
theorem Qgw (m:List (List Pt)) (r p:List (List Int)):∀ (d i x:Nat),i+d=r.length→r.length≤100000000→x+S1 (r.drop i)+S1 p≤100000000→Ev (fun k=>Q1t.l1 k (x:Int) (i:Int) m r p) (decide (x+S1 (r.drop i)+S1 p>80)):=by
 intro d
 induction d with
 | zero =>
  intro i x hi hn hb
  rw [List.drop_of_length_le (by omega)]
  have hpl:=Q68 p
  have h:=Qht m r p p.length 0 x (by omega) (by omega) (by rw [List.drop_zero];omega)
  rw [List.drop_zero] at h
  refine Ev.step (fun k => ?_) h
  rw [Q1t.l1.eq_2,if_neg (by omega)]
  rfl
 | succ d ih =>
  intro i x hi hn hb
  have hlt:i<r.length:=by omega
  rw [List.drop_eq_getElem_cons hlt,Q53] at hb ⊢
  have ih:=ih (i+1) (x+(1+r[i].length)) (by omega) hn (by omega)
  obtain ⟨e1,e2⟩:=step1 x i r[i].length (by omega)
  rw [← Nat.add_assoc]
  refine Ev.step (fun k=>Q1t.l1.eq_2 _ _ _ _ _ _) ?_
  simp only [if_pos (show (i:Int)<(r.length:Int) by omega),if_pos (show (0:Int)≤(i:Int) by omega),show Q06 r (i:Int)=r[i] by simp [Q06,List.getD,List.getElem?_eq_getElem hlt],e1,e2]
  exact ih
theorem Qgq (m:List (List Pt)) (r p:List (List Int)):∀ (d i x:Nat),i+d=m.length→m.length≤100000000→x+S1 (m.drop i)+S1 r+S1 p≤100000000→Ev (fun k=>Q1t.l0 k (x:Int) (i:Int) m r p) (decide (x+S1 (m.drop i)+S1 r+S1 p>80)):=by
 intro d
 induction d with
 | zero =>
  intro i x hi hn hb
  rw [List.drop_of_length_le (by omega)]
  have hpl:=Q68 r
  have h:=Qgw m r p r.length 0 x (by omega) (by omega) (by rw [List.drop_zero];omega)
  rw [List.drop_zero] at h
  refine Ev.step (fun k => ?_) h
  rw [Q1t.l0.eq_2,if_neg (by omega)]
  rfl
 | succ d ih =>
  intro i x hi hn hb
  have hlt:i<m.length:=by omega
  rw [List.drop_eq_getElem_cons hlt,Q53] at hb ⊢
  have ih:=ih (i+1) (x+(1+m[i].length)) (by omega) hn (by omega)
  obtain ⟨e1,e2⟩:=step1 x i m[i].length (by omega)
  rw [← Nat.add_assoc]
  refine Ev.step (fun k=>Q1t.l0.eq_2 _ _ _ _ _ _) ?_
  simp only [if_pos (show (i:Int)<(m.length:Int) by omega),if_pos (show (0:Int)≤(i:Int) by omega),show Q0e m (i:Int)=m[i] by simp [Q0e,List.getD,List.getElem?_eq_getElem hlt],e1,e2]
  exact ih
theorem Qg8 (m:List (List Pt)) (r p:List (List Int)) (h:S1 m+S1 r+S1 p≤100000000):Ev (fun k=>Q1t.f k m r p) (decide (S1 m+S1 r+S1 p>80)):=by
 have hpl:=Q68 m
 have h:=Qgq m r p m.length 0 0 (by omega) (by omega) (by rw [List.drop_zero];omega)
 rw [List.drop_zero,Nat.zero_add] at h
 unfold Q1t.f
 exact h
end Go.Proofs.Ytbonkedecfjmdaa.Pl

namespace Go.Proofs.Ytbonkedecfjmdaa.Pl
set_option linter.unusedVariables false
set_option linter.unusedSimpArgs false
open Go Go.RowKit Go.Proofs.Ytbonkedecfjmdaa.P Go.Proofs.Ytbonkedecfjmdaa.G Go.Proofs.Ytbonkedecfjmdaa.WL Go.Proofs.YtbonkedecfjmdaaW.PrintWords Go.Proofs.YtbonkedecfjmdaaW.PrintLast Go.Proofs.YtbonkedecfjmdaaW.PrintMore
theorem Qec {α:Type} (f:α→Nat) (hf:∀ x,1≤f x):∀ l:List α,l.length≤(l.map f).sum:=by
 intro l
 induction l with
 | nil=>simp
 | cons y l ih=>rw [List.map_cons,List.sum_cons,List.length_cons];have:=hf y;omega
theorem S1_s {α:Type} (f:α→Nat) (hf:∀ x,1≤f x) (m:List (List α)):S1 m≤(m.map (fun l:List α=>1+(l.map f).sum)).sum:=by
 induction m with
 | nil=>exact Nat.le_refl _
 | cons y m ih =>
  rw [Q53,List.map_cons,List.sum_cons]
  have:=Qec f hf y
  omega
theorem wf_s {n:Int} (h:(Lit.int .i64 n).wf=true) : -9223372036854775808≤n∧n≤9223372036854775807:=by
 simpa [Lit.wf,IntKind.min,IntKind.max,IntKind.signed,IntKind.bits] using h
theorem Qf4 (l:List Int) (hl:l.length≤100000000):∀ n i:Nat,i+n=l.length→Ev (fun k=>Q07.l0 k l l (i:Int)) true:=by
 intro n
 induction n with
 | zero =>
  intro i hi
  refine Ev.step (f:=fun _=>some true) (fun k => ?_) (Ev.now _)
  simp only [Q07.l0]
  rw [if_neg (by omega)]
 | succ n ih =>
  intro i hi
  refine Ev.step (fun k => ?_) (ih (i+1) (by omega))
  conv=>lhs;simp only [Q07.l0]
  rw [if_pos (by omega),if_pos (by omega),if_pos (by omega),if_pos trivial,nxt i (by omega)]
theorem Qfl (l:List Int) (hl:l.length≤100000000):Ev (fun k=>Q07.f k l l) true:=by
 unfold Q07.f
 simp only [if_true]
 exact Qf4 l hl l.length 0 (by omega)
theorem Qin {m:List (List Pt)} (h:arcsV m=0) (i:Nat) (hi:i<m.length) (j:Nat) (hj:j<m[i].length):rt m[i][j]=true:=by
 have hk:∀ a∈m,okArc a=true:=by
  unfold arcsV at h
  split at h
  ·cases h
  ·split at h
   ·rename_i hk
    exact List.all_eq_true.1 hk
   ·cases h
 have:=hk _ (List.getElem_mem hi)
 rw [Q9u,Bool.and_eq_true,Bool.and_eq_true] at this
 exact List.all_eq_true.1 this.2.1 _ (List.getElem_mem hj)
structure Fine (m:List (List Pt)) (r p:List (List Int)):Prop where
 cm:m.length≤1048576
 cx:∀ a∈m,a.length≤1048576
 cr:r.length≤1048576
 cf:r.flatten.length≤1048576
 cp:p.length≤1048576
 cg:p.flatten.length≤1048576
 cw:∀ x∈r,∀ n∈x,wf64 n
theorem Qeu {m:List (List Pt)} {r p:List (List Int)} (h:S1 m+S1 r+S1 p≤1048576) (hwf:∀ x∈r,∀ n∈x,wf64 n):Fine m r p:=by
 have l0:=Q68 m
 have l1:=Q68 r
 have l2:=Q68 p
 exact ⟨by omega,fun a ha=>by have:=Qhm m a ha;omega,by omega,by omega,by omega,by omega,hwf⟩
theorem Qb9 {m:List (List Pt)} {r p:List (List Int)} {pt:Pt} (h:checkV m r p=0) (hr:rt pt=true):whereO m r p pt=(whL m r p pt p.length,0):=by
 unfold whereO
 rw [if_pos h,if_pos hr]
end Go.Proofs.Ytbonkedecfjmdaa.Pl
