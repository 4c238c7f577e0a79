/- Rings: their sides, turned and told backwards; twice the area, as the program's function answers. Rings: whether a point lies in one, as the program's function answers. Written for this claim by a program of this session (a turned copy of the print): Go functions as Lean functions, and that the Go code comes to just these answers; or a statement proved out of them. No condition. -/
import Derived.Test.YtbonkedecfjmdaaZ16
import Derived.Test.YtbonkedecfjmdaaZ15
import Derived.Test.YtbonkedecfjmdaaZ2

namespace Go.Proofs.Ytbonkedecfjmdaa.G
set_option linter.unusedVariables false
set_option linter.unusedSimpArgs false
open Go.RowKit Go.Proofs.Ytbonkedecfjmdaa.P Go.Proofs.Ytbonkedecfjmdaa.X Go.Proofs.Ytbonkedecfjmdaa.WL Go.Proofs.YtbonkedecfjmdaaW.PrintWords Go.Proofs.YtbonkedecfjmdaaW.PrintLast Go.Proofs.YtbonkedecfjmdaaW.PrintMore
def rot1 {α:Type}:List α→List α
 | []=>[]
 | a :: t=>t++[a]
def edg {α:Type} (l:List α):List (α×α):=List.zip l (rot1 l)
section
variable {α:Type}
theorem Q73 (l:List α):(rot1 l).length=l.length:=by cases l<;>simp [rot1]
theorem Q44 (l:List α):(edg l).length=l.length:=by simp [edg,Q73]
theorem Q84 (l:List α):(rot1 l).Perm l:=by
 cases l with
 | nil=>exact List.Perm.refl _
 | cons a t=>exact List.perm_append_comm (l₁:=t) (l₂:=[a])
theorem Q96 (l:List α):edg (rot1 l)=rot1 (edg l):=by
 unfold edg
 cases l with
 | nil=>rfl
 | cons a t =>
  have hl:(rot1 (a :: t)).length=(a :: t).length:=Q73 _
  have hm:rot1 (a :: t)=t++[a]:=rfl
  generalize rot1 (a :: t)=m at *
  cases m with
  | nil=>simp at hl
  | cons b u =>
   simp only [List.zip_cons_cons,rot1]
   rw [hm,List.zip_append (by simpa using hl.symm)]
   rfl
theorem Q9f (l:List α) (k:Nat) (hk:k<l.length):l.drop (k+1)++l.take (k+1)=rot1 (l.drop k++l.take k):=by
 rw [List.drop_eq_getElem_cons hk,List.cons_append]
 simp only [rot1]
 rw [List.append_assoc,← List.take_succ_eq_append_getElem hk]
theorem Q59 (l:List α):∀ k,k≤l.length→(edg (l.drop k++l.take k)).Perm (edg l)
 | 0,_=>by simp
 | k+1,h=>by
  rw [Q9f l k (by omega),Q96]
  exact (Q84 _).trans (Q59 l k (by omega))
theorem Qcn:∀ (u v:List α),u.length=v.length→(List.zip u v).reverse=List.zip u.reverse v.reverse
 | [],[],_=>rfl
 | a :: u,b :: v,h=>by
  have h':u.length=v.length:=by simpa using h
  rw [List.zip_cons_cons,List.reverse_cons,List.reverse_cons,List.reverse_cons,Qcn u v h',List.zip_append (by simpa using h')]
  rfl
 | [],_ :: _,h=>by simp at h
 | _ :: _,[],h=>by simp at h
theorem Q9w:∀ (u v:List α),List.zip u v=(List.zip v u).map fun e=>(e.2,e.1)
 | [],[]=>rfl
 | a :: u,b :: v=>by simp [Q9w u v]
 | [],_ :: _=>by simp
 | _ :: _,[]=>by simp
theorem Qbb (l:List α):(edg l.reverse).Perm ((edg l).map fun e=>(e.2,e.1)):=by
 obtain ⟨r,rfl⟩:∃ r,l=r.reverse:=⟨l.reverse,by simp⟩
 rw [List.reverse_reverse]
 cases r with
 | nil=>exact List.Perm.refl _
 | cons a t =>
  have e1:(edg (a :: t)).reverse=(edg (a :: t.reverse)).map fun e=>(e.2,e.1):=by
   unfold edg
   rw [Qcn _ _ (Q73 _).symm,Q9w]
   congr 1
   simp [rot1]
  have e2:edg (a :: t).reverse=rot1 (edg (a :: t.reverse)):=by
   rw [← Q96];congr 1;simp [rot1]
  rw [e2]
  refine (List.reverse_perm _).symm.trans ?_
  rw [e1]
  exact (Q84 _).symm.map _
theorem Q7w (l:List α) (i:Nat) (h:i<l.length):(edg l)[i]'(by rw [Q44];exact h)=(l[i],l[(i+1) % l.length]'(Nat.mod_lt _ (by omega))):=by
 unfold edg
 rw [List.getElem_zip]
 congr 1
 cases l with
 | nil=>simp at h
 | cons a t =>
  simp only [rot1]
  by_cases hi:i<t.length
  ·rw [List.getElem_append_left hi]
   have e:(i+1) % (a :: t).length=i+1:=Nat.mod_eq_of_lt (by simp;omega)
   simp only [e]
   rfl
  ·have hi':i=t.length:=by simp at h;omega
   subst hi'
   rw [List.getElem_append_right (Nat.le_refl _)]
   have e:(t.length+1) % (a :: t).length=0:=by simp
   simp only [e,Nat.sub_self]
   rfl
theorem Qai {β:Type} {u v:List β} (f:β→Int) (h:u.Perm v):(u.map f).sum=(v.map f).sum:=by
 induction h with
 | nil=>rfl
 | cons x _ ih=>simp [ih]
 | swap x y l=>simp only [List.map_cons,List.sum_cons];omega
 | trans _ _ h1 h2=>exact h1.trans h2
end
def E (e:Pt×Pt):Int:=e.1.f0*e.2.f1 - e.1.f1*e.2.f0
def areaS (l:List Pt):Int:=((edg l).map E).sum
theorem Q8d (l:List Pt) (k:Nat) (h:k≤l.length):areaS (l.drop k++l.take k)=areaS l:=Qai E (Q59 l k h)
theorem Qcy (l:List Pt):areaS l.reverse = -areaS l:=by
 unfold areaS
 rw [Qai E (Qbb l),List.map_map]
 generalize edg l=m
 induction m with
 | nil=>rfl
 | cons e m ih =>
  simp only [List.map_cons,List.sum_cons,ih,Function.comp]
  have:E (e.2,e.1) = -E e:=by unfold E;grind
  rw [this];omega
theorem Q5f {l:List Pt} (h:l.all rt=true) (i:Nat) (hi:i<l.length):rt l[i]=true:=List.all_eq_true.1 h _ (List.getElem_mem hi)
theorem Qd0 (l:List Pt) (hl:l.length<4000000000000000000) (hr:l.all rt=true):∀ (n i:Nat) (x:Int),i+n=l.length →
  Ev (fun k=>Q1x.l0 k l l (l.length:Int) (i:Int) (hiw x) (low x)) (hiw (x+(((edg l).drop i).map E).sum),low (x+(((edg l).drop i).map E).sum)):=by
 intro n
 induction n with
 | zero =>
  intro i x hi
  rw [List.drop_of_length_le (by rw [Q44];omega)]
  simp only [List.map_nil,List.sum_nil,Int.add_zero]
  exact Ev.step (f:=fun _=>some (hiw x,low x)) (fun k=>by simp only [Q1x.l0];rw [if_neg (by omega)]) (Ev.now _)
 | succ n ih =>
  intro i x hi
  have hA:i<l.length:=by omega
  have hM:(i+1) % l.length<l.length:=Nat.mod_lt _ (by omega)
  have hE:i<(edg l).length:=by rw [Q44];exact hA
  have q1:(i:Int)<(l.length:Int):=by omega
  have wm:Int.tmod (wrap64 ((i:Int)+1)) (l.length:Int)=(((i+1) % l.length:Nat):Int):=by
   rw [Q29 i (by omega),Int.tmod_eq_emod_of_nonneg (by omega),Int.natCast_emod]
  obtain ⟨_,p1,p2,p3,p4⟩:=Q3e.1 (Q5f hr i hA)
  obtain ⟨_,r1,r2,r3,r4⟩:=Q3e.1 (Q5f hr _ hM)
  have D:=Qbh (l:=[l[i].f0,l[(i+1) % l.length].f1,-l[i].f1,l[(i+1) % l.length].f0]) (by simp) (by
   intro x hx
   simp only [List.mem_cons,List.not_mem_nil,or_false] at hx
   rcases hx with rfl|rfl|rfl|rfl<;>omega) (by simp)
  have eD:dotS [l[i].f0,l[(i+1) % l.length].f1,-l[i].f1,l[(i+1) % l.length].f0]=E (edg l)[i]:=by
   rw [Q7w l i hA];simp only [dotS,E];rw [Int.neg_mul];omega
  rw [eD] at D
  have wn:wrap64 (-l[i].f1) = -l[i].f1:=Q2u (by omega) (by omega)
  refine Ev.step (f:=fun k=>(Q1n.f k (([l[i].f0,l[(i+1) % l.length].f1,-l[i].f1,l[(i+1) % l.length].f0]:List Int))).bind fun bt290=>((Q1l.f k (hiw x) (low x) (([(⟨bt290.1,bt290.2.1⟩:S50)]:List (S50)))).bind fun bt297=>(Q1x.l0 k l l (l.length:Int) ((i+1:Nat):Int) bt297.1 bt297.2))) (fun k => ?_) ?_
  ·simp only [Q1x.l0]
   rw [wm,if_pos q1,if_pos (by omega),if_pos q1,if_neg (by omega),if_pos (by omega),if_pos (by omega),rdp l i hA,rdp l _ hM,wn,Q29 i (by omega)]
  ·refine Ev.bind D ?_
   refine Ev.bind (Q9c x _) ?_
   have:=ih (i+1) (x+E (edg l)[i]) (by omega)
   rw [List.drop_eq_getElem_cons hE,List.map_cons,List.sum_cons,← Int.add_assoc]
   exact this
theorem Qdd (l:List Pt) (hl:l.length<4000000000000000000):Ev (fun k=>Q1x.f k l) (if l.all rt then (hiw (areaS l),low (areaS l)) else (0,0)):=by
 unfold Q1x.f
 refine Ev.bind (Q4w l (by omega)) ?_
 by_cases h:l.all rt=true
 ·simp only [if_pos h]
  have:=Qd0 l hl h l.length 0 0 (by omega)
  rw [List.drop_zero,Int.zero_add] at this
  exact this
 ·simp only [if_neg h];exact Ev.now _
def areaV (l:List Pt):Int:=if l.all rt then areaS l else 0
theorem Q86 (l:List Pt) (hl:l.length<4000000000000000000):Ev (fun k=>Q1x.f k l) (hiw (areaV l),low (areaV l)):=by
 have:=Qdd l hl
 unfold areaV
 split at this
 ·rename_i h;rw [if_pos h];exact this
 ·rename_i h;rw [if_neg h];exact this
theorem Qem (l:List Pt) (k:Nat) (h:k≤l.length):areaV (l.drop k++l.take k)=areaV l:=by
 unfold areaV
 rw [Q8d l k h,List.all_append,Bool.and_comm,← List.all_append,List.take_append_drop]
theorem Qhu (l:List Pt):areaV l.reverse = -areaV l:=by
 unfold areaV
 rw [Qcy,List.all_reverse]
 split<;>rfl
end Go.Proofs.Ytbonkedecfjmdaa.G

namespace Go.Proofs.Ytbonkedecfjmdaa.G
set_option linter.unusedVariables false
set_option linter.unusedSimpArgs false
open Go.RowKit Go.Proofs.Ytbonkedecfjmdaa.P Go.Proofs.Ytbonkedecfjmdaa.X Go.Proofs.Ytbonkedecfjmdaa.WL Go.Proofs.YtbonkedecfjmdaaW.PrintWords Go.Proofs.YtbonkedecfjmdaaW.PrintLast Go.Proofs.YtbonkedecfjmdaaW.PrintMore
theorem Qgt (p a b:Pt):Ev (fun _=>Q5e.f p.f0 p.f1 p.f2 a.f0 a.f1 a.f2 b.f0 b.f1 b.f2) (onB p a b):=Ev.now _
theorem Qet (a b c:Pt):cross b a c = -cross a b c:=Q4y a b c
theorem Q7d (a b c:Pt):side b a c = -side a b c:=by
 unfold side;rw [Q4y];unfold cmp3;split<;>split<;>first|rfl|omega|(split<;>first|rfl|omega|(split<;>first|rfl|omega))
def cr (p:Pt) (e:Pt×Pt):Bool:=decide (e.1.f1≤p.f1∧p.f1<e.2.f1∧side e.1 e.2 p>0) || decide (e.2.f1≤p.f1∧p.f1<e.1.f1∧side e.1 e.2 p<0)
def onE (p:Pt) (e:Pt×Pt):Bool:=onB p e.1 e.2
theorem Qf7 (p:Pt) (e:Pt×Pt):cr p (e.2,e.1)=cr p e:=by
 unfold cr
 have:=Q7d e.1 e.2 p
 rw [Bool.eq_iff_iff]
 simp only [Bool.or_eq_true,decide_eq_true_eq,this]
 omega
theorem Qc3 (p:Pt) (e:Pt×Pt):onE p (e.2,e.1)=onE p e:=Q6g p e.2 e.1
def tell (p:Pt) (l:List (Pt×Pt)) (s:Int):Int:=if l.any (onE p) then 0 else if (l.countP (cr p)) % 2=1 then -s else s
def inV (p:Pt) (l:List Pt):Int:=if rt p&&l.all rt then tell p (edg l) (-1) else 0
theorem Qac (p:Pt) (s:Int):tell p [] s=s:=by simp [tell]
theorem Qco {p:Pt} {e:Pt×Pt} {l:List (Pt×Pt)} {s:Int} (h:onE p e=true):tell p (e :: l) s=0:=by simp [tell,h]
theorem Q7q {p:Pt} {e:Pt×Pt} {l:List (Pt×Pt)} {s:Int} (h:onE p e=false) (hc:cr p e=true):tell p (e :: l) s=tell p l (-s):=by
 unfold tell
 rw [List.any_cons,h,Bool.false_or,List.countP_cons_of_pos hc]
 by_cases ha:l.any (onE p)=true
 ·rw [if_pos ha,if_pos ha]
 ·rw [if_neg ha,if_neg ha]
  by_cases hm:l.countP (cr p) % 2=1
  ·rw [if_neg (by omega),if_pos hm];omega
  ·rw [if_pos (by omega),if_neg hm]
theorem Q55 {p:Pt} {e:Pt×Pt} {l:List (Pt×Pt)} {s:Int} (h:onE p e=false) (hc:cr p e=false):tell p (e :: l) s=tell p l s:=by
 unfold tell
 rw [List.any_cons,h,Bool.false_or,List.countP_cons_of_neg (by simp [hc])]
theorem Qdx {α:Type} {u v:List α} (f:α→Bool) (h:u.Perm v):u.any f=v.any f:=by
 rw [Bool.eq_iff_iff,List.any_eq_true,List.any_eq_true]
 constructor
 ·rintro ⟨x,hx,hf⟩;exact ⟨x,h.mem_iff.1 hx,hf⟩
 ·rintro ⟨x,hx,hf⟩;exact ⟨x,h.mem_iff.2 hx,hf⟩
theorem Q80 {p:Pt} {u v:List (Pt×Pt)} (h:u.Perm v) (s:Int):tell p u s=tell p v s:=by
 unfold tell
 rw [Qdx _ h,h.countP_eq]
theorem Qbe (p:Pt) (l:List (Pt×Pt)) (s:Int):tell p (l.map fun e=>(e.2,e.1)) s=tell p l s:=by
 unfold tell
 rw [List.any_map,List.countP_map]
 have h1:(onE p ∘ fun e:Pt×Pt=>(e.2,e.1))=onE p:=funext fun e=>Qc3 p e
 have h2:(cr p ∘ fun e:Pt×Pt=>(e.2,e.1))=cr p:=funext fun e=>Qf7 p e
 rw [h1,h2]
theorem Qge (p:Pt) (l:List Pt) (k:Nat) (h:k≤l.length):inV p (l.drop k++l.take k)=inV p l:=by
 unfold inV
 rw [Q80 (Q59 l k h),List.all_append,Bool.and_comm (List.all (List.drop k l) rt),← List.all_append,List.take_append_drop]
theorem Qif (p:Pt) (l:List Pt):inV p l.reverse=inV p l:=by
 unfold inV
 rw [Q80 (Qbb l),Qbe,List.all_reverse]
theorem Qhf (p:Pt) (hp:rt p=true) (l:List Pt) (hl:l.length<4000000000000000000) (hr:l.all rt=true):∀ (n i:Nat) (s:Int),i+n=l.length→(s=1∨s = -1) →
  Ev (fun k=>Q1k.l0 k l s l (l.length:Int) (i:Int) p.f0 p.f1 p.f2) (tell p ((edg l).drop i) s):=by
 intro n
 induction n with
 | zero =>
  intro i s hi hs
  rw [List.drop_of_length_le (by rw [Q44];omega),Qac]
  exact Ev.step (f:=fun _=>some s) (fun k=>by simp only [Q1k.l0];rw [if_neg (by omega)]) (Ev.now _)
 | succ n ih =>
  intro i s hi hs
  have hA:i<l.length:=by omega
  have hM:(i+1) % l.length<l.length:=Nat.mod_lt _ (by omega)
  have hE:i<(edg l).length:=by rw [Q44];exact hA
  have q1:(i:Int)<(l.length:Int):=by omega
  have wm:Int.tmod (wrap64 ((i:Int)+1)) (l.length:Int)=(((i+1) % l.length:Nat):Int):=by
   rw [Q29 i (by omega),Int.tmod_eq_emod_of_nonneg (by omega),Int.natCast_emod]
  rw [List.drop_eq_getElem_cons hE,Q7w l i hA]
  have ra:=Q5f hr i hA
  have rb:=Q5f hr _ hM
  have hrd1:Q0a l (i:Int)=l[i]:=rdp l i hA
  have hrd2:Q0a l (((i+1) % l.length:Nat):Int)=l[(i+1) % l.length]:=rdp l _ hM
  generalize l[i]=a at *
  generalize l[(i+1) % l.length]=b at *
  have I1:=ih (i+1) s (by omega) hs
  have I2:=ih (i+1) (-s) (by omega) (by omega)
  have wn:wrap64 (-s) = -s:=Q2u (by omega) (by omega)
  have ws:wrap64 ((i:Int)+1)=((i+1:Nat):Int):=Q29 i (by omega)
  refine Ev.step (f:=fun k=>(Q5e.f p.f0 p.f1 p.f2 a.f0 a.f1 a.f2 b.f0 b.f1 b.f2).bind fun t540=>(if t540=true then (some 0) else (if ((decide (a.f1>p.f1))==(decide (b.f1>p.f1)))=true then (Q1k.l0 k l s l (l.length:Int) ((i+1:Nat):Int) p.f0 p.f1 p.f2) else (if b.f1<a.f1 then ((Q2w.f k b.f0 b.f1 b.f2 a.f0 a.f1 a.f2 p.f0 p.f1 p.f2).bind fun t541=>(if t541>0 then (Q1k.l0 k l (-s) l (l.length:Int) ((i+1:Nat):Int) p.f0 p.f1 p.f2) else (Q1k.l0 k l s l (l.length:Int) ((i+1:Nat):Int) p.f0 p.f1 p.f2))) else ((Q2w.f k a.f0 a.f1 a.f2 b.f0 b.f1 b.f2 p.f0 p.f1 p.f2).bind fun t542=>(if t542>0 then (Q1k.l0 k l (-s) l (l.length:Int) ((i+1:Nat):Int) p.f0 p.f1 p.f2) else (Q1k.l0 k l s l (l.length:Int) ((i+1:Nat):Int) p.f0 p.f1 p.f2))))))) (fun k => ?_) ?_
  ·simp only [Q1k.l0]
   rw [wm,if_pos q1,if_pos (by omega),if_pos q1,if_neg (by omega),if_pos (by omega),if_pos (by omega),hrd1,hrd2,wn,ws]
  ·refine Ev.bind (Qgt p a b) ?_
   by_cases ho:onB p a b=true
   ·simp only [if_pos ho]
    rw [Qco (show onE p (a,b)=true from ho)]
    exact Ev.now _
   ·simp only [if_neg ho]
    have ho':onE p (a,b)=false:=Bool.eq_false_iff.2 ho
    by_cases he:(decide (a.f1>p.f1)==decide (b.f1>p.f1))=true
    ·simp only [if_pos he]
     rw [beq_iff_eq,decide_eq_decide] at he
     rw [Q55 ho' (by unfold cr;simp only [Bool.or_eq_false_iff,decide_eq_false_iff_not];omega)]
     exact I1
    ·simp only [if_neg he]
     rw [beq_iff_eq,decide_eq_decide] at he
     by_cases hb:b.f1<a.f1
     ·simp only [if_pos hb]
      refine Ev.bind (Q6l rb ra hp) ?_
      have hs':=Q7d a b p
      by_cases ht:side b a p>0
      ·simp only [if_pos ht]
       rw [Q7q ho' (by unfold cr;simp only [Bool.or_eq_true,decide_eq_true_eq];omega)]
       exact I2
      ·simp only [if_neg ht]
       rw [Q55 ho' (by unfold cr;simp only [Bool.or_eq_false_iff,decide_eq_false_iff_not];omega)]
       exact I1
     ·simp only [if_neg hb]
      refine Ev.bind (Q6l ra rb hp) ?_
      by_cases ht:side a b p>0
      ·simp only [if_pos ht]
       rw [Q7q ho' (by unfold cr;simp only [Bool.or_eq_true,decide_eq_true_eq];omega)]
       exact I2
      ·simp only [if_neg ht]
       rw [Q55 ho' (by unfold cr;simp only [Bool.or_eq_false_iff,decide_eq_false_iff_not];omega)]
       exact I1
theorem Qej (p:Pt) (l:List Pt) (hl:l.length<4000000000000000000):Ev (fun k=>Q1k.f k p.f0 p.f1 p.f2 l) (inV p l):=by
 unfold Q1k.f
 refine Ev.bind (Q4w [p] (by simp)) ?_
 simp only [List.all_cons,List.all_nil,Bool.and_true]
 have jt:Ev (fun k=>Q1k.j0 k l true p.f0 p.f1 p.f2) 0:=Ev.step (f:=fun _=>some 0) (fun k=>by simp only [Q1k.j0,if_true]) (Ev.now _)
 unfold inV
 by_cases h:rt p=true
 ·simp only [if_pos h,h,Bool.true_and]
  refine Ev.bind (Q4w l (by omega)) ?_
  by_cases h2:l.all rt=true
  ·simp only [h2,Bool.not_true,if_true]
   have:=Qhf p h l hl h2 l.length 0 (-1) (by omega) (.inr rfl)
   rw [List.drop_zero] at this
   refine Ev.step (fun k => ?_) this
   simp only [Q1k.j0,Bool.false_eq_true,if_false];rfl
  ·simp only [h2,Bool.not_false,Bool.false_eq_true,if_false];exact jt
 ·simp only [if_neg h,h,Bool.false_and,Bool.false_eq_true,if_false];exact jt
end Go.Proofs.Ytbonkedecfjmdaa.G

namespace Go.Proofs.Ytbonkedecfjmdaa.P
open Go.RowKit Go.Proofs.YtbonkedecfjmdaaW.PrintWords Go.Proofs.YtbonkedecfjmdaaW.PrintLast Go.Proofs.YtbonkedecfjmdaaW.PrintMore Go.Proofs.Ytbonkedecfjmdaa.X
attribute [local go_sem] Q2a Q2b Q2s Q2q Q1z Q1y Q19 Q2c Q2r Q2p add64
set_option linter.unusedVariables false
set_option linter.unusedSimpArgs false
def Q3f.f (l0:List (S27)):Option ((List (S27))):=if l0.length<5864062014805 then (some l0) else (none)
theorem Q3f.eqnil (w:World) (A:Option Addr) (n c:Nat):(binOp .eql 31 (.slice A n c) (.slice none 0 0)).run Try.prog w=.ok (.bool A.isNone) w:=run_eql_slice_nil w 31 27 A n c Try.underlying31
attribute [local go_sem] Q3f.eqnil
set_option maxHeartbeats 8000000 in
set_option maxRecDepth 100000 in
theorem Q3f.calls (A0:Option Addr) (c0:Nat) (l0:List (S27)) (r:List (S27)) (w:World) (bA:Kd.C k27 w A0 l0.length l0) (hA:l0.length≤c0) (h:Q3f.f l0=some r) :
  Calls Try.prog 72 #[.slice A0 l0.length c0] w fun e w'=>∃ v0_:Value,e=.returned (v0_)∧Kd.R k27 27 w' w.heap.size (fun _=>True) v0_ r∧Below w.heap.size w w':=by
 unfold Q3f.f at h
 by_cases hl:l0.length<5864062014805
 ·rw [if_pos hl] at h
  obtain rfl:=Option.some.inj h
  cases A0 with
  | none =>
   have cA:l0=[]:=by
    cases l0 with
    | nil=>rfl
    | cons x l =>
     obtain ⟨ad,e,_⟩:=bA.2.2 (by simp)
     cases e
   subst cA
   go_enter Try.func72,Try.ntmps72
   go_wp2
   go_ret
   exact ⟨_,by first|rfl|(simp;done)|(simp<;>rfl),Kd.Q3k _ _ _ _ _,Below.refl _ _⟩
  | some ad =>
   go_enter Try.func72,Try.ntmps72
   go_wp2_with (first|((with_reducible refine Q0i (N:=5) rfl ?_);refine Kd.Q4s k27 (w0:=w) w.heap.size 27 ?hg (N:=5) ?hd (xs:=([]:List (S27))) (inner:=[]) (ok:=fun _=>True) (okp:=fun _=>True) ?hr ?hp (fun _ hk=>hk) trivial (Below.refl _ _) (Nat.le_refl _) (by simp) ?_;(case hd=>rfl);(case hg=>rfl);(case hr=>first|(go_simp;done)|(go_simp;rfl));(case hp=>exact (Reps.none _ _));intro v1 w1 dA aA hg_ hnew_;clear hg_ hnew_)|((with_reducible refine Q1v (b:=.append) (xs:=#[.tmp 5,.tmp 6]) rfl ?_);at_builtin;refine Kd.Q3h k27 (w0:=w) w.heap.size rfl (.tmp 5) (.tmp 6) 31 27 ((.agg #[(.int .i64 0),(.int .i64 0),(.int .i64 0)])) 24 rfl Try.underlying31 info27 rfl (by decide) (by omega) v1 [] l0 _ _ _ (fun _=>True) (fun _=>False) rfl rfl ?aO ?aR (fun _ _ h=>h) (fun _ h=>h.elim) ?aF ?aB ?aS ?aL ?_;(case aR=>exact Kd.Q12 bA aA);(case aB=>exact aA);(case aF=>exact (fun _ _=>trivial));(case aO=>exact dA);(case aS=>exact Q0h aA);(case aL=>simp only [List.length_nil];omega);intro v2 w2 eA fA iA gA))
   go_ret
   exact ⟨_,by first|rfl|(simp;done)|(simp<;>rfl),eA,fA⟩
 ·rw [if_neg hl] at h;cases h
end Go.Proofs.Ytbonkedecfjmdaa.P

namespace Go.Proofs.Ytbonkedecfjmdaa.P
open Go.RowKit Go.Proofs.YtbonkedecfjmdaaW.PrintWords Go.Proofs.YtbonkedecfjmdaaW.PrintLast Go.Proofs.YtbonkedecfjmdaaW.PrintMore Go.Proofs.Ytbonkedecfjmdaa.X
attribute [local go_sem] Q2a Q2b Q2s Q2q Q1z Q1y Q19 Q2c Q2r Q2p add64
set_option linter.unusedVariables false
set_option linter.unusedSimpArgs false
def Q2m.l0:Nat→List (S27)→List (S27)→Int→Option ((List (S27)))
 | 0,_,_,_=>none
 | k+1,x0,x3,x4=>if x4≥0 then (if 0≤x4 then (if x4<(x0.length:Int) then (if x3.length<5864062014805 then (Q2m.l0 k x0 (x3++[(⟨(Q0a x0 x4).f0,(Q0a x0 x4).f1,(Q0a x0 x4).f2⟩:S27)]) (wrap64 (x4 - 1))) else (none)) else (none)) else (none)) else (some x3)
def Q2m.f (k:Nat) (l0:List (S27)):Option ((List (S27))):=Q2m.l0 k l0 ([]:List (S27)) (wrap64 ((l0.length:Int) - 1))
theorem Q2m.Q1a:∀ k,(∀ y0 y1 y2,LeO (Q2m.l0 k y0 y1 y2) (Q2m.l0 (k+1) y0 y1 y2))
 | 0=>fun _ _ _ r h=>by simp [Q2m.l0] at h
 | k+1=>by
  have lA:=Q2m.Q1a k
  ·intro y0 y1 y2
   unfold Q2m.l0
   repeat' with_reducible first|exact lA _ _ _|exact LeO.refl _|exact LeO.none _|refine LeO.ite ?_ ?_|refine LeO.bind ?_ (fun _ => ?_)
theorem Q2m.mono:∀ a0 k,LeO (Q2m.f k a0) (Q2m.f (k+1) a0):=by
 intro a0 k
 have lA:=Q2m.Q1a k
 unfold Q2m.f
 repeat' with_reducible first|exact lA _ _ _|exact LeO.refl _|exact LeO.none _|refine LeO.ite ?_ ?_|refine LeO.bind ?_ (fun _ => ?_)
set_option maxHeartbeats 8000000 in
set_option maxRecDepth 100000 in
theorem Q2m.calls (k:Nat) (A0:Option Addr) (c0:Nat) (l0:List (S27)) (r:List (S27)) (w:World) (pA:Kd.C k27 w A0 l0.length l0) (qA:l0.length≤c0) (h:Q2m.f k l0=some r) :
  Calls Try.prog 85 #[.slice A0 l0.length c0] w fun e w'=>∃ v0_:Value,e=.returned (v0_)∧Kd.R k27 27 w' w.heap.size (fun _=>True) v0_ r∧Below w.heap.size w w':=by
 have tA:=Try.underlying27
 have uA:=AM pA
 have zA:=AM qA
 clear pA qA
 have HB:=AM (Below.refl w.heap.size w)
 have H:(Q2m.l0 k l0 ([]:List (S27)) (wrap64 ((l0.length:Int) - 1)))=some r:=h
 clear h
 have H':=AM H
 clear H
 go_enter Try.func85,Try.ntmps85
 go_wp2
 go_loopg [3,4] k (fun kq v3 v4 w'=>∃ (fA:List (S27)) (aA:Int),v4=.int .i64 aA∧Aside0 (Q2m.l0 kq l0 fA aA=some r)∧Aside0 (kq≤k)∧Aside0 (Kd.R k27 27 w' w.heap.size (fun _=>True) v3 fA)∧Aside0 (Below w.heap.size w w'))
 case atStart=>exact ⟨(([]:List (S27))),(wrap64 ((l0.length:Int) - 1)),rS,H',⟨Nat.le_refl _⟩,⟨by first|exact Kd.Q3k _ _ _ _ _|exact Kd.Q3t _ _ _ _ _|exact Kd.Q3x _ _ _ _ _|exact Kd.Q3v _ _ _ _ _|exact Kd.Q3y _ _ _ _ _⟩,⟨ bH HB⟩⟩
 case round =>
  clear H'
  obtain ⟨fA,aA,rfl,HA,rA,HO_3,HB⟩:=hrel
  cases gk with
  | zero=>exact absurd HA.out (by simp [Q2m.l0])
  | succ k1 =>
   have H:=HA.out;clear HA
   simp only [Q2m.l0] at H
   apply iC H<;>clear H<;>intro vA H
   ·apply iN H;clear H;intro wA H
    ·apply iN H;clear H;intro xA H
     ·by_cases c5:fA.length<5864062014805
      ·rw [if_pos c5] at H
       have mA:=AM c5
       clear c5
       obtain ⟨iA,bA⟩:∃ y_:List (S27),y_=(fA++[(⟨(Q0a l0 aA).f0,(Q0a l0 aA).f1,(Q0a l0 aA).f2⟩:S27)]):=⟨_,rfl⟩
       replace H:(Q2m.l0 k1 l0 iA (wrap64 (aA - 1)))=some r:=by first|(rw [bA];with_reducible exact H)|(have nA:=(Option.bind_some _ _).symm.trans H;rw [bA];with_reducible exact nA)|(have nA:=(Option.bind_some _ _).symm.trans H;with_reducible exact nA)|with_reducible exact H|(rw [bA];exact H)|exact H
       have jA:=AM bA
       clear bA
       have H':=AM H
       clear H
       have gA:0≤(aA:Int):=pD
       have hA:aA<(l0.length:Int):=pD
       obtain ⟨sA,oA,cA,dA,eA⟩:=Q2i uA.out aA gA hA
       cases oA
       replace cA:=hW HB cA;replace dA:=hW HB dA;replace eA:=hW HB eA;replace gA:=eq_true gA;replace hA:=eq_true hA
       go_wp2_with (first|((with_reducible refine Q1v (b:=.append) (xs:=#[.tmp 12,.tmp 17]) rfl ?_);at_builtin;refine Kd.Q3j k27 (w0:=w) w.heap.size rfl (.tmp 12) (.tmp 17) 31 27 (.agg #[(.int .i64 0),(.int .i64 0),(.int .i64 0)]) 24 rfl Try.underlying31 info27 rfl (by decide) (by omega) u3 fA (⟨(Q0a l0 aA).f0,(Q0a l0 aA).f1,(Q0a l0 aA).f2⟩:S27) [.int .i64 ((Q0a l0 aA).f0),.int .i64 ((Q0a l0 aA).f1),.int .i64 ((Q0a l0 aA).f2)] (fun _=>True) (fun _=>False) rfl rfl ?aP (fun _ hk=>hk.elim) ?aF ?aO ?aB ?aS ?aL ?_;(case aP=>exact Q2o _ _ _ (⟨(Q0a l0 aA).f0,(Q0a l0 aA).f1,(Q0a l0 aA).f2⟩:S27));(case aB=>exact (bH HB));(case aF=>exact (fun _ _=>trivial));(case aO=>exact (rK HO_3));(case aS=>exact (Q0h (bH HB)));(case aL=>have:=mA.out;omega);intro yA w6 ho hb hg hat;rw [← jA.out] at ho;replace HB:=AM hb;have kA:=AM ho;clear HO_3;clear ho hb hg hat))
       go_roundg k1
       case measure=>have:=rA.out;omega
       case rel=>exact ⟨(iA),(wrap64 (aA - 1)),rS,H',⟨by have:=rA.out;omega⟩,⟨rK kA⟩,⟨ bH HB⟩⟩
      ·rw [if_neg c5] at H
       exact absurd H (by simp)
   ·obtain rfl:=Option.some.inj H
    go_wp2
    go_ret
    exact ⟨_,rE,rK HO_3,bH HB⟩

def Q18.j0:Nat→Int→Bool→List (List (S27))→List (List Int)→List (List Int)→Option ((List (S27))×Int)
 | 0,_,_,_,_,_=>none
 | k+1,x1,x6,x378000,x378001,x378002=>if x1≥(x378000.length:Int) then (some (([]:List (S27)),2)) else (if x6=true then (if 0≤x1 then (if x1<(x378000.length:Int) then ((Q2m.f k (Q0e x378000 x1)).bind fun dB=>(some (dB,0))) else (none)) else (none)) else (if 0≤x1 then (if x1<(x378000.length:Int) then ((Q3f.f (Q0e x378000 x1)).bind fun eB=>(some (eB,0))) else (none)) else (none)))
def Q18.f (k:Nat) (aA:List (List (S27))) (cA:List (List Int)) (dA:List (List Int)) (a1:Int):Option ((List (S27))×Int):=if a1<0 then (Q18.j0 k (Go.bits .xor .i64 (-1) a1) (decide (a1<0)) aA cA dA) else (Q18.j0 k a1 (decide (a1<0)) aA cA dA)
theorem Q18.Q1a:∀ k,(∀ y0 y1 y2 y3 y4,LeO (Q18.j0 k y0 y1 y2 y3 y4) (Q18.j0 (k+1) y0 y1 y2 y3 y4))
 | 0=>fun _ _ _ _ _ r h=>by simp [Q18.j0] at h
 | k+1=>by
  have gC:=Q18.Q1a k
  ·intro y0 y1 y2 y3 y4
   unfold Q18.j0
   repeat' with_reducible first|exact gC _ _ _ _ _|exact Q2m.mono _ _|exact LeO.refl _|exact LeO.none _|refine LeO.ite ?_ ?_|refine LeO.bind ?_ (fun _ => ?_)
theorem Q18.mono:∀ a0 a1 a2 a3 k,LeO (Q18.f k a0 a1 a2 a3) (Q18.f (k+1) a0 a1 a2 a3):=by
 intro a0 a1 a2 a3 k
 have gC:=Q18.Q1a k
 unfold Q18.f
 repeat' with_reducible first|exact gC _ _ _ _ _|exact Q2m.mono _ _|exact LeO.refl _|exact LeO.none _|refine LeO.ite ?_ ?_|refine LeO.bind ?_ (fun _ => ?_)
set_option maxHeartbeats 8000000 in
set_option maxRecDepth 100000 in
theorem Q18.calls (k:Nat) (mA:Option Addr) (nA:Nat) (aA:List (List (S27))) (oA:Option Addr) (pA:Nat) (cA:List (List Int)) (qA:Option Addr) (rA:Nat) (dA:List (List Int)) (a1:Int) (r1:List (S27)) (r2:Int) (w:World) (wA:Kd.C (Kd.slice 27 k27) w mA aA.length aA) (xA:aA.length≤nA) (yA:Kd.C (Kd.slice 3 (Kd.int .i64)) w oA cA.length cA) (zA:cA.length≤pA) (aB:Kd.C (Kd.slice 3 (Kd.int .i64)) w qA dA.length dA) (bB:dA.length≤rA) (h:Q18.f k aA cA dA a1=some (r1,r2)) :
  Calls Try.prog 78 #[.agg #[.slice mA aA.length nA,.slice oA cA.length pA,.slice qA dA.length rA],.int .i64 a1] w fun e w'=>∃ v0_:Value,e=.returned (.tuple #[v0_,.int .i64 r2])∧Kd.R k27 27 w' w.heap.size (fun _=>True) v0_ r1∧Below w.heap.size w w':=by
 have dD:=Try.underlying25
 have cB:=AM wA
 have rC:=AM xA
 clear wA xA
 have tC:=AM yA
 have uC:=AM zA
 clear yA zA
 have vC:=AM aB
 have wC:=AM bB
 clear aB bB
 have HB:=AM (Below.refl w.heap.size w)
 have H:(if a1<0 then (Q18.j0 k (Go.bits .xor .i64 (-1) a1) (decide (a1<0)) aA cA dA) else (Q18.j0 k a1 (decide (a1<0)) aA cA dA))=some (r1,r2):=h
 clear h
 have hC:=AM H
 clear H
 go_enter Try.func78,Try.ntmps78
 go_upto_if 9 with (first|((with_reducible refine Q0i (N:=2) rfl ?_);refine bE 2 #[.slice mA aA.length nA,.slice oA cA.length pA,.slice qA dA.length rA] 25 ?_;intro pB hg w4 hbox hb;have bA:=AM hbox;have qB:=kG HB hg;replace HB:=kH HB hb;have xC:=qB;clear hb hbox hg))
 (try simp only [Act.put,List.setIfInBounds_toArray,List.set_cons_zero,List.set_cons_succ])
 go_cut [1] (fun v1 wc=>∃ (kq:Nat) (eA:Int),v1=.int .i64 eA∧Aside0 (Q18.j0 kq eA (decide (a1<0)) aA cA dA=some (r1,r2))∧Aside0 (kq≤k)∧Aside0 (wc.heap[pB]? = some (.cells #[(.slice mA aA.length nA),(.slice oA cA.length pA),(.slice qA dA.length rA)] 25 (0,0)))∧Aside0 (Below w.heap.size w wc))
 case first =>
  have H:=hC.out;clear hC
  apply iC H<;>clear H<;>intro lA H
  ·(first|rw [lA]|(simp only [Q1r,Q13];rw [lA])|skip)
   have H':=AM H
   clear H
   go_wp2
   (try rw [← lA])
   go_meet
   case rel=>exact ⟨_,(Go.bits .xor .i64 (-1) a1),rS,H',⟨by first|omega|exact Nat.le_refl _⟩,⟨bK bA⟩,⟨ bH HB⟩⟩
  ·(first|rw [lA]|(simp only [Q1r,Q13];rw [lA])|skip)
   have H':=AM H
   clear H
   go_wp2
   (try rw [← lA])
   go_meet
   case rel=>exact ⟨_,(a1),rS,H',⟨by first|omega|exact Nat.le_refl _⟩,⟨bK bA⟩,⟨ bH HB⟩⟩
 case rest =>
  clear hC
  obtain ⟨kq,eA,rfl,HA,kD,bA,HB⟩:=hcut
  cases kq with
  | zero=>exact absurd HA.out (by simp [Q18.j0])
  | succ kj2 =>
   have H:=HA.out;clear HA
   simp only [Q18.j0] at H
   apply iC H<;>clear H<;>intro eD H
   ·simp only [Option.some.injEq,Prod.mk.injEq] at H
    obtain ⟨rfl,rfl⟩:=H
    obtain ⟨jC,kC,lC,mC,nC,oC⟩:=c3 bA
    go_wp2
    go_ret2
    exact ⟨_,rE,by first|exact Kd.Q3k _ _ _ _ _|exact Kd.Q3t _ _ _ _ _|exact Kd.Q3x _ _ _ _ _|exact Kd.Q3v _ _ _ _ _|exact Kd.Q3y _ _ _ _ _,bH HB⟩
   ·by_cases c8:(decide (a1<0))=true
    ·rw [if_pos c8] at H
     have fB:(decide (a1<0))=true:=c8
     (try rw [fB])
     clear c8
     apply iN H;clear H;intro fD H
     ·apply iN H;clear H;intro yC H
      ·obtain ⟨dB,gD,H⟩:=bS H
       simp only [Option.some.injEq,Prod.mk.injEq] at H
       obtain ⟨rfl,rfl⟩:=H
       obtain ⟨uB,vB,wB,xB,yB,zB⟩:=c3 bA
       have gB:0≤(eA:Int):=pD
       have hB:eA<(aA.length:Int):=pD
       obtain ⟨zC,iB,jB,pC,fA,gA,hA⟩:=Q30 cB.out eA gB hB
       cases pC
       replace fA:=hW HB fA
       have sA:=AM hA
       have tA:=AM gA
       clear hA gA;replace gB:=eq_true gB;replace hB:=eq_true hB
       go_wp2_with (first|((with_reducible refine Q0n (f:=85) rfl ?_);refine gL (some 23) Try.func85 #[.slice iB (Q0e aA eA).length jB] ?_;(with_reducible refine (Q2m.calls kj2 _ _ (Q0e aA eA) dB _ ?side1 ?side2 gD.out).mono ?_);(case side1=>exact sC sA HB);(case side2=>exact tA.out);rintro e lD ⟨hD,rfl,rB,hb⟩;refine ⟨_,rfl,?_⟩;have sB:=AM (Kd.Q1b rB (Q0h (bH HB)));replace bA:=kB bA hb;replace HB:=kH HB hb;clear hb rB))
       go_ret2
       exact ⟨_,rE,rK sB,bH HB⟩
    ·rw [if_neg c8] at H
     have fB:(decide (a1<0))=false:=by simpa using c8
     (try rw [fB])
     clear c8
     apply iN H;clear H;intro aD H
     ·apply iN H;clear H;intro bD H
      ·obtain ⟨eB,iD,H⟩:=bS H
       simp only [Option.some.injEq,Prod.mk.injEq] at H
       obtain ⟨rfl,rfl⟩:=H
       obtain ⟨aC,bC,cC,dC,eC,fC⟩:=c3 bA
       have lB:0≤(eA:Int):=pD
       have mB:eA<(aA.length:Int):=pD
       obtain ⟨cD,nB,oB,qC,iA,jA,kA⟩:=Q30 cB.out eA lB mB
       cases qC
       replace iA:=hW HB iA
       have uA:=AM kA
       have vA:=AM jA
       clear kA jA;replace lB:=eq_true lB;replace mB:=eq_true mB
       go_wp2_with (first|((with_reducible refine Q0n (f:=72) rfl ?_);refine gL (some 29) Try.func72 #[.slice nB (Q0e aA eA).length oB] ?_;(with_reducible refine (Q3f.calls _ _ (Q0e aA eA) eB _ ?side1 ?side2 iD.out).mono ?_);(case side1=>exact sC uA HB);(case side2=>exact vA.out);rintro e mD ⟨jD,rfl,rB,hb⟩;refine ⟨_,rfl,?_⟩;have tB:=AM (Kd.Q1b rB (Q0h (bH HB)));replace bA:=kB bA hb;replace HB:=kH HB hb;clear hb rB))
       go_ret2
       exact ⟨_,rE,rK tB,bH HB⟩
end Go.Proofs.Ytbonkedecfjmdaa.P
