/- plan.Check's value. plan.Areas' value. The document's arcs; how long a map is. No condition. The document's points of arcs: the same. No condition. Rings: twice the area, as the document's function answers. Rings: whether a point lies in one, as the document's function answers. What the document says of rings that close and of polygons that fill: the values. No condition. -/
import Derived.Test.YtbonkedecfjmdaaZ31
import Derived.Test.YtbonkedecfjmdaaZ21
import Derived.Test.YtbonkedecfjmdaaZ26
import Derived.Test.YtbonkedecfjmdaaZ27
import Derived.Test.YtbonkedecfjmdaaZ30
import Derived.Test.YtbonkedecfjmdaaZ4
import Derived.Test.YtbonkedecfjmdaaZ19
import Derived.Test.YtbonkedecfjmdaaZ6
import Derived.Test.YtbonkedecfjmdaaZ17
import Derived.Test.YtbonkedecfjmdaaZ23
import Derived.Test.YtbonkedecfjmdaaZ9
import Derived.Test.YtbonkedecfjmdaaZ7
import Derived.Test.YtbonkedecfjmdaaZ10

namespace Go.Proofs.Ytbonkedecfjmdaa.Pl
set_option linter.unusedVariables false
set_option linter.unusedSimpArgs false
open Go Go.RowKit Go.Proofs.Ytbonkedecfjmdaa.P Go.Proofs.Ytbonkedecfjmdaa.G Go.Proofs.Ytbonkedecfjmdaa.WL Go.Proofs.YtbonkedecfjmdaaW.PrintWords Go.Proofs.YtbonkedecfjmdaaW.PrintLast Go.Proofs.YtbonkedecfjmdaaW.PrintMore
def longV (m:List (List Pt)) (r p:List (List Int)):Bool:=decide (r.length>1000) || (decide (p.length>1000) || (decide (r.flatten.length>20000) || decide (p.flatten.length>20000)))
def checkV (m:List (List Pt)) (r p:List (List Int)):Int :=
 if arcsV m=3∨longV m r p=true then 3 else if arcsV m≠0 then arcsV m else if meetsV m=true then 91 else if closesV m r=true then (if FillsV m r p=true then 0 else 92) else 90
theorem Qe8 (m:List (List Pt)) (r p:List (List Int)) (k:Nat):checkV m r (turnL p k)=checkV m r p:=by
 unfold checkV longV
 rw [Qbw,Q65,Q9d]
theorem Q5h {m:List (List Pt)} (h:arcsV m=0):m.length≤2000∧∀ x∈m,x.length≤20000:=by
 unfold arcsV at h
 split at h
 ·cases h
 ·rename_i hn
  refine ⟨by omega,fun x hx => ?_⟩
  have:x.length≤(m.map List.length).sum:=by
   clear hn h
   induction m with
   | nil=>simp at hx
   | cons y m ih =>
    rw [List.map_cons,List.sum_cons]
    rcases List.mem_cons.1 hx with rfl|hx
    ·omega
    ·have:=ih hx;omega
  omega
theorem Qak (m:List (List Pt)) (r p:List (List Int)) (e:Int) (b:Bool) (he:e=arcsV m) (hb:b=false→longV m r p=false) (hwf:∀ x∈r,∀ n∈x,wf64 n):Ev (fun k=>Q0y.j1 k e b m r p) (if b=true then 3 else if e≠0 then e else if meetsV m=true then 91 else if closesV m r=true then (if FillsV m r p=true then 0 else 92) else 90):=by
 subst he
 cases b with
 | true=>exact Ev.step (f:=fun _=>some 3) (fun k=>by simp only [Q0y.j1,if_true]) (Ev.now _)
 | false =>
  have hl:=hb rfl
  simp only [Bool.false_eq_true,if_false]
  by_cases h0:arcsV m=0
  ·obtain ⟨hm,hx⟩:=Q5h h0
   unfold longV at hl
   simp only [Bool.or_eq_false_iff,decide_eq_false_iff_not] at hl
   obtain ⟨l1,l2,l3,l4⟩:=hl
   have c1:m.length≤1048576∧∀ x∈m,x.length≤1048576:=⟨by omega,fun x h=>Nat.le_trans (hx x h) (by omega)⟩
   have c2:(∀ x∈m,x.length≤20000)∧r.length≤20000∧r.flatten.length≤20000∧(∀ x∈r,∀ n∈x,-9223372036854775808≤n∧n≤9223372036854775807)∧m.length≤1000000:=⟨hx,by omega,by omega,hwf,by omega⟩
   have c3:(∀ x∈m,x.length≤20000)∧r.length≤20000∧r.flatten.length≤20000∧(∀ x∈r,∀ n∈x,-9223372036854775808≤n∧n≤9223372036854775807)∧p.length≤20000∧p.flatten.length≤20000:=⟨hx,by omega,by omega,hwf,by omega,by omega⟩
   rw [if_neg (by simpa using h0)]
   refine Ev.step (f:=fun _=>some (if meetsV m=true then 91 else if closesV m r=true then (if FillsV m r p=true then 0 else 92) else 90)) (fun k => ?_) (Ev.now _)
   simp only [Q0y.j1,Bool.false_eq_true,if_false,if_pos h0,Q4k.f,Q35.f,Q4l.f,if_pos c1,if_pos c2,if_pos c3,Option.bind_some]
   cases meetsV m<;>cases closesV m r<;>cases FillsV m r p<;>rfl
  ·rw [if_pos h0]
   exact Ev.step (f:=fun _=>some (arcsV m)) (fun k=>by simp only [Q0y.j1,Bool.false_eq_true,if_false,if_neg h0]) (Ev.now _)
theorem Qd8 (m:List (List Pt)) (r p:List (List Int)) (b:Bool) (hb:b=longV m r p) (hwf:∀ x∈r,∀ n∈x,wf64 n):Ev (fun k=>Q0y.j0 k (arcsV m) b m r p) (checkV m r p):=by
 subst hb
 by_cases h3:arcsV m=3
 ·have:=Qak m r p (arcsV m) true rfl (by simp) hwf
  rw [if_pos rfl] at this
  unfold checkV
  rw [if_pos (.inl h3)]
  exact Ev.step (fun k=>by simp only [Q0y.j0,if_pos h3]) this
 ·have:=Qak m r p (arcsV m) (longV m r p) rfl id hwf
  unfold checkV
  have e:(arcsV m=3∨longV m r p=true)↔longV m r p=true:=⟨fun h=>h.resolve_left h3,.inr⟩
  simp only [e]
  exact Ev.step (fun k=>by simp only [Q0y.j0,if_neg h3]) this
theorem Q93 (m:List (List Pt)) (r p:List (List Int)) (hm:m.length≤1048576) (hx:∀ a∈m,a.length≤1048576) (hr:r.length≤1048576) (hrf:r.flatten.length≤1048576) (hp:p.length≤1048576) (hpf:p.flatten.length≤1048576) (hwf:∀ x∈r,∀ n∈x,wf64 n):Ev (fun k=>Q0y.f k m r p) (checkV m r p):=by
 unfold Q0y.f
 refine Ev.bind (Qb6 m hm hx) ?_
 have L:=fun b (h:b=longV m r p)=>Qd8 m r p b h hwf
 by_cases h1:r.length>1000
 ·simp only [if_pos (show (r.length:Int)>1000 by omega)]
  exact L true (by simp [longV,h1])
 ·simp only [if_neg (show ¬ (r.length:Int)>1000 by omega)]
  by_cases h2:p.length>1000
  ·simp only [if_pos (show (p.length:Int)>1000 by omega)]
   exact L true (by simp [longV,h2])
  ·simp only [if_neg (show ¬ (p.length:Int)>1000 by omega)]
   have e1:Q1j.f r=some r.flatten:=by unfold Q1j.f;rw [if_pos ⟨by omega,by omega⟩]
   have e2:Q1j.f p=some p.flatten:=by unfold Q1j.f;rw [if_pos ⟨by omega,by omega⟩]
   simp only [e1,e2,Option.bind_some]
   have hl:longV m r p=(decide (r.flatten.length>20000) || decide (p.flatten.length>20000)):=by simp [longV,h1,h2]
   by_cases h3:r.flatten.length>20000
   ·simp only [if_pos (show (r.flatten.length:Int)>20000 by omega)]
    exact L true (by rw [hl];simp only [h3,decide_true,Bool.true_or])
   ·simp only [if_neg (show ¬ (r.flatten.length:Int)>20000 by omega)]
    refine L _ ?_
    rw [hl,decide_eq_false h3,Bool.false_or]
    by_cases h4:p.flatten.length>20000
    ·rw [decide_eq_true h4,decide_eq_true (by omega)]
    ·rw [decide_eq_false h4,decide_eq_false (by omega)]

def polyA (m:List (List Pt)) (r:List (List Int)) (l:List Int):Int:=(l.map fun k=>areaV (ringAt m r k).1).sum
theorem Qdi {m:List (List Pt)} {r:List (List Int)} (hs:Small m r) (p:List (List Int)) (x5:List S50) (h5:x5.length<8796093022208) (x19:List (List Int)) (x20 x21:Int) (poly:List Int) (hpl:poly.length≤100000000) (R:List S50×Int):∀ (n i:Nat) (x:Int),i+n=poly.length →
  Ev (fun k=>Q08.l0 k (x5++[num (x+polyA m r (poly.drop i))]) x19 x20 (wrap64 (x21+1)) m r p) R→Ev (fun k=>Q08.l1 k x5 x19 x20 x21 poly (poly.length:Int) (i:Int) m r p (hiw x) (low x)) R:=by
 intro n
 induction n with
 | zero =>
  intro i x hi h
  rw [List.drop_of_length_le (by omega)] at h
  refine Ev.step (fun k => ?_) h
  conv=>lhs;unfold Q08.l1
  rw [if_neg (by omega),if_pos h5]
  simp [polyA,num]
 | succ n ih =>
  intro i x hi h
  have hlt:i<poly.length:=by omega
  have hd:polyA m r (poly.drop i)=areaV (ringAt m r poly[i]).1+polyA m r (poly.drop (i+1)):=by unfold polyA;rw [List.drop_eq_getElem_cons hlt,List.map_cons,List.sum_cons]
  rw [hd,← Int.add_assoc] at h
  have nx:=ih (i+1) (x+areaV (ringAt m r poly[i]).1) (by omega) h
  refine Ev.step (f:=fun k=>(Q1u.f k m r p poly[i]).bind fun bt806=>((Q1x.f k bt806.1).bind fun bt810=>((Q1l.f k (hiw x) (low x) (([(⟨bt810.1,bt810.2⟩:S50)]:List (S50)))).bind fun bt815=>(Q08.l1 k x5 x19 x20 x21 poly (poly.length:Int) ((i+1:Nat):Int) m r p bt815.1 bt815.2)))) (fun k => ?_) ?_
  ·conv=>lhs;unfold Q08.l1
   rw [if_pos (by omega),if_pos (by omega),if_pos (by omega),nxt i (by omega),show rd poly (i:Int)=poly[i] by simp [rd,List.getD,List.getElem?_eq_getElem hlt]]
  ·refine Ev.bind (Q5r hs p poly[i]) ?_
   refine Ev.bind (Q86 _ (by have:=Q36 hs poly[i];omega)) ?_
   refine Ev.bind (Q9c x (areaV (ringAt m r poly[i]).1)) ?_
   exact nx
def outA (m:List (List Pt)) (r p:List (List Int)):List S50:=(p.map (polyA m r)).map num
theorem Qag (m:List (List Pt)) (r p:List (List Int)):(outA m r p).length=p.length:=by simp [outA]
theorem Qee {m:List (List Pt)} {r:List (List Int)} (hs:Small m r) (p:List (List Int)) (hp:p.length≤100000000) (hpx:∀ x∈p,x.length≤100000000):∀ (n i:Nat),i+n=p.length →
  Ev (fun k=>Q08.l0 k (outA m r (p.take i)) p (p.length:Int) (i:Int) m r p) (outA m r p,0):=by
 intro n
 induction n with
 | zero =>
  intro i hi
  refine Ev.step (f:=fun _=>some (outA m r p,0)) (fun k => ?_) (Ev.now _)
  conv=>lhs;unfold Q08.l0
  rw [if_neg (by omega),List.take_of_length_le (by omega)]
 | succ n ih =>
  intro i hi
  have hlt:i<p.length:=by omega
  have hx:=hpx _ (List.getElem_mem hlt)
  refine Ev.step (f:=fun k=>Q08.l1 k (outA m r (p.take i)) p (p.length:Int) (i:Int) p[i] (p[i].length:Int) ((0:Nat):Int) m r p (hiw 0) (low 0)) (fun k => ?_) ?_
  ·conv=>lhs;unfold Q08.l0
   rw [if_pos (by omega),if_pos (by omega),if_pos (by omega),show Q06 p (i:Int)=p[i] by simp [Q06,List.getD,List.getElem?_eq_getElem hlt]]
   rfl
  ·refine Qdi hs p _ (by rw [Qag,List.length_take];omega) p (p.length:Int) (i:Int) p[i] hx _ p[i].length 0 0 (by omega) ?_
   rw [nxt i (by omega),List.drop_zero,Int.zero_add]
   have e:outA m r (p.take i)++[num (polyA m r p[i])]=outA m r (p.take (i+1)):=by
    have e2:p.take (i+1)=p.take i++[p[i]]:=by rw [List.take_add_one,List.getElem?_eq_getElem hlt];rfl
    unfold outA
    rw [e2,List.map_append,List.map_append]
    rfl
   rw [e]
   exact ih (i+1) (by omega)
def areasO (m:List (List Pt)) (r p:List (List Int)):List S50:=if checkV m r p=0 then outA m r p else []
theorem Q6x {m:List (List Pt)} {r p:List (List Int)} (h:checkV m r p=0):arcsV m=0∧longV m r p=false:=by
 unfold checkV at h
 split at h
 ·cases h
 ·rename_i hn
  split at h
  ·rename_i h0
   exact absurd h h0
  ·rename_i h0
   refine ⟨by simpa using h0,?_⟩
   cases hl:longV m r p with
   | false=>rfl
   | true=>exact absurd (.inr hl) hn
theorem Q4q {m:List (List Pt)} {r p:List (List Int)} (h:checkV m r p=0):(m.length≤2000∧∀ x∈m,x.length≤20000)∧r.length≤1000∧p.length≤1000∧r.flatten.length≤20000∧p.flatten.length≤20000:=by
 obtain ⟨h1,h2⟩:=Q6x h
 unfold longV at h2
 simp only [Bool.or_eq_false_iff,decide_eq_false_iff_not] at h2
 obtain ⟨l1,l2,l3,l4⟩:=h2
 exact ⟨Q5h h1,by omega,by omega,by omega,by omega⟩
theorem Qc9 (m:List (List Pt)) (r p:List (List Int)) (hm:m.length≤1048576) (hx:∀ a∈m,a.length≤1048576) (hr:r.length≤1048576) (hrf:r.flatten.length≤1048576) (hp:p.length≤1048576) (hpf:p.flatten.length≤1048576) (hwf:∀ x∈r,∀ n∈x,wf64 n):Ev (fun k=>Q08.f k m r p) (areasO m r p,checkV m r p):=by
 unfold Q08.f
 refine Ev.bind (Q93 m r p hm hx hr hrf hp hpf hwf) ?_
 unfold areasO
 by_cases h:checkV m r p=0
 ·obtain ⟨⟨s1,s2⟩,s3,s4,s5,s6⟩:=Q4q h
  have hs:Small m r:=⟨s2,by omega,s5,hwf⟩
  simp only [if_pos h,h]
  have:=Qee hs p (by omega) (fun x hx=>Nat.le_trans (Q3g p x hx) (by omega)) p.length 0 (by omega)
  exact this
 ·simp only [if_neg h]
  exact Ev.now _
end Go.Proofs.Ytbonkedecfjmdaa.Pl

namespace Go.Proofs.Ytbonkedecfjmdaa.Gr
set_option linter.unusedVariables false
set_option linter.unusedSimpArgs false
open Go.RowKit Go.Proofs.Ytbonkedecfjmdaa.P Go.Proofs.YtbonkedecfjmdaaW.PrintWords Go.Proofs.YtbonkedecfjmdaaW.PrintLast Go.Proofs.YtbonkedecfjmdaaW.PrintMore
theorem Qfg (x:Int) (a:List Pt) (hl:a.length<5864062014805):∀ (n i:Nat) (b:List Pt),i+n=a.length→b.length≤i →
  Ev (fun k=>Q1e.l0 k x b a (i:Int)) (b++(if x<0 then a.reverse else a).drop i,0):=by
 intro n
 induction n with
 | zero =>
  intro i b hi _
  refine Ev.step (fun k=>Q1e.l0.eq_2 _ _ _ _ _) ?_
  simp only [if_neg (show ¬ ((i:Int)<(a.length:Int)) by omega)]
  rw [List.drop_of_length_le (by split<;>(first|omega|(rw [List.length_reverse];omega))),List.append_nil]
  exact Ev.now _
 | succ n ih =>
  intro i b hi hb
  have h1:i<a.length:=by omega
  refine Ev.step (fun k=>Q1e.l0.eq_2 _ _ _ _ _) ?_
  by_cases h:x<0
  ·have I:=ih (i+1) (b++[a[a.length - 1 - i]]) (by omega) (by rw [List.length_append,List.length_singleton];omega)
   have e:wrap64 (wrap64 ((a.length:Int) - 1) - (i:Int))=((a.length - 1 - i:Nat):Int):=by
    rw [Q2u (x:=(a.length:Int) - 1) (by omega) (by omega),Q2u (by omega) (by omega)];omega
   simp only [if_pos h] at I ⊢
   simp only [if_pos (show (i:Int)<(a.length:Int) by omega),e,if_pos (show (0:Int)≤((a.length - 1 - i:Nat):Int) by omega),if_pos (show ((a.length - 1 - i:Nat):Int)<(a.length:Int) by omega),if_pos (show b.length<5864062014805 by omega),rdp a (a.length - 1 - i) (by omega),Q2u (x:=(i:Int)+1) (by omega) (by omega)]
   have I':(b++[a[a.length - 1 - i]])++a.reverse.drop (i+1)=b++a.reverse.drop i:=by
    rw [List.drop_eq_getElem_cons (show i<a.reverse.length by simpa using h1),List.getElem_reverse,List.append_assoc];rfl
   rw [I'] at I
   exact I
  ·have I:=ih (i+1) (b++[a[i]]) (by omega) (by rw [List.length_append,List.length_singleton];omega)
   simp only [if_neg h] at I ⊢
   simp only [if_pos (show (i:Int)<(a.length:Int) by omega),if_pos (show (0:Int)≤(i:Int) by omega),if_pos (show b.length<5864062014805 by omega),rdp a i h1,Q2u (x:=(i:Int)+1) (by omega) (by omega)]
   have I':(b++[a[i]])++a.drop (i+1)=b++a.drop i:=by
    rw [List.drop_eq_getElem_cons h1,List.append_assoc];rfl
   rw [I'] at I
   exact I
theorem Q9e (m:List (List Pt)) (r p:List (List Int)) (n:Int) (h1 : -9223372036854775808≤n) (h2:n≤9223372036854775807) (hm:∀ x∈m,x.length<5864062014805) :
  Ev (fun k=>Q1e.f k m r p n) (match arcB m n with|some l=>(l,0)|none=>([],2)):=by
 have key:∀ i:Nat,(n=(i:Int)∨n = -1 - (i:Int))→Ev (fun k=>Q1e.j0 k n [] (i:Int) m r p) (match m[i]? with|some l=>((if n<0 then l.reverse else l),0)|none=>([],2)):=by
  intro i hi
  refine Ev.step (fun k=>Q1e.j0.eq_2 _ _ _ _ _ _ _) ?_
  simp only [if_neg (show ¬ ((i:Int)<0) by omega)]
  refine Ev.step (fun k=>Q1e.j1.eq_2 _ _ _ _ _ _ _ _) ?_
  by_cases hl:i<m.length
  ·simp only [decide_eq_false (show ¬ ((i:Int)≥(m.length:Int)) by omega),Bool.false_eq_true,if_false,if_pos (show (0:Int)≤(i:Int) by omega),if_pos (show (i:Int)<(m.length:Int) by omega),rdl m i hl,List.getElem?_eq_getElem hl]
   have h:=Qfg n m[i] (hm _ (List.getElem_mem hl)) m[i].length 0 [] (by omega) (by simp)
   simpa using h
  ·simp only [decide_eq_true (show ((i:Int)≥(m.length:Int)) by omega),if_true,List.getElem?_eq_none (show m.length≤i by omega)]
   exact Ev.now _
 unfold Q1e.f arcB
 by_cases h:n<0
 ·obtain ⟨i,hi⟩:=Int.eq_ofNat_of_zero_le (show 0 ≤ -1 - n by omega)
  have K:=key i (.inr (by omega))
  simp only [if_pos h,if_neg (show ¬ 0≤n by omega)] at K ⊢
  rw [Q2u (x := -1 - n) (by omega) (by omega),hi,Int.toNat_natCast]
  cases hh:m[i]? <;> simp only [hh,Option.map_some,Option.map_none] at K ⊢ <;> exact K
 ·obtain ⟨i,rfl⟩:=Int.eq_ofNat_of_zero_le (show 0≤n by omega)
  have K:=key i (.inl rfl)
  simp only [if_neg h,if_pos (show 0≤(i:Int) by omega),Int.toNat_natCast] at K ⊢
  exact K

def okNext (L:List (List Pt)) (i:Nat):Bool:=eqP (lastP (Q0e L (i:Int))) (headP (Q0e L (((i+1) % L.length:Nat):Int)))
theorem Qg1 (L:List (List Pt)):(∀ i,i<L.length→okAt L i=true)↔(∀ i,i<L.length→okNext L i=true):=by
 constructor
 ·intro h i hi
  have h1:=h ((i+1) % L.length) (Nat.mod_lt _ (by omega))
  unfold okAt at h1
  have e:((i+1) % L.length+L.length - 1) % L.length=i:=by
   by_cases hq:i+1=L.length
   ·rw [hq,Nat.mod_self,Nat.zero_add,Nat.mod_eq_of_lt (by omega)];omega
   ·rw [Nat.mod_eq_of_lt (show i+1<L.length by omega),show i+1+L.length - 1=i+L.length by omega,Nat.add_mod_right,Nat.mod_eq_of_lt hi]
  rw [e] at h1
  exact h1
 ·intro h i hi
  have h1:=h ((i+L.length - 1) % L.length) (Nat.mod_lt _ (by omega))
  unfold okNext at h1
  have e:((i+L.length - 1) % L.length+1) % L.length=i:=by
   by_cases hq:i=0
   ·rw [hq,Nat.zero_add,Nat.mod_eq_of_lt (show L.length - 1<L.length by omega),show L.length - 1+1=L.length by omega,Nat.mod_self]
   ·rw [show i+L.length - 1=i - 1+L.length by omega,Nat.add_mod_right,Nat.mod_eq_of_lt (show i - 1<L.length by omega),show i - 1+1=i by omega,Nat.mod_eq_of_lt hi]
  rw [e] at h1
  exact h1
def nextFrom (L:List (List Pt)) (i n:Nat):Bool:=(List.range' i n).all (okNext L)
theorem Qfh (m:List (List Pt)) (r p:List (List Int)) (B:Nat) (hb:B<5864062014805) (hm:∀ x∈m,x.length≤B) (refs:List Int) (hr:refs.length≤1000000000000) (hw:∀ x∈refs,-9223372036854775808≤x∧x≤9223372036854775807) (hs:refs.length*B<5864062014805)
  (L:List (List Pt)) (hL:arcsOf m refs=some L):∀ (n i:Nat),i+n=refs.length→Ev (fun k=>Q0f.l1 k refs (flatL (L.take i)) (i:Int) m r p) (if nextFrom L i n then (flatL L,0) else ([],90)):=by
 obtain ⟨hn,hg⟩:=Q52 m refs L hL
 have hlen:∀ a∈L,a.length≤B:=by
  intro a ha
  obtain ⟨j,hj,rfl⟩:=List.mem_iff_getElem.1 ha
  obtain ⟨x,hx,e⟩:=Q7s (hg j (by omega) hj).1
  have:=hm x hx;omega
 intro n
 induction n with
 | zero =>
  intro i hi
  refine Ev.step (fun k=>Q0f.l1.eq_2 _ _ _ _ _ _ _) ?_
  simp only [if_neg (show ¬ ((i:Int)<(refs.length:Int)) by omega)]
  rw [show i=L.length by omega,List.take_length]
  simp only [nextFrom,List.range'_zero,List.all_nil,if_true]
  exact Ev.now _
 | succ n ih =>
  intro i hi
  have h1:i<refs.length:=by omega
  have h2:i<L.length:=by omega
  have hk0:(i+1) % L.length<L.length:=Nat.mod_lt _ (by omega)
  have I:=ih (i+1) (by omega)
  obtain ⟨j,hj⟩:∃ j,(i+1) % L.length=j:=⟨_,rfl⟩
  have hk:j<L.length:=by rw [← hj];exact hk0
  have key:Ev (fun k=>Q0f.j2 k refs (flatL (L.take i)) (i:Int) ((j:Nat):Int) m r p) (if nextFrom L i (n+1) then (flatL L,0) else ([],90)):=by
   have hA:=Q9e m r p refs[i] (hw _ (List.getElem_mem h1)).1 (hw _ (List.getElem_mem h1)).2 (fun x hx=>by have:=hm x hx;omega)
   have hB:=Q9e m r p (refs[j]'(by omega)) (hw _ (List.getElem_mem _)).1 (hw _ (List.getElem_mem _)).2 (fun x hx=>by have:=hm x hx;omega)
   rw [(hg i h1 h2).1] at hA
   rw [(hg j (by omega) hk).1] at hB
   have p1:=(hg i h1 h2).2
   have p2:=(hg j (by omega) hk).2
   have b1:=hlen _ (List.getElem_mem h2)
   have hsp:nextFrom L i (n+1)=(okNext L i&&nextFrom L (i+1) n):=by unfold nextFrom;rw [List.range'_succ,List.all_cons]
   have hok:okNext L i=eqP (lastP L[i]) (headP L[j]):=by unfold okNext;rw [hj,rdl L i h2,rdl L j hk]
   have hfl:flatL (L.take (i+1))=flatL (L.take i)++L[i].dropLast:=by
    unfold flatL;rw [List.take_succ_eq_append_getElem h2,List.map_append,List.flatten_append];simp
   have hl2:(flatL (L.take (i+1))).length<5864062014805:=by
    have q1:=Q7n (L.take (i+1))
    have q2:=Q6w B L hlen
    have q3:((L.take (i+1)).map List.length).sum≤(L.map List.length).sum:=by
     rw [List.map_take]
     conv=>rhs;rw [← List.take_append_drop (i+1) (L.map List.length),List.sum_append]
     omega
    rw [hn] at q2
    omega
   rw [hfl,List.length_append,List.length_dropLast] at hl2
   refine Ev.step (fun k=>Q0f.j2.eq_2 _ _ _ _ _ _ _ _) ?_
   have hri:rd refs (i:Int)=refs[i]:=by unfold rd;simp [h1]
   have hrj:rd refs (j:Int)=refs[j]'(by omega):=by unfold rd;simp [show j<refs.length by omega]
   simp only [if_pos (show (0:Int)≤(i:Int) by omega),if_pos (show (i:Int)<(refs.length:Int) by omega),if_pos (show (0:Int)≤(j:Int) by omega),if_pos (show (j:Int)<(refs.length:Int) by omega),hri,hrj]
   refine Ev.bind hA ?_
   refine Ev.bind hB ?_
   simp only [Q2u (x:=(L[i].length:Int) - 1) (by omega) (by omega),Q2u (x:=(i:Int)+1) (by omega) (by omega),if_pos (show (0:Int)≤(L[i].length:Int) - 1 by omega),if_pos (show (L[i].length:Int) - 1<(L[i].length:Int) by omega),if_pos (show (0:Int)<(L[j].length:Int) by omega),if_pos (show (L[i].length:Int) - 1≤(L[i].length:Int) by omega)]
   rw [hsp,hok]
   by_cases hc:eqP (lastP L[i]) (headP L[j])=true
   ·have hc':=hc
    unfold eqP lastP headP at hc'
    simp only [Bool.and_eq_true] at hc'
    simp only [hc'.1,hc'.2.1,hc'.2.2,Bool.not_true,Bool.or_self,Bool.false_eq_true,if_false,hc,Bool.true_and,Option.bind_some,show ((L[i].length:Int) - 1).toNat=L[i].length - 1 by omega,← List.dropLast_eq_take,List.length_dropLast,if_pos hl2]
    rw [hfl] at I
    exact I
   ·have hc':=hc
    rw [Bool.not_eq_true] at hc
    have hd:(!((Q0a L[i] ((L[i].length:Int) - 1)).f0==(Q0a L[j] 0).f0) || (!((Q0a L[i] ((L[i].length:Int) - 1)).f1==(Q0a L[j] 0).f1) || (!((Q0a L[i] ((L[i].length:Int) - 1)).f2==(Q0a L[j] 0).f2))))=true:=by
     unfold eqP lastP headP at hc
     rw [← Bool.not_and,← Bool.not_and,hc];rfl
    simp only [hd,hc,Bool.false_and,Bool.false_eq_true,if_false,if_true]
    exact Ev.now _
  refine Ev.step (fun k=>Q0f.l1.eq_2 _ _ _ _ _ _ _) ?_
  simp only [if_pos (show (i:Int)<(refs.length:Int) by omega),Q2u (x:=(i:Int)+1) (by omega) (by omega)]
  by_cases hq:(i:Int)+1=(refs.length:Int)
  ·simp only [if_pos hq]
   rw [show j=0 by rw [← hj,hn,show i+1=refs.length by omega,Nat.mod_self]] at key
   exact key
  ·simp only [if_neg hq]
   rw [Nat.mod_eq_of_lt (show i+1<L.length by omega)] at hj
   rw [← hj] at key
   exact key
theorem Qf1 (m:List (List Pt)) (r p:List (List Int)) (B:Nat) (hb:B<5864062014805) (hm:∀ x∈m,x.length≤B) (refs:List Int) (hr:refs.length≤1000000000000) (hw:∀ x∈refs,-9223372036854775808≤x∧x≤9223372036854775807) (hs:refs.length*B<5864062014805) :
  ∀ (n i:Nat),i+n=refs.length→(arcsOf m (refs.drop i)=none↔arcsOf m refs=none)→Ev (fun k=>Q0f.l0 k refs (i:Int) m r p) (ptsV m [] refs):=by
 intro n
 induction n with
 | zero =>
  intro i hi hn
  refine Ev.step (fun k=>Q0f.l0.eq_2 _ _ _ _ _ _) ?_
  simp only [if_neg (show ¬ ((i:Int)<(refs.length:Int)) by omega)]
  rw [List.drop_of_length_le (by omega)] at hn
  cases hL:arcsOf m refs with
  | none=>rw [hL] at hn;simp [arcsOf] at hn
  | some L =>
   have hl:=(Q52 m refs L hL).1
   have h:=Qfh m r p B hb hm refs hr hw hs L hL refs.length 0 (by omega)
   have e:(if nextFrom L 0 refs.length then (flatL L,(0:Int)) else ([],90))=if okFrom L 0 L.length then (flatL L,(0:Int)) else ([],90):=by
    have e1:nextFrom L 0 refs.length=okFrom L 0 L.length:=by
     rw [← hl]
     rw [Bool.eq_iff_iff]
     unfold nextFrom okFrom
     simp only [List.all_eq_true,List.mem_range'_1,Nat.zero_le,true_and,Nat.zero_add]
     exact (Qg1 L).symm
    rw [e1]
   unfold ptsV ringV
   rw [hL]
   simp only [List.nil_append]
   by_cases h0:refs.length=0
   ·simp only [if_pos (show (refs.length:Int)=0 by omega),if_neg (show ¬ 0<L.length by omega)]
    exact Ev.now _
   ·simp only [if_neg (show ¬ (refs.length:Int)=0 by omega),if_pos (show 0<L.length by omega)]
    rw [e] at h
    exact h
 | succ n ih =>
  intro i hi hn
  have h1:i<refs.length:=by omega
  have hx:=hw _ (List.getElem_mem h1)
  refine Ev.step (fun k=>Q0f.l0.eq_2 _ _ _ _ _ _) ?_
  have hrd:rd refs (i:Int)=refs[i]:=by unfold rd;simp [h1]
  simp only [if_pos (show (i:Int)<(refs.length:Int) by omega),if_pos (show (0:Int)≤(i:Int) by omega),hrd,Q2u (x:=(i:Int)+1) (by omega) (by omega)]
  refine Ev.bind (Q9e m r p refs[i] hx.1 hx.2 (fun x hx=>by have:=hm x hx;omega)) ?_
  rw [List.drop_eq_getElem_cons h1] at hn
  unfold arcsOf at hn
  cases hq:arcB m refs[i] with
  | none =>
   rw [hq] at hn
   have h2:arcsOf m refs=none:=by
    have h3:=hn.1 rfl
    rw [← h3];rw [arcsOf.eq_def]
   simp only [if_neg (show ¬ ((2:Int)=0) by decide)]
   unfold ptsV
   rw [h2]
   exact Ev.now _
  | some a =>
   rw [hq] at hn
   simp only [if_true]
   by_cases h0:a.length=0
   ·have h2:arcsOf m refs=none:=by
     have h3:=hn.1 (by simp only [if_pos h0])
     rw [← h3];rw [arcsOf.eq_def]
    simp only [if_pos (show ((a.length:Int)=0) by omega)]
    unfold ptsV
    rw [h2]
    exact Ev.now _
   ·simp only [if_neg (show ¬ ((a.length:Int)=0) by omega)]
    have I:=ih (i+1) (by omega) (by
     simp only [if_neg h0,Option.map_eq_none_iff] at hn
     rw [hn]
     rw [← arcsOf.eq_def])
    exact I
theorem Qat (m:List (List Pt)) (r p:List (List Int)) (B:Nat) (hb:B<5864062014805) (hm:∀ x∈m,x.length≤B) (refs:List Int) (hr:refs.length≤1000000000000) (hw:∀ x∈refs,-9223372036854775808≤x∧x≤9223372036854775807) (hs:refs.length*B<5864062014805) :
  Ev (fun k=>Q0f.f k m r p refs) (ptsV m [] refs):=by
 unfold Q0f.f
 exact Qf1 m r p B hb hm refs hr hw hs refs.length 0 (by omega) (by rw [List.drop_zero])
end Go.Proofs.Ytbonkedecfjmdaa.Gr

namespace Go.Proofs.Ytbonkedecfjmdaa.G
set_option linter.unusedVariables false
set_option linter.unusedSimpArgs false
open Go.RowKit Go.Proofs.Ytbonkedecfjmdaa.P Go.Proofs.Ytbonkedecfjmdaa.X Go.Proofs.Ytbonkedecfjmdaa.WL Go.Proofs.YtbonkedecfjmdaaW.PrintWords Go.Proofs.YtbonkedecfjmdaaW.PrintLast Go.Proofs.YtbonkedecfjmdaaW.PrintMore
theorem Qdo (l:List Pt) (hl:l.length<4000000000000000000) (hr:l.all rt=true):∀ (n i:Nat) (x:Int),i+n=l.length →
  Ev (fun k=>Q03.l0 k l (i:Int) (dig x)) (dig (x+(((edg l).drop i).map E).sum)):=by
 intro n
 induction n with
 | zero =>
  intro i x hi
  rw [List.drop_of_length_le (by rw [Q44];omega)]
  simp only [List.map_nil,List.sum_nil,Int.add_zero]
  exact Ev.step (f:=fun _=>some (dig x)) (fun k=>by simp only [Q03.l0];rw [if_neg (by omega)]) (Ev.now _)
 | succ n ih =>
  intro i x hi
  have hA:i<l.length:=by omega
  have hM:(i+1) % l.length<l.length:=Nat.mod_lt _ (by omega)
  have hE:i<(edg l).length:=by rw [Q44];exact hA
  have q1:(i:Int)<(l.length:Int):=by omega
  obtain ⟨_,p1,p2,p3,p4⟩:=Q3e.1 (Q5f hr i hA)
  obtain ⟨_,r1,r2,r3,r4⟩:=Q3e.1 (Q5f hr _ hM)
  have J:Ev (fun k=>Q03.j1 k l (i:Int) (((i+1) % l.length:Nat):Int) (dig x)) (dig (x+(((edg l).drop i).map E).sum)):=by
   refine Ev.step (f:=fun k=>(Q1s.f k l[i].f0 l[(i+1) % l.length].f1).bind fun t408=>((Q1h.f k (dig x) t408).bind fun t411=>((Q1s.f k l[i].f1 l[(i+1) % l.length].f0).bind fun t416=>((Q2j.f k t416).bind fun t419=>((Q1h.f k t411 t419).bind fun t422=>(Q03.l0 k l ((i+1:Nat):Int) t422)))))) (fun k => ?_) ?_
   ·simp only [Q03.j1]
    rw [if_pos (by omega),if_pos q1,if_pos (by omega),if_pos (by omega),rdp l i hA,rdp l _ hM,Q29 i (by omega)]
   ·refine Ev.bind (Q6e (by omega) (by omega) (by omega) (by omega)) ?_
    refine Ev.bind (Qad _ _) ?_
    refine Ev.bind (Q6e (by omega) (by omega) (by omega) (by omega)) ?_
    refine Ev.bind (Qgl _) ?_
    refine Ev.bind (Qad _ _) ?_
    have:=ih (i+1) (x+E (edg l)[i]) (by omega)
    rw [List.drop_eq_getElem_cons hE,List.map_cons,List.sum_cons,← Int.add_assoc]
    rw [show x+l[i].f0*l[(i+1) % l.length].f1 + -(l[i].f1*l[(i+1) % l.length].f0)=x+E (edg l)[i] by rw [Q7w l i hA];simp only [E];omega]
    exact this
  by_cases hlast:i+1=l.length
  ·refine Ev.step (fun k => ?_) J
   simp only [Q03.l0]
   rw [if_pos q1,Q29 i (by omega),if_pos (by omega)]
   rw [show (i+1) % l.length=0 by rw [hlast,Nat.mod_self]];rfl
  ·refine Ev.step (fun k => ?_) J
   simp only [Q03.l0]
   rw [if_pos q1,Q29 i (by omega),if_neg (by omega)]
   rw [show (i+1) % l.length=i+1 from Nat.mod_eq_of_lt (by omega)]
theorem Qd5 (l:List Pt) (hl:l.length<4000000000000000000):Ev (fun k=>Q03.f k l) (if l.all rt then dig (areaS l) else dig 0):=by
 unfold Q03.f
 refine Ev.bind (Qam (x:=0) (by decide) (by decide)) ?_
 refine Ev.bind (Q4d l (by omega)) ?_
 by_cases h:l.all rt=true
 ·simp only [if_pos h]
  have:=Qdo l hl h l.length 0 0 (by omega)
  rw [List.drop_zero,Int.zero_add] at this
  exact this
 ·simp only [if_neg h];exact Ev.now _
theorem Qc0 (l:List Pt) (hl:l.length<4000000000000000000):Ev (fun k=>Q03.f k l) (dig (areaV l)):=by
 have:=Qd5 l hl
 unfold areaV
 split at this
 ·rename_i h;rw [if_pos h];exact this
 ·rename_i h;rw [if_neg h];exact this
theorem Qd9 (x:Int):Ev (fun k=>Q31.f k (dig x) (hiw x) (low x)) true:=Qig (Q8f x).1 (Q8f x).2 (Q4u x).1 (Q4u x).2 (Qfb x)

theorem Qgk (p:Pt) (hp:rt p=true) (l:List Pt) (hl:l.length<4000000000000000000) (hr:l.all rt=true):∀ (n i:Nat) (c:Nat),i+n=l.length→c≤i →
  Ev (fun k=>Q0z.l0 k l (c:Int) (i:Int) p.f0 p.f1 p.f2) (tell p ((edg l).drop i) (if c % 2=1 then 1 else -1)):=by
 intro n
 induction n with
 | zero =>
  intro i c hi hc
  rw [List.drop_of_length_le (by rw [Q44];omega),Qac]
  have ht:Int.tmod (c:Int) 2=((c % 2:Nat):Int):=by rw [Int.tmod_eq_emod_of_nonneg (by omega)];rfl
  refine Ev.step (f:=fun _=>some (if c % 2=1 then 1 else -1)) (fun k => ?_) (Ev.now _)
  simp only [Q0z.l0];rw [if_neg (by omega),ht]
  by_cases hm:c % 2=1
  ·rw [if_pos hm,if_pos (by omega)]
  ·rw [if_neg hm,if_neg (by omega)]
 | succ n ih =>
  intro i c hi hc
  have hA:i<l.length:=by omega
  have hM:(i+1) % l.length<l.length:=Nat.mod_lt _ (by omega)
  have hE:i<(edg l).length:=by rw [Q44];exact hA
  have q1:(i:Int)<(l.length:Int):=by omega
  have ws:wrap64 ((i:Int)+1)=((i+1:Nat):Int):=Q29 i (by omega)
  have wc:wrap64 ((c:Int)+1)=((c+1:Nat):Int):=Q29 c (by omega)
  rw [List.drop_eq_getElem_cons hE,Q7w l i hA]
  have ra:=Q5f hr i hA
  have rb:=Q5f hr _ hM
  have hrd1:Q0a l (i:Int)=l[i]:=rdp l i hA
  have hrd2:Q0a l (((i+1) % l.length:Nat):Int)=l[(i+1) % l.length]:=rdp l _ hM
  have I1:=ih (i+1) c (by omega) (by omega)
  have I2:=ih (i+1) (c+1) (by omega) (by omega)
  rw [show (if (c+1) % 2=1 then (1:Int) else -1) = -(if c % 2=1 then 1 else -1) by
   by_cases hm:c % 2=1
   ·rw [if_pos hm,if_neg (by omega)]
   ·rw [if_neg hm,if_pos (by omega)];rfl] at I2
  generalize (if c % 2=1 then (1:Int) else -1)=s at *
  have J:∀ a b:Pt,rt a=true→rt b=true→Ev (fun k=>Q0z.j2 k l (c:Int) (i:Int) p.f0 p.f1 p.f2 a.f0 a.f1 a.f2 b.f0 b.f1 b.f2) (tell p ((a,b) :: (edg l).drop (i+1)) s):=by
   intro a b ra rb
   have T:=Q5k a b p
   rw [ra,rb,hp] at T
   simp only [Bool.and_self,if_true] at T
   refine Ev.step (f:=fun k=>(Q28.f k p.f0 p.f1 p.f2 a.f0 a.f1 a.f2 b.f0 b.f1 b.f2).bind fun t554=>(if t554=true then (some 0) else (Q0z.j3 k l (c:Int) (i:Int) (decide (a.f1≤p.f1∧p.f1<b.f1)) p.f0 p.f1 p.f2 a.f0 a.f1 a.f2 b.f0 b.f1 b.f2))) (fun k => ?_) ?_
   ·simp only [Q0z.j2]
    congr 1;funext t
    by_cases h1:a.f1≤p.f1<;>simp [h1]
   ·refine Ev.bind (Q95 p a b) ?_
    by_cases ho:onB p a b=true
    ·simp only [if_pos ho]
     rw [Qco (show onE p (a,b)=true from ho)]
     exact Ev.now _
    ·simp only [if_neg ho]
     have ho':onE p (a,b)=false:=Bool.eq_false_iff.2 ho
     refine Ev.step (f:=fun k=>Q0z.j4 k l (c:Int) (i:Int) (decide (a.f1≤p.f1∧p.f1<b.f1)) (decide (b.f1≤p.f1∧p.f1<a.f1)) p.f0 p.f1 p.f2 a.f0 a.f1 a.f2 b.f0 b.f1 b.f2) (fun k=>by
      simp only [Q0z.j3]
      by_cases h1:b.f1≤p.f1<;>simp [h1]) ?_
     by_cases hu:a.f1≤p.f1∧p.f1<b.f1
     ·have hd:¬ (b.f1≤p.f1∧p.f1<a.f1):=by omega
      refine Ev.step (f:=fun k=>(Q1d.f k a.f0 a.f1 a.f2 b.f0 b.f1 b.f2 p.f0 p.f1 p.f2).bind fun t555=>(if t555>0 then (Q0z.l0 k l ((c+1:Nat):Int) ((i+1:Nat):Int) p.f0 p.f1 p.f2) else (Q0z.l0 k l (c:Int) ((i+1:Nat):Int) p.f0 p.f1 p.f2))) (fun k=>by
       simp only [Q0z.j4,hu,hd,and_self,decide_true,decide_false,if_true,Bool.false_eq_true,if_false,ws,wc]) ?_
      refine Ev.bind T ?_
      by_cases ht:side a b p>0
      ·simp only [if_pos ht]
       rw [Q7q ho' (by unfold cr;simp only [Bool.or_eq_true,decide_eq_true_eq];omega)]
       exact I2
      ·simp only [if_neg ht]
       rw [Q55 ho' (by unfold cr;simp only [Bool.or_eq_false_iff,decide_eq_false_iff_not];omega)]
       exact I1
     ·by_cases hd:b.f1≤p.f1∧p.f1<a.f1
      ·refine Ev.step (f:=fun k=>(Q1d.f k a.f0 a.f1 a.f2 b.f0 b.f1 b.f2 p.f0 p.f1 p.f2).bind fun t557=>(if t557<0 then (Q0z.l0 k l ((c+1:Nat):Int) ((i+1:Nat):Int) p.f0 p.f1 p.f2) else (Q0z.l0 k l (c:Int) ((i+1:Nat):Int) p.f0 p.f1 p.f2))) (fun k=>by
        simp only [Q0z.j4,hu,hd,and_self,decide_true,decide_false,if_true,Bool.false_eq_true,if_false,ws,wc]) ?_
       refine Ev.bind T ?_
       by_cases ht:side a b p<0
       ·simp only [if_pos ht]
        rw [Q7q ho' (by unfold cr;simp only [Bool.or_eq_true,decide_eq_true_eq];omega)]
        exact I2
       ·simp only [if_neg ht]
        rw [Q55 ho' (by unfold cr;simp only [Bool.or_eq_false_iff,decide_eq_false_iff_not];omega)]
        exact I1
      ·refine Ev.step (f:=fun k=>Q0z.l0 k l (c:Int) ((i+1:Nat):Int) p.f0 p.f1 p.f2) (fun k=>by
        simp only [Q0z.j4,hu,hd,decide_false,Bool.false_eq_true,if_false,ws]) ?_
       rw [Q55 ho' (by unfold cr;simp only [Bool.or_eq_false_iff,decide_eq_false_iff_not];omega)]
       exact I1
  have J':=J _ _ ra rb
  refine Ev.step (fun k => ?_) J'
  simp only [Q0z.l0]
  rw [if_pos q1,if_pos (by omega),if_pos (by omega),ws,hrd1]
  by_cases hlast:i+1<l.length
  ·have e:(i+1) % l.length=i+1:=Nat.mod_eq_of_lt hlast
   simp only [e] at hrd2 ⊢
   rw [if_pos (by omega),if_pos (by omega),hrd2]
  ·have e:(i+1) % l.length=0:=by rw [show i+1=l.length by omega,Nat.mod_self]
   simp only [e] at hrd2 ⊢
   rw [if_neg (by omega)]
   rw [show Q0a l 0=Q0a l ((0:Nat):Int) from rfl,hrd2]
theorem Qek (p:Pt) (l:List Pt) (hl:l.length<4000000000000000000):Ev (fun k=>Q0z.f k p.f0 p.f1 p.f2 l) (inV p l):=by
 unfold Q0z.f
 refine Ev.bind (Q4d [p] (by simp)) ?_
 simp only [List.all_cons,List.all_nil,Bool.and_true]
 have jt:Ev (fun k=>Q0z.j0 k l true p.f0 p.f1 p.f2) 0:=Ev.step (f:=fun _=>some 0) (fun k=>by simp only [Q0z.j0,if_true]) (Ev.now _)
 unfold inV
 by_cases h:rt p=true
 ·simp only [if_pos h,h,Bool.true_and]
  refine Ev.bind (Q4d l (by omega)) ?_
  by_cases h2:l.all rt=true
  ·simp only [h2,Bool.not_true,if_true]
   have:=Qgk p h l hl h2 l.length 0 0 (by omega) (by omega)
   rw [List.drop_zero] at this
   refine Ev.step (fun k => ?_) this
   simp only [Q0z.j0,Bool.false_eq_true,if_false];rfl
  ·simp only [h2,Bool.not_false,Bool.false_eq_true,if_false];exact jt
 ·simp only [if_neg h,h,Bool.false_and,Bool.false_eq_true,if_false];exact jt
end Go.Proofs.Ytbonkedecfjmdaa.G

namespace Go.Proofs.Ytbonkedecfjmdaa.Pl
set_option linter.unusedVariables false
set_option linter.unusedSimpArgs false
open Go.RowKit Go.Proofs.Ytbonkedecfjmdaa.P Go.Proofs.Ytbonkedecfjmdaa.G Go.Proofs.Ytbonkedecfjmdaa.WL Go.Proofs.YtbonkedecfjmdaaW.PrintWords Go.Proofs.YtbonkedecfjmdaaW.PrintLast Go.Proofs.YtbonkedecfjmdaaW.PrintMore
theorem rdL3 (l:List (List Int)) (i:Nat) (h:i<l.length):Q06 l (i:Int)=l[i]:=by simp [Q06,List.getD,List.getElem?_eq_getElem h]
theorem rdI (l:List Int) (i:Nat) (h:i<l.length):rd l (i:Int)=l[i]:=by simp [rd,List.getD,List.getElem?_eq_getElem h]
theorem Qfc (m:List (List Pt)) (r p:List (List Int)) (n:Int) (i:Nat) (hi:i<r.length) (hb:r[i].length≤100000000) (R:Int):∀ d j c:Nat,j+d=r[i].length→c+d≤100000000 →
  Ev (fun k=>Q1c.l0 k n ((c+(r[i].drop j).count n:Nat):Int) (wrap64 ((i:Int)+1)) m r p) R→Ev (fun k=>Q1c.l1 k n (c:Int) (i:Int) (j:Int) m r p) R:=by
 intro d
 induction d with
 | zero =>
  intro j c hj hc h
  rw [List.drop_of_length_le (by omega),List.count_nil,Nat.add_zero] at h
  refine Ev.step (fun k => ?_) h
  simp only [Q1c.l1]
  rw [if_pos (by omega),if_pos (by omega),rdL3 r i hi,if_neg (by omega)]
 | succ d ih =>
  intro j c hj hc h
  have hlt:j<r[i].length:=by omega
  rw [List.drop_eq_getElem_cons hlt,List.count_cons] at h
  by_cases e:r[i][j]=n
  ·refine Ev.step (f:=fun k=>Q1c.l1 k n ((c+1:Nat):Int) (i:Int) ((j+1:Nat):Int) m r p) (fun k => ?_) (ih (j+1) (c+1) (by omega) (by omega) ?_)
   ·conv=>lhs;simp only [Q1c.l1]
    rw [if_pos (by omega),if_pos (by omega),rdL3 r i hi,if_pos (by omega),if_pos (by omega),rdI _ j hlt,if_pos e,nxt c (by omega),nxt j (by omega)]
   ·have e2:(c+1+(r[i].drop (j+1)).count n:Nat)=c+((r[i].drop (j+1)).count n+if (r[i][j]==n)=true then 1 else 0):=by rw [if_pos (by simpa using e)];omega
    rw [e2]
    exact h
  ·refine Ev.step (f:=fun k=>Q1c.l1 k n (c:Int) (i:Int) ((j+1:Nat):Int) m r p) (fun k => ?_) (ih (j+1) c (by omega) (by omega) ?_)
   ·conv=>lhs;simp only [Q1c.l1]
    rw [if_pos (by omega),if_pos (by omega),rdL3 r i hi,if_pos (by omega),if_pos (by omega),rdI _ j hlt,if_neg e,nxt j (by omega)]
   ·have e2:(c+(r[i].drop (j+1)).count n:Nat)=c+((r[i].drop (j+1)).count n+if (r[i][j]==n)=true then 1 else 0):=by rw [if_neg (by simpa using e)];omega
    rw [e2]
    exact h
theorem Qew (m:List (List Pt)) (r p:List (List Int)) (n:Int) (hr:r.length≤100000000) (hf:r.flatten.length≤50000000):∀ d i c:Nat,i+d=r.length→c+(r.drop i).flatten.length≤100000000 →
  Ev (fun k=>Q1c.l0 k n (c:Int) (i:Int) m r p) (((c+(r.drop i).flatten.count n:Nat)):Int):=by
 intro d
 induction d with
 | zero =>
  intro i c hi hc
  rw [List.drop_of_length_le (by omega)]
  refine Ev.step (f:=fun _=>some (c:Int)) (fun k => ?_) (Ev.now _)
  simp only [Q1c.l0]
  rw [if_neg (by omega)]
 | succ d ih =>
  intro i c hi hc
  have hlt:i<r.length:=by omega
  have hx:=Q3g r r[i] (List.getElem_mem hlt)
  rw [List.drop_eq_getElem_cons hlt,List.flatten_cons,List.length_append] at hc
  rw [List.drop_eq_getElem_cons hlt,List.flatten_cons,List.count_append,← Nat.add_assoc]
  have hcl:r[i].count n≤r[i].length:=List.count_le_length
  refine Ev.step (f:=fun k=>Q1c.l1 k n (c:Int) (i:Int) ((0:Nat):Int) m r p) (fun k => ?_) (Qfc m r p n i hlt (by omega) _ r[i].length 0 c (by omega) (by omega) ?_)
  ·conv=>lhs;simp only [Q1c.l0]
   rw [if_pos (by omega)]
   rfl
  ·rw [List.drop_zero,nxt i (by omega)]
   exact ih (i+1) _ (by omega) (by omega)
theorem Qa5 (m:List (List Pt)) (r p:List (List Int)) (n:Int) (hr:r.length≤100000000) (hf:r.flatten.length≤50000000):Ev (fun k=>Q1c.f k m r p n) ((r.flatten.count n:Nat):Int):=by
 have h:=Qew m r p n hr hf r.length 0 0 (by omega) (by rw [List.drop_zero];omega)
 rw [List.drop_zero,Nat.zero_add] at h
 unfold Q1c.f
 exact h
theorem Qcm (m:List (List Pt)) (r:List (List Int)) (i:Nat) (h:i<r.length):ringAt m r (i:Int)=Gr.ptsV m [] r[i]:=by
 unfold ringAt
 rw [if_neg (by omega),Int.toNat_natCast,show r.getD i []=r[i] by simp [List.getD,List.getElem?_eq_getElem h]]
theorem Q8c {m:List (List Pt)} {r:List (List Int)} (hs:Small m r) (p:List (List Int)) (i:Nat) (h:i<r.length):Ev (fun k=>Q0f.f k m r p r[i]) (ringAt m r (i:Int)):=by
 obtain ⟨b1,b2,b3⟩:=Q6r hs i h
 rw [Qcm m r i h]
 exact Gr.Qat m r p 20000 (by decide) hs.arcs r[i] (by omega) b3 b2
theorem Qcd {m:List (List Pt)} {r:List (List Int)} (hs:Small m r) (p:List (List Int)) (hm:m.length≤1000000):∀ d i:Nat,i+d=m.length→Ev (fun k=>Q00.l1 k (i:Int) m r p) ((List.range' i d).all (useOk r.flatten)):=by
 have hrl:=hs.rings
 have hrf:=hs.refs
 intro d
 induction d with
 | zero =>
  intro i hi
  refine Ev.step (f:=fun _=>some true) (fun k => ?_) (Ev.now _)
  simp only [Q00.l1]
  rw [if_neg (by omega)]
 | succ d ih =>
  intro i hi
  have c1:r.flatten.count (i:Int)≤20000:=Nat.le_trans List.count_le_length hrf
  have c2:r.flatten.count (-1 - (i:Int))≤20000:=Nat.le_trans List.count_le_length hrf
  have u1:=Qa5 m r p (i:Int) (by omega) (by omega)
  have u2:=Qa5 m r p (-1 - (i:Int)) (by omega) (by omega)
  have ih:=ih (i+1) (by omega)
  rw [List.range'_succ,List.all_cons]
  unfold useOk at ih ⊢
  generalize r.flatten.count (i:Int)=a at *
  generalize r.flatten.count (-1 - (i:Int))=b at *
  refine Ev.step (fun k=>Q00.l1.eq_2 _ _ _ _ _) ?_
  simp only [if_pos (show (i:Int)<(m.length:Int) by omega)]
  refine Ev.bind u1 ?_
  have ew:wrap64 ((-1) - (i:Int)) = -1 - (i:Int):=by unfold wrap64;omega
  have ew2:wrap64 ((a:Int)+(b:Int))=(a:Int)+(b:Int):=by unfold wrap64;omega
  simp only [ew]
  refine Ev.bind u2 ?_
  simp only [ew2,nxt i (by omega)]
  by_cases h1:(a:Int)>1
  ·simp only [if_pos h1]
   rw [decide_eq_false (by omega),Bool.false_and]
   exact Ev.now _
  ·simp only [if_neg h1]
   by_cases h2:(b:Int)>1
   ·simp only [if_pos h2]
    rw [decide_eq_false (by omega),Bool.false_and]
    exact Ev.now _
   ·simp only [if_neg h2]
    by_cases h3:(a:Int)+(b:Int)=0
    ·simp only [if_pos h3]
     rw [decide_eq_false (by omega),Bool.false_and]
     exact Ev.now _
    ·simp only [if_neg h3]
     rw [decide_eq_true (by omega),Bool.true_and]
     exact ih
theorem Qbt {m:List (List Pt)} {r:List (List Int)} (hs:Small m r) (p:List (List Int)) (hm:m.length≤1000000):∀ d i:Nat,i+d=r.length→Ev (fun k=>Q00.l0 k (i:Int) m r p) ((List.range' i d).all (ringOk m r)&&(List.range' 0 m.length).all (useOk r.flatten)):=by
 have hrl:=hs.rings
 intro d
 induction d with
 | zero =>
  intro i hi
  refine Ev.step (fun k => ?_) (Qcd hs p hm m.length 0 (by omega))
  simp only [Q00.l0]
  rw [if_neg (by omega)]
  rfl
 | succ d ih =>
  intro i hi
  have hlt:i<r.length:=by omega
  have ih:=ih (i+1) (by omega)
  rw [List.range'_succ,List.all_cons]
  refine Ev.step (fun k=>Q00.l0.eq_2 _ _ _ _ _) ?_
  simp only [if_pos (show (i:Int)<(r.length:Int) by omega),if_pos (show 0≤(i:Int) by omega),rdL3 r i hlt,nxt i (by omega)]
  refine Ev.bind (Q8c hs p i hlt) ?_
  unfold ringOk at ih ⊢
  by_cases h:(ringAt m r (i:Int)).2=0
  ·simp only [if_pos h]
   rw [decide_eq_true h,Bool.true_and]
   exact ih
  ·simp only [if_neg h]
   rw [decide_eq_false h,Bool.false_and,Bool.false_and]
   exact Ev.now _
theorem Qap {m:List (List Pt)} {r:List (List Int)} (hs:Small m r) (p:List (List Int)) (hm:m.length≤1000000):Ev (fun k=>Q00.f k m r p) (closesV m r):=by
 have h:=Qbt hs p hm r.length 0 (by omega)
 unfold closesV
 rw [List.range_eq_range',List.range_eq_range']
 unfold Q00.f
 exact h
end Go.Proofs.Ytbonkedecfjmdaa.Pl
