/- What the document says of polygons that fill: the values. No condition. The polygons that hold a point: the value of the program's and of the document's answer. No condition. The document's checks of a map: arcs, and whether they meet. The values. No condition. The document's check whether arcs meet: the value. No condition. The document's check of a whole map: the value is the program's. No condition. -/
import Derived.Test.YtbonkedecfjmdaaZ32
import Derived.Test.YtbonkedecfjmdaaZ15
import Derived.Test.YtbonkedecfjmdaaZ27
import Derived.Test.YtbonkedecfjmdaaZ29
import Derived.Test.YtbonkedecfjmdaaZ21
import Derived.Test.YtbonkedecfjmdaaZ23
import Derived.Test.YtbonkedecfjmdaaZ11
import Derived.Test.YtbonkedecfjmdaaZ25

namespace Go.Proofs.Ytbonkedecfjmdaa.Pl
set_option linter.unusedVariables false
set_option linter.unusedSimpArgs false
open Go.RowKit Go.Proofs.Ytbonkedecfjmdaa.P Go.Proofs.Ytbonkedecfjmdaa.G Go.Proofs.Ytbonkedecfjmdaa.WL Go.Proofs.YtbonkedecfjmdaaW.PrintWords Go.Proofs.YtbonkedecfjmdaaW.PrintLast Go.Proofs.YtbonkedecfjmdaaW.PrintMore
theorem Q7h (a b:Int):cmp3 a b = -1∨cmp3 a b=0∨cmp3 a b=1:=by
 unfold cmp3
 by_cases h:a<b
 ·exact .inl (if_pos h)
 ·rw [if_neg h]
  by_cases h2:b<a
  ·exact .inr (.inr (if_pos h2))
  ·exact .inr (.inl (if_neg h2))
theorem Q9a (p:Pt) (l:List Pt):inV p l<0↔inV p l = -1:=by
 unfold inV
 split
 ·unfold tell
  split
  ·decide
  ·split<;>decide
 ·decide
theorem Qa7 {m:List (List Pt)} {r:List (List Int)} (hs:Small m r) (p:List (List Int)) (i:Nat) (h:i<r.length):Ev (fun k=>Q2g.f k m r p (i:Int)) (dig (areaV (ringAt m r (i:Int)).1)):=by
 have hl:=Q36 hs (i:Int)
 unfold Q2g.f
 simp only [if_pos (show 0≤(i:Int) by omega),if_pos (show (i:Int)<(r.length:Int) by omega),rdL3 r i h]
 refine Ev.bind (Q8c hs p i h) ?_
 exact Ev.bind (Qc0 _ (by omega)) (Ev.now _)
theorem Qbl:Ev (fun k=>Q1o.f k 0) (dig 0):=Qam (by omega) (by omega)
theorem Qdf {m:List (List Pt)} {r:List (List Int)} (p:List (List Int)) (poly:List Int) (i:Nat) (l O:List Pt) (hl:l.length<5864062014805) (hO:O.length<5864062014805) (R:Bool)
  (next:Ev (fun k=>Q0g.l0 k poly (wrap64 ((i:Int)+1)) m r p) R):∀ d j:Nat,j+d=l.length →
  Ev (fun k=>Q0g.l1 k poly (i:Int) l O (j:Int) m r p) (if 0<i∧(l.drop j).any (fun x=>decide (inV x O<0))=true then false else R):=by
 intro d
 induction d with
 | zero =>
  intro j hj
  rw [List.drop_of_length_le (by omega),List.any_nil,if_neg (by simp)]
  refine Ev.step (fun k=>Q0g.l1.eq_2 _ _ _ _ _ _ _ _ _) ?_
  simp only [if_neg (show ¬ (j:Int)<(l.length:Int) by omega)]
  refine Ev.step (fun k=>Q0g.j4.eq_2 _ _ _ _ _ _ _ _ _ _) ?_
  simp only [Bool.false_eq_true,if_false]
  exact next
 | succ d ih =>
  intro j hj
  have hlt:j<l.length:=by omega
  have ih:=ih (j+1) (by omega)
  refine Ev.step (fun k=>Q0g.l1.eq_2 _ _ _ _ _ _ _ _ _) ?_
  simp only [if_pos (show (j:Int)<(l.length:Int) by omega)]
  by_cases hi:0<i
  ·rw [decide_eq_true (show (i:Int)>0 by omega)]
   refine Ev.step (fun k=>Q0g.j4.eq_2 _ _ _ _ _ _ _ _ _ _) ?_
   simp only [if_pos rfl,if_pos (show 0≤(j:Int) by omega),if_pos (show (j:Int)<(l.length:Int) by omega),Gr.rdp l j hlt]
   refine Ev.bind (Qek l[j] O (by omega)) ?_
   rw [List.drop_eq_getElem_cons hlt,List.any_cons]
   have ew:wrap64 ((j:Int)+1)=((j+1:Nat):Int):=by unfold wrap64;omega
   by_cases hin:inV l[j] O = -1
   ·simp only [if_pos hin]
    rw [if_pos ⟨hi,by rw [decide_eq_true ((Q9a _ _).2 hin)];rfl⟩]
    exact Ev.now _
   ·simp only [if_neg hin,ew]
    rw [decide_eq_false (fun h=>hin ((Q9a _ _).1 h)),Bool.false_or]
    exact ih
  ·rw [decide_eq_false (show ¬ (i:Int)>0 by omega),if_neg (fun h=>hi h.1)]
   refine Ev.step (fun k=>Q0g.j4.eq_2 _ _ _ _ _ _ _ _ _ _) ?_
   simp only [Bool.false_eq_true,if_false]
   exact next
theorem Q7c {m:List (List Pt)} {r:List (List Int)} (hs:Small m r) (p:List (List Int)) (poly:List Int) (i:Nat) (hi:i<poly.length) (hpl:poly.length≤100000000) (h0:∃ q:Nat,q<r.length∧poly[0]'(by omega)=(q:Int)) (R:Bool)
  (next:(ringAt m r poly[i]).2=0→Ev (fun k=>Q0g.l0 k poly ((i+1:Nat):Int) m r p) R) (q:Nat) (hq:q<r.length) (e:poly[i]=(q:Int)) :
  Ev (fun k=>Q0g.l0 k poly (i:Int) m r p) (if (ringAt m r poly[i]).2≠0 then false else if i=0∧signV (ringAt m r poly[i]).1≠1 then false else if 0<i∧signV (ringAt m r poly[i]).1 ≠ -1 then false else if 0<i∧(ringAt m r poly[i]).1.any (fun x=>decide (inV x (ringAt m r (poly[0]'(by omega))).1<0))=true then false else R):=by
 obtain ⟨z,hz,ez⟩:=h0
 have hlen:=Q36 hs (q:Int)
 have hlen0:=Q36 hs (z:Int)
 have er:rd poly (i:Int)=(q:Int):=by rw [rdI poly i hi,e]
 have er0:rd poly 0=(z:Int):=by rw [show (0:Int)=((0:Nat):Int) from rfl,rdI poly 0 (by omega),ez]
 rw [e] at next
 rw [e,ez]
 refine Ev.step (fun k=>Q0g.l0.eq_2 _ _ _ _ _ _) ?_
 simp only [if_pos (show (i:Int)<(poly.length:Int) by omega),if_pos (show 0≤(i:Int) by omega),er,if_neg (show ¬ (q:Int)<0 by omega),decide_eq_false (show ¬ (q:Int)≥(r.length:Int) by omega)]
 refine Ev.step (fun k=>Q0g.j1.eq_2 _ _ _ _ _ _ _) ?_
 simp only [Bool.false_eq_true,if_false,if_pos (show (i:Int)<(poly.length:Int) by omega),if_pos (show 0≤(i:Int) by omega),er,if_pos (show 0≤(q:Int) by omega),if_pos (show (q:Int)<(r.length:Int) by omega),rdL3 r q hq]
 refine Ev.bind (Q8c hs p q hq) ?_
 by_cases h:(ringAt m r (q:Int)).2=0
 ·simp only [if_pos h]
  rw [if_neg (by simpa using h)]
  refine Ev.bind (Qa7 hs p q hq) ?_
  refine Ev.bind Qbl ?_
  refine Ev.bind (Qbk _ _) ?_
  have hsv:cmp3 (off (areaV (ringAt m r (q:Int)).1)) (off 0)=signV (ringAt m r (q:Int)).1:=rfl
  simp only [hsv]
  have j2:∀ b:Bool,Ev (fun k=>Q0g.j2 k poly (i:Int) (ringAt m r (q:Int)).1 b m r p) (if b=true then false else if 0<i∧(ringAt m r (q:Int)).1.any (fun x=>decide (inV x (ringAt m r (z:Int)).1<0))=true then false else R):=by
   intro b
   refine Ev.step (fun k=>Q0g.j2.eq_2 _ _ _ _ _ _ _ _) ?_
   cases b with
   | true =>
    simp only [if_true]
    exact Ev.now _
   | false =>
    simp only [Bool.false_eq_true,if_false,if_pos (show 0<(poly.length:Int) by omega),er0,if_pos (show 0≤(z:Int) by omega),if_pos (show (z:Int)<(r.length:Int) by omega),rdL3 r z hz]
    refine Ev.bind (Q8c hs p z hz) ?_
    have:=Qdf (m:=m) (r:=r) p poly i (ringAt m r (q:Int)).1 (ringAt m r (z:Int)).1 hlen hlen0 R (by rw [nxt i (by omega)];exact next h) (ringAt m r (q:Int)).1.length 0 (by omega)
    rw [List.drop_zero] at this
    exact this
  by_cases hi0:i=0
  ·subst hi0
   simp only [show ((0:Nat):Int)=0 from rfl,if_pos rfl,if_neg (show ¬ (0:Int)>0 by omega)]
   by_cases h1:signV (ringAt m r (q:Int)).1=1
   ·simp only [if_pos h1]
    rw [if_neg (fun h=>h.2 h1),if_neg (fun h=>absurd h.1 (by omega))]
    exact j2 false
   ·simp only [if_neg h1]
    rw [if_pos ⟨trivial,h1⟩]
    exact j2 true
  ·simp only [if_neg (show ¬ (i:Int)=0 by omega),if_pos (show (i:Int)>0 by omega)]
   rw [if_neg (fun h=>hi0 h.1)]
   by_cases h1:signV (ringAt m r (q:Int)).1 = -1
   ·rw [h1,if_neg (fun h=>h.2 rfl)]
    exact j2 false
   ·rw [if_pos ⟨by omega,h1⟩]
    have hb:(signV (ringAt m r (q:Int)).1 != -1)=true:=bne_iff_ne.mpr h1
    simp only [hb]
    exact j2 true
 ·simp only [if_neg h]
  rw [if_pos (by simpa using h)]
  exact Ev.now _
theorem Q8n {m:List (List Pt)} {r:List (List Int)} (p:List (List Int)) (poly:List Int) (i:Nat) (hi:i<poly.length) (h:poly[i]<0∨poly[i]≥r.length):Ev (fun k=>Q0g.l0 k poly (i:Int) m r p) false:=by
 refine Ev.step (fun k=>Q0g.l0.eq_2 _ _ _ _ _ _) ?_
 simp only [if_pos (show (i:Int)<(poly.length:Int) by omega),if_pos (show 0≤(i:Int) by omega),rdI poly i hi]
 have j1:Ev (fun k=>Q0g.j1 k poly (i:Int) true m r p) false:=Ev.step (fun k=>Q0g.j1.eq_2 _ _ _ _ _ _ _) (by simp only [if_true];exact Ev.now _)
 by_cases h0:poly[i]<0
 ·simp only [if_pos h0]
  exact j1
 ·simp only [if_neg h0]
  rw [decide_eq_true (by omega)]
  exact j1
theorem Q7b {m:List (List Pt)} {r:List (List Int)} {k:Int} (h:(ringAt m r k).2=0):∃ q:Nat,q<r.length∧k=(q:Int):=by
 unfold ringAt at h
 split at h
 ·cases h
 ·exact ⟨k.toNat,by omega,by omega⟩
theorem Q7i {m:List (List Pt)} {r:List (List Int)} {k:Int} (h:k<0∨k≥r.length):(ringAt m r k).2≠0:=by
 unfold ringAt
 rw [if_pos h]
 decide
theorem Qd4 {m:List (List Pt)} {r:List (List Int)} (hs:Small m r) (p:List (List Int)) (poly:List Int) (hpl:poly.length≤100000000) (h0:0<poly.length) (hr0:(ringAt m r poly[0]).2=0):∀ d i:Nat,0<i→i+d=poly.length →
  Ev (fun k=>Q0g.l0 k poly (i:Int) m r p) (fillsL m r (ringAt m r poly[0]).1 false (poly.drop i)):=by
 intro d
 induction d with
 | zero =>
  intro i hi0 hi
  rw [List.drop_of_length_le (by omega)]
  refine Ev.step (f:=fun _=>some true) (fun k => ?_) (Ev.now _)
  rw [Q0g.l0.eq_2,if_neg (by omega),decide_eq_true (by omega)]
 | succ d ih =>
  intro i hi0 hi
  have hlt:i<poly.length:=by omega
  have ih:=ih (i+1) (by omega) (by omega)
  rw [List.drop_eq_getElem_cons hlt]
  unfold fillsL
  by_cases hb:poly[i]<0∨poly[i]≥r.length
  ·rw [if_pos (Q7i hb)]
   exact Q8n p poly i hlt hb
  ·have h:=Q7c hs p poly i hlt hpl (Q7b hr0) _ (fun _=>ih) poly[i].toNat (by omega) (by omega)
   simp only [Bool.false_eq_true,if_false]
   by_cases h2:(ringAt m r poly[i]).2≠0
   ·rw [if_pos h2] at h ⊢
    exact h
   ·rw [if_neg h2] at h ⊢
    have hc:=Q7h (off (areaV (ringAt m r poly[i]).1)) (off 0)
    change signV (ringAt m r poly[i]).1 = -1∨signV (ringAt m r poly[i]).1=0∨signV (ringAt m r poly[i]).1=1 at hc
    rw [if_neg (show ¬ (i=0∧signV (ringAt m r poly[i]).1≠1) from fun h=>absurd h.1 (by omega))] at h
    by_cases h3:signV (ringAt m r poly[i]).1≥0
    ·rw [if_pos ⟨hi0,by omega⟩] at h
     rw [if_pos h3]
     exact h
    ·rw [if_neg (fun h=>h.2 (by omega))] at h
     rw [if_neg h3]
     simp only [hi0,true_and] at h
     exact h
theorem Qbi {m:List (List Pt)} {r:List (List Int)} (hs:Small m r) (p:List (List Int)) (poly:List Int) (hpl:poly.length≤100000000):Ev (fun k=>Q0g.f k m r p poly) (fillsV m r poly):=by
 unfold Q0g.f fillsV
 by_cases h0:0<poly.length
 ·rw [decide_eq_true h0,Bool.true_and]
  have hd:poly=poly[0] :: poly.drop 1:=by
   have:=List.drop_eq_getElem_cons (l:=poly) (i:=0) h0
   rwa [List.drop_zero] at this
  have hv:fillsL m r [] true poly=if (ringAt m r poly[0]).2≠0 then false else if signV (ringAt m r poly[0]).1≤0 then false else fillsL m r (ringAt m r poly[0]).1 false (poly.drop 1):=by
   conv=>lhs;rw [hd]
   simp only [fillsL,if_true]
  rw [hv]
  by_cases hb:poly[0]<0∨poly[0]≥r.length
  ·rw [if_pos (Q7i hb)]
   exact Q8n p poly 0 h0 hb
  ·have h:=Q7c hs p poly 0 h0 hpl ⟨poly[0].toNat,by omega,by omega⟩ _ (fun h2=>Qd4 hs p poly hpl h0 h2 (poly.length - 1) 1 (by omega) (by omega)) poly[0].toNat (by omega) (by omega)
   by_cases h2:(ringAt m r poly[0]).2≠0
   ·rw [if_pos h2] at h ⊢
    exact h
   ·rw [if_neg h2] at h ⊢
    have hc:=Q7h (off (areaV (ringAt m r poly[0]).1)) (off 0)
    change signV (ringAt m r poly[0]).1 = -1∨signV (ringAt m r poly[0]).1=0∨signV (ringAt m r poly[0]).1=1 at hc
    by_cases h3:signV (ringAt m r poly[0]).1≤0
    ·rw [if_pos ⟨rfl,by omega⟩] at h
     rw [if_pos h3]
     exact h
    ·rw [if_neg (fun h=>h.2 (by omega)),if_neg (fun h=>absurd h.1 (by omega)),if_neg (fun h=>absurd h.1 (by omega))] at h
     rw [if_neg h3]
     exact h
 ·rw [decide_eq_false h0,Bool.false_and]
  refine Ev.step (f:=fun _=>some false) (fun k => ?_) (Ev.now _)
  rw [show (0:Int)=((0:Nat):Int) from rfl,Q0g.l0.eq_2,if_neg (by omega),decide_eq_false (by omega)]
theorem Qev {m:List (List Pt)} {r:List (List Int)} (hs:Small m r) (p:List (List Int)) (hp:p.length≤100000000) (hpx:∀ x∈p,x.length≤100000000):∀ d i:Nat,i+d=p.length→Ev (fun k=>Q0p.l3 k (i:Int) m r p) ((p.drop i).all (fillsV m r)):=by
 intro d
 induction d with
 | zero =>
  intro i hi
  rw [List.drop_of_length_le (by omega)]
  refine Ev.step (f:=fun _=>some true) (fun k => ?_) (Ev.now _)
  rw [Q0p.l3.eq_2,if_neg (by omega)]
 | succ d ih =>
  intro i hi
  have hlt:i<p.length:=by omega
  have ih:=ih (i+1) (by omega)
  rw [List.drop_eq_getElem_cons hlt,List.all_cons]
  refine Ev.step (fun k=>Q0p.l3.eq_2 _ _ _ _ _) ?_
  simp only [if_pos (show (i:Int)<(p.length:Int) by omega),if_pos (show 0≤(i:Int) by omega),rdL3 p i hlt,nxt i (by omega)]
  refine Ev.bind (Qbi hs p p[i] (hpx _ (List.getElem_mem hlt))) ?_
  cases fillsV m r p[i] with
  | true =>
   simp only [if_true,Bool.true_and]
   exact ih
  | false =>
   simp only [Bool.false_eq_true,if_false,Bool.false_and]
   exact Ev.now _
theorem Qe4 (m:List (List Pt)) (r p:List (List Int)) (n:Int) (i:Nat) (hi:i<p.length) (hb:p[i].length≤100000000) (R:Bool):∀ d j c:Nat,j+d=p[i].length→c+d≤100000000 →
  Ev (fun k=>Q0p.l1 k n ((c+(p[i].drop j).count n:Nat):Int) (wrap64 ((i:Int)+1)) m r p) R→Ev (fun k=>Q0p.l2 k n (c:Int) (i:Int) (j:Int) m r p) R:=by
 intro d
 induction d with
 | zero =>
  intro j c hj hc h
  rw [List.drop_of_length_le (by omega),List.count_nil,Nat.add_zero] at h
  refine Ev.step (fun k => ?_) h
  simp only [Q0p.l2]
  rw [if_pos (by omega),if_pos (by omega),rdL3 p i hi,if_neg (by omega)]
 | succ d ih =>
  intro j c hj hc h
  have hlt:j<p[i].length:=by omega
  rw [List.drop_eq_getElem_cons hlt,List.count_cons] at h
  by_cases e:p[i][j]=n
  ·refine Ev.step (f:=fun k=>Q0p.l2 k n ((c+1:Nat):Int) (i:Int) ((j+1:Nat):Int) m r p) (fun k => ?_) (ih (j+1) (c+1) (by omega) (by omega) ?_)
   ·conv=>lhs;simp only [Q0p.l2]
    rw [if_pos (by omega),if_pos (by omega),rdL3 p i hi,if_pos (by omega),if_pos (by omega),rdI _ j hlt,if_pos e,nxt c (by omega),nxt j (by omega)]
   ·have e2:(c+1+(p[i].drop (j+1)).count n:Nat)=c+((p[i].drop (j+1)).count n+if (p[i][j]==n)=true then 1 else 0):=by rw [if_pos (by simpa using e)];omega
    rw [e2]
    exact h
  ·refine Ev.step (f:=fun k=>Q0p.l2 k n (c:Int) (i:Int) ((j+1:Nat):Int) m r p) (fun k => ?_) (ih (j+1) c (by omega) (by omega) ?_)
   ·conv=>lhs;simp only [Q0p.l2]
    rw [if_pos (by omega),if_pos (by omega),rdL3 p i hi,if_pos (by omega),if_pos (by omega),rdI _ j hlt,if_neg e,nxt j (by omega)]
   ·have e2:(c+(p[i].drop (j+1)).count n:Nat)=c+((p[i].drop (j+1)).count n+if (p[i][j]==n)=true then 1 else 0):=by rw [if_neg (by simpa using e)];omega
    rw [e2]
    exact h
theorem Qez (m:List (List Pt)) (r p:List (List Int)) (n:Nat) (hn:n≤100000000) (hp:p.length≤100000000) (R:Bool) (next:Ev (fun k=>Q0p.l0 k ((n+1:Nat):Int) m r p) R):∀ d i c:Nat,i+d=p.length→c+(p.drop i).flatten.length≤100000000 →
  Ev (fun k=>Q0p.l1 k (n:Int) (c:Int) (i:Int) m r p) (decide (c+(p.drop i).flatten.count (n:Int)=1)&&R):=by
 intro d
 induction d with
 | zero =>
  intro i c hi hc
  rw [List.drop_of_length_le (by omega),List.flatten_nil,List.count_nil,Nat.add_zero]
  refine Ev.step (fun k=>Q0p.l1.eq_2 _ _ _ _ _ _ _) ?_
  simp only [if_neg (show ¬ (i:Int)<(p.length:Int) by omega),nxt n hn]
  by_cases h:c=1
  ·simp only [if_pos (show (c:Int)=1 by omega),decide_eq_true h,Bool.true_and]
   exact next
  ·simp only [if_neg (show ¬ (c:Int)=1 by omega),decide_eq_false h,Bool.false_and]
   exact Ev.now _
 | succ d ih =>
  intro i c hi hc
  have hlt:i<p.length:=by omega
  rw [List.drop_eq_getElem_cons hlt,List.flatten_cons,List.length_append] at hc
  rw [List.drop_eq_getElem_cons hlt,List.flatten_cons,List.count_append,← Nat.add_assoc]
  have hcl:p[i].count (n:Int)≤p[i].length:=List.count_le_length
  refine Ev.step (f:=fun k=>Q0p.l2 k (n:Int) (c:Int) (i:Int) ((0:Nat):Int) m r p) (fun k => ?_) (Qe4 m r p (n:Int) i hlt (by omega) _ p[i].length 0 c (by omega) (by omega) ?_)
  ·conv=>lhs;simp only [Q0p.l1]
   rw [if_pos (by omega)]
   rfl
  ·rw [List.drop_zero,nxt i (by omega)]
   exact ih (i+1) _ (by omega) (by omega)
theorem Qga {m:List (List Pt)} {r:List (List Int)} (hs:Small m r) (p:List (List Int)) (hp:p.length≤100000000) (hpf:p.flatten.length≤100000000):∀ d n:Nat,n+d=r.length →
  Ev (fun k=>Q0p.l0 k (n:Int) m r p) ((List.range' n d).all (fun k:Nat=>decide (p.flatten.count (k:Int)=1))&&p.all (fillsV m r)):=by
 have hrl:=hs.rings
 have hpx:∀ x∈p,x.length≤100000000:=fun x hx=>Nat.le_trans (Q3g p x hx) hpf
 intro d
 induction d with
 | zero =>
  intro n hn
  refine Ev.step (f:=fun k=>Q0p.l3 k ((0:Nat):Int) m r p) (fun k => ?_) (by have:=Qev hs p hp hpx p.length 0 (by omega);rw [List.drop_zero] at this;exact this)
  rw [Q0p.l0.eq_2,if_neg (by omega)]
  rfl
 | succ d ih =>
  intro n hn
  rw [List.range'_succ,List.all_cons,Bool.and_assoc]
  have h:=Qez m r p n (by omega) hp _ (ih (n+1) (by omega)) p.length 0 0 (by omega) (by rw [List.drop_zero];omega)
  rw [List.drop_zero,Nat.zero_add] at h
  refine Ev.step (fun k => ?_) h
  rw [Q0p.l0.eq_2,if_pos (by omega)]
  rfl
theorem Q6q {m:List (List Pt)} {r:List (List Int)}:∀ (l:List Int) (O:List Pt) (b:Bool),fillsL m r O b l=true→∀ k∈l,inR r k=true
 | [],_,_,_=>by simp
 | k :: t,O,b,h=>by
  intro x hx
  unfold fillsL at h
  split at h
  ·cases h
  ·rename_i h0
   have h0:(ringAt m r k).2=0:=by simpa using h0
   have hk:inR r k=true:=by
    obtain ⟨q,hq,e⟩:=Q7b h0
    unfold inR
    exact decide_eq_true (by omega)
   rcases List.mem_cons.1 hx with rfl|hx
   ·exact hk
   ·split at h
    ·split at h
     ·cases h
     ·exact Q6q t _ _ h x hx
    ·split at h
     ·cases h
     ·split at h
      ·cases h
      ·exact Q6q t _ _ h x hx
theorem Qce (m:List (List Pt)) (r p:List (List Int)):FillsV m r p=((List.range' 0 r.length).all (fun k:Nat=>decide (p.flatten.count (k:Int)=1))&&p.all (fillsV m r)):=by
 unfold FillsV
 cases h:p.all (fillsV m r) with
 | false=>rw [Bool.and_false,Bool.and_false]
 | true =>
  have hin:p.flatten.all (inR r)=true:=by
   rw [List.all_eq_true]
   intro x hx
   obtain ⟨l,hl,hxl⟩:=List.mem_flatten.1 hx
   have hf:=List.all_eq_true.1 h l hl
   unfold fillsV at hf
   rw [Bool.and_eq_true] at hf
   exact Q6q l _ _ hf.2 x hxl
  rw [hin,Bool.true_and]
theorem Qcz {m:List (List Pt)} {r:List (List Int)} (hs:Small m r) (p:List (List Int)) (hp:p.length≤100000000) (hpf:p.flatten.length≤100000000):Ev (fun k=>Q0p.f k m r p) (FillsV m r p):=by
 rw [Qce]
 unfold Q0p.f
 exact Qga hs p hp hpf r.length 0 (by omega)
end Go.Proofs.Ytbonkedecfjmdaa.Pl

namespace Go.Proofs.Ytbonkedecfjmdaa.Pl
set_option linter.unusedVariables false
set_option linter.unusedSimpArgs false
open Go Go.RowKit Go.Proofs.Ytbonkedecfjmdaa.P Go.Proofs.Ytbonkedecfjmdaa.G Go.Proofs.Ytbonkedecfjmdaa.WL Go.Proofs.YtbonkedecfjmdaaW.PrintWords Go.Proofs.YtbonkedecfjmdaaW.PrintLast Go.Proofs.YtbonkedecfjmdaaW.PrintMore
theorem Qfr (p:Pt) (l:List Pt):inV p l<1↔inV p l≠1:=by
 unfold inV
 split
 ·unfold tell
  split
  ·decide
  ·split<;>decide
 ·decide
def insV (m:List (List Pt)) (r:List (List Int)) (pt:Pt) (poly:List Int) (i:Nat):Bool:=if i=0 then decide (0≤inV pt (ringAt m r (rd poly (i:Int))).1) else decide (inV pt (ringAt m r (rd poly (i:Int))).1<1)
def insP (m:List (List Pt)) (r:List (List Int)) (pt:Pt) (poly:List Int):Bool:=(List.range' 0 poly.length).all (insV m r pt poly)
def whL (m:List (List Pt)) (r p:List (List Int)) (pt:Pt) (q:Nat):List Int:=((List.range' 0 q).filter fun x:Nat=>insP m r pt (Q06 p (x:Int))).map fun x:Nat=>(x:Int)
theorem Q9x (m:List (List Pt)) (r p:List (List Int)) (pt:Pt) (q:Nat):whL m r p pt (q+1)=if insP m r pt (Q06 p (q:Int))=true then whL m r p pt q++[(q:Int)] else whL m r p pt q:=by
 unfold whL
 rw [List.range'_1_concat,List.filter_append,List.map_append,Nat.zero_add]
 cases h:insP m r pt (Q06 p (q:Int))<;>simp [h]
theorem Q88 (m:List (List Pt)) (r p:List (List Int)) (pt:Pt) (q:Nat):(whL m r p pt q).length≤q:=by
 unfold whL
 rw [List.length_map]
 have:=List.length_filter_le (fun x:Nat=>insP m r pt (Q06 p (x:Int))) (List.range' 0 q)
 rw [List.length_range'] at this
 exact this
theorem Qh8 {m:List (List Pt)} {r:List (List Int)} (hs:Small m r) (p:List (List Int)) (pt:Pt) (x7:List Int) (h7:x7.length<17592186044416) (x26:List (List Int)) (x27 x28:Int) (poly:List Int) (hpl:poly.length≤100000000) (R:List Int×Int):∀ (n i:Nat) (ok:Bool),i+n=poly.length →
  Ev (fun k=>Q0x.l0 k (if (ok&&(List.range' i n).all (insV m r pt poly))=true then x7++[x28] else x7) x26 x27 (wrap64 (x28+1)) m r p pt.f0 pt.f1 pt.f2) R→Ev (fun k=>Q0x.l1 k x7 x28 ok x26 x27 x28 poly (poly.length:Int) (i:Int) m r p pt.f0 pt.f1 pt.f2) R:=by
 intro n
 induction n with
 | zero =>
  intro i ok hi h
  rw [show (List.range' i 0).all (insV m r pt poly)=true from rfl,Bool.and_true] at h
  refine Ev.step (fun k => ?_) h
  conv=>lhs;unfold Q0x.l1
  rw [if_neg (by omega)]
  cases ok with
  | true=>rw [if_pos rfl,if_pos h7,if_pos rfl]
  | false=>rw [if_neg (by decide),if_neg (by decide)]
 | succ n ih =>
  intro i ok hi h
  have hlt:i<poly.length:=by omega
  rw [List.range'_succ,List.all_cons,← Bool.and_assoc] at h
  have nx:=ih (i+1) (ok&&insV m r pt poly i) (by omega) h
  refine Ev.step (f:=fun k=>(Q1u.f k m r p (rd poly (i:Int))).bind fun bt=>(Q1k.f k pt.f0 pt.f1 pt.f2 bt.1).bind fun t=>(if ok=true then (if (i:Int)=0 then (if t≥0 then (Q0x.l1 k x7 x28 true x26 x27 x28 poly (poly.length:Int) ((i+1:Nat):Int) m r p pt.f0 pt.f1 pt.f2) else (if (i:Int)>0 then (Q0x.l1 k x7 x28 (decide (t<1)) x26 x27 x28 poly (poly.length:Int) ((i+1:Nat):Int) m r p pt.f0 pt.f1 pt.f2) else (Q0x.l1 k x7 x28 false x26 x27 x28 poly (poly.length:Int) ((i+1:Nat):Int) m r p pt.f0 pt.f1 pt.f2))) else (if (i:Int)>0 then (Q0x.l1 k x7 x28 (decide (t<1)) x26 x27 x28 poly (poly.length:Int) ((i+1:Nat):Int) m r p pt.f0 pt.f1 pt.f2) else (Q0x.l1 k x7 x28 false x26 x27 x28 poly (poly.length:Int) ((i+1:Nat):Int) m r p pt.f0 pt.f1 pt.f2))) else (Q0x.l1 k x7 x28 false x26 x27 x28 poly (poly.length:Int) ((i+1:Nat):Int) m r p pt.f0 pt.f1 pt.f2))) (fun k => ?_) ?_
  ·conv=>lhs;unfold Q0x.l1
   rw [if_pos (by omega),if_pos (by omega),if_pos (by omega),nxt i (by omega)]
  ·refine Ev.bind (Q5r hs p (rd poly (i:Int))) ?_
   refine Ev.bind (Qej pt _ (by have:=Q36 hs (rd poly (i:Int));omega)) ?_
   cases ok with
   | false=>exact nx
   | true =>
    rw [Bool.true_and] at nx
    unfold insV at nx
    simp only [if_true]
    by_cases h0:i=0
    ·rw [if_pos h0] at nx
     simp only [if_pos (show (i:Int)=0 by omega)]
     by_cases hv:inV pt (ringAt m r (rd poly (i:Int))).1≥0
     ·rw [decide_eq_true hv] at nx
      simp only [if_pos hv]
      exact nx
     ·rw [decide_eq_false hv] at nx
      simp only [if_neg hv,if_neg (show ¬ (i:Int)>0 by omega)]
      exact nx
    ·rw [if_neg h0] at nx
     simp only [if_neg (show ¬ (i:Int)=0 by omega),if_pos (show (i:Int)>0 by omega)]
     exact nx
theorem Qij {m:List (List Pt)} {r:List (List Int)} (hs:Small m r) (p:List (List Int)) (hp:p.length≤100000000) (hpx:∀ x∈p,x.length≤100000000) (pt:Pt):∀ (n i:Nat),i+n=p.length →
  Ev (fun k=>Q0x.l0 k (whL m r p pt i) p (p.length:Int) (i:Int) m r p pt.f0 pt.f1 pt.f2) (whL m r p pt p.length,0):=by
 intro n
 induction n with
 | zero =>
  intro i hi
  refine Ev.step (f:=fun _=>some (whL m r p pt p.length,0)) (fun k => ?_) (Ev.now _)
  conv=>lhs;unfold Q0x.l0
  rw [if_neg (by omega),show i=p.length by omega]
 | succ n ih =>
  intro i hi
  have hlt:i<p.length:=by omega
  have hx:=hpx _ (List.getElem_mem hlt)
  refine Ev.step (f:=fun k=>Q0x.l1 k (whL m r p pt i) (i:Int) true p (p.length:Int) (i:Int) p[i] (p[i].length:Int) ((0:Nat):Int) m r p pt.f0 pt.f1 pt.f2) (fun k => ?_) ?_
  ·conv=>lhs;unfold Q0x.l0
   rw [if_pos (by omega),if_pos (by omega),if_pos (by omega),rdL3 p i hlt]
   rfl
  ·refine Qh8 hs p pt _ (by have:=Q88 m r p pt i;omega) p (p.length:Int) (i:Int) p[i] hx _ p[i].length 0 true (by omega) ?_
   have I:=ih (i+1) (by omega)
   rw [Q9x,rdL3 p i hlt] at I
   rw [nxt i (by omega),Bool.true_and]
   exact I
def whereO (m:List (List Pt)) (r p:List (List Int)) (pt:Pt):List Int×Int:=if checkV m r p=0 then (if rt pt=true then (whL m r p pt p.length,0) else ([],2)) else ([],checkV m r p)
theorem Qdv (m:List (List Pt)) (r p:List (List Int)) (pt:Pt) (hm:m.length≤1048576) (hx:∀ a∈m,a.length≤1048576) (hr:r.length≤1048576) (hrf:r.flatten.length≤1048576) (hp:p.length≤1048576) (hpf:p.flatten.length≤1048576) (hwf:∀ x∈r,∀ n∈x,wf64 n):Ev (fun k=>Q0x.f k m r p pt.f0 pt.f1 pt.f2) (whereO m r p pt):=by
 unfold Q0x.f
 refine Ev.bind (Q93 m r p hm hx hr hrf hp hpf hwf) ?_
 unfold whereO
 by_cases h:checkV m r p=0
 ·obtain ⟨⟨s1,s2⟩,s3,s4,s5,s6⟩:=Q4q h
  have hs:Small m r:=⟨s2,by omega,s5,hwf⟩
  simp only [if_pos h]
  refine Ev.bind (Q4w _ (by simp)) ?_
  rw [show ([(⟨pt.f0,pt.f1,pt.f2⟩:Pt)]:List Pt).all rt=rt pt by simp [rt]]
  cases rt pt with
  | true =>
   simp only [if_true]
   exact Qij hs p (by omega) (fun x hx=>Nat.le_trans (Q3g p x hx) (by omega)) pt p.length 0 (by omega)
  | false =>
   simp only [Bool.false_eq_true,if_false]
   exact Ev.now _
 ·simp only [if_neg h]
  exact Ev.now _
theorem Qgg {m:List (List Pt)} {r:List (List Int)} (hs:Small m r) (p:List (List Int)) (pt:Pt) (x5:List Int) (h5:x5.length<17592186044416) (q:Nat) (hq:q<p.length) (hp:p.length≤100000000) (hpl:p[q].length≤100000000) (hin:∀ x∈p[q],inR r x=true) (R:List Int):∀ (n i:Nat) (ok:Bool),i+n=p[q].length →
  Ev (fun k=>Q0r.l0 k (if (ok&&(List.range' i n).all (insV m r pt p[q]))=true then x5++[(q:Int)] else x5) ((q+1:Nat):Int) m r p pt.f0 pt.f1 pt.f2) R→Ev (fun k=>Q0r.l1 k x5 (q:Int) ok (i:Int) m r p pt.f0 pt.f1 pt.f2) R:=by
 intro n
 induction n with
 | zero =>
  intro i ok hi h
  rw [show (List.range' i 0).all (insV m r pt p[q])=true from rfl,Bool.and_true] at h
  refine Ev.step (fun k => ?_) h
  conv=>lhs;unfold Q0r.l1
  rw [if_pos (by omega),if_pos (by omega),rdL3 p q hq,if_neg (by omega),nxt q (by omega)]
  cases ok with
  | true=>rw [if_pos rfl,if_pos h5,if_pos rfl]
  | false=>rw [if_neg (by decide),if_neg (by decide)]
 | succ n ih =>
  intro i ok hi h
  have hlt:i<p[q].length:=by omega
  rw [List.range'_succ,List.all_cons,← Bool.and_assoc] at h
  have nx:=ih (i+1) (ok&&insV m r pt p[q] i) (by omega) h
  have hr:=hin _ (List.getElem_mem hlt)
  unfold inR at hr
  rw [decide_eq_true_iff] at hr
  obtain ⟨z,hz⟩:=Int.eq_ofNat_of_zero_le hr.1
  have hzr:z<r.length:=by omega
  have hv:=Q9a pt (ringAt m r (z:Int)).1
  have hw:=Qfr pt (ringAt m r (z:Int)).1
  unfold insV at nx
  rw [rdI _ i hlt,hz] at nx
  generalize hV:inV pt (ringAt m r (z:Int)).1=V at *
  refine Ev.step (f:=fun k=>(Q0f.f k m r p r[z]).bind fun bt=>(Q0z.f k pt.f0 pt.f1 pt.f2 bt.1).bind fun t=>(if (i:Int)=0 then (if t=(-1) then (Q0r.l1 k x5 (q:Int) false ((i+1:Nat):Int) m r p pt.f0 pt.f1 pt.f2) else (if (i:Int)>0 then (if t=1 then (Q0r.l1 k x5 (q:Int) false ((i+1:Nat):Int) m r p pt.f0 pt.f1 pt.f2) else (Q0r.l1 k x5 (q:Int) ok ((i+1:Nat):Int) m r p pt.f0 pt.f1 pt.f2)) else (Q0r.l1 k x5 (q:Int) ok ((i+1:Nat):Int) m r p pt.f0 pt.f1 pt.f2))) else (if (i:Int)>0 then (if t=1 then (Q0r.l1 k x5 (q:Int) false ((i+1:Nat):Int) m r p pt.f0 pt.f1 pt.f2) else (Q0r.l1 k x5 (q:Int) ok ((i+1:Nat):Int) m r p pt.f0 pt.f1 pt.f2)) else (Q0r.l1 k x5 (q:Int) ok ((i+1:Nat):Int) m r p pt.f0 pt.f1 pt.f2)))) (fun k => ?_) ?_
  ·conv=>lhs;unfold Q0r.l1
   rw [if_pos (by omega),if_pos (by omega),rdL3 p q hq,if_pos (by omega),if_pos (by omega),rdI _ i hlt,hz,if_pos (by omega),if_pos (by omega),rdL3 r z hzr,nxt i (by omega)]
  ·refine Ev.bind (Q8c hs p z hzr) ?_
   refine Ev.bind (Qek pt _ (by have:=Q36 hs (z:Int);omega)) ?_
   rw [hV]
   by_cases h0:i=0
   ·rw [if_pos h0] at nx
    simp only [if_pos (show (i:Int)=0 by omega)]
    by_cases hc:V = -1
    ·rw [decide_eq_false (show ¬ 0≤V by omega),Bool.and_false] at nx
     simp only [if_pos hc]
     exact nx
    ·rw [decide_eq_true (show 0≤V by omega),Bool.and_true] at nx
     simp only [if_neg hc,if_neg (show ¬ (i:Int)>0 by omega)]
     exact nx
   ·rw [if_neg h0] at nx
    simp only [if_neg (show ¬ (i:Int)=0 by omega),if_pos (show (i:Int)>0 by omega)]
    by_cases hc:V=1
    ·rw [decide_eq_false (show ¬ V<1 by omega),Bool.and_false] at nx
     simp only [if_pos hc]
     exact nx
    ·rw [decide_eq_true (hw.2 hc),Bool.and_true] at nx
     simp only [if_neg hc]
     exact nx
theorem Qg7 {m:List (List Pt)} {r:List (List Int)} (hs:Small m r) (p:List (List Int)) (hp:p.length≤100000000) (hpx:∀ x∈p,x.length≤100000000) (hin:∀ x∈p,∀ y∈x,inR r y=true) (pt:Pt):∀ (n i:Nat),i+n=p.length →
  Ev (fun k=>Q0r.l0 k (whL m r p pt i) (i:Int) m r p pt.f0 pt.f1 pt.f2) (whL m r p pt p.length):=by
 intro n
 induction n with
 | zero =>
  intro i hi
  refine Ev.step (f:=fun _=>some (whL m r p pt p.length)) (fun k => ?_) (Ev.now _)
  conv=>lhs;unfold Q0r.l0
  rw [if_neg (by omega),show i=p.length by omega]
 | succ n ih =>
  intro i hi
  have hlt:i<p.length:=by omega
  have hx:=hpx _ (List.getElem_mem hlt)
  refine Ev.step (f:=fun k=>Q0r.l1 k (whL m r p pt i) (i:Int) true ((0:Nat):Int) m r p pt.f0 pt.f1 pt.f2) (fun k => ?_) ?_
  ·conv=>lhs;unfold Q0r.l0
   rw [if_pos (by omega)]
   rfl
  ·refine Qgg hs p pt _ (by have:=Q88 m r p pt i;omega) i hlt hp hx (hin _ (List.getElem_mem hlt)) _ p[i].length 0 true (by omega) ?_
   have I:=ih (i+1) (by omega)
   rw [Q9x,rdL3 p i hlt] at I
   rw [Bool.true_and]
   exact I
theorem Q8y {m:List (List Pt)} {r p:List (List Int)} (h:checkV m r p=0):FillsV m r p=true:=by
 have h0:=(Q6x h).1
 unfold checkV at h
 rw [h0] at h
 cases hf:FillsV m r p with
 | true=>rfl
 | false =>
  rw [hf] at h
  split at h
  ·cases h
  ·split at h
   ·omega
   ·split at h
    ·cases h
    ·split at h<;>simp at h
theorem Q8g {m:List (List Pt)} {r p:List (List Int)} (h:checkV m r p=0):∀ x∈p,∀ y∈x,inR r y=true:=by
 have:=Q8y h
 unfold FillsV at this
 rw [Bool.and_eq_true] at this
 intro x hx y hy
 exact List.all_eq_true.1 this.1 y (List.mem_flatten.2 ⟨x,hx,hy⟩)
theorem Qbg (m:List (List Pt)) (r p:List (List Int)) (pt:Pt) (hwf:∀ x∈r,∀ n∈x,wf64 n) (h:checkV m r p=0):Ev (fun k=>Q0r.f k m r p pt.f0 pt.f1 pt.f2) (whL m r p pt p.length):=by
 obtain ⟨⟨s1,s2⟩,s3,s4,s5,s6⟩:=Q4q h
 have hs:Small m r:=⟨s2,by omega,s5,hwf⟩
 unfold Q0r.f
 exact Qg7 hs p (by omega) (fun x hx=>Nat.le_trans (Q3g p x hx) (by omega)) (Q8g h) pt p.length 0 (by omega)
end Go.Proofs.Ytbonkedecfjmdaa.Pl

namespace Go.Proofs.Ytbonkedecfjmdaa.Pl
set_option linter.unusedVariables false
set_option linter.unusedSimpArgs false
open Go.RowKit Go.Proofs.Ytbonkedecfjmdaa.P Go.Proofs.Ytbonkedecfjmdaa.G Go.Proofs.Ytbonkedecfjmdaa.WL Go.Proofs.YtbonkedecfjmdaaW.PrintWords Go.Proofs.YtbonkedecfjmdaaW.PrintLast Go.Proofs.YtbonkedecfjmdaaW.PrintMore
def neA (a:List Pt) (i:Nat):Bool := !Gr.eqP (pa a i) (pa a (i - 1))
theorem Q9u (a:List Pt):okArc a=(decide (2≤a.length)&&(a.all rt&&(List.range' 1 (a.length - 1)).all (neA a))):=by
 unfold okArc
 by_cases h2:2≤a.length
 ·rw [decide_eq_true h2,Bool.true_and,Bool.true_and,Bool.eq_iff_iff,Bool.and_eq_true,List.all_eq_true,List.all_eq_true,List.all_eq_true]
  simp only [List.mem_range'_1]
  constructor
  ·intro h
   refine ⟨fun x hx => ?_,fun i hi => ?_⟩
   ·obtain ⟨i,hi,rfl⟩:=List.getElem_of_mem hx
    have:=h i ⟨by omega,by omega⟩
    unfold stepA at this
    rw [Qal a i hi,Bool.and_eq_true] at this
    exact this.1
   ·have:=h i ⟨by omega,by omega⟩
    unfold stepA at this
    rw [Bool.and_eq_true,decide_eq_false (show ¬ i=0 by omega),Bool.false_or] at this
    exact this.2
  ·rintro ⟨h1,h3⟩ i hi
   have hl:i<a.length:=by omega
   unfold stepA
   rw [Bool.and_eq_true,Bool.or_eq_true]
   refine ⟨by rw [Qal a i hl];exact h1 _ (List.getElem_mem hl),?_⟩
   by_cases h0:i=0
   ·exact .inl (decide_eq_true h0)
   ·exact .inr (h3 i ⟨by omega,by omega⟩)
 ·rw [decide_eq_false h2,Bool.false_and,Bool.false_and]
theorem Qf6 (m:List (List Pt)) (q:Nat) (hq:q<m.length) (ha:m[q].length≤1048576) (hm:m.length≤1048576) (R:Int) (next:Ev (fun k=>Q0l.l1 k m ((q+1:Nat):Int)) R):∀ (n i:Nat),1≤i→i+n=m[q].length →
  Ev (fun k=>Q0l.l2 k m (q:Int) (i:Int)) (if (List.range' i n).all (neA m[q])=true then R else 2):=by
 intro n
 induction n with
 | zero =>
  intro i h1 hi
  refine Ev.step (fun k => ?_) next
  conv=>lhs;simp only [Q0l.l2]
  rw [if_pos (by omega),if_pos (by omega),Q34 m q hq,if_neg (by omega),nxt q (by omega)]
 | succ n ih =>
  intro i h1 hi
  have I:=ih (i+1) (by omega) (by omega)
  rw [List.range'_succ,List.all_cons]
  by_cases he:Gr.eqP (pa m[q] i) (pa m[q] (i - 1))=true
  ·have:neA m[q] i=false:=by unfold neA;rw [he];rfl
   rw [this,Bool.false_and]
   refine Ev.step (f:=fun _=>some 2) (fun k => ?_) (Ev.now _)
   conv=>lhs;simp only [Q0l.l2]
   rw [if_pos (by omega),if_pos (by omega),Q34 m q hq,if_pos (by omega),if_pos (by omega),prv i (by omega) (by omega),if_pos (by omega),if_pos (by omega),Q60,Q60]
   exact if_pos he
  ·have:neA m[q] i=true:=by unfold neA;simpa using he
   rw [this,Bool.true_and]
   refine Ev.step (fun k => ?_) I
   conv=>lhs;simp only [Q0l.l2]
   rw [if_pos (by omega),if_pos (by omega),Q34 m q hq,if_pos (by omega),if_pos (by omega),prv i (by omega) (by omega),if_pos (by omega),if_pos (by omega),Q60,Q60,nxt i (by omega)]
   exact if_neg he
theorem Qfs (m:List (List Pt)) (hm:m.length≤1048576) (hx:∀ a∈m,a.length≤1048576):∀ (n i:Nat),i+n=m.length→Ev (fun k=>Q0l.l1 k m (i:Int)) (if (m.drop i).all okArc=true then 0 else 2):=by
 intro n
 induction n with
 | zero =>
  intro i hi
  rw [List.drop_of_length_le (by omega)]
  exact Ev.step (f:=fun _=>some 0) (fun k=>by conv=>{ lhs;simp only [Q0l.l1] };rw [if_neg (by omega)]) (Ev.now _)
 | succ n ih =>
  intro i hi
  have hlt:i<m.length:=by omega
  have I:=ih (i+1) (by omega)
  have ha:=hx _ (List.getElem_mem hlt)
  rw [List.drop_eq_getElem_cons hlt,List.all_cons,Q9u]
  have jt:Ev (fun k=>Q0l.j3 k m (i:Int) true) 2:=Ev.step (f:=fun _=>some 2) (fun k=>by simp only [Q0l.j3,if_true]) (Ev.now _)
  by_cases h2:(m[i].length:Int)<2
  ·rw [decide_eq_false (by omega),Bool.false_and,Bool.false_and]
   refine Ev.step (f:=fun k=>Q0l.j3 k m (i:Int) true) (fun k => ?_) jt
   conv=>lhs;simp only [Q0l.l1]
   rw [if_pos (by omega),if_pos (by omega),Q34 m i hlt,if_pos h2]
  ·rw [decide_eq_true (by omega),Bool.true_and]
   refine Ev.step (f:=fun k=>(Q0s.f k m[i]).bind fun t324=>Q0l.j3 k m (i:Int) (!t324)) (fun k => ?_) (Ev.bind (Q4d m[i] (by omega)) ?_)
   ·conv=>lhs;simp only [Q0l.l1]
    rw [if_pos (by omega),if_pos (by omega),Q34 m i hlt,if_neg h2]
   ·cases hr:m[i].all rt with
    | false=>exact jt
    | true =>
     refine Ev.step (f:=fun k=>Q0l.l2 k m (i:Int) ((1:Nat):Int)) (fun k=>by simp only [Q0l.j3,Bool.not_true,Bool.false_eq_true,if_false];rfl) ?_
     have:=Qf6 m i hlt ha hm _ I (m[i].length - 1) 1 (by omega) (by omega)
     rw [show (if ((true&&(List.range' 1 (m[i].length - 1)).all (neA m[i]))&&(m.drop (i+1)).all okArc)=true then (0:Int) else 2)=(if (List.range' 1 (m[i].length - 1)).all (neA m[i])=true then (if (m.drop (i+1)).all okArc=true then (0:Int) else 2) else 2) by
      cases (List.range' 1 (m[i].length - 1)).all (neA m[i])<;>rfl]
     exact this
theorem Qdy (m:List (List Pt)) (hm:m.length≤1048576) (hx:∀ a∈m,a.length≤1048576):∀ (n i:Nat),i+n=m.length→Ev (fun k=>Q0l.l0 k m (((m.take i).map List.length).sum:Int) (i:Int)) (arcsV m):=by
 have sle:∀ (l:List (List Pt)),(∀ a∈l,a.length≤1048576)→(l.map List.length).sum≤l.length*1048576:=by
  intro l
  induction l with
  | nil=>intro _;simp
  | cons a l ih =>
   intro h
   have:=ih (fun x hx=>h x (List.mem_cons_of_mem _ hx))
   have:=h a (List.mem_cons_self ..)
   simp only [List.map_cons,List.sum_cons,List.length_cons,Nat.add_mul]
   omega
 intro n
 induction n with
 | zero =>
  intro i hi
  rw [List.take_of_length_le (by omega)]
  have L1:=Qfs m hm hx m.length 0 (by omega)
  rw [List.drop_zero] at L1
  have hj:∀ z:Bool,z=decide (2000<m.length∨20000<(m.map List.length).sum)→Ev (fun k=>Q0l.j1 k m z) (arcsV m):=by
   intro z hz
   unfold arcsV
   by_cases h:2000<m.length∨20000<(m.map List.length).sum
   ·rw [decide_eq_true h] at hz
    subst hz
    rw [if_pos h]
    exact Ev.step (f:=fun _=>some 3) (fun k=>by simp only [Q0l.j1,if_true]) (Ev.now _)
   ·rw [decide_eq_false h] at hz
    subst hz
    rw [if_neg h]
    exact Ev.step (f:=fun k=>Q0l.l1 k m ((0:Nat):Int)) (fun k=>by simp only [Q0l.j1,Bool.false_eq_true,if_false];rfl) L1
  by_cases h2:(m.length:Int)>2000
  ·refine Ev.step (f:=fun k=>Q0l.j1 k m true) (fun k => ?_) (hj true (by rw [decide_eq_true (Or.inl (by omega))]))
   conv=>lhs;simp only [Q0l.l0]
   rw [if_neg (by omega),if_pos h2]
  ·refine Ev.step (f:=fun k=>Q0l.j1 k m (decide (((m.map List.length).sum:Int)>20000))) (fun k => ?_) (hj _ ?_)
   ·conv=>lhs;simp only [Q0l.l0]
    rw [if_neg (by omega),if_neg h2]
   ·rw [decide_eq_decide]
    omega
 | succ n ih =>
  intro i hi
  have hlt:i<m.length:=by omega
  have I:=ih (i+1) (by omega)
  have hs:((m.take (i+1)).map List.length).sum=((m.take i).map List.length).sum+m[i].length:=by
   rw [List.take_add_one,List.getElem?_eq_getElem hlt,List.map_append,List.sum_append]
   rfl
  have hb:=sle (m.take (i+1)) (fun a ha=>hx a (List.mem_of_mem_take ha))
  have hb2:(m.take (i+1)).length≤1048576:=by rw [List.length_take];omega
  have hb3:=Nat.mul_le_mul_right 1048576 hb2
  rw [hs] at I
  refine Ev.step (f:=fun k=>Q0l.l0 k m ((((m.take i).map List.length).sum+m[i].length:Nat):Int) ((i+1:Nat):Int)) (fun k => ?_) I
  conv=>lhs;simp only [Q0l.l0]
  rw [if_pos (by omega),if_pos (by omega),Q34 m i hlt,nxt i (by omega)]
  congr 1
  unfold wrap64
  omega
theorem Q9t (m:List (List Pt)) (hm:m.length≤1048576) (hx:∀ a∈m,a.length≤1048576):Ev (fun k=>Q0l.f k m) (arcsV m):=Qdy m hm hx m.length 0 (by omega)

theorem ite2 (A B R:Bool):(if (A&&B)=true then R else true)=(if A=true then (if B=true then R else true) else true):=by cases A<;>rfl
structure Fit (m:List (List Pt)):Prop where
 n:m.length≤2000
 x:∀ a∈m,a.length≤20000
 t:∀ a∈m,2≤a.length
theorem Qgm {m:List (List Pt)} (h:arcsV m=0):Fit m:=by
 obtain ⟨h1,h2⟩:=Q5h h
 refine ⟨h1,h2,fun a ha => ?_⟩
 unfold arcsV at h
 split at h
 ·cases h
 ·split at h
  ·rename_i hk
   have:=List.all_eq_true.1 hk a ha
   unfold okArc at this
   rw [Bool.and_eq_true,decide_eq_true_iff] at this
   exact this.1
  ·cases h
theorem Qaf (m:List (List Pt)) (x:Nat) (h:x<m.length):m.getD x []=m[x]:=by simp [List.getD,List.getElem?_eq_getElem h]
theorem Qc1 {m:List (List Pt)} (hf:Fit m) (r p:List (List Int)) (x y i k:Nat) (hx:x<m.length) (hy:y<m.length) (hi:i+1<m[x].length) (hk:k+1<m[y].length) (b R:Bool) (hb:b=(decide (x=y)&&decide (i=k)))
  (next:Ev (fun q=>Q0m.l3 q (x:Int) (y:Int) (i:Int) ((k+1:Nat):Int) m r p) R):Ev (fun q=>Q0m.j4 q (x:Int) (y:Int) (i:Int) (k:Int) b m r p) (if pairOk m x i y k=true then R else true):=by
 have bx:=hf.x _ (List.getElem_mem hx)
 have by_:=hf.x _ (List.getElem_mem hy)
 unfold pairOk
 rw [← hb,Qaf m x hx,Qaf m y hy]
 cases b with
 | true =>
  rw [Bool.true_or,if_pos rfl]
  refine Ev.step (fun q => ?_) next
  conv=>lhs;simp only [Q0m.j4]
  rw [if_pos trivial,nxt k (by omega)]
 | false =>
  rw [Bool.false_or]
  have e:((x:Int)==(y:Int))=decide (x=y):=by rw [Bool.eq_iff_iff,beq_iff_eq,decide_eq_true_iff];omega
  have hc:Q3z.f m[x] (i:Int) m[y] (k:Int) (decide (x=y))=some (commonV m[x] i m[y] k (decide (x=y))):=by
   unfold Q3z.f
   rw [if_pos ⟨by omega,by omega,by omega,by omega,by omega,by omega⟩,Int.toNat_natCast,Int.toNat_natCast]
  cases hv:commonV m[x] i m[y] k (decide (x=y)) with
  | true =>
   rw [if_pos rfl]
   refine Ev.step (fun q => ?_) next
   conv=>lhs;simp only [Q0m.j4]
   rw [if_neg Bool.false_ne_true,if_pos (by omega),if_pos (by omega),if_pos (by omega),if_pos (by omega),Q34 m x hx,Q34 m y hy,e,hc,hv,Option.bind_some,if_pos rfl,nxt k (by omega)]
  | false =>
   rw [if_neg (by decide)]
   refine Ev.step (f:=fun _=>some true) (fun q => ?_) (Ev.now _)
   conv=>lhs;simp only [Q0m.j4]
   rw [if_neg Bool.false_ne_true,if_pos (by omega),if_pos (by omega),if_pos (by omega),if_pos (by omega),Q34 m x hx,Q34 m y hy,e,hc,hv,Option.bind_some,if_neg (by decide)]
theorem Qc8 {m:List (List Pt)} (hf:Fit m) (r p:List (List Int)) (x y i:Nat) (hx:x<m.length) (hy:y<m.length) (hi:i+1<m[x].length) (R:Bool)
  (next:Ev (fun q=>Q0m.l2 q (x:Int) (y:Int) ((i+1:Nat):Int) m r p) R):∀ n k:Nat,k+n+1=m[y].length→Ev (fun q=>Q0m.l3 q (x:Int) (y:Int) (i:Int) (k:Int) m r p) (if ((List.range' k n).all fun k=>pairOk m x i y k)=true then R else true):=by
 have bx:=hf.x _ (List.getElem_mem hx)
 have by_:=hf.x _ (List.getElem_mem hy)
 intro n
 induction n with
 | zero =>
  intro k hk
  refine Ev.step (fun q => ?_) next
  conv=>lhs;simp only [Q0m.l3]
  rw [if_pos (by omega),if_pos (by omega),Q34 m y hy,nxt k (by omega),if_neg (by omega),nxt i (by omega)]
 | succ n ih =>
  intro k hk
  have I:=Qc1 hf r p x y i k hx hy hi (by omega) _ _ rfl (ih (k+1) (by omega))
  rw [List.range'_succ,List.all_cons,ite2]
  refine Ev.step (fun q => ?_) I
  conv=>lhs;simp only [Q0m.l3]
  rw [if_pos (by omega),if_pos (by omega),Q34 m y hy,nxt k (by omega),if_pos (by omega)]
  by_cases h:x=y
  ·rw [if_pos (by omega),decide_eq_true h,Bool.true_and]
   congr 1
   rw [Bool.eq_iff_iff,beq_iff_eq,decide_eq_true_iff];omega
  ·rw [if_neg (by omega),decide_eq_false h,Bool.false_and]
def rowOk (m:List (List Pt)) (x y i:Nat):Bool:=(List.range' 0 ((m.getD y []).length - 1)).all fun k=>pairOk m x i y k
theorem Qea {m:List (List Pt)} (hf:Fit m) (r p:List (List Int)) (x y:Nat) (hx:x<m.length) (hy:y<m.length) (R:Bool)
  (next:Ev (fun q=>Q0m.l1 q (x:Int) ((y+1:Nat):Int) m r p) R):∀ n i:Nat,i+n+1=m[x].length→Ev (fun q=>Q0m.l2 q (x:Int) (y:Int) (i:Int) m r p) (if ((List.range' i n).all fun i=>rowOk m x y i)=true then R else true):=by
 have bx:=hf.x _ (List.getElem_mem hx)
 have by_:=hf.x _ (List.getElem_mem hy)
 have ty:=hf.t _ (List.getElem_mem hy)
 have hn:=hf.n
 intro n
 induction n with
 | zero =>
  intro i hi
  refine Ev.step (fun q => ?_) next
  conv=>lhs;simp only [Q0m.l2]
  rw [if_pos (by omega),if_pos (by omega),Q34 m x hx,nxt i (by omega),if_neg (by omega),nxt y (by omega)]
 | succ n ih =>
  intro i hi
  have I:=Qc8 hf r p x y i hx hy (by omega) _ (ih (i+1) (by omega)) (m[y].length - 1) 0 (by omega)
  rw [List.range'_succ,List.all_cons,ite2]
  unfold rowOk at I ⊢
  rw [Qaf m y hy] at I ⊢
  refine Ev.step (fun q => ?_) I
  conv=>lhs;simp only [Q0m.l2]
  rw [if_pos (by omega),if_pos (by omega),Q34 m x hx,nxt i (by omega),if_pos (by omega)]
  rfl
def arcOk (m:List (List Pt)) (x y:Nat):Bool:=(List.range' 0 ((m.getD x []).length - 1)).all fun i=>rowOk m x y i
theorem Qc5 {m:List (List Pt)} (hf:Fit m) (r p:List (List Int)) (x:Nat) (hx:x<m.length) (R:Bool)
  (next:Ev (fun q=>Q0m.l0 q ((x+1:Nat):Int) m r p) R):∀ n y:Nat,y+n=m.length→Ev (fun q=>Q0m.l1 q (x:Int) (y:Int) m r p) (if ((List.range' y n).all fun y=>arcOk m x y)=true then R else true):=by
 have tx:=hf.t _ (List.getElem_mem hx)
 have hn:=hf.n
 intro n
 induction n with
 | zero =>
  intro y hy
  refine Ev.step (fun q => ?_) next
  conv=>lhs;simp only [Q0m.l1]
  rw [if_neg (by omega),nxt x (by omega)]
 | succ n ih =>
  intro y hy
  have I:=Qea hf r p x y hx (by omega) _ (ih (y+1) (by omega)) (m[x].length - 1) 0 (by omega)
  rw [List.range'_succ,List.all_cons,ite2]
  unfold arcOk at I ⊢
  rw [Qaf m x hx] at I ⊢
  refine Ev.step (fun q => ?_) I
  conv=>lhs;simp only [Q0m.l1]
  rw [if_pos (by omega)]
  rfl
theorem Qdr {m:List (List Pt)} (hf:Fit m) (r p:List (List Int)):∀ n x:Nat,x+n=m.length→Ev (fun q=>Q0m.l0 q (x:Int) m r p) (if ((List.range' x n).all fun x=>(List.range' 0 m.length).all fun y=>arcOk m x y)=true then false else true):=by
 have hn:=hf.n
 intro n
 induction n with
 | zero =>
  intro x hx
  refine Ev.step (f:=fun _=>some false) (fun q => ?_) (Ev.now _)
  conv=>lhs;simp only [Q0m.l0]
  rw [if_neg (by omega)]
 | succ n ih =>
  intro x hx
  have I:=Qc5 hf r p x (by omega) _ (ih (x+1) (by omega)) m.length 0 (by omega)
  rw [List.range'_succ,List.all_cons,ite2]
  refine Ev.step (fun q => ?_) I
  conv=>lhs;simp only [Q0m.l0]
  rw [if_pos (by omega)]
  rfl
theorem Qb5 {m:List (List Pt)}:allOk m=((List.range' 0 m.length).all fun x=>(List.range' 0 m.length).all fun y=>arcOk m x y):=rfl
theorem Qcf (m:List (List Pt)) (r p:List (List Int)) (h:arcsV m=0):Ev (fun k=>Q0m.f k m r p) (meetsV m):=by
 have hf:=Qgm h
 have hn:=hf.n
 have hx:∀ a∈m,a.length≤1048576:=fun a ha=>Nat.le_trans (hf.x a ha) (by decide)
 unfold Q0m.f
 refine Ev.bind (Q9t m (by omega) hx) ?_
 rw [h]
 simp only [if_true]
 have I:=Qdr hf r p m.length 0 (by omega)
 rw [← Qb5] at I
 have e:meetsV m=(if allOk m=true then false else true):=by
  unfold meetsV
  rw [h,Qf5]
  cases allOk m<;>rfl
 rw [e]
 exact I

theorem Qe3 (l:List (List Int)) (hl:l.length≤100000000):∀ n i c:Nat,i+n=l.length→c+(l.drop i).flatten.length≤100000000→Ev (fun k=>Q15.l0 k l (c:Int) (i:Int)) ((c+(l.drop i).flatten.length:Nat):Int):=by
 intro n
 induction n with
 | zero =>
  intro i c hi hc
  rw [List.drop_of_length_le (by omega)]
  refine Ev.step (f:=fun _=>some (c:Int)) (fun k => ?_) (Ev.now _)
  simp only [Q15.l0]
  rw [if_neg (by omega)]
 | succ n ih =>
  intro i c hi hc
  have hlt:i<l.length:=by omega
  rw [List.drop_eq_getElem_cons hlt,List.flatten_cons,List.length_append] at hc
  have I:=ih (i+1) (c+l[i].length) (by omega) (by omega)
  rw [List.drop_eq_getElem_cons hlt,List.flatten_cons,List.length_append,← Nat.add_assoc]
  refine Ev.step (fun k => ?_) I
  conv=>lhs;simp only [Q15.l0]
  rw [if_pos (by omega),if_pos (by omega),rdL3 l i hlt,nxt i (by omega)]
  congr 1
  unfold wrap64
  omega
theorem Qck (l:List (List Int)) (hl:l.length≤100000000) (hf:l.flatten.length≤100000000):Ev (fun k=>Q15.f k l) ((l.flatten.length:Nat):Int):=by
 have h:=Qe3 l hl l.length 0 0 (by omega) (by rw [List.drop_zero];omega)
 rw [List.drop_zero,Nat.zero_add] at h
 exact h
theorem Q8l (m:List (List Pt)) (r p:List (List Int)) (b:Bool) (hb:b=true→arcsV m=3∨longV m r p=true) (hb2:b=false→¬ arcsV m=3∧longV m r p=false) (hwf:∀ x∈r,∀ n∈x,wf64 n):Ev (fun k=>Q1g.j0 k (arcsV m) b m r p) (checkV m r p):=by
 unfold checkV
 cases b with
 | true =>
  rw [if_pos (hb rfl)]
  exact Ev.step (f:=fun _=>some 3) (fun k=>by simp only [Q1g.j0,if_true]) (Ev.now _)
 | false =>
  obtain ⟨h3,hl⟩:=hb2 rfl
  rw [if_neg (by rw [hl];simpa using h3)]
  by_cases h0:arcsV m=0
  ·obtain ⟨hm,hx⟩:=Q5h h0
   unfold longV at hl
   simp only [Bool.or_eq_false_iff,decide_eq_false_iff_not] at hl
   obtain ⟨l1,l2,l3,l4⟩:=hl
   have hs:Small m r:=⟨hx,by omega,by omega,hwf⟩
   rw [if_neg (by simpa using h0)]
   refine Ev.step (fun k=>by simp only [Q1g.j0,Bool.false_eq_true,if_false,if_pos h0];rfl) (Ev.bind (Qcf m r p h0) ?_)
   cases meetsV m with
   | true =>
    simp only [if_true]
    exact Ev.now _
   | false =>
    simp only [Bool.false_eq_true,if_false]
    refine Ev.bind (Qap hs p (by omega)) ?_
    cases closesV m r with
    | false =>
     simp only [Bool.false_eq_true,if_false]
     exact Ev.now _
    | true =>
     simp only [if_true]
     refine Ev.bind (Qcz hs p (by omega) (by omega)) ?_
     cases FillsV m r p with
     | true =>
      simp only [if_true]
      exact Ev.now _
     | false =>
      simp only [Bool.false_eq_true,if_false]
      exact Ev.now _
  ·rw [if_pos h0]
   exact Ev.step (f:=fun _=>some (arcsV m)) (fun k=>by simp only [Q1g.j0,Bool.false_eq_true,if_false,if_neg h0]) (Ev.now _)
theorem Qb2 (m:List (List Pt)) (r p:List (List Int)) (hm:m.length≤1048576) (hx:∀ a∈m,a.length≤1048576) (hr:r.length≤1048576) (hrf:r.flatten.length≤1048576) (hp:p.length≤1048576) (hpf:p.flatten.length≤1048576) (hwf:∀ x∈r,∀ n∈x,wf64 n):Ev (fun k=>Q1g.f k m r p) (checkV m r p):=by
 unfold Q1g.f
 refine Ev.bind (Q9t m hm hx) ?_
 have jt:(arcsV m=3∨longV m r p=true)→Ev (fun k=>Q1g.j0 k (arcsV m) true m r p) (checkV m r p):=fun h=>Q8l m r p true (fun _=>h) (by simp) hwf
 by_cases h3:arcsV m=3
 ·simp only [if_pos h3]
  exact jt (.inl h3)
 ·simp only [if_neg h3]
  by_cases h1:(r.length:Int)>1000
  ·simp only [if_pos h1]
   exact jt (.inr (by unfold longV;rw [decide_eq_true (show r.length>1000 by omega)];rfl))
  ·simp only [if_neg h1]
   by_cases h2:(p.length:Int)>1000
   ·simp only [if_pos h2]
    exact jt (.inr (by unfold longV;rw [decide_eq_true (show p.length>1000 by omega),Bool.true_or,Bool.or_true]))
   ·simp only [if_neg h2]
    refine Ev.bind (Qck r (by omega) (by omega)) ?_
    have hl:longV m r p=(decide (r.flatten.length>20000) || decide (p.flatten.length>20000)):=by
     unfold longV
     rw [decide_eq_false (show ¬ r.length>1000 by omega),decide_eq_false (show ¬ p.length>1000 by omega),Bool.false_or,Bool.false_or]
    by_cases h4:((r.flatten.length:Nat):Int)>20000
    ·simp only [if_pos h4]
     exact jt (.inr (by rw [hl,decide_eq_true (show r.flatten.length>20000 by omega),Bool.true_or]))
    ·simp only [if_neg h4]
     refine Ev.bind (Qck p (by omega) (by omega)) ?_
     rw [decide_eq_false (show ¬ r.flatten.length>20000 by omega),Bool.false_or] at hl
     have e:decide (((p.flatten.length:Nat):Int)>20000)=longV m r p:=by rw [hl,decide_eq_decide];omega
     rw [e]
     exact Q8l m r p _ (fun h=>.inr h) (fun h=>⟨h3,h⟩) hwf
end Go.Proofs.Ytbonkedecfjmdaa.Pl
