/- The areas of a map's polygons, and which of them hold a point, are what the chapter says, where the map is of bulk at most 1048576. No condition. -/
import Derived.Test.YtbonkedecfjmdaaStPlanTells
import Derived.Test.YtbonkedecfjmdaaZ34
namespace Go.Proofs.Ytbonkedecfjmdaa.Pure
set_option linter.unusedVariables false
set_option linter.unusedSimpArgs false
open Go.RowKit Go.Proofs.Ytbonkedecfjmdaa.P Go.Proofs.Ytbonkedecfjmdaa.G Go.Proofs.Ytbonkedecfjmdaa.WL Go.Proofs.Ytbonkedecfjmdaa.Pl Go.Proofs.YtbonkedecfjmdaaW.PrintWords Go.Proofs.YtbonkedecfjmdaaW.PrintLast Go.Proofs.YtbonkedecfjmdaaW.PrintMore

theorem Qgu (m:List (List Pt)) (r p:List (List Int)) (q:Nat) (h:q<p.length):Q2t (outA m r p) (q:Int)=num (polyA m r p[q]):=by
  unfold outA Q2t
  simp [List.getD,List.getElem?_eq_getElem h]
theorem Qd3 {m:List (List Pt)} {r p:List (List Int)} (hs:Small m r) (hp:p.length≤100000000) (hpx:∀ x∈p,x.length≤100000000) (hin:∀ x∈p,∀ y∈x,inR r y=true) (b:Pt) (x7:List Int) (x8:Int) (q:Nat) (hq:q<p.length)
    (next:Ev (fun k=>Q0q.l0 k (outA m r p) x7 x8 ((q+1:Nat):Int) m r p b.f0 b.f1 b.f2) true):∀ (n i:Nat) (x:Int),i+n=p[q].length→x+polyA m r (p[q].drop i)=polyA m r p[q] →
    Ev (fun k=>Q0q.l1 k (outA m r p) x7 x8 (q:Int) (i:Int) m r p b.f0 b.f1 b.f2 (dig x)) true:=by
  have hpl:=hpx _ (List.getElem_mem hq)
  have ho:=Qag m r p
  intro n
  induction n with
  | zero =>
    intro i x hi hx
    rw [List.drop_of_length_le (by omega),show polyA m r []=0 from rfl,Int.add_zero] at hx
    subst hx
    refine Ev.step (f:=fun k=>(Q31.f k (dig (polyA m r p[q])) (hiw (polyA m r p[q])) (low (polyA m r p[q]))).bind fun t741=>(if t741=true then (Q0q.l0 k (outA m r p) x7 x8 ((q+1:Nat):Int) m r p b.f0 b.f1 b.f2) else (none))) (fun k => ?_) ?_
    · conv=>lhs;simp only [Q0q.l1]
      rw [if_pos (by omega),if_pos (by omega),rdL3 p q hq,if_neg (by omega),if_pos (by omega),if_pos (by omega),Qgu m r p q hq,nxt q (by omega)]
    · refine Ev.bind (Qd9 _) ?_
      simp only [if_true]
      exact next
  | succ n ih =>
    intro i x hi hx
    have hlt:i<p[q].length:=by omega
    have hd:polyA m r (p[q].drop i)=areaV (ringAt m r p[q][i]).1+polyA m r (p[q].drop (i+1)):=by unfold polyA;rw [List.drop_eq_getElem_cons hlt,List.map_cons,List.sum_cons]
    have hr:=hin _ (List.getElem_mem hq) _ (List.getElem_mem hlt)
    unfold inR at hr
    rw [decide_eq_true_iff] at hr
    obtain ⟨z,hz⟩:=Int.eq_ofNat_of_zero_le hr.1
    have hzr:z<r.length:=by omega
    rw [hd,← Int.add_assoc] at hx
    have nx:=ih (i+1) (x+areaV (ringAt m r p[q][i]).1) (by omega) hx
    rw [hz] at nx
    refine Ev.step (f:=fun k=>(Q2g.f k m r p (z:Int)).bind fun t733=>((Q1h.f k (dig x) t733).bind fun t736=>(Q0q.l1 k (outA m r p) x7 x8 (q:Int) ((i+1:Nat):Int) m r p b.f0 b.f1 b.f2 t736))) (fun k => ?_) ?_
    · conv=>lhs;simp only [Q0q.l1]
      rw [if_pos (by omega),if_pos (by omega),rdL3 p q hq,if_pos (by omega),if_pos (by omega),rdI _ i hlt,hz,nxt i (by omega)]
    · refine Ev.bind (Qa7 hs p z hzr) ?_
      refine Ev.bind (Qad _ _) ?_
      exact nx
theorem Qd6 {m:List (List Pt)} {r p:List (List Int)} (hf:Fine m r p) (h:checkV m r p=0) (b:Pt):∀ n q:Nat,q+n=p.length →
    Ev (fun k=>Q0q.l0 k (outA m r p) (whereO m r p b).1 (whereO m r p b).2 (q:Int) m r p b.f0 b.f1 b.f2) true:=by
  obtain ⟨⟨s1,s2⟩,s3,s4,s5,s6⟩:=Q4q h
  have hs:Small m r:=⟨s2,by omega,s5,hf.cw⟩
  have hp:=hf.cp
  have hpx:∀ x∈p,x.length≤100000000:=fun x hx=>Nat.le_trans (Q3g p x hx) (by omega)
  have hin:=Q8g h
  intro n
  induction n with
  | zero =>
    intro q hq
    refine Ev.step (f:=fun k=>(Q0s.f k (([(⟨b.f0,b.f1,b.f2⟩:Pt)]:List Pt))).bind fun t745=>(if t745=true then (if (whereO m r p b).2=0 then ((Q0r.f k m r p b.f0 b.f1 b.f2).bind fun t746=>((Q07.f k (whereO m r p b).1 t746).bind fun t749=>(if t749=true then ((Q22.f).bind fun t750=>(some t750)) else (none)))) else (none)) else (if (whereO m r p b).2=2 then (if ((whereO m r p b).1.length:Int)=0 then ((Q22.f).bind fun t751=>(some t751)) else (none)) else (none)))) (fun k => ?_) ?_
    · conv=>lhs;simp only [Q0q.l0]
      rw [if_neg (by omega)]
    · refine Ev.bind (Q4d _ (by simp)) ?_
      rw [show ([(⟨b.f0,b.f1,b.f2⟩:Pt)]:List Pt).all rt=rt b by simp [rt]]
      by_cases hr:rt b=true
      · rw [Qb9 h hr,hr]
        simp only [if_true]
        refine Ev.bind (Qbg m r p b hf.cw h) ?_
        refine Ev.bind (Qfl _ (by have:=Q88 m r p b p.length;omega)) ?_
        simp only [if_true,Q22.f,Option.bind_some]
        exact Ev.now _
      · have e:whereO m r p b=([],2):=by unfold whereO;rw [if_pos h,if_neg hr]
        rw [e,show rt b=false by simpa using hr]
        simp only [Bool.false_eq_true,if_false,if_true,Q22.f,Option.bind_some,List.length_nil]
        exact Ev.now _
  | succ n ih =>
    intro q hq
    have hlt:q<p.length:=by omega
    refine Ev.step (f:=fun k=>(Q1o.f k 0).bind fun t726=>(Q0q.l1 k (outA m r p) (whereO m r p b).1 (whereO m r p b).2 (q:Int) ((0:Nat):Int) m r p b.f0 b.f1 b.f2 t726)) (fun k => ?_) (Ev.bind Qbl ?_)
    · conv=>lhs;simp only [Q0q.l0]
      rw [if_pos (by omega)]
      rfl
    · exact Qd3 hs (by omega) hpx hin b _ _ q hlt (ih (q+1) (by omega)) p[q].length 0 0 (by omega) (by rw [List.drop_zero,Int.zero_add])
theorem Qd2 {m:List (List Pt)} {r p:List (List Int)} (hS:S1 m+S1 r+S1 p≤1048576) (hwf:∀ x∈r,∀ n∈x,wf64 n) (b:Pt):Ev (fun k=>Q0q.f k m r p b.f0 b.f1 b.f2) true:=by
  have hf:=Qeu hS hwf
  unfold Q0q.f
  refine Ev.bind (Qg8 m r p (by omega)) ?_
  by_cases hl:S1 m+S1 r+S1 p>80
  · simp only [decide_eq_true hl,if_true,Q22.f,Option.bind_some]
    exact Ev.now _
  · simp only [decide_eq_false hl,Bool.false_eq_true,if_false]
    refine Ev.bind (Qc9 m r p hf.cm hf.cx hf.cr hf.cf hf.cp hf.cg hf.cw) ?_
    refine Ev.bind (Qdv m r p b hf.cm hf.cx hf.cr hf.cf hf.cp hf.cg hf.cw) ?_
    refine Ev.bind (Qb2 m r p hf.cm hf.cx hf.cr hf.cf hf.cp hf.cg hf.cw) ?_
    simp only [if_true]
    by_cases h:checkV m r p=0
    · simp only [if_pos h]
      rw [show areasO m r p=outA m r p by unfold areasO;rw [if_pos h]]
      exact Qd6 hf h b p.length 0 (by omega)
    · simp only [if_neg h]
      rw [show areasO m r p=[] by unfold areasO;rw [if_neg h],show whereO m r p b=([],checkV m r p) by unfold whereO;rw [if_neg h]]
      simp only [if_true,Q22.f,Option.bind_some,List.length_nil]
      exact Ev.now _
theorem Qhr (m:List (List Pt)) (r p:List (List Int)) (hb:(1+(1+(m.map (fun l=>1+(l.map mu27).sum)).sum)+(1+(r.map (fun l=>1+(l.map (fun _=>1)).sum)).sum)+(1+(p.map (fun l=>1+(l.map (fun _=>1)).sum)).sum))+(1+1+1+1)≤1048576):S1 m+S1 r+S1 p≤1048576:=by
  have k0:=S1_s mu27 (fun y=>by unfold mu27;omega) m
  have k1:=S1_s (fun _:Int=>1) (fun _=>Nat.le_refl 1) r
  have k2:=S1_s (fun _:Int=>1) (fun _=>Nat.le_refl 1) p
  have key:∀ s1 s2 s3 t1 t2 t3:Nat,(1+(1+s1)+(1+s2)+(1+s3))+(1+1+1+1)≤1048576→t1≤s1→t2≤s2→t3≤s3→t1+t2+t3≤1048576:=by omega
  exact key _ _ _ _ _ _ hb k0 k1 k2
theorem PlanTells:Q0q.Pure:=by
  intro a0 a1 a2 b0 b1 b2 h0 h1 h2 h3 h4 h5 hb
  obtain ⟨K,hK⟩:=Qd2 (Qhr a0 a1 a2 hb) (fun x hx n hn=>wf_s ((h1.2 x hx).2 n hn)) (⟨b0,b1,b2⟩:Pt)
  exact ⟨K,hK K (Nat.le_refl _)⟩
end Go.Proofs.Ytbonkedecfjmdaa.Pure
