/- The polygons that hold a point are those the chapter says, where the map is of bulk at most 1048576. No condition. -/
import Derived.Test.YtbonkedecfjmdaaStPlanWheres
import Derived.Test.YtbonkedecfjmdaaZ33
namespace Go.Proofs.Ytbonkedecfjmdaa.Pure
set_option linter.unusedVariables false
set_option linter.unusedSimpArgs false
open Go.RowKit Go.Proofs.Ytbonkedecfjmdaa.P Go.Proofs.Ytbonkedecfjmdaa.G Go.Proofs.Ytbonkedecfjmdaa.Pl Go.Proofs.YtbonkedecfjmdaaW.PrintWords Go.Proofs.YtbonkedecfjmdaaW.PrintLast Go.Proofs.YtbonkedecfjmdaaW.PrintMore

theorem Qa4 {m:List (List Pt)} {r p:List (List Int)} (hf:Fine m r p) (h:checkV m r p=0) (b:Pt) (i:Nat) (hi:i<m.length) (next:Ev (fun k=>Q0l.l0 k ((i+1:Nat):Int) m r p b.f0 b.f1 b.f2) true):∀ n j:Nat,j+n=m[i].length →
    Ev (fun k=>Q0l.l1 k (i:Int) (j:Int) m r p b.f0 b.f1 b.f2) true:=by
  have hx:=hf.cx _ (List.getElem_mem hi)
  have hm:=hf.cm
  have hp:=hf.cp
  intro n
  induction n with
  | zero =>
    intro j hj
    refine Ev.step (fun k => ?_) next
    conv=>lhs;simp only [Q0l.l1]
    rw [if_pos (by omega),if_pos (by omega),Q30 m i hi,if_neg (by omega),nxt i (by omega)]
  | succ n ih =>
    intro j hj
    have hlt:j<m[i].length:=by omega
    have I:=ih (j+1) (by omega)
    have hr:=Qhk (Q5m h).1 i hi j hlt
    refine Ev.step (f:=fun k=>(Q0v.f k m r p m[i][j].f0 m[i][j].f1 m[i][j].f2).bind fun bt626=>(if bt626.2=0 then ((Q0r.f k m r p m[i][j].f0 m[i][j].f1 m[i][j].f2).bind fun t632=>((Q06.f k bt626.1 t632).bind fun t635=>(if t635=true then (Q0l.l1 k (i:Int) ((j+1:Nat):Int) m r p b.f0 b.f1 b.f2) else (none)))) else (none))) (fun k => ?_) ?_
    · conv=>lhs;simp only [Q0l.l1]
      rw [if_pos (by omega),if_pos (by omega),Q30 m i hi,if_pos (by omega),if_pos (by omega),Q6u,Q79 _ _ hlt,nxt j (by omega)]
    · refine Ev.bind (Q9x m r p m[i][j] hf.cm hf.cx hf.cr hf.cf hf.cp hf.cg hf.cw) ?_
      rw [Q8s h hr]
      simp only [if_true]
      refine Ev.bind (Q8k m r p m[i][j] hf.cw h) ?_
      refine Ev.bind (Qa9 _ (by have:=Q7y m r p m[i][j] p.length;omega)) ?_
      simp only [if_true]
      exact I
theorem Qbo {m:List (List Pt)} {r p:List (List Int)} (hf:Fine m r p) (h:checkV m r p=0) (b:Pt):∀ n i:Nat,i+n=m.length→Ev (fun k=>Q0l.l0 k (i:Int) m r p b.f0 b.f1 b.f2) true:=by
  have hm:=hf.cm
  have hp:=hf.cp
  intro n
  induction n with
  | zero =>
    intro i hi
    refine Ev.step (f:=fun k=>(Q0v.f k m r p b.f0 b.f1 b.f2).bind fun bt636=>(if bt636.2=0 then ((Q0r.f k m r p b.f0 b.f1 b.f2).bind fun t640=>((Q06.f k bt636.1 t640).bind fun t643=>(if t643=true then ((Q3i.f).bind fun t644=>(some t644)) else (none)))) else ((Q3i.f).bind fun t645=>(some t645)))) (fun k => ?_) ?_
    · conv=>lhs;simp only [Q0l.l0]
      rw [if_neg (by omega)]
    · refine Ev.bind (Q9x m r p b hf.cm hf.cx hf.cr hf.cf hf.cp hf.cg hf.cw) ?_
      by_cases hr:rt b=true
      · rw [Q8s h hr]
        simp only [if_true]
        refine Ev.bind (Q8k m r p b hf.cw h) ?_
        refine Ev.bind (Qa9 _ (by have:=Q7y m r p b p.length;omega)) ?_
        simp only [if_true,Q3i.f,Option.bind_some]
        exact Ev.now _
      · have e:whereO m r p b=([],2):=by unfold whereO;rw [if_pos h,if_neg hr]
        rw [e]
        simp only [Q3i.f,Option.bind_some]
        exact Ev.now _
  | succ n ih =>
    intro i hi
    refine Ev.step (fun k => ?_) (Qa4 hf h b i (by omega) (ih (i+1) (by omega)) (m[i]'(by omega)).length 0 (by omega))
    conv=>lhs;simp only [Q0l.l0]
    rw [if_pos (by omega)]
    rfl
theorem Qa6 {m:List (List Pt)} {r p:List (List Int)} (hS:S1 m+S1 r+S1 p≤1048576) (hwf:∀ x∈r,∀ n∈x,wf64 n) (b:Pt):Ev (fun k=>Q0l.f k m r p b.f0 b.f1 b.f2) true:=by
  have hf:=Qf9 hS hwf
  have jt:Ev (fun k=>Q0l.j0 k true m r p b.f0 b.f1 b.f2) true:=Ev.step (f:=fun _=>some true) (fun k=>by simp only [Q0l.j0,if_true,Q3i.f,Option.bind_some]) (Ev.now _)
  unfold Q0l.f
  refine Ev.bind (Qhu m r p (by omega)) ?_
  by_cases hl:S1 m+S1 r+S1 p>80
  · simp only [decide_eq_true hl,if_true]
    exact jt
  · simp only [decide_eq_false hl,Bool.false_eq_true,if_false]
    refine Ev.bind (Qcd m r p hf.cm hf.cx hf.cr hf.cf hf.cp hf.cg hf.cw) ?_
    by_cases h:checkV m r p=0
    · rw [h]
      refine Ev.step (fun k => ?_) (Qbo hf h b m.length 0 (by omega))
      simp only [Q0l.j0]
      rfl
    · rw [show (checkV m r p != 0)=true by simpa using h]
      exact jt
theorem Qgf (m:List (List Pt)) (r p:List (List Int)) (hb:(1+(1+(m.map (fun l=>1+(l.map mu27).sum)).sum)+(1+(r.map (fun l=>1+(l.map (fun _=>1)).sum)).sum)+(1+(p.map (fun l=>1+(l.map (fun _=>1)).sum)).sum))+(1+1+1+1)≤1048576):S1 m+S1 r+S1 p≤1048576:=by
  have k0:=S1_s mu27 (fun y=>by unfold mu27;omega) m
  have k1:=S1_s (fun _:Int=>1) (fun _=>Nat.le_refl 1) r
  have k2:=S1_s (fun _:Int=>1) (fun _=>Nat.le_refl 1) p
  have key:∀ s1 s2 s3 t1 t2 t3:Nat,(1+(1+s1)+(1+s2)+(1+s3))+(1+1+1+1)≤1048576→t1≤s1→t2≤s2→t3≤s3→t1+t2+t3≤1048576:=by omega
  exact key _ _ _ _ _ _ hb k0 k1 k2
theorem PlanWheres:Q0l.Pure:=by
  intro a0 a1 a2 b0 b1 b2 h0 h1 h2 h3 h4 h5 hb
  obtain ⟨K,hK⟩:=Qa6 (Qgf a0 a1 a2 hb) (fun x hx n hn=>wf_s ((h1.2 x hx).2 n hn)) (⟨b0,b1,b2⟩:Pt)
  exact ⟨K,hK K (Nat.le_refl _)⟩
end Go.Proofs.Ytbonkedecfjmdaa.Pure
