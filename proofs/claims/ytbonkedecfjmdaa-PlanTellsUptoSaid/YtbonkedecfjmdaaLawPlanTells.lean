/- Written for this claim by a program of this session (a turned copy of the print): Go functions as Lean functions, and that the Go code comes to just these answers; or a statement proved out of them. No condition. -/
import Derived.Test.YtbonkedecfjmdaaRows
import Derived.Test.YtbonkedecfjmdaaStPlanTells
import Derived.Test.YtbonkedecfjmdaaPurePlanTells
import Derived.WalkKit
import Derived.ProofKit
import Derived.OpenShut
import Derived.ShutString
import Derived.ChangeOld
import Derived.Below
import Derived.SizedLaws
import Derived.JoinedCond
namespace Go.Proofs.Ytbonkedecfjmdaa.planTells
open Go.ChangeShapes Go.WideShapes Go.ChangeAt Go.RowKit Go.Proofs.Ytbonkedecfjmdaa.O Go.Proofs.Ytbonkedecfjmdaa.P Go.Proofs.YtbonkedecfjmdaaW.PrintWords
set_option linter.unusedVariables false
set_option linter.unusedSimpArgs false
theorem own:ownKnob Try.prog.godebug=none:=by kernel_rfl
theorem laidOut:laidOutB Try.prog=true:=by kernel_rfl
set_option maxRecDepth 100000 in
theorem contract (H:Type) (enc:TypeId×Value→H) (W:World) (args:Array Value) (ds gs:List (DataW H)) (before:List MemPlace) (base:Nat)
    (hval0:∀ (j:Nat) t v,Try.f5.params[j]? = some t→args[j]? = some v→Value.okWide Try.prog W .any base t v)
    (hW:DataW.Whole enc Try.prog Try.f5.params.toList Rows.planTellsSpec.vars false W args.toList ds gs before) (hk:Rows.uptoSmall H (ds++gs)=true) :
    Calls Try.prog 5 args W fun e W'=>∃ v,e=.returned v∧Rows.planTellsSpec.post enc Try.prog Try.f5 false true false false W args v W':=by
  have hval:∀ (j:Nat) t v,Try.f5.params[j]? = some t→args[j]? = some v→Value.okWide Try.prog W .any base t v:=hval0
  have hW':=hW
  obtain ⟨p,q,hA0,hV,rfl,hfz,hnd⟩:=hW
  have hA:DataW.TrodAll enc Try.prog W 0 (fun _=>true) true Try.f5.params.toList args.toList ds p:=hA0
  rw [Try.params5] at hA hval
  obtain ⟨v0,vs0,d0,ds0,p0,q0,hargs,rfl,rfl,h0,r0⟩:=trodAll_cons hA
  obtain ⟨v1,vs1,d1,ds1,p1,q1,rfl,rfl,rfl,h1,r1⟩:=trodAll_cons r0
  obtain ⟨rfl,rfl,rfl⟩:=trodAll_nil r1
  obtain rfl:args=#[v0,v1]:=by cases args;simp_all
  obtain ⟨rfl,rfl⟩:=trodVars_none hV
  clear hA0 hval0
  have hbulk:Rows.uptoBulkAll [d0,d1]≤1048576:=by have:=of_decide_eq_true hk;simpa using this
  simp only [Rows.uptoBulkAll] at hbulk
  clear hk
  have k0:=h0
  have lt0:∀ x∈p0,x.block<W.heap.size:=by obtain ⟨m,hm⟩:=k0;exact DataW.trod_lt m _ _ _ hm
  obtain ⟨y0,K0,o0,m0⟩:∃ y,k25.K W y v0.cells.toList∧ok25 y∧mu25 y≤Rows.uptoBulk d0:=by obtain ⟨fuel,hf⟩:=h0;exact op25 H enc W fuel _ _ hf
  obtain ⟨cs0,rfl,hsz0⟩:=okWide_struct Try.underlying25 (hval 0 25 v0 rfl rfl)
  obtain ⟨p0_0,q0_0,e0_0,K0_0,R0_0⟩:=K0
  obtain ⟨p0_1,q0_1,e0_1,K0_1,R0_1⟩:=R0_0
  obtain ⟨A0_0,c0_0,f0_0,hc0_0,hr0_0⟩:=K0_0
  obtain ⟨A0_1,c0_1,f0_1,hc0_1,hr0_1⟩:=K0_1
  obtain ⟨A0_2,c0_2,f0_2,hc0_2,hr0_2⟩:=R0_1
  obtain ⟨cl0⟩:=cs0
  have g0:cl0=[.slice A0_0 y0.f0.length c0_0,.slice A0_1 y0.f1.length c0_1,.slice A0_2 y0.f2.length c0_2]:=by
    have e:cl0=p0_0++q0_0:=by simpa [Value.cells] using e0_0
    simp_all
  subst g0
  have k1:=h1
  have lt1:∀ x∈p1,x.block<W.heap.size:=by obtain ⟨m,hm⟩:=k1;exact DataW.trod_lt m _ _ _ hm
  obtain ⟨y1,K1,o1,m1⟩:∃ y,k27.K W y v1.cells.toList∧ok27 y∧mu27 y≤Rows.uptoBulk d1:=by obtain ⟨fuel,hf⟩:=h1;exact op27 H enc W fuel _ _ hf
  obtain ⟨cs1,rfl,hsz1⟩:=okWide_struct Try.underlying27 (hval 1 27 v1 rfl rfl)
  obtain ⟨p1_0,q1_0,e1_0,K1_0,R1_0⟩:=K1
  obtain ⟨p1_1,q1_1,e1_1,K1_1,R1_1⟩:=R1_0
  have f1_0:p1_0=[.int .i64 y1.f0]:=K1_0
  have f1_1:p1_1=[.int .i64 y1.f1]:=K1_1
  have f1_2:q1_1=[.int .i64 y1.f2]:=R1_1
  obtain ⟨cl1⟩:=cs1
  have g1:cl1=[.int .i64 y1.f0,.int .i64 y1.f1,.int .i64 y1.f2]:=by
    have e:cl1=p1_0++q1_0:=by simpa [Value.cells] using e1_0
    simp_all
  subst g1
  have m0':1+(1+(y0.f0.map (fun l=>1+(l.map mu27).sum)).sum)+(1+(y0.f1.map (fun l=>1+(l.map (fun _=>1)).sum)).sum)+(1+(y0.f2.map (fun l=>1+(l.map (fun _=>1)).sum)).sum)≤Rows.uptoBulk d0:=by have:=m0;unfold mu25 at this;simp only [Nat.add_assoc] at this ⊢;exact this
  have m1':1+1+1+1≤Rows.uptoBulk d1:=by have:=m1;unfold mu27 at this;simp only [Nat.add_assoc] at this ⊢;exact this
  obtain ⟨k,hk_⟩:=Pure.PlanTells y0.f0 y0.f1 y0.f2 y1.f0 y1.f1 y1.f2 o0.1 o0.2.1 o0.2.2 o1.1 o1.2.1 o1.2.2 (by have:=hbulk;have:=Q6k d0;have:=Q6k d1;omega)
  refine (P.Q0q.calls k _ _ _ _ _ _ _ _ _ _ _ _ true W hr0_0 hc0_0 hr0_1 hc0_1 hr0_2 hc0_2 hk_).mono fun e W' ⟨he,bel0⟩ => ?_
  have bel:Below W.heap.size W W':=bel0
  subst he
  exact ⟨_,rfl,_,_,_,[],_,[],hW',trodAll_mk1 (shut_bool Try.underlying4 _),(trodAll_cons_mk (Below.trod laidOut (by kernel_rfl) (of_decide_eq_true (by kernel_rfl)) k0 bel lt0) (trodAll_cons_mk (Below.trod laidOut (by kernel_rfl) (of_decide_eq_true (by kernel_rfl)) k1 bel lt1) trodAll_mk0)),rfl,bel.frame _,fun h=>by cases h⟩
set_option maxRecDepth 100000 in
theorem lifted (os:Os) (started:os.Started) (H:Type) (enc:TypeId×Value→H) (F:Stop.Interp) :
    ReturnsInHanded {} Try.checked os 5 .any ((Rows.OpenSpec.upto Rows.planTellsSpec).pre6 enc Try.prog Try.f5 Rows.planTellsUptoRow.domain false) (((Rows.OpenSpec.upto Rows.planTellsSpec).at F).post enc Try.prog Try.f5 false true false false):=by
  refine returnsInHanded_of_cond (C:=Try.checked) (s:=Rows.OpenSpec.upto Rows.planTellsSpec) (k:=Rows.uptoSmall) rfl own started (by kernel_rfl) Try.func5
    (OpenSpec.witness (enc:=enc) (C:=Try.checked) (s:=Rows.OpenSpec.upto Rows.planTellsSpec) (k:=Rows.uptoSmall) rfl false ⟨#[],#[.agg #[.slice none 0 0,.slice none 0 0,.slice none 0 0],.agg #[.int .i64 0,.int .i64 0,.int .i64 0]],[]⟩ 8 (by kernel_rfl) (by kernel_rfl) (by kernel_rfl)
      (x:=([.agg [.nil,.nil,.nil],.agg [.lit (.int .i64 0),.lit (.int .i64 0),.lit (.int .i64 0)]],[],[])) (by kernel_rfl) rfl (by kernel_rfl)) ?_
  intro W base args ds gs before hval hW _ hk _
  exact contract H enc W args ds gs before base hval hW hk
theorem proved:Rows.PlanTellsUptoSaid :=
  OpenClaim.holds_of_cond 5 Try.f5 rfl rfl rfl rfl rfl rfl rfl ⟨rfl,rfl,rfl,rfl,rfl⟩ rfl rfl rfl rfl rfl (by kernel_rfl) Try.func5 (by kernel_rfl)
    (of_decide_eq_true (by kernel_rfl)) (by unfold Func.isWrapper;first|(rw [if_pos (by decide +kernel)];kernel_rfl)|(rw [if_neg (by decide +kernel)];exact ⟨rfl,rfl⟩))
    (fun os started H enc _ F=>lifted os started H enc F)
#print axioms proved
end Go.Proofs.Ytbonkedecfjmdaa.planTells
namespace Go.Proofs.Ytbonkedecfjmdaa
/-- The row, under a short name, for the claim. -/
theorem planTellsUpto_holds:Rows.PlanTellsUptoSaid:=planTells.proved
end Go.Proofs.Ytbonkedecfjmdaa
