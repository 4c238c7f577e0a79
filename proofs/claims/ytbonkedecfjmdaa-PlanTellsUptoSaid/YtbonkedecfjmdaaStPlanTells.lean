/- Written for this claim by a program of this session (a turned copy of the print): Go functions as Lean functions, and that the Go code comes to just these answers; or a statement proved out of them. No condition. -/
import Derived.Test.YtbonkedecfjmdaaZ31
namespace Go.Proofs.Ytbonkedecfjmdaa.P
open Go.RowKit Go.Proofs.YtbonkedecfjmdaaW.PrintWords Go.Proofs.YtbonkedecfjmdaaW.PrintLast
def Q0q.Pure:Prop:=∀ (l0_0:List (List (S27))) (l0_1:List (List Int)) (l0_2:List (List Int)) (a1_0:Int) (a1_1:Int) (a1_2:Int),(l0_0.length≤maxLen∧∀ x∈l0_0,(fun l=>l.length≤maxLen∧∀ x∈l,ok27 x) x)→(l0_1.length≤maxLen∧∀ x∈l0_1,(fun l=>l.length≤maxLen∧∀ x∈l,(fun n=>(Lit.int .i64 n).wf=true) x) x)→(l0_2.length≤maxLen∧∀ x∈l0_2,(fun l=>l.length≤maxLen∧∀ x∈l,(fun n=>(Lit.int .i64 n).wf=true) x) x)→((Lit.int .i64 a1_0).wf=true)→((Lit.int .i64 a1_1).wf=true)→((Lit.int .i64 a1_2).wf=true)→(1+(1+(l0_0.map (fun l=>1+(l.map mu27).sum)).sum)+(1+(l0_1.map (fun l=>1+(l.map (fun _=>1)).sum)).sum)+(1+(l0_2.map (fun l=>1+(l.map (fun _=>1)).sum)).sum))+(1+1+1+1)≤1048576→∃ k,Q0q.f k l0_0 l0_1 l0_2 a1_0 a1_1 a1_2=some true
end Go.Proofs.Ytbonkedecfjmdaa.P
