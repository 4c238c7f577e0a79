/- To which side one turns: what the program's function answers. -/
import Derived.Test.YtlnjbpapbifjfaaPx40
import Derived.Test.YtlnjbpapbifjfaaGA
namespace Go.Proofs.Ytlnjbpapbifjfaa.G
set_option linter.unusedVariables false
set_option linter.unusedSimpArgs false
open Go.RowKit Go.Proofs.Ytlnjbpapbifjfaa.P Go.Proofs.Ytlnjbpapbifjfaa.X Go.Proofs.Ytlnjbpapbifjfaa.WL Go.Proofs.YtlnjbpapbifjfaaW.PrintWords Go.Proofs.YtlnjbpapbifjfaaW.PrintLast Go.Proofs.YtlnjbpapbifjfaaW.PrintMore
theorem gTurn_ev (a b c : Pt) : Ev (fun k => geom_Turn.f k a.f0 a.f1 a.f2 b.f0 b.f1 b.f2 c.f0 c.f1 c.f2) (if rt a && (rt b && rt c) then side a b c else 0) := by
  unfold geom_Turn.f
  refine Ev.bind (gRight_ev [a, b, c] (by simp)) ?_
  simp only [List.all_cons, List.all_nil, Bool.and_true]
  by_cases h : (rt a && (rt b && rt c)) = true
  · simp only [if_pos h]
    simp only [Bool.and_eq_true] at h
    exact Ev.bind (f := fun _ t => some t) (gturn_ev h.1 h.2.1 h.2.2) (Ev.now _)
  · simp only [if_neg h]; exact Ev.now _
end Go.Proofs.Ytlnjbpapbifjfaa.G
