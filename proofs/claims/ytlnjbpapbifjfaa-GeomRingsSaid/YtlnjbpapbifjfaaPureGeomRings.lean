/- Of any ring twice the area, and of any point whether it lies in it, is what the document says. No condition. -/
import Derived.Test.YtlnjbpapbifjfaaStGeomRings
import Derived.Test.YtlnjbpapbifjfaaGK
import Derived.Test.YtlnjbpapbifjfaaGEr
import Derived.Test.YtlnjbpapbifjfaaGIr
namespace Go.Proofs.Ytlnjbpapbifjfaa.Pure
set_option linter.unusedVariables false
set_option linter.unusedSimpArgs false
open Go.RowKit Go.Proofs.Ytlnjbpapbifjfaa.P Go.Proofs.Ytlnjbpapbifjfaa.X Go.Proofs.Ytlnjbpapbifjfaa.WL Go.Proofs.Ytlnjbpapbifjfaa.G Go.Proofs.YtlnjbpapbifjfaaW.PrintWords Go.Proofs.YtlnjbpapbifjfaaW.PrintLast Go.Proofs.YtlnjbpapbifjfaaW.PrintMore

theorem GeomRings : lapidarylaw09_GeomRings.Pure := by
  intro p0 p1 p2 l _ _ _ _
  refine Ev.rounds (g := fun k => lapidarylaw09_GeomRings.f k p0 p1 p2 l) ?_
  unfold lapidarylaw09_GeomRings.f
  by_cases h : (l.length : Int) > 60
  · simp only [if_pos h]; exact known_ev'
  · simp only [if_neg h]
    refine Ev.bind (gArea_val l (by omega)) ?_
    refine Ev.bind (rArea_val l (by omega)) ?_
    refine Ev.bind (isnum_ev _) ?_
    simp only [if_true]
    refine Ev.bind (gIn_ev ⟨p0, p1, p2⟩ l (by omega)) ?_
    refine Ev.bind (rIn_ev ⟨p0, p1, p2⟩ l (by omega)) ?_
    simp only [if_true]
    exact known_ev'

end Go.Proofs.Ytlnjbpapbifjfaa.Pure
