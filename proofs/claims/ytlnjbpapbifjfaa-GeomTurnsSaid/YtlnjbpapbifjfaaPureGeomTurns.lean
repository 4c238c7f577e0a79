/- Of any three points to which side one turns, whether one lies between the others, and whether they are points of the plane, is what the document says. No condition. -/
import Derived.Test.YtlnjbpapbifjfaaStGeomTurns
import Derived.Test.YtlnjbpapbifjfaaGK
import Derived.Test.YtlnjbpapbifjfaaGT
import Derived.Test.YtlnjbpapbifjfaaGAr
namespace Go.Proofs.Ytlnjbpapbifjfaa.Pure
set_option linter.unusedVariables false
set_option linter.unusedSimpArgs false
open Go.RowKit Go.Proofs.Ytlnjbpapbifjfaa.P Go.Proofs.Ytlnjbpapbifjfaa.X Go.Proofs.Ytlnjbpapbifjfaa.WL Go.Proofs.Ytlnjbpapbifjfaa.G Go.Proofs.YtlnjbpapbifjfaaW.PrintWords Go.Proofs.YtlnjbpapbifjfaaW.PrintLast Go.Proofs.YtlnjbpapbifjfaaW.PrintMore

theorem GeomTurns : lapidarylaw09_GeomTurns.Pure := by
  intro a0 a1 a2 b0 b1 b2 c0 c1 c2 _ _ _ _ _ _ _ _ _
  refine Ev.rounds (g := fun k => lapidarylaw09_GeomTurns.f k a0 a1 a2 b0 b1 b2 c0 c1 c2) ?_
  have h1 := gTurn_ev ⟨a0, a1, a2⟩ ⟨b0, b1, b2⟩ ⟨c0, c1, c2⟩
  have h2 := rTurn_ev ⟨a0, a1, a2⟩ ⟨b0, b1, b2⟩ ⟨c0, c1, c2⟩
  have h3 := gOn_ev ⟨c0, c1, c2⟩ ⟨a0, a1, a2⟩ ⟨b0, b1, b2⟩
  have h4 := rOn_ev ⟨c0, c1, c2⟩ ⟨a0, a1, a2⟩ ⟨b0, b1, b2⟩
  have h5 := gRight_ev [⟨a0, a1, a2⟩, ⟨b0, b1, b2⟩, ⟨c0, c1, c2⟩] (by simp)
  have h6 := rRight_ev [⟨a0, a1, a2⟩, ⟨b0, b1, b2⟩, ⟨c0, c1, c2⟩] (by simp)
  unfold lapidarylaw09_GeomTurns.f
  refine Ev.bind h1 ?_
  refine Ev.bind h2 ?_
  simp only [if_true]
  refine Ev.bind h3 ?_
  refine Ev.bind h4 ?_
  simp only [beq_self_eq_true, if_true]
  refine Ev.bind h5 ?_
  refine Ev.bind h6 ?_
  simp only [beq_self_eq_true, if_true]
  exact known_ev'

end Go.Proofs.Ytlnjbpapbifjfaa.Pure
