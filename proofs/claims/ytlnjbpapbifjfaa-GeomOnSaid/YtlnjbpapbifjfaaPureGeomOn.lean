/- Of any three points whether one lies between the others is what the document says, from either side. No condition. -/
import Derived.Test.YtlnjbpapbifjfaaStGeomOn
import Derived.Test.YtlnjbpapbifjfaaGK
import Derived.Test.YtlnjbpapbifjfaaGAr
namespace Go.Proofs.Ytlnjbpapbifjfaa.Pure
set_option linter.unusedVariables false
set_option linter.unusedSimpArgs false
open Go.RowKit Go.Proofs.Ytlnjbpapbifjfaa.P Go.Proofs.Ytlnjbpapbifjfaa.X Go.Proofs.Ytlnjbpapbifjfaa.WL Go.Proofs.Ytlnjbpapbifjfaa.G Go.Proofs.YtlnjbpapbifjfaaW.PrintWords Go.Proofs.YtlnjbpapbifjfaaW.PrintLast Go.Proofs.YtlnjbpapbifjfaaW.PrintMore

theorem GeomOn : lapidarylaw09_GeomOn.Pure := by
  intro p0 p1 p2 a0 a1 a2 b0 b1 b2 _ _ _ _ _ _ _ _ _
  refine Ev.rounds (g := fun k => lapidarylaw09_GeomOn.f k p0 p1 p2 a0 a1 a2 b0 b1 b2) ?_
  have h1 := gOn_ev ⟨p0, p1, p2⟩ ⟨a0, a1, a2⟩ ⟨b0, b1, b2⟩
  have h2 := rOn_ev ⟨p0, p1, p2⟩ ⟨a0, a1, a2⟩ ⟨b0, b1, b2⟩
  have h3 := gOn_ev ⟨p0, p1, p2⟩ ⟨b0, b1, b2⟩ ⟨a0, a1, a2⟩
  rw [onB_swap] at h3
  unfold lapidarylaw09_GeomOn.f
  refine Ev.bind h1 ?_
  refine Ev.bind h2 ?_
  simp only [beq_self_eq_true, if_true]
  refine Ev.bind h3 ?_
  simp only [beq_self_eq_true, if_true]
  exact known_ev'

end Go.Proofs.Ytlnjbpapbifjfaa.Pure
