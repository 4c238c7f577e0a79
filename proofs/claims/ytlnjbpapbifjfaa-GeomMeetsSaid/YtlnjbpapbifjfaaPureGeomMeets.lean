/- Of any two segments what they have in common is what the document says; told from either side it is the same. No condition. -/
import Derived.Test.YtlnjbpapbifjfaaStGeomMeets
import Derived.Test.YtlnjbpapbifjfaaGK
import Derived.Test.YtlnjbpapbifjfaaGN
import Derived.Test.YtlnjbpapbifjfaaGMr
namespace Go.Proofs.Ytlnjbpapbifjfaa.Pure
set_option linter.unusedVariables false
set_option linter.unusedSimpArgs false
open Go.RowKit Go.Proofs.Ytlnjbpapbifjfaa.P Go.Proofs.Ytlnjbpapbifjfaa.X Go.Proofs.Ytlnjbpapbifjfaa.WL Go.Proofs.Ytlnjbpapbifjfaa.G Go.Proofs.YtlnjbpapbifjfaaW.PrintWords Go.Proofs.YtlnjbpapbifjfaaW.PrintLast Go.Proofs.YtlnjbpapbifjfaaW.PrintMore

theorem meetV_cd (a b c d : Pt) : meetV c d a b = meetV a b c d := by
  unfold meetV
  rw [meetM_cd]
  cases rt a <;> cases rt b <;> cases rt c <;> cases rt d <;> rfl
theorem meetV_ba (a b c d : Pt) : meetV b a c d = meetV a b c d := by
  unfold meetV
  rw [meetM_ba]
  cases rt a <;> cases rt b <;> cases rt c <;> cases rt d <;> rfl
theorem meetV_dc (a b c d : Pt) : meetV a b d c = meetV a b c d := by
  unfold meetV
  rw [meetM_dc]
  cases rt a <;> cases rt b <;> cases rt c <;> cases rt d <;> rfl
theorem GeomMeets : lapidarylaw09_GeomMeets.Pure := by
  intro a0 a1 a2 b0 b1 b2 c0 c1 c2 d0 d1 d2 _ _ _ _ _ _ _ _ _ _ _ _
  refine Ev.rounds (g := fun k => lapidarylaw09_GeomMeets.f k a0 a1 a2 b0 b1 b2 c0 c1 c2 d0 d1 d2) ?_
  have h1 := gMeet_ev ⟨a0, a1, a2⟩ ⟨b0, b1, b2⟩ ⟨c0, c1, c2⟩ ⟨d0, d1, d2⟩
  have h2 := rMeet_ev ⟨a0, a1, a2⟩ ⟨b0, b1, b2⟩ ⟨c0, c1, c2⟩ ⟨d0, d1, d2⟩
  have h3 := gMeet_ev ⟨c0, c1, c2⟩ ⟨d0, d1, d2⟩ ⟨a0, a1, a2⟩ ⟨b0, b1, b2⟩
  have h4 := gMeet_ev ⟨b0, b1, b2⟩ ⟨a0, a1, a2⟩ ⟨c0, c1, c2⟩ ⟨d0, d1, d2⟩
  have h5 := gMeet_ev ⟨a0, a1, a2⟩ ⟨b0, b1, b2⟩ ⟨d0, d1, d2⟩ ⟨c0, c1, c2⟩
  rw [meetV_cd] at h3
  rw [meetV_ba] at h4
  rw [meetV_dc] at h5
  unfold lapidarylaw09_GeomMeets.f
  refine Ev.bind h1 ?_
  refine Ev.bind h2 ?_
  simp only [if_true]
  refine Ev.bind h3 ?_
  simp only [if_true]
  refine Ev.bind h4 ?_
  simp only [if_true]
  refine Ev.bind h5 ?_
  simp only [if_true]
  exact known_ev'

end Go.Proofs.Ytlnjbpapbifjfaa.Pure
