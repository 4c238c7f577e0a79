/- Any section has the bytes that the chapter says, or none. No condition. -/
import Derived.Test.YtimdikfllbbdoaaStFrameOne
import Derived.Test.YtimdikfllbbdoaaFD
namespace Go.Proofs.Ytimdikfllbbdoaa.Pure
set_option linter.unusedVariables false
open Go.RowKit Go.Proofs.Ytimdikfllbbdoaa.P Go.Proofs.Ytimdikfllbbdoaa.C Go.Proofs.Ytimdikfllbbdoaa.Fv Go.Proofs.YtimdikfllbbdoaaW.PrintWords Go.Proofs.YtimdikfllbbdoaaW.PrintLast

theorem FrameOne : lapidarylaw03_FrameOne.Pure := by
  intro a b _ hb _
  have h : ∀ c ∈ b, 0 ≤ c ∧ c ≤ 255 := fun c hc => by simpa [Lit.wf, IntKind.min, IntKind.max, IntKind.signed, IntKind.bits] using hb.2 c hc
  refine Ev.rounds (g := fun k => lapidarylaw03_FrameOne.f k a b) ?_
  unfold lapidarylaw03_FrameOne.f
  by_cases h2 : (b.length : Int) > 1000
  · simp only [if_pos h2]
    exact Ev.bind known_ev (Ev.now _)
  · simp only [if_neg h2]
    refine Ev.bind (one_ev a b h (by omega)) ?_
    refine Ev.bind (rone_ev a b h (by omega)) ?_
    simp only [same_self, Option.bind_some, if_true]
    exact Ev.bind known_ev (Ev.now _)
end Go.Proofs.Ytimdikfllbbdoaa.Pure
