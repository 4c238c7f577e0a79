/- Any bytes are what they are sealed of, as the document says, or not. No condition. -/
import Derived.Test.YteiimfmanfafhaaPx14
import Derived.Test.YteiimfmanfafhaaCG
namespace Go.Proofs.Yteiimfmanfafhaa.Pure
set_option linter.unusedVariables false
open Go.RowKit Go.Proofs.Yteiimfmanfafhaa.P Go.Proofs.Yteiimfmanfafhaa.C Go.Proofs.YteiimfmanfafhaaW.PrintWords Go.Proofs.YteiimfmanfafhaaW.PrintLast

theorem CrcChecks : lapidarylaw02_CrcChecks.Pure := by
  intro b _ hl hw
  have h : ∀ c ∈ b, 0 ≤ c ∧ c ≤ 255 := fun c hc => by simpa [Lit.wf, IntKind.min, IntKind.max, IntKind.signed, IntKind.bits] using hw c hc
  refine Ev.rounds (g := fun k => lapidarylaw02_CrcChecks.f k b) ?_
  unfold lapidarylaw02_CrcChecks.f lapidarylaw02_known.f
  by_cases h2 : (b.length : Int) > 2000
  · simp only [if_pos h2, Option.bind_some]
    exact Ev.now _
  · simp only [if_neg h2]
    refine Ev.bind (check_ev b h (by omega)) ?_
    refine Ev.bind (rcheck_ev b h (by omega)) ?_
    rw [same_self]
    simp only [Option.bind_some, if_true]
    exact Ev.now _
end Go.Proofs.Yteiimfmanfafhaa.Pure
