/- Chunk by chunk it is told what the chapter says. No condition. -/
import Derived.Test.YtglmfnaofpbpfaaStFeedSteps
namespace Go.Proofs.Ytglmfnaofpbpfaa.Pure
set_option linter.unusedVariables false
open Go.RowKit Go.Proofs.Ytglmfnaofpbpfaa.P Go.Proofs.YtglmfnaofpbpfaaW.PrintWords Go.Proofs.YtglmfnaofpbpfaaW.PrintLast

theorem wf_bytes (l : List Int) (h : ∀ x ∈ l, (fun n => (Lit.int .u8 n).wf = true) x) : ∀ x ∈ l, 0 ≤ x ∧ x ≤ 255 := fun c hc => by simpa [Lit.wf, IntKind.min, IntKind.max, IntKind.signed, IntKind.bits] using h c hc
theorem FeedSteps : lapidarylaw04_FeedSteps.Pure := by
  intro l0 l1 h0 h1
  unfold lapidarylaw04_FeedSteps.f
  rw [if_pos ⟨wf_bytes l0 h0.2, wf_bytes l1 h1.2⟩]
end Go.Proofs.Ytglmfnaofpbpfaa.Pure
