/- In whatever chunks bytes come, what is told at the end is what is told of them at once. No condition. -/
import Derived.Test.YtglmfnaofpbpfaaStFeedWhole
namespace Go.Proofs.Ytglmfnaofpbpfaa.Pure
set_option linter.unusedVariables false
open Go.RowKit Go.Proofs.Ytglmfnaofpbpfaa.P Go.Proofs.YtglmfnaofpbpfaaW.PrintWords Go.Proofs.YtglmfnaofpbpfaaW.PrintLast

theorem wf_bytes (l : List Int) (h : ∀ x ∈ l, (fun n => (Lit.int .u8 n).wf = true) x) : ∀ x ∈ l, 0 ≤ x ∧ x ≤ 255 := fun c hc => by simpa [Lit.wf, IntKind.min, IntKind.max, IntKind.signed, IntKind.bits] using h c hc
theorem FeedWhole : lapidarylaw04_FeedWhole.Pure := by
  intro l0 l1 h0 h1
  unfold lapidarylaw04_FeedWhole.f
  rw [if_pos ⟨wf_bytes l0 h0.2, wf_bytes l1 h1.2⟩]
end Go.Proofs.Ytglmfnaofpbpfaa.Pure
