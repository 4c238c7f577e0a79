/- Byte by byte it is told of any bytes what is told of them at once. No condition. -/
import Derived.Test.YtglmfnaofpbpfaaStFeedBytes
namespace Go.Proofs.Ytglmfnaofpbpfaa.Pure
set_option linter.unusedVariables false
open Go.RowKit Go.Proofs.Ytglmfnaofpbpfaa.P Go.Proofs.YtglmfnaofpbpfaaW.PrintWords Go.Proofs.YtglmfnaofpbpfaaW.PrintLast

theorem wf_bytes (l : List Int) (h : ∀ x ∈ l, (fun n => (Lit.int .u8 n).wf = true) x) : ∀ x ∈ l, 0 ≤ x ∧ x ≤ 255 := fun c hc => by simpa [Lit.wf, IntKind.min, IntKind.max, IntKind.signed, IntKind.bits] using h c hc
theorem FeedBytes : lapidarylaw04_FeedBytes.Pure := by
  intro l0 h0
  unfold lapidarylaw04_FeedBytes.f
  rw [if_pos (wf_bytes l0 h0.2)]
end Go.Proofs.Ytglmfnaofpbpfaa.Pure
