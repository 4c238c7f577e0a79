/- Of three rows of as many bytes the checksum of their xor is the xor of their checksums. No condition. -/
import Derived.Test.YteiimfmanfafhaaStCrcLinear
namespace Go.Proofs.Yteiimfmanfafhaa.Pure
set_option linter.unusedVariables false
open Go.RowKit Go.Proofs.Yteiimfmanfafhaa.P Go.Proofs.YteiimfmanfafhaaW.PrintWords Go.Proofs.YteiimfmanfafhaaW.PrintLast

theorem CrcLinear : lapidarylaw02_CrcLinear.Pure := by
  intro a b c ha hb hc
  have w8 : ∀ x : Int, (Lit.int .u8 x).wf = true → 0 ≤ x ∧ x ≤ 255 := fun x h => by simpa [Lit.wf, IntKind.min, IntKind.max, IntKind.signed, IntKind.bits] using h
  unfold lapidarylaw02_CrcLinear.f
  rw [if_pos]
  intro x hx
  rcases List.mem_append.1 hx with hx | hx
  · rcases List.mem_append.1 hx with hx | hx
    · exact w8 x (ha.2 x hx)
    · exact w8 x (hb.2 x hx)
  · exact w8 x (hc.2 x hx)
end Go.Proofs.Yteiimfmanfafhaa.Pure
