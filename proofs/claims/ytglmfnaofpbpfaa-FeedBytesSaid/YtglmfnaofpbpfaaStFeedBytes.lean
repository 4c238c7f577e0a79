/- Written for this claim by a program of this session (a turned copy of the print): Go functions as Lean functions, and that the Go code comes to just these answers; or a statement proved out of them. No condition. -/
import Derived.Test.YtglmfnaofpbpfaaZ15
namespace Go.Proofs.Ytglmfnaofpbpfaa.P
open Go.RowKit Go.Proofs.YtglmfnaofpbpfaaW.PrintWords Go.Proofs.YtglmfnaofpbpfaaW.PrintLast
def lapidarylaw04_FeedBytes.Pure : Prop := ∀ (l0 : List Int), (l0.length ≤ maxLen ∧ ∀ x ∈ l0, (fun n => (Lit.int .u8 n).wf = true) x) → lapidarylaw04_FeedBytes.f l0 = some true
end Go.Proofs.Ytglmfnaofpbpfaa.P
