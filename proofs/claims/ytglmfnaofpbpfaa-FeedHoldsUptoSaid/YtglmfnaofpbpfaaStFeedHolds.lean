/- Written for this claim by a program of this session (a turned copy of the print): Go functions as Lean functions, and that the Go code comes to just these answers; or a statement proved out of them. No condition. -/
import Derived.Test.YtglmfnaofpbpfaaZ21
import Derived.Test.YtglmfnaofpbpfaaZ15
namespace Go.Proofs.Ytglmfnaofpbpfaa.P
open Go.RowKit Go.Proofs.YtglmfnaofpbpfaaW.PrintWords Go.Proofs.YtglmfnaofpbpfaaW.PrintLast
def lapidarylaw04_FeedHolds.Pure : Prop := ∀ (l0 : List (S48)) (a1 : Int), (l0.length ≤ maxLen ∧ ∀ x ∈ l0, ok48 x) → ((Lit.int .u16 a1).wf = true) → (1 + (l0.map mu48).sum) + 1 ≤ 1048576 → lapidarylaw04_FeedHolds.f l0 a1 = some true
end Go.Proofs.Ytglmfnaofpbpfaa.P
