/- Written for this claim by a program of this session (a turned copy of the print): Go functions as Lean functions, and that the Go code comes to just these answers; or a statement proved out of them. No condition. -/
import Derived.Test.YtglmfnaofpbpfaaZ19
import Derived.Test.YtglmfnaofpbpfaaZ15
namespace Go.Proofs.Ytglmfnaofpbpfaa.P
open Go.RowKit Go.Proofs.YtglmfnaofpbpfaaW.PrintWords Go.Proofs.YtglmfnaofpbpfaaW.PrintLast
def lapidarylaw04_FeedWhole.Pure : Prop := ∀ (l0 : List Int) (l1 : List Int), (l0.length ≤ maxLen ∧ ∀ x ∈ l0, (fun n => (Lit.int .u8 n).wf = true) x) → (l1.length ≤ maxLen ∧ ∀ x ∈ l1, (fun n => (Lit.int .u8 n).wf = true) x) → lapidarylaw04_FeedWhole.f l0 l1 = some true
end Go.Proofs.Ytglmfnaofpbpfaa.P
