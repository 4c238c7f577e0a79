/- Written for this claim by a program of this session (a turned copy of the print): Go functions as Lean functions, and that the Go code comes to just these answers; or a statement proved out of them. No condition. -/
import Derived.Test.YteiimfmanfafhaaPx9
import Derived.Test.YteiimfmanfafhaaPxK
namespace Go.Proofs.Yteiimfmanfafhaa.P
open Go.RowKit Go.Proofs.YteiimfmanfafhaaW.PrintWords Go.Proofs.YteiimfmanfafhaaW.PrintLast
def lapidarylaw02_CrcLinear.Pure : Prop := ∀ (l0 : List Int) (l1 : List Int) (l2 : List Int), (l0.length ≤ maxLen ∧ ∀ x ∈ l0, (fun n => (Lit.int .u8 n).wf = true) x) → (l1.length ≤ maxLen ∧ ∀ x ∈ l1, (fun n => (Lit.int .u8 n).wf = true) x) → (l2.length ≤ maxLen ∧ ∀ x ∈ l2, (fun n => (Lit.int .u8 n).wf = true) x) → lapidarylaw02_CrcLinear.f l0 l1 l2 = some true
end Go.Proofs.Yteiimfmanfafhaa.P
