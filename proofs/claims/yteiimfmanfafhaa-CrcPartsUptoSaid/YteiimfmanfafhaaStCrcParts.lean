/- Written for this claim by a program of this session (a turned copy of the print): Go functions as Lean functions, and that the Go code comes to just these answers; or a statement proved out of them. No condition. -/
import Derived.Test.YteiimfmanfafhaaPx20
import Derived.Test.YteiimfmanfafhaaPxK
namespace Go.Proofs.Yteiimfmanfafhaa.P
open Go.RowKit Go.Proofs.YteiimfmanfafhaaW.PrintWords Go.Proofs.YteiimfmanfafhaaW.PrintLast
def lapidarylaw02_CrcParts.Pure : Prop := ∀ (l0 : List (List Int)), (l0.length ≤ maxLen ∧ ∀ x ∈ l0, (fun l => l.length ≤ maxLen ∧ ∀ x ∈ l, (fun n => (Lit.int .u8 n).wf = true) x) x) → (1 + (l0.map (fun l => 1 + (l.map (fun _ => 1)).sum)).sum) ≤ 1048576 → lapidarylaw02_CrcParts.f l0 = some true
end Go.Proofs.Yteiimfmanfafhaa.P
