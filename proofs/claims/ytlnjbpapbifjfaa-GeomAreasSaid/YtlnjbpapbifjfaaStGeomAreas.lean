/- Written for this claim by a program of this session (a turned copy of the print): Go functions as Lean functions, and that the Go code comes to just these answers; or a statement proved out of them. No condition. -/
import Derived.Test.YtlnjbpapbifjfaaPx39
import Derived.Test.YtlnjbpapbifjfaaPxK
namespace Go.Proofs.Ytlnjbpapbifjfaa.P
open Go.RowKit Go.Proofs.YtlnjbpapbifjfaaW.PrintWords Go.Proofs.YtlnjbpapbifjfaaW.PrintLast
def lapidarylaw09_GeomAreas.Pure : Prop := ∀ (l0 : List (S23)) (a1 : Int), (l0.length ≤ maxLen ∧ ∀ x ∈ l0, ok23 x) → ((Lit.int .u8 a1).wf = true) → ∃ k, lapidarylaw09_GeomAreas.f k l0 a1 = some true
end Go.Proofs.Ytlnjbpapbifjfaa.P
