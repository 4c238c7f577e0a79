/- Written for this claim by a program of this session (a turned copy of the print): Go functions as Lean functions, and that the Go code comes to just these answers; or a statement proved out of them. No condition. -/
import Derived.Test.YtlnjbpapbifjfaaPx47
import Derived.Test.YtlnjbpapbifjfaaPxK
namespace Go.Proofs.Ytlnjbpapbifjfaa.P
open Go.RowKit Go.Proofs.YtlnjbpapbifjfaaW.PrintWords Go.Proofs.YtlnjbpapbifjfaaW.PrintLast
def lapidarylaw09_GeomIns.Pure : Prop := ∀ (a0_0 : Int) (a0_1 : Int) (a0_2 : Int) (l1 : List (S23)) (a2 : Int), ((Lit.int .i64 a0_0).wf = true) → ((Lit.int .i64 a0_1).wf = true) → ((Lit.int .i64 a0_2).wf = true) → (l1.length ≤ maxLen ∧ ∀ x ∈ l1, ok23 x) → ((Lit.int .u8 a2).wf = true) → ∃ k, lapidarylaw09_GeomIns.f k a0_0 a0_1 a0_2 l1 a2 = some true
end Go.Proofs.Ytlnjbpapbifjfaa.P
