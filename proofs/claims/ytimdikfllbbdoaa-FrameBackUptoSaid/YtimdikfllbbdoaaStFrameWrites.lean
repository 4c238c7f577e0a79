/- Written for this claim by a program of this session (a turned copy of the print): Go functions as Lean functions, and that the Go code comes to just these answers; or a statement proved out of them. No condition. -/
import Derived.Test.YtimdikfllbbdoaaPx26
import Derived.Test.YtimdikfllbbdoaaPxK
namespace Go.Proofs.Ytimdikfllbbdoaa.P
open Go.RowKit Go.Proofs.YtimdikfllbbdoaaW.PrintWords Go.Proofs.YtimdikfllbbdoaaW.PrintLast
def lapidarylaw03_FrameWrites.Pure : Prop := ∀ (l0 : List (S33)), (l0.length ≤ maxLen ∧ ∀ x ∈ l0, ok33 x) → (1 + (l0.map mu33).sum) ≤ 1048576 → ∃ k, lapidarylaw03_FrameWrites.f k l0 = some true
end Go.Proofs.Ytimdikfllbbdoaa.P
