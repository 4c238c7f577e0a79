/- Written for this claim by a program of this session (a turned copy of the print): Go functions as Lean functions, and that the Go code comes to just these answers; or a statement proved out of them. No condition. -/
import Derived.Test.YtimdikfllbbdoaaPx35
import Derived.Test.YtimdikfllbbdoaaPxK
namespace Go.Proofs.Ytimdikfllbbdoaa.P
open Go.RowKit Go.Proofs.YtimdikfllbbdoaaW.PrintWords Go.Proofs.YtimdikfllbbdoaaW.PrintLast
def lapidarylaw03_FrameOne.Pure : Prop := ∀ (a0_0 : Int) (l0_1 : List Int), ((Lit.int .i64 a0_0).wf = true) → (l0_1.length ≤ maxLen ∧ ∀ x ∈ l0_1, (fun n => (Lit.int .u8 n).wf = true) x) → (1 + 1 + (1 + (l0_1.map (fun _ => 1)).sum)) ≤ 1048576 → ∃ k, lapidarylaw03_FrameOne.f k a0_0 l0_1 = some true
end Go.Proofs.Ytimdikfllbbdoaa.P
