/- Written for this claim by a program of this session (a turned copy of the print): Go functions as Lean functions, and that the Go code comes to just these answers; or a statement proved out of them. No condition. -/
import Derived.Test.YtimdikfllbbdoaaPx36
import Derived.Test.YtimdikfllbbdoaaPxK
namespace Go.Proofs.Ytimdikfllbbdoaa.P
open Go.RowKit Go.Proofs.YtimdikfllbbdoaaW.PrintWords Go.Proofs.YtimdikfllbbdoaaW.PrintLast
def lapidarylaw03_FrameOrder.Pure : Prop := ∀ (a0 : Int) (a1 : Int) (l2 : List Int) (l3 : List Int), ((Lit.int .u8 a0).wf = true) → ((Lit.int .u8 a1).wf = true) → (l2.length ≤ maxLen ∧ ∀ x ∈ l2, (fun n => (Lit.int .u8 n).wf = true) x) → (l3.length ≤ maxLen ∧ ∀ x ∈ l3, (fun n => (Lit.int .u8 n).wf = true) x) → 1 + 1 + (1 + (l2.map (fun _ => 1)).sum) + (1 + (l3.map (fun _ => 1)).sum) ≤ 1048576 → lapidarylaw03_FrameOrder.f a0 a1 l2 l3 = some true
end Go.Proofs.Ytimdikfllbbdoaa.P
