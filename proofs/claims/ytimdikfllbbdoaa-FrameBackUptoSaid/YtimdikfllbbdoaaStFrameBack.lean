/- Written for this claim by a program of this session (a turned copy of the print): Go functions as Lean functions, and that the Go code comes to just these answers; or a statement proved out of them. No condition. -/
import Derived.Test.YtimdikfllbbdoaaPx34
import Derived.Test.YtimdikfllbbdoaaPxK
namespace Go.Proofs.Ytimdikfllbbdoaa.P
open Go.RowKit Go.Proofs.YtimdikfllbbdoaaW.PrintWords Go.Proofs.YtimdikfllbbdoaaW.PrintLast
def lapidarylaw03_FrameBack.Pure : Prop := ∀ (l0 : List (S33)) (l1 : List Int) (a2 : Int) (a3 : Int), (l0.length ≤ maxLen ∧ ∀ x ∈ l0, ok33 x) → (l1.length ≤ maxLen ∧ ∀ x ∈ l1, (fun n => (Lit.int .u8 n).wf = true) x) → ((Lit.int .u16 a2).wf = true) → ((Lit.int .u8 a3).wf = true) → (1 + (l0.map mu33).sum) + (1 + (l1.map (fun _ => 1)).sum) + 1 + 1 ≤ 1048576 → ∃ k, lapidarylaw03_FrameBack.f k l0 l1 a2 a3 = some true
end Go.Proofs.Ytimdikfllbbdoaa.P
