/- Written for this claim by a program of this session (a turned copy of the print): Go functions as Lean functions, and that the Go code comes to just these answers; or a statement proved out of them. No condition. -/
import Derived.Test.YtfbkjgedaadlmaaPx18
import Derived.Test.YtfbkjgedaadlmaaPxK
namespace Go.Proofs.Ytfbkjgedaadlmaa.P
open Go.RowKit Go.Proofs.YtfbkjgedaadlmaaW.PrintWords Go.Proofs.YtfbkjgedaadlmaaW.PrintLast
def lapidarylaw16_RingTurns.Pure : Prop := ∀ (l0_0 : List (List (S42))) (l0_1 : List (List Int)) (l0_2 : List (List Int)) (l1 : List Int) (a2 : Int), (l0_0.length ≤ maxLen ∧ ∀ x ∈ l0_0, (fun l => l.length ≤ maxLen ∧ ∀ x ∈ l, ok42 x) x) → (l0_1.length ≤ maxLen ∧ ∀ x ∈ l0_1, (fun l => l.length ≤ maxLen ∧ ∀ x ∈ l, (fun n => (Lit.int .i64 n).wf = true) x) x) → (l0_2.length ≤ maxLen ∧ ∀ x ∈ l0_2, (fun l => l.length ≤ maxLen ∧ ∀ x ∈ l, (fun n => (Lit.int .i64 n).wf = true) x) x) → (l1.length ≤ maxLen ∧ ∀ x ∈ l1, (fun n => (Lit.int .i64 n).wf = true) x) → ((Lit.int .u8 a2).wf = true) → (1 + (1 + (l0_0.map (fun l => 1 + (l.map mu42).sum)).sum) + (1 + (l0_1.map (fun l => 1 + (l.map (fun _ => 1)).sum)).sum) + (1 + (l0_2.map (fun l => 1 + (l.map (fun _ => 1)).sum)).sum)) + (1 + (l1.map (fun _ => 1)).sum) + 1 ≤ 1048576 → ∃ k, lapidarylaw16_RingTurns.f k l0_0 l0_1 l0_2 l1 a2 = some true
end Go.Proofs.Ytfbkjgedaadlmaa.P
