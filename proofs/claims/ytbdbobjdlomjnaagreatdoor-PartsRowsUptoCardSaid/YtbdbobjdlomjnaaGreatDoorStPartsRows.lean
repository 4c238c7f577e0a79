/- Written for this claim by a program of this session (a turned copy of the print): Go functions as Lean functions, and that the Go code comes to just these answers; or a statement proved out of them. No condition. -/
import Derived.Test.YtbdbobjdlomjnaaGreatDoorZ25
import Derived.Test.YtbdbobjdlomjnaaGreatDoorZ26
namespace Go.Proofs.YtbdbobjdlomjnaaGreatDoor.P
open Go.RowKit Go.Proofs.YtbdbobjdlomjnaaGreatDoorW.PrintWords Go.Proofs.YtbdbobjdlomjnaaGreatDoorW.PrintLast
def lw_PartsRows.Pure : Prop := ∀ (l0 : List (List Int)) (l1 : List Int) (a2 : Int), (l0.length ≤ maxLen ∧ ∀ x ∈ l0, (fun l => l.length ≤ maxLen ∧ ∀ x ∈ l, (fun n => (Lit.int .u8 n).wf = true) x) x) → (l1.length ≤ maxLen ∧ ∀ x ∈ l1, (fun n => (Lit.int .u8 n).wf = true) x) → ((Lit.int .i64 a2).wf = true) → (1 + (l0.map (fun l => 1 + (l.map (fun _ => 1)).sum)).sum) + (1 + (l1.map (fun _ => 1)).sum) + 1 ≤ 1048576 → ∃ k, lw_PartsRows.f k l0 l1 a2 = some true
end Go.Proofs.YtbdbobjdlomjnaaGreatDoor.P
