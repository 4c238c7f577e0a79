/- Written for this claim by a program of this session (a turned copy of the print): Go functions as Lean functions, and that the Go code comes to just these answers; or a statement proved out of them. No condition. -/
import Derived.Test.YtimdikfllbbdoaaPx0
import Derived.Test.YtimdikfllbbdoaaOpen
import Derived.KernelRfl
namespace Go.Proofs.Ytimdikfllbbdoaa.P
open Go.RowKit Go.Proofs.Ytimdikfllbbdoaa.O Go.Proofs.YtimdikfllbbdoaaW.PrintWords Go.Proofs.YtimdikfllbbdoaaW.PrintLast
instance inh33 : Inhabited S33 := ⟨z33⟩
def ok33 (x : S33) : Prop := (fun n => (Lit.int .i64 n).wf = true) x.f0 ∧ (fun l => l.length ≤ maxLen ∧ ∀ x ∈ l, (fun n => (Lit.int .u8 n).wf = true) x) x.f1
def mu33 (x : S33) : Nat := 1 + (fun _ => 1) x.f0 + (fun l => 1 + (l.map (fun _ => 1)).sum) x.f1
theorem op33 : Opens Try.prog 33 k33 ok33 mu33 :=
  opens_struct2 Try.underlying33 (by kernel_rfl) (by kernel_rfl) (opens_int Try.underlying3) (opens_slice (e := 5) Try.underlying25 (by kernel_rfl) (opens_int Try.underlying5)) (fun a b => ⟨a, b⟩) k33 (fun w y0 y1 c0 c1 h0 h1 => ⟨[c0], [c1], rfl, h0, h1⟩) ok33 (fun _ _ a b => ⟨a, b⟩) mu33 (fun _ _ => Nat.le_refl _)
end Go.Proofs.Ytimdikfllbbdoaa.P
