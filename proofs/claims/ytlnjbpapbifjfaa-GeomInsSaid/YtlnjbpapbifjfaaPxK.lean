/- Written for this claim by a program of this session (a turned copy of the print): Go functions as Lean functions, and that the Go code comes to just these answers; or a statement proved out of them. No condition. -/
import Derived.Test.YtlnjbpapbifjfaaPx0
import Derived.Test.YtlnjbpapbifjfaaOpen
import Derived.KernelRfl
namespace Go.Proofs.Ytlnjbpapbifjfaa.P
open Go.RowKit Go.Proofs.Ytlnjbpapbifjfaa.O Go.Proofs.YtlnjbpapbifjfaaW.PrintWords Go.Proofs.YtlnjbpapbifjfaaW.PrintLast
instance inh23 : Inhabited S23 := ⟨z23⟩
def ok23 (x : S23) : Prop := (fun n => (Lit.int .i64 n).wf = true) x.f0 ∧ (fun n => (Lit.int .i64 n).wf = true) x.f1 ∧ (fun n => (Lit.int .i64 n).wf = true) x.f2
def mu23 (x : S23) : Nat := 1 + (fun _ => 1) x.f0 + (fun _ => 1) x.f1 + (fun _ => 1) x.f2
theorem op23 : Opens Try.prog 23 k23 ok23 mu23 :=
  opens_struct3 Try.underlying23 (by kernel_rfl) (by kernel_rfl) (opens_int Try.underlying3) (opens_int Try.underlying3) (opens_int Try.underlying3) (fun a b c => ⟨a, b, c⟩) k23 (fun w y0 y1 y2 c0 c1 c2 h0 h1 h2 => ⟨[c0], [c1, c2], rfl, h0, ⟨[c1], [c2], rfl, h1, h2⟩⟩) ok23 (fun _ _ _ a b c => ⟨a, b, c⟩) mu23 (fun _ _ _ => Nat.le_refl _)
end Go.Proofs.Ytlnjbpapbifjfaa.P
