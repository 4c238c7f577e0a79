/- Written for this claim by a program of this session (a turned copy of the print): Go functions as Lean functions, and that the Go code comes to just these answers; or a statement proved out of them. No condition. -/
import Derived.Test.YtfbkjgedaadlmaaPx0
import Derived.Test.YtfbkjgedaadlmaaOpen
import Derived.KernelRfl
namespace Go.Proofs.Ytfbkjgedaadlmaa.P
open Go.RowKit Go.Proofs.Ytfbkjgedaadlmaa.O Go.Proofs.YtfbkjgedaadlmaaW.PrintWords Go.Proofs.YtfbkjgedaadlmaaW.PrintLast
instance inh42 : Inhabited S42 := ⟨z42⟩
def ok42 (x : S42) : Prop := (fun n => (Lit.int .i64 n).wf = true) x.f0 ∧ (fun n => (Lit.int .i64 n).wf = true) x.f1 ∧ (fun n => (Lit.int .i64 n).wf = true) x.f2
def mu42 (x : S42) : Nat := 1 + (fun _ => 1) x.f0 + (fun _ => 1) x.f1 + (fun _ => 1) x.f2
theorem op42 : Opens Try.prog 42 k42 ok42 mu42 :=
  opens_struct3 Try.underlying42 (by kernel_rfl) (by kernel_rfl) (opens_int Try.underlying3) (opens_int Try.underlying3) (opens_int Try.underlying3) (fun a b c => ⟨a, b, c⟩) k42 (fun w y0 y1 y2 c0 c1 c2 h0 h1 h2 => ⟨[c0], [c1, c2], rfl, h0, ⟨[c1], [c2], rfl, h1, h2⟩⟩) ok42 (fun _ _ _ a b c => ⟨a, b, c⟩) mu42 (fun _ _ _ => Nat.le_refl _)
instance inh25 : Inhabited S25 := ⟨z25⟩
def ok25 (x : S25) : Prop := (fun l => l.length ≤ maxLen ∧ ∀ x ∈ l, (fun l => l.length ≤ maxLen ∧ ∀ x ∈ l, ok42 x) x) x.f0 ∧ (fun l => l.length ≤ maxLen ∧ ∀ x ∈ l, (fun l => l.length ≤ maxLen ∧ ∀ x ∈ l, (fun n => (Lit.int .i64 n).wf = true) x) x) x.f1 ∧ (fun l => l.length ≤ maxLen ∧ ∀ x ∈ l, (fun l => l.length ≤ maxLen ∧ ∀ x ∈ l, (fun n => (Lit.int .i64 n).wf = true) x) x) x.f2
def mu25 (x : S25) : Nat := 1 + (fun l => 1 + (l.map (fun l => 1 + (l.map mu42).sum)).sum) x.f0 + (fun l => 1 + (l.map (fun l => 1 + (l.map (fun _ => 1)).sum)).sum) x.f1 + (fun l => 1 + (l.map (fun l => 1 + (l.map (fun _ => 1)).sum)).sum) x.f2
theorem op25 : Opens Try.prog 25 k25 ok25 mu25 :=
  opens_struct3 Try.underlying25 (by kernel_rfl) (by kernel_rfl) (opens_slice (e := 29) Try.underlying22 (by kernel_rfl) (opens_slice (e := 42) Try.underlying29 (by kernel_rfl) op42)) (opens_slice (e := 26) Try.underlying23 (by kernel_rfl) (opens_slice (e := 3) Try.underlying26 (by kernel_rfl) (opens_int Try.underlying3))) (opens_slice (e := 26) Try.underlying23 (by kernel_rfl) (opens_slice (e := 3) Try.underlying26 (by kernel_rfl) (opens_int Try.underlying3))) (fun a b c => ⟨a, b, c⟩) k25 (fun w y0 y1 y2 c0 c1 c2 h0 h1 h2 => ⟨[c0], [c1, c2], rfl, h0, ⟨[c1], [c2], rfl, h1, h2⟩⟩) ok25 (fun _ _ _ a b c => ⟨a, b, c⟩) mu25 (fun _ _ _ => Nat.le_refl _)
end Go.Proofs.Ytfbkjgedaadlmaa.P
