/- Written for this claim by a program of this session (a turned copy of the print): Go functions as Lean functions, and that the Go code comes to just these answers; or a statement proved out of them. No condition. -/
import Derived.Test.YtimdikfllbbdoaaPx0
namespace Go.Proofs.Ytimdikfllbbdoaa.P
open Go.RowKit Go.Proofs.YtimdikfllbbdoaaW.PrintWords Go.Proofs.YtimdikfllbbdoaaW.PrintLast Go.Proofs.YtimdikfllbbdoaaW.PrintMore Go.Proofs.Ytimdikfllbbdoaa.X
attribute [local go_sem] max2_int min2_int max_two min_two max_three min_three max_four min_four   -- for this text's walks alone
set_option linter.unusedVariables false
set_option linter.unusedSimpArgs false

/-! ### frame_Head: function 19 -/
def frame_Head.f  : Option (List Int) := some (([76, 80, 68, 89, 1] : List Int))
set_option maxHeartbeats 8000000 in
set_option maxRecDepth 100000 in
theorem frame_Head.calls  (r : List Int) (w : World) (h : frame_Head.f  = some r) :
  Calls Try.prog 19 #[] w fun e w' => ∃ v0_ : Value, e = .returned (v0_) ∧ Fz.RH w' w.heap.size (fun _ => True) v0_ r ∧ Below w.heap.size w w' := by
 have H : (some (([76, 80, 68, 89, 1] : List Int))) = some r := h
 clear h
 obtain rfl := Option.some.inj H
 clear H
 have kc := fun (w : World) (C : Array Value) (n c : Nat) => Lib.run_convert_bytes_const (P := Try.prog) w 25 5 C n c Try.underlying25 Try.underlying5
 go_enter Try.func19, Try.ntmps19
 go_wp2
 go_ret
 refine ⟨_, rfl, .inr ⟨by decide, by decide, w.heap.size, rfl, Nat.le_refl _, trivial, ?_⟩, (Below.refl _ w).alloc (Nat.le_refl _) _⟩
 exact heap_alloc_new _ _


end Go.Proofs.Ytimdikfllbbdoaa.P
