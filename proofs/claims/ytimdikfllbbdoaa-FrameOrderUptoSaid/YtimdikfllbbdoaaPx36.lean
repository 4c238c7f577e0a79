/- Written for this claim by a program of this session (a turned copy of the print): Go functions as Lean functions, and that the Go code comes to just these answers; or a statement proved out of them. No condition. -/
import Derived.Test.YtimdikfllbbdoaaFO
import Derived.Test.YtimdikfllbbdoaaPx0
namespace Go.Proofs.Ytimdikfllbbdoaa.P
open Go.RowKit Go.Proofs.YtimdikfllbbdoaaW.PrintWords Go.Proofs.YtimdikfllbbdoaaW.PrintLast Go.Proofs.YtimdikfllbbdoaaW.PrintMore Go.Proofs.Ytimdikfllbbdoaa.X
attribute [local go_sem] max2_int min2_int max_two min_two max_three min_three max_four min_four   -- for this text's walks alone
set_option linter.unusedVariables false
set_option linter.unusedSimpArgs false

/-! ### lapidarylaw03_FrameOrder: function 7 -/
def lapidarylaw03_FrameOrder.f (a0 : Int) (a1 : Int) (l2 : List Int) (l3 : List Int) : Option (Bool) := if (∀ x ∈ l2 ++ l3, 0 ≤ x ∧ x ≤ 255) ∧ l2.length + l3.length ≤ 4611686018427387904 ∧ (0 ≤ a0 ∧ a0 ≤ 255) ∧ 0 ≤ a1 ∧ a1 ≤ 255 then (some true) else (none)

set_option maxHeartbeats 8000000 in
set_option maxRecDepth 100000 in
theorem lapidarylaw03_FrameOrder.calls (a0 : Int) (a1 : Int) (A2 : Option Addr) (c2 : Nat) (l2 : List Int) (A3 : Option Addr) (c3 : Nat) (l3 : List Int) (r : Bool) (w : World) (hr2 : Kd.C (Kd.int .u8) w A2 l2.length l2) (hc2 : l2.length ≤ c2) (hr3 : Kd.C (Kd.int .u8) w A3 l3.length l3) (hc3 : l3.length ≤ c3) (h : lapidarylaw03_FrameOrder.f a0 a1 l2 l3 = some r) :
  Calls Try.prog 7 #[.int .u8 a0, .int .u8 a1, .slice A2 l2.length c2, .slice A3 l3.length c3] w fun e w' => e = .returned (.bool r) ∧ Below w.heap.size w w' := by
 unfold lapidarylaw03_FrameOrder.f at h
 by_cases hl : (∀ x ∈ l2 ++ l3, 0 ≤ x ∧ x ≤ 255) ∧ l2.length + l3.length ≤ 4611686018427387904 ∧ (0 ≤ a0 ∧ a0 ≤ 255) ∧ 0 ≤ a1 ∧ a1 ≤ 255
 ·rw [if_pos hl] at h
  obtain rfl := Option.some.inj h
  exact Fv.order_calls A2 A3 c2 c3 a0 a1 l2 l3 w hr2 hc2 hr3 hc3 (fun c hc => hl.1 c (by simp [hc])) (fun c hc => hl.1 c (by simp [hc])) hl.2.1 hl.2.2.1 hl.2.2.2
 ·rw [if_neg hl] at h; cases h

end Go.Proofs.Ytimdikfllbbdoaa.P
