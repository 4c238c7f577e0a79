/- Written for this claim by a program of this session (a turned copy of the print): Go functions as Lean functions, and that the Go code comes to just these answers; or a statement proved out of them. No condition. -/
import Derived.Test.YteiimfmanfafhaaPx0
namespace Go.Proofs.Yteiimfmanfafhaa.P
open Go.RowKit Go.Proofs.YteiimfmanfafhaaW.PrintWords Go.Proofs.YteiimfmanfafhaaW.PrintLast Go.Proofs.YteiimfmanfafhaaW.PrintMore Go.Proofs.Yteiimfmanfafhaa.X
attribute [local go_sem] max2_int min2_int max_two min_two max_three min_three max_four min_four   -- for this text's walks alone
set_option linter.unusedVariables false
set_option linter.unusedSimpArgs false

/-! ### lapidarylaw02_CrcLinear: function 4 -/
def lapidarylaw02_CrcLinear.f (l0 : List Int) (l1 : List Int) (l2 : List Int) : Option (Bool) := if ∀ x ∈ l0 ++ l1 ++ l2, 0 ≤ x ∧ x ≤ 255 then (some true) else (none)

set_option maxHeartbeats 8000000 in
set_option maxRecDepth 100000 in
theorem lapidarylaw02_CrcLinear.calls (A0 : Option Addr) (c0 : Nat) (l0 : List Int) (A1 : Option Addr) (c1 : Nat) (l1 : List Int) (A2 : Option Addr) (c2 : Nat) (l2 : List Int) (r : Bool) (w : World) (hr0 : Kd.C (Kd.int .u8) w A0 l0.length l0) (hc0 : l0.length ≤ c0) (hr1 : Kd.C (Kd.int .u8) w A1 l1.length l1) (hc1 : l1.length ≤ c1) (hr2 : Kd.C (Kd.int .u8) w A2 l2.length l2) (hc2 : l2.length ≤ c2) (h : lapidarylaw02_CrcLinear.f l0 l1 l2 = some r) :
  Calls Try.prog 4 #[.slice A0 l0.length c0, .slice A1 l1.length c1, .slice A2 l2.length c2] w fun e w' => e = .returned (.bool r) ∧ Below w.heap.size w w' := by
 unfold lapidarylaw02_CrcLinear.f at h
 by_cases hl : ∀ x ∈ l0 ++ l1 ++ l2, 0 ≤ x ∧ x ≤ 255
 ·rw [if_pos hl] at h
  obtain rfl := Option.some.inj h
  exact C.linear_calls A0 A1 A2 c0 c1 c2 l0 l1 l2 w hr0 hc0 hr1 hc1 hr2 hc2 (fun c hc => hl c (by simp [hc])) (fun c hc => hl c (by simp [hc])) (fun c hc => hl c (by simp [hc]))
 ·rw [if_neg hl] at h; cases h

end Go.Proofs.Yteiimfmanfafhaa.P
