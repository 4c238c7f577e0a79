/- Written for this claim by a program of this session (a turned copy of the print): Go functions as Lean functions, and that the Go code comes to just these answers; or a statement proved out of them. No condition. -/
import Derived.Test.YtfbkjgedaadlmaaRZ
import Derived.Test.YtfbkjgedaadlmaaPx0
namespace Go.Proofs.Ytfbkjgedaadlmaa.P
open Go.RowKit Go.Proofs.YtfbkjgedaadlmaaW.PrintWords Go.Proofs.YtfbkjgedaadlmaaW.PrintLast Go.Proofs.YtfbkjgedaadlmaaW.PrintMore Go.Proofs.Ytfbkjgedaadlmaa.X
attribute [local go_sem] max2_int min2_int max_two min_two max_three min_three max_four min_four   -- for this text's walks alone
set_option linter.unusedVariables false
set_option linter.unusedSimpArgs false

/-! ### lapidarylaw16_RingSame: function 7 -/
def lapidarylaw16_RingSame.f (l0_0 : List (List (S42))) (l0_1 : List (List Int)) (l0_2 : List (List Int)) (l1_0 : List (List (S42))) (l1_1 : List (List Int)) (l1_2 : List (List Int)) : Option (Bool) := if (l0_0.length ≤ 1048576 ∧ ∀ x ∈ l0_0, x.length ≤ 1048576) ∧ (l0_1.length ≤ 1048576 ∧ ∀ x ∈ l0_1, x.length ≤ 1048576) ∧ (l0_2.length ≤ 1048576 ∧ ∀ x ∈ l0_2, x.length ≤ 1048576) ∧ (l1_0.length ≤ 1048576 ∧ ∀ x ∈ l1_0, x.length ≤ 1048576) ∧ (l1_1.length ≤ 1048576 ∧ ∀ x ∈ l1_1, x.length ≤ 1048576) ∧ (l1_2.length ≤ 1048576 ∧ ∀ x ∈ l1_2, x.length ≤ 1048576) then (some true) else (none)

set_option maxHeartbeats 8000000 in
set_option maxRecDepth 100000 in
theorem lapidarylaw16_RingSame.calls (A0_0 : Option Addr) (c0_0 : Nat) (l0_0 : List (List (S42))) (A0_1 : Option Addr) (c0_1 : Nat) (l0_1 : List (List Int)) (A0_2 : Option Addr) (c0_2 : Nat) (l0_2 : List (List Int)) (A1_0 : Option Addr) (c1_0 : Nat) (l1_0 : List (List (S42))) (A1_1 : Option Addr) (c1_1 : Nat) (l1_1 : List (List Int)) (A1_2 : Option Addr) (c1_2 : Nat) (l1_2 : List (List Int)) (r : Bool) (w : World) (hr0_0 : Kd.C (Kd.slice 42 k42) w A0_0 l0_0.length l0_0) (hc0_0 : l0_0.length ≤ c0_0) (hr0_1 : Kd.C (Kd.slice 3 (Kd.int .i64)) w A0_1 l0_1.length l0_1) (hc0_1 : l0_1.length ≤ c0_1) (hr0_2 : Kd.C (Kd.slice 3 (Kd.int .i64)) w A0_2 l0_2.length l0_2) (hc0_2 : l0_2.length ≤ c0_2) (hr1_0 : Kd.C (Kd.slice 42 k42) w A1_0 l1_0.length l1_0) (hc1_0 : l1_0.length ≤ c1_0) (hr1_1 : Kd.C (Kd.slice 3 (Kd.int .i64)) w A1_1 l1_1.length l1_1) (hc1_1 : l1_1.length ≤ c1_1) (hr1_2 : Kd.C (Kd.slice 3 (Kd.int .i64)) w A1_2 l1_2.length l1_2) (hc1_2 : l1_2.length ≤ c1_2) (h : lapidarylaw16_RingSame.f l0_0 l0_1 l0_2 l1_0 l1_1 l1_2 = some r) :
  Calls Try.prog 7 #[.agg #[.slice A0_0 l0_0.length c0_0, .slice A0_1 l0_1.length c0_1, .slice A0_2 l0_2.length c0_2], .agg #[.slice A1_0 l1_0.length c1_0, .slice A1_1 l1_1.length c1_1, .slice A1_2 l1_2.length c1_2]] w fun e w' => e = .returned (.bool r) ∧ Below w.heap.size w w' := by
 unfold lapidarylaw16_RingSame.f at h
 by_cases hl : (l0_0.length ≤ 1048576 ∧ ∀ x ∈ l0_0, x.length ≤ 1048576) ∧ (l0_1.length ≤ 1048576 ∧ ∀ x ∈ l0_1, x.length ≤ 1048576) ∧ (l0_2.length ≤ 1048576 ∧ ∀ x ∈ l0_2, x.length ≤ 1048576) ∧ (l1_0.length ≤ 1048576 ∧ ∀ x ∈ l1_0, x.length ≤ 1048576) ∧ (l1_1.length ≤ 1048576 ∧ ∀ x ∈ l1_1, x.length ≤ 1048576) ∧ (l1_2.length ≤ 1048576 ∧ ∀ x ∈ l1_2, x.length ≤ 1048576)
 ·rw [if_pos hl] at h
  obtain rfl := Option.some.inj h
  obtain ⟨q0, q1, q2, q3, q4, q5⟩ := hl
  exact Rw.samelaw_calls A0_0 A0_1 A0_2 A1_0 A1_1 A1_2 c0_0 c0_1 c0_2 c1_0 c1_1 c1_2 l0_0 l0_1 l0_2 l1_0 l1_1 l1_2 w ⟨_, _, _, _, _, _, rfl, hr0_0, hc0_0, hr0_1, hc0_1, hr0_2, hc0_2⟩ ⟨_, _, _, _, _, _, rfl, hr1_0, hc1_0, hr1_1, hc1_1, hr1_2, hc1_2⟩ q0 q1 q2 q3 q4 q5
 ·rw [if_neg hl] at h; cases h

end Go.Proofs.Ytfbkjgedaadlmaa.P
