/- bits.Add64, a function without a body, as the model runs it: for any two words and a carry that is at most 1. -/
import Derived.Test.YtlnjbpapbifjfaaProg
import Derived.WalkKit
import Derived.KernelRfl
open Go Go.RowKit
namespace Go.Proofs.Ytlnjbpapbifjfaa.X
set_option linter.unusedVariables false
set_option linter.unusedSimpArgs false
def a64lo (x y c : Int) : Int := ((x.toNat + y.toNat + c.toNat) % 18446744073709551616 : Nat)
def a64hi (x y c : Int) : Int := ((x.toNat + y.toNat + c.toNat) / 18446744073709551616 : Nat)
theorem add64_0 (x y : Int) (w : World) : (callFunc 44 #[.int .u64 x, .int .u64 y, .int .u64 0]).run Try.prog w =
    .ok (.value (.tuple #[.int .u64 (a64lo x y 0), .int .u64 (a64hi x y 0)])) w := by rfl
theorem add64_1 (x y : Int) (w : World) : (callFunc 44 #[.int .u64 x, .int .u64 y, .int .u64 1]).run Try.prog w =
    .ok (.value (.tuple #[.int .u64 (a64lo x y 1), .int .u64 (a64hi x y 1)])) w := by rfl
theorem add64 (x y : Int) (c : Int) (hc : decide (c ≤ 1) = true) (w : World) : (callFunc 44 #[.int .u64 x, .int .u64 y, .int .u64 c]).run Try.prog w =
    .ok (.value (.tuple #[.int .u64 (a64lo x y c), .int .u64 (a64hi x y c)])) w := by
  have hc := of_decide_eq_true hc
  match c, hc with
  | .ofNat 0, _ => rfl
  | .ofNat 1, _ => rfl
  | .ofNat (n + 2), h => exact absurd h (by simp; omega)
  | .negSucc n, _ => rfl
end Go.Proofs.Ytlnjbpapbifjfaa.X
