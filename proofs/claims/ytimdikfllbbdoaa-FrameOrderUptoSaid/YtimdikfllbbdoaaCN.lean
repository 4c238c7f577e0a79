/- crc.New: a sum of nothing. No condition. -/
import Derived.Test.YtimdikfllbbdoaaCT
namespace Go.Proofs.Ytimdikfllbbdoaa.C
set_option linter.unusedVariables false
set_option linter.unusedSimpArgs false
open Go.RowKit

def sumC (r n : Int) : Array Value := arr 256 ++ #[.int .u32 r, .int .i64 n]
theorem run_zero49 (w : World) : (zeroValue 81).run Try.prog w = .ok (.agg (Array.replicate 256 (.int .u32 0) ++ #[.int .u32 0, .int .i64 0])) w := by
  kernel_rfl
theorem fold_eq : (Array.foldl (fun (cs : Array Value) (x : Value × Nat) => cs.setIfInBounds x.snd x.fst)
                  (Array.replicate 256 (Value.int IntKind.u32 0) ++ #[Value.int IntKind.u32 0, Value.int IntKind.i64 0])
                  (arr 256).zipIdx 0 (arr 256).size).setIfInBounds
              256 (Value.int IntKind.u32 4294967295) = sumC 4294967295 0 := by
  kernel_rfl
set_option maxHeartbeats 8000000 in
set_option maxRecDepth 100000 in
theorem new_calls (w : World) : Calls Try.prog 34 #[] w fun e w' => e = .returned (.pointer (some ⟨w.heap.size + 1, 0, none⟩)) ∧ w' = (w.alloc (.cells (arr 256) 78)).alloc (.cells (sumC 4294967295 0) 81) := by
  have ha := run_zero49
  go_enter Try.func34, Try.ntmps34
  go_wp2_with (go_at_call 38; refine (table_calls _).mono ?_; rintro e w1 ⟨rfl, rfl⟩)
  go_ret
  rw [fold_eq]
  exact ⟨rfl, rfl⟩
end Go.Proofs.Ytimdikfllbbdoaa.C
