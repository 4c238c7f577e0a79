/- crc.Seal in words of bytes. No condition. -/
import Derived.Test.YtimdikfllbbdoaaPx9
import Derived.Test.YtimdikfllbbdoaaCG
namespace Go.Proofs.Ytimdikfllbbdoaa.C
set_option linter.unusedVariables false
set_option linter.unusedSimpArgs false
open Go.RowKit Go.Proofs.Ytimdikfllbbdoaa.P Go.Proofs.YtimdikfllbbdoaaW.PrintWords Go.Proofs.YtimdikfllbbdoaaW.PrintLast Go.Proofs.YtimdikfllbbdoaaW.PrintMore

theorem fixL_eq (n : Nat) (hn : n < 4294967296) : fixL n 4 = bytes4 (n : Int) := by
  rw [bytes4_eq (n : Int) (by omega) (by omega)]
  unfold fixL
  rw [show List.range 4 = [0, 1, 2, 3] from rfl]
  simp only [List.map_cons, List.map_nil, Nat.mul_zero, Nat.pow_zero, Nat.div_one, Nat.mul_one, Nat.reduceMul, Nat.reducePow, List.cons.injEq, and_true]
  omega
theorem seal_f (b : List Int) (hl : b.length ≤ 2000) : crc_Seal.f b = some (b ++ bytes4 (ofV [b])) := by
  obtain ⟨n, hn, hn2⟩ := ofV_nat [b]
  unfold crc_Seal.f
  rw [if_pos (by omega), hn, Int.toNat_natCast, fixL_eq n hn2]
theorem chk_seal (b : List Int) (h : ∀ c ∈ b, 0 ≤ c ∧ c ≤ 255) : chkV (b ++ bytes4 (ofV [b])) = (b, 0) := by
  have hr := ofV_range b h
  have hs : ∀ c ∈ b ++ bytes4 (ofV [b]), 0 ≤ c ∧ c ≤ 255 := fun c hc => by
    rcases List.mem_append.1 hc with hc | hc
    · exact h c hc
    · exact bytes4_wf _ c hc
  have hl : (b ++ bytes4 (ofV [b])).length = b.length + 4 := by rw [List.length_append]; rfl
  have ht : (b ++ bytes4 (ofV [b])).take b.length = b := by simp
  have hi := (seal_iff (b ++ bytes4 (ofV [b])) hs b.length (by omega) (ofV [b]) hr.1 hr.2).1 (by rw [ht])
  unfold chkV
  rw [if_neg (by omega), show (b ++ bytes4 (ofV [b])).length - 4 = b.length by omega, ht, if_pos hi]
end Go.Proofs.Ytimdikfllbbdoaa.C
