/- The laws of wide numbers: a wide number as a word. -/
import Derived.Test.YtaaeaihmhdlpfaaPx20
import Derived.Test.YtaaeaihmhdlpfaaW08
namespace Go.Proofs.Ytaaeaihmhdlpfaa.WL
set_option linter.unusedVariables false
set_option linter.unusedSimpArgs false
open Go.RowKit Go.Proofs.Ytaaeaihmhdlpfaa.P Go.Proofs.Ytaaeaihmhdlpfaa.X Go.Proofs.YtaaeaihmhdlpfaaW.PrintWords Go.Proofs.YtaaeaihmhdlpfaaW.PrintLast Go.Proofs.YtaaeaihmhdlpfaaW.PrintMore

/-! ### Int -/
theorem wInt_eq (h l : Int) : wide_Int.f h l = if hiw (wrap64 l) = h ∧ low (wrap64 l) = l then some (wrap64 l, true) else some (0, false) := by
  unfold wide_Int.f
  rw [wOf_eq (by unfold wrap64; omega) (by unfold wrap64; omega)]
  simp only [Option.bind_some, Bool.and_eq_true, beq_iff_eq]
theorem wInt_of {a : Int} (h1 : -9223372036854775808 ≤ a) (h2 : a ≤ 9223372036854775807) : wide_Int.f (hiw a) (low a) = some (a, true) := by
  have e : wrap64 (low a) = a := by unfold wrap64 low; omega
  rw [wInt_eq, e, if_pos ⟨rfl, rfl⟩]
end Go.Proofs.Ytaaeaihmhdlpfaa.WL
