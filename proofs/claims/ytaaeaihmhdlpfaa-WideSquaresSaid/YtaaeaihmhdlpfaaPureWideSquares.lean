/- No square is less than nothing; a difference of squares is the product of a sum and a difference, and what Dot reckons. No condition. -/
import Derived.Test.YtaaeaihmhdlpfaaPx19
import Derived.Test.YtaaeaihmhdlpfaaW08
namespace Go.Proofs.Ytaaeaihmhdlpfaa.Pure
set_option linter.unusedVariables false
set_option linter.unusedSimpArgs false
open Go.RowKit Go.Proofs.Ytaaeaihmhdlpfaa.P Go.Proofs.Ytaaeaihmhdlpfaa.X Go.Proofs.Ytaaeaihmhdlpfaa.WL Go.Proofs.YtaaeaihmhdlpfaaW.PrintWords Go.Proofs.YtaaeaihmhdlpfaaW.PrintLast Go.Proofs.YtaaeaihmhdlpfaaW.PrintMore

theorem square_nn (x : Int) : 0 ≤ x * x := by
  by_cases h : 0 ≤ x
  · exact Int.mul_nonneg h h
  · have := Int.mul_nonneg (show 0 ≤ -x by omega) (show 0 ≤ -x by omega)
    rwa [Int.neg_mul_neg] at this
theorem square_le {x : Int} (h1 : -2147483648 ≤ x) (h2 : x ≤ 2147483647) : x * x ≤ 4611686018427387904 := by
  by_cases h : 0 ≤ x
  · have := Int.mul_le_mul (show x ≤ 2147483648 by omega) (show x ≤ 2147483648 by omega) h (by decide)
    exact this
  · have := Int.mul_le_mul (show -x ≤ 2147483648 by omega) (show -x ≤ 2147483648 by omega) (show 0 ≤ -x by omega) (by decide)
    rw [Int.neg_mul_neg] at this
    exact this
theorem WideSquares : lapidarylaw08_WideSquares.Pure := by
  intro a b wa wb
  obtain ⟨a1, a2⟩ := b32 wa
  obtain ⟨b1, b2⟩ := b32 wb
  refine Ev.rounds (g := fun k => lapidarylaw08_WideSquares.f k a b) ?_
  unfold lapidarylaw08_WideSquares.f
  have ea : wrap64 a = a := w64_id (by omega) (by omega)
  have eb : wrap64 b = b := w64_id (by omega) (by omega)
  have es : wrap64 (a + b) = a + b := w64_id (by omega) (by omega)
  have ed : wrap64 (a - b) = a - b := w64_id (by omega) (by omega)
  have en : wrap64 (-b) = -b := w64_id (by omega) (by omega)
  simp only [ea, eb, es, ed, en]
  have D := wDot_ev (l := [a, a, b, -b]) (by simp) (by
    intro x hx
    simp only [List.mem_cons, List.not_mem_nil, or_false] at hx
    rcases hx with rfl | rfl | rfl | rfl <;> omega) (by simp)
  have eD : dotS [a, a, b, -b] = a * a - b * b := by simp only [dotS]; grind
  have eP : (a + b) * (a - b) = a * a - b * b := by grind
  have s0 := square_nn a
  have s1 := square_le a1 a2
  simp only [wMul_eq (a := a) (b := a) (by omega) (by omega) (by omega) (by omega), wMul_eq (a := b) (b := b) (by omega) (by omega) (by omega) (by omega), wMul_eq (a := a + b) (b := a - b) (by omega) (by omega) (by omega) (by omega), wSign_eq, eP, Option.bind_some]
  rw [eD] at D
  refine Ev.bind (wNeg_ev _) ?_
  refine Ev.bind (wAdd_ev _ _) ?_
  refine Ev.bind D ?_
  rw [sign_of (by omega) (by omega)]
  have g1 : cmp3 (a * a) 0 ≥ 0 := by unfold cmp3; split <;> (try split) <;> omega
  have g2 : a * a + -(b * b) = a * a - b * b := by omega
  rw [g2]
  simp only [if_pos g1, beq_self_eq_true, Bool.and_self, if_pos]
  exact Ev.bind (f := fun _ t => some t) known_ev (Ev.now true)

end Go.Proofs.Ytaaeaihmhdlpfaa.Pure
