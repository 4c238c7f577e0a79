/- A product hangs on no order, and with a sum it is the sum of products; a number and 0 less it are nothing; a word comes back. No condition. -/
import Derived.Test.YtaaeaihmhdlpfaaPx22
import Derived.Test.YtaaeaihmhdlpfaaW08
import Derived.Test.YtaaeaihmhdlpfaaW08I
namespace Go.Proofs.Ytaaeaihmhdlpfaa.Pure
set_option linter.unusedVariables false
set_option linter.unusedSimpArgs false
open Go.RowKit Go.Proofs.Ytaaeaihmhdlpfaa.P Go.Proofs.Ytaaeaihmhdlpfaa.X Go.Proofs.Ytaaeaihmhdlpfaa.WL Go.Proofs.YtaaeaihmhdlpfaaW.PrintWords Go.Proofs.YtaaeaihmhdlpfaaW.PrintLast Go.Proofs.YtaaeaihmhdlpfaaW.PrintMore

theorem WideLaws : lapidarylaw08_WideLaws.Pure := by
  intro a b c d wa wb wc wd
  obtain ⟨a1, a2⟩ := b64 wa
  obtain ⟨b1, b2⟩ := b64 wb
  obtain ⟨c1, c2⟩ := b32 wc
  obtain ⟨d1, d2⟩ := b32 wd
  refine Ev.rounds (g := fun k => lapidarylaw08_WideLaws.f k a b c d) ?_
  unfold lapidarylaw08_WideLaws.f
  have ec : wrap64 c = c := w64_id (by omega) (by omega)
  have ed : wrap64 d = d := w64_id (by omega) (by omega)
  have es : wrap64 (c + d) = c + d := w64_id (by omega) (by omega)
  have K : Ev (fun k => (lapidarylaw08_known.f k).bind fun t => some t) true := Ev.bind (f := fun _ t => some t) known_ev (Ev.now true)
  simp only [ec, ed, es, wMul_eq a1 a2 b1 b2, wMul_eq b1 b2 a1 a2, wMul_eq (a := a) (b := c + d) a1 a2 (by omega) (by omega), wMul_eq (a := a) (b := c) a1 a2 (by omega) (by omega), wMul_eq (a := d) (b := a) (by omega) (by omega) a1 a2, wOf_eq a1 a2, wInt_of a1 a2, Option.bind_some]
  have eS : a * c + d * a = a * (c + d) := by grind
  refine Ev.bind (wAdd_ev _ _) ?_
  rw [eS, Int.mul_comm b a]
  have eI : wrap64 (low (a * b)) = wrap64 (a * b) := by unfold wrap64 low; omega
  rw [wInt_eq, eI]
  simp only [beq_self_eq_true, Bool.and_self, if_pos]
  by_cases hI : hiw (wrap64 (a * b)) = hiw (a * b) ∧ low (wrap64 (a * b)) = low (a * b)
  · simp only [if_pos hI, Option.bind_some, if_pos]
    refine Ev.bind (wNeg_ev _) ?_
    refine Ev.bind (wAdd_ev _ _) ?_
    rw [Int.add_right_neg]
    simp only [show hiw 0 = 0 by decide, show low 0 = 0 by decide, beq_self_eq_true, Bool.and_self, if_pos]
    exact K
  · simp only [if_neg hI, Option.bind_some, if_pos]
    refine Ev.bind (wNeg_ev _) ?_
    refine Ev.bind (wAdd_ev _ _) ?_
    rw [Int.add_right_neg]
    simp only [show hiw 0 = 0 by decide, show low 0 = 0 by decide, beq_self_eq_true, Bool.and_self, if_pos]
    simpa using K

end Go.Proofs.Ytaaeaihmhdlpfaa.Pure
