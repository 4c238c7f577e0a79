/- Of any two wide numbers how they stand is the document's answer; from the other side it is the other way round; they stand alike just if they are the same. No condition. -/
import Derived.Test.YtaaeaihmhdlpfaaPx14
import Derived.Test.YtaaeaihmhdlpfaaW08
namespace Go.Proofs.Ytaaeaihmhdlpfaa.Pure
set_option linter.unusedVariables false
set_option linter.unusedSimpArgs false
open Go.RowKit Go.Proofs.Ytaaeaihmhdlpfaa.P Go.Proofs.Ytaaeaihmhdlpfaa.X Go.Proofs.Ytaaeaihmhdlpfaa.WL Go.Proofs.YtaaeaihmhdlpfaaW.PrintWords Go.Proofs.YtaaeaihmhdlpfaaW.PrintLast Go.Proofs.YtaaeaihmhdlpfaaW.PrintMore

theorem WideCmps : lapidarylaw08_WideCmps.Pure := by
  intro a b c d wa wb wc wd
  obtain ⟨a1, a2⟩ := b64 wa
  obtain ⟨b1, b2⟩ := bu64 wb
  obtain ⟨c1, c2⟩ := b64 wc
  obtain ⟨d1, d2⟩ := bu64 wd
  refine Ev.rounds (g := fun k => lapidarylaw08_WideCmps.f k a b c d) ?_
  unfold lapidarylaw08_WideCmps.f
  have C1 := wCmp_eq (a * 18446744073709551616 + b) (c * 18446744073709551616 + d)
  have C2 := wCmp_eq (c * 18446744073709551616 + d) (a * 18446744073709551616 + b)
  rw [hiw_of a1 a2 b1 b2, low_of b1 b2, hiw_of c1 c2 d1 d2, low_of d1 d2] at C1 C2
  have ha := From_ev a1 a2 b1 b2
  have hc := From_ev c1 c2 d1 d2
  have hcmp := Cmp_ev (a * 18446744073709551616 + b) (c * 18446744073709551616 + d)
  have hoff : off (a * 18446744073709551616 + b) = off (c * 18446744073709551616 + d) ↔ (a = c ∧ b = d) := by unfold off; omega
  simp only [C1, C2, Option.bind_some]
  refine Ev.bind ha ?_
  refine Ev.bind hc ?_
  refine Ev.bind hcmp ?_
  generalize off (a * 18446744073709551616 + b) = U at *
  generalize off (c * 18446744073709551616 + d) = V at *
  have e1 : cmp3 V U = wrap64 (-cmp3 U V) := by
    unfold cmp3 wrap64; split <;> split <;> first | rfl | omega | (split <;> first | rfl | omega)
  have e2 : ((cmp3 U V == 0) == (a == c && (b == d))) = true := by
    rw [beq_iff_eq, Bool.eq_iff_iff, beq_iff_eq, Bool.and_eq_true, beq_iff_eq, beq_iff_eq, cmp3_eq0]; exact hoff
  simp only [if_pos, if_pos e1, if_pos e2]
  exact Ev.bind (f := fun _ t => some t) known_ev (Ev.now true)

end Go.Proofs.Ytaaeaihmhdlpfaa.Pure
