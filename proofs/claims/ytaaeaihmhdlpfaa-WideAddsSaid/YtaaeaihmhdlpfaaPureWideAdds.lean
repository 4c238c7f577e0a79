/- Of any two wide numbers the sum, 0 less either, how they stand, and the sign are the document's. No condition. -/
import Derived.Test.YtaaeaihmhdlpfaaPx17
import Derived.Test.YtaaeaihmhdlpfaaW08
namespace Go.Proofs.Ytaaeaihmhdlpfaa.Pure
set_option linter.unusedVariables false
set_option linter.unusedSimpArgs false
open Go.RowKit Go.Proofs.Ytaaeaihmhdlpfaa.P Go.Proofs.Ytaaeaihmhdlpfaa.X Go.Proofs.Ytaaeaihmhdlpfaa.WL Go.Proofs.YtaaeaihmhdlpfaaW.PrintWords Go.Proofs.YtaaeaihmhdlpfaaW.PrintLast Go.Proofs.YtaaeaihmhdlpfaaW.PrintMore

theorem WideAdds : lapidarylaw08_WideAdds.Pure := by
  intro a b c d wa wb wc wd
  obtain ⟨a1, a2⟩ := b64 wa
  obtain ⟨b1, b2⟩ := bu64 wb
  obtain ⟨c1, c2⟩ := b64 wc
  obtain ⟨d1, d2⟩ := bu64 wd
  refine Ev.rounds (g := fun k => lapidarylaw08_WideAdds.f k a b c d) ?_
  unfold lapidarylaw08_WideAdds.f
  have C1 := wCmp_eq (a * 18446744073709551616 + b) (c * 18446744073709551616 + d)
  have S1 := wSign_eq (a * 18446744073709551616 + b)
  have A1 := wAdd_ev (a * 18446744073709551616 + b) (c * 18446744073709551616 + d)
  have N1 := wNeg_ev (a * 18446744073709551616 + b)
  have ha := From_ev a1 a2 b1 b2
  have hc := From_ev c1 c2 d1 d2
  have hcmp := Cmp_ev (a * 18446744073709551616 + b) (c * 18446744073709551616 + d)
  have hadd := Add_ev (a * 18446744073709551616 + b) (c * 18446744073709551616 + d)
  have hneg := Neg_ev (a * 18446744073709551616 + b)
  have hcmp0 := Cmp_ev (a * 18446744073709551616 + b) 0
  have hx : hiw (a * 18446744073709551616 + b) = a := hiw_of a1 a2 b1 b2
  have lx : low (a * 18446744073709551616 + b) = b := low_of b1 b2
  have hy : hiw (c * 18446744073709551616 + d) = c := hiw_of c1 c2 d1 d2
  have ly : low (c * 18446744073709551616 + d) = d := low_of d1 d2
  generalize a * 18446744073709551616 + b = X at *
  generalize c * 18446744073709551616 + d = Y at *
  subst hx lx hy ly
  refine Ev.bind ha ?_
  refine Ev.bind hc ?_
  refine Ev.bind A1 ?_
  refine Ev.bind hadd ?_
  refine Ev.bind (lis_num _) ?_
  simp only [if_pos]
  refine Ev.bind N1 ?_
  refine Ev.bind hneg ?_
  refine Ev.bind (lis_num _) ?_
  simp only [if_pos, C1, S1, Option.bind_some]
  refine Ev.bind hcmp ?_
  simp only [if_pos]
  refine Ev.bind (Of_ev (x := 0) (by decide) (by decide)) ?_
  refine Ev.bind hcmp0 ?_
  simp only [if_pos]
  exact Ev.bind (f := fun _ t => some t) known_ev (Ev.now true)

end Go.Proofs.Ytaaeaihmhdlpfaa.Pure
