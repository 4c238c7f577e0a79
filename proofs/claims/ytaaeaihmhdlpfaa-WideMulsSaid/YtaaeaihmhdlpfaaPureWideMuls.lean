/- Of any two words: the program's product, and each word as a wide number, are the document's. No condition. -/
import Derived.Test.YtaaeaihmhdlpfaaPx11
import Derived.Test.YtaaeaihmhdlpfaaW08
namespace Go.Proofs.Ytaaeaihmhdlpfaa.Pure
set_option linter.unusedVariables false
set_option linter.unusedSimpArgs false
open Go.RowKit Go.Proofs.Ytaaeaihmhdlpfaa.P Go.Proofs.Ytaaeaihmhdlpfaa.X Go.Proofs.Ytaaeaihmhdlpfaa.WL Go.Proofs.YtaaeaihmhdlpfaaW.PrintWords Go.Proofs.YtaaeaihmhdlpfaaW.PrintLast Go.Proofs.YtaaeaihmhdlpfaaW.PrintMore

theorem WideMuls : lapidarylaw08_WideMuls.Pure := by
  intro a b wa wb
  obtain ⟨a1, a2⟩ := b64 wa
  obtain ⟨b1, b2⟩ := b64 wb
  refine Ev.rounds (g := fun k => lapidarylaw08_WideMuls.f k a b) ?_
  unfold lapidarylaw08_WideMuls.f
  simp only [wMul_eq a1 a2 b1 b2, wOf_eq a1 a2, Option.bind_some]
  refine Ev.bind (Of_ev a1 a2) ?_
  refine Ev.bind (Of_ev b1 b2) ?_
  refine Ev.bind (Mul_ev a b) ?_
  refine Ev.bind (lis_num _) ?_
  simp only [if_pos]
  refine Ev.bind (Of_ev a1 a2) ?_
  refine Ev.bind (lis_num _) ?_
  simp only [if_pos]
  exact Ev.bind (f := fun _ t => some t) known_ev (Ev.now true)

end Go.Proofs.Ytaaeaihmhdlpfaa.Pure
