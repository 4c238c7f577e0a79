/- Of any words: the sum of the products of every two is the document's, or the error is. No condition. -/
import Derived.Test.YtaaeaihmhdlpfaaPx14
import Derived.Test.YtaaeaihmhdlpfaaW08
import Derived.Test.YtaaeaihmhdlpfaaW08D
namespace Go.Proofs.Ytaaeaihmhdlpfaa.Pure
set_option linter.unusedVariables false
set_option linter.unusedSimpArgs false
open Go.RowKit Go.Proofs.Ytaaeaihmhdlpfaa.P Go.Proofs.Ytaaeaihmhdlpfaa.X Go.Proofs.Ytaaeaihmhdlpfaa.WL Go.Proofs.YtaaeaihmhdlpfaaW.PrintWords Go.Proofs.YtaaeaihmhdlpfaaW.PrintLast Go.Proofs.YtaaeaihmhdlpfaaW.PrintMore

theorem WideDots : lapidarylaw08_WideDots.Pure := by
  intro l hl hm hw
  have hr : ∀ x ∈ l, -9223372036854775808 ≤ x ∧ x ≤ 9223372036854775807 := fun x hx => b64 (hw x hx)
  refine Ev.rounds (g := fun k => lapidarylaw08_WideDots.f k l) ?_
  unfold lapidarylaw08_WideDots.f
  by_cases h : (l.length : Int) > 60
  · simp only [if_pos h]
    exact Ev.bind (f := fun _ t => some t) known_ev (Ev.now true)
  · simp only [if_neg h]
    by_cases he : l.length % 2 = 0
    · refine Ev.bind (wDot_ev (by omega) hr he) ?_
      refine Ev.bind (rDot_ev (by omega) hr he) ?_
      refine Ev.bind (lis_num _) ?_
      simp only [if_pos]
      exact Ev.bind (f := fun _ t => some t) known_ev (Ev.now true)
    · refine Ev.bind (a := (0, 0, 2)) (Ev.congr (f := fun _ => some (0, 0, 2)) (fun k => by unfold wide_Dot.f; rw [if_neg (by omega)]) (Ev.now _)) ?_
      refine Ev.bind (a := (dig 0, 2)) (Ev.congr (f := fun k => (lapidaryref08_Of.f k 0).bind fun t221 => (some (t221, 2))) (fun k => by unfold lapidaryref08_Dot.f; rw [if_neg (by omega)]) (Ev.bind (Of_ev (x := 0) (by decide) (by decide)) (Ev.now _))) ?_
      refine Ev.bind (lis_num 0) ?_
      simp only [if_pos]
      exact Ev.bind (f := fun _ t => some t) known_ev (Ev.now true)

end Go.Proofs.Ytaaeaihmhdlpfaa.Pure
