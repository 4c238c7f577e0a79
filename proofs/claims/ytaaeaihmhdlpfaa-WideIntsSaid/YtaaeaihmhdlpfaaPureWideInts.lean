/- A word comes back from a wide number, and just those wide numbers that are words are any. No condition. -/
import Derived.Test.YtaaeaihmhdlpfaaPx21
import Derived.Test.YtaaeaihmhdlpfaaW08
import Derived.Test.YtaaeaihmhdlpfaaW08I
namespace Go.Proofs.Ytaaeaihmhdlpfaa.Pure
set_option linter.unusedVariables false
set_option linter.unusedSimpArgs false
open Go.RowKit Go.Proofs.Ytaaeaihmhdlpfaa.P Go.Proofs.Ytaaeaihmhdlpfaa.X Go.Proofs.Ytaaeaihmhdlpfaa.WL Go.Proofs.YtaaeaihmhdlpfaaW.PrintWords Go.Proofs.YtaaeaihmhdlpfaaW.PrintLast Go.Proofs.YtaaeaihmhdlpfaaW.PrintMore

theorem WideInts : lapidarylaw08_WideInts.Pure := by
  intro a h wa wh
  obtain ⟨a1, a2⟩ := b64 wa
  obtain ⟨h1, h2⟩ := b64 wh
  refine Ev.rounds (g := fun k => lapidarylaw08_WideInts.f k a h) ?_
  unfold lapidarylaw08_WideInts.f
  have K : Ev (fun k => (lapidarylaw08_known.f k).bind fun t => some t) true := Ev.bind (f := fun _ t => some t) known_ev (Ev.now true)
  simp only [wOf_eq a1 a2, wInt_of a1 a2, Option.bind_some]
  rw [wInt_eq, u64w]
  have e : wrap64 (a % 18446744073709551616) = a := by unfold wrap64; omega
  have el : low a = a % 18446744073709551616 := rfl
  rw [e]
  by_cases c0 : h = 0
  · by_cases c1 : a ≥ 0
    · rw [if_pos (by unfold hiw low; omega)]
      simpa only [Option.bind_some, if_pos c0, if_pos c1, if_true, if_pos, beq_self_eq_true] using K
    · have cm : ¬ h = -1 := by omega
      rw [if_neg (by unfold hiw low; omega)]
      simpa [c0, c1, cm] using K
  · by_cases c1 : h = -1
    · by_cases c2 : a < 0
      · rw [if_pos (by unfold hiw low; omega)]
        simpa [c0, c1, c2] using K
      · rw [if_neg (by unfold hiw low; omega)]
        simpa [c0, c1, c2] using K
    · rw [if_neg (by unfold hiw low; omega)]
      simpa [c0, c1] using K

end Go.Proofs.Ytaaeaihmhdlpfaa.Pure
