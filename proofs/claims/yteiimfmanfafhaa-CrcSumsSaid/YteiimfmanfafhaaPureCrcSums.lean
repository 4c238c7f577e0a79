/- Of any bytes the checksum is what the document says, and what they are sealed. No condition. -/
import Derived.Test.YteiimfmanfafhaaPx17
import Derived.Test.YteiimfmanfafhaaCH
namespace Go.Proofs.Yteiimfmanfafhaa.Pure
set_option linter.unusedVariables false
open Go.RowKit Go.Proofs.Yteiimfmanfafhaa.P Go.Proofs.Yteiimfmanfafhaa.C Go.Proofs.YteiimfmanfafhaaW.PrintWords Go.Proofs.YteiimfmanfafhaaW.PrintLast

theorem CrcSums : lapidarylaw02_CrcSums.Pure := by
  intro b _ hl hw
  have h : ∀ c ∈ b, 0 ≤ c ∧ c ≤ 255 := fun c hc => by simpa [Lit.wf, IntKind.min, IntKind.max, IntKind.signed, IntKind.bits] using hw c hc
  refine Ev.rounds (g := fun k => lapidarylaw02_CrcSums.f k b) ?_
  unfold lapidarylaw02_CrcSums.f lapidarylaw02_known.f
  by_cases h2 : (b.length : Int) > 2000
  · simp only [if_pos h2, Option.bind_some]
    exact Ev.now _
  · have ho : crc_Of.f [b] = some (ofV [b]) := rfl
    have hr := rof_ev b h (by omega)
    have hs := seal_f b (by omega)
    have hq := rseal_ev b h (by omega)
    generalize ofV [b] = T at *
    simp only [if_neg h2]
    refine Ev.bind (a := T) (by rw [ho]; exact Ev.now _) ?_
    refine Ev.bind hr ?_
    simp only [if_true]
    refine Ev.bind (a := b ++ bytes4 T) (by rw [hs]; exact Ev.now _) ?_
    refine Ev.bind hq ?_
    rw [same_self]
    simp only [Option.bind_some, if_true]
    exact Ev.now _
end Go.Proofs.Yteiimfmanfafhaa.Pure
