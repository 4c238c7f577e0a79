/- What is sealed is four bytes longer, begins as it was, and is what it is sealed of. No condition. -/
import Derived.Test.YteiimfmanfafhaaPx18
import Derived.Test.YteiimfmanfafhaaCH
namespace Go.Proofs.Yteiimfmanfafhaa.Pure
set_option linter.unusedVariables false
open Go.RowKit Go.Proofs.Yteiimfmanfafhaa.P Go.Proofs.Yteiimfmanfafhaa.C Go.Proofs.YteiimfmanfafhaaW.PrintWords Go.Proofs.YteiimfmanfafhaaW.PrintLast

theorem CrcSeals : lapidarylaw02_CrcSeals.Pure := by
  intro b _ hl hw
  have h : ∀ c ∈ b, 0 ≤ c ∧ c ≤ 255 := fun c hc => by simpa [Lit.wf, IntKind.min, IntKind.max, IntKind.signed, IntKind.bits] using hw c hc
  refine Ev.rounds (g := fun k => lapidarylaw02_CrcSeals.f k b) ?_
  unfold lapidarylaw02_CrcSeals.f lapidarylaw02_known.f
  by_cases h2 : (b.length : Int) > 2000
  · simp only [if_pos h2, Option.bind_some]
    exact Ev.now _
  · have hs := seal_f b (by omega)
    have hc := chk_seal b h
    have hw2 : ∀ c ∈ b ++ bytes4 (ofV [b]), 0 ≤ c ∧ c ≤ 255 := fun c hc => by
      rcases List.mem_append.1 hc with hc | hc
      · exact h c hc
      · exact bytes4_wf _ c hc
    generalize ofV [b] = T at *
    have l4 : (b ++ bytes4 T).length = b.length + 4 := by rw [List.length_append]; rfl
    have h1 := check_ev (b ++ bytes4 T) hw2 (by omega)
    have h3 := rcheck_ev (b ++ bytes4 T) hw2 (by omega)
    rw [hc] at h1 h3
    have ht : (b ++ bytes4 T).take b.length = b := by simp
    generalize b ++ bytes4 T = s at *
    simp only [if_neg h2]
    refine Ev.bind (a := s) (by rw [hs]; exact Ev.now _) ?_
    simp only [l4, w64 (x := (b.length : Int) + 4) (by omega) (by omega), if_pos (show ((b.length + 4 : Nat) : Int) = (b.length : Int) + 4 by omega), if_pos (show (0 : Int) ≤ (b.length : Int) by omega), if_pos (show (b.length : Int) ≤ ((b.length + 4 : Nat) : Int) by omega), Int.toNat_natCast, ht]
    rw [same_self]
    simp only [Option.bind_some, Bool.not_true]
    refine Ev.step (fun k => lapidarylaw02_CrcSeals.j0.eq_2 _ _ _ _) ?_
    simp only [Bool.false_eq_true, if_false]
    refine Ev.bind h1 ?_
    refine Ev.bind h3 ?_
    simp only [if_true]
    unfold lapidarylaw02_known.f
    rw [same_self]
    simp only [Option.bind_some, if_true]
    exact Ev.now _
end Go.Proofs.Yteiimfmanfafhaa.Pure
