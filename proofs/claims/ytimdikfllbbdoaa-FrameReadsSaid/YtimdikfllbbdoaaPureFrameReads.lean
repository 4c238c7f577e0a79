/- Any bytes are the sections that the document says, or the first thing is told that is wrong with them. No condition. -/
import Derived.Test.YtimdikfllbbdoaaPx33
import Derived.Test.YtimdikfllbbdoaaFN
namespace Go.Proofs.Ytimdikfllbbdoaa.Pure
set_option linter.unusedVariables false
set_option linter.unusedSimpArgs false
open Go.RowKit Go.Proofs.Ytimdikfllbbdoaa.P Go.Proofs.Ytimdikfllbbdoaa.C Go.Proofs.Ytimdikfllbbdoaa.Fv Go.Proofs.YtimdikfllbbdoaaW.PrintWords Go.Proofs.YtimdikfllbbdoaaW.PrintLast

theorem decV_few : ∀ (f : Nat) (l : List Int) (q : Int) (out : List S33), (decV f l q out).1.length ≤ out.length + f
  | 0, _, _, _ => Nat.zero_le _
  | f + 1, l, q, out => by
    rw [decV]
    split
    · exact Nat.zero_le _
    · split
      · split
        · exact Nat.zero_le _
        · show out.length ≤ _; omega
      · have := decV_few f (l.drop (secV l q).2.2.1) (secV l q).1 (out ++ [⟨(secV l q).1, (secV l q).2.1⟩])
        rw [List.length_append] at this
        have e : [(⟨(secV l q).1, (secV l q).2.1⟩ : S33)].length = 1 := rfl
        omega
theorem decW_few (b : List Int) : (decW b).1.length ≤ b.length + 1 := by
  unfold decW
  split
  · have := decV_few (b.length + 1) (b.drop 5) 0 []
    simpa using this
  · exact Nat.zero_le _
theorem FrameReads : lapidarylaw03_FrameReads.Pure := by
  intro b _ _ hw
  have h : ∀ c ∈ b, 0 ≤ c ∧ c ≤ 255 := fun c hc => by simpa [Lit.wf, IntKind.min, IntKind.max, IntKind.signed, IntKind.bits] using hw c hc
  refine Ev.rounds (g := fun k => lapidarylaw03_FrameReads.f k b) ?_
  unfold lapidarylaw03_FrameReads.f
  by_cases h2 : (b.length : Int) > 1200
  · simp only [if_pos h2]
    exact Ev.bind known_ev (Ev.now _)
  · simp only [if_neg h2]
    have hf := decW_few b
    refine Ev.bind (dec_ev b h (by omega)) ?_
    refine Ev.bind (rdec_ev b h (by omega)) ?_
    refine Ev.bind (rsame_self _ (by omega)) ?_
    simp only [if_true]
    exact Ev.bind known_ev (Ev.now _)
end Go.Proofs.Ytimdikfllbbdoaa.Pure
