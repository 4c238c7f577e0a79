/- The laws of wide numbers: the document's own sums of products. -/
import Derived.Test.YtaaeaihmhdlpfaaPx13
import Derived.Test.YtaaeaihmhdlpfaaW08
namespace Go.Proofs.Ytaaeaihmhdlpfaa.WL
set_option linter.unusedVariables false
set_option linter.unusedSimpArgs false
open Go.RowKit Go.Proofs.Ytaaeaihmhdlpfaa.P Go.Proofs.Ytaaeaihmhdlpfaa.X Go.Proofs.YtaaeaihmhdlpfaaW.PrintWords Go.Proofs.YtaaeaihmhdlpfaaW.PrintLast Go.Proofs.YtaaeaihmhdlpfaaW.PrintMore

theorem rDot_l0 (l : List Int) (hl : l.length < 9000000000000000000) (hr : ∀ x ∈ l, -9223372036854775808 ≤ x ∧ x ≤ 9223372036854775807) : ∀ (n i : Nat) (x : Int), i + 2 * n = l.length →
    Ev (fun k => lapidaryref08_Dot.l0 k l (i : Int) (dig x)) (dig (x + dotS (l.drop i)), 0) := by
  intro n
  induction n with
  | zero =>
    intro i x hi
    rw [List.drop_of_length_le (by omega)]
    refine Ev.step (f := fun _ => some (dig x, 0)) (fun k => by simp only [lapidaryref08_Dot.l0]; rw [if_neg (by omega)]) ?_
    simp only [dotS, Int.add_zero]
    exact Ev.now _
  | succ n ih =>
    intro i x hi
    have hA : i < l.length := by omega
    have hB : i + 1 < l.length := by omega
    have ra := hr _ (List.getElem_mem hA)
    have rb := hr _ (List.getElem_mem hB)
    have e2 : wrap64 ((i : Int) + 2) = ((i + 2 : Nat) : Int) := by unfold wrap64; omega
    have q1 : (i : Int) < (l.length : Int) := by omega
    have q2 : ((i + 1 : Nat) : Int) < (l.length : Int) := by omega
    refine Ev.step (f := fun k => (lapidaryref08_Of.f k l[i]).bind fun t229 => (lapidaryref08_Of.f k l[i + 1]).bind fun t233 => ((lapidaryref08_Mul.f k t229 t233).bind fun t236 => ((lapidaryref08_Add.f k (dig x) t236).bind fun t239 => (lapidaryref08_Dot.l0 k l ((i + 2 : Nat) : Int) t239)))) (fun k => ?_) ?_
    · simp only [lapidaryref08_Dot.l0]
      rw [if_pos q1, if_pos (by omega), w64_succ i (by omega)]
      simp only [if_pos (show (0 : Int) ≤ ((i + 1 : Nat) : Int) by omega), if_pos q2, rd_nat l i hA, rd_nat l (i + 1) hB, e2]
    · refine Ev.bind (Of_ev ra.1 ra.2) ?_
      refine Ev.bind (Of_ev rb.1 rb.2) ?_
      refine Ev.bind (Mul_ev _ _) ?_
      refine Ev.bind (Add_ev _ _) ?_
      have := ih (i + 2) (x + l[i] * l[i + 1]) (by omega)
      rw [List.drop_eq_getElem_cons hA, List.drop_eq_getElem_cons hB]
      simp only [dotS]
      rw [← Int.add_assoc]
      exact this
theorem rDot_ev {l : List Int} (hl : l.length < 9000000000000000000) (hr : ∀ x ∈ l, -9223372036854775808 ≤ x ∧ x ≤ 9223372036854775807) (he : l.length % 2 = 0) :
    Ev (fun k => lapidaryref08_Dot.f k l) (dig (dotS l), 0) := by
  have := rDot_l0 l hl hr (l.length / 2) 0 0 (by omega)
  rw [List.drop_zero, Int.zero_add] at this
  refine Ev.congr (f := fun k => (lapidaryref08_Of.f k 0).bind fun t224 => (lapidaryref08_Dot.l0 k l 0 t224)) (fun k => ?_) ?_
  · unfold lapidaryref08_Dot.f; rw [if_pos (by omega)]
  · exact Ev.bind (Of_ev (x := 0) (by decide) (by decide)) this

end Go.Proofs.Ytaaeaihmhdlpfaa.WL
