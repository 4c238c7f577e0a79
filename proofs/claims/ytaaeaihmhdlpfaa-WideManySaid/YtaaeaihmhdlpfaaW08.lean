/- The laws of wide numbers: what all of them use: the chapter's examples hold; sums of products; a wide number as a word. -/
import Derived.Test.YtaaeaihmhdlpfaaPx10
import Derived.Test.YtaaeaihmhdlpfaaPx5
import Derived.Test.YtaaeaihmhdlpfaaPx9
import Derived.Test.YtaaeaihmhdlpfaaWL4
namespace Go.Proofs.Ytaaeaihmhdlpfaa.WL
set_option linter.unusedVariables false
set_option linter.unusedSimpArgs false
open Go.RowKit Go.Proofs.Ytaaeaihmhdlpfaa.P Go.Proofs.Ytaaeaihmhdlpfaa.X Go.Proofs.YtaaeaihmhdlpfaaW.PrintWords Go.Proofs.YtaaeaihmhdlpfaaW.PrintLast Go.Proofs.YtaaeaihmhdlpfaaW.PrintMore

theorem b64 {x : Int} (h : (Lit.int .i64 x).wf = true) : -9223372036854775808 ≤ x ∧ x ≤ 9223372036854775807 := by
  simpa [Lit.wf, IntKind.min, IntKind.max, IntKind.signed, IntKind.bits] using h
theorem bu64 {x : Int} (h : (Lit.int .u64 x).wf = true) : 0 ≤ x ∧ x < 18446744073709551616 := by
  have : 0 ≤ x ∧ x ≤ 18446744073709551615 := by simpa [Lit.wf, IntKind.min, IntKind.max, IntKind.signed, IntKind.bits] using h
  omega
theorem b32 {x : Int} (h : (Lit.int .i32 x).wf = true) : -2147483648 ≤ x ∧ x ≤ 2147483647 := by
  simpa [Lit.wf, IntKind.min, IntKind.max, IntKind.signed, IntKind.bits] using h
theorem known_ev : Ev (fun k => lapidarylaw08_known.f k) true := by
  unfold lapidarylaw08_known.f
  refine Ev.bind (a := (0, 0, 2)) (Ev.congr (f := fun _ => some (0, 0, 2)) (fun k => by unfold wide_Dot.f; rw [if_neg (by decide)]) (Ev.now _)) ?_
  simp only [wMul_eq (a := -1) (b := 1) (by decide) (by decide) (by decide) (by decide), wMul_eq (a := 4611686018427387904) (b := 4) (by decide) (by decide) (by decide) (by decide), wOf_eq (a := -5) (by decide) (by decide), wSign_eq, Option.bind_some]
  refine Ev.congr (f := fun _ => some true) (fun k => ?_) (Ev.now _)
  rw [if_pos (by decide), if_pos (by decide), if_pos (by decide)]
  congr 1
theorem lis_ev {x hi lo : Int} (h1 : -9223372036854775808 ≤ hi) (h2 : hi ≤ 9223372036854775807) (h3 : 0 ≤ lo) (h4 : lo < 18446744073709551616) (h : (x - (hi * 18446744073709551616 + lo)) % 340282366920938463463374607431768211456 = 0) :
    Ev (fun k => lapidarylaw08_is.f k hi lo (dig x)) true := by
  unfold lapidarylaw08_is.f
  exact Ev.bind (f := fun n t => some t) (Is_ev h1 h2 h3 h4 h) (Ev.now true)
theorem lis_num (x : Int) : Ev (fun k => lapidarylaw08_is.f k (hiw x) (low x) (dig x)) true :=
  lis_ev (hiw_range x).1 (hiw_range x).2 (low_range x).1 (low_range x).2 (val_mod x)

/-! ### Dot -/
theorem wDot_l0 (l : List Int) (hl : l.length < 9000000000000000000) (hr : ∀ x ∈ l, -9223372036854775808 ≤ x ∧ x ≤ 9223372036854775807) : ∀ (n i : Nat) (x : Int), i + 2 * n = l.length →
    Ev (fun k => wide_Dot.l0 k l (i : Int) (hiw x) (low x)) (hiw (x + dotS (l.drop i)), low (x + dotS (l.drop i)), 0) := by
  intro n
  induction n with
  | zero =>
    intro i x hi
    rw [List.drop_of_length_le (by omega)]
    refine Ev.step (f := fun _ => some (hiw x, low x, 0)) (fun k => by simp only [wide_Dot.l0]; rw [if_neg (by omega)]) ?_
    simp only [dotS, Int.add_zero]
    exact Ev.now _
  | succ n ih =>
    intro i x hi
    have hA : i < l.length := by omega
    have hB : i + 1 < l.length := by omega
    have ra := hr _ (List.getElem_mem hA)
    have rb := hr _ (List.getElem_mem hB)
    have e2 : wrap64 ((i : Int) + 2) = ((i + 2 : Nat) : Int) := by unfold wrap64; omega
    have q1 : (i : Int) < (l.length : Int) := by omega
    have q2 : ((i + 1 : Nat) : Int) < (l.length : Int) := by omega
    refine Ev.step (f := fun k => (wide_Add.f k (hiw x) (low x) ([num (l[i] * l[i + 1])] : List S25)).bind fun bt170 => (wide_Dot.l0 k l ((i + 2 : Nat) : Int) bt170.1 bt170.2)) (fun k => ?_) ?_
    · simp only [wide_Dot.l0]
      rw [w64_succ i (by omega), if_pos q1, if_pos (by omega), if_pos (by omega), if_pos q2, rd_nat l i hA, rd_nat l (i + 1) hB, wMul_eq ra.1 ra.2 rb.1 rb.2, e2]
      rfl
    · refine Ev.bind (wAdd_ev _ _) ?_
      have := ih (i + 2) (x + l[i] * l[i + 1]) (by omega)
      rw [List.drop_eq_getElem_cons hA, List.drop_eq_getElem_cons hB]
      simp only [dotS]
      rw [← Int.add_assoc]
      exact this
theorem wDot_ev {l : List Int} (hl : l.length < 9000000000000000000) (hr : ∀ x ∈ l, -9223372036854775808 ≤ x ∧ x ≤ 9223372036854775807) (he : l.length % 2 = 0) :
    Ev (fun k => wide_Dot.f k l) (hiw (dotS l), low (dotS l), 0) := by
  have := wDot_l0 l hl hr (l.length / 2) 0 0 (by omega)
  rw [List.drop_zero, Int.zero_add] at this
  refine Ev.congr (f := fun k => wide_Dot.l0 k l ((0 : Nat) : Int) (hiw 0) (low 0)) (fun k => ?_) this
  unfold wide_Dot.f; rw [if_pos (by omega)]; rfl
end Go.Proofs.Ytaaeaihmhdlpfaa.WL
