/- Points of the plane: what the document's functions answer. -/
import Derived.Test.YtlnjbpapbifjfaaPx17
import Derived.Test.YtlnjbpapbifjfaaPx22
import Derived.Test.YtlnjbpapbifjfaaPx23
import Derived.Test.YtlnjbpapbifjfaaPx24
import Derived.Test.YtlnjbpapbifjfaaPx25
import Derived.Test.YtlnjbpapbifjfaaWR
import Derived.Test.YtlnjbpapbifjfaaGA
namespace Go.Proofs.Ytlnjbpapbifjfaa.G
set_option linter.unusedVariables false
set_option linter.unusedSimpArgs false
open Go.RowKit Go.Proofs.Ytlnjbpapbifjfaa.P Go.Proofs.Ytlnjbpapbifjfaa.X Go.Proofs.Ytlnjbpapbifjfaa.WL Go.Proofs.YtlnjbpapbifjfaaW.PrintWords Go.Proofs.YtlnjbpapbifjfaaW.PrintLast Go.Proofs.YtlnjbpapbifjfaaW.PrintMore
theorem rRight_l0 (l : List Pt) (hl : l.length ≤ 9223372036854775807) : ∀ (n i : Nat), i + n = l.length → Ev (fun k => lapidaryref09_Right.l0 k l (i : Int)) ((l.drop i).all rt) := by
  intro n
  induction n with
  | zero =>
    intro i hi
    rw [List.drop_of_length_le (by omega)]
    exact Ev.step (f := fun _ => some true) (fun k => by simp only [lapidaryref09_Right.l0]; rw [if_neg (by omega)]) (Ev.now _)
  | succ n ih =>
    intro i hi
    have hA : i < l.length := by omega
    rw [List.drop_eq_getElem_cons hA, List.all_cons]
    have I := ih (i + 1) (by omega)
    have q1 : (i : Int) < (l.length : Int) := by omega
    by_cases hp : rt l[i] = true
    · rw [hp, Bool.true_and]
      obtain ⟨h1, h2, h3, h4, h5⟩ := rt_iff.1 hp
      refine Ev.step (f := fun k => lapidaryref09_Right.l0 k l ((i + 1 : Nat) : Int)) (fun k => ?_) I
      simp only [lapidaryref09_Right.l0]
      rw [if_pos q1, if_pos (by omega), rdp l i hA, if_neg (by omega), if_neg (by omega), if_neg (by omega), if_neg (by omega), if_pos h1, w64_succ i (by omega)]
    · rw [Bool.eq_false_iff.2 hp, Bool.false_and]
      refine Ev.step (f := fun _ => some false) (fun k => ?_) (Ev.now _)
      rw [rt_iff] at hp
      simp only [lapidaryref09_Right.l0]
      rw [if_pos q1, if_pos (by omega), rdp l i hA]
      by_cases h2 : l[i].f0 < -2147483648
      · rw [if_pos h2]
      · rw [if_neg h2]
        by_cases h3 : l[i].f0 > 2147483647
        · rw [if_pos h3]
        · rw [if_neg h3]
          by_cases h4 : l[i].f1 < -2147483648
          · rw [if_pos h4]
          · rw [if_neg h4]
            by_cases h5 : l[i].f1 > 2147483647
            · rw [if_pos h5]
            · rw [if_neg h5, if_neg (by omega)]
theorem rRight_ev (l : List Pt) (hl : l.length ≤ 9223372036854775807) : Ev (fun k => lapidaryref09_Right.f k l) (l.all rt) := by
  have := rRight_l0 l hl l.length 0 (by omega)
  exact Ev.congr (f := fun k => lapidaryref09_Right.l0 k l ((0 : Nat) : Int)) (fun k => by unfold lapidaryref09_Right.f; rfl) this

theorem rprod_ev {a b : Int} (h1 : -9223372036854775808 ≤ a) (h2 : a ≤ 9223372036854775807) (h3 : -9223372036854775808 ≤ b) (h4 : b ≤ 9223372036854775807) : Ev (fun k => lapidaryref09_product.f k a b) (dig (a * b)) := by
  unfold lapidaryref09_product.f
  refine Ev.bind (Of_ev h1 h2) ?_
  refine Ev.bind (Of_ev h3 h4) ?_
  exact Ev.bind (f := fun _ t => some t) (Mul_ev a b) (Ev.now _)
theorem rTurn_ev (a b c : Pt) : Ev (fun k => lapidaryref09_Turn.f k a.f0 a.f1 a.f2 b.f0 b.f1 b.f2 c.f0 c.f1 c.f2) (if rt a && (rt b && rt c) then side a b c else 0) := by
  unfold lapidaryref09_Turn.f
  refine Ev.bind (rRight_ev [a, b, c] (by simp)) ?_
  simp only [List.all_cons, List.all_nil, Bool.and_true]
  by_cases h : (rt a && (rt b && rt c)) = true
  · simp only [if_pos h]
    simp only [Bool.and_eq_true] at h
    obtain ⟨ha, hb, hc⟩ := h
    obtain ⟨⟨m1, m2⟩, m3, m4⟩ := cross_two ha hb hc
    obtain ⟨_, a1, a2, a3, a4⟩ := rt_iff.1 ha
    obtain ⟨_, b1, b2, b3, b4⟩ := rt_iff.1 hb
    obtain ⟨_, c1, c2, c3, c4⟩ := rt_iff.1 hc
    rw [w64_id (x := b.f0 - a.f0) (by omega) (by omega), w64_id (x := c.f1 - a.f1) (by omega) (by omega), w64_id (x := b.f1 - a.f1) (by omega) (by omega), w64_id (x := c.f0 - a.f0) (by omega) (by omega)]
    refine Ev.bind (rprod_ev (by omega) (by omega) (by omega) (by omega)) ?_
    refine Ev.bind (rprod_ev (by omega) (by omega) (by omega) (by omega)) ?_
    have C := Cmp_ev ((b.f0 - a.f0) * (c.f1 - a.f1)) ((b.f1 - a.f1) * (c.f0 - a.f0))
    rw [cmp_sub m1 m2 m3 m4] at C
    exact Ev.bind (f := fun _ t => some t) C (Ev.now _)
  · simp only [if_neg h]; exact Ev.now _

theorem within_eq (n a b : Int) : lapidaryref09_within.f n a b = some (decide (min a b ≤ n ∧ n ≤ max a b)) := by
  unfold lapidaryref09_within.f
  by_cases h1 : a ≤ n <;> by_cases h2 : n ≤ b <;> by_cases h3 : b ≤ n <;> by_cases h4 : n ≤ a <;> simp [h1, h2, h3, h4] <;> omega
theorem rOn_ev (p a b : Pt) : Ev (fun k => lapidaryref09_On.f k p.f0 p.f1 p.f2 a.f0 a.f1 a.f2 b.f0 b.f1 b.f2) (onB p a b) := by
  unfold lapidaryref09_On.f
  refine Ev.bind (rRight_ev [p, a, b] (by simp)) ?_
  simp only [List.all_cons, List.all_nil, Bool.and_true]
  by_cases h : (rt p && (rt a && rt b)) = true
  · simp only [if_pos h]
    simp only [Bool.and_eq_true] at h
    obtain ⟨hp, ha, hb⟩ := h
    have T := rTurn_ev a b p
    rw [ha, hb, hp] at T
    refine Ev.bind T ?_
    simp only [Bool.and_self, if_true]
    unfold onB
    simp only [hp, ha, hb, Bool.true_and, within_eq, Option.bind_some]
    by_cases h0 : side a b p = 0
    · simp only [if_pos h0]
      have h0' := side0.1 h0
      refine Ev.congr (f := fun _ => some (decide (cross a b p = 0 ∧ (min a.f0 b.f0 ≤ p.f0 ∧ p.f0 ≤ max a.f0 b.f0) ∧ (min a.f1 b.f1 ≤ p.f1 ∧ p.f1 ≤ max a.f1 b.f1)))) (fun k => ?_) (Ev.now _)
      by_cases g1 : min a.f0 b.f0 ≤ p.f0 ∧ p.f0 ≤ max a.f0 b.f0 <;> simp [h0', g1]
    · simp only [if_neg h0]
      have h0' : ¬ cross a b p = 0 := fun e => h0 (side0.2 e)
      rw [show decide (cross a b p = 0 ∧ (min a.f0 b.f0 ≤ p.f0 ∧ p.f0 ≤ max a.f0 b.f0) ∧ (min a.f1 b.f1 ≤ p.f1 ∧ p.f1 ≤ max a.f1 b.f1)) = false by simp [h0']]
      exact Ev.now _
  · simp only [if_neg h]
    rw [show onB p a b = false by
      unfold onB
      cases hp : rt p <;> cases ha : rt a <;> cases hb : rt b <;> simp_all]
    exact Ev.now _
end Go.Proofs.Ytlnjbpapbifjfaa.G
