/- Points of the plane: which are points, to which side one turns, whether one lies between: what the program's functions answer. -/
import Derived.Test.YtlnjbpapbifjfaaPx3
import Derived.Test.YtlnjbpapbifjfaaPx11
import Derived.Test.YtlnjbpapbifjfaaPx12
import Derived.Test.YtlnjbpapbifjfaaWW
namespace Go.Proofs.Ytlnjbpapbifjfaa.G
set_option linter.unusedVariables false
set_option linter.unusedSimpArgs false
open Go.RowKit Go.Proofs.Ytlnjbpapbifjfaa.P Go.Proofs.Ytlnjbpapbifjfaa.X Go.Proofs.Ytlnjbpapbifjfaa.WL Go.Proofs.YtlnjbpapbifjfaaW.PrintWords Go.Proofs.YtlnjbpapbifjfaaW.PrintLast Go.Proofs.YtlnjbpapbifjfaaW.PrintMore
abbrev Pt := S23
/-- A point of the plane. -/
def rt (p : Pt) : Bool := decide (p.f2 = 0 ∧ -2147483648 ≤ p.f0 ∧ p.f0 ≤ 2147483647 ∧ -2147483648 ≤ p.f1 ∧ p.f1 ≤ 2147483647)
theorem rt_iff {p : Pt} : rt p = true ↔ p.f2 = 0 ∧ -2147483648 ≤ p.f0 ∧ p.f0 ≤ 2147483647 ∧ -2147483648 ≤ p.f1 ∧ p.f1 ≤ 2147483647 := by unfold rt; simp
theorem rdp (l : List Pt) (i : Nat) (h : i < l.length) : rd_T23 l (i : Int) = l[i] := by
  unfold rd_T23; rw [List.getD_eq_getElem?_getD, Int.toNat_natCast, List.getElem?_eq_getElem h]; rfl

theorem gRight_l0 (l : List Pt) (hl : l.length ≤ 9223372036854775807) : ∀ (n i : Nat), i + n = l.length → Ev (fun k => geom_Right.l0 k l (l.length : Int) (i : Int)) ((l.drop i).all rt) := by
  intro n
  induction n with
  | zero =>
    intro i hi
    rw [List.drop_of_length_le (by omega)]
    exact Ev.step (f := fun _ => some true) (fun k => by simp only [geom_Right.l0]; rw [if_neg (by omega)]) (Ev.now _)
  | succ n ih =>
    intro i hi
    have hA : i < l.length := by omega
    rw [List.drop_eq_getElem_cons hA, List.all_cons]
    have I := ih (i + 1) (by omega)
    have q1 : (i : Int) < (l.length : Int) := by omega
    by_cases hp : rt l[i] = true
    · rw [hp, Bool.true_and]
      obtain ⟨h1, h2, h3, h4, h5⟩ := rt_iff.1 hp
      refine Ev.step (f := fun k => geom_Right.l0 k l (l.length : Int) ((i + 1 : Nat) : Int)) (fun k => ?_) I
      simp only [geom_Right.l0]
      rw [if_pos q1, if_pos (by omega), if_pos q1, rdp l i hA, if_pos h1, if_neg (by omega), if_neg (by omega), if_neg (by omega), if_neg (by omega), w64_succ i (by omega)]
    · rw [Bool.eq_false_iff.2 hp, Bool.false_and]
      refine Ev.step (f := fun _ => some false) (fun k => ?_) (Ev.now _)
      rw [rt_iff] at hp
      simp only [geom_Right.l0]
      rw [if_pos q1, if_pos (by omega), if_pos q1, rdp l i hA]
      by_cases h1 : l[i].f2 = 0
      · rw [if_pos h1]
        by_cases h2 : l[i].f0 < -2147483648
        · rw [if_pos h2]
        · rw [if_neg h2]
          by_cases h3 : l[i].f0 > 2147483647
          · rw [if_pos h3]
          · rw [if_neg h3]
            by_cases h4 : l[i].f1 < -2147483648
            · rw [if_pos h4]
            · rw [if_neg h4, if_pos (by omega)]
      · rw [if_neg h1]
theorem gRight_ev (l : List Pt) (hl : l.length ≤ 9223372036854775807) : Ev (fun k => geom_Right.f k l) (l.all rt) := by
  have := gRight_l0 l hl l.length 0 (by omega)
  exact Ev.congr (f := fun k => geom_Right.l0 k l (l.length : Int) ((0 : Nat) : Int)) (fun k => by unfold geom_Right.f; rfl) this
/-- Twice the area of three points. -/
def cross (a b c : Pt) : Int := (b.f0 - a.f0) * (c.f1 - a.f1) - (b.f1 - a.f1) * (c.f0 - a.f0)
def side (a b c : Pt) : Int := cmp3 (cross a b c) 0
theorem mulb33 {x y : Int} (h1 : -4294967296 ≤ x) (h2 : x ≤ 4294967296) (h3 : -4294967296 ≤ y) (h4 : y ≤ 4294967296) : -18446744073709551616 ≤ x * y ∧ x * y ≤ 18446744073709551616 := by
  have key : ∀ u v : Int, 0 ≤ u → u ≤ 4294967296 → 0 ≤ v → v ≤ 4294967296 → 0 ≤ u * v ∧ u * v ≤ 18446744073709551616 := fun u v a b c d =>
    ⟨Int.mul_nonneg a c, by have := Int.mul_le_mul b d c (by decide); exact this⟩
  by_cases hx : 0 ≤ x <;> by_cases hy : 0 ≤ y
  · have := key x y hx h2 hy h4; omega
  · have := key x (-y) hx h2 (by omega) (by omega); rw [Int.mul_neg] at this; omega
  · have := key (-x) y (by omega) (by omega) hy h4; rw [Int.neg_mul] at this; omega
  · have := key (-x) (-y) (by omega) (by omega) (by omega) (by omega); rw [Int.neg_mul_neg] at this; omega
theorem cross_two {a b c : Pt} (ha : rt a = true) (hb : rt b = true) (hc : rt c = true) :
    (-18446744073709551616 ≤ (b.f0 - a.f0) * (c.f1 - a.f1) ∧ (b.f0 - a.f0) * (c.f1 - a.f1) ≤ 18446744073709551616) ∧ (-18446744073709551616 ≤ (b.f1 - a.f1) * (c.f0 - a.f0) ∧ (b.f1 - a.f1) * (c.f0 - a.f0) ≤ 18446744073709551616) := by
  obtain ⟨_, a1, a2, a3, a4⟩ := rt_iff.1 ha
  obtain ⟨_, b1, b2, b3, b4⟩ := rt_iff.1 hb
  obtain ⟨_, c1, c2, c3, c4⟩ := rt_iff.1 hc
  exact ⟨mulb33 (by omega) (by omega) (by omega) (by omega), mulb33 (by omega) (by omega) (by omega) (by omega)⟩
theorem gturn_ev {a b c : Pt} (ha : rt a = true) (hb : rt b = true) (hc : rt c = true) : Ev (fun k => geom_turn.f k a.f0 a.f1 a.f2 b.f0 b.f1 b.f2 c.f0 c.f1 c.f2) (side a b c) := by
  obtain ⟨_, a1, a2, a3, a4⟩ := rt_iff.1 ha
  obtain ⟨_, b1, b2, b3, b4⟩ := rt_iff.1 hb
  obtain ⟨_, c1, c2, c3, c4⟩ := rt_iff.1 hc
  obtain ⟨⟨m1, m2⟩, m3, m4⟩ := cross_two ha hb hc
  unfold geom_turn.f
  rw [w64_id (x := b.f0 - a.f0) (by omega) (by omega), w64_id (x := c.f1 - a.f1) (by omega) (by omega), w64_id (x := a.f1 - b.f1) (by omega) (by omega), w64_id (x := c.f0 - a.f0) (by omega) (by omega)]
  have D := wDot_ev (l := [b.f0 - a.f0, c.f1 - a.f1, a.f1 - b.f1, c.f0 - a.f0]) (by simp) (by
    intro x hx
    simp only [List.mem_cons, List.not_mem_nil, or_false] at hx
    rcases hx with rfl | rfl | rfl | rfl <;> omega) (by simp)
  have e : dotS [b.f0 - a.f0, c.f1 - a.f1, a.f1 - b.f1, c.f0 - a.f0] = cross a b c := by
    simp only [dotS, cross]
    rw [show a.f1 - b.f1 = -(b.f1 - a.f1) by omega, Int.neg_mul]
    generalize (b.f0 - a.f0) * (c.f1 - a.f1) = X
    generalize (b.f1 - a.f1) * (c.f0 - a.f0) = Y
    omega
  rw [e] at D
  refine Ev.bind D ?_
  rw [show wide_Sign.f (hiw (cross a b c)) (low (cross a b c)) = some (side a b c) by
    rw [wSign_eq, sign_of (by unfold cross; omega) (by unfold cross; omega)]; rfl]
  exact Ev.now _
theorem cmp_sub {x y : Int} (hx : -18446744073709551616 ≤ x) (hx' : x ≤ 18446744073709551616) (hy : -18446744073709551616 ≤ y) (hy' : y ≤ 18446744073709551616) : cmp3 (off x) (off y) = cmp3 (x - y) 0 := by
  unfold cmp3 off; split <;> split <;> first | rfl | omega | (split <;> first | rfl | omega | (split <;> first | rfl | omega))
/-- Does p lie between a and b? -/
def onB (p a b : Pt) : Bool := rt p && (rt a && (rt b && decide (cross a b p = 0 ∧ (min a.f0 b.f0 ≤ p.f0 ∧ p.f0 ≤ max a.f0 b.f0) ∧ (min a.f1 b.f1 ≤ p.f1 ∧ p.f1 ≤ max a.f1 b.f1))))
theorem side0 {a b c : Pt} : side a b c = 0 ↔ cross a b c = 0 := by unfold side; rw [cmp3_eq0]
theorem gOn_ev (p a b : Pt) : Ev (fun k => geom_On.f k p.f0 p.f1 p.f2 a.f0 a.f1 a.f2 b.f0 b.f1 b.f2) (onB p a b) := by
  unfold geom_On.f
  refine Ev.bind (gRight_ev [p, a, b] (by simp)) ?_
  simp only [List.all_cons, List.all_nil, Bool.and_true]
  by_cases h : (rt p && (rt a && rt b)) = true
  · simp only [if_pos h]
    simp only [Bool.and_eq_true] at h
    obtain ⟨hp, ha, hb⟩ := h
    refine Ev.bind (gturn_ev ha hb hp) ?_
    unfold onB mn mx
    simp only [hp, ha, hb, Bool.true_and]
    by_cases h0 : side a b p = 0
    · simp only [if_pos h0]
      have h0' := side0.1 h0
      refine Ev.congr (f := fun _ => some (decide (cross a b p = 0 ∧ (min a.f0 b.f0 ≤ p.f0 ∧ p.f0 ≤ max a.f0 b.f0) ∧ (min a.f1 b.f1 ≤ p.f1 ∧ p.f1 ≤ max a.f1 b.f1)))) (fun k => ?_) (Ev.now _)
      have e0 : (if b.f0 < a.f0 then b.f0 else a.f0) = min a.f0 b.f0 := by omega
      have e1 : (if a.f0 < b.f0 then b.f0 else a.f0) = max a.f0 b.f0 := by omega
      have e2 : (if b.f1 < a.f1 then b.f1 else a.f1) = min a.f1 b.f1 := by omega
      have e3 : (if a.f1 < b.f1 then b.f1 else a.f1) = max a.f1 b.f1 := by omega
      rw [e0, e1, e2, e3]
      by_cases g1 : min a.f0 b.f0 ≤ p.f0 <;> by_cases g2 : p.f0 ≤ max a.f0 b.f0 <;> by_cases g3 : min a.f1 b.f1 ≤ p.f1 <;> simp [h0', g1, g2, g3]
    · simp only [if_neg h0]
      have h0' : ¬ cross a b p = 0 := fun e => h0 (side0.2 e)
      rw [show decide (cross a b p = 0 ∧ (min a.f0 b.f0 ≤ p.f0 ∧ p.f0 ≤ max a.f0 b.f0) ∧ (min a.f1 b.f1 ≤ p.f1 ∧ p.f1 ≤ max a.f1 b.f1)) = false by simp [h0']]
      exact Ev.now _
  · simp only [if_neg h]
    rw [show onB p a b = false by
      unfold onB
      cases hp : rt p <;> cases ha : rt a <;> cases hb : rt b <;> simp_all]
    exact Ev.now _
theorem cross_swap (a b c : Pt) : cross b a c = -cross a b c := by unfold cross; grind
theorem onB_swap (p a b : Pt) : onB p a b = onB p b a := by
  unfold onB
  have := cross_swap a b p
  rw [Bool.eq_iff_iff]
  simp only [Bool.and_eq_true, decide_eq_true_eq, Int.min_comm b.f0, Int.max_comm b.f0, Int.min_comm b.f1, Int.max_comm b.f1]
  constructor <;> (rintro ⟨h1, h2, h3, h4, h5⟩; exact ⟨h1, h3, h2, by omega, h5⟩)

end Go.Proofs.Ytlnjbpapbifjfaa.G
