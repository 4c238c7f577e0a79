/- Two segments: what the program's function answers. -/
import Derived.Test.YtlnjbpapbifjfaaPx16
import Derived.Test.YtlnjbpapbifjfaaGM
namespace Go.Proofs.Ytlnjbpapbifjfaa.G
set_option linter.unusedVariables false
set_option linter.unusedSimpArgs false
open Go.RowKit Go.Proofs.Ytlnjbpapbifjfaa.P Go.Proofs.Ytlnjbpapbifjfaa.X Go.Proofs.Ytlnjbpapbifjfaa.WL Go.Proofs.YtlnjbpapbifjfaaW.PrintWords Go.Proofs.YtlnjbpapbifjfaaW.PrintLast Go.Proofs.YtlnjbpapbifjfaaW.PrintMore
theorem onB_iff {p a b : Pt} : onB p a b = true ↔ rt p = true ∧ rt a = true ∧ rt b = true ∧ cross a b p = 0 ∧ (min a.f0 b.f0 ≤ p.f0 ∧ p.f0 ≤ max a.f0 b.f0) ∧ (min a.f1 b.f1 ≤ p.f1 ∧ p.f1 ≤ max a.f1 b.f1) := by
  unfold onB; simp only [Bool.and_eq_true, decide_eq_true_eq]
theorem cross_self1 (a b : Pt) : cross a b a = 0 := by unfold cross; grind
theorem cross_self2 (a b : Pt) : cross a b b = 0 := by unfold cross; grind
theorem onB_left {a b : Pt} (ha : rt a = true) (hb : rt b = true) : onB a a b = true := onB_iff.2 ⟨ha, ha, hb, cross_self1 a b, by omega, by omega⟩
theorem onB_right {a b : Pt} (ha : rt a = true) (hb : rt b = true) : onB b a b = true := onB_iff.2 ⟨hb, ha, hb, cross_self2 a b, by omega, by omega⟩
/-- What runs along one line: by X, then Y. -/
theorem between {D e f g : Int} (hD : 0 < D) (h0 : 0 ≤ e) (h1 : e ≤ D) (h : D * f = g * e) : (0 ≤ g → 0 ≤ f ∧ f ≤ g) ∧ (g ≤ 0 → g ≤ f ∧ f ≤ 0) := by
  constructor
  · intro hg
    have a1 := Int.mul_nonneg hg h0
    have a2 := Int.mul_le_mul_of_nonneg_left h1 hg
    rw [← h] at a1 a2
    rw [Int.mul_comm g D] at a2
    exact ⟨by have := Int.le_of_mul_le_mul_left (a := D) (b := 0) (c := f) (by rw [Int.mul_zero]; exact a1) hD; exact this, Int.le_of_mul_le_mul_left a2 hD⟩
  · intro hg
    have a1 := Int.mul_nonneg (show 0 ≤ -g by omega) h0
    have a2 := Int.mul_le_mul_of_nonneg_left h1 (show 0 ≤ -g by omega)
    rw [Int.neg_mul, ← h] at a1
    rw [Int.neg_mul, Int.neg_mul, ← h, Int.mul_comm g D] at a2
    exact ⟨Int.le_of_mul_le_mul_left (a := D) (by omega) hD, by have := Int.le_of_mul_le_mul_left (a := D) (b := f) (c := 0) (by rw [Int.mul_zero]; omega) hD; exact this⟩
theorem on_key1 {x a b : Pt} (hx : rt x = true) (ha : rt a = true) (hb : rt b = true) (hc : cross a b x = 0) (hab : key a ≤ key b) :
    ((min a.f0 b.f0 ≤ x.f0 ∧ x.f0 ≤ max a.f0 b.f0) ∧ (min a.f1 b.f1 ≤ x.f1 ∧ x.f1 ≤ max a.f1 b.f1)) ↔ (key a ≤ key x ∧ key x ≤ key b) := by
  obtain ⟨_, a1, a2, a3, a4⟩ := rt_iff.1 ha
  obtain ⟨_, b1, b2, b3, b4⟩ := rt_iff.1 hb
  obtain ⟨_, x1, x2, x3, x4⟩ := rt_iff.1 hx
  have h : (b.f0 - a.f0) * (x.f1 - a.f1) = (b.f1 - a.f1) * (x.f0 - a.f0) := by unfold cross at hc; omega
  unfold key at *
  by_cases hD : 0 < b.f0 - a.f0
  · constructor
    · rintro ⟨⟨c1, c2⟩, c3, c4⟩
      constructor
      · by_cases e : x.f0 = a.f0
        · rw [e, Int.sub_self, Int.mul_zero] at h
          have := (Int.mul_eq_zero.1 h).resolve_left (by omega)
          omega
        · omega
      · by_cases e : x.f0 = b.f0
        · rw [e, Int.mul_comm] at h
          have := Int.eq_of_mul_eq_mul_right (by omega) h
          omega
        · omega
    · rintro ⟨c1, c2⟩
      have h0 : 0 ≤ x.f0 - a.f0 := by omega
      have h1 : x.f0 - a.f0 ≤ b.f0 - a.f0 := by omega
      obtain ⟨k1, k2⟩ := between hD h0 h1 h
      by_cases hg : 0 ≤ b.f1 - a.f1
      · have := k1 hg; omega
      · have := k2 (by omega); omega
  · have e : b.f0 = a.f0 := by omega
    omega
theorem on_key {x a b : Pt} (hx : rt x = true) (ha : rt a = true) (hb : rt b = true) (hc : cross a b x = 0) : onB x a b = true ↔ (min (key a) (key b) ≤ key x ∧ key x ≤ max (key a) (key b)) := by
  have base : ∀ {a b : Pt}, rt a = true → rt b = true → cross a b x = 0 → key a ≤ key b → (onB x a b = true ↔ (min (key a) (key b) ≤ key x ∧ key x ≤ max (key a) (key b))) := by
    intro a b ha hb hc h
    rw [onB_iff]
    have := on_key1 hx ha hb hc h
    constructor
    · rintro ⟨_, _, _, _, c⟩; have := this.1 c; omega
    · intro c; exact ⟨hx, ha, hb, hc, this.2 (by omega)⟩
  by_cases h : key a ≤ key b
  · exact base ha hb hc h
  · rw [onB_swap, base hb ha (by rw [cross_swap, hc]; rfl) (by omega)]; omega
/-- Two points that lie on both: all are of one line. -/
theorem one_line {x y a b c d : Pt} (h1 : onB x a b = true) (h2 : onB y a b = true) (h3 : onB x c d = true) (h4 : onB y c d = true) (hne : x ≠ y) : cross a b c = 0 := by
  obtain ⟨rx, _, _, p1, p2⟩ := onB_iff.1 h1
  obtain ⟨ry, _, _, q1, q2⟩ := onB_iff.1 h2
  obtain ⟨_, _, _, r1, r2⟩ := onB_iff.1 h3
  obtain ⟨_, _, _, s1, s2⟩ := onB_iff.1 h4
  obtain ⟨x2, _, _, _, _⟩ := rt_iff.1 rx
  obtain ⟨y2, _, _, _, _⟩ := rt_iff.1 ry
  have hv : x.f0 ≠ y.f0 ∨ x.f1 ≠ y.f1 := by
    refine Classical.byContradiction fun hn => hne ?_
    cases x; cases y
    simp only at *
    congr 1 <;> omega
  have hw : c.f0 ≠ d.f0 ∨ c.f1 ≠ d.f1 := by omega
  clear p2 q2 r2 s2 h1 h2 h3 h4 hne rx ry x2 y2
  unfold cross at *
  generalize hu0 : b.f0 - a.f0 = u0 at *
  generalize hu1 : b.f1 - a.f1 = u1 at *
  generalize hw0 : d.f0 - c.f0 = w0 at *
  generalize hw1 : d.f1 - c.f1 = w1 at *
  -- u × v = 0, w × v = 0, w × e = 0
  have uv : u0 * (y.f1 - x.f1) = u1 * (y.f0 - x.f0) := by
    have e1 : u0 * (y.f1 - x.f1) = u0 * (y.f1 - a.f1) - u0 * (x.f1 - a.f1) := by rw [← Int.mul_sub]; congr 1; omega
    have e2 : u1 * (y.f0 - x.f0) = u1 * (y.f0 - a.f0) - u1 * (x.f0 - a.f0) := by rw [← Int.mul_sub]; congr 1; omega
    omega
  have wv : w0 * (y.f1 - x.f1) = w1 * (y.f0 - x.f0) := by
    have e1 : w0 * (y.f1 - x.f1) = w0 * (y.f1 - c.f1) - w0 * (x.f1 - c.f1) := by rw [← Int.mul_sub]; congr 1; omega
    have e2 : w1 * (y.f0 - x.f0) = w1 * (y.f0 - c.f0) - w1 * (x.f0 - c.f0) := by rw [← Int.mul_sub]; congr 1; omega
    omega
  have we : w0 * (x.f1 - c.f1) = w1 * (x.f0 - c.f0) := by omega
  have ux : u0 * (x.f1 - a.f1) = u1 * (x.f0 - a.f0) := by omega
  have hv' : y.f0 - x.f0 ≠ 0 ∨ y.f1 - x.f1 ≠ 0 := by omega
  have hw' : w0 ≠ 0 ∨ w1 ≠ 0 := by omega
  have ue : u0 * (x.f1 - c.f1) = u1 * (x.f0 - c.f0) → u0 * (c.f1 - a.f1) - u1 * (c.f0 - a.f0) = 0 := by
    intro h
    have e1 : u0 * (c.f1 - a.f1) = u0 * (x.f1 - a.f1) - u0 * (x.f1 - c.f1) := by rw [← Int.mul_sub]; congr 1; omega
    have e2 : u1 * (c.f0 - a.f0) = u1 * (x.f0 - a.f0) - u1 * (x.f0 - c.f0) := by rw [← Int.mul_sub]; congr 1; omega
    omega
  apply ue
  clear ue ux p1 q1 r1 s1 hv hw hu0 hu1 hw0 hw1
  generalize y.f0 - x.f0 = v0 at *
  generalize y.f1 - x.f1 = v1 at *
  generalize x.f0 - c.f0 = e0 at *
  generalize x.f1 - c.f1 = e1 at *
  have uw : u0 * w1 - u1 * w0 = 0 := by
    rcases hv' with h | h
    · have : v0 * (u0 * w1 - u1 * w0) = 0 := by
        have a1 : v0 * (u0 * w1 - u1 * w0) = u0 * (w1 * v0) - w0 * (u1 * v0) := by grind
        rw [a1, ← wv, ← uv]; grind
      exact (Int.mul_eq_zero.1 this).resolve_left h
    · have : v1 * (u0 * w1 - u1 * w0) = 0 := by
        have a1 : v1 * (u0 * w1 - u1 * w0) = w1 * (u0 * v1) - u1 * (w0 * v1) := by grind
        rw [a1, wv, uv]; grind
      exact (Int.mul_eq_zero.1 this).resolve_left h
  have fin : u0 * e1 - u1 * e0 = 0 := by
    rcases hw' with h | h
    · have : w0 * (u0 * e1 - u1 * e0) = 0 := by
        have a1 : w0 * (u0 * e1 - u1 * e0) = u0 * (w0 * e1) - u1 * w0 * e0 := by grind
        rw [a1, we]
        have a2 : u0 * (w1 * e0) - u1 * w0 * e0 = (u0 * w1 - u1 * w0) * e0 := by grind
        rw [a2, uw, Int.zero_mul]
      exact (Int.mul_eq_zero.1 this).resolve_left h
    · have : w1 * (u0 * e1 - u1 * e0) = 0 := by
        have a1 : w1 * (u0 * e1 - u1 * e0) = u0 * w1 * e1 - u1 * (w1 * e0) := by grind
        rw [a1, ← we]
        have a2 : u0 * w1 * e1 - u1 * (w0 * e1) = (u0 * w1 - u1 * w0) * e1 := by grind
        rw [a2, uw, Int.zero_mul]
      exact (Int.mul_eq_zero.1 this).resolve_left h
  omega

theorem two_line {a b c d : Pt} (h : two_ a b c d) : cross a b c = 0 ∧ cross a b d = 0 ∧ cross c d a = 0 ∧ cross c d b = 0 := by
  obtain ⟨x, y, _, _, hx, hy, hne⟩ := h
  unfold both at hx hy
  simp only [Bool.and_eq_true] at hx hy
  have sw : ∀ {p u v : Pt}, onB p u v = true → onB p v u = true := fun h => by rw [onB_swap]; exact h
  exact ⟨one_line hx.1 hy.1 hx.2 hy.2 hne, one_line hx.1 hy.1 (sw hx.2) (sw hy.2) hne, one_line hx.2 hy.2 hx.1 hy.1 hne, one_line hx.2 hy.2 (sw hx.1) (sw hy.1) hne⟩
theorem one_any {a b c d : Pt} (ha : rt a = true) (hb : rt b = true) (hc : rt c = true) (hd : rt d = true) :
    one_ a b c d ↔ (onB a c d = true ∨ onB b c d = true ∨ onB c a b = true ∨ onB d a b = true) := by
  unfold one_ both
  constructor
  · rintro ⟨x, hx, h⟩
    simp only [Bool.and_eq_true] at h
    simp only [List.mem_cons, List.not_mem_nil, or_false] at hx
    rcases hx with rfl | rfl | rfl | rfl
    · exact .inl h.2
    · exact .inr (.inl h.2)
    · exact .inr (.inr (.inl h.1))
    · exact .inr (.inr (.inr h.1))
  · rintro (h | h | h | h)
    · exact ⟨a, by simp, by rw [onB_left ha hb, h]; rfl⟩
    · exact ⟨b, by simp, by rw [onB_right ha hb, h]; rfl⟩
    · exact ⟨c, by simp, by rw [onB_left hc hd, h]; rfl⟩
    · exact ⟨d, by simp, by rw [onB_right hc hd, h]; rfl⟩
theorem along_val {a b c d : Pt} (ha : rt a = true) (hb : rt b = true) (hc : rt c = true) (hd : rt d = true) (h1 : cross a b c = 0) (h2 : cross a b d = 0) (h3 : cross c d a = 0) (h4 : cross c d b = 0) :
    touch (max (min (key a) (key b)) (min (key c) (key d))) (min (max (key a) (key b)) (max (key c) (key d))) = meetM a b c d := by
  have R : ∀ x, x ∈ [a, b, c, d] → rt x = true := fun x hx => by
    simp only [List.mem_cons, List.not_mem_nil, or_false] at hx; rcases hx with rfl | rfl | rfl | rfl <;> assumption
  have B : ∀ x, x ∈ [a, b, c, d] → (both x a b c d = true ↔ (max (min (key a) (key b)) (min (key c) (key d)) ≤ key x ∧ key x ≤ min (max (key a) (key b)) (max (key c) (key d)))) := fun x hx => by
    have rx := R x hx
    have c1 : cross a b x = 0 := by
      simp only [List.mem_cons, List.not_mem_nil, or_false] at hx; rcases hx with rfl | rfl | rfl | rfl
      · exact cross_self1 _ _
      · exact cross_self2 _ _
      · exact h1
      · exact h2
    have c2 : cross c d x = 0 := by
      simp only [List.mem_cons, List.not_mem_nil, or_false] at hx; rcases hx with rfl | rfl | rfl | rfl
      · exact h3
      · exact h4
      · exact cross_self1 _ _
      · exact cross_self2 _ _
    unfold both
    rw [Bool.and_eq_true, on_key rx ha hb c1, on_key rx hc hd c2]; omega
  have hcrs : ¬ crs a b c d := fun h => by
    have : side a b c = 0 := side0.2 h1
    rw [crs, this, Int.zero_mul] at h; exact absurd h.1 (by omega)
  have W : ∀ v : Int, v = key a ∨ v = key b ∨ v = key c ∨ v = key d → ∃ x, x ∈ [a, b, c, d] ∧ key x = v := fun v h => by
    rcases h with h | h | h | h
    · exact ⟨a, by simp, h.symm⟩
    · exact ⟨b, by simp, h.symm⟩
    · exact ⟨c, by simp, h.symm⟩
    · exact ⟨d, by simp, h.symm⟩
  obtain ⟨xl, ml, kl⟩ := W (max (min (key a) (key b)) (min (key c) (key d))) (by omega)
  obtain ⟨xh, mh, kh⟩ := W (min (max (key a) (key b)) (max (key c) (key d))) (by omega)
  have hO : one_ a b c d ↔ max (min (key a) (key b)) (min (key c) (key d)) ≤ min (max (key a) (key b)) (max (key c) (key d)) := by
    constructor
    · rintro ⟨x, hx, h⟩; have := (B x hx).1 h; omega
    · intro h; exact ⟨xl, ml, (B xl ml).2 (by omega)⟩
  have hT : two_ a b c d ↔ max (min (key a) (key b)) (min (key c) (key d)) < min (max (key a) (key b)) (max (key c) (key d)) := by
    constructor
    · rintro ⟨x, y, hx, hy, bx, by_, hne⟩
      have i1 := (B x hx).1 bx
      have i2 := (B y hy).1 by_
      have : key x ≠ key y := fun e => hne (key_inj (R x hx) (R y hy) e)
      omega
    · intro h
      refine ⟨xl, xh, ml, mh, (B xl ml).2 (by omega), (B xh mh).2 (by omega), fun e => ?_⟩
      rw [e] at kl; omega
  unfold meetM crsV touch
  generalize max (min (key a) (key b)) (min (key c) (key d)) = lo at *
  generalize min (max (key a) (key b)) (max (key c) (key d)) = hi at *
  by_cases e1 : lo < hi
  · rw [if_neg (by omega), if_pos e1, if_pos (hT.2 e1)]
  · rw [if_neg (fun h => e1 (hT.1 h))]
    by_cases e2 : lo = hi
    · rw [if_pos e2, if_pos (hO.2 (by omega))]
    · rw [if_neg e2, if_neg e1, if_neg (fun h => e2 (by have := hO.1 h; omega)), if_neg hcrs]
theorem gMeet_ev (a b c d : Pt) : Ev (fun k => geom_Meet.f k a.f0 a.f1 a.f2 b.f0 b.f1 b.f2 c.f0 c.f1 c.f2 d.f0 d.f1 d.f2) (meetV a b c d) := by
  unfold geom_Meet.f
  refine Ev.bind (gRight_ev [a, b, c, d] (by simp)) ?_
  simp only [List.all_cons, List.all_nil, Bool.and_true]
  unfold meetV
  by_cases h : (rt a && (rt b && (rt c && rt d))) = true
  · simp only [if_pos h]
    simp only [Bool.and_eq_true] at h
    obtain ⟨ha, hb, hc, hd⟩ := h
    refine Ev.bind (gturn_ev ha hb hc) ?_
    refine Ev.bind (gturn_ev ha hb hd) ?_
    refine Ev.bind (gturn_ev hc hd ha) ?_
    refine Ev.bind (gturn_ev hc hd hb) ?_
    have j1f : ¬ (side a b c = 0 ∧ side a b d = 0 ∧ side c d a = 0 ∧ side c d b = 0) → ¬ crs a b c d → Ev (fun k => geom_Meet.j1 k false a.f0 a.f1 a.f2 b.f0 b.f1 b.f2 c.f0 c.f1 c.f2 d.f0 d.f1 d.f2) (meetM a b c d) := fun hz hn => by
      have t2 : ¬ two_ a b c d := fun h => hz ⟨side0.2 (two_line h).1, side0.2 (two_line h).2.1, side0.2 (two_line h).2.2.1, side0.2 (two_line h).2.2.2⟩
      have o := one_any ha hb hc hd
      unfold meetM crsV
      rw [if_neg t2, if_neg hn]
      refine Ev.step (f := fun k => (geom_On.f k a.f0 a.f1 a.f2 c.f0 c.f1 c.f2 d.f0 d.f1 d.f2).bind fun t185 => (if t185 = true then (some 1) else ((geom_On.f k b.f0 b.f1 b.f2 c.f0 c.f1 c.f2 d.f0 d.f1 d.f2).bind fun t186 => (if t186 = true then (some 1) else ((geom_On.f k c.f0 c.f1 c.f2 a.f0 a.f1 a.f2 b.f0 b.f1 b.f2).bind fun t187 => (if t187 = true then (some 1) else ((geom_On.f k d.f0 d.f1 d.f2 a.f0 a.f1 a.f2 b.f0 b.f1 b.f2).bind fun t188 => (if t188 = true then (some 1) else (some 0))))))))) (fun k => by simp only [geom_Meet.j1, Bool.false_eq_true, if_false]) ?_
      refine Ev.bind (gOn_ev a c d) ?_
      by_cases c1 : onB a c d = true
      · rw [if_pos (o.2 (.inl c1))]; simp only [if_pos c1]; exact Ev.now _
      · simp only [if_neg c1]
        refine Ev.bind (gOn_ev b c d) ?_
        by_cases c2 : onB b c d = true
        · rw [if_pos (o.2 (.inr (.inl c2)))]; simp only [if_pos c2]; exact Ev.now _
        · simp only [if_neg c2]
          refine Ev.bind (gOn_ev c a b) ?_
          by_cases c3 : onB c a b = true
          · rw [if_pos (o.2 (.inr (.inr (.inl c3))))]; simp only [if_pos c3]; exact Ev.now _
          · simp only [if_neg c3]
            refine Ev.bind (gOn_ev d a b) ?_
            by_cases c4 : onB d a b = true
            · rw [if_pos (o.2 (.inr (.inr (.inr c4))))]; simp only [if_pos c4]; exact Ev.now _
            · rw [if_neg (show ¬ one_ a b c d from fun h => by rcases o.1 h with h | h | h | h <;> contradiction)]
              simp only [if_neg c4]; exact Ev.now _
    have j0f : ¬ (side a b c = 0 ∧ side a b d = 0 ∧ side c d a = 0 ∧ side c d b = 0) → Ev (fun k => geom_Meet.j0 k (side a b c) (side a b d) (side c d a) (side c d b) false a.f0 a.f1 a.f2 b.f0 b.f1 b.f2 c.f0 c.f1 c.f2 d.f0 d.f1 d.f2) (meetM a b c d) := fun hz => by
      by_cases g1 : side a b c * side a b d < 0
      · by_cases g2 : side c d a * side c d b < 0
        · have hc' : crs a b c d := ⟨g1, g2⟩
          have n1 : ¬ one_ a b c d := fun h => by
            rcases (one_any ha hb hc hd).1 h with h | h | h | h
            · have : side c d a = 0 := side0.2 (onB_iff.1 h).2.2.2.1
              rw [this] at g2; omega
            · have : side c d b = 0 := side0.2 (onB_iff.1 h).2.2.2.1
              rw [this] at g2; omega
            · have : side a b c = 0 := side0.2 (onB_iff.1 h).2.2.2.1
              rw [this] at g1; omega
            · have : side a b d = 0 := side0.2 (onB_iff.1 h).2.2.2.1
              rw [this] at g1; omega
          have n2 : ¬ two_ a b c d := fun ⟨x, y, hx, _, bx, _⟩ => n1 ⟨x, hx, bx⟩
          unfold meetM crsV
          rw [if_neg n2, if_neg n1, if_pos hc']
          refine Ev.step (f := fun k => geom_Meet.j1 k true a.f0 a.f1 a.f2 b.f0 b.f1 b.f2 c.f0 c.f1 c.f2 d.f0 d.f1 d.f2) (fun k => by simp [geom_Meet.j0, side_mul, g1, g2]) ?_
          exact Ev.step (f := fun _ => some 2) (fun k => by simp only [geom_Meet.j1, if_true]) (Ev.now _)
        · refine Ev.step (fun k => ?_) (j1f hz fun h => g2 h.2)
          simp [geom_Meet.j0, side_mul, g1, g2]
      · refine Ev.step (fun k => ?_) (j1f hz fun h => g1 h.1)
        simp [geom_Meet.j0, side_mul, g1]
    by_cases z1 : side a b c = 0
    · simp only [if_pos z1]
      by_cases z2 : side a b d = 0
      · simp only [if_pos z2]
        by_cases z3 : side c d a = 0
        · simp only [if_pos z3]
          by_cases z4 : side c d b = 0
          · rw [← along_val ha hb hc hd (side0.1 z1) (side0.1 z2) (side0.1 z3) (side0.1 z4)]
            refine Ev.step (f := fun k => (geom_along.f k a.f0 a.f1 a.f2 b.f0 b.f1 b.f2 c.f0 c.f1 c.f2 d.f0 d.f1 d.f2).bind fun t => some t) (fun k => by simp only [geom_Meet.j0, z4, beq_self_eq_true, if_true]) ?_
            exact Ev.bind (f := fun _ t => some t) (along_ev ha hb hc hd) (Ev.now _)
          · have := j0f fun h => z4 h.2.2.2
            simpa only [beq_eq_false_iff_ne.2 z4] using this
        · simp only [if_neg z3]; exact j0f fun h => z3 h.2.2.1
      · simp only [if_neg z2]; exact j0f fun h => z2 h.2.1
    · simp only [if_neg z1]; exact j0f fun h => z1 h.1
  · simp only [if_neg h]; exact Ev.now _

end Go.Proofs.Ytlnjbpapbifjfaa.G
