/- Two segments: what the program's function answers. geom.On walked. No condition. Written for this claim by a program of this session (a turned copy of the print): Go functions as Lean functions, and that the Go code comes to just these answers; or a statement proved out of them. No condition. -/
import Derived.Test.YtbonkedecfjmdaaZ16
import Derived.Test.YtbonkedecfjmdaaZ2

namespace Go.Proofs.Ytbonkedecfjmdaa.G
set_option linter.unusedVariables false
set_option linter.unusedSimpArgs false
open Go.RowKit Go.Proofs.Ytbonkedecfjmdaa.P Go.Proofs.Ytbonkedecfjmdaa.X Go.Proofs.Ytbonkedecfjmdaa.WL Go.Proofs.YtbonkedecfjmdaaW.PrintWords Go.Proofs.YtbonkedecfjmdaaW.PrintLast Go.Proofs.YtbonkedecfjmdaaW.PrintMore
theorem onB_iff {p a b : Pt} : onB p a b = true ↔ rt p = true ∧ rt a = true ∧ rt b = true ∧ cross a b p = 0 ∧ (min a.f0 b.f0 ≤ p.f0 ∧ p.f0 ≤ max a.f0 b.f0) ∧ (min a.f1 b.f1 ≤ p.f1 ∧ p.f1 ≤ max a.f1 b.f1) := by
 unfold onB; simp only [Bool.and_eq_true, decide_eq_true_eq]
theorem cross_self1 (a b : Pt) : cross a b a = 0 := by unfold cross; grind
theorem cross_self2 (a b : Pt) : cross a b b = 0 := by unfold cross; grind
theorem onB_left {a b : Pt} (ha : rt a = true) (hb : rt b = true) : onB a a b = true := onB_iff.2 ⟨ha, ha, hb, cross_self1 a b, by omega, by omega⟩
theorem onB_right {a b : Pt} (ha : rt a = true) (hb : rt b = true) : onB b a b = true := onB_iff.2 ⟨hb, ha, hb, cross_self2 a b, by omega, by omega⟩
theorem between {D e f g : Int} (hD : 0 < D) (h0 : 0 ≤ e) (h1 : e ≤ D) (h : D * f = g * e) : (0 ≤ g → 0 ≤ f ∧ f ≤ g) ∧ (g ≤ 0 → g ≤ f ∧ f ≤ 0) := by
 constructor
 ·intro hg
  have a1 := Int.mul_nonneg hg h0
  have a2 := Int.mul_le_mul_of_nonneg_left h1 hg
  rw [← h] at a1 a2
  rw [Int.mul_comm g D] at a2
  exact ⟨by have := Int.le_of_mul_le_mul_left (a := D) (b := 0) (c := f) (by rw [Int.mul_zero]; exact a1) hD; exact this, Int.le_of_mul_le_mul_left a2 hD⟩
 ·intro hg
  have a1 := Int.mul_nonneg (show 0 ≤ -g by omega) h0
  have a2 := Int.mul_le_mul_of_nonneg_left h1 (show 0 ≤ -g by omega)
  rw [Int.neg_mul, ← h] at a1
  rw [Int.neg_mul, Int.neg_mul, ← h, Int.mul_comm g D] at a2
  exact ⟨Int.le_of_mul_le_mul_left (a := D) (by omega) hD, by have := Int.le_of_mul_le_mul_left (a := D) (b := f) (c := 0) (by rw [Int.mul_zero]; omega) hD; exact this⟩
theorem on_key1 {x a b : Pt} (hx : rt x = true) (ha : rt a = true) (hb : rt b = true) (hc : cross a b x = 0) (hab : key a ≤ key b) :
  ((min a.f0 b.f0 ≤ x.f0 ∧ x.f0 ≤ max a.f0 b.f0) ∧ (min a.f1 b.f1 ≤ x.f1 ∧ x.f1 ≤ max a.f1 b.f1)) ↔ (key a ≤ key x ∧ key x ≤ key b) := by
 obtain ⟨_, a1, a2, a3, a4⟩ := rt_iff.1 ha
 obtain ⟨_, b1, b2, b3, b4⟩ := rt_iff.1 hb
 obtain ⟨_, x1, x2, x3, x4⟩ := rt_iff.1 hx
 have h : (b.f0 - a.f0) * (x.f1 - a.f1) = (b.f1 - a.f1) * (x.f0 - a.f0) := by unfold cross at hc; omega
 unfold key at *
 by_cases hD : 0 < b.f0 - a.f0
 ·constructor
  ·rintro ⟨⟨c1, c2⟩, c3, c4⟩
   constructor
   ·by_cases e : x.f0 = a.f0
    ·rw [e, Int.sub_self, Int.mul_zero] at h
     have := (Int.mul_eq_zero.1 h).resolve_left (by omega)
     omega
    ·omega
   ·by_cases e : x.f0 = b.f0
    ·rw [e, Int.mul_comm] at h
     have := Int.eq_of_mul_eq_mul_right (by omega) h
     omega
    ·omega
  ·rintro ⟨c1, c2⟩
   have h0 : 0 ≤ x.f0 - a.f0 := by omega
   have h1 : x.f0 - a.f0 ≤ b.f0 - a.f0 := by omega
   obtain ⟨k1, k2⟩ := between hD h0 h1 h
   by_cases hg : 0 ≤ b.f1 - a.f1
   ·have := k1 hg; omega
   ·have := k2 (by omega); omega
 ·have e : b.f0 = a.f0 := by omega
  omega
theorem on_key {x a b : Pt} (hx : rt x = true) (ha : rt a = true) (hb : rt b = true) (hc : cross a b x = 0) : onB x a b = true ↔ (min (key a) (key b) ≤ key x ∧ key x ≤ max (key a) (key b)) := by
 have base : ∀ {a b : Pt}, rt a = true → rt b = true → cross a b x = 0 → key a ≤ key b → (onB x a b = true ↔ (min (key a) (key b) ≤ key x ∧ key x ≤ max (key a) (key b))) := by
  intro a b ha hb hc h
  rw [onB_iff]
  have := on_key1 hx ha hb hc h
  constructor
  ·rintro ⟨_, _, _, _, c⟩; have := this.1 c; omega
  ·intro c; exact ⟨hx, ha, hb, hc, this.2 (by omega)⟩
 by_cases h : key a ≤ key b
 ·exact base ha hb hc h
 ·rw [onB_swap, base hb ha (by rw [cross_swap, hc]; rfl) (by omega)]; omega
theorem one_line {x y a b c d : Pt} (h1 : onB x a b = true) (h2 : onB y a b = true) (h3 : onB x c d = true) (h4 : onB y c d = true) (hne : x ≠ y) : cross a b c = 0 := by
 obtain ⟨rx, _, _, p1, p2⟩ := onB_iff.1 h1
 obtain ⟨ry, _, _, q1, q2⟩ := onB_iff.1 h2
 obtain ⟨_, _, _, r1, r2⟩ := onB_iff.1 h3
 obtain ⟨_, _, _, s1, s2⟩ := onB_iff.1 h4
 obtain ⟨x2, _, _, _, _⟩ := rt_iff.1 rx
 obtain ⟨y2, _, _, _, _⟩ := rt_iff.1 ry
 have hv : x.f0 ≠ y.f0 ∨ x.f1 ≠ y.f1 := by
  refine Classical.byContradiction fun hn => hne ?_
  cases x; cases y
  simp only at *
  congr 1 <;> omega
 have hw : c.f0 ≠ d.f0 ∨ c.f1 ≠ d.f1 := by omega
 clear p2 q2 r2 s2 h1 h2 h3 h4 hne rx ry x2 y2
 unfold cross at *
 generalize hu0 : b.f0 - a.f0 = u0 at *
 generalize hu1 : b.f1 - a.f1 = u1 at *
 generalize hw0 : d.f0 - c.f0 = w0 at *
 generalize hw1 : d.f1 - c.f1 = w1 at *
 -- u × v = 0, w × v = 0, w × e = 0
 have uv : u0 * (y.f1 - x.f1) = u1 * (y.f0 - x.f0) := by
  have e1 : u0 * (y.f1 - x.f1) = u0 * (y.f1 - a.f1) - u0 * (x.f1 - a.f1) := by rw [← Int.mul_sub]; congr 1; omega
  have e2 : u1 * (y.f0 - x.f0) = u1 * (y.f0 - a.f0) - u1 * (x.f0 - a.f0) := by rw [← Int.mul_sub]; congr 1; omega
  omega
 have wv : w0 * (y.f1 - x.f1) = w1 * (y.f0 - x.f0) := by
  have e1 : w0 * (y.f1 - x.f1) = w0 * (y.f1 - c.f1) - w0 * (x.f1 - c.f1) := by rw [← Int.mul_sub]; congr 1; omega
  have e2 : w1 * (y.f0 - x.f0) = w1 * (y.f0 - c.f0) - w1 * (x.f0 - c.f0) := by rw [← Int.mul_sub]; congr 1; omega
  omega
 have we : w0 * (x.f1 - c.f1) = w1 * (x.f0 - c.f0) := by omega
 have ux : u0 * (x.f1 - a.f1) = u1 * (x.f0 - a.f0) := by omega
 have hv' : y.f0 - x.f0 ≠ 0 ∨ y.f1 - x.f1 ≠ 0 := by omega
 have hw' : w0 ≠ 0 ∨ w1 ≠ 0 := by omega
 have ue : u0 * (x.f1 - c.f1) = u1 * (x.f0 - c.f0) → u0 * (c.f1 - a.f1) - u1 * (c.f0 - a.f0) = 0 := by
  intro h
  have e1 : u0 * (c.f1 - a.f1) = u0 * (x.f1 - a.f1) - u0 * (x.f1 - c.f1) := by rw [← Int.mul_sub]; congr 1; omega
  have e2 : u1 * (c.f0 - a.f0) = u1 * (x.f0 - a.f0) - u1 * (x.f0 - c.f0) := by rw [← Int.mul_sub]; congr 1; omega
  omega
 apply ue
 clear ue ux p1 q1 r1 s1 hv hw hu0 hu1 hw0 hw1
 generalize y.f0 - x.f0 = v0 at *
 generalize y.f1 - x.f1 = v1 at *
 generalize x.f0 - c.f0 = e0 at *
 generalize x.f1 - c.f1 = e1 at *
 have uw : u0 * w1 - u1 * w0 = 0 := by
  rcases hv' with h | h
  ·have : v0 * (u0 * w1 - u1 * w0) = 0 := by
    have a1 : v0 * (u0 * w1 - u1 * w0) = u0 * (w1 * v0) - w0 * (u1 * v0) := by grind
    rw [a1, ← wv, ← uv]; grind
   exact (Int.mul_eq_zero.1 this).resolve_left h
  ·have : v1 * (u0 * w1 - u1 * w0) = 0 := by
    have a1 : v1 * (u0 * w1 - u1 * w0) = w1 * (u0 * v1) - u1 * (w0 * v1) := by grind
    rw [a1, wv, uv]; grind
   exact (Int.mul_eq_zero.1 this).resolve_left h
 have fin : u0 * e1 - u1 * e0 = 0 := by
  rcases hw' with h | h
  ·have : w0 * (u0 * e1 - u1 * e0) = 0 := by
    have a1 : w0 * (u0 * e1 - u1 * e0) = u0 * (w0 * e1) - u1 * w0 * e0 := by grind
    rw [a1, we]
    have a2 : u0 * (w1 * e0) - u1 * w0 * e0 = (u0 * w1 - u1 * w0) * e0 := by grind
    rw [a2, uw, Int.zero_mul]
   exact (Int.mul_eq_zero.1 this).resolve_left h
  ·have : w1 * (u0 * e1 - u1 * e0) = 0 := by
    have a1 : w1 * (u0 * e1 - u1 * e0) = u0 * w1 * e1 - u1 * (w1 * e0) := by grind
    rw [a1, ← we]
    have a2 : u0 * w1 * e1 - u1 * (w0 * e1) = (u0 * w1 - u1 * w0) * e1 := by grind
    rw [a2, uw, Int.zero_mul]
   exact (Int.mul_eq_zero.1 this).resolve_left h
 omega
theorem two_line {a b c d : Pt} (h : two_ a b c d) : cross a b c = 0 ∧ cross a b d = 0 ∧ cross c d a = 0 ∧ cross c d b = 0 := by
 obtain ⟨x, y, _, _, hx, hy, hne⟩ := h
 unfold both at hx hy
 simp only [Bool.and_eq_true] at hx hy
 have sw : ∀ {p u v : Pt}, onB p u v = true → onB p v u = true := fun h => by rw [onB_swap]; exact h
 exact ⟨one_line hx.1 hy.1 hx.2 hy.2 hne, one_line hx.1 hy.1 (sw hx.2) (sw hy.2) hne, one_line hx.2 hy.2 hx.1 hy.1 hne, one_line hx.2 hy.2 (sw hx.1) (sw hy.1) hne⟩
theorem one_any {a b c d : Pt} (ha : rt a = true) (hb : rt b = true) (hc : rt c = true) (hd : rt d = true) :
  one_ a b c d ↔ (onB a c d = true ∨ onB b c d = true ∨ onB c a b = true ∨ onB d a b = true) := by
 unfold one_ both
 constructor
 ·rintro ⟨x, hx, h⟩
  simp only [Bool.and_eq_true] at h
  simp only [List.mem_cons, List.not_mem_nil, or_false] at hx
  rcases hx with rfl | rfl | rfl | rfl
  ·exact .inl h.2
  ·exact .inr (.inl h.2)
  ·exact .inr (.inr (.inl h.1))
  ·exact .inr (.inr (.inr h.1))
 ·rintro (h | h | h | h)
  ·exact ⟨a, by simp, by rw [onB_left ha hb, h]; rfl⟩
  ·exact ⟨b, by simp, by rw [onB_right ha hb, h]; rfl⟩
  ·exact ⟨c, by simp, by rw [onB_left hc hd, h]; rfl⟩
  ·exact ⟨d, by simp, by rw [onB_right hc hd, h]; rfl⟩
theorem along_val {a b c d : Pt} (ha : rt a = true) (hb : rt b = true) (hc : rt c = true) (hd : rt d = true) (h1 : cross a b c = 0) (h2 : cross a b d = 0) (h3 : cross c d a = 0) (h4 : cross c d b = 0) :
  touch (max (min (key a) (key b)) (min (key c) (key d))) (min (max (key a) (key b)) (max (key c) (key d))) = meetM a b c d := by
 have R : ∀ x, x ∈ [a, b, c, d] → rt x = true := fun x hx => by
  simp only [List.mem_cons, List.not_mem_nil, or_false] at hx; rcases hx with rfl | rfl | rfl | rfl <;> assumption
 have B : ∀ x, x ∈ [a, b, c, d] → (both x a b c d = true ↔ (max (min (key a) (key b)) (min (key c) (key d)) ≤ key x ∧ key x ≤ min (max (key a) (key b)) (max (key c) (key d)))) := fun x hx => by
  have rx := R x hx
  have c1 : cross a b x = 0 := by
   simp only [List.mem_cons, List.not_mem_nil, or_false] at hx; rcases hx with rfl | rfl | rfl | rfl
   ·exact cross_self1 _ _
   ·exact cross_self2 _ _
   ·exact h1
   ·exact h2
  have c2 : cross c d x = 0 := by
   simp only [List.mem_cons, List.not_mem_nil, or_false] at hx; rcases hx with rfl | rfl | rfl | rfl
   ·exact h3
   ·exact h4
   ·exact cross_self1 _ _
   ·exact cross_self2 _ _
  unfold both
  rw [Bool.and_eq_true, on_key rx ha hb c1, on_key rx hc hd c2]; omega
 have hcrs : ¬ crs a b c d := fun h => by
  have : side a b c = 0 := side0.2 h1
  rw [crs, this, Int.zero_mul] at h; exact absurd h.1 (by omega)
 have W : ∀ v : Int, v = key a ∨ v = key b ∨ v = key c ∨ v = key d → ∃ x, x ∈ [a, b, c, d] ∧ key x = v := fun v h => by
  rcases h with h | h | h | h
  ·exact ⟨a, by simp, h.symm⟩
  ·exact ⟨b, by simp, h.symm⟩
  ·exact ⟨c, by simp, h.symm⟩
  ·exact ⟨d, by simp, h.symm⟩
 obtain ⟨xl, ml, kl⟩ := W (max (min (key a) (key b)) (min (key c) (key d))) (by omega)
 obtain ⟨xh, mh, kh⟩ := W (min (max (key a) (key b)) (max (key c) (key d))) (by omega)
 have hO : one_ a b c d ↔ max (min (key a) (key b)) (min (key c) (key d)) ≤ min (max (key a) (key b)) (max (key c) (key d)) := by
  constructor
  ·rintro ⟨x, hx, h⟩; have := (B x hx).1 h; omega
  ·intro h; exact ⟨xl, ml, (B xl ml).2 (by omega)⟩
 have hT : two_ a b c d ↔ max (min (key a) (key b)) (min (key c) (key d)) < min (max (key a) (key b)) (max (key c) (key d)) := by
  constructor
  ·rintro ⟨x, y, hx, hy, bx, by_, hne⟩
   have i1 := (B x hx).1 bx
   have i2 := (B y hy).1 by_
   have : key x ≠ key y := fun e => hne (key_inj (R x hx) (R y hy) e)
   omega
  ·intro h
   refine ⟨xl, xh, ml, mh, (B xl ml).2 (by omega), (B xh mh).2 (by omega), fun e => ?_⟩
   rw [e] at kl; omega
 unfold meetM crsV touch
 generalize max (min (key a) (key b)) (min (key c) (key d)) = lo at *
 generalize min (max (key a) (key b)) (max (key c) (key d)) = hi at *
 by_cases e1 : lo < hi
 ·rw [if_neg (by omega), if_pos e1, if_pos (hT.2 e1)]
 ·rw [if_neg (fun h => e1 (hT.1 h))]
  by_cases e2 : lo = hi
  ·rw [if_pos e2, if_pos (hO.2 (by omega))]
  ·rw [if_neg e2, if_neg e1, if_neg (fun h => e2 (by have := hO.1 h; omega)), if_neg hcrs]
end Go.Proofs.Ytbonkedecfjmdaa.G

namespace Go.Proofs.Ytbonkedecfjmdaa.Pl
set_option linter.unusedVariables false
set_option linter.unusedSimpArgs false
open Go Go.RowKit Go.Proofs.Ytbonkedecfjmdaa.P Go.Proofs.Ytbonkedecfjmdaa.G Go.Proofs.Ytbonkedecfjmdaa.WL Go.Proofs.YtbonkedecfjmdaaW.PrintWords Go.Proofs.YtbonkedecfjmdaaW.PrintLast Go.Proofs.YtbonkedecfjmdaaW.PrintMore
abbrev ptO (a : Pt) : Obj := .cells #[.int .i64 a.f0, .int .i64 a.f1, .int .i64 a.f2] 27
abbrev ptA (a : Pt) : Value := .agg #[.int .i64 a.f0, .int .i64 a.f1, .int .i64 a.f2]
def At (w : World) (g : Nat) (a : Pt) : Prop := w.heap[g]? = some (.cells #[.int .i64 a.f0, .int .i64 a.f1, .int .i64 a.f2] 27 (0, 0))
theorem At.c0 {w g a} (h : At w g a) : w.cell? ⟨g, 0, none⟩ = some (.int .i64 a.f0) := (blk_cell h 0).trans rfl
theorem At.c1 {w g a} (h : At w g a) : w.cell? ⟨g, 1, none⟩ = some (.int .i64 a.f1) := (blk_cell h 1).trans rfl
theorem At.c2 {w g a} (h : At w g a) : w.cell? ⟨g, 2, none⟩ = some (.int .i64 a.f2) := (blk_cell h 2).trans rfl
theorem At.below {w w' : World} {g : Nat} {a : Pt} (h : At w g a) (hb : Below w.heap.size w w') : At w' g a := blk_below h hb
theorem At.old {w : World} {g a} (h : At w g a) (x : Obj) : At (w.alloc x) g a := (heap_alloc_old _ _ (blk_lt h)).trans h
theorem At.new (w : World) (a : Pt) : At (w.alloc (ptO a)) w.heap.size a := heap_alloc_new _ _
theorem box3 (w : World) (a b c : Pt) : ∃ W, W = ((w.alloc (ptO a)).alloc (ptO b)).alloc (ptO c) ∧ W.heap.size = w.heap.size + 3 ∧ At W w.heap.size a ∧ At W (w.heap.size + 1) b ∧ At W (w.heap.size + 1 + 1) c ∧ Below w.heap.size w W := by
 have s1 : (w.alloc (ptO a)).heap.size = w.heap.size + 1 := by simp
 have s2 : ((w.alloc (ptO a)).alloc (ptO b)).heap.size = w.heap.size + 1 + 1 := by simp
 have h2 := At.new (w.alloc (ptO a)) b
 have h3 := At.new ((w.alloc (ptO a)).alloc (ptO b)) c
 rw [s1] at h2
 rw [s2] at h3
 exact ⟨_, rfl, by simp, ((At.new w a).old _).old _, h2.old _, h3, (((Below.refl _ w).alloc (Nat.le_refl _) _).alloc (by rw [s1]; omega) _).alloc (by rw [s2]; omega) _⟩
def Li (w : World) (g : Nat) (p q r : Pt) : Prop := w.heap[g]? = some (.cells #[.int .i64 p.f0, .int .i64 p.f1, .int .i64 p.f2, .int .i64 q.f0, .int .i64 q.f1, .int .i64 q.f2, .int .i64 r.f0, .int .i64 r.f1, .int .i64 r.f2] 27 (0, 0))
theorem Li.C {w : World} {g : Nat} {p q r : Pt} (hg : Li w g p q r) : Kd.C k27 w (some ⟨g, 0, none⟩) 3 [p, q, r] := by
 refine ⟨rfl, by simp, fun _ => ⟨⟨g, 0, none⟩, rfl, fun j x hx => ?_⟩⟩
 have c := fun i => cell_of_row w g i _ _ _ hg
 have ad : ∀ i : Nat, (Addr.add ⟨g, 0, none⟩ i) = ⟨g, i, none⟩ := fun i => by rw [Addr.add_mid]; simp
 have hk : ∀ x : Pt, k27.K w x [.int .i64 x.f0, .int .i64 x.f1, .int .i64 x.f2] := fun x => ⟨_, _, rfl, rfl, ⟨_, _, rfl, rfl, rfl⟩⟩
 have hj : j < 3 := by
  rcases Nat.lt_or_ge j 3 with h | h
  ·exact h
  ·rw [List.getElem?_eq_none (by simpa using h)] at hx; cases hx
 refine ⟨_, rfl, hk x, fun i u hu => ?_⟩
 have hi : i < 3 := by
  rcases Nat.lt_or_ge i 3 with h | h
  ·exact h
  ·rw [List.getElem?_eq_none (by simpa using h)] at hu; cases hu
 rw [show j * k27.sz + i = j * 3 + i from rfl, ad, c]
 rcases j with _ | _ | _ | j <;> rcases i with _ | _ | _ | i <;> first | omega | (simp at hx hu; subst hx; subst hu; rfl)
theorem lit3b {ops : Array Oper} {rest : List Oper} {o : Oper} {a : Act} {Q : Exit → Act → World → Prop} {W : World} (hgd : o.guard = none) {N : Tmp} (hd : o.dst = some N) (p q r : Pt)
  (hrun : (execOp a.eval o).run Try.prog W = .ok (.value (.slice (some ⟨W.heap.size, 0, none⟩) 3 3)) (W.alloc (.cells #[.int .i64 p.f0, .int .i64 p.f1, .int .i64 p.f2, .int .i64 q.f0, .int .i64 q.f1, .int .i64 q.f2, .int .i64 r.f0, .int .i64 r.f1, .int .i64 r.f2] 27)))
  (h : ∀ w1, Li w1 W.heap.size p q r → Below W.heap.size W w1 → wpList Try.prog ops Q rest (a.put o.dst (.slice (some ⟨W.heap.size, 0, none⟩) 3 3)) w1) : wpList Try.prog ops Q (o :: rest) a W :=
 Kd.event_run hgd hrun (h _ (heap_alloc_new W _) ((Below.refl _ W).alloc (Nat.le_refl _) _))
theorem lit3 {ops : Array Oper} {rest : List Oper} {o : Oper} {a : Act} {Q : Exit → Act → World → Prop} {W : World} (hgd : o.guard = none) {N : Tmp} (hd : o.dst = some N) (p q r : Pt)
  (hrun : (execOp a.eval o).run Try.prog W = .ok (.value (.slice (some ⟨W.heap.size, 0, none⟩) 3 3)) (W.alloc (.cells #[.int .i64 p.f0, .int .i64 p.f1, .int .i64 p.f2, .int .i64 q.f0, .int .i64 q.f1, .int .i64 q.f2, .int .i64 r.f0, .int .i64 r.f1, .int .i64 r.f2] 27)))
  (h : ∀ w1, Kd.C k27 w1 (some ⟨W.heap.size, 0, none⟩) 3 [p, q, r] → Below W.heap.size W w1 → wpList Try.prog ops Q rest (a.put o.dst (.slice (some ⟨W.heap.size, 0, none⟩) 3 3)) w1) : wpList Try.prog ops Q (o :: rest) a W :=
 lit3b hgd hd p q r hrun fun w1 hl hb => h w1 hl.C hb
theorem rt_all3 (p a b : Pt) : [p, a, b].all rt = (rt p && (rt a && rt b)) := by simp
set_option maxHeartbeats 8000000 in
set_option maxRecDepth 100000 in
theorem on_calls (p a b : Pt) (w : World) : Calls Try.prog 59 #[ptA p, ptA a, ptA b] w fun e w' => e = .returned (.bool (onB p a b)) ∧ Below w.heap.size w w' := by
 have hu27 := Try.underlying27
 obtain ⟨K, hK⟩ := gRight_ev [p, a, b] (by simp)
 have hright : ∀ W A, Kd.C k27 W A 3 [p, a, b] → Calls Try.prog 32 #[.slice A 3 3] W fun e w' => e = .returned (.bool (rt p && (rt a && rt b))) ∧ Below W.heap.size W w' := fun W A hC => by
  have := geom_Right.calls K A 3 [p, a, b] _ W hC (Nat.le_refl _) (hK K (Nat.le_refl _))
  rw [rt_all3] at this
  exact this
 have hon : onB p a b = (rt p && (rt a && (rt b && decide (cross a b p = 0 ∧ (min a.f0 b.f0 ≤ p.f0 ∧ p.f0 ≤ max a.f0 b.f0) ∧ (min a.f1 b.f1 ≤ p.f1 ∧ p.f1 ≤ max a.f1 b.f1))))) := rfl
 have hturn : (rt p && (rt a && rt b)) = true → ∀ W, Calls Try.prog 60 #[ptA a, ptA b, ptA p] W fun e w' => e = .returned (.int .i64 (side a b p)) ∧ Below W.heap.size W w' := fun h W => by
  simp only [Bool.and_eq_true] at h
  obtain ⟨K2, hK2⟩ := gturn_ev h.2.1 h.2.2 h.1
  exact geom_turn.calls K2 _ _ _ _ _ _ _ _ _ _ W (hK2 K2 (Nat.le_refl _))
 obtain ⟨W, hW, hsz, gp, ga, gb, hB⟩ := box3 w p a b
 have HT := Aside0.mk hturn
 have HON := Aside0.mk hon
 clear hK hturn hon
 generalize onB p a b = R at *
 go_enter Try.func59, Try.ntmps59
 go_upto_region 1 with (go_step3)
 rw [← hW]
 clear hW hsz
 have x0 := gp.c0
 have x1 := gp.c1
 have x2 := gp.c2
 have y0 := ga.c0
 have y1 := ga.c1
 have y2 := ga.c2
 have z0 := gb.c0
 have z1 := gb.c1
 have z2 := gb.c2
 by_cases h : (rt p && (rt a && rt b)) = true
 ·have hr := hright
  rw [h] at hr
  have ht := HT.out h
  simp only [Bool.and_eq_true] at h
  have HON2 := Aside0.mk (show R = decide (cross a b p = 0 ∧ (min a.f0 b.f0 ≤ p.f0 ∧ p.f0 ≤ max a.f0 b.f0) ∧ (min a.f1 b.f1 ≤ p.f1 ∧ p.f1 ≤ max a.f1 b.f1)) by rw [HON.out, h.1, h.2.1, h.2.2]; rfl)
  have hs0 : side a b p = 0 ↔ cross a b p = 0 := side0
  clear hright HON HT h
  generalize side a b p = s at *
  generalize cross a b p = c at *
  obtain ⟨a0, a1, a2⟩ := a
  obtain ⟨b0, b1, b2⟩ := b
  obtain ⟨p0, p1, p2⟩ := p
  simp only at *
  have hmin : ∀ u v : Int, (if v < u then v else u) = min u v := fun u v => by omega
  have hmax : ∀ u v : Int, (if u < v then v else u) = max u v := fun u v => by omega
  by_cases hs : s = 0
  ·have hc := hs0.1 hs
   subst hs
   generalize hm1 : min a0 b0 = m1 at *
   generalize hm2 : max a0 b0 = m2 at *
   generalize hm3 : min a1 b1 = m3 at *
   generalize hm4 : max a1 b1 = m4 at *
   have e1 : (if b0 < a0 then b0 else a0) = m1 := (hmin _ _).trans hm1
   have e2 : (if a0 < b0 then b0 else a0) = m2 := (hmax _ _).trans hm2
   have e3 : (if b1 < a1 then b1 else a1) = m3 := (hmin _ _).trans hm3
   have e4 : (if a1 < b1 then b1 else a1) = m4 := (hmax _ _).trans hm4
   clear hm1 hm2 hm3 hm4 hmin hmax hs0
   have HC := Aside0.mk hc
   clear hc
   by_cases g1 : m1 ≤ p0
   rotate_left
   ·have HRF := Aside0.mk (show R = false by rw [HON2.out]; exact decide_eq_false (fun h => g1 h.2.1.1))
    have gb_ : decide (m1 ≤ p0) = false := decide_eq_false g1
    clear HON2 HC
    go_wp2_with (first | ((with_reducible refine gate_dst (N := 10) rfl ?_); refine lit3 ?hg (N := 10) ?hd ⟨p0, p1, p2⟩ ⟨a0, a1, a2⟩ ⟨b0, b1, b2⟩ ?hr ?_; (case hd => rfl); (case hg => rfl); (case hr => first | (go_simp; done) | (go_simp; rfl)); intro w3 hC hb3; have hrr := hr _ _ hC; have gp := gp.below hb3; have ga := ga.below hb3; have gb := gb.below hb3) | (go_at_call 32; refine hrr.mono ?_; rintro e w4 ⟨rfl, hb4⟩; have gp := gp.below hb4; have ga := ga.below hb4; have gb := gb.below hb4; have x0 := gp.c0; have x1 := gp.c1; have x2 := gp.c2; have y0 := ga.c0; have y1 := ga.c1; have y2 := ga.c2; have z0 := gb.c0; have z1 := gb.c1; have z2 := gb.c2) | (go_at_call 60; refine (ht _).mono ?_; rintro e w5 ⟨rfl, hb5⟩; have gp := gp.below hb5; have ga := ga.below hb5; have gb := gb.below hb5; have x0 := gp.c0; have x1 := gp.c1; have x2 := gp.c2; have y0 := ga.c0; have y1 := ga.c1; have y2 := ga.c2; have z0 := gb.c0; have z1 := gb.c1; have z2 := gb.c2) | go_step3)
    go_ret
    exact ⟨by rw [HRF.out]; first | rfl | simp, below_step (below_step (below_step hB hb3) hb4) hb5⟩
   have gt1 : decide (m1 ≤ p0) = true := decide_eq_true g1
   by_cases g2 : p0 ≤ m2
   rotate_left
   ·have HRF := Aside0.mk (show R = false by rw [HON2.out]; exact decide_eq_false (fun h => g2 h.2.1.2))
    have gb_ : decide (p0 ≤ m2) = false := decide_eq_false g2
    clear HON2 HC
    go_wp2_with (first | ((with_reducible refine gate_dst (N := 10) rfl ?_); refine lit3 ?hg (N := 10) ?hd ⟨p0, p1, p2⟩ ⟨a0, a1, a2⟩ ⟨b0, b1, b2⟩ ?hr ?_; (case hd => rfl); (case hg => rfl); (case hr => first | (go_simp; done) | (go_simp; rfl)); intro w3 hC hb3; have hrr := hr _ _ hC; have gp := gp.below hb3; have ga := ga.below hb3; have gb := gb.below hb3) | (go_at_call 32; refine hrr.mono ?_; rintro e w4 ⟨rfl, hb4⟩; have gp := gp.below hb4; have ga := ga.below hb4; have gb := gb.below hb4; have x0 := gp.c0; have x1 := gp.c1; have x2 := gp.c2; have y0 := ga.c0; have y1 := ga.c1; have y2 := ga.c2; have z0 := gb.c0; have z1 := gb.c1; have z2 := gb.c2) | (go_at_call 60; refine (ht _).mono ?_; rintro e w5 ⟨rfl, hb5⟩; have gp := gp.below hb5; have ga := ga.below hb5; have gb := gb.below hb5; have x0 := gp.c0; have x1 := gp.c1; have x2 := gp.c2; have y0 := ga.c0; have y1 := ga.c1; have y2 := ga.c2; have z0 := gb.c0; have z1 := gb.c1; have z2 := gb.c2) | go_step3)
    go_ret
    exact ⟨by rw [HRF.out]; first | rfl | simp, below_step (below_step (below_step hB hb3) hb4) hb5⟩
   have gt2 : decide (p0 ≤ m2) = true := decide_eq_true g2
   by_cases g3 : m3 ≤ p1
   rotate_left
   ·have HRF := Aside0.mk (show R = false by rw [HON2.out]; exact decide_eq_false (fun h => g3 h.2.2.1))
    have gb_ : decide (m3 ≤ p1) = false := decide_eq_false g3
    clear HON2 HC
    go_wp2_with (first | ((with_reducible refine gate_dst (N := 10) rfl ?_); refine lit3 ?hg (N := 10) ?hd ⟨p0, p1, p2⟩ ⟨a0, a1, a2⟩ ⟨b0, b1, b2⟩ ?hr ?_; (case hd => rfl); (case hg => rfl); (case hr => first | (go_simp; done) | (go_simp; rfl)); intro w3 hC hb3; have hrr := hr _ _ hC; have gp := gp.below hb3; have ga := ga.below hb3; have gb := gb.below hb3) | (go_at_call 32; refine hrr.mono ?_; rintro e w4 ⟨rfl, hb4⟩; have gp := gp.below hb4; have ga := ga.below hb4; have gb := gb.below hb4; have x0 := gp.c0; have x1 := gp.c1; have x2 := gp.c2; have y0 := ga.c0; have y1 := ga.c1; have y2 := ga.c2; have z0 := gb.c0; have z1 := gb.c1; have z2 := gb.c2) | (go_at_call 60; refine (ht _).mono ?_; rintro e w5 ⟨rfl, hb5⟩; have gp := gp.below hb5; have ga := ga.below hb5; have gb := gb.below hb5; have x0 := gp.c0; have x1 := gp.c1; have x2 := gp.c2; have y0 := ga.c0; have y1 := ga.c1; have y2 := ga.c2; have z0 := gb.c0; have z1 := gb.c1; have z2 := gb.c2) | go_step3)
    go_ret
    exact ⟨by rw [HRF.out]; first | rfl | simp, below_step (below_step (below_step hB hb3) hb4) hb5⟩
   have gt3 : decide (m3 ≤ p1) = true := decide_eq_true g3
   have HRF := Aside0.mk (show R = decide (p1 ≤ m4) by rw [HON2.out]; simp [HC.out, g1, g2, g3])
   clear HON2 HC
   go_wp2_with (first | ((with_reducible refine gate_dst (N := 10) rfl ?_); refine lit3 ?hg (N := 10) ?hd ⟨p0, p1, p2⟩ ⟨a0, a1, a2⟩ ⟨b0, b1, b2⟩ ?hr ?_; (case hd => rfl); (case hg => rfl); (case hr => first | (go_simp; done) | (go_simp; rfl)); intro w3 hC hb3; have hrr := hr _ _ hC; have gp := gp.below hb3; have ga := ga.below hb3; have gb := gb.below hb3) | (go_at_call 32; refine hrr.mono ?_; rintro e w4 ⟨rfl, hb4⟩; have gp := gp.below hb4; have ga := ga.below hb4; have gb := gb.below hb4; have x0 := gp.c0; have x1 := gp.c1; have x2 := gp.c2; have y0 := ga.c0; have y1 := ga.c1; have y2 := ga.c2; have z0 := gb.c0; have z1 := gb.c1; have z2 := gb.c2) | (go_at_call 60; refine (ht _).mono ?_; rintro e w5 ⟨rfl, hb5⟩; have gp := gp.below hb5; have ga := ga.below hb5; have gb := gb.below hb5; have x0 := gp.c0; have x1 := gp.c1; have x2 := gp.c2; have y0 := ga.c0; have y1 := ga.c1; have y2 := ga.c2; have z0 := gb.c0; have z1 := gb.c1; have z2 := gb.c2) | go_step3)
   go_ret
   exact ⟨by rw [HRF.out]; first | rfl | simp, below_step (below_step (below_step hB hb3) hb4) hb5⟩
  ·have HRF := Aside0.mk (show R = false by rw [HON2.out]; exact decide_eq_false (fun h => hs (hs0.2 h.1)))
   have hsb : (s == 0) = false := by simpa using hs
   clear HON2 hs0 hmin hmax hs
   go_wp2_with (first | ((with_reducible refine gate_dst (N := 10) rfl ?_); refine lit3 ?hg (N := 10) ?hd ⟨p0, p1, p2⟩ ⟨a0, a1, a2⟩ ⟨b0, b1, b2⟩ ?hr ?_; (case hd => rfl); (case hg => rfl); (case hr => first | (go_simp; done) | (go_simp; rfl)); intro w3 hC hb3; have hrr := hr _ _ hC; have gp := gp.below hb3; have ga := ga.below hb3; have gb := gb.below hb3) | (go_at_call 32; refine hrr.mono ?_; rintro e w4 ⟨rfl, hb4⟩; have gp := gp.below hb4; have ga := ga.below hb4; have gb := gb.below hb4; have x0 := gp.c0; have x1 := gp.c1; have x2 := gp.c2; have y0 := ga.c0; have y1 := ga.c1; have y2 := ga.c2; have z0 := gb.c0; have z1 := gb.c1; have z2 := gb.c2) | (go_at_call 60; refine (ht _).mono ?_; rintro e w5 ⟨rfl, hb5⟩; have gp := gp.below hb5; have ga := ga.below hb5; have gb := gb.below hb5; have x0 := gp.c0; have x1 := gp.c1; have x2 := gp.c2; have y0 := ga.c0; have y1 := ga.c1; have y2 := ga.c2; have z0 := gb.c0; have z1 := gb.c1; have z2 := gb.c2) | go_step3)
   go_ret
   exact ⟨by rw [HRF.out]; rfl, below_step (below_step (below_step hB hb3) hb4) hb5⟩
 ·have HRF := Aside0.mk (show R = false by rw [HON.out]; cases hp : rt p <;> cases ha : rt a <;> cases hb : rt b <;> simp_all)
  rw [Bool.eq_false_iff.2 h] at hright
  clear HT HON h
  go_wp2_with (first | ((with_reducible refine gate_dst (N := 10) rfl ?_); refine lit3 ?hg (N := 10) ?hd p a b ?hr ?_; (case hd => rfl); (case hg => rfl); (case hr => first | (go_simp; done) | (go_simp; rfl)); intro w3 hC hb3; have hrr := hright _ _ hC) | (go_at_call 32; refine hrr.mono ?_; rintro e w4 ⟨rfl, hb4⟩) | go_step3)
  go_ret
  exact ⟨by rw [HRF.out]; rfl, below_step (below_step hB hb3) hb4⟩
end Go.Proofs.Ytbonkedecfjmdaa.Pl

namespace Go.Proofs.Ytbonkedecfjmdaa.P
open Go.RowKit Go.Proofs.YtbonkedecfjmdaaW.PrintWords Go.Proofs.YtbonkedecfjmdaaW.PrintLast Go.Proofs.YtbonkedecfjmdaaW.PrintMore Go.Proofs.Ytbonkedecfjmdaa.X
attribute [local go_sem] max2_int min2_int max_two min_two max_three min_three max_four min_four add64_0 add64_1 add64
set_option linter.unusedVariables false
set_option linter.unusedSimpArgs false
def geom_On.f (a0_0 : Int) (a0_1 : Int) (a0_2 : Int) (a1_0 : Int) (a1_1 : Int) (a1_2 : Int) (a2_0 : Int) (a2_1 : Int) (a2_2 : Int) : Option (Bool) := some (G.onB ⟨a0_0, a0_1, a0_2⟩ ⟨a1_0, a1_1, a1_2⟩ ⟨a2_0, a2_1, a2_2⟩)
set_option maxHeartbeats 8000000 in
set_option maxRecDepth 100000 in
theorem geom_On.calls (a0_0 : Int) (a0_1 : Int) (a0_2 : Int) (a1_0 : Int) (a1_1 : Int) (a1_2 : Int) (a2_0 : Int) (a2_1 : Int) (a2_2 : Int) (r : Bool) (w : World) (h : geom_On.f a0_0 a0_1 a0_2 a1_0 a1_1 a1_2 a2_0 a2_1 a2_2 = some r) :
  Calls Try.prog 59 #[.agg #[.int .i64 a0_0, .int .i64 a0_1, .int .i64 a0_2], .agg #[.int .i64 a1_0, .int .i64 a1_1, .int .i64 a1_2], .agg #[.int .i64 a2_0, .int .i64 a2_1, .int .i64 a2_2]] w fun e w' => e = .returned (.bool r) ∧ Below w.heap.size w w' := by
 unfold geom_On.f at h
 obtain rfl := Option.some.inj h
 exact Pl.on_calls ⟨a0_0, a0_1, a0_2⟩ ⟨a1_0, a1_1, a1_2⟩ ⟨a2_0, a2_1, a2_2⟩ w
end Go.Proofs.Ytbonkedecfjmdaa.P
