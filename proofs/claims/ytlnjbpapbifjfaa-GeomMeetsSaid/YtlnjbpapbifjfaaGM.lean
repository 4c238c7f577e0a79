/- Two segments: what they have in common, plainly; what the program's functions along a line answer. -/
import Derived.Test.YtlnjbpapbifjfaaPx13
import Derived.Test.YtlnjbpapbifjfaaPx14
import Derived.Test.YtlnjbpapbifjfaaPx15
import Derived.Test.YtlnjbpapbifjfaaGA
namespace Go.Proofs.Ytlnjbpapbifjfaa.G
set_option linter.unusedVariables false
set_option linter.unusedSimpArgs false
open Go.RowKit Go.Proofs.Ytlnjbpapbifjfaa.P Go.Proofs.Ytlnjbpapbifjfaa.X Go.Proofs.Ytlnjbpapbifjfaa.WL Go.Proofs.YtlnjbpapbifjfaaW.PrintWords Go.Proofs.YtlnjbpapbifjfaaW.PrintLast Go.Proofs.YtlnjbpapbifjfaaW.PrintMore
/-- By X, then Y. -/
def key (p : Pt) : Int := p.f0 * 4294967296 + p.f1
theorem key_inj {p q : Pt} (hp : rt p = true) (hq : rt q = true) (h : key p = key q) : p = q := by
  obtain ⟨a0, a1, a2, a3, a4⟩ := rt_iff.1 hp
  obtain ⟨b0, b1, b2, b3, b4⟩ := rt_iff.1 hq
  unfold key at h
  cases p; cases q
  simp only at *
  congr 1 <;> omega
theorem less_eq {a b : Pt} (ha : rt a = true) (hb : rt b = true) : geom_less.f a.f0 a.f1 a.f2 b.f0 b.f1 b.f2 = some (decide (key a < key b)) := by
  obtain ⟨a0, a1, a2, a3, a4⟩ := rt_iff.1 ha
  obtain ⟨b0, b1, b2, b3, b4⟩ := rt_iff.1 hb
  unfold geom_less.f key
  by_cases h1 : a.f0 < b.f0
  · rw [if_pos h1, show decide (a.f0 * 4294967296 + a.f1 < b.f0 * 4294967296 + b.f1) = true by simp; omega]
  · rw [if_neg h1]
    by_cases h2 : a.f0 = b.f0
    · rw [if_pos h2]; congr 1; rw [decide_eq_decide]; omega
    · rw [if_neg h2, show decide (a.f0 * 4294967296 + a.f1 < b.f0 * 4294967296 + b.f1) = false by simp; omega]
def touch (lo hi : Int) : Int := if lo = hi then 1 else if lo < hi then 3 else 0
theorem along_j1 {lo hi : Pt} (hl : rt lo = true) (hh : rt hi = true) : Ev (fun k => geom_along.j1 k lo.f0 lo.f1 lo.f2 hi.f0 hi.f1 hi.f2) (touch (key lo) (key hi)) := by
  refine Ev.step (f := fun _ => some (touch (key lo) (key hi))) (fun k => ?_) (Ev.now _)
  simp only [geom_along.j1, less_eq hl hh, Option.bind_some]
  unfold touch
  by_cases h : key lo = key hi
  · have := key_inj hl hh h
    subst this
    simp
  · rw [if_neg h]
    rw [if_neg (by
      intro e
      simp only [Bool.and_eq_true, beq_iff_eq] at e
      unfold key at h; omega)]
    by_cases h2 : key lo < key hi <;> simp [h2]
theorem along_j0 {d lo hi : Pt} (hd : rt d = true) (hl : rt lo = true) (hh : rt hi = true) : Ev (fun k => geom_along.j0 k d.f0 d.f1 d.f2 lo.f0 lo.f1 lo.f2 hi.f0 hi.f1 hi.f2) (touch (key lo) (min (key d) (key hi))) := by
  by_cases h : key d < key hi
  · refine Ev.step (f := fun k => geom_along.j1 k lo.f0 lo.f1 lo.f2 d.f0 d.f1 d.f2) (fun k => ?_) ?_
    · simp [geom_along.j0, less_eq hd hh, h]
    · rw [show min (key d) (key hi) = key d by omega]; exact along_j1 hl hd
  · refine Ev.step (f := fun k => geom_along.j1 k lo.f0 lo.f1 lo.f2 hi.f0 hi.f1 hi.f2) (fun k => ?_) ?_
    · simp [geom_along.j0, less_eq hd hh, h]
    · rw [show min (key d) (key hi) = key hi by omega]; exact along_j1 hl hh
theorem rising_eq {a b : Pt} (ha : rt a = true) (hb : rt b = true) : ∃ lo hi : Pt, geom_rising.f a.f0 a.f1 a.f2 b.f0 b.f1 b.f2 = some (lo.f0, lo.f1, lo.f2, hi.f0, hi.f1, hi.f2) ∧ rt lo = true ∧ rt hi = true ∧ key lo = min (key a) (key b) ∧ key hi = max (key a) (key b) := by
  unfold geom_rising.f
  rw [less_eq hb ha]
  by_cases h : key b < key a
  · exact ⟨b, a, by simp [h], hb, ha, by omega, by omega⟩
  · exact ⟨a, b, by simp [h], ha, hb, by omega, by omega⟩
theorem along_ev {a b c d : Pt} (ha : rt a = true) (hb : rt b = true) (hc : rt c = true) (hd : rt d = true) :
    Ev (fun k => geom_along.f k a.f0 a.f1 a.f2 b.f0 b.f1 b.f2 c.f0 c.f1 c.f2 d.f0 d.f1 d.f2) (touch (max (min (key a) (key b)) (min (key c) (key d))) (min (max (key a) (key b)) (max (key c) (key d)))) := by
  obtain ⟨l1, h1, e1, r1, s1, k1, m1⟩ := rising_eq ha hb
  obtain ⟨l2, h2, e2, r2, s2, k2, m2⟩ := rising_eq hc hd
  unfold geom_along.f
  simp only [e1, e2, Option.bind_some, less_eq r1 r2]
  by_cases h : key l1 < key l2
  · have J := along_j0 s2 r2 s1
    simp only [h, decide_true, if_true]
    rw [show max (min (key a) (key b)) (min (key c) (key d)) = key l2 by omega, show min (max (key a) (key b)) (max (key c) (key d)) = min (key h2) (key h1) by omega]
    exact J
  · have J := along_j0 s2 r1 s1
    simp only [h, decide_false, Bool.false_eq_true, if_false]
    rw [show max (min (key a) (key b)) (min (key c) (key d)) = key l1 by omega, show min (max (key a) (key b)) (max (key c) (key d)) = min (key h2) (key h1) by omega]
    exact J

def both (x a b c d : Pt) : Bool := onB x a b && onB x c d
def crs (a b c d : Pt) : Prop := side a b c * side a b d < 0 ∧ side c d a * side c d b < 0
def one_ (a b c d : Pt) : Prop := ∃ x, x ∈ [a, b, c, d] ∧ both x a b c d = true
def two_ (a b c d : Pt) : Prop := ∃ x y, x ∈ [a, b, c, d] ∧ y ∈ [a, b, c, d] ∧ both x a b c d = true ∧ both y a b c d = true ∧ x ≠ y
open Classical in
noncomputable def crsV (a b c d : Pt) : Int := if crs a b c d then 2 else 0
open Classical in
noncomputable def meetM (a b c d : Pt) : Int := if two_ a b c d then 3 else if one_ a b c d then 1 else crsV a b c d
open Classical in
noncomputable def meetV (a b c d : Pt) : Int := if (rt a && (rt b && (rt c && rt d))) = true then meetM a b c d else 0
theorem meetM_congr {a b c d a' b' c' d' : Pt} (h2 : two_ a b c d ↔ two_ a' b' c' d') (h1 : one_ a b c d ↔ one_ a' b' c' d') (h0 : crs a b c d ↔ crs a' b' c' d') : meetM a b c d = meetM a' b' c' d' := by
  unfold meetM crsV
  rw [propext h2, propext h1, propext h0]
theorem side_swap (a b c : Pt) : side b a c = -side a b c := by
  unfold side; rw [cross_swap]; unfold cmp3; split <;> split <;> first | rfl | omega | (split <;> first | rfl | omega | (split <;> first | rfl | omega))
theorem both_sets {a b c d a' b' c' d' : Pt} (hb : ∀ x, both x a b c d = both x a' b' c' d') (hm : ∀ x, x ∈ [a, b, c, d] ↔ x ∈ [a', b', c', d']) : (two_ a b c d ↔ two_ a' b' c' d') ∧ (one_ a b c d ↔ one_ a' b' c' d') := by
  constructor
  · constructor
    · rintro ⟨x, y, h1, h2, h3, h4, h5⟩; exact ⟨x, y, (hm x).1 h1, (hm y).1 h2, (hb x).symm.trans h3, (hb y).symm.trans h4, h5⟩
    · rintro ⟨x, y, h1, h2, h3, h4, h5⟩; exact ⟨x, y, (hm x).2 h1, (hm y).2 h2, (hb x).trans h3, (hb y).trans h4, h5⟩
  · constructor
    · rintro ⟨x, h1, h2⟩; exact ⟨x, (hm x).1 h1, (hb x).symm.trans h2⟩
    · rintro ⟨x, h1, h2⟩; exact ⟨x, (hm x).2 h1, (hb x).trans h2⟩
theorem meetM_cd (a b c d : Pt) : meetM c d a b = meetM a b c d := by
  obtain ⟨h2, h1⟩ := both_sets (a := c) (b := d) (c := a) (d := b) (a' := a) (b' := b) (c' := c) (d' := d) (fun x => by unfold both; rw [Bool.and_comm]) (fun x => by simp only [List.mem_cons, List.not_mem_nil, or_false]; constructor <;> (rintro (h | h | h | h) <;> simp [h]))
  exact meetM_congr h2 h1 (by unfold crs; exact ⟨fun h => ⟨h.2, h.1⟩, fun h => ⟨h.2, h.1⟩⟩)
theorem meetM_ba (a b c d : Pt) : meetM b a c d = meetM a b c d := by
  obtain ⟨h2, h1⟩ := both_sets (a := b) (b := a) (c := c) (d := d) (a' := a) (b' := b) (c' := c) (d' := d) (fun x => by unfold both; rw [onB_swap x b a]) (fun x => by simp only [List.mem_cons, List.not_mem_nil, or_false]; constructor <;> (rintro (h | h | h | h) <;> simp [h]))
  refine meetM_congr h2 h1 ?_
  unfold crs
  rw [side_swap a b c, side_swap a b d, Int.neg_mul_neg, Int.mul_comm (side c d b)]
theorem meetM_dc (a b c d : Pt) : meetM a b d c = meetM a b c d := by
  rw [← meetM_cd a b d c, meetM_ba, meetM_cd]

theorem ne_iff {x y : Pt} : (!(x.f0 == y.f0) || (!(x.f1 == y.f1) || (!(x.f2 == y.f2)))) = true ↔ x ≠ y := by
  rcases x with ⟨x0, x1, x2⟩
  rcases y with ⟨y0, y1, y2⟩
  simp only [ne_eq, S23.mk.injEq, Bool.or_eq_true, Bool.not_eq_true', beq_eq_false_iff_ne]
  constructor
  · rintro (h | h | h) <;> (rintro ⟨a, b, c⟩; contradiction)
  · intro h
    by_cases h1 : x0 = y0
    · by_cases h2 : x1 = y1
      · exact .inr (.inr fun h3 => h ⟨h1, h2, h3⟩)
      · exact .inr (.inl h2)
    · exact .inl h1
theorem side_range (a b c : Pt) : -1 ≤ side a b c ∧ side a b c ≤ 1 := by unfold side cmp3; split <;> (try split) <;> omega
theorem side_mul (a b c a' b' c' : Pt) : wrap64 (side a b c * side a' b' c') = side a b c * side a' b' c' := by
  have h := side_range a b c
  have h' := side_range a' b' c'
  have e : side a b c = -1 ∨ side a b c = 0 ∨ side a b c = 1 := by omega
  rcases e with e | e | e <;> rw [e] <;> exact w64_id (by omega) (by omega)
end Go.Proofs.Ytlnjbpapbifjfaa.G
