/- Two segments: what the document's function answers. -/
import Derived.Test.YtlnjbpapbifjfaaPx26
import Derived.Test.YtlnjbpapbifjfaaGM
import Derived.Test.YtlnjbpapbifjfaaGAr
namespace Go.Proofs.Ytlnjbpapbifjfaa.G
set_option linter.unusedVariables false
set_option linter.unusedSimpArgs false
open Go.RowKit Go.Proofs.Ytlnjbpapbifjfaa.P Go.Proofs.Ytlnjbpapbifjfaa.X Go.Proofs.Ytlnjbpapbifjfaa.WL Go.Proofs.YtlnjbpapbifjfaaW.PrintWords Go.Proofs.YtlnjbpapbifjfaaW.PrintLast Go.Proofs.YtlnjbpapbifjfaaW.PrintMore
def Inv (fl acc : List Pt) : Prop := (fl = [] ∧ acc = []) ∨ ∃ e es as_, fl = e :: es ∧ acc = e :: as_ ∧ (as_ = [] ↔ ∀ x ∈ es, x = e)
theorem inv_keep {fl acc : List Pt} (h : Inv fl acc) : Inv fl acc := h
theorem inv_first {x : Pt} : Inv [x] [x] := .inr ⟨x, [], [], rfl, rfl, by simp⟩
open Classical in
theorem rMeet_l0 {a b c d : Pt} (R : ∀ x, x ∈ [a, b, c, d] → rt x = true) (out : Ev (fun k => (lapidaryref09_Turn.f k a.f0 a.f1 a.f2 b.f0 b.f1 b.f2 c.f0 c.f1 c.f2).bind fun t276 => ((lapidaryref09_Turn.f k a.f0 a.f1 a.f2 b.f0 b.f1 b.f2 d.f0 d.f1 d.f2).bind fun t277 => (if (wrap64 (t276 * t277)) < 0 then ((lapidaryref09_Turn.f k c.f0 c.f1 c.f2 d.f0 d.f1 d.f2 a.f0 a.f1 a.f2).bind fun t278 => ((lapidaryref09_Turn.f k c.f0 c.f1 c.f2 d.f0 d.f1 d.f2 b.f0 b.f1 b.f2).bind fun t279 => (if (wrap64 (t278 * t279)) < 0 then (some 2) else (some 0)))) else (some 0)))) (crsV a b c d)) :
    ∀ (n i : Nat) (fl acc : List Pt), i + n = 4 → Inv fl acc → acc.length ≤ i → fl ++ (([a, b, c, d].drop i).filter fun x => both x a b c d) = [a, b, c, d].filter (fun x => both x a b c d) →
    Ev (fun k => lapidaryref09_Meet.l0 k [a, b, c, d] acc (i : Int) a.f0 a.f1 a.f2 b.f0 b.f1 b.f2 c.f0 c.f1 c.f2 d.f0 d.f1 d.f2) (meetM a b c d) := by
  intro n
  induction n with
  | zero =>
    intro i fl acc hi hI hl hf
    obtain rfl : i = 4 := by omega
    simp only [List.drop_succ_cons, List.drop_zero, List.drop_nil, List.filter_nil, List.append_nil] at hf
    have hmem : ∀ x, x ∈ fl ↔ x ∈ [a, b, c, d] ∧ both x a b c d = true := fun x => by rw [hf, List.mem_filter]
    have l0 : ∀ k, lapidaryref09_Meet.l0 (k + 1) [a, b, c, d] acc ((4 : Nat) : Int) a.f0 a.f1 a.f2 b.f0 b.f1 b.f2 c.f0 c.f1 c.f2 d.f0 d.f1 d.f2 = _ := fun k => by simp only [lapidaryref09_Meet.l0]; rw [if_neg (by omega)]
    rcases hI with ⟨h1, h2⟩ | ⟨e, es, as_, h1, h2, h3⟩
    · subst h1 h2
      have n1 : ¬ one_ a b c d := fun ⟨x, hx, hb⟩ => by simpa using (hmem x).2 ⟨hx, hb⟩
      have n2 : ¬ two_ a b c d := fun ⟨x, _, hx, _, hb, _⟩ => n1 ⟨x, hx, hb⟩
      unfold meetM
      rw [if_neg n2, if_neg n1]
      refine Ev.step (fun k => ?_) out
      rw [l0, if_neg (by simp), if_neg (by simp)]
    · subst h1 h2
      have e1 := (hmem e).1 (by simp)
      have o1 : one_ a b c d := ⟨e, e1.1, e1.2⟩
      by_cases hz : as_ = []
      · have n2 : ¬ two_ a b c d := fun ⟨x, y, hx, hy, bx, by_, hne⟩ => by
          have mx := (hmem x).2 ⟨hx, bx⟩
          have my := (hmem y).2 ⟨hy, by_⟩
          have all := h3.1 hz
          simp only [List.mem_cons] at mx my
          exact hne ((mx.elim id (all x)).trans (my.elim id (all y)).symm)
        subst hz
        unfold meetM
        rw [if_neg n2, if_pos o1]
        exact Ev.step (f := fun _ => some 1) (fun k => by rw [l0]; simp only [List.length_cons, List.length_nil]; rw [if_neg (by omega), if_pos (by omega)]) (Ev.now _)
      · have : ∃ y, y ∈ es ∧ y ≠ e := by
          refine Classical.byContradiction fun hn => hz (h3.2 fun x hx => Classical.byContradiction fun hne => hn ⟨x, hx, hne⟩)
        obtain ⟨y, hy, hne⟩ := this
        have y1 := (hmem y).1 (by simp [hy])
        have t2 : two_ a b c d := ⟨y, e, y1.1, e1.1, y1.2, e1.2, hne⟩
        unfold meetM
        rw [if_pos t2]
        have hlen : 0 < as_.length := List.length_pos_iff.2 hz
        exact Ev.step (f := fun _ => some 3) (fun k => by rw [l0]; simp only [List.length_cons]; rw [if_pos (by omega)]) (Ev.now _)
  | succ n ih =>
    intro i fl acc hi hI hl hf
    have hA : i < [a, b, c, d].length := by simp; omega
    rw [List.drop_eq_getElem_cons hA] at hf
    have hacc : acc.length < 5864062014805 := by omega
    generalize hx : [a, b, c, d][i] = x at *
    have hrd : rd_T23 [a, b, c, d] (i : Int) = x := by rw [rdp _ i hA, hx]
    have q1 : (i : Int) < 4 := by omega
    have q2 : (0 : Int) ≤ (i : Int) := by omega
    have q3 : (i : Int) < (([a, b, c, d] : List Pt).length : Int) := by simp only [List.length_cons, List.length_nil]; omega
    have w1 : wrap64 ((i : Int) + 1) = ((i + 1 : Nat) : Int) := w64_succ i (by omega)
    have hskip : both x a b c d = false → Ev (fun k => lapidaryref09_Meet.l0 k [a, b, c, d] acc ((i + 1 : Nat) : Int) a.f0 a.f1 a.f2 b.f0 b.f1 b.f2 c.f0 c.f1 c.f2 d.f0 d.f1 d.f2) (meetM a b c d) := fun hb => by
      rw [List.filter_cons_of_neg (by simp [hb])] at hf
      exact ih (i + 1) fl acc (by omega) hI (by omega) hf
    have jt : Ev (fun k => lapidaryref09_Meet.l0 k [a, b, c, d] acc ((i + 1 : Nat) : Int) a.f0 a.f1 a.f2 b.f0 b.f1 b.f2 c.f0 c.f1 c.f2 d.f0 d.f1 d.f2) (meetM a b c d) → Ev (fun k => lapidaryref09_Meet.j1 k [a, b, c, d] acc (i : Int) true a.f0 a.f1 a.f2 b.f0 b.f1 b.f2 c.f0 c.f1 c.f2 d.f0 d.f1 d.f2) (meetM a b c d) := fun h =>
      Ev.step (fun k => by simp only [lapidaryref09_Meet.j1, if_true]; rw [w1]) h
    refine Ev.step (f := fun k => (lapidaryref09_On.f k x.f0 x.f1 x.f2 a.f0 a.f1 a.f2 b.f0 b.f1 b.f2).bind fun t263 => (if t263 = true then ((lapidaryref09_On.f k x.f0 x.f1 x.f2 c.f0 c.f1 c.f2 d.f0 d.f1 d.f2).bind fun t265 => (lapidaryref09_Meet.j1 k [a, b, c, d] acc (i : Int) (!t265) a.f0 a.f1 a.f2 b.f0 b.f1 b.f2 c.f0 c.f1 c.f2 d.f0 d.f1 d.f2)) else (lapidaryref09_Meet.j1 k [a, b, c, d] acc (i : Int) true a.f0 a.f1 a.f2 b.f0 b.f1 b.f2 c.f0 c.f1 c.f2 d.f0 d.f1 d.f2))) (fun k => by simp only [lapidaryref09_Meet.l0]; rw [if_pos q1, if_pos q2, if_pos q3, hrd]) ?_
    refine Ev.bind (rOn_ev x a b) ?_
    by_cases b1 : onB x a b = true
    · simp only [b1, if_true]
      refine Ev.bind (rOn_ev x c d) ?_
      by_cases b2 : onB x c d = true
      · have hb : both x a b c d = true := by unfold both; rw [b1, b2]; rfl
        rw [List.filter_cons_of_pos (by simp [hb]), List.append_cons] at hf
        simp only [b2, Bool.not_true]
        rcases hI with ⟨h1, h2⟩ | ⟨e, es, as_, h1, h2, h3⟩
        · subst h1 h2
          have I := ih (i + 1) [x] [x] (by omega) inv_first (by simp) hf
          refine Ev.step (fun k => ?_) I
          simp only [lapidaryref09_Meet.j1, List.length_nil, Bool.false_eq_true, if_false]
          rw [if_pos (by omega), if_pos q2, if_pos q3, if_pos (by omega), w1, hrd]
          rfl
        · subst h1 h2
          have hr0 : rd_T23 (e :: as_) 0 = e := rfl
          by_cases hne : x = e
          · have I := ih (i + 1) ((e :: es) ++ [x]) (e :: as_) (by omega) (.inr ⟨e, es ++ [x], as_, rfl, rfl, by rw [h3]; simp only [List.mem_append, List.mem_singleton]; exact ⟨fun h y hy => hy.elim (h y) fun h' => h'.trans hne, fun h y hy => h y (.inl hy)⟩⟩) (by omega) hf
            refine Ev.step (fun k => ?_) I
            simp only [lapidaryref09_Meet.j1, List.length_cons, Bool.false_eq_true, if_false]
            rw [if_neg (by omega), if_pos (by omega), if_pos q2, if_pos (by have := q3; simp only [List.length_cons, List.length_nil] at this; omega), hrd, hr0, if_neg (by rw [ne_iff]; exact fun h => h hne.symm), w1]
          · have I := ih (i + 1) ((e :: es) ++ [x]) ((e :: as_) ++ [x]) (by omega) (.inr ⟨e, es ++ [x], as_ ++ [x], rfl, rfl, by simp [hne]⟩) (by simp only [List.length_append, List.length_cons, List.length_nil] at hl ⊢; omega) hf
            refine Ev.step (fun k => ?_) I
            simp only [lapidaryref09_Meet.j1, List.length_cons, Bool.false_eq_true, if_false]
            rw [if_neg (by omega), if_pos (by omega), if_pos q2, if_pos (by have := q3; simp only [List.length_cons, List.length_nil] at this; omega), hrd, hr0, if_pos (by rw [ne_iff]; exact fun h => hne h.symm), if_pos (by simp only [List.length_cons] at hacc; omega), w1]
      · have hb : both x a b c d = false := by unfold both; rw [b1, Bool.eq_false_iff.2 b2]; rfl
        simp only [Bool.eq_false_iff.2 b2, Bool.not_false]
        exact jt (hskip hb)
    · have hb : both x a b c d = false := by unfold both; rw [Bool.eq_false_iff.2 b1]; rfl
      simp only [b1, Bool.false_eq_true, if_false]
      exact jt (hskip hb)
theorem rMeet_ev (a b c d : Pt) : Ev (fun k => lapidaryref09_Meet.f k a.f0 a.f1 a.f2 b.f0 b.f1 b.f2 c.f0 c.f1 c.f2 d.f0 d.f1 d.f2) (meetV a b c d) := by
  unfold lapidaryref09_Meet.f
  simp only [Option.bind_some]
  refine Ev.bind (rRight_ev [a, b, c, d] (by simp)) ?_
  simp only [List.all_cons, List.all_nil, Bool.and_true]
  unfold meetV
  by_cases h : (rt a && (rt b && (rt c && rt d))) = true
  · simp only [if_pos h]
    simp only [Bool.and_eq_true] at h
    obtain ⟨ha, hb, hc, hd⟩ := h
    have t1 := rTurn_ev a b c
    have t2 := rTurn_ev a b d
    have t3 := rTurn_ev c d a
    have t4 := rTurn_ev c d b
    simp only [ha, hb, hc, hd, Bool.and_self, if_true] at t1 t2 t3 t4
    refine rMeet_l0 (fun x hx => by simp only [List.mem_cons, List.not_mem_nil, or_false] at hx; rcases hx with rfl | rfl | rfl | rfl <;> assumption) ?_ 4 0 [] [] rfl (.inl ⟨rfl, rfl⟩) (by simp) (by simp)
    refine Ev.bind t1 ?_
    refine Ev.bind t2 ?_
    rw [side_mul]
    by_cases c1 : side a b c * side a b d < 0
    · simp only [if_pos c1]
      refine Ev.bind t3 ?_
      refine Ev.bind t4 ?_
      rw [side_mul]
      by_cases c2 : side c d a * side c d b < 0
      · rw [show crsV a b c d = 2 from if_pos (show crs a b c d from ⟨c1, c2⟩)]
        simp only [if_pos c2]; exact Ev.now _
      · rw [show crsV a b c d = 0 from if_neg (show ¬ crs a b c d from fun h => c2 h.2)]
        simp only [if_neg c2]; exact Ev.now _
    · rw [show crsV a b c d = 0 from if_neg (show ¬ crs a b c d from fun h => c1 h.1)]
      simp only [if_neg c1]; exact Ev.now _
  · simp only [if_neg h]; exact Ev.now _

end Go.Proofs.Ytlnjbpapbifjfaa.G
