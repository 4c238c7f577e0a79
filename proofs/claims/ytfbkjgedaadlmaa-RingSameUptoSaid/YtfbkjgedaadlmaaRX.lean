/- The document's sameness, copies, what is long, what the example fixes. No condition. -/
import Derived.Test.YtfbkjgedaadlmaaPx22
import Derived.Test.YtfbkjgedaadlmaaPx19
import Derived.Test.YtfbkjgedaadlmaaPx2
import Derived.Test.YtfbkjgedaadlmaaPx11
import Derived.Test.YtfbkjgedaadlmaaRW
namespace Go.Proofs.Ytfbkjgedaadlmaa.Rw
set_option linter.unusedVariables false
set_option linter.unusedSimpArgs false
open Go.RowKit Go.Proofs.Ytfbkjgedaadlmaa.P Go.Proofs.YtfbkjgedaadlmaaW.PrintWords Go.Proofs.YtfbkjgedaadlmaaW.PrintLast Go.Proofs.YtfbkjgedaadlmaaW.PrintMore

theorem known_ev : Ev (fun k => lapidarylaw16_known.f k) true := Ev.of (fun k => lapidarylaw16_known.mono k) (k := 40) (by decide +kernel)
theorem ints_l0 (x y : List Int) (hl : x.length = y.length) (hb : x.length ≤ 4611686018427387903) : ∀ m i : Nat, i + m = x.length → Ev (fun k => lapidaryref00_SameInts.l0 k x y (i : Int)) (decide (x.drop i = y.drop i)) := by
  intro m
  induction m with
  | zero =>
    intro i hm
    refine Ev.step (fun k => lapidaryref00_SameInts.l0.eq_2 _ _ _ _) ?_
    simp only [if_neg (show ¬ ((i : Int) < (x.length : Int)) by omega)]
    rw [List.drop_eq_nil_of_le (by omega), List.drop_eq_nil_of_le (by omega)]
    exact Ev.now _
  | succ m ih =>
    intro i hm
    refine Ev.step (fun k => lapidaryref00_SameInts.l0.eq_2 _ _ _ _) ?_
    simp only [if_pos (show (i : Int) < (x.length : Int) by omega), if_pos (show (0 : Int) ≤ (i : Int) by omega), if_pos (show (i : Int) < (y.length : Int) by omega), rdi x i (by omega), rdi y i (by omega), nxr i (by omega), drop_eq x y i (by omega) (by omega)]
    by_cases he : x[i] = y[i]
    · simp only [if_pos he, decide_eq_true he, Bool.true_and]
      exact ih (i + 1) (by omega)
    · simp only [if_neg he, decide_eq_false he, Bool.false_and]
      exact Ev.now _
theorem ints_ev (x y : List Int) (hb : x.length ≤ 4611686018427387903) : Ev (fun k => lapidaryref00_SameInts.f k x y) (decide (x = y)) := by
  unfold lapidaryref00_SameInts.f
  by_cases hl : x.length = y.length
  · simp only [if_pos (show (x.length : Int) = (y.length : Int) by omega)]
    have := ints_l0 x y hl hb x.length 0 (by omega)
    simp only [List.drop_zero] at this
    exact this
  · simp only [if_neg (show ¬ (x.length : Int) = (y.length : Int) by omega), len_ne x y hl]
    exact Ev.now _
theorem lists_l0 (x y : List (List Int)) (hl : x.length = y.length) (hb : lenB x) : ∀ m i : Nat, i + m = x.length → Ev (fun k => lapidaryref16_lists.l0 k x y (i : Int)) (decide (x.drop i = y.drop i)) := by
  have hb1 := hb.1
  intro m
  induction m with
  | zero =>
    intro i hm
    refine Ev.step (fun k => lapidaryref16_lists.l0.eq_2 _ _ _ _) ?_
    simp only [if_neg (show ¬ ((i : Int) < (x.length : Int)) by omega)]
    rw [List.drop_eq_nil_of_le (by omega), List.drop_eq_nil_of_le (by omega)]
    exact Ev.now _
  | succ m ih =>
    intro i hm
    refine Ev.step (fun k => lapidaryref16_lists.l0.eq_2 _ _ _ _) ?_
    simp only [if_pos (show (i : Int) < (x.length : Int) by omega), if_pos (show (0 : Int) ≤ (i : Int) by omega), if_pos (show (i : Int) < (y.length : Int) by omega), rd3 x i (by omega), rd3 y i (by omega), nxr i (by omega), drop_eq x y i (by omega) (by omega)]
    refine Ev.bind (ints_ev _ _ (hb.2 _ (List.getElem_mem (by omega)))) ?_
    by_cases he : x[i] = y[i]'(by omega)
    · simp only [decide_eq_true he, if_true, Bool.true_and]
      exact ih (i + 1) (by omega)
    · simp only [decide_eq_false he, Bool.false_eq_true, if_false, Bool.false_and]
      exact Ev.now _
theorem lists_ev (x y : List (List Int)) (hb : lenB x) : Ev (fun k => lapidaryref16_lists.f k x y) (decide (x = y)) := by
  unfold lapidaryref16_lists.f
  by_cases hl : x.length = y.length
  · simp only [if_pos (show (x.length : Int) = (y.length : Int) by omega)]
    have := lists_l0 x y hl hb x.length 0 (by omega)
    simp only [List.drop_zero] at this
    exact this
  · simp only [if_neg (show ¬ (x.length : Int) = (y.length : Int) by omega), len_ne x y hl]
    exact Ev.now _
theorem rarc_l1 (x y : List (List Pt)) (i : Nat) (hi : i < x.length) (hi2 : i < y.length) (hl : x[i].length = y[i].length) (hb : x[i].length ≤ 4611686018427387903) (R : Bool) (next : Ev (fun k => lapidaryref15_Same.l0 k x y (wrap64 ((i : Int) + 1))) R) :
    ∀ m j : Nat, j + m = x[i].length → Ev (fun k => lapidaryref15_Same.l1 k x y (i : Int) (j : Int)) (decide (x[i].drop j = y[i].drop j) && R) := by
  intro m
  induction m with
  | zero =>
    intro j hm
    refine Ev.step (fun k => lapidaryref15_Same.l1.eq_2 _ _ _ _ _) ?_
    simp only [if_pos (show (0 : Int) ≤ (i : Int) by omega), if_pos (show (i : Int) < (x.length : Int) by omega), rd2 x i hi, if_neg (show ¬ ((j : Int) < (x[i].length : Int)) by omega)]
    rw [List.drop_eq_nil_of_le (by omega), List.drop_eq_nil_of_le (by omega), decide_eq_true rfl, Bool.true_and]
    exact next
  | succ m ih =>
    intro j hm
    refine Ev.step (fun k => lapidaryref15_Same.l1.eq_2 _ _ _ _ _) ?_
    simp only [if_pos (show (0 : Int) ≤ (i : Int) by omega), if_pos (show (i : Int) < (x.length : Int) by omega), rd2 x i hi, if_pos (show (j : Int) < (x[i].length : Int) by omega), if_pos (show (0 : Int) ≤ (j : Int) by omega), if_pos (show (i : Int) < (y.length : Int) by omega), rd2 y i hi2, if_pos (show (j : Int) < (y[i].length : Int) by omega), rdt x[i] j (by omega), rdt y[i] j (by omega), neP, nxr j (by omega), drop_eq x[i] y[i] j (by omega) (by omega)]
    by_cases he : x[i][j] = y[i][j]
    · simp only [decide_eq_true he, Bool.not_true, Bool.false_eq_true, if_false, Bool.true_and]
      exact ih (j + 1) (by omega)
    · simp only [decide_eq_false he, Bool.not_false, if_true, Bool.false_and]
      exact Ev.now _
theorem rarc_l0 (x y : List (List Pt)) (hl : x.length = y.length) (hb : lenB x) : ∀ m i : Nat, i + m = x.length → Ev (fun k => lapidaryref15_Same.l0 k x y (i : Int)) (decide (x.drop i = y.drop i)) := by
  have hb1 := hb.1
  intro m
  induction m with
  | zero =>
    intro i hm
    refine Ev.step (fun k => lapidaryref15_Same.l0.eq_2 _ _ _ _) ?_
    simp only [if_neg (show ¬ ((i : Int) < (x.length : Int)) by omega)]
    rw [List.drop_eq_nil_of_le (by omega), List.drop_eq_nil_of_le (by omega)]
    exact Ev.now _
  | succ m ih =>
    intro i hm
    have h1 : i < x.length := by omega
    have h2 : i < y.length := by omega
    refine Ev.step (fun k => lapidaryref15_Same.l0.eq_2 _ _ _ _) ?_
    simp only [if_pos (show (i : Int) < (x.length : Int) by omega), if_pos (show (0 : Int) ≤ (i : Int) by omega), if_pos (show (i : Int) < (y.length : Int) by omega), rd2 x i h1, rd2 y i h2, drop_eq x y i h1 h2]
    by_cases he : x[i].length = y[i].length
    · simp only [if_pos (show (x[i].length : Int) = (y[i].length : Int) by omega)]
      have hxi := hb.2 _ (List.getElem_mem h1)
      have := rarc_l1 x y i h1 h2 he hxi (decide (x.drop (i + 1) = y.drop (i + 1))) (by rw [nxr i (by omega)]; exact ih (i + 1) (by omega)) x[i].length 0 (by omega)
      simp only [List.drop_zero] at this
      exact this
    · simp only [if_neg (show ¬ (x[i].length : Int) = (y[i].length : Int) by omega), len_ne _ _ he, Bool.false_and]
      exact Ev.now _
theorem rarc_ev (x y : List (List Pt)) (hb : lenB x) : Ev (fun k => lapidaryref15_Same.f k x y) (decide (x = y)) := by
  unfold lapidaryref15_Same.f
  by_cases hl : x.length = y.length
  · simp only [if_pos (show (x.length : Int) = (y.length : Int) by omega)]
    have := rarc_l0 x y hl hb x.length 0 (by omega)
    simp only [List.drop_zero] at this
    exact this
  · simp only [if_neg (show ¬ (x.length : Int) = (y.length : Int) by omega), len_ne x y hl]
    exact Ev.now _
theorem rsame_ev (a0 : List (List Pt)) (a1 a2 : List (List Int)) (b0 : List (List Pt)) (b1 b2 : List (List Int)) (h0 : lenB a0) (h1 : lenB a1) (h2 : lenB a2) : Ev (fun k => lapidaryref16_Same.f k a0 a1 a2 b0 b1 b2) (eqM a0 a1 a2 b0 b1 b2) := by
  unfold lapidaryref16_Same.f eqM
  refine Ev.bind (rarc_ev a0 b0 h0) ?_
  generalize decide (a0 = b0) = r0
  cases r0 with
  | false => exact Ev.now _
  | true =>
    simp only [if_true, Bool.true_and]
    refine Ev.bind (lists_ev a1 b1 h1) ?_
    generalize decide (a1 = b1) = r1
    cases r1 with
    | false => exact Ev.now _
    | true =>
      simp only [if_true, Bool.true_and]
      exact Ev.bind (lists_ev a2 b2 h2) (Ev.now _)

theorem cl3_l0 (x : List (List Int)) (h1 : x.length ≤ 1048576) (h2 : ∀ a ∈ x, a.length ≤ 1048576) : ∀ m i : Nat, i + m = x.length → Ev (fun k => ring_cloned_int.l0 k (x.take i) x (x.length : Int) (i : Int)) x := by
  intro m
  induction m with
  | zero =>
    intro i hm
    refine Ev.step (fun k => ring_cloned_int.l0.eq_2 _ _ _ _ _) ?_
    simp only [if_neg (show ¬ ((i : Int) < (x.length : Int)) by omega)]
    rw [List.take_of_length_le (by omega)]
    exact Ev.now _
  | succ m ih =>
    intro i hm
    have hi : i < x.length := by omega
    have hx := h2 _ (List.getElem_mem hi)
    refine Ev.step (fun k => ring_cloned_int.l0.eq_2 _ _ _ _ _) ?_
    simp only [if_pos (show (i : Int) < (x.length : Int) by omega), if_pos (show (0 : Int) ≤ (i : Int) by omega), rd3 x i hi, nxr i (by omega)]
    have e : slices_Clone_int_int.f x[i] = some x[i] := by unfold slices_Clone_int_int.f; rw [if_pos (by omega)]
    simp only [e, Option.bind_some, if_pos (show (x.take i).length < 5864062014805 by rw [List.length_take]; omega)]
    have := ih (i + 1) (by omega)
    rw [List.take_add_one, List.getElem?_eq_getElem hi] at this
    exact this
theorem cl2_l0 (x : List (List Pt)) (h1 : x.length ≤ 1048576) (h2 : ∀ a ∈ x, a.length ≤ 1048576) : ∀ m i : Nat, i + m = x.length → Ev (fun k => api_Point_27.l0 k (x.take i) x (x.length : Int) (i : Int)) x := by
  intro m
  induction m with
  | zero =>
    intro i hm
    refine Ev.step (fun k => api_Point_27.l0.eq_2 _ _ _ _ _) ?_
    simp only [if_neg (show ¬ ((i : Int) < (x.length : Int)) by omega)]
    rw [List.take_of_length_le (by omega)]
    exact Ev.now _
  | succ m ih =>
    intro i hm
    have hi : i < x.length := by omega
    have hx := h2 _ (List.getElem_mem hi)
    refine Ev.step (fun k => api_Point_27.l0.eq_2 _ _ _ _ _) ?_
    simp only [if_pos (show (i : Int) < (x.length : Int) by omega), if_pos (show (0 : Int) ≤ (i : Int) by omega), rd2 x i hi, nxr i (by omega)]
    have e : api_Point_22.f x[i] = some x[i] := by unfold api_Point_22.f; rw [if_pos (by omega)]
    simp only [e, Option.bind_some, if_pos (show (x.take i).length < 5864062014805 by rw [List.length_take]; omega)]
    have := ih (i + 1) (by omega)
    rw [List.take_add_one, List.getElem?_eq_getElem hi] at this
    exact this
theorem copy_ev (a0 : List (List Pt)) (a1 a2 : List (List Int)) (h0 : a0.length ≤ 1048576 ∧ ∀ x ∈ a0, x.length ≤ 1048576) (h1 : a1.length ≤ 1048576 ∧ ∀ x ∈ a1, x.length ≤ 1048576) (h2 : a2.length ≤ 1048576 ∧ ∀ x ∈ a2, x.length ≤ 1048576) : Ev (fun k => ring_Copy.f k a0 a1 a2) (a0, a1, a2) := by
  unfold ring_Copy.f
  refine Ev.bind (a := a0) (cl2_l0 a0 h0.1 h0.2 a0.length 0 (by omega)) ?_
  refine Ev.bind (a := a1) (cl3_l0 a1 h1.1 h1.2 a1.length 0 (by omega)) ?_
  exact Ev.bind (a := a2) (cl3_l0 a2 h2.1 h2.2 a2.length 0 (by omega)) (Ev.now _)
theorem long_l2 (m : List (List Pt)) (r p : List (List Int)) (hp : p.length ≤ 1048576) : ∀ (n i : Nat) (x : Int), i + n = p.length → ∃ b, Ev (fun k => lapidarylaw16_long.l2 k x (i : Int) m r p) b := by
  intro n
  induction n with
  | zero =>
    intro i x hm
    refine ⟨decide (x > 200), Ev.step (fun k => lapidarylaw16_long.l2.eq_2 _ _ _ _ _ _) ?_⟩
    simp only [if_neg (show ¬ ((i : Int) < (p.length : Int)) by omega)]
    exact Ev.now _
  | succ n ih =>
    intro i x hm
    obtain ⟨b, hb⟩ := ih (i + 1) (wrap64 ((wrap64 (x + 1)) + ((rd_L3 p i).length : Int))) (by omega)
    refine ⟨b, Ev.step (fun k => lapidarylaw16_long.l2.eq_2 _ _ _ _ _ _) ?_⟩
    simp only [if_pos (show (i : Int) < (p.length : Int) by omega), if_pos (show (0 : Int) ≤ (i : Int) by omega), nxr i (by omega)]
    exact hb
theorem long_l1 (m : List (List Pt)) (r p : List (List Int)) (hr : r.length ≤ 1048576) (hp : p.length ≤ 1048576) : ∀ (n i : Nat) (x : Int), i + n = r.length → ∃ b, Ev (fun k => lapidarylaw16_long.l1 k x (i : Int) m r p) b := by
  intro n
  induction n with
  | zero =>
    intro i x hm
    obtain ⟨b, hb⟩ := long_l2 m r p hp p.length 0 x (by omega)
    refine ⟨b, Ev.step (fun k => lapidarylaw16_long.l1.eq_2 _ _ _ _ _ _) ?_⟩
    simp only [if_neg (show ¬ ((i : Int) < (r.length : Int)) by omega)]
    exact hb
  | succ n ih =>
    intro i x hm
    obtain ⟨b, hb⟩ := ih (i + 1) (wrap64 ((wrap64 (x + 1)) + ((rd_L3 r i).length : Int))) (by omega)
    refine ⟨b, Ev.step (fun k => lapidarylaw16_long.l1.eq_2 _ _ _ _ _ _) ?_⟩
    simp only [if_pos (show (i : Int) < (r.length : Int) by omega), if_pos (show (0 : Int) ≤ (i : Int) by omega), nxr i (by omega)]
    exact hb
theorem long_l0 (m : List (List Pt)) (r p : List (List Int)) (hm' : m.length ≤ 1048576) (hr : r.length ≤ 1048576) (hp : p.length ≤ 1048576) : ∀ (n i : Nat) (x : Int), i + n = m.length → ∃ b, Ev (fun k => lapidarylaw16_long.l0 k x (i : Int) m r p) b := by
  intro n
  induction n with
  | zero =>
    intro i x hm
    obtain ⟨b, hb⟩ := long_l1 m r p hr hp r.length 0 x (by omega)
    refine ⟨b, Ev.step (fun k => lapidarylaw16_long.l0.eq_2 _ _ _ _ _ _) ?_⟩
    simp only [if_neg (show ¬ ((i : Int) < (m.length : Int)) by omega)]
    exact hb
  | succ n ih =>
    intro i x hm
    obtain ⟨b, hb⟩ := ih (i + 1) (wrap64 ((wrap64 (x + 1)) + ((rd_L2 m i).length : Int))) (by omega)
    refine ⟨b, Ev.step (fun k => lapidarylaw16_long.l0.eq_2 _ _ _ _ _ _) ?_⟩
    simp only [if_pos (show (i : Int) < (m.length : Int) by omega), if_pos (show (0 : Int) ≤ (i : Int) by omega), nxr i (by omega)]
    exact hb
theorem long_ev (m : List (List Pt)) (r p : List (List Int)) (hm' : m.length ≤ 1048576) (hr : r.length ≤ 1048576) (hp : p.length ≤ 1048576) : ∃ b, Ev (fun k => lapidarylaw16_long.f k m r p) b := long_l0 m r p hm' hr hp m.length 0 0 (by omega)
end Go.Proofs.Ytfbkjgedaadlmaa.Rw
