/- Whether rows are the same: the program's and the document's. No condition. -/
import Derived.Test.YtfbkjgedaadlmaaPx12
import Derived.Test.YtfbkjgedaadlmaaPx14
import Derived.Test.YtfbkjgedaadlmaaV0
namespace Go.Proofs.Ytfbkjgedaadlmaa.Rw
set_option linter.unusedVariables false
set_option linter.unusedSimpArgs false
open Go.RowKit Go.Proofs.Ytfbkjgedaadlmaa.P Go.Proofs.YtfbkjgedaadlmaaW.PrintWords Go.Proofs.YtfbkjgedaadlmaaW.PrintLast Go.Proofs.YtfbkjgedaadlmaaW.PrintMore

abbrev Pt := S42
instance : DecidableEq Pt := fun a b => decidable_of_iff (a.f0 = b.f0 ∧ a.f1 = b.f1 ∧ a.f2 = b.f2) ⟨fun h => by cases a; cases b; simp_all, fun h => by subst h; exact ⟨rfl, rfl, rfl⟩⟩
def eqM (a0 : List (List Pt)) (a1 a2 : List (List Int)) (b0 : List (List Pt)) (b1 b2 : List (List Int)) : Bool := decide (a0 = b0) && (decide (a1 = b1) && decide (a2 = b2))
theorem w64r {x : Int} (h : -9223372036854775808 ≤ x) (h' : x ≤ 9223372036854775807) : wrap64 x = x := by unfold wrap64; omega
theorem nxr (i : Nat) (h : i < 4611686018427387904) : wrap64 ((i : Int) + 1) = ((i + 1 : Nat) : Int) := by rw [w64r (by omega) (by omega)]; omega
theorem drop_eq {α : Type} [DecidableEq α] (x y : List α) (i : Nat) (hx : i < x.length) (hy : i < y.length) : decide (x.drop i = y.drop i) = (decide (x[i] = y[i]) && decide (x.drop (i + 1) = y.drop (i + 1))) := by
  rw [List.drop_eq_getElem_cons hx, List.drop_eq_getElem_cons hy, Bool.eq_iff_iff]
  simp only [decide_eq_true_eq, Bool.and_eq_true, List.cons.injEq]
theorem len_ne {α : Type} [DecidableEq α] (x y : List α) (h : ¬ x.length = y.length) : decide (x = y) = false := decide_eq_false (fun e => h (by rw [e]))
theorem rdi (l : List Int) (i : Nat) (h : i < l.length) : rd l (i : Int) = l[i] := by simp [rd, List.getD, List.getElem?_eq_getElem h]
theorem rd2 (l : List (List Pt)) (i : Nat) (h : i < l.length) : rd_L2 l (i : Int) = l[i] := by simp [rd_L2, List.getD, List.getElem?_eq_getElem h]
theorem rd3 (l : List (List Int)) (i : Nat) (h : i < l.length) : rd_L3 l (i : Int) = l[i] := by simp [rd_L3, List.getD, List.getElem?_eq_getElem h]
theorem rdt (l : List Pt) (i : Nat) (h : i < l.length) : rd_T42 l (i : Int) = l[i] := by simp [rd_T42, List.getD, List.getElem?_eq_getElem h]
theorem neP (p q : Pt) : (!(p.f0 == q.f0) || (!(p.f1 == q.f1) || (!(p.f2 == q.f2)))) = !decide (p = q) := by
  cases p; cases q
  rw [Bool.eq_iff_iff]
  simp

theorem eqI_l0 (x y : List Int) (hl : x.length = y.length) (hb : x.length ≤ 4611686018427387903) : ∀ m i : Nat, i + m = x.length → Ev (fun k => slices_Equal_int_int.l0 k x y (x.length : Int) (i : Int)) (decide (x.drop i = y.drop i)) := by
  intro m
  induction m with
  | zero =>
    intro i hm
    refine Ev.step (fun k => slices_Equal_int_int.l0.eq_2 _ _ _ _ _) ?_
    simp only [if_neg (show ¬ ((i : Int) < (x.length : Int)) by omega)]
    rw [List.drop_eq_nil_of_le (by omega), List.drop_eq_nil_of_le (by omega)]
    exact Ev.now _
  | succ m ih =>
    intro i hm
    refine Ev.step (fun k => slices_Equal_int_int.l0.eq_2 _ _ _ _ _) ?_
    simp only [if_pos (show (i : Int) < (x.length : Int) by omega), if_pos (show (0 : Int) ≤ (i : Int) by omega), if_pos (show (i : Int) < (y.length : Int) by omega), rdi x i (by omega), rdi y i (by omega), nxr i (by omega), drop_eq x y i (by omega) (by omega)]
    by_cases he : x[i] = y[i]
    · simp only [if_pos he, decide_eq_true he, Bool.true_and]
      exact ih (i + 1) (by omega)
    · simp only [if_neg he, decide_eq_false he, Bool.false_and]
      exact Ev.now _
theorem eqI_ev (x y : List Int) (hb : x.length ≤ 4611686018427387903) : Ev (fun k => slices_Equal_int_int.f k x y) (decide (x = y)) := by
  unfold slices_Equal_int_int.f
  by_cases hl : x.length = y.length
  · simp only [if_pos (show (x.length : Int) = (y.length : Int) by omega)]
    have := eqI_l0 x y hl hb x.length 0 (by omega)
    simp only [List.drop_zero] at this
    exact this
  · simp only [if_neg (show ¬ (x.length : Int) = (y.length : Int) by omega), len_ne x y hl]
    exact Ev.now _

theorem arc_l1 (x y : List (List Pt)) (i : Nat) (hi : i < x.length) (hi2 : i < y.length) (hl : x[i].length = y[i].length) (hb : x[i].length ≤ 4611686018427387903) (R : Bool) (next : Ev (fun k => arc_Same.l0 k x y (x.length : Int) (wrap64 ((i : Int) + 1))) R) :
    ∀ m j : Nat, j + m = x[i].length → Ev (fun k => arc_Same.l1 k x y (i : Int) (x.length : Int) (i : Int) x[i] (x[i].length : Int) (j : Int)) (decide (x[i].drop j = y[i].drop j) && R) := by
  intro m
  induction m with
  | zero =>
    intro j hm
    refine Ev.step (fun k => arc_Same.l1.eq_2 _ _ _ _ _ _ _ _ _) ?_
    simp only [if_neg (show ¬ ((j : Int) < (x[i].length : Int)) by omega)]
    rw [List.drop_eq_nil_of_le (by omega), List.drop_eq_nil_of_le (by omega), decide_eq_true rfl, Bool.true_and]
    exact next
  | succ m ih =>
    intro j hm
    refine Ev.step (fun k => arc_Same.l1.eq_2 _ _ _ _ _ _ _ _ _) ?_
    simp only [if_pos (show (j : Int) < (x[i].length : Int) by omega), if_pos (show (0 : Int) ≤ (j : Int) by omega), if_pos (show (0 : Int) ≤ (i : Int) by omega), if_pos (show (i : Int) < (y.length : Int) by omega), rd2 y i hi2, if_pos (show (j : Int) < (y[i].length : Int) by omega), rdt x[i] j (by omega), rdt y[i] j (by omega), neP, nxr j (by omega), drop_eq x[i] y[i] j (by omega) (by omega)]
    by_cases he : x[i][j] = y[i][j]
    · simp only [decide_eq_true he, Bool.not_true, Bool.false_eq_true, if_false, Bool.true_and]
      exact ih (j + 1) (by omega)
    · simp only [decide_eq_false he, Bool.not_false, if_true, Bool.false_and]
      exact Ev.now _
theorem arc_l0 (x y : List (List Pt)) (hl : x.length = y.length) (hb : x.length ≤ 4611686018427387903) (hx : ∀ a ∈ x, a.length ≤ 4611686018427387903) : ∀ m i : Nat, i + m = x.length → Ev (fun k => arc_Same.l0 k x y (x.length : Int) (i : Int)) (decide (x.drop i = y.drop i)) := by
  intro m
  induction m with
  | zero =>
    intro i hm
    refine Ev.step (fun k => arc_Same.l0.eq_2 _ _ _ _ _) ?_
    simp only [if_neg (show ¬ ((i : Int) < (x.length : Int)) by omega)]
    rw [List.drop_eq_nil_of_le (by omega), List.drop_eq_nil_of_le (by omega)]
    exact Ev.now _
  | succ m ih =>
    intro i hm
    have h1 : i < x.length := by omega
    have h2 : i < y.length := by omega
    refine Ev.step (fun k => arc_Same.l0.eq_2 _ _ _ _ _) ?_
    simp only [if_pos (show (i : Int) < (x.length : Int) by omega), if_pos (show (0 : Int) ≤ (i : Int) by omega), if_pos (show (i : Int) < (y.length : Int) by omega), rd2 x i h1, rd2 y i h2, drop_eq x y i h1 h2]
    by_cases he : x[i].length = y[i].length
    · simp only [if_pos (show (x[i].length : Int) = (y[i].length : Int) by omega)]
      have hxi := hx _ (List.getElem_mem h1)
      have := arc_l1 x y i h1 h2 he hxi (decide (x.drop (i + 1) = y.drop (i + 1))) (by rw [nxr i (by omega)]; exact ih (i + 1) (by omega)) x[i].length 0 (by omega)
      simp only [List.drop_zero] at this
      exact this
    · simp only [if_neg (show ¬ (x[i].length : Int) = (y[i].length : Int) by omega), len_ne _ _ he, Bool.false_and]
      exact Ev.now _
theorem arc_ev (x y : List (List Pt)) (hb : x.length ≤ 4611686018427387903) (hx : ∀ a ∈ x, a.length ≤ 4611686018427387903) : Ev (fun k => arc_Same.f k x y) (decide (x = y)) := by
  unfold arc_Same.f
  by_cases hl : x.length = y.length
  · simp only [if_pos (show (x.length : Int) = (y.length : Int) by omega)]
    have := arc_l0 x y hl hb hx x.length 0 (by omega)
    simp only [List.drop_zero] at this
    exact this
  · simp only [if_neg (show ¬ (x.length : Int) = (y.length : Int) by omega), len_ne x y hl]
    exact Ev.now _
end Go.Proofs.Ytfbkjgedaadlmaa.Rw
