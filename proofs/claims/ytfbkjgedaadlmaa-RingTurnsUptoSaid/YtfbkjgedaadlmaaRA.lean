/- Arcs: in their direction, and the other way round; how long a map is. No condition. -/
import Derived.Test.YtfbkjgedaadlmaaPx5
import Derived.Test.YtfbkjgedaadlmaaPx3
import Derived.Test.YtfbkjgedaadlmaaPx2
import Derived.Test.YtfbkjgedaadlmaaPx14
namespace Go.Proofs.Ytfbkjgedaadlmaa.G
set_option linter.unusedVariables false
set_option linter.unusedSimpArgs false
open Go.RowKit Go.Proofs.Ytfbkjgedaadlmaa.P Go.Proofs.YtfbkjgedaadlmaaW.PrintWords Go.Proofs.YtfbkjgedaadlmaaW.PrintLast Go.Proofs.YtfbkjgedaadlmaaW.PrintMore

theorem w64_id {x : Int} (h : -9223372036854775808 ≤ x) (h' : x ≤ 9223372036854775807) : wrap64 x = x := by unfold wrap64; omega
theorem not64 {x : Int} (h : -9223372036854775808 ≤ x) (h' : x ≤ 9223372036854775807) : Go.bits .xor .i64 (-1) x = -x - 1 := by
  unfold Go.bits
  have e : (BitVec.ofInt IntKind.i64.bits (-1) ^^^ BitVec.ofInt IntKind.i64.bits x) = ~~~ (BitVec.ofInt 64 x) := by
    show BitVec.ofInt 64 (-1) ^^^ BitVec.ofInt 64 x = _
    rw [show BitVec.ofInt 64 (-1) = BitVec.allOnes 64 by decide, BitVec.allOnes_xor]
  simp only [e]
  have h2 : (~~~ (BitVec.ofInt 64 x)).toNat = (18446744073709551615 - x % 18446744073709551616).toNat := by
    rw [BitVec.toNat_not, BitVec.toNat_ofInt]
    show 18446744073709551616 - 1 - (x % 18446744073709551616).toNat = _
    omega
  show IntKind.i64.wrap (((~~~ (BitVec.ofInt 64 x)).toNat : Nat) : Int) = _
  rw [h2]
  simp only [i64_w]
  unfold wrap64
  omega
abbrev Pt := S42
theorem rdp (l : List Pt) (i : Nat) (h : i < l.length) : rd_T42 l (i : Int) = l[i] := by
  unfold rd_T42
  simp [h]
theorem same_l0 (a : List Pt) (hl : a.length ≤ 9223372036854775807) : ∀ (n i : Nat), i + n = a.length → Ev (fun k => lapidaryref07_SamePoints.l0 k a a (i : Int)) true := by
  intro n
  induction n with
  | zero =>
    intro i hi
    refine Ev.step (fun k => lapidaryref07_SamePoints.l0.eq_2 _ _ _ _) ?_
    simp only [if_neg (show ¬ ((i : Int) < (a.length : Int)) by omega)]
    exact Ev.now true
  | succ n ih =>
    intro i hi
    refine Ev.step (fun k => lapidaryref07_SamePoints.l0.eq_2 _ _ _ _) ?_
    simp only [if_pos (show (i : Int) < (a.length : Int) by omega), if_pos (show (0 : Int) ≤ (i : Int) by omega), w64_id (x := (i : Int) + 1) (by omega) (by omega), beq_self_eq_true, Bool.not_true, Bool.or_self, Bool.false_eq_true, if_false]
    exact ih (i + 1) (by omega)
theorem same_ev (a : List Pt) (hl : a.length ≤ 9223372036854775807) : Ev (fun k => lapidaryref07_SamePoints.f k a a) true := by
  unfold lapidaryref07_SamePoints.f
  simp only [if_true]
  exact same_l0 a hl a.length 0 (by omega)
theorem back_l0 (a : List Pt) (hl : a.length < 5864062014805) : ∀ (n : Nat) (b : List Pt), n ≤ a.length → b.length + n ≤ a.length → Ev (fun k => arc_Back.l0 k a b ((n : Int) - 1)) (b ++ (a.take n).reverse) := by
  intro n
  induction n with
  | zero =>
    intro b _ _
    refine Ev.step (fun k => arc_Back.l0.eq_2 _ _ _ _) ?_
    simp only [if_neg (show ¬ (((0 : Nat) : Int) - 1 ≥ 0) by omega), List.take_zero, List.reverse_nil, List.append_nil]
    exact Ev.now b
  | succ n ih =>
    intro b h1 h2
    refine Ev.step (fun k => arc_Back.l0.eq_2 _ _ _ _) ?_
    have e : ((n + 1 : Nat) : Int) - 1 = (n : Int) := by omega
    simp only [e, if_pos (show (n : Int) ≥ 0 by omega), if_pos (show (0 : Int) ≤ (n : Int) by omega), if_pos (show (n : Int) < (a.length : Int) by omega), if_pos (show b.length < 5864062014805 by omega), rdp a n (by omega), w64_id (x := (n : Int) - 1) (by omega) (by omega)]
    have I := ih (b ++ [a[n]]) (by omega) (by rw [List.length_append, List.length_singleton]; omega)
    have I' : (b ++ [a[n]]) ++ (a.take n).reverse = b ++ (a.take (n + 1)).reverse := by rw [List.take_succ_eq_append_getElem (by omega), List.reverse_append, List.reverse_singleton, List.append_assoc]
    rw [I'] at I
    exact I
theorem back_ev (a : List Pt) (hl : a.length < 5864062014805) : Ev (fun k => arc_Back.f k a) a.reverse := by
  unfold arc_Back.f
  rw [w64_id (by omega) (by omega)]
  have h := back_l0 a hl a.length [] (Nat.le_refl _) (by simp)
  simpa using h
/-- An arc, in its direction; or that there is none. -/
def arcB (m : List (List Pt)) (n : Int) : Option (List Pt) := if 0 ≤ n then m[n.toNat]? else (m[(-1 - n).toNat]?).map List.reverse
theorem rdl (m : List (List Pt)) (i : Nat) (h : i < m.length) : rd_L2 m (i : Int) = m[i] := by
  unfold rd_L2
  simp [h]
theorem arc_ev (m : List (List Pt)) (r p : List (List Int)) (n : Int) (h1 : -9223372036854775808 ≤ n) (h2 : n ≤ 9223372036854775807) (hm : ∀ x ∈ m, x.length < 5864062014805) :
    Ev (fun k => ring_Arc.f k m r p n) (match arcB m n with | some l => (l, 0) | none => ([], 2)) := by
  unfold ring_Arc.f arcB
  by_cases h : n < 0
  · simp only [if_pos h, if_neg (show ¬ 0 ≤ n by omega), not64 h1 h2]
    obtain ⟨i, hi⟩ := Int.eq_ofNat_of_zero_le (show 0 ≤ -n - 1 by omega)
    rw [show -1 - n = (i : Int) by omega, show -n - 1 = (i : Int) by omega, Int.toNat_natCast]
    refine Ev.step (fun k => ring_Arc.j0.eq_2 _ _ _ _ _ _) ?_
    by_cases hl : i < m.length
    · simp only [if_neg (show ¬ ((i : Int) ≥ (m.length : Int)) by omega), decide_eq_true h, if_true, if_pos (show (0 : Int) ≤ (i : Int) by omega), if_pos (show (i : Int) < (m.length : Int) by omega), rdl m i hl, List.getElem?_eq_getElem hl, Option.map_some]
      exact Ev.bind (back_ev m[i] (hm _ (List.getElem_mem hl))) (Ev.now _)
    · simp only [if_pos (show ((i : Int) ≥ (m.length : Int)) by omega), List.getElem?_eq_none (show m.length ≤ i by omega), Option.map_none]
      exact Ev.now _
  · simp only [if_neg h, if_pos (show 0 ≤ n by omega)]
    obtain ⟨i, rfl⟩ := Int.eq_ofNat_of_zero_le (show 0 ≤ n by omega)
    rw [Int.toNat_natCast]
    refine Ev.step (fun k => ring_Arc.j0.eq_2 _ _ _ _ _ _) ?_
    by_cases hl : i < m.length
    · simp only [if_neg (show ¬ ((i : Int) ≥ (m.length : Int)) by omega), decide_eq_false h, Bool.false_eq_true, if_false, if_pos (show (0 : Int) ≤ (i : Int) by omega), if_pos (show (i : Int) < (m.length : Int) by omega), rdl m i hl, List.getElem?_eq_getElem hl]
      refine Ev.bind (a := m[i]) ?_ (Ev.now _)
      unfold api_Point.f
      simp only [if_pos (hm _ (List.getElem_mem hl))]
      exact Ev.now _
    · simp only [if_pos (show ((i : Int) ≥ (m.length : Int)) by omega), List.getElem?_eq_none (show m.length ≤ i by omega)]
      exact Ev.now _
end Go.Proofs.Ytfbkjgedaadlmaa.G
