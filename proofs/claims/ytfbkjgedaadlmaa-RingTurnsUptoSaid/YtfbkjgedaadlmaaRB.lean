/- The document's arcs; how long a map is. No condition. -/
import Derived.Test.YtfbkjgedaadlmaaPx12
import Derived.Test.YtfbkjgedaadlmaaPx11
import Derived.Test.YtfbkjgedaadlmaaRA
namespace Go.Proofs.Ytfbkjgedaadlmaa.G
set_option linter.unusedVariables false
set_option linter.unusedSimpArgs false
open Go.RowKit Go.Proofs.Ytfbkjgedaadlmaa.P Go.Proofs.YtfbkjgedaadlmaaW.PrintWords Go.Proofs.YtfbkjgedaadlmaaW.PrintLast Go.Proofs.YtfbkjgedaadlmaaW.PrintMore

theorem known_ev : Ev (fun k => lapidarylaw16_known.f k) true := Ev.of (fun k => lapidarylaw16_known.mono k) (k := 40) (by decide +kernel)
theorem known_ev' : Ev (fun k => (lapidarylaw16_known.f k).bind fun t => some t) true := Ev.bind (f := fun _ t => some t) known_ev (Ev.now true)
theorem rarc_l0 (x : Int) (a : List Pt) (hl : a.length < 5864062014805) : ∀ (n i : Nat) (b : List Pt), i + n = a.length → b.length ≤ i →
    Ev (fun k => lapidaryref16_Arc.l0 k x b a (i : Int)) (b ++ (if x < 0 then a.reverse else a).drop i, 0) := by
  intro n
  induction n with
  | zero =>
    intro i b hi _
    refine Ev.step (fun k => lapidaryref16_Arc.l0.eq_2 _ _ _ _ _) ?_
    simp only [if_neg (show ¬ ((i : Int) < (a.length : Int)) by omega)]
    rw [List.drop_of_length_le (by split <;> (first | omega | (rw [List.length_reverse]; omega))), List.append_nil]
    exact Ev.now _
  | succ n ih =>
    intro i b hi hb
    have h1 : i < a.length := by omega
    refine Ev.step (fun k => lapidaryref16_Arc.l0.eq_2 _ _ _ _ _) ?_
    by_cases h : x < 0
    · have I := ih (i + 1) (b ++ [a[a.length - 1 - i]]) (by omega) (by rw [List.length_append, List.length_singleton]; omega)
      have e : wrap64 (wrap64 ((a.length : Int) - 1) - (i : Int)) = ((a.length - 1 - i : Nat) : Int) := by
        rw [w64_id (x := (a.length : Int) - 1) (by omega) (by omega), w64_id (by omega) (by omega)]; omega
      simp only [if_pos h] at I ⊢
      simp only [if_pos (show (i : Int) < (a.length : Int) by omega), e, if_pos (show (0 : Int) ≤ ((a.length - 1 - i : Nat) : Int) by omega), if_pos (show ((a.length - 1 - i : Nat) : Int) < (a.length : Int) by omega), if_pos (show b.length < 5864062014805 by omega), rdp a (a.length - 1 - i) (by omega), w64_id (x := (i : Int) + 1) (by omega) (by omega)]
      have I' : (b ++ [a[a.length - 1 - i]]) ++ a.reverse.drop (i + 1) = b ++ a.reverse.drop i := by
        rw [List.drop_eq_getElem_cons (show i < a.reverse.length by simpa using h1), List.getElem_reverse, List.append_assoc]; rfl
      rw [I'] at I
      exact I
    · have I := ih (i + 1) (b ++ [a[i]]) (by omega) (by rw [List.length_append, List.length_singleton]; omega)
      simp only [if_neg h] at I ⊢
      simp only [if_pos (show (i : Int) < (a.length : Int) by omega), if_pos (show (0 : Int) ≤ (i : Int) by omega), if_pos (show b.length < 5864062014805 by omega), rdp a i h1, w64_id (x := (i : Int) + 1) (by omega) (by omega)]
      have I' : (b ++ [a[i]]) ++ a.drop (i + 1) = b ++ a.drop i := by
        rw [List.drop_eq_getElem_cons h1, List.append_assoc]; rfl
      rw [I'] at I
      exact I
theorem rarc_ev (m : List (List Pt)) (r p : List (List Int)) (n : Int) (h1 : -9223372036854775808 ≤ n) (h2 : n ≤ 9223372036854775807) (hm : ∀ x ∈ m, x.length < 5864062014805) :
    Ev (fun k => lapidaryref16_Arc.f k m r p n) (match arcB m n with | some l => (l, 0) | none => ([], 2)) := by
  have key : ∀ i : Nat, (n = (i : Int) ∨ n = -1 - (i : Int)) → Ev (fun k => lapidaryref16_Arc.j0 k n [] (i : Int) m r p) (match m[i]? with | some l => ((if n < 0 then l.reverse else l), 0) | none => ([], 2)) := by
    intro i hi
    refine Ev.step (fun k => lapidaryref16_Arc.j0.eq_2 _ _ _ _ _ _ _) ?_
    simp only [if_neg (show ¬ ((i : Int) < 0) by omega)]
    refine Ev.step (fun k => lapidaryref16_Arc.j1.eq_2 _ _ _ _ _ _ _ _) ?_
    by_cases hl : i < m.length
    · simp only [decide_eq_false (show ¬ ((i : Int) ≥ (m.length : Int)) by omega), Bool.false_eq_true, if_false, if_pos (show (0 : Int) ≤ (i : Int) by omega), if_pos (show (i : Int) < (m.length : Int) by omega), rdl m i hl, List.getElem?_eq_getElem hl]
      have h := rarc_l0 n m[i] (hm _ (List.getElem_mem hl)) m[i].length 0 [] (by omega) (by simp)
      simpa using h
    · simp only [decide_eq_true (show ((i : Int) ≥ (m.length : Int)) by omega), if_true, List.getElem?_eq_none (show m.length ≤ i by omega)]
      exact Ev.now _
  unfold lapidaryref16_Arc.f arcB
  by_cases h : n < 0
  · obtain ⟨i, hi⟩ := Int.eq_ofNat_of_zero_le (show 0 ≤ -1 - n by omega)
    have K := key i (.inr (by omega))
    simp only [if_pos h, if_neg (show ¬ 0 ≤ n by omega)] at K ⊢
    rw [w64_id (x := -1 - n) (by omega) (by omega), hi, Int.toNat_natCast]
    cases hh : m[i]? <;> simp only [hh, Option.map_some, Option.map_none] at K ⊢ <;> exact K
  · obtain ⟨i, rfl⟩ := Int.eq_ofNat_of_zero_le (show 0 ≤ n by omega)
    have K := key i (.inl rfl)
    simp only [if_neg h, if_pos (show 0 ≤ (i : Int) by omega), Int.toNat_natCast] at K ⊢
    exact K
end Go.Proofs.Ytfbkjgedaadlmaa.G
