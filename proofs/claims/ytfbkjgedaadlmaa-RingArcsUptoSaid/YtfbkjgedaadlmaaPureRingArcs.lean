/- Of any map any arc, in either direction, is what the document says; the other direction is the other way round. No condition. -/
import Derived.Test.YtfbkjgedaadlmaaStRingArcs
import Derived.Test.YtfbkjgedaadlmaaRB
namespace Go.Proofs.Ytfbkjgedaadlmaa.Pure
set_option linter.unusedVariables false
set_option linter.unusedSimpArgs false
open Go.RowKit Go.Proofs.Ytfbkjgedaadlmaa.P Go.Proofs.Ytfbkjgedaadlmaa.G Go.Proofs.YtfbkjgedaadlmaaW.PrintWords Go.Proofs.YtfbkjgedaadlmaaW.PrintLast Go.Proofs.YtfbkjgedaadlmaaW.PrintMore

theorem long_l2 (m : List (List Pt)) (r p : List (List Int)) (hp : p.length ≤ 9223372036854775807) : ∀ (n i : Nat) (x : Int), i + n = p.length → ∃ b, Ev (fun k => lapidarylaw16_long.l2 k x (i : Int) m r p) b := by
  intro n
  induction n with
  | zero =>
    intro i x hi
    refine ⟨decide (x > 200), Ev.step (fun k => lapidarylaw16_long.l2.eq_2 _ _ _ _ _ _) ?_⟩
    simp only [if_neg (show ¬ ((i : Int) < (p.length : Int)) by omega)]
    exact Ev.now _
  | succ n ih =>
    intro i x hi
    obtain ⟨b, I⟩ := ih (i + 1) (wrap64 (wrap64 (x + 1) + ((rd_L3 p i).length : Int))) (by omega)
    refine ⟨b, Ev.step (fun k => lapidarylaw16_long.l2.eq_2 _ _ _ _ _ _) ?_⟩
    simp only [if_pos (show (i : Int) < (p.length : Int) by omega), if_pos (show (0 : Int) ≤ (i : Int) by omega), w64_id (x := (i : Int) + 1) (by omega) (by omega)]
    exact I
theorem long_l1 (m : List (List Pt)) (r p : List (List Int)) (hr : r.length ≤ 9223372036854775807) (hp : p.length ≤ 9223372036854775807) : ∀ (n i : Nat) (x : Int), i + n = r.length → ∃ b, Ev (fun k => lapidarylaw16_long.l1 k x (i : Int) m r p) b := by
  intro n
  induction n with
  | zero =>
    intro i x hi
    obtain ⟨b, I⟩ := long_l2 m r p hp p.length 0 x (by omega)
    refine ⟨b, Ev.step (fun k => lapidarylaw16_long.l1.eq_2 _ _ _ _ _ _) ?_⟩
    simp only [if_neg (show ¬ ((i : Int) < (r.length : Int)) by omega)]
    exact I
  | succ n ih =>
    intro i x hi
    obtain ⟨b, I⟩ := ih (i + 1) (wrap64 (wrap64 (x + 1) + ((rd_L3 r i).length : Int))) (by omega)
    refine ⟨b, Ev.step (fun k => lapidarylaw16_long.l1.eq_2 _ _ _ _ _ _) ?_⟩
    simp only [if_pos (show (i : Int) < (r.length : Int) by omega), if_pos (show (0 : Int) ≤ (i : Int) by omega), w64_id (x := (i : Int) + 1) (by omega) (by omega)]
    exact I
theorem long_l0 (m : List (List Pt)) (r p : List (List Int)) (hm : m.length ≤ 9223372036854775807) (hr : r.length ≤ 9223372036854775807) (hp : p.length ≤ 9223372036854775807) : ∀ (n i : Nat) (x : Int), i + n = m.length → ∃ b, Ev (fun k => lapidarylaw16_long.l0 k x (i : Int) m r p) b := by
  intro n
  induction n with
  | zero =>
    intro i x hi
    obtain ⟨b, I⟩ := long_l1 m r p hr hp r.length 0 x (by omega)
    refine ⟨b, Ev.step (fun k => lapidarylaw16_long.l0.eq_2 _ _ _ _ _ _) ?_⟩
    simp only [if_neg (show ¬ ((i : Int) < (m.length : Int)) by omega)]
    exact I
  | succ n ih =>
    intro i x hi
    obtain ⟨b, I⟩ := ih (i + 1) (wrap64 (wrap64 (x + 1) + ((rd_L2 m i).length : Int))) (by omega)
    refine ⟨b, Ev.step (fun k => lapidarylaw16_long.l0.eq_2 _ _ _ _ _ _) ?_⟩
    simp only [if_pos (show (i : Int) < (m.length : Int) by omega), if_pos (show (0 : Int) ≤ (i : Int) by omega), w64_id (x := (i : Int) + 1) (by omega) (by omega)]
    exact I
theorem sum_le {α : Type} (f : α → Nat) : ∀ (l : List α) (x : α), x ∈ l → f x ≤ (l.map f).sum := by
  intro l
  induction l with
  | nil => intro x h; simp at h
  | cons y l ih =>
    intro x h
    rw [List.map_cons, List.sum_cons]
    rcases List.mem_cons.1 h with rfl | h
    · omega
    · have := ih x h; omega
theorem len_le {α : Type} (f : α → Nat) (hf : ∀ x, 1 ≤ f x) : ∀ l : List α, l.length ≤ (l.map f).sum := by
  intro l
  induction l with
  | nil => simp
  | cons y l ih => rw [List.map_cons, List.sum_cons, List.length_cons]; have := hf y; omega
theorem arcB_other (m : List (List Pt)) (n : Int) : arcB m (-1 - n) = (arcB m n).map List.reverse := by
  unfold arcB
  by_cases h : 0 ≤ n
  · rw [if_pos h, if_neg (by omega), show -1 - (-1 - n) = n by omega]
  · rw [if_neg h, if_pos (by omega)]
    cases m[(-1 - n).toNat]? <;> simp
theorem arcs_l0 (a : List Pt) (hl : a.length ≤ 9223372036854775807) : ∀ (n i : Nat), i + n = a.length → Ev (fun k => lapidarylaw16_RingArcs.l0 k a a.reverse (i : Int)) true := by
  intro n
  induction n with
  | zero =>
    intro i hi
    refine Ev.step (fun k => lapidarylaw16_RingArcs.l0.eq_2 _ _ _ _) ?_
    simp only [if_neg (show ¬ ((i : Int) < (a.length : Int)) by omega)]
    exact known_ev'
  | succ n ih =>
    intro i hi
    refine Ev.step (fun k => lapidarylaw16_RingArcs.l0.eq_2 _ _ _ _) ?_
    have e : wrap64 (wrap64 ((a.length : Int) - 1) - (i : Int)) = ((a.length - 1 - i : Nat) : Int) := by
      rw [w64_id (x := (a.length : Int) - 1) (by omega) (by omega), w64_id (by omega) (by omega)]; omega
    have hr : rd_T42 a.reverse (i : Int) = a[a.length - 1 - i] := by rw [rdp a.reverse i (by rw [List.length_reverse]; omega), List.getElem_reverse]
    simp only [List.length_reverse, e, if_pos (show (i : Int) < (a.length : Int) by omega), if_pos (show (0 : Int) ≤ (i : Int) by omega), if_pos (show (0 : Int) ≤ ((a.length - 1 - i : Nat) : Int) by omega), if_pos (show ((a.length - 1 - i : Nat) : Int) < (a.length : Int) by omega), rdp a (a.length - 1 - i) (by omega), hr, w64_id (x := (i : Int) + 1) (by omega) (by omega), beq_self_eq_true, Bool.not_true, Bool.or_self, Bool.false_eq_true, if_false]
    exact ih (i + 1) (by omega)
theorem RingArcs : lapidarylaw16_RingArcs.Pure := by
  intro m r p n hm hr hp wn hb
  have hn : -9223372036854775808 ≤ n ∧ n ≤ 9223372036854775807 := by simpa [Lit.wf, IntKind.min, IntKind.max, IntKind.signed, IntKind.bits] using wn
  have hL : ∀ x ∈ m, x.length < 5864062014805 := by
    intro x hx
    have h1 : 1 + (x.map mu42).sum ≤ (List.map (fun l : List S42 => 1 + (l.map mu42).sum) m).sum := sum_le (fun l : List S42 => 1 + (l.map mu42).sum) m x hx
    have hb2 : (List.map (fun l : List S42 => 1 + (l.map mu42).sum) m).sum ≤ 1048576 := by
      refine Nat.le_trans ?_ hb
      refine Nat.le_trans ?_ (Nat.le_add_right _ _)
      refine Nat.le_trans ?_ (Nat.le_add_right _ _)
      refine Nat.le_trans ?_ (Nat.le_add_right _ _)
      refine Nat.le_trans (Nat.le_add_left _ 1) (Nat.le_add_left _ 1)
    have h2 := len_le mu42 (fun y => by unfold mu42; omega) x
    omega
  refine Ev.rounds (g := fun k => lapidarylaw16_RingArcs.f k m r p n) ?_
  unfold lapidarylaw16_RingArcs.f
  obtain ⟨b, hB⟩ := long_l0 m r p (by simpa [maxLen] using hm.1) (by simpa [maxLen] using hr.1) (by simpa [maxLen] using hp.1) m.length 0 0 (by omega)
  refine Ev.bind (a := b) hB ?_
  cases b with
  | true => simp only [if_true]; exact known_ev'
  | false =>
    simp only [Bool.false_eq_true, if_false]
    have A := arc_ev m r p n hn.1 hn.2 hL
    have B := rarc_ev m r p n hn.1 hn.2 hL
    have C := arc_ev m r p (-1 - n) (by omega) (by omega) hL
    rw [arcB_other] at C
    rw [w64_id (x := -1 - n) (by omega) (by omega)]
    have hlen : ∀ l, arcB m n = some l → l.length < 5864062014805 := by
      intro l hl
      unfold arcB at hl
      split at hl
      · obtain ⟨h1, rfl⟩ := List.getElem?_eq_some_iff.1 hl; exact hL _ (List.getElem_mem h1)
      · obtain ⟨y, hy, rfl⟩ := Option.map_eq_some_iff.1 hl
        obtain ⟨h1, rfl⟩ := List.getElem?_eq_some_iff.1 hy
        rw [List.length_reverse]; exact hL _ (List.getElem_mem h1)
    refine Ev.bind A ?_
    refine Ev.bind B ?_
    refine Ev.bind C ?_
    cases hq : arcB m n with
    | none =>
      simp only [Option.map_none]
      refine Ev.bind (same_ev [] (by simp)) ?_
      simp only [if_true]
      refine Ev.step (fun k => lapidarylaw16_RingArcs.j0.eq_2 _ _ _ _) ?_
      simp only [bne_self_eq_false, Bool.false_eq_true, if_false]
      exact arcs_l0 [] (by simp) 0 0 (by simp)
    | some l =>
      have h := hlen l hq
      simp only [Option.map_some]
      refine Ev.bind (same_ev l (by omega)) ?_
      simp only [if_true]
      refine Ev.step (fun k => lapidarylaw16_RingArcs.j0.eq_2 _ _ _ _) ?_
      simp only [List.length_reverse, bne_self_eq_false, Bool.false_eq_true, if_false]
      exact arcs_l0 l (by omega) l.length 0 (by omega)
end Go.Proofs.Ytfbkjgedaadlmaa.Pure
