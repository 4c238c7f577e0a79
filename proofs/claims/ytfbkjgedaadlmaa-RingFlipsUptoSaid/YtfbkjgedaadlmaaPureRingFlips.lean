/- Told the other way round twice a ring is as it was; its points are the same, the other way round. No condition. -/
import Derived.Test.YtfbkjgedaadlmaaStRingFlips
import Derived.Test.YtfbkjgedaadlmaaRD
namespace Go.Proofs.Ytfbkjgedaadlmaa.Pure
set_option linter.unusedVariables false
set_option linter.unusedSimpArgs false
open Go.RowKit Go.Proofs.Ytfbkjgedaadlmaa.P Go.Proofs.Ytfbkjgedaadlmaa.G Go.Proofs.YtfbkjgedaadlmaaW.PrintWords Go.Proofs.YtfbkjgedaadlmaaW.PrintLast Go.Proofs.YtfbkjgedaadlmaaW.PrintMore

theorem flip_eq (x : List Int) (hl : x.length ≤ 1048576) (hw : ∀ y ∈ x, -9223372036854775808 ≤ y ∧ y ≤ 9223372036854775807) : ring_Flip.f x = some (flipR x) := by
  unfold ring_Flip.f flipR
  rw [if_pos (by omega)]
  congr 1
  apply List.map_congr_left
  intro y hy
  have := hw y (List.mem_reverse.1 hy)
  exact not64 this.1 this.2
theorem flip_wf (x : List Int) (hw : ∀ y ∈ x, -9223372036854775808 ≤ y ∧ y ≤ 9223372036854775807) : ∀ y ∈ flipR x, -9223372036854775808 ≤ y ∧ y ≤ 9223372036854775807 := by
  intro y hy
  unfold flipR at hy
  obtain ⟨z, hz, rfl⟩ := List.mem_map.1 hy
  have := hw z (List.mem_reverse.1 hz)
  omega
theorem flip_len (x : List Int) : (flipR x).length = x.length := by unfold flipR; simp
theorem ints_l0 (a : List Int) (hl : a.length ≤ 9223372036854775807) : ∀ (n i : Nat), i + n = a.length → Ev (fun k => lapidaryref00_SameInts.l0 k a a (i : Int)) true := by
  intro n
  induction n with
  | zero =>
    intro i hi
    refine Ev.step (fun k => lapidaryref00_SameInts.l0.eq_2 _ _ _ _) ?_
    simp only [if_neg (show ¬ ((i : Int) < (a.length : Int)) by omega)]
    exact Ev.now true
  | succ n ih =>
    intro i hi
    refine Ev.step (fun k => lapidaryref00_SameInts.l0.eq_2 _ _ _ _) ?_
    simp only [if_pos (show (i : Int) < (a.length : Int) by omega), if_pos (show (0 : Int) ≤ (i : Int) by omega), w64_id (x := (i : Int) + 1) (by omega) (by omega), if_true]
    exact ih (i + 1) (by omega)
theorem ints_ev (a : List Int) (hl : a.length ≤ 9223372036854775807) : Ev (fun k => lapidaryref00_SameInts.f k a a) true := by
  unfold lapidaryref00_SameInts.f
  simp only [if_true]
  exact ints_l0 a hl a.length 0 (by omega)
theorem flips_l0 (a b : List Pt) (hl : a.length < 5864062014805) (hb : b.length = a.length) (h : ∀ i, i < a.length → b[i]? = a[(a.length - i) % a.length]?) : ∀ (n i : Nat), i + n = a.length → Ev (fun k => lapidarylaw16_RingFlips.l0 k a b (a.length : Int) (i : Int)) true := by
  intro n
  induction n with
  | zero =>
    intro i hi
    refine Ev.step (fun k => lapidarylaw16_RingFlips.l0.eq_2 _ _ _ _ _) ?_
    simp only [if_neg (show ¬ ((i : Int) < (a.length : Int)) by omega)]
    exact known_ev'
  | succ n ih =>
    intro i hi
    have h1 : i < a.length := by omega
    have h2 : (a.length - i) % a.length < a.length := Nat.mod_lt _ (by omega)
    have h3 := h i h1
    rw [List.getElem?_eq_getElem (by omega), List.getElem?_eq_getElem h2] at h3
    have h3 := Option.some.inj h3
    refine Ev.step (fun k => lapidarylaw16_RingFlips.l0.eq_2 _ _ _ _ _) ?_
    have e : Int.tmod (wrap64 ((a.length : Int) - (i : Int))) (a.length : Int) = (((a.length - i) % a.length : Nat) : Int) := by
      rw [w64_id (by omega) (by omega), Int.tmod_eq_emod_of_nonneg (by omega), show (a.length : Int) - (i : Int) = ((a.length - i : Nat) : Int) by omega, Int.natCast_emod]
    generalize (a.length - i) % a.length = j at *
    simp only [e, if_pos (show (i : Int) < (a.length : Int) by omega), if_pos (show (0 : Int) ≤ (i : Int) by omega), if_pos (show (i : Int) < (b.length : Int) by omega), if_neg (show ¬ (a.length : Int) = 0 by omega), if_pos (show (0 : Int) ≤ (j : Int) by omega), if_pos (show (j : Int) < (a.length : Int) by omega), rdp b i (by omega), rdp a j h2, h3, w64_id (x := (i : Int) + 1) (by omega) (by omega), beq_self_eq_true, Bool.not_true, Bool.or_self, Bool.false_eq_true, if_false]
    exact ih (i + 1) (by omega)
theorem flips_j0 (m : List (List Pt)) (r p : List (List Int)) (refs : List Int) (b : Bool) (hm : ∀ x ∈ m, x.length ≤ 1048576)
    (hf : refs.length ≤ 1048576) (hg : ∀ y ∈ refs, -9223372036854775808 ≤ y ∧ y ≤ 9223372036854775807) : Ev (fun k => lapidarylaw16_RingFlips.j0 k refs b m r p) true := by
  refine Ev.step (fun k => lapidarylaw16_RingFlips.j0.eq_2 _ _ _ _ _ _) ?_
  cases b with
  | true => simp only [if_true]; exact known_ev'
  | false =>
    have hfl := flip_len refs
    have hs := mul_small hf (Nat.le_refl 1048576)
    have hs' : (flipR refs).length * 1048576 < 5864062014805 := by rw [hfl]; exact hs
    simp only [Bool.false_eq_true, if_false, flip_eq refs hf hg, Option.bind_some, flip_eq (flipR refs) (by omega) (flip_wf refs hg), flipR_flipR]
    refine Ev.bind (ints_ev refs (by omega)) ?_
    simp only [if_true, hfl, bne_self_eq_false]
    refine Ev.step (fun k => lapidarylaw16_RingFlips.j1.eq_2 _ _ _ _ _ _ _) ?_
    simp only [Bool.false_eq_true, if_false]
    refine Ev.bind (points_ev m r p 1048576 (by decide) hm refs (by omega) hg hs) ?_
    refine Ev.bind (points_ev m r p 1048576 (by decide) hm (flipR refs) (by omega) (flip_wf refs hg) hs') ?_
    obtain ⟨h1, h2, h3⟩ := ptsV_flip m refs
    have h4 := ptsV_len m 1048576 hm refs hs
    simp only [h1, h2, if_true, bne_self_eq_false]
    refine Ev.step (fun k => lapidarylaw16_RingFlips.j2.eq_2 _ _ _ _) ?_
    simp only [Bool.false_eq_true, if_false]
    exact flips_l0 _ _ h4 h2 h3 (ptsV m [] refs).1.length 0 (by omega)
theorem RingFlips : lapidarylaw16_RingFlips.Pure := by
  intro m r p refs hm hr hp hf hb
  have hA : (List.map (fun l : List S42 => 1 + (l.map mu42).sum) m).sum ≤ 1048576 := by
    refine Nat.le_trans ?_ hb
    refine Nat.le_trans ?_ (Nat.le_add_right _ _)
    refine Nat.le_trans ?_ (Nat.le_add_right _ _)
    refine Nat.le_trans ?_ (Nat.le_add_right _ _)
    refine Nat.le_trans (Nat.le_add_left _ 1) (Nat.le_add_left _ 1)
  have hF : refs.length ≤ 1048576 := by
    have h2 := len_le (fun _ : Int => 1) (fun _ => by omega) refs
    refine Nat.le_trans h2 (Nat.le_trans ?_ hb)
    refine Nat.le_trans (Nat.le_add_left _ 1) (Nat.le_add_left _ _)
  have key : ∀ b, Ev (fun k => lapidarylaw16_RingFlips.j0 k refs b m r p) true := fun b => flips_j0 m r p refs b (bulkA m hA) hF (fun y hy => wf64 (hf.2 y hy))
  refine Ev.rounds (g := fun k => lapidarylaw16_RingFlips.f k m r p refs) ?_
  unfold lapidarylaw16_RingFlips.f
  obtain ⟨b, hB⟩ := long_l0 m r p (by simpa [maxLen] using hm.1) (by simpa [maxLen] using hr.1) (by simpa [maxLen] using hp.1) m.length 0 0 (by omega)
  refine Ev.bind (a := b) hB ?_
  cases b with
  | true => simp only [if_true]; exact key true
  | false => simp only [Bool.false_eq_true, if_false]; exact key _
end Go.Proofs.Ytfbkjgedaadlmaa.Pure
