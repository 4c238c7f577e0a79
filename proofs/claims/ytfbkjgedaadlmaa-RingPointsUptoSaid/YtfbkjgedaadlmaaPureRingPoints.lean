/- Of any map, and any arcs of it, the points, or that they are no ring, is what the document says. No condition. -/
import Derived.Test.YtfbkjgedaadlmaaStRingPoints
import Derived.Test.YtfbkjgedaadlmaaRC
namespace Go.Proofs.Ytfbkjgedaadlmaa.Pure
set_option linter.unusedVariables false
set_option linter.unusedSimpArgs false
open Go.RowKit Go.Proofs.Ytfbkjgedaadlmaa.P Go.Proofs.Ytfbkjgedaadlmaa.G Go.Proofs.YtfbkjgedaadlmaaW.PrintWords Go.Proofs.YtfbkjgedaadlmaaW.PrintLast Go.Proofs.YtfbkjgedaadlmaaW.PrintMore

theorem pts_l0 (m : List (List Pt)) (r p : List (List Int)) (hm : ∀ x ∈ m, x.length ≤ 1048576) (hl : r.length ≤ 9223372036854775807) (hr : ∀ x ∈ r, x.length ≤ 1048576) (hw : ∀ x ∈ r, ∀ y ∈ x, -9223372036854775808 ≤ y ∧ y ≤ 9223372036854775807) :
    ∀ (n i : Nat), i + n = r.length → Ev (fun k => lapidarylaw16_RingPoints.l0 k (i : Int) m r p) true := by
  intro n
  induction n with
  | zero =>
    intro i hi
    refine Ev.step (fun k => lapidarylaw16_RingPoints.l0.eq_2 _ _ _ _ _) ?_
    simp only [if_neg (show ¬ ((i : Int) < (r.length : Int)) by omega)]
    exact known_ev'
  | succ n ih =>
    intro i hi
    have h1 : i < r.length := by omega
    have hx := hr _ (List.getElem_mem h1)
    have hy := hw _ (List.getElem_mem h1)
    have hs := mul_small hx (Nat.le_refl 1048576)
    refine Ev.step (fun k => lapidarylaw16_RingPoints.l0.eq_2 _ _ _ _ _) ?_
    simp only [if_pos (show (i : Int) < (r.length : Int) by omega), if_pos (show (0 : Int) ≤ (i : Int) by omega), rdl3 r i h1, w64_id (x := (i : Int) + 1) (by omega) (by omega)]
    refine Ev.bind (ring_ev m r p 1048576 (by decide) hm i h1 (by omega) hy hs) ?_
    refine Ev.bind (rpoints_ev m r p 1048576 (by decide) hm r[i] (by omega) hy hs) ?_
    refine Ev.bind (same_ev _ (by have := ptsV_len m 1048576 hm r[i] hs; omega)) ?_
    simp only [if_true]
    exact ih (i + 1) (by omega)
theorem pts_j0 (m : List (List Pt)) (r p : List (List Int)) (refs : List Int) (a : Int) (b : Bool) (hm : ∀ x ∈ m, x.length ≤ 1048576) (hl : r.length ≤ 9223372036854775807) (hr : ∀ x ∈ r, x.length ≤ 1048576) (hw : ∀ x ∈ r, ∀ y ∈ x, -9223372036854775808 ≤ y ∧ y ≤ 9223372036854775807)
    (hf : refs.length ≤ 1048576) (hg : ∀ y ∈ refs, -9223372036854775808 ≤ y ∧ y ≤ 9223372036854775807) (ha : -9223372036854775808 ≤ a ∧ a ≤ 9223372036854775807) : Ev (fun k => lapidarylaw16_RingPoints.j0 k refs a b m r p) true := by
  refine Ev.step (fun k => lapidarylaw16_RingPoints.j0.eq_2 _ _ _ _ _ _ _) ?_
  cases b with
  | true => simp only [if_true]; exact known_ev'
  | false =>
    have hs := mul_small hf (Nat.le_refl 1048576)
    have hm' : ∀ x ∈ m, x.length < 5864062014805 := fun x hx => by have := hm x hx; omega
    simp only [Bool.false_eq_true, if_false]
    refine Ev.bind (points_ev m r p 1048576 (by decide) hm refs (by omega) hg hs) ?_
    refine Ev.bind (rpoints_ev m r p 1048576 (by decide) hm refs (by omega) hg hs) ?_
    refine Ev.bind (arc_ev m r p a ha.1 ha.2 hm') ?_
    refine Ev.bind (rarc_ev m r p a ha.1 ha.2 hm') ?_
    refine Ev.bind (same_ev _ (by have := ptsV_len m 1048576 hm refs hs; omega)) ?_
    simp only [if_true]
    have J : Ev (fun k => lapidarylaw16_RingPoints.j1 k false m r p) true := by
      refine Ev.step (fun k => lapidarylaw16_RingPoints.j1.eq_2 _ _ _ _ _) ?_
      simp only [Bool.false_eq_true, if_false]
      exact pts_l0 m r p hm hl hr hw r.length 0 (by omega)
    cases hq : arcB m a with
    | none =>
      refine Ev.bind (same_ev [] (by simp)) ?_
      exact J
    | some l =>
      obtain ⟨x, hx, e⟩ := arcB_mem hq
      have := hm x hx
      refine Ev.bind (same_ev l (by omega)) ?_
      exact J
theorem RingPoints : lapidarylaw16_RingPoints.Pure := by
  intro m r p refs a hm hr hp hf wa hb
  have ha := wf64 wa
  have hA : (List.map (fun l : List S42 => 1 + (l.map mu42).sum) m).sum ≤ 1048576 := by
    refine Nat.le_trans ?_ hb
    refine Nat.le_trans ?_ (Nat.le_add_right _ _)
    refine Nat.le_trans ?_ (Nat.le_add_right _ _)
    refine Nat.le_trans ?_ (Nat.le_add_right _ _)
    refine Nat.le_trans ?_ (Nat.le_add_right _ _)
    refine Nat.le_trans (Nat.le_add_left _ 1) (Nat.le_add_left _ 1)
  have hR : (r.map (fun l => 1 + (l.map (fun _ => 1)).sum)).sum ≤ 1048576 := by
    refine Nat.le_trans ?_ hb
    refine Nat.le_trans ?_ (Nat.le_add_right _ _)
    refine Nat.le_trans ?_ (Nat.le_add_right _ _)
    refine Nat.le_trans ?_ (Nat.le_add_right _ _)
    refine Nat.le_trans (Nat.le_add_left _ 1) (Nat.le_add_left _ _)
  have hF : refs.length ≤ 1048576 := by
    have h2 := len_le (fun _ : Int => 1) (fun _ => by omega) refs
    refine Nat.le_trans h2 (Nat.le_trans ?_ hb)
    refine Nat.le_trans ?_ (Nat.le_add_right _ _)
    refine Nat.le_trans (Nat.le_add_left _ 1) (Nat.le_add_left _ _)
  have key : ∀ b, Ev (fun k => lapidarylaw16_RingPoints.j0 k refs a b m r p) true := fun b => pts_j0 m r p refs a b (bulkA m hA) (by simpa [maxLen] using hr.1) (bulkR r hR) (fun x hx y hy => wf64 ((hr.2 x hx).2 y hy)) hF (fun y hy => wf64 (hf.2 y hy)) ha
  refine Ev.rounds (g := fun k => lapidarylaw16_RingPoints.f k m r p refs a) ?_
  unfold lapidarylaw16_RingPoints.f
  obtain ⟨b, hB⟩ := long_l0 m r p (by simpa [maxLen] using hm.1) (by simpa [maxLen] using hr.1) (by simpa [maxLen] using hp.1) m.length 0 0 (by omega)
  refine Ev.bind (a := b) hB ?_
  cases b with
  | true => simp only [if_true]; exact key true
  | false => simp only [Bool.false_eq_true, if_false]; exact key _
end Go.Proofs.Ytfbkjgedaadlmaa.Pure
