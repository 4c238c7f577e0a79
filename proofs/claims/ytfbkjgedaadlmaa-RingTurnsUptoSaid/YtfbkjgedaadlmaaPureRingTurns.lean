/- A ring that is begun elsewhere has the same points, begun elsewhere; how many it has is what its arcs have, each one less. No condition. -/
import Derived.Test.YtfbkjgedaadlmaaStRingTurns
import Derived.Test.YtfbkjgedaadlmaaRE
namespace Go.Proofs.Ytfbkjgedaadlmaa.Pure
set_option linter.unusedVariables false
set_option linter.unusedSimpArgs false
open Go.RowKit Go.Proofs.Ytfbkjgedaadlmaa.P Go.Proofs.Ytfbkjgedaadlmaa.G Go.Proofs.YtfbkjgedaadlmaaW.PrintWords Go.Proofs.YtfbkjgedaadlmaaW.PrintLast Go.Proofs.YtfbkjgedaadlmaaW.PrintMore

theorem turns_l1 (a b : List Pt) (off : Nat) (hl : a.length < 5864062014805) (ho : off ≤ a.length) (hb : b.length = a.length) (h : ∀ i, i < a.length → b[i]? = a[(i + off) % a.length]?) : ∀ (n i : Nat), i + n = a.length → Ev (fun k => lapidarylaw16_RingTurns.l1 k a (a.length : Int) (off : Int) b (i : Int)) true := by
  intro n
  induction n with
  | zero =>
    intro i hi
    refine Ev.step (fun k => lapidarylaw16_RingTurns.l1.eq_2 _ _ _ _ _ _) ?_
    simp only [if_neg (show ¬ ((i : Int) < (a.length : Int)) by omega)]
    exact known_ev'
  | succ n ih =>
    intro i hi
    have h1 : i < a.length := by omega
    have h2 : (i + off) % a.length < a.length := Nat.mod_lt _ (by omega)
    have h3 := h i h1
    rw [List.getElem?_eq_getElem (by omega), List.getElem?_eq_getElem h2] at h3
    have h3 := Option.some.inj h3
    refine Ev.step (fun k => lapidarylaw16_RingTurns.l1.eq_2 _ _ _ _ _ _) ?_
    have e : Int.tmod (wrap64 ((i : Int) + (off : Int))) (a.length : Int) = (((i + off) % a.length : Nat) : Int) := by
      rw [w64_id (by omega) (by omega), Int.tmod_eq_emod_of_nonneg (by omega), show (i : Int) + (off : Int) = ((i + off : Nat) : Int) by omega, Int.natCast_emod]
    generalize (i + off) % a.length = j at *
    simp only [e, if_pos (show (i : Int) < (a.length : Int) by omega), if_pos (show (0 : Int) ≤ (i : Int) by omega), if_pos (show (i : Int) < (b.length : Int) by omega), if_neg (show ¬ (a.length : Int) = 0 by omega), if_pos (show (0 : Int) ≤ (j : Int) by omega), if_pos (show (j : Int) < (a.length : Int) by omega), rdp b i (by omega), rdp a j h2, h3, w64_id (x := (i : Int) + 1) (by omega) (by omega), beq_self_eq_true, Bool.not_true, Bool.or_self, Bool.false_eq_true, if_false]
    exact ih (i + 1) (by omega)
theorem flat_snoc (L : List (List Pt)) (i : Nat) (hi : i < L.length) : (flatL (L.take (i + 1))).length = (flatL (L.take i)).length + (L[i].length - 1) := by
  rw [List.take_succ_eq_append_getElem hi, flatL_append, List.length_append]
  congr 1
  unfold flatL
  simp
theorem flat_take (L : List (List Pt)) (i : Nat) : (flatL (L.take i)).length ≤ (flatL L).length := by
  have e1 : flatL L = flatL (L.take i) ++ flatL (L.drop i) := by rw [← flatL_append, List.take_append_drop]
  rw [e1, List.length_append]; omega
theorem turns_l0 (m : List (List Pt)) (r p : List (List Int)) (hm : ∀ x ∈ m, x.length ≤ 1048576) (refs : List Int) (hf : refs.length ≤ 1048576) (hg : ∀ y ∈ refs, -9223372036854775808 ≤ y ∧ y ≤ 9223372036854775807) (L : List (List Pt)) (hL : arcsOf m refs = some L) (hok : okFrom L 0 L.length = true) (hfl : (flatL L).length < 5864062014805) (h0 : 0 < refs.length) (kk : Nat) (hk : kk ≤ refs.length) :
    ∀ (n i : Nat), i + n = refs.length → Ev (fun k => lapidarylaw16_RingTurns.l0 k refs (flatL L) (kk : Int) ((flatL (L.take i)).length : Int) ((flatL (L.take (min i kk))).length : Int) (i : Int) m r p) true := by
  obtain ⟨hn, hge⟩ := arcsOf_get m refs L hL
  have hm' : ∀ x ∈ m, x.length < 5864062014805 := fun x hx => by have := hm x hx; omega
  intro n
  induction n with
  | zero =>
    intro i hi
    have hs : (refs.drop kk ++ refs.take kk).length * 1048576 < 5864062014805 := by
      have : (refs.drop kk ++ refs.take kk).length = refs.length := by rw [List.length_append, List.length_drop, List.length_take]; omega
      rw [this]; exact mul_small hf (Nat.le_refl _)
    have hlen : (refs.drop kk ++ refs.take kk).length = refs.length := by rw [List.length_append, List.length_drop, List.length_take]; omega
    have hw : ∀ y ∈ refs.drop kk ++ refs.take kk, -9223372036854775808 ≤ y ∧ y ≤ 9223372036854775807 := fun y hy => by
      rcases List.mem_append.1 hy with hy | hy
      · exact hg y (List.mem_of_mem_drop hy)
      · exact hg y (List.mem_of_mem_take hy)
    have hp := points_ev m r p 1048576 (by decide) hm (refs.drop kk ++ refs.take kk) (by omega) hw hs
    have hv : ptsV m [] (refs.drop kk ++ refs.take kk) = (flatL (turnL kk L), 0) := by
      unfold ptsV
      rw [turn_arcs m refs L hL kk]
      have hl : (turnL kk L).length = L.length := by unfold turnL; rw [List.length_append, List.length_drop, List.length_take]; omega
      simp only [List.nil_append]
      unfold ringV
      rw [if_pos (by omega), if_pos (turn_okFrom kk L (by omega) hok)]
    rw [hv] at hp
    obtain ⟨t1, t2, t3⟩ := turn_flat kk L
    refine Ev.step (fun k => lapidarylaw16_RingTurns.l0.eq_2 _ _ _ _ _ _ _ _ _ _) ?_
    have ei : L.take i = L := List.take_of_length_le (by omega)
    have em : min i kk = kk := by omega
    have d1 : (refs.drop kk).length < 17592186044416 := by rw [List.length_drop]; omega
    have d2 : (refs.drop kk).length + (refs.take kk).length < 17592186044416 := by rw [List.length_drop, List.length_take]; omega
    simp only [ei, em, if_neg (show ¬ ((i : Int) < (refs.length : Int)) by omega), if_pos (show (0 : Int) ≤ (kk : Int) by omega), if_pos (show (kk : Int) ≤ (refs.length : Int) by omega), Int.toNat_natCast, List.length_nil, List.nil_append, Nat.zero_add, if_pos d1, Option.bind_some, if_pos d2]
    refine Ev.bind hp ?_
    simp only [if_true, t1, bne_self_eq_false]
    refine Ev.step (fun k => lapidarylaw16_RingTurns.j2.eq_2 _ _ _ _ _ _) ?_
    simp only [Bool.false_eq_true, if_false]
    exact turns_l1 (flatL L) (flatL (turnL kk L)) _ hfl t2 t1 t3 (flatL L).length 0 (by omega)
  | succ n ih =>
    intro i hi
    have h1 : i < refs.length := by omega
    have h2 : i < L.length := by omega
    have I := ih (i + 1) (by omega)
    obtain ⟨ha, hp⟩ := hge i h1 h2
    have hx := hg _ (List.getElem_mem h1)
    have hr : rd refs (i : Int) = refs[i] := by unfold rd; simp [h1]
    have hA := arc_ev m r p refs[i] hx.1 hx.2 hm'
    rw [ha] at hA
    have hs := flat_snoc L i h2
    have hb1 := flat_take L (i + 1)
    refine Ev.step (fun k => lapidarylaw16_RingTurns.l0.eq_2 _ _ _ _ _ _ _ _ _ _) ?_
    simp only [if_pos (show (i : Int) < (refs.length : Int) by omega), if_pos (show (0 : Int) ≤ (i : Int) by omega), hr]
    refine Ev.bind hA ?_
    have e1 : wrap64 (wrap64 (((flatL (L.take i)).length : Int) + (L[i].length : Int)) - 1) = ((flatL (L.take (i + 1))).length : Int) := by
      rw [w64_id (x := ((flatL (L.take i)).length : Int) + (L[i].length : Int)) (by omega) (by omega), w64_id (by omega) (by omega)]; omega
    by_cases hc : i < kk
    · have em : min i kk = i := by omega
      have em' : min (i + 1) kk = i + 1 := by omega
      rw [em'] at I
      simp only [em, if_pos (show (i : Int) < (kk : Int) by omega), e1, w64_id (x := (i : Int) + 1) (by omega) (by omega)]
      exact I
    · have em : min i kk = kk := by omega
      have em' : min (i + 1) kk = kk := by omega
      rw [em'] at I
      simp only [em, if_neg (show ¬ (i : Int) < (kk : Int) by omega), e1, w64_id (x := (i : Int) + 1) (by omega) (by omega)]
      exact I
theorem ptsV_cases (m : List (List Pt)) (refs : List Int) : ((ptsV m [] refs).2 ≠ 0 ∧ (ptsV m [] refs).1 = []) ∨ ∃ L, arcsOf m refs = some L ∧ okFrom L 0 L.length = true ∧ 0 < L.length ∧ ptsV m [] refs = (flatL L, 0) := by
  unfold ptsV
  cases hL : arcsOf m refs with
  | none => exact Or.inl ⟨by decide, rfl⟩
  | some L =>
    simp only [List.nil_append]
    unfold ringV
    by_cases h0 : 0 < L.length
    · rw [if_pos h0]
      by_cases hok : okFrom L 0 L.length = true
      · rw [if_pos hok]; exact Or.inr ⟨L, rfl, hok, h0, rfl⟩
      · rw [if_neg hok]; exact Or.inl ⟨by decide, rfl⟩
    · rw [if_neg h0]; exact Or.inl ⟨by decide, rfl⟩
theorem RingTurns : lapidarylaw16_RingTurns.Pure := by
  intro m r p refs at_ hm hr hp hf wa hb
  have hA : (List.map (fun l : List S42 => 1 + (l.map mu42).sum) m).sum ≤ 1048576 := by
    refine Nat.le_trans ?_ hb
    refine Nat.le_trans ?_ (Nat.le_add_right _ _)
    refine Nat.le_trans ?_ (Nat.le_add_right _ _)
    refine Nat.le_trans ?_ (Nat.le_add_right _ _)
    refine Nat.le_trans ?_ (Nat.le_add_right _ _)
    refine Nat.le_trans (Nat.le_add_left _ 1) (Nat.le_add_left _ 1)
  have hF : refs.length ≤ 1048576 := by
    have h2 := len_le (fun _ : Int => 1) (fun _ => by omega) refs
    refine Nat.le_trans h2 (Nat.le_trans ?_ hb)
    refine Nat.le_trans ?_ (Nat.le_add_right _ _)
    refine Nat.le_trans (Nat.le_add_left _ 1) (Nat.le_add_left _ _)
  have ha : 0 ≤ at_ ∧ at_ ≤ 255 := by simpa [Lit.wf, IntKind.min, IntKind.max, IntKind.signed, IntKind.bits] using wa
  have hg : ∀ y ∈ refs, -9223372036854775808 ≤ y ∧ y ≤ 9223372036854775807 := fun y hy => wf64 (hf.2 y hy)
  have hm1 := bulkA m hA
  have hs := mul_small hF (Nat.le_refl 1048576)
  have hl := ptsV_len m 1048576 hm1 refs hs
  refine Ev.rounds (g := fun k => lapidarylaw16_RingTurns.f k m r p refs at_) ?_
  unfold lapidarylaw16_RingTurns.f
  refine Ev.bind (points_ev m r p 1048576 (by decide) hm1 refs (by omega) hg hs) ?_
  have J : Ev (fun k => lapidarylaw16_RingTurns.j0 k refs at_ (ptsV m [] refs).1 (ptsV m [] refs).2 true m r p) true := by
    refine Ev.step (fun k => lapidarylaw16_RingTurns.j0.eq_2 _ _ _ _ _ _ _ _ _) ?_
    simp only [if_true]
    rcases ptsV_cases m refs with ⟨h1, h2⟩ | ⟨L, _, _, _, h2⟩
    · simp only [if_neg h1, h2, List.length_nil, Int.natCast_zero, if_true]
      exact known_ev'
    · rw [h2]
      simp only [if_true]
      exact known_ev'
  obtain ⟨b, hB⟩ := long_l0 m r p (by simpa [maxLen] using hm.1) (by simpa [maxLen] using hr.1) (by simpa [maxLen] using hp.1) m.length 0 0 (by omega)
  refine Ev.bind (a := b) hB ?_
  cases b with
  | true => simp only [if_true]; exact J
  | false =>
    simp only [Bool.false_eq_true, if_false]
    by_cases h40 : (refs.length : Int) > 40
    · simp only [if_pos h40]; exact J
    · simp only [if_neg h40]
      rcases ptsV_cases m refs with ⟨h1, h2⟩ | ⟨L, hL, hok, hL0, h2⟩
      · simp only [if_neg h1]; exact J
      · have hn := (arcsOf_get m refs L hL).1
        rw [h2] at hl ⊢
        simp only [if_true]
        have e0 : ((refs.length : Int) == 0) = false := by rw [beq_eq_false_iff_ne]; omega
        rw [e0]
        refine Ev.step (fun k => lapidarylaw16_RingTurns.j0.eq_2 _ _ _ _ _ _ _ _ _) ?_
        have ek : Int.tmod (wrap64 at_) (refs.length : Int) = ((at_.toNat % refs.length : Nat) : Int) := by
          rw [w64_id (by omega) (by omega), Int.tmod_eq_emod_of_nonneg ha.1, Int.natCast_emod]
          congr 1; omega
        have hkk : at_.toNat % refs.length < refs.length := Nat.mod_lt _ (by omega)
        simp only [Bool.false_eq_true, if_false, if_neg (show ¬ (refs.length : Int) = 0 by omega), ek]
        have := turns_l0 m r p hm1 refs hF hg L hL hok hl (by omega) (at_.toNat % refs.length) (by omega) refs.length 0 (by omega)
        simpa [flatL] using this
end Go.Proofs.Ytfbkjgedaadlmaa.Pure
