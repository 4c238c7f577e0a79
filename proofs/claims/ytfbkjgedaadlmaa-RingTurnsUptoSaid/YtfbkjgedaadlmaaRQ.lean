/- The points of arcs: of whatever numbers. No condition. -/
import Derived.Test.YtfbkjgedaadlmaaRP
namespace Go.Proofs.Ytfbkjgedaadlmaa.G
set_option linter.unusedVariables false
set_option linter.unusedSimpArgs false
open Go.RowKit Go.Proofs.Ytfbkjgedaadlmaa.P Go.Proofs.YtfbkjgedaadlmaaW.PrintWords Go.Proofs.YtfbkjgedaadlmaaW.PrintLast Go.Proofs.YtfbkjgedaadlmaaW.PrintMore

def arcsOf (m : List (List Pt)) : List Int → Option (List (List Pt))
  | [] => some []
  | n :: t => match arcB m n with
    | none => none
    | some a => if a.length = 0 then none else (arcsOf m t).map (a :: ·)
def ringV (L : List (List Pt)) : List Pt × Int := if 0 < L.length then (if okFrom L 0 L.length then (flatL L, 0) else ([], 90)) else ([], 90)
def ptsV (m : List (List Pt)) (acc : List (List Pt)) (refs : List Int) : List Pt × Int := match arcsOf m refs with
  | none => ([], 2)
  | some ls => ringV (acc ++ ls)
theorem arcB_mem {m : List (List Pt)} {n : Int} {a : List Pt} (h : arcB m n = some a) : ∃ x ∈ m, x.length = a.length := by
  unfold arcB at h
  split at h
  · obtain ⟨h1, rfl⟩ := List.getElem?_eq_some_iff.1 h; exact ⟨_, List.getElem_mem h1, rfl⟩
  · obtain ⟨y, hy, rfl⟩ := Option.map_eq_some_iff.1 h
    obtain ⟨h1, rfl⟩ := List.getElem?_eq_some_iff.1 hy
    exact ⟨_, List.getElem_mem h1, (List.length_reverse).symm⟩
theorem sum_bound (B : Nat) : ∀ l : List (List Pt), (∀ a ∈ l, a.length ≤ B) → (l.map List.length).sum ≤ l.length * B := by
  intro l
  induction l with
  | nil => intro _; simp
  | cons a l ih =>
    intro h
    rw [List.map_cons, List.sum_cons, List.length_cons, Nat.add_mul, Nat.one_mul]
    have := ih (fun x hx => h x (List.mem_cons_of_mem _ hx))
    have := h a (List.mem_cons_self ..)
    omega
theorem ring_l1 (L : List (List Pt)) (B : Nat) (hb : B < 5864062014805) (hl : L.length ≤ 1000000000000) (hL : ∀ a ∈ L, 0 < a.length ∧ a.length ≤ B) (hs : L.length * B < 5864062014805) :
    Ev (fun k => ring_Points.l1 k L [] (decide ((L.length : Int) > 0)) L (L.length : Int) 0) (ringV L) := by
  unfold ringV
  by_cases h : 0 < L.length
  · have h1 := sum_bound B L (fun a ha => (hL a ha).2)
    have h2 := pts_l1 L hl (fun a ha => ⟨(hL a ha).1, by have := (hL a ha).2; omega⟩) (by omega) L.length 0 (by omega) h
    rw [if_pos h, decide_eq_true (show (L.length : Int) > 0 by omega)]
    exact h2
  · rw [if_neg h, decide_eq_false (show ¬ ((L.length : Int) > 0) by omega)]
    refine Ev.step (fun k => ring_Points.l1.eq_2 _ _ _ _ _ _ _) ?_
    simp only [if_neg (show ¬ ((0 : Int) < (L.length : Int)) by omega), Bool.false_eq_true, if_false]
    exact Ev.now _
theorem pts_l0 (m : List (List Pt)) (r p : List (List Int)) (B : Nat) (hb : B < 5864062014805) (hm : ∀ x ∈ m, x.length ≤ B) (refs : List Int) (hr : refs.length ≤ 1000000000000) (hw : ∀ x ∈ refs, -9223372036854775808 ≤ x ∧ x ≤ 9223372036854775807) (hs : refs.length * B < 5864062014805) :
    ∀ (n i : Nat) (acc : List (List Pt)), i + n = refs.length → acc.length = i → (∀ a ∈ acc, 0 < a.length ∧ a.length ≤ B) → Ev (fun k => ring_Points.l0 k acc refs (refs.length : Int) (i : Int) m r p) (ptsV m acc (refs.drop i)) := by
  intro n
  induction n with
  | zero =>
    intro i acc hi ha hA
    refine Ev.step (fun k => ring_Points.l0.eq_2 _ _ _ _ _ _ _ _) ?_
    simp only [if_neg (show ¬ ((i : Int) < (refs.length : Int)) by omega)]
    rw [List.drop_of_length_le (by omega)]
    unfold ptsV arcsOf
    simp only [List.append_nil]
    have e : acc.length = refs.length := by omega
    exact ring_l1 acc B hb (by omega) hA (by rw [e]; exact hs)
  | succ n ih =>
    intro i acc hi ha hA
    have h1 : i < refs.length := by omega
    have hx := hw _ (List.getElem_mem h1)
    refine Ev.step (fun k => ring_Points.l0.eq_2 _ _ _ _ _ _ _ _) ?_
    have hrd : rd refs (i : Int) = refs[i] := by unfold rd; simp [h1]
    simp only [if_pos (show (i : Int) < (refs.length : Int) by omega), if_pos (show (0 : Int) ≤ (i : Int) by omega), hrd, w64_id (x := (i : Int) + 1) (by omega) (by omega)]
    refine Ev.bind (arc_ev m r p refs[i] hx.1 hx.2 (fun x hx => by have := hm x hx; omega)) ?_
    rw [List.drop_eq_getElem_cons h1]
    unfold ptsV arcsOf
    cases hq : arcB m refs[i] with
    | none =>
      simp only [if_neg (show ¬ ((2 : Int) = 0) by decide)]
      exact Ev.now _
    | some a =>
      obtain ⟨x, hxm, hxl⟩ := arcB_mem hq
      have hB := hm x hxm
      simp only [if_true]
      by_cases h0 : a.length = 0
      · simp only [if_pos (show ((a.length : Int) = 0) by omega), if_pos h0]
        exact Ev.now _
      · have I := ih (i + 1) (acc ++ [a]) (by omega) (by rw [List.length_append, List.length_singleton]; omega) (by
          intro y hy
          rcases List.mem_append.1 hy with h | h
          · exact hA y h
          · rw [List.mem_singleton.1 h]; omega)
        simp only [if_neg (show ¬ ((a.length : Int) = 0) by omega), if_neg h0, if_pos (show acc.length < 5864062014805 by omega)]
        unfold ptsV at I
        cases hz : arcsOf m (refs.drop (i + 1)) with
        | none => rw [hz] at I; simp only [Option.map_none] at I ⊢; exact I
        | some ls => rw [hz] at I; simp only [Option.map_some, List.append_assoc, List.singleton_append] at I ⊢; exact I
theorem points_ev (m : List (List Pt)) (r p : List (List Int)) (B : Nat) (hb : B < 5864062014805) (hm : ∀ x ∈ m, x.length ≤ B) (refs : List Int) (hr : refs.length ≤ 1000000000000) (hw : ∀ x ∈ refs, -9223372036854775808 ≤ x ∧ x ≤ 9223372036854775807) (hs : refs.length * B < 5864062014805) :
    Ev (fun k => ring_Points.f k m r p refs) (ptsV m [] refs) := by
  unfold ring_Points.f
  exact pts_l0 m r p B hb hm refs hr hw hs refs.length 0 [] (by omega) rfl (by simp)
end Go.Proofs.Ytfbkjgedaadlmaa.G
