/- A ring that is begun elsewhere: its points. No condition. -/
import Derived.Test.YtfbkjgedaadlmaaRD
namespace Go.Proofs.Ytfbkjgedaadlmaa.G
set_option linter.unusedVariables false
set_option linter.unusedSimpArgs false
open Go.RowKit Go.Proofs.Ytfbkjgedaadlmaa.P Go.Proofs.YtfbkjgedaadlmaaW.PrintWords Go.Proofs.YtfbkjgedaadlmaaW.PrintLast Go.Proofs.YtfbkjgedaadlmaaW.PrintMore

theorem arcsOf_take (m : List (List Pt)) (refs : List Int) (L : List (List Pt)) (h : arcsOf m refs = some L) (k : Nat) : arcsOf m (refs.take k) = some (L.take k) ∧ arcsOf m (refs.drop k) = some (L.drop k) := by
  have h1 : arcsOf m (refs.take k ++ refs.drop k) = some L := by rw [List.take_append_drop]; exact h
  rw [arcsOf_append] at h1
  cases ha : arcsOf m (refs.take k) with
  | none => rw [ha] at h1; simp at h1
  | some a =>
    cases hb : arcsOf m (refs.drop k) with
    | none => rw [ha, hb] at h1; simp at h1
    | some b =>
      rw [ha, hb] at h1
      have h2 : a ++ b = L := by simpa using h1
      have h3 := (arcsOf_get m _ _ ha).1
      have h4 := (arcsOf_get m _ _ hb).1
      rw [List.length_take] at h3
      have hl := (arcsOf_get m _ _ h).1
      subst h2
      by_cases hk : k ≤ refs.length
      · have h5 : a.length = k := by omega
        subst h5
        simp
      · have h6 : b = [] := by
          apply List.length_eq_zero_iff.1
          rw [h4, List.length_drop]; omega
        subst h6
        rw [List.append_nil] at hl ⊢
        rw [List.take_of_length_le (by omega), List.drop_of_length_le (by omega)]
        simp
def turnL (k : Nat) (L : List (List Pt)) : List (List Pt) := L.drop k ++ L.take k
theorem turn_arcs (m : List (List Pt)) (refs : List Int) (L : List (List Pt)) (h : arcsOf m refs = some L) (k : Nat) : arcsOf m (refs.drop k ++ refs.take k) = some (turnL k L) := by
  obtain ⟨h1, h2⟩ := arcsOf_take m refs L h k
  rw [arcsOf_append, h1, h2]
  rfl
theorem turn_get {α : Type} (k : Nat) (l : List α) (hk : k ≤ l.length) (i : Nat) (hi : i < l.length) : (l.drop k ++ l.take k)[i]? = l[(i + k) % l.length]? := by
  by_cases h : i + k < l.length
  · rw [Nat.mod_eq_of_lt h, List.getElem?_append_left (by rw [List.length_drop]; omega), List.getElem?_drop, Nat.add_comm]
  · rw [show (i + k) % l.length = i + k - l.length by rw [Nat.mod_eq_sub_mod (by omega), Nat.mod_eq_of_lt (by omega)], List.getElem?_append_right (by rw [List.length_drop]; omega), List.length_drop, List.getElem?_take, if_pos (by omega)]
    congr 1; omega
theorem turn_okAt (k : Nat) (L : List (List Pt)) (hk : k ≤ L.length) (i : Nat) (hi : i < L.length) : okAt (turnL k L) i = okAt L ((i + k) % L.length) := by
  have hl : (turnL k L).length = L.length := by unfold turnL; rw [List.length_append, List.length_drop, List.length_take]; omega
  have hg : ∀ j (h : j < L.length), rd_L2 (turnL k L) (j : Int) = rd_L2 L (((j + k) % L.length : Nat) : Int) := by
    intro j h
    have := turn_get k L hk j h
    rw [rdl (turnL k L) j (by omega), rdl L _ (Nat.mod_lt _ (by omega))]
    unfold turnL at hl ⊢
    rw [List.getElem?_eq_getElem (by omega), List.getElem?_eq_getElem (Nat.mod_lt _ (by omega))] at this
    exact Option.some.inj this
  unfold okAt
  rw [hl, hg _ (Nat.mod_lt _ (by omega)), hg i hi]
  congr 4
  have e : ((i + k) % L.length + L.length - 1) % L.length = ((i + L.length - 1) % L.length + k) % L.length := by
    rw [Nat.mod_add_mod]
    have h1 : (i + k) % L.length + L.length - 1 = (i + k) % L.length + (L.length - 1) := by omega
    rw [h1, Nat.mod_add_mod]
    congr 1; omega
  exact e.symm
theorem turn_okFrom (k : Nat) (L : List (List Pt)) (hk : k ≤ L.length) (h : okFrom L 0 L.length = true) : okFrom (turnL k L) 0 (turnL k L).length = true := by
  have hl : (turnL k L).length = L.length := by unfold turnL; rw [List.length_append, List.length_drop, List.length_take]; omega
  rw [okFrom_iff] at h ⊢
  intro i hi
  rw [turn_okAt k L hk i (by omega)]
  exact h _ (Nat.mod_lt _ (by omega))
theorem flatL_append (a b : List (List Pt)) : flatL (a ++ b) = flatL a ++ flatL b := by unfold flatL; simp
theorem turn_flat (k : Nat) (L : List (List Pt)) : (flatL (turnL k L)).length = (flatL L).length ∧ (flatL (L.take k)).length ≤ (flatL L).length ∧ ∀ i, i < (flatL L).length → (flatL (turnL k L))[i]? = (flatL L)[(i + (flatL (L.take k)).length) % (flatL L).length]? := by
  have e1 : flatL L = flatL (L.take k) ++ flatL (L.drop k) := by rw [← flatL_append, List.take_append_drop]
  have e2 : flatL (turnL k L) = flatL (L.drop k) ++ flatL (L.take k) := flatL_append _ _
  rw [e1, e2]
  generalize flatL (L.take k) = a
  generalize flatL (L.drop k) = b
  refine ⟨by rw [List.length_append, List.length_append]; omega, by rw [List.length_append]; omega, fun i hi => ?_⟩
  have := turn_get a.length (a ++ b) (by rw [List.length_append]; omega) i hi
  simpa using this
end Go.Proofs.Ytfbkjgedaadlmaa.G
