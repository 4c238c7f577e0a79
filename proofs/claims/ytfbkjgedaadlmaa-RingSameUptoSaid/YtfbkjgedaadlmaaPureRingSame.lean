/- Whether any two maps are the same, and their copies; a copy is its owner's. No condition. -/
import Derived.Test.YtfbkjgedaadlmaaStRingSame
namespace Go.Proofs.Ytfbkjgedaadlmaa.Pure
set_option linter.unusedVariables false
set_option linter.unusedSimpArgs false
open Go.RowKit Go.Proofs.Ytfbkjgedaadlmaa.P Go.Proofs.YtfbkjgedaadlmaaW.PrintWords Go.Proofs.YtfbkjgedaadlmaaW.PrintLast Go.Proofs.YtfbkjgedaadlmaaW.PrintMore

theorem sum_le_s {α : Type} (f : α → Nat) : ∀ (l : List α) (x : α), x ∈ l → f x ≤ (l.map f).sum := by
  intro l
  induction l with
  | nil => intro x h; simp at h
  | cons y l ih =>
    intro x h
    rw [List.map_cons, List.sum_cons]
    rcases List.mem_cons.1 h with rfl | h
    · omega
    · have := ih x h; omega
theorem len_le_s {α : Type} (f : α → Nat) (hf : ∀ x, 1 ≤ f x) : ∀ l : List α, l.length ≤ (l.map f).sum := by
  intro l
  induction l with
  | nil => simp
  | cons y l ih => rw [List.map_cons, List.sum_cons, List.length_cons]; have := hf y; omega
theorem bulk_s {α : Type} (f : α → Nat) (hf : ∀ x, 1 ≤ f x) (m : List (List α)) (h : (m.map (fun l : List α => 1 + (l.map f).sum)).sum ≤ 1048576) : m.length ≤ 1048576 ∧ ∀ x ∈ m, x.length ≤ 1048576 := by
  refine ⟨Nat.le_trans (len_le_s (fun l : List α => 1 + (l.map f).sum) (fun _ => Nat.le_add_right _ _) m) h, fun x hx => ?_⟩
  have h1 : 1 + (x.map f).sum ≤ (m.map (fun l : List α => 1 + (l.map f).sum)).sum := sum_le_s (fun l : List α => 1 + (l.map f).sum) m x hx
  have h2 := len_le_s f hf x
  omega
theorem RingSame : lapidarylaw16_RingSame.Pure := by
  intro a0 a1 a2 b0 b1 b2 _ _ _ _ _ _ hb
  have hA := bulk_s mu42 (fun y => by unfold mu42; omega) a0
  have hB := bulk_s mu42 (fun y => by unfold mu42; omega) b0
  have h1 := bulk_s (fun _ : Int => 1) (fun _ => Nat.le_refl 1) a1
  have h2 := bulk_s (fun _ : Int => 1) (fun _ => Nat.le_refl 1) a2
  have h3 := bulk_s (fun _ : Int => 1) (fun _ => Nat.le_refl 1) b1
  have h4 := bulk_s (fun _ : Int => 1) (fun _ => Nat.le_refl 1) b2
  have key : ∀ s1 s2 s3 s4 s5 s6 : Nat, (1 + (1 + s1) + (1 + s2) + (1 + s3)) + (1 + (1 + s4) + (1 + s5) + (1 + s6)) ≤ 1048576 → s1 ≤ 1048576 ∧ s2 ≤ 1048576 ∧ s3 ≤ 1048576 ∧ s4 ≤ 1048576 ∧ s5 ≤ 1048576 ∧ s6 ≤ 1048576 := by omega
  obtain ⟨k1, k2, k3, k4, k5, k6⟩ := key _ _ _ _ _ _ hb
  unfold lapidarylaw16_RingSame.f
  rw [if_pos ⟨hA k1, h1 k2, h2 k3, hB k4, h3 k5, h4 k6⟩]
end Go.Proofs.Ytfbkjgedaadlmaa.Pure
