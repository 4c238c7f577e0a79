/- No more is held than was taken; nothing of a head; at the end the sections' bytes. No condition. -/
import Derived.Test.YtglmfnaofpbpfaaStFeedHolds
namespace Go.Proofs.Ytglmfnaofpbpfaa.Pure
set_option linter.unusedVariables false
open Go.RowKit Go.Proofs.Ytglmfnaofpbpfaa.P Go.Proofs.YtglmfnaofpbpfaaW.PrintWords Go.Proofs.YtglmfnaofpbpfaaW.PrintLast

theorem ones_sum : ∀ l : List Int, (l.map (fun _ => 1)).sum = l.length
  | [] => rfl
  | _ :: l => by
    have := ones_sum l
    simp only [List.map_cons, List.sum_cons, List.length_cons, this]
    omega
theorem sum_at (l : List S48) (s : S48) (h : s ∈ l) : s.f1.length ≤ (l.map mu48).sum ∧ l.length ≤ (l.map mu48).sum := by
  have hl : ∀ l : List S48, l.length ≤ (l.map mu48).sum := by
    intro l
    induction l with
    | nil => exact Nat.le_refl _
    | cons x l ih => simp only [List.map_cons, List.sum_cons, List.length_cons, mu48]; omega
  refine ⟨?_, hl l⟩
  induction l with
  | nil => simp at h
  | cons x l ih =>
    simp only [List.map_cons, List.sum_cons]
    rcases List.mem_cons.1 h with rfl | h
    · have := ones_sum s.f1
      simp only [mu48, this]
      omega
    · have := ih h
      omega
theorem FeedHolds : lapidarylaw04_FeedHolds.Pure := by
  intro l0 a1 h0 h1 hb
  have ha : 0 ≤ a1 ∧ a1 ≤ 65535 := by simpa [Lit.wf, IntKind.min, IntKind.max, IntKind.signed, IntKind.bits] using h1
  have hl : l0.length ≤ 1048576 := by
    cases l0 with
    | nil => exact Nat.zero_le _
    | cons x l => have := (sum_at (x :: l) x (List.mem_cons_self)).2; omega
  unfold lapidarylaw04_FeedHolds.f
  rw [if_pos ⟨fun s hs c hc => by simpa [Lit.wf, IntKind.min, IntKind.max, IntKind.signed, IntKind.bits] using (h0.2 s hs).2.2 c hc, fun s hs => by have := (sum_at l0 s hs).1; omega, hl, ha.1, ha.2⟩]
end Go.Proofs.Ytglmfnaofpbpfaa.Pure
