/- In whichever parts bytes come, they have one checksum. No condition. -/
import Derived.Test.YteiimfmanfafhaaStCrcParts
namespace Go.Proofs.Yteiimfmanfafhaa.Pure
set_option linter.unusedVariables false
open Go.RowKit Go.Proofs.Yteiimfmanfafhaa.P Go.Proofs.YteiimfmanfafhaaW.PrintWords Go.Proofs.YteiimfmanfafhaaW.PrintLast

theorem sum_le_p {α : Type} (f : α → Nat) : ∀ (l : List α) (x : α), x ∈ l → f x ≤ (l.map f).sum := by
  intro l
  induction l with
  | nil => intro x h; simp at h
  | cons y l ih =>
    intro x h
    rw [List.map_cons, List.sum_cons]
    rcases List.mem_cons.1 h with rfl | h
    · omega
    · have := ih x h; omega
theorem len_le_p {α : Type} (f : α → Nat) (hf : ∀ x, 1 ≤ f x) : ∀ l : List α, l.length ≤ (l.map f).sum := by
  intro l
  induction l with
  | nil => simp
  | cons y l ih => rw [List.map_cons, List.sum_cons, List.length_cons]; have := hf y; omega
theorem CrcParts : lapidarylaw02_CrcParts.Pure := by
  intro l _ hb
  unfold lapidarylaw02_CrcParts.f
  rw [if_pos]
  intro x hx
  have h1 : 1 + (x.map (fun _ => 1)).sum ≤ (l.map (fun l : List Int => 1 + (l.map (fun _ => 1)).sum)).sum := sum_le_p (fun l : List Int => 1 + (l.map (fun _ => 1)).sum) l x hx
  have h2 := len_le_p (fun _ : Int => 1) (fun _ => by omega) x
  omega
end Go.Proofs.Yteiimfmanfafhaa.Pure
