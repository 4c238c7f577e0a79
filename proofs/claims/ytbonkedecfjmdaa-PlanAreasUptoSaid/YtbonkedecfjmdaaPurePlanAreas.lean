/- A map's areas, told with its polygons in another order, are in that order, where the map is of bulk at most 1048576. No condition. -/
import Derived.Test.YtbonkedecfjmdaaStPlanAreas
namespace Go.Proofs.Ytbonkedecfjmdaa.Pure
set_option linter.unusedVariables false
set_option linter.unusedSimpArgs false
open Go.RowKit Go.Proofs.Ytbonkedecfjmdaa.P Go.Proofs.YtbonkedecfjmdaaW.PrintWords Go.Proofs.YtbonkedecfjmdaaW.PrintLast Go.Proofs.YtbonkedecfjmdaaW.PrintMore

theorem sum_le_s {α : Type} (f : α → Nat) : ∀ (l : List α) (x : α), x ∈ l → f x ≤ (l.map f).sum := by
  intro l
  induction l with
  | nil => intro x h; simp at h
  | cons y l ih =>
    intro x h
    rw [List.map_cons, List.sum_cons]
    rcases List.mem_cons.1 h with rfl | h
    · omega
    · have := ih x h; omega
theorem len_le_s {α : Type} (f : α → Nat) (hf : ∀ x, 1 ≤ f x) : ∀ l : List α, l.length ≤ (l.map f).sum := by
  intro l
  induction l with
  | nil => simp
  | cons y l ih => rw [List.map_cons, List.sum_cons, List.length_cons]; have := hf y; omega
theorem bulk_s {α : Type} (f : α → Nat) (hf : ∀ x, 1 ≤ f x) (m : List (List α)) (h : (m.map (fun l : List α => 1 + (l.map f).sum)).sum ≤ 1048576) : m.length ≤ 1048576 ∧ ∀ x ∈ m, x.length ≤ 1048576 := by
  refine ⟨Nat.le_trans (len_le_s (fun l : List α => 1 + (l.map f).sum) (fun _ => Nat.le_add_right _ _) m) h, fun x hx => ?_⟩
  have h1 : 1 + (x.map f).sum ≤ (m.map (fun l : List α => 1 + (l.map f).sum)).sum := sum_le_s (fun l : List α => 1 + (l.map f).sum) m x hx
  have h2 := len_le_s f hf x
  omega
theorem flat_s {α : Type} : ∀ m : List (List α), m.flatten.length ≤ (m.map (fun l : List α => 1 + (l.map (fun _ => 1)).sum)).sum := by
  intro m
  induction m with
  | nil => simp
  | cons y m ih =>
    rw [List.flatten_cons, List.length_append, List.map_cons, List.sum_cons]
    have := len_le_s (fun _ : α => 1) (fun _ => Nat.le_refl 1) y
    omega
theorem wf_s {n : Int} (h : (Lit.int .i64 n).wf = true) : -9223372036854775808 ≤ n ∧ n ≤ 9223372036854775807 := by
  simpa [Lit.wf, IntKind.min, IntKind.max, IntKind.signed, IntKind.bits] using h
theorem w8_s {x : Int} (h : (Lit.int .u8 x).wf = true) : 0 ≤ x ∧ x ≤ 255 := by simpa [Lit.wf, IntKind.min, IntKind.max, IntKind.signed, IntKind.bits] using h
theorem PlanAreas : lapidarylaw17_PlanAreas.Pure := by
  intro a0 a1 a2 n h0 h1 h2 hn hb
  have hA := bulk_s mu27 (fun y => by unfold mu27; omega) a0
  have k1 := bulk_s (fun _ : Int => 1) (fun _ => Nat.le_refl 1) a1
  have k2 := bulk_s (fun _ : Int => 1) (fun _ => Nat.le_refl 1) a2
  have f1 := flat_s a1
  have f2 := flat_s a2
  have key : ∀ s1 s2 s3 : Nat, (1 + (1 + s1) + (1 + s2) + (1 + s3)) + 1 ≤ 1048576 → s1 ≤ 1048576 ∧ s2 ≤ 1048576 ∧ s3 ≤ 1048576 := by omega
  obtain ⟨b1, b2, b3⟩ := key _ _ _ hb
  unfold lapidarylaw17_PlanAreas.f
  rw [if_pos ⟨hA b1, k1 b2, k2 b3, Nat.le_trans f1 b2, Nat.le_trans f2 b3, fun x hx n hn => wf_s ((h1.2 x hx).2 n hn), w8_s hn⟩]
end Go.Proofs.Ytbonkedecfjmdaa.Pure
