/- Whether the rings of any map close, and its polygons fill, is what the chapter says, where the map is of bulk at most 1048576. No condition. -/
import Derived.Test.YtbonkedecfjmdaaStPlanParts
import Derived.Test.YtbonkedecfjmdaaZ30
namespace Go.Proofs.Ytbonkedecfjmdaa.Pure
set_option linter.unusedVariables false
set_option linter.unusedSimpArgs false
open Go.RowKit Go.Proofs.Ytbonkedecfjmdaa.P Go.Proofs.Ytbonkedecfjmdaa.Pl Go.Proofs.YtbonkedecfjmdaaW.PrintWords Go.Proofs.YtbonkedecfjmdaaW.PrintLast Go.Proofs.YtbonkedecfjmdaaW.PrintMore

theorem len_le_s {α : Type} (f : α → Nat) (hf : ∀ x, 1 ≤ f x) : ∀ l : List α, l.length ≤ (l.map f).sum := by
  intro l
  induction l with
  | nil => simp
  | cons y l ih => rw [List.map_cons, List.sum_cons, List.length_cons]; have := hf y; omega
theorem S1_s {α : Type} (f : α → Nat) (hf : ∀ x, 1 ≤ f x) (m : List (List α)) : S1 m ≤ (m.map (fun l : List α => 1 + (l.map f).sum)).sum := by
  induction m with
  | nil => exact Nat.le_refl _
  | cons y m ih =>
    rw [S1_cons, List.map_cons, List.sum_cons]
    have := len_le_s f hf y
    omega
theorem wf_s {n : Int} (h : (Lit.int .i64 n).wf = true) : -9223372036854775808 ≤ n ∧ n ≤ 9223372036854775807 := by
  simpa [Lit.wf, IntKind.min, IntKind.max, IntKind.signed, IntKind.bits] using h
theorem PlanParts : lw_PlanParts.Pure := by
  intro a0 a1 a2 h0 h1 h2 hb
  have k0 := S1_s mu27 (fun y => by unfold mu27; omega) a0
  have k1 := S1_s (fun _ : Int => 1) (fun _ => Nat.le_refl 1) a1
  have k2 := S1_s (fun _ : Int => 1) (fun _ => Nat.le_refl 1) a2
  have key : ∀ s1 s2 s3 t1 t2 t3 : Nat, 1 + (1 + s1) + (1 + s2) + (1 + s3) ≤ 1048576 → t1 ≤ s1 → t2 ≤ s2 → t3 ≤ s3 → t1 + t2 + t3 ≤ 100000000 := by omega
  have hS := key _ _ _ _ _ _ hb k0 k1 k2
  suffices h : Ev (fun k => lw_PlanParts.f k a0 a1 a2) true by
    obtain ⟨K, hK⟩ := h
    exact ⟨K, hK K (Nat.le_refl _)⟩
  unfold lw_PlanParts.f
  refine Ev.bind (lng_ev a0 a1 a2 hS) ?_
  by_cases hl : S1 a0 + S1 a1 + S1 a2 > 80
  · simp only [decide_eq_true hl, if_true]
    simp only [lw_known.f, Option.bind_some]
    exact Ev.now _
  · simp only [decide_eq_false hl, Bool.false_eq_true, if_false]
    have l0 := S1_len a0
    have l1 := S1_len a1
    have l2 := S1_len a2
    have m0 : ∀ x ∈ a0, x.length ≤ 20000 := fun x hx => by have := S1_mem a0 x hx; omega
    have hw : ∀ x ∈ a1, ∀ n ∈ x, wf64 n := fun x hx n hn => wf_s ((h1.2 x hx).2 n hn)
    have hs : Small a0 a1 := ⟨m0, by omega, by omega, hw⟩
    have e1 : plan_Closes.f a0 a1 a2 = some (closesV a0 a1) := by unfold plan_Closes.f; rw [if_pos ⟨m0, by omega, by omega, hw, by omega⟩]
    have e2 : plan_Fills.f a0 a1 a2 = some (FillsV a0 a1 a2) := by unfold plan_Fills.f; rw [if_pos ⟨m0, by omega, by omega, hw, by omega, by omega⟩]
    simp only [e1, e2, Option.bind_some]
    refine Ev.bind (rcloses_ev hs a2 (by omega)) ?_
    simp only [beq_self_eq_true, if_true]
    refine Ev.bind (rFills_ev hs a2 (by omega) (by omega)) ?_
    simp only [beq_self_eq_true, if_true]
    simp only [lw_known.f, Option.bind_some]
    exact Ev.now _
end Go.Proofs.Ytbonkedecfjmdaa.Pure
