/- Sections are written just if their kinds rise, and are 1 to 9. No condition. -/
import Derived.Test.YtimdikfllbbdoaaStFrameOrder
namespace Go.Proofs.Ytimdikfllbbdoaa.Pure
set_option linter.unusedVariables false
open Go.RowKit Go.Proofs.Ytimdikfllbbdoaa.P Go.Proofs.YtimdikfllbbdoaaW.PrintWords Go.Proofs.YtimdikfllbbdoaaW.PrintLast

theorem ones_len : ∀ l : List Int, (l.map (fun _ => 1)).sum = l.length
  | [] => rfl
  | _ :: l => by
    have := ones_len l
    simp only [List.map_cons, List.sum_cons, List.length_cons, this]
    omega
theorem FrameOrder : lapidarylaw03_FrameOrder.Pure := by
  intro a b x y ha hb hx hy hbound
  have e1 := ones_len x
  have e2 := ones_len y
  have ha' : 0 ≤ a ∧ a ≤ 255 := by simpa [Lit.wf, IntKind.min, IntKind.max, IntKind.signed, IntKind.bits] using ha
  have hb' : 0 ≤ b ∧ b ≤ 255 := by simpa [Lit.wf, IntKind.min, IntKind.max, IntKind.signed, IntKind.bits] using hb
  have hxy : ∀ c ∈ x ++ y, 0 ≤ c ∧ c ≤ 255 := by
    intro c hc
    rcases List.mem_append.1 hc with hc | hc
    · simpa [Lit.wf, IntKind.min, IntKind.max, IntKind.signed, IntKind.bits] using hx.2 c hc
    · simpa [Lit.wf, IntKind.min, IntKind.max, IntKind.signed, IntKind.bits] using hy.2 c hc
  unfold lapidarylaw03_FrameOrder.f
  rw [if_pos ⟨hxy, by omega, ha', hb'⟩]
end Go.Proofs.Ytimdikfllbbdoaa.Pure
