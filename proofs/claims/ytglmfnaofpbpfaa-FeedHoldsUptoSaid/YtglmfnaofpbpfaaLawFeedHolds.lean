/- Written for this claim by a program of this session (a turned copy of the print): Go functions as Lean functions, and that the Go code comes to just these answers; or a statement proved out of them. No condition. -/
import Derived.Test.YtglmfnaofpbpfaaRows
import Derived.Test.YtglmfnaofpbpfaaStFeedHolds
import Derived.Test.YtglmfnaofpbpfaaPureFeedHolds
import Derived.WalkKit
import Derived.ProofKit
import Derived.OpenShut
import Derived.ShutString
import Derived.ChangeOld
import Derived.Below
import Derived.SizedLaws
import Derived.JoinedCond
namespace Go.Proofs.Ytglmfnaofpbpfaa.feedHolds
open Go.ChangeShapes Go.WideShapes Go.ChangeAt Go.RowKit Go.Proofs.Ytglmfnaofpbpfaa.O Go.Proofs.Ytglmfnaofpbpfaa.P Go.Proofs.YtglmfnaofpbpfaaW.PrintWords
set_option linter.unusedVariables false
set_option linter.unusedSimpArgs false
theorem own : ownKnob Try.prog.godebug = none := by kernel_rfl
theorem laidOut : laidOutB Try.prog = true := by kernel_rfl
set_option maxRecDepth 100000 in
theorem contract (H : Type) (enc : TypeId × Value → H) (W : World) (args : Array Value) (ds gs : List (DataW H)) (before : List MemPlace) (base : Nat)
    (hval0 : ∀ (j : Nat) t v, Try.f6.params[j]? = some t → args[j]? = some v → Value.okWide Try.prog W .any base t v)
    (hW : DataW.Whole enc Try.prog Try.f6.params.toList Rows.feedHoldsSpec.vars false W args.toList ds gs before) (hk : Rows.uptoSmall H (ds ++ gs) = true) :
    Calls Try.prog 6 args W fun e W' => ∃ v, e = .returned v ∧ Rows.feedHoldsSpec.post enc Try.prog Try.f6 false true false false W args v W' := by
  have hval : ∀ (j : Nat) t v, Try.f6.params[j]? = some t → args[j]? = some v → Value.okWide Try.prog W .any base t v := hval0
  have hW' := hW
  obtain ⟨p, q, hA0, hV, rfl, hfz, hnd⟩ := hW
  have hA : DataW.TrodAll enc Try.prog W 0 (fun _ => true) true Try.f6.params.toList args.toList ds p := hA0
  rw [Try.params6] at hA hval
  obtain ⟨v0, vs0, d0, ds0, p0, q0, hargs, rfl, rfl, h0, r0⟩ := trodAll_cons hA
  obtain ⟨v1, vs1, d1, ds1, p1, q1, rfl, rfl, rfl, h1, r1⟩ := trodAll_cons r0
  obtain ⟨rfl, rfl, rfl⟩ := trodAll_nil r1
  obtain rfl : args = #[v0, v1] := by cases args; simp_all
  obtain ⟨rfl, rfl⟩ := trodVars_none hV
  clear hA0 hval0
  have hbulk : Rows.uptoBulkAll [d0, d1] ≤ 1048576 := by have := of_decide_eq_true hk; simpa using this
  simp only [Rows.uptoBulkAll] at hbulk
  clear hk
  have k0 := h0
  have lt0 : ∀ x ∈ p0, x.block < W.heap.size := by obtain ⟨m, hm⟩ := k0; exact DataW.trod_lt m _ _ _ hm
  obtain ⟨y0, K0, o0, m0⟩ : ∃ y, (Kd.slice 48 k48).K W y v0.cells.toList ∧ (fun l => l.length ≤ maxLen ∧ ∀ x ∈ l, ok48 x) y ∧ (fun l => 1 + (l.map mu48).sum) y ≤ Rows.uptoBulk d0 := by obtain ⟨fuel, hf⟩ := h0; exact (opens_slice (e := 48) Try.underlying26 (by kernel_rfl) op48) H enc W fuel _ _ hf
  obtain ⟨a0, len0, cap0, rfl⟩ := okWide_slice Try.underlying26 (hval 0 26 v0 rfl rfl)
  obtain ⟨A0, c0, e0, hc0, hr0⟩ := K0
  have e0' : a0 = A0 ∧ len0 = y0.length ∧ cap0 = c0 := by simpa [Value.cells] using e0
  obtain ⟨rfl, rfl, rfl⟩ := e0'
  have k1 := h1
  have lt1 : ∀ x ∈ p1, x.block < W.heap.size := by obtain ⟨m, hm⟩ := k1; exact DataW.trod_lt m _ _ _ hm
  obtain ⟨y1, K1, o1, m1⟩ : ∃ y, (Kd.int .u16).K W y v1.cells.toList ∧ (fun n => (Lit.int .u16 n).wf = true) y ∧ (fun _ => 1) y ≤ Rows.uptoBulk d1 := by obtain ⟨fuel, hf⟩ := h1; exact (opens_int Try.underlying44) H enc W fuel _ _ hf
  obtain ⟨z1, rfl, _, _, _⟩ := open_int Try.underlying44 (hval 1 44 v1 rfl rfl) h1
  have f1 : (Value.int .u16 z1).cells.toList = [Value.int .u16 y1] := K1
  have e1 : [Value.int .u16 z1] = [Value.int .u16 y1] := by simpa [Value.cells] using f1
  obtain rfl : z1 = y1 := by simpa using e1
  have m0' : (1 + (y0.map mu48).sum) ≤ Rows.uptoBulk d0 := m0
  have m1' : 1 ≤ Rows.uptoBulk d1 := m1
  have hk_ := Pure.FeedHolds y0 z1 o0 o1 (by have := hbulk; have := bulk_one d0; have := bulk_one d1; omega)
  refine (P.lapidarylaw04_FeedHolds.calls _ _ _ _ true W hr0 hc0 hk_).mono fun e W' ⟨he, bel0⟩ => ?_
  have bel : Below W.heap.size W W' := bel0
  subst he
  exact ⟨_, rfl, _, _, _, [], _, [], hW', trodAll_mk1 (shut_bool Try.underlying4 _), (trodAll_cons_mk (Below.trod laidOut (by kernel_rfl) (of_decide_eq_true (by kernel_rfl)) k0 bel lt0) (trodAll_cons_mk (Below.trod laidOut (by kernel_rfl) (of_decide_eq_true (by kernel_rfl)) k1 bel lt1) trodAll_mk0)), rfl, bel.frame _, fun h => by cases h⟩
set_option maxRecDepth 100000 in
theorem lifted (os : Os) (started : os.Started) (H : Type) (enc : TypeId × Value → H) (F : Stop.Interp) :
    ReturnsInHanded {} Try.checked os 6 .any ((Rows.OpenSpec.upto Rows.feedHoldsSpec).pre6 enc Try.prog Try.f6 Rows.feedHoldsUptoRow.domain false) (((Rows.OpenSpec.upto Rows.feedHoldsSpec).at F).post enc Try.prog Try.f6 false true false false) := by
  refine returnsInHanded_of_cond (C := Try.checked) (s := Rows.OpenSpec.upto Rows.feedHoldsSpec) (k := Rows.uptoSmall) rfl own started (by kernel_rfl) Try.func6
    (OpenSpec.witness (enc := enc) (C := Try.checked) (s := Rows.OpenSpec.upto Rows.feedHoldsSpec) (k := Rows.uptoSmall) rfl false ⟨#[], #[.slice none 0 0, .int .u16 0], []⟩ 8 (by kernel_rfl) (by kernel_rfl) (by kernel_rfl)
      (x := ([.nil, .lit (.int .u16 0)], [], [])) (by kernel_rfl) rfl (by kernel_rfl)) ?_
  intro W base args ds gs before hval hW _ hk _
  exact contract H enc W args ds gs before base hval hW hk
theorem proved : Rows.FeedHoldsUptoSaid :=
  OpenClaim.holds_of_cond 6 Try.f6 rfl rfl rfl rfl rfl rfl rfl ⟨rfl, rfl, rfl, rfl, rfl⟩ rfl rfl rfl rfl rfl (by kernel_rfl) Try.func6 (by kernel_rfl)
    (of_decide_eq_true (by kernel_rfl)) (by unfold Func.isWrapper; first | (rw [if_pos (by decide +kernel)]; kernel_rfl) | (rw [if_neg (by decide +kernel)]; exact ⟨rfl, rfl⟩))
    (fun os started H enc _ F => lifted os started H enc F)
#print axioms proved
end Go.Proofs.Ytglmfnaofpbpfaa.feedHolds
namespace Go.Proofs.Ytglmfnaofpbpfaa
/-- The row, under a short name, for the claim. -/
theorem feedHoldsUpto_holds : Rows.FeedHoldsUptoSaid := feedHolds.proved
end Go.Proofs.Ytglmfnaofpbpfaa
