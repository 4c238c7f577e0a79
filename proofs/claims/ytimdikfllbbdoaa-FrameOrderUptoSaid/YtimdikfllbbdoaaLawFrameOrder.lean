/- Written for this claim by a program of this session (a turned copy of the print): Go functions as Lean functions, and that the Go code comes to just these answers; or a statement proved out of them. No condition. -/
import Derived.Test.YtimdikfllbbdoaaRows
import Derived.Test.YtimdikfllbbdoaaStFrameOrder
import Derived.Test.YtimdikfllbbdoaaPureFrameOrder
import Derived.WalkKit
import Derived.ProofKit
import Derived.OpenShut
import Derived.ShutString
import Derived.ChangeOld
import Derived.Below
import Derived.SizedLaws
import Derived.JoinedCond
namespace Go.Proofs.Ytimdikfllbbdoaa.frameOrder
open Go.ChangeShapes Go.WideShapes Go.ChangeAt Go.RowKit Go.Proofs.Ytimdikfllbbdoaa.O Go.Proofs.Ytimdikfllbbdoaa.P Go.Proofs.YtimdikfllbbdoaaW.PrintWords
set_option linter.unusedVariables false
set_option linter.unusedSimpArgs false
theorem own : ownKnob Try.prog.godebug = none := by kernel_rfl
theorem laidOut : laidOutB Try.prog = true := by kernel_rfl
set_option maxRecDepth 100000 in
theorem contract (H : Type) (enc : TypeId × Value → H) (W : World) (args : Array Value) (ds gs : List (DataW H)) (before : List MemPlace) (base : Nat)
    (hval0 : ∀ (j : Nat) t v, Try.f7.params[j]? = some t → args[j]? = some v → Value.okWide Try.prog W .any base t v)
    (hW : DataW.Whole enc Try.prog Try.f7.params.toList Rows.frameOrderSpec.vars false W args.toList ds gs before) (hk : Rows.uptoSmall H (ds ++ gs) = true) :
    Calls Try.prog 7 args W fun e W' => ∃ v, e = .returned v ∧ Rows.frameOrderSpec.post enc Try.prog Try.f7 false true false false W args v W' := by
  have hval : ∀ (j : Nat) t v, Try.f7.params[j]? = some t → args[j]? = some v → Value.okWide Try.prog W .any base t v := hval0
  have hW' := hW
  obtain ⟨p, q, hA0, hV, rfl, hfz, hnd⟩ := hW
  have hA : DataW.TrodAll enc Try.prog W 0 (fun _ => true) true Try.f7.params.toList args.toList ds p := hA0
  rw [Try.params7] at hA hval
  obtain ⟨v0, vs0, d0, ds0, p0, q0, hargs, rfl, rfl, h0, r0⟩ := trodAll_cons hA
  obtain ⟨v1, vs1, d1, ds1, p1, q1, rfl, rfl, rfl, h1, r1⟩ := trodAll_cons r0
  obtain ⟨v2, vs2, d2, ds2, p2, q2, rfl, rfl, rfl, h2, r2⟩ := trodAll_cons r1
  obtain ⟨v3, vs3, d3, ds3, p3, q3, rfl, rfl, rfl, h3, r3⟩ := trodAll_cons r2
  obtain ⟨rfl, rfl, rfl⟩ := trodAll_nil r3
  obtain rfl : args = #[v0, v1, v2, v3] := by cases args; simp_all
  obtain ⟨rfl, rfl⟩ := trodVars_none hV
  clear hA0 hval0
  have hbulk : Rows.uptoBulkAll [d0, d1, d2, d3] ≤ 1048576 := by have := of_decide_eq_true hk; simpa using this
  simp only [Rows.uptoBulkAll] at hbulk
  clear hk
  have k0 := h0
  have lt0 : ∀ x ∈ p0, x.block < W.heap.size := by obtain ⟨m, hm⟩ := k0; exact DataW.trod_lt m _ _ _ hm
  obtain ⟨y0, K0, o0, m0⟩ : ∃ y, (Kd.int .u8).K W y v0.cells.toList ∧ (fun n => (Lit.int .u8 n).wf = true) y ∧ (fun _ => 1) y ≤ Rows.uptoBulk d0 := by obtain ⟨fuel, hf⟩ := h0; exact (opens_int Try.underlying5) H enc W fuel _ _ hf
  obtain ⟨z0, rfl, _, _, _⟩ := open_int Try.underlying5 (hval 0 5 v0 rfl rfl) h0
  have f0 : (Value.int .u8 z0).cells.toList = [Value.int .u8 y0] := K0
  have e0 : [Value.int .u8 z0] = [Value.int .u8 y0] := by simpa [Value.cells] using f0
  obtain rfl : z0 = y0 := by simpa using e0
  have k1 := h1
  have lt1 : ∀ x ∈ p1, x.block < W.heap.size := by obtain ⟨m, hm⟩ := k1; exact DataW.trod_lt m _ _ _ hm
  obtain ⟨y1, K1, o1, m1⟩ : ∃ y, (Kd.int .u8).K W y v1.cells.toList ∧ (fun n => (Lit.int .u8 n).wf = true) y ∧ (fun _ => 1) y ≤ Rows.uptoBulk d1 := by obtain ⟨fuel, hf⟩ := h1; exact (opens_int Try.underlying5) H enc W fuel _ _ hf
  obtain ⟨z1, rfl, _, _, _⟩ := open_int Try.underlying5 (hval 1 5 v1 rfl rfl) h1
  have f1 : (Value.int .u8 z1).cells.toList = [Value.int .u8 y1] := K1
  have e1 : [Value.int .u8 z1] = [Value.int .u8 y1] := by simpa [Value.cells] using f1
  obtain rfl : z1 = y1 := by simpa using e1
  have k2 := h2
  have lt2 : ∀ x ∈ p2, x.block < W.heap.size := by obtain ⟨m, hm⟩ := k2; exact DataW.trod_lt m _ _ _ hm
  obtain ⟨y2, K2, o2, m2⟩ : ∃ y, (Kd.slice 5 (Kd.int .u8)).K W y v2.cells.toList ∧ (fun l => l.length ≤ maxLen ∧ ∀ x ∈ l, (fun n => (Lit.int .u8 n).wf = true) x) y ∧ (fun l => 1 + (l.map (fun _ => 1)).sum) y ≤ Rows.uptoBulk d2 := by obtain ⟨fuel, hf⟩ := h2; exact (opens_slice (e := 5) Try.underlying25 (by kernel_rfl) (opens_int Try.underlying5)) H enc W fuel _ _ hf
  obtain ⟨a2, len2, cap2, rfl⟩ := okWide_slice Try.underlying25 (hval 2 25 v2 rfl rfl)
  obtain ⟨A2, c2, e2, hc2, hr2⟩ := K2
  have e2' : a2 = A2 ∧ len2 = y2.length ∧ cap2 = c2 := by simpa [Value.cells] using e2
  obtain ⟨rfl, rfl, rfl⟩ := e2'
  have k3 := h3
  have lt3 : ∀ x ∈ p3, x.block < W.heap.size := by obtain ⟨m, hm⟩ := k3; exact DataW.trod_lt m _ _ _ hm
  obtain ⟨y3, K3, o3, m3⟩ : ∃ y, (Kd.slice 5 (Kd.int .u8)).K W y v3.cells.toList ∧ (fun l => l.length ≤ maxLen ∧ ∀ x ∈ l, (fun n => (Lit.int .u8 n).wf = true) x) y ∧ (fun l => 1 + (l.map (fun _ => 1)).sum) y ≤ Rows.uptoBulk d3 := by obtain ⟨fuel, hf⟩ := h3; exact (opens_slice (e := 5) Try.underlying25 (by kernel_rfl) (opens_int Try.underlying5)) H enc W fuel _ _ hf
  obtain ⟨a3, len3, cap3, rfl⟩ := okWide_slice Try.underlying25 (hval 3 25 v3 rfl rfl)
  obtain ⟨A3, c3, e3, hc3, hr3⟩ := K3
  have e3' : a3 = A3 ∧ len3 = y3.length ∧ cap3 = c3 := by simpa [Value.cells] using e3
  obtain ⟨rfl, rfl, rfl⟩ := e3'
  have m0' : 1 ≤ Rows.uptoBulk d0 := m0
  have m1' : 1 ≤ Rows.uptoBulk d1 := m1
  have m2' : (1 + (y2.map (fun _ => 1)).sum) ≤ Rows.uptoBulk d2 := m2
  have m3' : (1 + (y3.map (fun _ => 1)).sum) ≤ Rows.uptoBulk d3 := m3
  have hk_ := Pure.FrameOrder z0 z1 y2 y3 o0 o1 o2 o3 (by have := hbulk; have := bulk_one d0; have := bulk_one d1; have := bulk_one d2; have := bulk_one d3; omega)
  refine (P.lapidarylaw03_FrameOrder.calls _ _ _ _ _ _ _ _ true W hr2 hc2 hr3 hc3 hk_).mono fun e W' ⟨he, bel0⟩ => ?_
  have bel : Below W.heap.size W W' := bel0
  subst he
  exact ⟨_, rfl, _, _, _, [], _, [], hW', trodAll_mk1 (shut_bool Try.underlying4 _), (trodAll_cons_mk (Below.trod laidOut (by kernel_rfl) (of_decide_eq_true (by kernel_rfl)) k0 bel lt0) (trodAll_cons_mk (Below.trod laidOut (by kernel_rfl) (of_decide_eq_true (by kernel_rfl)) k1 bel lt1) (trodAll_cons_mk (Below.trod laidOut (by kernel_rfl) (of_decide_eq_true (by kernel_rfl)) k2 bel lt2) (trodAll_cons_mk (Below.trod laidOut (by kernel_rfl) (of_decide_eq_true (by kernel_rfl)) k3 bel lt3) trodAll_mk0)))), rfl, bel.frame _, fun h => by cases h⟩
set_option maxRecDepth 100000 in
theorem lifted (os : Os) (started : os.Started) (H : Type) (enc : TypeId × Value → H) (F : Stop.Interp) :
    ReturnsInHanded {} Try.checked os 7 .any ((Rows.OpenSpec.upto Rows.frameOrderSpec).pre6 enc Try.prog Try.f7 Rows.frameOrderUptoRow.domain false) (((Rows.OpenSpec.upto Rows.frameOrderSpec).at F).post enc Try.prog Try.f7 false true false false) := by
  refine returnsInHanded_of_cond (C := Try.checked) (s := Rows.OpenSpec.upto Rows.frameOrderSpec) (k := Rows.uptoSmall) rfl own started (by kernel_rfl) Try.func7
    (OpenSpec.witness (enc := enc) (C := Try.checked) (s := Rows.OpenSpec.upto Rows.frameOrderSpec) (k := Rows.uptoSmall) rfl false ⟨#[], #[.int .u8 0, .int .u8 0, .slice none 0 0, .slice none 0 0], []⟩ 8 (by kernel_rfl) (by kernel_rfl) (by kernel_rfl)
      (x := ([.lit (.int .u8 0), .lit (.int .u8 0), .nil, .nil], [], [])) (by kernel_rfl) rfl (by kernel_rfl)) ?_
  intro W base args ds gs before hval hW _ hk _
  exact contract H enc W args ds gs before base hval hW hk
theorem proved : Rows.FrameOrderUptoSaid :=
  OpenClaim.holds_of_cond 7 Try.f7 rfl rfl rfl rfl rfl rfl rfl ⟨rfl, rfl, rfl, rfl, rfl⟩ rfl rfl rfl rfl rfl (by kernel_rfl) Try.func7 (by kernel_rfl)
    (of_decide_eq_true (by kernel_rfl)) (by unfold Func.isWrapper; first | (rw [if_pos (by decide +kernel)]; kernel_rfl) | (rw [if_neg (by decide +kernel)]; exact ⟨rfl, rfl⟩))
    (fun os started H enc _ F => lifted os started H enc F)
#print axioms proved
end Go.Proofs.Ytimdikfllbbdoaa.frameOrder
namespace Go.Proofs.Ytimdikfllbbdoaa
/-- The row, under a short name, for the claim. -/
theorem frameOrderUpto_holds : Rows.FrameOrderUptoSaid := frameOrder.proved
end Go.Proofs.Ytimdikfllbbdoaa
