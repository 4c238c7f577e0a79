/- Written for this claim by a program of this session (a turned copy of the print): Go functions as Lean functions, and that the Go code comes to just these answers; or a statement proved out of them. No condition. -/
import Derived.Test.YtimdikfllbbdoaaRows
import Derived.Test.YtimdikfllbbdoaaStFrameBack
import Derived.Test.YtimdikfllbbdoaaPureFrameBack
import Derived.WalkKit
import Derived.ProofKit
import Derived.OpenShut
import Derived.ShutString
import Derived.ChangeOld
import Derived.Below
import Derived.SizedLaws
import Derived.JoinedCond
namespace Go.Proofs.Ytimdikfllbbdoaa.frameBack
open Go.ChangeShapes Go.WideShapes Go.ChangeAt Go.RowKit Go.Proofs.Ytimdikfllbbdoaa.O Go.Proofs.Ytimdikfllbbdoaa.P Go.Proofs.YtimdikfllbbdoaaW.PrintWords
set_option linter.unusedVariables false
set_option linter.unusedSimpArgs false
theorem own : ownKnob Try.prog.godebug = none := by kernel_rfl
theorem laidOut : laidOutB Try.prog = true := by kernel_rfl
set_option maxRecDepth 100000 in
theorem contract (H : Type) (enc : TypeId × Value → H) (W : World) (args : Array Value) (ds gs : List (DataW H)) (before : List MemPlace) (base : Nat)
    (hval0 : ∀ (j : Nat) t v, Try.f5.params[j]? = some t → args[j]? = some v → Value.okWide Try.prog W .any base t v)
    (hW : DataW.Whole enc Try.prog Try.f5.params.toList Rows.frameBackSpec.vars false W args.toList ds gs before) (hk : Rows.uptoSmall H (ds ++ gs) = true) :
    Calls Try.prog 5 args W fun e W' => ∃ v, e = .returned v ∧ Rows.frameBackSpec.post enc Try.prog Try.f5 false true false false W args v W' := by
  have hval : ∀ (j : Nat) t v, Try.f5.params[j]? = some t → args[j]? = some v → Value.okWide Try.prog W .any base t v := hval0
  have hW' := hW
  obtain ⟨p, q, hA0, hV, rfl, hfz, hnd⟩ := hW
  have hA : DataW.TrodAll enc Try.prog W 0 (fun _ => true) true Try.f5.params.toList args.toList ds p := hA0
  rw [Try.params5] at hA hval
  obtain ⟨v0, vs0, d0, ds0, p0, q0, hargs, rfl, rfl, h0, r0⟩ := trodAll_cons hA
  obtain ⟨v1, vs1, d1, ds1, p1, q1, rfl, rfl, rfl, h1, r1⟩ := trodAll_cons r0
  obtain ⟨v2, vs2, d2, ds2, p2, q2, rfl, rfl, rfl, h2, r2⟩ := trodAll_cons r1
  obtain ⟨v3, vs3, d3, ds3, p3, q3, rfl, rfl, rfl, h3, r3⟩ := trodAll_cons r2
  obtain ⟨rfl, rfl, rfl⟩ := trodAll_nil r3
  obtain rfl : args = #[v0, v1, v2, v3] := by cases args; simp_all
  obtain ⟨rfl, rfl⟩ := trodVars_none hV
  clear hA0 hval0
  have hbulk : Rows.uptoBulkAll [d0, d1, d2, d3] ≤ 1048576 := by have := of_decide_eq_true hk; simpa using this
  simp only [Rows.uptoBulkAll] at hbulk
  clear hk
  have k0 := h0
  have lt0 : ∀ x ∈ p0, x.block < W.heap.size := by obtain ⟨m, hm⟩ := k0; exact DataW.trod_lt m _ _ _ hm
  obtain ⟨y0, K0, o0, m0⟩ : ∃ y, (Kd.slice 33 k33).K W y v0.cells.toList ∧ (fun l => l.length ≤ maxLen ∧ ∀ x ∈ l, ok33 x) y ∧ (fun l => 1 + (l.map mu33).sum) y ≤ Rows.uptoBulk d0 := by obtain ⟨fuel, hf⟩ := h0; exact (opens_slice (e := 33) Try.underlying22 (by kernel_rfl) op33) H enc W fuel _ _ hf
  obtain ⟨a0, len0, cap0, rfl⟩ := okWide_slice Try.underlying22 (hval 0 22 v0 rfl rfl)
  obtain ⟨A0, c0, e0, hc0, hr0⟩ := K0
  have e0' : a0 = A0 ∧ len0 = y0.length ∧ cap0 = c0 := by simpa [Value.cells] using e0
  obtain ⟨rfl, rfl, rfl⟩ := e0'
  have k1 := h1
  have lt1 : ∀ x ∈ p1, x.block < W.heap.size := by obtain ⟨m, hm⟩ := k1; exact DataW.trod_lt m _ _ _ hm
  obtain ⟨y1, K1, o1, m1⟩ : ∃ y, (Kd.slice 5 (Kd.int .u8)).K W y v1.cells.toList ∧ (fun l => l.length ≤ maxLen ∧ ∀ x ∈ l, (fun n => (Lit.int .u8 n).wf = true) x) y ∧ (fun l => 1 + (l.map (fun _ => 1)).sum) y ≤ Rows.uptoBulk d1 := by obtain ⟨fuel, hf⟩ := h1; exact (opens_slice (e := 5) Try.underlying25 (by kernel_rfl) (opens_int Try.underlying5)) H enc W fuel _ _ hf
  obtain ⟨a1, len1, cap1, rfl⟩ := okWide_slice Try.underlying25 (hval 1 25 v1 rfl rfl)
  obtain ⟨A1, c1, e1, hc1, hr1⟩ := K1
  have e1' : a1 = A1 ∧ len1 = y1.length ∧ cap1 = c1 := by simpa [Value.cells] using e1
  obtain ⟨rfl, rfl, rfl⟩ := e1'
  have k2 := h2
  have lt2 : ∀ x ∈ p2, x.block < W.heap.size := by obtain ⟨m, hm⟩ := k2; exact DataW.trod_lt m _ _ _ hm
  obtain ⟨y2, K2, o2, m2⟩ : ∃ y, (Kd.int .u16).K W y v2.cells.toList ∧ (fun n => (Lit.int .u16 n).wf = true) y ∧ (fun _ => 1) y ≤ Rows.uptoBulk d2 := by obtain ⟨fuel, hf⟩ := h2; exact (opens_int Try.underlying42) H enc W fuel _ _ hf
  obtain ⟨z2, rfl, _, _, _⟩ := open_int Try.underlying42 (hval 2 42 v2 rfl rfl) h2
  have f2 : (Value.int .u16 z2).cells.toList = [Value.int .u16 y2] := K2
  have e2 : [Value.int .u16 z2] = [Value.int .u16 y2] := by simpa [Value.cells] using f2
  obtain rfl : z2 = y2 := by simpa using e2
  have k3 := h3
  have lt3 : ∀ x ∈ p3, x.block < W.heap.size := by obtain ⟨m, hm⟩ := k3; exact DataW.trod_lt m _ _ _ hm
  obtain ⟨y3, K3, o3, m3⟩ : ∃ y, (Kd.int .u8).K W y v3.cells.toList ∧ (fun n => (Lit.int .u8 n).wf = true) y ∧ (fun _ => 1) y ≤ Rows.uptoBulk d3 := by obtain ⟨fuel, hf⟩ := h3; exact (opens_int Try.underlying5) H enc W fuel _ _ hf
  obtain ⟨z3, rfl, _, _, _⟩ := open_int Try.underlying5 (hval 3 5 v3 rfl rfl) h3
  have f3 : (Value.int .u8 z3).cells.toList = [Value.int .u8 y3] := K3
  have e3 : [Value.int .u8 z3] = [Value.int .u8 y3] := by simpa [Value.cells] using f3
  obtain rfl : z3 = y3 := by simpa using e3
  have m0' : (1 + (y0.map mu33).sum) ≤ Rows.uptoBulk d0 := m0
  have m1' : (1 + (y1.map (fun _ => 1)).sum) ≤ Rows.uptoBulk d1 := m1
  have m2' : 1 ≤ Rows.uptoBulk d2 := m2
  have m3' : 1 ≤ Rows.uptoBulk d3 := m3
  obtain ⟨k, hk_⟩ := Pure.FrameBack y0 y1 z2 z3 o0 o1 o2 o3 (by have := hbulk; have := bulk_one d0; have := bulk_one d1; have := bulk_one d2; have := bulk_one d3; omega)
  refine (P.lapidarylaw03_FrameBack.calls k _ _ _ _ _ _ _ _ true W hr0 hc0 hr1 hc1 hk_).mono fun e W' ⟨he, bel0⟩ => ?_
  have bel : Below W.heap.size W W' := bel0
  subst he
  exact ⟨_, rfl, _, _, _, [], _, [], hW', trodAll_mk1 (shut_bool Try.underlying4 _), (trodAll_cons_mk (Below.trod laidOut (by kernel_rfl) (of_decide_eq_true (by kernel_rfl)) k0 bel lt0) (trodAll_cons_mk (Below.trod laidOut (by kernel_rfl) (of_decide_eq_true (by kernel_rfl)) k1 bel lt1) (trodAll_cons_mk (Below.trod laidOut (by kernel_rfl) (of_decide_eq_true (by kernel_rfl)) k2 bel lt2) (trodAll_cons_mk (Below.trod laidOut (by kernel_rfl) (of_decide_eq_true (by kernel_rfl)) k3 bel lt3) trodAll_mk0)))), rfl, bel.frame _, fun h => by cases h⟩
set_option maxRecDepth 100000 in
theorem lifted (os : Os) (started : os.Started) (H : Type) (enc : TypeId × Value → H) (F : Stop.Interp) :
    ReturnsInHanded {} Try.checked os 5 .any ((Rows.OpenSpec.upto Rows.frameBackSpec).pre6 enc Try.prog Try.f5 Rows.frameBackUptoRow.domain false) (((Rows.OpenSpec.upto Rows.frameBackSpec).at F).post enc Try.prog Try.f5 false true false false) := by
  refine returnsInHanded_of_cond (C := Try.checked) (s := Rows.OpenSpec.upto Rows.frameBackSpec) (k := Rows.uptoSmall) rfl own started (by kernel_rfl) Try.func5
    (OpenSpec.witness (enc := enc) (C := Try.checked) (s := Rows.OpenSpec.upto Rows.frameBackSpec) (k := Rows.uptoSmall) rfl false ⟨#[], #[.slice none 0 0, .slice none 0 0, .int .u16 0, .int .u8 0], []⟩ 8 (by kernel_rfl) (by kernel_rfl) (by kernel_rfl)
      (x := ([.nil, .nil, .lit (.int .u16 0), .lit (.int .u8 0)], [], [])) (by kernel_rfl) rfl (by kernel_rfl)) ?_
  intro W base args ds gs before hval hW _ hk _
  exact contract H enc W args ds gs before base hval hW hk
theorem proved : Rows.FrameBackUptoSaid :=
  OpenClaim.holds_of_cond 5 Try.f5 rfl rfl rfl rfl rfl rfl rfl ⟨rfl, rfl, rfl, rfl, rfl⟩ rfl rfl rfl rfl rfl (by kernel_rfl) Try.func5 (by kernel_rfl)
    (of_decide_eq_true (by kernel_rfl)) (by unfold Func.isWrapper; first | (rw [if_pos (by decide +kernel)]; kernel_rfl) | (rw [if_neg (by decide +kernel)]; exact ⟨rfl, rfl⟩))
    (fun os started H enc _ F => lifted os started H enc F)
#print axioms proved
end Go.Proofs.Ytimdikfllbbdoaa.frameBack
namespace Go.Proofs.Ytimdikfllbbdoaa
/-- The row, under a short name, for the claim. -/
theorem frameBackUpto_holds : Rows.FrameBackUptoSaid := frameBack.proved
end Go.Proofs.Ytimdikfllbbdoaa
