/- Written for this claim by a program of this session (a turned copy of the print): Go functions as Lean functions, and that the Go code comes to just these answers; or a statement proved out of them. No condition. -/
import Derived.Test.YtlnjbpapbifjfaaRows
import Derived.Test.YtlnjbpapbifjfaaStGeomLaws
import Derived.Test.YtlnjbpapbifjfaaPureGeomLaws
import Derived.WalkKit
import Derived.ProofKit
import Derived.OpenShut
import Derived.ShutString
import Derived.ChangeOld
import Derived.Below
import Derived.SizedLaws
import Derived.JoinedCond
namespace Go.Proofs.Ytlnjbpapbifjfaa.geomLaws
open Go.ChangeShapes Go.WideShapes Go.ChangeAt Go.RowKit Go.Proofs.Ytlnjbpapbifjfaa.O Go.Proofs.Ytlnjbpapbifjfaa.P Go.Proofs.YtlnjbpapbifjfaaW.PrintWords
set_option linter.unusedVariables false
set_option linter.unusedSimpArgs false
theorem own : ownKnob Try.prog.godebug = none := by kernel_rfl
theorem laidOut : laidOutB Try.prog = true := by kernel_rfl
set_option maxRecDepth 100000 in
theorem contract (H : Type) (enc : TypeId × Value → H) (W : World) (args : Array Value) (ds gs : List (DataW H)) (before : List MemPlace) (base : Nat)
    (hval0 : ∀ (j : Nat) t v, Try.f7.params[j]? = some t → args[j]? = some v → Value.okWide Try.prog W .any base t v)
    (hW : DataW.Whole enc Try.prog Try.f7.params.toList Rows.geomLawsSpec.vars false W args.toList ds gs before) :
    Calls Try.prog 7 args W fun e W' => ∃ v, e = .returned v ∧ Rows.geomLawsSpec.post enc Try.prog Try.f7 false true false false W args v W' := by
  have hval : ∀ (j : Nat) t v, Try.f7.params[j]? = some t → args[j]? = some v → Value.okWide Try.prog W .any base t v := hval0
  have hW' := hW
  obtain ⟨p, q, hA0, hV, rfl, hfz, hnd⟩ := hW
  have hA : DataW.TrodAll enc Try.prog W 0 (fun _ => true) true Try.f7.params.toList args.toList ds p := hA0
  rw [Try.params7] at hA hval
  obtain ⟨v0, vs0, d0, ds0, p0, q0, hargs, rfl, rfl, h0, r0⟩ := trodAll_cons hA
  obtain ⟨v1, vs1, d1, ds1, p1, q1, rfl, rfl, rfl, h1, r1⟩ := trodAll_cons r0
  obtain ⟨v2, vs2, d2, ds2, p2, q2, rfl, rfl, rfl, h2, r2⟩ := trodAll_cons r1
  obtain ⟨v3, vs3, d3, ds3, p3, q3, rfl, rfl, rfl, h3, r3⟩ := trodAll_cons r2
  obtain ⟨v4, vs4, d4, ds4, p4, q4, rfl, rfl, rfl, h4, r4⟩ := trodAll_cons r3
  obtain ⟨rfl, rfl, rfl⟩ := trodAll_nil r4
  obtain rfl : args = #[v0, v1, v2, v3, v4] := by cases args; simp_all
  obtain ⟨rfl, rfl⟩ := trodVars_none hV
  clear hA0 hval0
  have k0 := h0
  have lt0 : ∀ x ∈ p0, x.block < W.heap.size := by obtain ⟨m, hm⟩ := k0; exact DataW.trod_lt m _ _ _ hm
  obtain ⟨y0, K0, o0, m0⟩ : ∃ y, k23.K W y v0.cells.toList ∧ ok23 y ∧ mu23 y ≤ Rows.uptoBulk d0 := by obtain ⟨fuel, hf⟩ := h0; exact op23 H enc W fuel _ _ hf
  obtain ⟨cs0, rfl, hsz0⟩ := okWide_struct Try.underlying23 (hval 0 23 v0 rfl rfl)
  obtain ⟨p0_0, q0_0, e0_0, K0_0, R0_0⟩ := K0
  obtain ⟨p0_1, q0_1, e0_1, K0_1, R0_1⟩ := R0_0
  have f0_0 : p0_0 = [.int .i64 y0.f0] := K0_0
  have f0_1 : p0_1 = [.int .i64 y0.f1] := K0_1
  have f0_2 : q0_1 = [.int .i64 y0.f2] := R0_1
  obtain ⟨cl0⟩ := cs0
  have g0 : cl0 = [.int .i64 y0.f0, .int .i64 y0.f1, .int .i64 y0.f2] := by
    have e : cl0 = p0_0 ++ q0_0 := by simpa [Value.cells] using e0_0
    simp_all
  subst g0
  have k1 := h1
  have lt1 : ∀ x ∈ p1, x.block < W.heap.size := by obtain ⟨m, hm⟩ := k1; exact DataW.trod_lt m _ _ _ hm
  obtain ⟨y1, K1, o1, m1⟩ : ∃ y, k23.K W y v1.cells.toList ∧ ok23 y ∧ mu23 y ≤ Rows.uptoBulk d1 := by obtain ⟨fuel, hf⟩ := h1; exact op23 H enc W fuel _ _ hf
  obtain ⟨cs1, rfl, hsz1⟩ := okWide_struct Try.underlying23 (hval 1 23 v1 rfl rfl)
  obtain ⟨p1_0, q1_0, e1_0, K1_0, R1_0⟩ := K1
  obtain ⟨p1_1, q1_1, e1_1, K1_1, R1_1⟩ := R1_0
  have f1_0 : p1_0 = [.int .i64 y1.f0] := K1_0
  have f1_1 : p1_1 = [.int .i64 y1.f1] := K1_1
  have f1_2 : q1_1 = [.int .i64 y1.f2] := R1_1
  obtain ⟨cl1⟩ := cs1
  have g1 : cl1 = [.int .i64 y1.f0, .int .i64 y1.f1, .int .i64 y1.f2] := by
    have e : cl1 = p1_0 ++ q1_0 := by simpa [Value.cells] using e1_0
    simp_all
  subst g1
  have k2 := h2
  have lt2 : ∀ x ∈ p2, x.block < W.heap.size := by obtain ⟨m, hm⟩ := k2; exact DataW.trod_lt m _ _ _ hm
  obtain ⟨y2, K2, o2, m2⟩ : ∃ y, k23.K W y v2.cells.toList ∧ ok23 y ∧ mu23 y ≤ Rows.uptoBulk d2 := by obtain ⟨fuel, hf⟩ := h2; exact op23 H enc W fuel _ _ hf
  obtain ⟨cs2, rfl, hsz2⟩ := okWide_struct Try.underlying23 (hval 2 23 v2 rfl rfl)
  obtain ⟨p2_0, q2_0, e2_0, K2_0, R2_0⟩ := K2
  obtain ⟨p2_1, q2_1, e2_1, K2_1, R2_1⟩ := R2_0
  have f2_0 : p2_0 = [.int .i64 y2.f0] := K2_0
  have f2_1 : p2_1 = [.int .i64 y2.f1] := K2_1
  have f2_2 : q2_1 = [.int .i64 y2.f2] := R2_1
  obtain ⟨cl2⟩ := cs2
  have g2 : cl2 = [.int .i64 y2.f0, .int .i64 y2.f1, .int .i64 y2.f2] := by
    have e : cl2 = p2_0 ++ q2_0 := by simpa [Value.cells] using e2_0
    simp_all
  subst g2
  have k3 := h3
  have lt3 : ∀ x ∈ p3, x.block < W.heap.size := by obtain ⟨m, hm⟩ := k3; exact DataW.trod_lt m _ _ _ hm
  obtain ⟨y3, K3, o3, m3⟩ : ∃ y, (Kd.int .i16).K W y v3.cells.toList ∧ (fun n => (Lit.int .i16 n).wf = true) y ∧ (fun _ => 1) y ≤ Rows.uptoBulk d3 := by obtain ⟨fuel, hf⟩ := h3; exact (opens_int Try.underlying43) H enc W fuel _ _ hf
  obtain ⟨z3, rfl, _, _, _⟩ := open_int Try.underlying43 (hval 3 43 v3 rfl rfl) h3
  have f3 : (Value.int .i16 z3).cells.toList = [Value.int .i16 y3] := K3
  have e3 : [Value.int .i16 z3] = [Value.int .i16 y3] := by simpa [Value.cells] using f3
  obtain rfl : z3 = y3 := by simpa using e3
  have k4 := h4
  have lt4 : ∀ x ∈ p4, x.block < W.heap.size := by obtain ⟨m, hm⟩ := k4; exact DataW.trod_lt m _ _ _ hm
  obtain ⟨y4, K4, o4, m4⟩ : ∃ y, (Kd.int .i16).K W y v4.cells.toList ∧ (fun n => (Lit.int .i16 n).wf = true) y ∧ (fun _ => 1) y ≤ Rows.uptoBulk d4 := by obtain ⟨fuel, hf⟩ := h4; exact (opens_int Try.underlying43) H enc W fuel _ _ hf
  obtain ⟨z4, rfl, _, _, _⟩ := open_int Try.underlying43 (hval 4 43 v4 rfl rfl) h4
  have f4 : (Value.int .i16 z4).cells.toList = [Value.int .i16 y4] := K4
  have e4 : [Value.int .i16 z4] = [Value.int .i16 y4] := by simpa [Value.cells] using f4
  obtain rfl : z4 = y4 := by simpa using e4
  obtain ⟨k, hk_⟩ := Pure.GeomLaws y0.f0 y0.f1 y0.f2 y1.f0 y1.f1 y1.f2 y2.f0 y2.f1 y2.f2 z3 z4 o0.1 o0.2.1 o0.2.2 o1.1 o1.2.1 o1.2.2 o2.1 o2.2.1 o2.2.2 o3 o4
  refine (P.lapidarylaw09_GeomLaws.calls k _ _ _ _ _ _ _ _ _ _ _ true W  hk_).mono fun e W' ⟨he, bel0⟩ => ?_
  have bel : Below W.heap.size W W' := bel0
  subst he
  exact ⟨_, rfl, _, _, _, [], _, [], hW', trodAll_mk1 (shut_bool Try.underlying4 _), (trodAll_cons_mk (Below.trod laidOut (by kernel_rfl) (of_decide_eq_true (by kernel_rfl)) k0 bel lt0) (trodAll_cons_mk (Below.trod laidOut (by kernel_rfl) (of_decide_eq_true (by kernel_rfl)) k1 bel lt1) (trodAll_cons_mk (Below.trod laidOut (by kernel_rfl) (of_decide_eq_true (by kernel_rfl)) k2 bel lt2) (trodAll_cons_mk (Below.trod laidOut (by kernel_rfl) (of_decide_eq_true (by kernel_rfl)) k3 bel lt3) (trodAll_cons_mk (Below.trod laidOut (by kernel_rfl) (of_decide_eq_true (by kernel_rfl)) k4 bel lt4) trodAll_mk0))))), rfl, bel.frame _, fun h => by cases h⟩
set_option maxRecDepth 100000 in
theorem lifted (os : Os) (started : os.Started) (H : Type) (enc : TypeId × Value → H) :
    ReturnsInHanded {} Try.checked os 7 .any (Rows.geomLawsSpec.pre6 enc Try.prog Try.f7 Rows.geomLawsRow.domain false) (Rows.geomLawsSpec.post enc Try.prog Try.f7 false true false false) := by
  refine returnsInHanded_of_change_sized (C := Try.checked) own started (by kernel_rfl) Try.func7
    (ChangeSpec.witness6 (enc := enc) (C := Try.checked) false ⟨#[], #[.agg #[.int .i64 0, .int .i64 0, .int .i64 0], .agg #[.int .i64 0, .int .i64 0, .int .i64 0], .agg #[.int .i64 0, .int .i64 0, .int .i64 0], .int .i16 0, .int .i16 0], []⟩ 8 (by kernel_rfl) (by kernel_rfl) (by kernel_rfl) (by kernel_rfl)) ?_
  intro W base args ds gs before hval0 hW hcnd hsz0 _
  exact contract H enc W args ds gs before base hval0 hW
theorem proved : Rows.GeomLawsSaid :=
  OpenClaim.holds_of_wide 7 Try.f7 rfl rfl rfl rfl rfl rfl rfl ⟨rfl, rfl, rfl, rfl, rfl⟩ rfl rfl rfl rfl rfl (by kernel_rfl) Try.func7 (by kernel_rfl)
    (of_decide_eq_true (by kernel_rfl)) (by unfold Func.isWrapper; first | (rw [if_pos (by decide +kernel)]; kernel_rfl) | (rw [if_neg (by decide +kernel)]; exact ⟨rfl, rfl⟩))
    (fun os started H enc _ => lifted os started H enc)
#print axioms proved
end Go.Proofs.Ytlnjbpapbifjfaa.geomLaws
namespace Go.Proofs.Ytlnjbpapbifjfaa
/-- The row, under a short name, for the claim. -/
theorem geomLaws_holds : Rows.GeomLawsSaid := geomLaws.proved
end Go.Proofs.Ytlnjbpapbifjfaa
