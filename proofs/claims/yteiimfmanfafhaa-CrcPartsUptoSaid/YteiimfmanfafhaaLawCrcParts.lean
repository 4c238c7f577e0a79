/- Written for this claim by a program of this session (a turned copy of the print): Go functions as Lean functions, and that the Go code comes to just these answers; or a statement proved out of them. No condition. -/
import Derived.Test.YteiimfmanfafhaaRows
import Derived.Test.YteiimfmanfafhaaStCrcParts
import Derived.Test.YteiimfmanfafhaaPureCrcParts
import Derived.WalkKit
import Derived.ProofKit
import Derived.OpenShut
import Derived.ShutString
import Derived.ChangeOld
import Derived.Below
import Derived.SizedLaws
import Derived.JoinedCond
namespace Go.Proofs.Yteiimfmanfafhaa.crcParts
open Go.ChangeShapes Go.WideShapes Go.ChangeAt Go.RowKit Go.Proofs.Yteiimfmanfafhaa.O Go.Proofs.Yteiimfmanfafhaa.P Go.Proofs.YteiimfmanfafhaaW.PrintWords
set_option linter.unusedVariables false
set_option linter.unusedSimpArgs false
theorem own : ownKnob Try.prog.godebug = none := by kernel_rfl
theorem laidOut : laidOutB Try.prog = true := by kernel_rfl
set_option maxRecDepth 100000 in
theorem contract (H : Type) (enc : TypeId × Value → H) (W : World) (args : Array Value) (ds gs : List (DataW H)) (before : List MemPlace) (base : Nat)
    (hval0 : ∀ (j : Nat) t v, Try.f5.params[j]? = some t → args[j]? = some v → Value.okWide Try.prog W .any base t v)
    (hW : DataW.Whole enc Try.prog Try.f5.params.toList Rows.crcPartsSpec.vars false W args.toList ds gs before) (hk : Rows.uptoSmall H (ds ++ gs) = true) :
    Calls Try.prog 5 args W fun e W' => ∃ v, e = .returned v ∧ Rows.crcPartsSpec.post enc Try.prog Try.f5 false true false false W args v W' := by
  have hval : ∀ (j : Nat) t v, Try.f5.params[j]? = some t → args[j]? = some v → Value.okWide Try.prog W .any base t v := hval0
  have hW' := hW
  obtain ⟨p, q, hA0, hV, rfl, hfz, hnd⟩ := hW
  have hA : DataW.TrodAll enc Try.prog W 0 (fun _ => true) true Try.f5.params.toList args.toList ds p := hA0
  rw [Try.params5] at hA hval
  obtain ⟨v0, vs0, d0, ds0, p0, q0, hargs, rfl, rfl, h0, r0⟩ := trodAll_cons hA
  obtain ⟨rfl, rfl, rfl⟩ := trodAll_nil r0
  obtain rfl : args = #[v0] := by cases args; simp_all
  obtain ⟨rfl, rfl⟩ := trodVars_none hV
  clear hA0 hval0
  have hbulk : Rows.uptoBulkAll [d0] ≤ 1048576 := by have := of_decide_eq_true hk; simpa using this
  simp only [Rows.uptoBulkAll] at hbulk
  clear hk
  have k0 := h0
  have lt0 : ∀ x ∈ p0, x.block < W.heap.size := by obtain ⟨m, hm⟩ := k0; exact DataW.trod_lt m _ _ _ hm
  obtain ⟨y0, K0, o0, m0⟩ : ∃ y, (Kd.slice 22 (Kd.slice 5 (Kd.int .u8))).K W y v0.cells.toList ∧ (fun l => l.length ≤ maxLen ∧ ∀ x ∈ l, (fun l => l.length ≤ maxLen ∧ ∀ x ∈ l, (fun n => (Lit.int .u8 n).wf = true) x) x) y ∧ (fun l => 1 + (l.map (fun l => 1 + (l.map (fun _ => 1)).sum)).sum) y ≤ Rows.uptoBulk d0 := by obtain ⟨fuel, hf⟩ := h0; exact (opens_slice (e := 22) Try.underlying34 (by kernel_rfl) (opens_slice (e := 5) Try.underlying22 (by kernel_rfl) (opens_int Try.underlying5))) H enc W fuel _ _ hf
  obtain ⟨a0, len0, cap0, rfl⟩ := okWide_slice Try.underlying34 (hval 0 34 v0 rfl rfl)
  obtain ⟨A0, c0, e0, hc0, hr0⟩ := K0
  have e0' : a0 = A0 ∧ len0 = y0.length ∧ cap0 = c0 := by simpa [Value.cells] using e0
  obtain ⟨rfl, rfl, rfl⟩ := e0'
  have m0' : (1 + (y0.map (fun l => 1 + (l.map (fun _ => 1)).sum)).sum) ≤ Rows.uptoBulk d0 := m0
  have hk_ := Pure.CrcParts y0 o0 (by have := hbulk; have := bulk_one d0; omega)
  refine (P.lapidarylaw02_CrcParts.calls _ _ _ true W hr0 hc0 hk_).mono fun e W' ⟨he, bel0⟩ => ?_
  have bel : Below W.heap.size W W' := bel0
  subst he
  exact ⟨_, rfl, _, _, _, [], _, [], hW', trodAll_mk1 (shut_bool Try.underlying4 _), (trodAll_cons_mk (Below.trod laidOut (by kernel_rfl) (of_decide_eq_true (by kernel_rfl)) k0 bel lt0) trodAll_mk0), rfl, bel.frame _, fun h => by cases h⟩
set_option maxRecDepth 100000 in
theorem lifted (os : Os) (started : os.Started) (H : Type) (enc : TypeId × Value → H) (F : Stop.Interp) :
    ReturnsInHanded {} Try.checked os 5 .any ((Rows.OpenSpec.upto Rows.crcPartsSpec).pre6 enc Try.prog Try.f5 Rows.crcPartsUptoRow.domain false) (((Rows.OpenSpec.upto Rows.crcPartsSpec).at F).post enc Try.prog Try.f5 false true false false) := by
  refine returnsInHanded_of_cond (C := Try.checked) (s := Rows.OpenSpec.upto Rows.crcPartsSpec) (k := Rows.uptoSmall) rfl own started (by kernel_rfl) Try.func5
    (OpenSpec.witness (enc := enc) (C := Try.checked) (s := Rows.OpenSpec.upto Rows.crcPartsSpec) (k := Rows.uptoSmall) rfl false ⟨#[], #[.slice none 0 0], []⟩ 8 (by kernel_rfl) (by kernel_rfl) (by kernel_rfl)
      (x := ([.nil], [], [])) (by kernel_rfl) rfl (by kernel_rfl)) ?_
  intro W base args ds gs before hval hW _ hk _
  exact contract H enc W args ds gs before base hval hW hk
theorem proved : Rows.CrcPartsUptoSaid :=
  OpenClaim.holds_of_cond 5 Try.f5 rfl rfl rfl rfl rfl rfl rfl ⟨rfl, rfl, rfl, rfl, rfl⟩ rfl rfl rfl rfl rfl (by kernel_rfl) Try.func5 (by kernel_rfl)
    (of_decide_eq_true (by kernel_rfl)) (by unfold Func.isWrapper; first | (rw [if_pos (by decide +kernel)]; kernel_rfl) | (rw [if_neg (by decide +kernel)]; exact ⟨rfl, rfl⟩))
    (fun os started H enc _ F => lifted os started H enc F)
#print axioms proved
end Go.Proofs.Yteiimfmanfafhaa.crcParts
namespace Go.Proofs.Yteiimfmanfafhaa
/-- The row, under a short name, for the claim. -/
theorem crcPartsUpto_holds : Rows.CrcPartsUptoSaid := crcParts.proved
end Go.Proofs.Yteiimfmanfafhaa
