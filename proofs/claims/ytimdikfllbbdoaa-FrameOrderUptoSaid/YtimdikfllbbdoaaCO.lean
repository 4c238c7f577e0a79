/- crc.Of: the checksum of bytes, as the program reckons it. No condition. -/
import Derived.Test.YtimdikfllbbdoaaCA
import Derived.WalkMore
namespace Go.Proofs.Ytimdikfllbbdoaa.C
set_option linter.unusedVariables false
set_option linter.unusedSimpArgs false
open Go.RowKit Go.Proofs.YtimdikfllbbdoaaW.PrintWords

def not32 (r : Int) : Int := Go.bits .xor .u32 IntKind.u32.max r
def allV (ls : List (List Int)) (r : Int) : Int := ls.foldl (fun r l => addV l r) r
def ofV (ls : List (List Int)) : Int := not32 (allV ls 4294967295)
set_option maxHeartbeats 8000000 in
set_option maxRecDepth 100000 in
theorem sum_calls (B : Nat) (r n : Int) (w : World) (hs : w.heap[B]? = some (.cells (sumC r n) 81 (0, 0))) : Calls Try.prog 36 #[.pointer (some ⟨B, 0, none⟩)] w fun e w' => e = .returned (.int .u32 (not32 r)) ∧ w' = w := by
  have h0 : w.cell? ⟨B, 256, none⟩ = some (.int .u32 r) := (cell_of_row w B 256 _ 81 (0, 0) hs).trans (sumC_r r n)
  go_enter Try.func36, Try.ntmps36
  go_wp2
  go_ret
  exact ⟨rfl, rfl⟩
set_option maxHeartbeats 8000000 in
theorem sum_nil (w : World) : Calls Try.prog 36 #[.pointer none] w fun e w' => e = .returned (.int .u32 0) ∧ w' = w := by
  go_enter Try.func36, Try.ntmps36
  go_wp2
  go_ret
  exact ⟨rfl, rfl⟩
set_option maxHeartbeats 8000000 in
theorem add_nil (v : Value) (w : World) : Calls Try.prog 35 #[.pointer none, v] w fun e w' => e = .returned (.tuple #[]) ∧ w' = w := by
  go_enter Try.func35, Try.ntmps35
  go_wp2
  refine bodyPost_ret (results_none rfl _ _ _) rfl ?_
  exact ⟨rfl, rfl⟩
theorem allV_take (ls : List (List Int)) (r : Int) (k : Nat) (h : k < ls.length) : allV (ls.take (k + 1)) r = addV (ls.getD k []) (allV (ls.take k) r) := by
  unfold allV
  rw [List.take_succ_eq_append_getElem h, List.foldl_append]
  simp [h]
set_option maxHeartbeats 8000000 in
set_option maxRecDepth 100000 in
theorem of_calls (A : Option Addr) (c : Nat) (ls : List (List Int)) (w : World) (hr : Kd.C (Kd.slice 5 (Kd.int .u8)) w A ls.length ls) :
    Calls Try.prog 28 #[.slice A ls.length c] w fun e w' => e = .returned (.int .u32 (ofV ls)) ∧ Below w.heap.size w w' := by
  have hl : ls.length ≤ 9223372036854775807 := hr.2.1
  go_enter Try.func28, Try.ntmps28
  go_wp2
  go_step3
  go_wp2_with (go_at_call 34; refine (new_calls _).mono ?_; rintro e w1 ⟨rfl, rfl⟩)
  have hs1 : ((w.alloc (.cells (arr 256) 78)).alloc (.cells (sumC 4294967295 0) 81)).heap[w.heap.size + 1]? = some (.cells (sumC 4294967295 0) 81 (0, 0)) := heap_alloc2_new w _ _
  have hb1 : Below w.heap.size w ((w.alloc (.cells (arr 256) 78)).alloc (.cells (sumC 4294967295 0) 81)) := ((Below.refl _ w).alloc (Nat.le_refl _) _).alloc (by simp) _
  generalize (w.alloc (.cells (arr 256) 78)).alloc (.cells (sumC 4294967295 0) 81) = w1 at hs1 hb1 ⊢
  have hB : w.heap.size ≤ w.heap.size + 1 := by omega
  generalize w.heap.size + 1 = B at hs1 hB ⊢
  go_step3
  go_wp2
  go_loopw [5, 9] (fun _ i wr => ∃ k : Nat, k ≤ ls.length ∧ i = .int .i64 k ∧ Below w.heap.size w wr ∧ ∃ n, wr.heap[B]? = some (.cells (sumC (allV (ls.take k) 4294967295) n) 81 (0, 0))) (fun _ i _ => ls.length - (intOf i).toNat)
  case atStart => exact ⟨0, by omega, rfl, hb1, 0, hs1⟩
  case round =>
    obtain ⟨k, hk, rfl, hbk, n, hsk⟩ := hrel
    rcases Nat.lt_or_ge k ls.length with hlt | hge
    · have hki : (k : Int) < (ls.length : Int) := by omega
      obtain ⟨ad, cs, hA, _, hx, hc⟩ := Kd.C_get hr [] (k : Int) (by omega) hki
      subst hA
      obtain ⟨A1, c1, e1, hc1, hr1⟩ := hx
      subst e1
      have hc0 := hc 0 _ rfl
      have e0 : (Int.toNat (k : Int)) * (Kd.slice 5 (Kd.int IntKind.u8)).sz + 0 = k := by
        have : (Kd.slice 5 (Kd.int IntKind.u8)).sz = 1 := rfl
        rw [this]; omega
      rw [e0] at hc0
      rw [show (Int.toNat (k : Int)) = k by omega] at hc0 hr1 hc1
      have hcell : wr.cell? (ad.add k) = some (.slice A1 (ls.getD k []).length c1) := (hbk.cell (World.block_lt_of_cell? w _ hc0)).trans hc0
      have hstep := allV_take ls 4294967295 k hlt
      obtain ⟨x, hx⟩ : ∃ x, ls.getD k [] = x := ⟨_, rfl⟩
      obtain ⟨rr, hrr⟩ : ∃ x, allV (ls.take k) 4294967295 = x := ⟨_, rfl⟩
      rw [hx] at hcell hr1 hc1 hstep
      rw [hrr] at hsk hstep
      clear hc0 hc e0 hx hrr
      by_cases h0 : x.length = 0
      · have h0' : (x.length : Int) = 0 := by omega
        go_wp2
        go_roundw
        case rel =>
          refine ⟨k + 1, by omega, rfl, hbk, n, ?_⟩
          rw [hstep, List.length_eq_zero_iff.1 h0]
          exact hsk
        case measure => simp [intOf]; omega
      · have h0' : ¬ (x.length : Int) = 0 := by omega
        go_wp2_with (go_at_call 35; refine (add_calls B A1 c1 x rr n w wr hbk hB hsk hr1).mono ?_; rintro e w2 ⟨rfl, hb2, hs2⟩)
        go_roundw
        case rel =>
          refine ⟨k + 1, by omega, rfl, hb2, wrap64 (n + x.length), ?_⟩
          rw [hstep]
          exact hs2
        case measure => simp [intOf]; omega
    · have ek : k = ls.length := by omega
      subst ek
      rw [List.take_length] at hsk
      go_wp2_with (go_at_call 36; refine (sum_calls B _ n wr hsk).mono ?_; rintro e w2 ⟨rfl, rfl⟩)
      rw [Exit.noGoto_ret]
      go_ret
      exact ⟨rfl, hbk⟩
end Go.Proofs.Ytimdikfllbbdoaa.C
