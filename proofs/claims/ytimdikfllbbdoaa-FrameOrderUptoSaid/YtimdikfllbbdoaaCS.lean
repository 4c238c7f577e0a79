/- vint.Fixed of four bytes; crc.Seal. No condition. -/
import Derived.Test.YtimdikfllbbdoaaCO
import Derived.Test.YtimdikfllbbdoaaV0
import Derived.OwnWalk
import Derived.ArgAppend
namespace Go.Proofs.Ytimdikfllbbdoaa.C
set_option linter.unusedVariables false
set_option linter.unusedSimpArgs false
open Go.RowKit Go.Proofs.YtimdikfllbbdoaaW.PrintWords

theorem inf5 : (Try.prog.info? 5).map (fun i => (i.zero, i.size, i.bytes)) = some (some (.int .u8 0), 1, 1) := by kernel_rfl
def fixL (n k : Nat) : List Int := (List.range k).map fun i => ((n / 2 ^ (8 * i) % 256 : Nat) : Int)
theorem fixL_snoc (n k : Nat) : fixL n (k + 1) = fixL n k ++ [((n / 2 ^ (8 * k) % 256 : Nat) : Int)] := by unfold fixL; rw [List.range_succ, List.map_append]; rfl
set_option maxHeartbeats 8000000 in
set_option maxRecDepth 100000 in
theorem fixed_calls (n : Nat) (hn : n < 4294967296) (w : World) : Calls Try.prog 27 #[.int .u64 n, .int .i64 4] w fun e w' => ∃ v, e = .returned (.tuple #[v, .int .i64 0]) ∧ Kd.R (Kd.int .u8) 5 w' w.heap.size (fun _ => True) v (fixL n 4) ∧ Below w.heap.size w w' := by
  go_enter Try.func27, Try.ntmps27
  go_wp2
  go_loopw [6, 26] (fun out i wr => ∃ k : Nat, k ≤ 4 ∧ i = .int .i64 k ∧ Kd.R (Kd.int .u8) 5 wr w.heap.size (fun _ => True) out (fixL n k) ∧ Below w.heap.size w wr) (fun _ i _ => 4 - (intOf i).toNat)
  case atStart => exact ⟨0, by omega, rfl, Kd.R_nil _ _ _ _ _, Below.refl _ _⟩
  case round =>
    obtain ⟨k, hk, rfl, hown, hb⟩ := hrel
    have hlen : (fixL n k).length = k := by unfold fixL; simp
    obtain ⟨Ao, co, eo⟩ := Kd.R_slice hown
    subst eo
    rcases Nat.lt_or_ge k 4 with hlt | hge
    · have hki : (k : Int) < 4 := by omega
      obtain ⟨X, hX⟩ : ∃ X : Int, X = ((n / 2 ^ (8 * k) % 256 : Nat) : Int) := ⟨_, rfl⟩
      have hs := fixL_snoc n k
      rw [← hX] at hs
      have hx : X = (n : Int) / 2 ^ (8 * k) % 256 := by rw [hX]; simp
      clear hX
      generalize fixL n k = l at *
      generalize hl' : fixL n (k + 1) = l' at *
      obtain rfl | rfl | rfl | rfl : k = 0 ∨ k = 1 ∨ k = 2 ∨ k = 3 := by omega
      all_goals simp only [Nat.mul_zero, Int.pow_zero, Int.ediv_one, Nat.mul_one, Int.reducePow, Nat.reduceMul] at hx
      all_goals (try (have hx3 : X = (n : Int) / 16777216 := by omega))
      all_goals go_wp2_with (first | ((with_reducible refine gate_builtin (b := .append) (xs := #[.tmp 29, .tmp 35]) rfl ?_); at_builtin; (first | rw [← hx] | rw [← hx3]); refine Kd.R_append (Kd.int .u8) (w0 := w) w.heap.size rfl (.tmp 29) (.tmp 35) 25 5 (.int .u8 0) 1 rfl Try.underlying25 inf5 rfl (by decide) (by omega) (.slice Ao l.length co) l X [.int .u8 X] (fun _ => True) (fun _ => False) rfl rfl ?aP (fun _ hk => hk.elim) ?aF ?aO ?aB ?aS ?aL ?_; (case aP => exact rfl); (case aF => exact (fun _ _ => trivial)); (case aO => exact hown); (case aB => exact hb); (case aS => exact (below_size hb)); (case aL => omega); intro v1 w1 ho hb1 hg hat; rw [← hs] at ho; clear hg hat hown hb))
      all_goals go_roundw
      all_goals first
        | (case rel => subst hl'; first | exact ⟨1, by omega, rfl, ho, hb1⟩ | exact ⟨2, by omega, rfl, ho, hb1⟩ | exact ⟨3, by omega, rfl, ho, hb1⟩ | exact ⟨4, by omega, rfl, ho, hb1⟩)
        | (case measure => simp [intOf])
    · have ek : k = 4 := by omega
      subst ek
      go_wp2
      go_ret2
      exact ⟨_, rfl, hown, hb⟩
theorem C_row1 (w : World) (g : Nat) (A : Option Addr) (ca : Nat) (xs : List Int) (cs : Array Value) (t : TypeId) (fr : Nat × Nat) (hg : w.heap[g]? = some (.cells cs t fr)) (hc : cs = #[.slice A xs.length ca])
    (ha : Kd.C (Kd.int .u8) w A xs.length xs) (hca : xs.length ≤ ca) : Kd.C (Kd.slice 5 (Kd.int .u8)) w (some ⟨g, 0, none⟩) 1 [xs] := by
  refine ⟨rfl, by simp, fun _ => ⟨⟨g, 0, none⟩, rfl, fun j p hp => ?_⟩⟩
  have e : (Addr.add ⟨g, 0, none⟩ (0 * (Kd.slice 5 (Kd.int IntKind.u8)).sz + 0)) = ⟨g, 0, none⟩ := by
    have : (Kd.slice 5 (Kd.int IntKind.u8)).sz = 1 := rfl
    rw [this, Addr.add_mid]
  match j, hp with
  | 0, hp =>
    obtain rfl : xs = p := by simpa using hp
    refine ⟨[.slice A xs.length ca], rfl, ⟨A, ca, rfl, hca, ha⟩, fun i u hu => ?_⟩
    cases i with
    | zero =>
      obtain rfl : Value.slice A xs.length ca = u := by simpa using hu
      rw [e, cell_of_row w g 0 cs t fr hg, hc]; rfl
    | succ i => simp at hu
  | j + 1, hp => simp at hp
theorem bits32_range (op : BinOp) (a b : Int) : 0 ≤ Go.bits op .u32 a b ∧ Go.bits op .u32 a b < 4294967296 := by
  unfold Go.bits
  simp only [IntKind.wrap, IntKind.signed, IntKind.bits]
  constructor <;> simp <;> omega
theorem ofV_nat (ls : List (List Int)) : ∃ n : Nat, ofV ls = (n : Int) ∧ n < 4294967296 := by
  have := bits32_range .xor IntKind.u32.max (allV ls 4294967295)
  refine ⟨(ofV ls).toNat, ?_, ?_⟩ <;> unfold ofV not32 <;> omega
theorem C_cells {w : World} {ad : Addr} {n : Nat} {xs : List Int} (h : Kd.C (Kd.int .u8) w (some ad) n xs) : ∀ j u, (xs.map (Value.int .u8))[j]? = some u → w.cell? (ad.add j) = some u := by
  intro j u hu
  rw [List.getElem?_map] at hu
  cases hx : xs[j]? with
  | none => rw [hx] at hu; cases hu
  | some p =>
    rw [hx] at hu
    obtain rfl : Value.int .u8 p = u := by simpa using hu
    have hlt : j < xs.length := (List.getElem?_eq_some_iff.1 hx).1
    obtain ⟨ad', e, hc⟩ := h.2.2 (by have := h.1; omega)
    injection e with e
    subst e
    obtain ⟨cs, _, hk, hcs⟩ := hc j p hx
    have hk' : cs = [Value.int .u8 p] := hk
    subst hk'
    have := hcs 0 _ rfl
    have hsz : (Kd.int IntKind.u8).sz = 1 := rfl
    rw [hsz, Nat.mul_one, Nat.add_zero] at this
    exact this
set_option maxHeartbeats 8000000 in
set_option maxRecDepth 100000 in
theorem seal_calls (A : Option Addr) (c : Nat) (l : List Int) (w : World) (hr : Kd.C (Kd.int .u8) w A l.length l) (hc : l.length ≤ c) (hl : l.length + 4 ≤ 140737488355328) : Calls Try.prog 21 #[.slice A l.length c] w fun e w' =>
    ∃ v, e = .returned v ∧ Kd.R (Kd.int .u8) 5 w' w.heap.size (fun _ => True) v (l ++ fixL (ofV [l]).toNat 4) ∧ Below w.heap.size w w' := by
  obtain ⟨n, hn, hn2⟩ := ofV_nat [l]
  have hn1 : (ofV [l]).toNat = n := by rw [hn]; rfl
  rw [hn1]
  obtain ⟨i0, hi, hz0, hz1, hz2⟩ := info_parts inf5
  have g1 : (w.alloc (.cells #[.slice A l.length c] 25)).heap[w.heap.size]? = some (.cells #[.slice A l.length c] 25 (0, 0)) := heap_alloc_new w _
  have hK := C_row1 (w.alloc (.cells #[.slice A l.length c] 25)) w.heap.size A c l _ 25 (0, 0) g1 rfl (Kd.C_alloc hr _) hc
  have hb1 : Below w.heap.size w (w.alloc (.cells #[.slice A l.length c] 25)) := (Below.refl _ w).alloc (Nat.le_refl _) _
  have h4 : (fixL n 4).length = 4 := by unfold fixL; simp
  have hnil : A = none → l.length = 0 := by
    intro hA
    by_cases h0 : l.length = 0
    · exact h0
    · obtain ⟨ad, e, _⟩ := hr.2.2 (by omega)
      rw [hA] at e; cases e
  cases A with
  | none =>
    have h0 := hnil rfl
    obtain rfl := List.length_eq_zero_iff.1 h0
    go_enter Try.func21, Try.ntmps21
    go_wp2_with (first | (go_at_call 28; refine (of_calls _ 1 [[]] _ hK).mono ?_; rintro e w2 ⟨he, hb2⟩; rw [hn] at he; subst he) | (go_at_call 27; refine (fixed_calls n hn2 _).mono ?_; rintro e w3 ⟨v3, rfl, ho3, hb3⟩; have hb4 := below_step (below_step hb1 hb2) hb3; obtain ⟨A3, c3, e3⟩ := Kd.R_slice ho3; subst e3; have hC3 := (Kd.R_reads' ho3).2.2; obtain ⟨ad3, e3, _⟩ := hC3.2.2 (by omega); subst e3; have hc3 := C_cells hC3) | (at_builtin; refine wpList_append_grows _ rfl (.tmp 18) (.tmp 19) 25 rfl 5 i0 (.int .u8 0) 1 1 Try.underlying25 hi hz0 hz1 hz2 rfl (by decide) none 0 0 [] rfl (fun _ => ⟨rfl, rfl⟩) (by simp) (fun b e => by cases e) ad3 (fixL n 4).length c3 ((fixL n 4).map (Value.int .u8)) rfl (by simp) hc3 (fun u hu => by obtain ⟨x, _, rfl⟩ := List.mem_map.1 hu; rfl) (by omega) (by unfold maxLen; omega) (by omega) ?_; intro v5 w5 hown5 hgr5))
    go_ret
    refine ⟨v5, rfl, ?_, ?_⟩
    · exact Kd.R_lower (Kd.R_of_own (enc := Value.int .u8) (h1 := fun _ => rfl) (by simpa [encs] using hown5) (fun _ _ => trivial)) (below_size hb4)
    · exact hb4.grown hgr5 (below_size hb4) (fun k h => by cases h)
  | some b0 =>
    go_enter Try.func21, Try.ntmps21
    go_wp2_with (first | (go_at_call 28; refine (of_calls _ 1 [l] _ hK).mono ?_; rintro e w2 ⟨he, hb2⟩; rw [hn] at he; subst he) | (go_at_call 27; refine (fixed_calls n hn2 _).mono ?_; rintro e w3 ⟨v3, rfl, ho3, hb3⟩; have hb4 := below_step (below_step hb1 hb2) hb3; obtain ⟨A3, c3, e3⟩ := Kd.R_slice ho3; subst e3; have hC3 := (Kd.R_reads' ho3).2.2; obtain ⟨ad3, e3, _⟩ := hC3.2.2 (by omega); subst e3; have hc3 := C_cells hC3; have hc0 := C_cells (Kd.C_below hr hb4)) | (at_builtin; refine wpList_append_grows _ rfl (.tmp 18) (.tmp 19) 25 rfl 5 i0 (.int .u8 0) 1 1 Try.underlying25 hi hz0 hz1 hz2 rfl (by decide) (some b0) l.length l.length (l.map (Value.int .u8)) rfl (fun h => by cases h) (by simp) (fun b e => by injection e with e; subst e; exact hc0) ad3 (fixL n 4).length c3 ((fixL n 4).map (Value.int .u8)) rfl (by simp) hc3 (fun u hu => by obtain ⟨x, _, rfl⟩ := List.mem_map.1 hu; rfl) (by omega) (by unfold maxLen; omega) (by omega) ?_; intro v5 w5 hown5 hgr5))
    go_ret
    refine ⟨v5, rfl, ?_, ?_⟩
    · exact Kd.R_lower (Kd.R_of_own (enc := Value.int .u8) (h1 := fun _ => rfl) (by simpa [encs] using hown5) (fun _ _ => trivial)) (below_size hb4)
    · exact hb4.grown hgr5 (below_size hb4) (fun k h => by cases h)
end Go.Proofs.Ytimdikfllbbdoaa.C
