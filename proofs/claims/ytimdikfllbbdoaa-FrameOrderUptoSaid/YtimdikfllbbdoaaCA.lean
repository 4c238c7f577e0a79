/- crc.Sum.Add: more bytes. No condition. -/
import Derived.Test.YtimdikfllbbdoaaCN
import Derived.Test.YtimdikfllbbdoaaV0
import Derived.StillTailTactics
import Derived.Deep.QuietTactic
namespace Go.Proofs.Ytimdikfllbbdoaa.C
set_option linter.unusedVariables false
set_option linter.unusedSimpArgs false
open Go.RowKit Go.Proofs.YtimdikfllbbdoaaW.PrintWords

def idx (r c : Int) : Int := Go.bits .xor .u8 (IntKind.u8.wrap r) c
def add1 (r c : Int) : Int := Go.bits .xor .u32 (r / 256) (tabV (idx r c).toNat)
def addV (l : List Int) (r : Int) : Int := l.foldl add1 r
theorem sumC_get (r n : Int) (j : Nat) (h : j < 256) : (sumC r n)[j]? = some (.int .u32 (tabV j)) := by
  unfold sumC
  rw [Array.getElem?_append_left (by rw [arr_size]; exact h), arr_get 256 j h, if_pos h]
theorem sumC_r (r n : Int) : (sumC r n)[256]? = some (.int .u32 r) := by
  unfold sumC
  rw [Array.getElem?_append_right (by rw [arr_size]; omega), arr_size]; rfl
theorem sumC_n (r n : Int) : (sumC r n)[257]? = some (.int .i64 n) := by
  unfold sumC
  rw [Array.getElem?_append_right (by rw [arr_size]; omega), arr_size]; rfl
theorem sumC_setr (r n r' : Int) : (sumC r n).setIfInBounds 256 (.int .u32 r') = sumC r' n := by
  have h := arr_size 256
  unfold sumC
  generalize arr 256 = X at h ⊢
  apply Array.ext'
  have h' : X.toList.length = 256 := by simpa using h
  simp [List.set_append, h', h]
theorem sumC_setn (r n n' : Int) : (sumC r n).setIfInBounds 257 (.int .i64 n') = sumC r n' := by
  have h := arr_size 256
  unfold sumC
  generalize arr 256 = X at h ⊢
  apply Array.ext'
  have h' : X.toList.length = 256 := by simpa using h
  simp [List.set_append, h', h]
theorem addV_take (l : List Int) (r : Int) (k : Nat) (h : k < l.length) : addV (l.take (k + 1)) r = add1 (addV (l.take k) r) (l.getD k 0) := by
  unfold addV
  rw [List.take_succ_eq_append_getElem h, List.foldl_append]
  simp [h]
theorem idx_range (r c : Int) : 0 ≤ idx r c ∧ idx r c < 256 := by
  unfold idx Go.bits
  simp only [IntKind.wrap, IntKind.signed, IntKind.bits]
  constructor <;> simp <;> omega
set_option maxHeartbeats 8000000 in
set_option maxRecDepth 100000 in
theorem add_calls (B : Nat) (A : Option Addr) (c : Nat) (l : List Int) (r n : Int) (w0 w : World) (hb : Below w0.heap.size w0 w) (hB : w0.heap.size ≤ B) (hs : w.heap[B]? = some (.cells (sumC r n) 81 (0, 0)))
    (hr : Kd.C (Kd.int .u8) w0 A l.length l) : Calls Try.prog 35 #[.pointer (some ⟨B, 0, none⟩), .slice A l.length c] w fun e w' => e = .returned (.tuple #[]) ∧ Below w0.heap.size w0 w' ∧ w'.heap[B]? = some (.cells (sumC (addV l r) (wrap64 (n + l.length))) 81 (0, 0)) := by
  have hl : l.length ≤ 9223372036854775807 := hr.2.1
  go_enter Try.func35, Try.ntmps35
  go_wp2
  go_loopw [5, 10] (fun _ i wr => ∃ k : Nat, k ≤ l.length ∧ i = .int .i64 k ∧ Below w0.heap.size w0 wr ∧ wr.heap[B]? = some (.cells (sumC (addV (l.take k) r) n) 81 (0, 0))) (fun _ i _ => l.length - (intOf i).toNat)
  case atStart => exact ⟨0, by omega, rfl, hb, hs⟩
  case round =>
    obtain ⟨k, hk, rfl, hbk, hsk⟩ := hrel
    rcases Nat.lt_or_ge k l.length with hlt | hge
    · have hki : (k : Int) < (l.length : Int) := by omega
      obtain ⟨ad, cs, hA, _, hx, hc⟩ := Kd.C_get hr 0 (k : Int) (by omega) hki
      subst hA
      have hx' : cs = [Value.int .u8 (l.getD k 0)] := hx
      subst hx'
      have hc0 := hc 0 _ rfl
      have e0 : (Int.toNat (k : Int)) * (Kd.int IntKind.u8).sz + 0 = k := by
        have : (Kd.int IntKind.u8).sz = 1 := rfl
        rw [this]; omega
      rw [e0] at hc0
      have hcell : wr.cell? (ad.add k) = some (.int .u8 (l.getD k 0)) := (hbk.cell (World.block_lt_of_cell? w0 _ hc0)).trans hc0
      obtain ⟨x, hx⟩ : ∃ x, l.getD k 0 = x := ⟨_, rfl⟩
      obtain ⟨rr, hrr⟩ : ∃ x, addV (l.take k) r = x := ⟨_, rfl⟩
      rw [hx] at hcell
      rw [hrr] at hsk
      have hid := idx_range rr x
      have h0 : wr.cell? ⟨B, 256, none⟩ = some (.int .u32 rr) := (cell_of_row wr B 256 _ 81 (0, 0) hsk).trans (sumC_r rr n)
      have h1 : wr.cell? ⟨B, (Go.bits .xor .u8 (IntKind.u8.wrap rr) x).toNat, none⟩ = some (.int .u32 (tabV (idx rr x).toNat)) := (cell_of_row wr B _ _ 81 (0, 0) hsk).trans (sumC_get rr n _ (by have h1 := hid.1; have h2 := hid.2; unfold idx at h1 h2; omega))
      have hi0 : (0 : Int) ≤ Go.bits .xor .u8 (IntKind.u8.wrap rr) x := hid.1
      have hi1 : Go.bits .xor .u8 (IntKind.u8.wrap rr) x < 256 := hid.2
      have hf : wr.frozen? ⟨B, 256, none⟩ = false := frozen_of_row wr B 256 _ 81 hsk
      have hstep : addV (l.take (k + 1)) r = add1 rr x := by rw [addV_take l r k hlt, hrr, hx]
      clear hx hc0 hc e0 hid
      go_wp2
      go_still_tail 21, (by kernel_rfl)
      change wpList _ _ _ _ _ wr.drew
      have h0' : wr.drew.cell? ⟨B, 256, none⟩ = some (.int .u32 rr) := h0
      have hf' : wr.drew.frozen? ⟨B, 256, none⟩ = false := hf
      have hhd : wr.drew.heap[B]? = some (.cells (sumC rr n) 81 (0, 0)) := hsk
      have hbd : Below w0.heap.size w0 wr.drew := hbk.drew
      generalize wr.drew = wd at h0' hf' hhd hbd ⊢
      clear h0 h1 hf hi0 hi1 hcell hsk hbk
      go_wp2
      go_roundw
      case rel =>
        refine ⟨k + 1, by omega, rfl, hbd.setCell hB _, ?_⟩
        rw [heap_setCell_same wd B 256 _ 81 _ hhd, sumC_setr, hstep]
        rfl
      case measure => simp [intOf]; omega
    · have ek : k = l.length := by omega
      subst ek
      rw [List.take_length] at hsk
      have h0 : wr.cell? ⟨B, 257, none⟩ = some (.int .i64 n) := (cell_of_row wr B 257 _ 81 (0, 0) hsk).trans (sumC_n _ n)
      have hf : wr.frozen? ⟨B, 257, none⟩ = false := frozen_of_row wr B 257 _ 81 hsk
      have hge' : ¬ ((l.length : Int) < (l.length : Int)) := by omega
      go_wp2
      refine ⟨rfl, .tuple #[], by unfold results; simp [show Try.f35.results = #[] from rfl]; try rfl, rfl, hbk.setCell hB _, ?_⟩
      rw [heap_setCell_same wr B 257 _ 81 _ hsk, sumC_setn]
end Go.Proofs.Ytimdikfllbbdoaa.C
