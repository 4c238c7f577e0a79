/- crc.Sum.Add, and that it leaves all else. No condition. -/
import Derived.Test.YteiimfmanfafhaaCA
namespace Go.Proofs.Yteiimfmanfafhaa.C
set_option linter.unusedVariables false
set_option linter.unusedSimpArgs false
open Go.RowKit Go.Proofs.YteiimfmanfafhaaW.PrintWords

theorem grown_refl (w : World) (r : Option Nat) : w.grownBy w r := ⟨rfl, rfl, rfl, Nat.le_refl _, fun _ _ _ => rfl⟩
theorem grown_set {w w1 : World} {B : Nat} (h : w.grownBy w1 (some B)) (o : Nat) (v : Value) : w.grownBy (w1.setCell ⟨B, o, none⟩ v) (some B) :=
  ⟨h.os, h.tape, h.output, by have := h.size; simp only [World.setCell, Array.size_modify]; exact this, fun k hk hne => by rw [heap_setCell_other w1 ⟨B, o, none⟩ k v (fun e => hne (by rw [e]))]; exact h.block k hk hne⟩
set_option maxHeartbeats 8000000 in
set_option maxRecDepth 100000 in
theorem add_more (B : Nat) (A : Option Addr) (c : Nat) (l : List Int) (r n : Int) (w0 w : World) (hb : Below w0.heap.size w0 w) (hB : w0.heap.size ≤ B) (hs : w.heap[B]? = some (.cells (sumC r n) 49 (0, 0)))
    (hr : Kd.C (Kd.int .u8) w0 A l.length l) : Calls Try.prog 14 #[.pointer (some ⟨B, 0, none⟩), .slice A l.length c] w fun e w' => e = .returned (.tuple #[]) ∧ Below w0.heap.size w0 w' ∧ w'.heap[B]? = some (.cells (sumC (addV l r) (wrap64 (n + l.length))) 49 (0, 0)) ∧ w.grownBy w' (some B) := by
  have hl : l.length ≤ 9223372036854775807 := hr.2.1
  go_enter Try.func14, Try.ntmps14
  go_wp2
  go_loopw [5, 10] (fun _ i wr => ∃ k : Nat, k ≤ l.length ∧ i = .int .i64 k ∧ Below w0.heap.size w0 wr ∧ wr.heap[B]? = some (.cells (sumC (addV (l.take k) r) n) 49 (0, 0)) ∧ w.grownBy wr (some B)) (fun _ i _ => l.length - (intOf i).toNat)
  case atStart => exact ⟨0, by omega, rfl, hb, hs, grown_refl w (some B)⟩
  case round =>
    obtain ⟨k, hk, rfl, hbk, hsk, hgk⟩ := hrel
    rcases Nat.lt_or_ge k l.length with hlt | hge
    · have hki : (k : Int) < (l.length : Int) := by omega
      obtain ⟨ad, cs, hA, _, hx, hc⟩ := Kd.C_get hr 0 (k : Int) (by omega) hki
      subst hA
      have hx' : cs = [Value.int .u8 (l.getD k 0)] := hx
      subst hx'
      have hc0 := hc 0 _ rfl
      have e0 : (Int.toNat (k : Int)) * (Kd.int IntKind.u8).sz + 0 = k := by
        have : (Kd.int IntKind.u8).sz = 1 := rfl
        rw [this]; omega
      rw [e0] at hc0
      have hcell : wr.cell? (ad.add k) = some (.int .u8 (l.getD k 0)) := (hbk.cell (World.block_lt_of_cell? w0 _ hc0)).trans hc0
      obtain ⟨x, hx⟩ : ∃ x, l.getD k 0 = x := ⟨_, rfl⟩
      obtain ⟨rr, hrr⟩ : ∃ x, addV (l.take k) r = x := ⟨_, rfl⟩
      rw [hx] at hcell
      rw [hrr] at hsk
      have hid := idx_range rr x
      have h0 : wr.cell? ⟨B, 256, none⟩ = some (.int .u32 rr) := (cell_of_row wr B 256 _ 49 (0, 0) hsk).trans (sumC_r rr n)
      have h1 : wr.cell? ⟨B, (Go.bits .xor .u8 (IntKind.u8.wrap rr) x).toNat, none⟩ = some (.int .u32 (tabV (idx rr x).toNat)) := (cell_of_row wr B _ _ 49 (0, 0) hsk).trans (sumC_get rr n _ (by have h1 := hid.1; have h2 := hid.2; unfold idx at h1 h2; omega))
      have hi0 : (0 : Int) ≤ Go.bits .xor .u8 (IntKind.u8.wrap rr) x := hid.1
      have hi1 : Go.bits .xor .u8 (IntKind.u8.wrap rr) x < 256 := hid.2
      have hf : wr.frozen? ⟨B, 256, none⟩ = false := frozen_of_row wr B 256 _ 49 hsk
      have hstep : addV (l.take (k + 1)) r = add1 rr x := by rw [addV_take l r k hlt, hrr, hx]
      clear hx hc0 hc e0 hid
      go_wp2
      go_still_tail 21, (by kernel_rfl)
      change wpList _ _ _ _ _ wr.drew
      have h0' : wr.drew.cell? ⟨B, 256, none⟩ = some (.int .u32 rr) := h0
      have hf' : wr.drew.frozen? ⟨B, 256, none⟩ = false := hf
      have hhd : wr.drew.heap[B]? = some (.cells (sumC rr n) 49 (0, 0)) := hsk
      have hbd : Below w0.heap.size w0 wr.drew := hbk.drew
      have hgd : w.grownBy wr.drew (some B) := ⟨hgk.os, hgk.tape, hgk.output, hgk.size, hgk.block⟩
      generalize wr.drew = wd at h0' hf' hhd hbd hgd ⊢
      clear h0 h1 hf hi0 hi1 hcell hsk hbk hgk
      go_wp2
      go_roundw
      case rel =>
        refine ⟨k + 1, by omega, rfl, hbd.setCell hB _, ?_, grown_set hgd 256 _⟩
        rw [heap_setCell_same wd B 256 _ 49 _ hhd, sumC_setr, hstep]
        rfl
      case measure => simp [intOf]; omega
    · have ek : k = l.length := by omega
      subst ek
      rw [List.take_length] at hsk
      have h0 : wr.cell? ⟨B, 257, none⟩ = some (.int .i64 n) := (cell_of_row wr B 257 _ 49 (0, 0) hsk).trans (sumC_n _ n)
      have hf : wr.frozen? ⟨B, 257, none⟩ = false := frozen_of_row wr B 257 _ 49 hsk
      have hge' : ¬ ((l.length : Int) < (l.length : Int)) := by omega
      go_wp2
      refine ⟨rfl, .tuple #[], by unfold results; simp [show Try.f14.results = #[] from rfl]; try rfl, rfl, hbk.setCell hB _, ?_, grown_set hgk 257 _⟩
      rw [heap_setCell_same wr B 257 _ 49 _ hsk, sumC_setn]
end Go.Proofs.Yteiimfmanfafhaa.C
