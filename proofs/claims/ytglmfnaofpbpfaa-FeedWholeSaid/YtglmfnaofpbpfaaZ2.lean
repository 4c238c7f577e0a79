/- Short names of words, for a text that would be too long for a file. crc's table: of each byte its remainder. No condition. crc.New: a sum of nothing. No condition. crc.Sum.Add: more bytes. No condition. crc.Of: the checksum of bytes, as the program reckons it. No condition. vint.Fixed of four bytes; crc.Seal. No condition. A row of bytes that a call owns, or that is a constant's bytes as '[]byte("..")' lays them: full, and marked one place behind its end. Written for this claim by a program of this session (a turned copy of the print): Go functions as Lean functions, and that the Go code comes to just these answers; or a statement proved out of them. No condition. -/
import Derived.Test.YtglmfnaofpbpfaaZ1
import Derived.Test.YtglmfnaofpbpfaaProg
import Derived.WalkKit
import Derived.Below
import Derived.Laws.Rows
import Derived.Deep.MidRow
import Derived.BigQuiet
import Derived.LoopTactic
import Derived.Outline
import Derived.StillTailTactics
import Derived.Deep.QuietTactic
import Derived.WalkMore
import Derived.OwnWalk
import Derived.ArgAppend
import Derived.Lib.SlBytesConst
import Derived.Deep.Draws
import Derived.Deep.AppendLies
import Derived.Maps.AppendAt
import Derived.Laws.BytesArg
import Derived.Laws.MakeOwn
import Derived.Laws.OwnMore
import Derived.Deep.OwnRows
import Derived.Tactics
import Derived.Lib.ConvBytes
import Derived.Laws.Slices
import Derived.KernelRfl
import Derived.RowKit3
import Derived.Deep.LoopGhost
import Derived.WideLaws
import Derived.Deep.DeepCutAuto
import Derived.Deep.CutBlock
import Derived.Deep.RegionHeld3
import Derived.Lib.AppendStr
import Derived.Laws.IdiomCopy
import Derived.OrdersHeld
import Derived.Laws.BitsLemmas
import Derived.RowKit
import Derived.Lib.LazyBuf

namespace Go.Proofs.Ytglmfnaofpbpfaa.X
set_option linter.unusedVariables false
open Go Go.RowKit Go.Proofs.YtglmfnaofpbpfaaW.PrintWords
abbrev bN := @blk_drewN
abbrev bD := @blk_drew
abbrev bA := @blk_alloc
abbrev AM := @Aside0.mk
theorem sT {α : Type} (l : List α) (i : Nat) (a : α) : l.toArray.setIfInBounds i a = (l.set i a).toArray := List.setIfInBounds_toArray ..
theorem sZ {α : Type} (b : α) (l : List α) (a : α) : (b :: l).set 0 a = a :: l := List.set_cons_zero
theorem sS {α : Type} (b : α) (l : List α) (n : Nat) (a : α) : (b :: l).set (n + 1) a = b :: l.set n a := List.set_cons_succ
/-- A block's holding, further on: nothing that came to pass has touched it. -/
theorem bK {w0 w : World} {g : Nat} {o : Obj} (b : Aside0 (w0.heap[g]? = some o)) (h : w0.heap[g]? = some o → w.heap[g]? = some o := by intro h; (repeat (first | (with_reducible first | refine blk_drewN ?_ _ | refine blk_drew ?_ | refine blk_alloc ?_ _) | refine blk_far ?_ (Aside0.out (by assumption)) _)); exact h) : w.heap[g]? = some o := h b.out
/-- What lay below at the start is still as it was. -/
theorem bH {w w0 w1 : World} (b : Aside0 (Below w.heap.size w w0)) (h : Below w.heap.size w w0 → Below w.heap.size w w1 := by intro h; repeat (first | (with_reducible first | exact h | apply below_alloc | apply pw_below_drewN | apply below_drew1 | refine below_set ?_ (Aside0.out (by assumption))) | exact h)) : Below w.heap.size w w1 := h b.out
/-- What a slice reads, further on. -/
theorem rK {α : Type} {d : Kd α} {e base : Nat} {ok : Nat → Prop} {w0 w : World} {v : Value} {xs : List α} (b : Aside0 (Kd.R d e w0 base ok v xs)) (h : Kd.R d e w0 base ok v xs → Kd.R d e w base ok v xs := by intro h; (with_reducible repeat (first | apply Kd.R_alloc | apply Kd.R_drewN | apply Kd.R_drew)); exact h) : Kd.R d e w base ok v xs := h b.out
end Go.Proofs.Ytglmfnaofpbpfaa.X

namespace Go.Proofs.Ytglmfnaofpbpfaa.C
set_option linter.unusedVariables false
set_option linter.unusedSimpArgs false
open Go.RowKit

def step (r : Int) : Int := Go.bits .xor .u32 (r / 2) (Go.bits .and .u32 3988292384 (-Go.bits .and .u32 r 1 % 4294967296))
def stepN : Nat → Int → Int
 | 0, r => r
 | n + 1, r => step (stepN n r)
def tabV (k : Nat) : Int := stepN 8 (k : Int)
def arr (k : Nat) : Array Value := ((List.range 256).map fun j => Value.int .u32 (if j < k then tabV j else 0)).toArray
theorem arr_size (k : Nat) : (arr k).size = 256 := by unfold arr; simp
theorem arr_get (k j : Nat) (h : j < 256) : (arr k)[j]? = some (.int .u32 (if j < k then tabV j else 0)) := by
  unfold arr
  simp [h]
theorem arr_zero : arr 0 = Array.replicate 256 (.int .u32 0) := by
  apply Array.ext_getElem?
  intro j
  by_cases hj : j < 256
  · rw [arr_get 0 j hj]; simp [hj]
  · rw [Array.getElem?_eq_none (by rw [arr_size]; omega), Array.getElem?_eq_none (by simp; omega)]
theorem arr_set (k : Nat) (h : k < 256) : (arr k).setIfInBounds k (.int .u32 (tabV k)) = arr (k + 1) := by
  apply Array.ext_getElem?
  intro j
  by_cases hj : j < 256
  · rw [arr_get _ j hj]
    by_cases he : k = j
    · subst he
      rw [Array.getElem?_setIfInBounds_self_of_lt (by rw [arr_size]; exact h), if_pos (by omega)]
    · rw [Array.getElem?_setIfInBounds_ne he, arr_get _ j hj]
      by_cases hl : j < k
      · rw [if_pos hl, if_pos (by omega)]
      · rw [if_neg hl, if_neg (by omega)]
  · rw [Array.getElem?_eq_none (by rw [Array.size_setIfInBounds, arr_size]; omega), Array.getElem?_eq_none (by rw [arr_size]; omega)]
theorem run_zero (w : World) : (zeroValue 80).run Try.prog w = .ok (.agg (Array.replicate 256 (.int .u32 0))) w := by
  kernel_rfl
theorem u46 : Try.prog.underlying 80 = some (.array 256 70) := by kernel_rfl
theorem i46 : (Try.prog.info? 80).map (·.size) = some 256 := by kernel_rfl
theorem arr_one (k : Nat) : (arr k).all (·.oneCell') = true := by
  unfold arr
  refine all_oneCell_toArray fun v hv => ?_
  obtain ⟨j, _, rfl⟩ := List.mem_map.1 hv
  rfl
theorem setCell_self (w : World) (b o : Nat) (v : Value) (c : Array Value) (t : TypeId) (fr : Nat × Nat) (hg : w.heap[b]? = some (.cells c t fr)) (hv : c[o]? = some v) : w.setCell ⟨b, o, none⟩ v = w := by
  have e : (w.setCell ⟨b, o, none⟩ v).heap = w.heap := by
    unfold World.setCell
    simp only
    apply Array.ext_getElem?
    intro j
    rw [Array.getElem?_modify]
    by_cases hj : b = j
    · subst hj
      rw [if_pos rfl, hg]
      have h2 : c.setIfInBounds o v = c := by
        apply Array.ext_getElem?
        intro i
        by_cases hi : o = i
        · subst hi
          rw [Array.getElem?_setIfInBounds_self_of_lt (Array.getElem?_eq_some_iff.1 hv).1, hv]
        · rw [Array.getElem?_setIfInBounds_ne hi]
      simp [h2]
    · rw [if_neg hj]
  cases w
  simp only [World.setCell] at e ⊢
  rw [e]
theorem setCells_self (b : Nat) (c : Array Value) (t : TypeId) (fr : Nat × Nat) : ∀ (vs : List Value) (o : Nat) (w : World), w.heap[b]? = some (.cells c t fr) → (∀ j v, vs[j]? = some v → c[o + j]? = some v) → w.setCells b o vs = w := by
  intro vs
  induction vs with
  | nil => intro o w _ _; rfl
  | cons v r ih =>
    intro o w hg hv
    unfold World.setCells
    rw [setCell_self w b o v c t fr hg (hv 0 v rfl)]
    exact ih (o + 1) w hg (fun j u hu => by have := hv (j + 1) u hu; rw [show o + (j + 1) = o + 1 + j by omega] at this; exact this)
set_option maxHeartbeats 8000000 in
set_option maxRecDepth 100000 in
theorem table_calls (w : World) : Calls Try.prog 42 #[] w fun e w' => e = .returned (.agg (arr 256)) ∧ w' = w.alloc (.cells (arr 256) 80) := by
  have ha := run_zero
  go_enter Try.func42, Try.ntmps42
  go_wp2
  go_loopw [1, 2, 3, 4, 5, 6, 7, 8] (fun _ _ i _ _ _ _ _ wr => ∃ k : Nat, k ≤ 256 ∧ i = .int .i64 k ∧ wr = w.alloc (.cells (arr k) 80)) (fun _ _ i _ _ _ _ _ _ => 256 - (intOf i).toNat)
  case atStart => exact ⟨0, by omega, rfl, by rw [arr_zero]⟩
  case round =>
    obtain ⟨k, hk, rfl, rfl⟩ := hrel
    rcases Nat.lt_or_ge k 256 with hlt | hge
    · have hki : (k : Int) < 256 := by omega
      have hak := arr_get k k hlt
      have hsz := arr_size k
      go_wp2
      obtain ⟨wo, hwo⟩ : ∃ wo : World, wo = w.alloc (.cells (arr k) 80) := ⟨_, rfl⟩
      rw [← hwo]
      go_loopw [2, 8] (fun r c wr => ∃ m : Nat, m ≤ 8 ∧ c = .int .i64 m ∧ r = .int .u32 (stepN m k) ∧ wr = wo) (fun _ c _ => 8 - (intOf c).toNat)
      case atStart => exact ⟨0, by omega, rfl, rfl, rfl⟩
      case round =>
        obtain ⟨m, hm, rfl, rfl, rfl⟩ := hrel
        rcases Nat.lt_or_ge m 8 with hm8 | hm8
        · have hmi : (m : Int) < 8 := by omega
          go_wp2
          go_roundw
          case rel => exact ⟨m + 1, by omega, rfl, rfl, hwo.symm⟩
          case measure => simp [intOf]; omega
        · have hmi : 8 ≤ (m : Int) := by omega
          have em : m = 8 := by omega
          subst em
          subst hwo
          go_wp2
          go_roundw
          case rel =>
            refine ⟨k + 1, by omega, rfl, ?_⟩
            rw [← arr_set k hlt]
            rfl
          case measure => simp [intOf]; omega
    · have hki : 256 ≤ (k : Int) := by omega
      have ek : k = 256 := by omega
      subst ek
      go_wp2
      refine wp_load_row 80 (.tmp 0) rfl w.heap.size rfl 80 (arr 256) (0, 0) _ (heap_alloc_new w _) u46 rfl (by rw [i46, arr_size]) ?_
      have hst : (storeCells ⟨w.heap.size, 0, none⟩ (arr 256).toList).run Try.prog (w.alloc (.cells (arr 256) 80)) = .ok () (w.alloc (.cells (arr 256) 80)) := by
        have h := run_storeCells_cells (P := Try.prog) w.heap.size 0 (arr 256).toList 0 (w.alloc (.cells (arr 256) 80)) (fun j hj => by rw [Array.length_toList, arr_size] at hj; simp [arr_get, hj, World.cell?_alloc_at]) (fun j hj => by rw [Array.length_toList, arr_size] at hj; simp [World.frozen?_alloc_at]) (fun v hv => (Array.all_eq_true_iff_forall_mem.1 (arr_one 256)) v (by simpa using hv))
        rw [setCells_self w.heap.size (arr 256) 80 (0, 0) _ _ _ (heap_alloc_new w _) (fun j v h => by simpa using h)] at h
        exact h
      go_wp2
      refine bodyPost_ret_by (v := .agg (arr 256)) ?hr rfl ⟨rfl, rfl⟩
      case hr => exact results_cell_row (fn := Try.f42) (p := 0) (ty := 80) rfl _ _ w.heap.size 80 (arr 256) (0, 0) _ rfl (heap_alloc_new w _) u46 rfl (by rw [i46, arr_size])
end Go.Proofs.Ytglmfnaofpbpfaa.C

namespace Go.Proofs.Ytglmfnaofpbpfaa.C
set_option linter.unusedVariables false
set_option linter.unusedSimpArgs false
open Go.RowKit

def sumC (r n : Int) : Array Value := arr 256 ++ #[.int .u32 r, .int .i64 n]
theorem run_zero49 (w : World) : (zeroValue 83).run Try.prog w = .ok (.agg (Array.replicate 256 (.int .u32 0) ++ #[.int .u32 0, .int .i64 0])) w := by
  kernel_rfl
theorem fold_eq : (Array.foldl (fun (cs : Array Value) (x : Value × Nat) => cs.setIfInBounds x.snd x.fst)
                  (Array.replicate 256 (Value.int IntKind.u32 0) ++ #[Value.int IntKind.u32 0, Value.int IntKind.i64 0])
                  (arr 256).zipIdx 0 (arr 256).size).setIfInBounds
              256 (Value.int IntKind.u32 4294967295) = sumC 4294967295 0 := by
  kernel_rfl
set_option maxHeartbeats 8000000 in
set_option maxRecDepth 100000 in
theorem new_calls (w : World) : Calls Try.prog 38 #[] w fun e w' => e = .returned (.pointer (some ⟨w.heap.size + 1, 0, none⟩)) ∧ w' = (w.alloc (.cells (arr 256) 80)).alloc (.cells (sumC 4294967295 0) 83) := by
  have ha := run_zero49
  go_enter Try.func38, Try.ntmps38
  go_wp2_with (go_at_call 42; refine (table_calls _).mono ?_; rintro e w1 ⟨rfl, rfl⟩)
  go_ret
  rw [fold_eq]
  exact ⟨rfl, rfl⟩
end Go.Proofs.Ytglmfnaofpbpfaa.C

namespace Go.Proofs.Ytglmfnaofpbpfaa.C
set_option linter.unusedVariables false
set_option linter.unusedSimpArgs false
open Go.RowKit Go.Proofs.YtglmfnaofpbpfaaW.PrintWords

def idx (r c : Int) : Int := Go.bits .xor .u8 (IntKind.u8.wrap r) c
def add1 (r c : Int) : Int := Go.bits .xor .u32 (r / 256) (tabV (idx r c).toNat)
def addV (l : List Int) (r : Int) : Int := l.foldl add1 r
theorem sumC_get (r n : Int) (j : Nat) (h : j < 256) : (sumC r n)[j]? = some (.int .u32 (tabV j)) := by
  unfold sumC
  rw [Array.getElem?_append_left (by rw [arr_size]; exact h), arr_get 256 j h, if_pos h]
theorem sumC_r (r n : Int) : (sumC r n)[256]? = some (.int .u32 r) := by
  unfold sumC
  rw [Array.getElem?_append_right (by rw [arr_size]; omega), arr_size]; rfl
theorem sumC_n (r n : Int) : (sumC r n)[257]? = some (.int .i64 n) := by
  unfold sumC
  rw [Array.getElem?_append_right (by rw [arr_size]; omega), arr_size]; rfl
theorem sumC_setr (r n r' : Int) : (sumC r n).setIfInBounds 256 (.int .u32 r') = sumC r' n := by
  have h := arr_size 256
  unfold sumC
  generalize arr 256 = X at h ⊢
  apply Array.ext'
  have h' : X.toList.length = 256 := by simpa using h
  simp [List.set_append, h', h]
theorem sumC_setn (r n n' : Int) : (sumC r n).setIfInBounds 257 (.int .i64 n') = sumC r n' := by
  have h := arr_size 256
  unfold sumC
  generalize arr 256 = X at h ⊢
  apply Array.ext'
  have h' : X.toList.length = 256 := by simpa using h
  simp [List.set_append, h', h]
theorem addV_take (l : List Int) (r : Int) (k : Nat) (h : k < l.length) : addV (l.take (k + 1)) r = add1 (addV (l.take k) r) (l.getD k 0) := by
  unfold addV
  rw [List.take_succ_eq_append_getElem h, List.foldl_append]
  simp [h]
theorem idx_range (r c : Int) : 0 ≤ idx r c ∧ idx r c < 256 := by
  unfold idx Go.bits
  simp only [IntKind.wrap, IntKind.signed, IntKind.bits]
  constructor <;> simp <;> omega
set_option maxHeartbeats 8000000 in
set_option maxRecDepth 100000 in
theorem add_calls (B : Nat) (A : Option Addr) (c : Nat) (l : List Int) (r n : Int) (w0 w : World) (hb : Below w0.heap.size w0 w) (hB : w0.heap.size ≤ B) (hs : w.heap[B]? = some (.cells (sumC r n) 83 (0, 0)))
    (hr : Kd.C (Kd.int .u8) w0 A l.length l) : Calls Try.prog 39 #[.pointer (some ⟨B, 0, none⟩), .slice A l.length c] w fun e w' => e = .returned (.tuple #[]) ∧ Below w0.heap.size w0 w' ∧ w'.heap[B]? = some (.cells (sumC (addV l r) (wrap64 (n + l.length))) 83 (0, 0)) := by
  have hl : l.length ≤ 9223372036854775807 := hr.2.1
  go_enter Try.func39, Try.ntmps39
  go_wp2
  go_loopw [5, 10] (fun _ i wr => ∃ k : Nat, k ≤ l.length ∧ i = .int .i64 k ∧ Below w0.heap.size w0 wr ∧ wr.heap[B]? = some (.cells (sumC (addV (l.take k) r) n) 83 (0, 0))) (fun _ i _ => l.length - (intOf i).toNat)
  case atStart => exact ⟨0, by omega, rfl, hb, hs⟩
  case round =>
    obtain ⟨k, hk, rfl, hbk, hsk⟩ := hrel
    rcases Nat.lt_or_ge k l.length with hlt | hge
    · have hki : (k : Int) < (l.length : Int) := by omega
      obtain ⟨ad, cs, hA, _, hx, hc⟩ := Kd.C_get hr 0 (k : Int) (by omega) hki
      subst hA
      have hx' : cs = [Value.int .u8 (l.getD k 0)] := hx
      subst hx'
      have hc0 := hc 0 _ rfl
      have e0 : (Int.toNat (k : Int)) * (Kd.int IntKind.u8).sz + 0 = k := by
        have : (Kd.int IntKind.u8).sz = 1 := rfl
        rw [this]; omega
      rw [e0] at hc0
      have hcell : wr.cell? (ad.add k) = some (.int .u8 (l.getD k 0)) := (hbk.cell (World.block_lt_of_cell? w0 _ hc0)).trans hc0
      obtain ⟨x, hx⟩ : ∃ x, l.getD k 0 = x := ⟨_, rfl⟩
      obtain ⟨rr, hrr⟩ : ∃ x, addV (l.take k) r = x := ⟨_, rfl⟩
      rw [hx] at hcell
      rw [hrr] at hsk
      have hid := idx_range rr x
      have h0 : wr.cell? ⟨B, 256, none⟩ = some (.int .u32 rr) := (cell_of_row wr B 256 _ 83 (0, 0) hsk).trans (sumC_r rr n)
      have h1 : wr.cell? ⟨B, (Go.bits .xor .u8 (IntKind.u8.wrap rr) x).toNat, none⟩ = some (.int .u32 (tabV (idx rr x).toNat)) := (cell_of_row wr B _ _ 83 (0, 0) hsk).trans (sumC_get rr n _ (by have h1 := hid.1; have h2 := hid.2; unfold idx at h1 h2; omega))
      have hi0 : (0 : Int) ≤ Go.bits .xor .u8 (IntKind.u8.wrap rr) x := hid.1
      have hi1 : Go.bits .xor .u8 (IntKind.u8.wrap rr) x < 256 := hid.2
      have hf : wr.frozen? ⟨B, 256, none⟩ = false := frozen_of_row wr B 256 _ 83 hsk
      have hstep : addV (l.take (k + 1)) r = add1 rr x := by rw [addV_take l r k hlt, hrr, hx]
      clear hx hc0 hc e0 hid
      go_wp2
      go_still_tail 21, (by kernel_rfl)
      change wpList _ _ _ _ _ wr.drew
      have h0' : wr.drew.cell? ⟨B, 256, none⟩ = some (.int .u32 rr) := h0
      have hf' : wr.drew.frozen? ⟨B, 256, none⟩ = false := hf
      have hhd : wr.drew.heap[B]? = some (.cells (sumC rr n) 83 (0, 0)) := hsk
      have hbd : Below w0.heap.size w0 wr.drew := hbk.drew
      generalize wr.drew = wd at h0' hf' hhd hbd ⊢
      clear h0 h1 hf hi0 hi1 hcell hsk hbk
      go_wp2
      go_roundw
      case rel =>
        refine ⟨k + 1, by omega, rfl, hbd.setCell hB _, ?_⟩
        rw [heap_setCell_same wd B 256 _ 83 _ hhd, sumC_setr, hstep]
        rfl
      case measure => simp [intOf]; omega
    · have ek : k = l.length := by omega
      subst ek
      rw [List.take_length] at hsk
      have h0 : wr.cell? ⟨B, 257, none⟩ = some (.int .i64 n) := (cell_of_row wr B 257 _ 83 (0, 0) hsk).trans (sumC_n _ n)
      have hf : wr.frozen? ⟨B, 257, none⟩ = false := frozen_of_row wr B 257 _ 83 hsk
      have hge' : ¬ ((l.length : Int) < (l.length : Int)) := by omega
      go_wp2
      refine ⟨rfl, .tuple #[], by unfold results; simp [show Try.f39.results = #[] from rfl]; try rfl, rfl, hbk.setCell hB _, ?_⟩
      rw [heap_setCell_same wr B 257 _ 83 _ hsk, sumC_setn]
end Go.Proofs.Ytglmfnaofpbpfaa.C

namespace Go.Proofs.Ytglmfnaofpbpfaa.C
set_option linter.unusedVariables false
set_option linter.unusedSimpArgs false
open Go.RowKit Go.Proofs.YtglmfnaofpbpfaaW.PrintWords

def not32 (r : Int) : Int := Go.bits .xor .u32 IntKind.u32.max r
def allV (ls : List (List Int)) (r : Int) : Int := ls.foldl (fun r l => addV l r) r
def ofV (ls : List (List Int)) : Int := not32 (allV ls 4294967295)
set_option maxHeartbeats 8000000 in
set_option maxRecDepth 100000 in
theorem sum_calls (B : Nat) (r n : Int) (w : World) (hs : w.heap[B]? = some (.cells (sumC r n) 83 (0, 0))) : Calls Try.prog 40 #[.pointer (some ⟨B, 0, none⟩)] w fun e w' => e = .returned (.int .u32 (not32 r)) ∧ w' = w := by
  have h0 : w.cell? ⟨B, 256, none⟩ = some (.int .u32 r) := (cell_of_row w B 256 _ 83 (0, 0) hs).trans (sumC_r r n)
  go_enter Try.func40, Try.ntmps40
  go_wp2
  go_ret
  exact ⟨rfl, rfl⟩
set_option maxHeartbeats 8000000 in
theorem sum_nil (w : World) : Calls Try.prog 40 #[.pointer none] w fun e w' => e = .returned (.int .u32 0) ∧ w' = w := by
  go_enter Try.func40, Try.ntmps40
  go_wp2
  go_ret
  exact ⟨rfl, rfl⟩
set_option maxHeartbeats 8000000 in
theorem add_nil (v : Value) (w : World) : Calls Try.prog 39 #[.pointer none, v] w fun e w' => e = .returned (.tuple #[]) ∧ w' = w := by
  go_enter Try.func39, Try.ntmps39
  go_wp2
  refine bodyPost_ret (results_none rfl _ _ _) rfl ?_
  exact ⟨rfl, rfl⟩
theorem allV_take (ls : List (List Int)) (r : Int) (k : Nat) (h : k < ls.length) : allV (ls.take (k + 1)) r = addV (ls.getD k []) (allV (ls.take k) r) := by
  unfold allV
  rw [List.take_succ_eq_append_getElem h, List.foldl_append]
  simp [h]
set_option maxHeartbeats 8000000 in
set_option maxRecDepth 100000 in
theorem of_calls (A : Option Addr) (c : Nat) (ls : List (List Int)) (w : World) (hr : Kd.C (Kd.slice 5 (Kd.int .u8)) w A ls.length ls) :
    Calls Try.prog 35 #[.slice A ls.length c] w fun e w' => e = .returned (.int .u32 (ofV ls)) ∧ Below w.heap.size w w' := by
  have hl : ls.length ≤ 9223372036854775807 := hr.2.1
  go_enter Try.func35, Try.ntmps35
  go_wp2
  go_step3
  go_wp2_with (go_at_call 38; refine (new_calls _).mono ?_; rintro e w1 ⟨rfl, rfl⟩)
  have hs1 : ((w.alloc (.cells (arr 256) 80)).alloc (.cells (sumC 4294967295 0) 83)).heap[w.heap.size + 1]? = some (.cells (sumC 4294967295 0) 83 (0, 0)) := heap_alloc2_new w _ _
  have hb1 : Below w.heap.size w ((w.alloc (.cells (arr 256) 80)).alloc (.cells (sumC 4294967295 0) 83)) := ((Below.refl _ w).alloc (Nat.le_refl _) _).alloc (by simp) _
  generalize (w.alloc (.cells (arr 256) 80)).alloc (.cells (sumC 4294967295 0) 83) = w1 at hs1 hb1 ⊢
  have hB : w.heap.size ≤ w.heap.size + 1 := by omega
  generalize w.heap.size + 1 = B at hs1 hB ⊢
  go_step3
  go_wp2
  go_loopw [5, 9] (fun _ i wr => ∃ k : Nat, k ≤ ls.length ∧ i = .int .i64 k ∧ Below w.heap.size w wr ∧ ∃ n, wr.heap[B]? = some (.cells (sumC (allV (ls.take k) 4294967295) n) 83 (0, 0))) (fun _ i _ => ls.length - (intOf i).toNat)
  case atStart => exact ⟨0, by omega, rfl, hb1, 0, hs1⟩
  case round =>
    obtain ⟨k, hk, rfl, hbk, n, hsk⟩ := hrel
    rcases Nat.lt_or_ge k ls.length with hlt | hge
    · have hki : (k : Int) < (ls.length : Int) := by omega
      obtain ⟨ad, cs, hA, _, hx, hc⟩ := Kd.C_get hr [] (k : Int) (by omega) hki
      subst hA
      obtain ⟨A1, c1, e1, hc1, hr1⟩ := hx
      subst e1
      have hc0 := hc 0 _ rfl
      have e0 : (Int.toNat (k : Int)) * (Kd.slice 5 (Kd.int IntKind.u8)).sz + 0 = k := by
        have : (Kd.slice 5 (Kd.int IntKind.u8)).sz = 1 := rfl
        rw [this]; omega
      rw [e0] at hc0
      rw [show (Int.toNat (k : Int)) = k by omega] at hc0 hr1 hc1
      have hcell : wr.cell? (ad.add k) = some (.slice A1 (ls.getD k []).length c1) := (hbk.cell (World.block_lt_of_cell? w _ hc0)).trans hc0
      have hstep := allV_take ls 4294967295 k hlt
      obtain ⟨x, hx⟩ : ∃ x, ls.getD k [] = x := ⟨_, rfl⟩
      obtain ⟨rr, hrr⟩ : ∃ x, allV (ls.take k) 4294967295 = x := ⟨_, rfl⟩
      rw [hx] at hcell hr1 hc1 hstep
      rw [hrr] at hsk hstep
      clear hc0 hc e0 hx hrr
      by_cases h0 : x.length = 0
      · have h0' : (x.length : Int) = 0 := by omega
        go_wp2
        go_roundw
        case rel =>
          refine ⟨k + 1, by omega, rfl, hbk, n, ?_⟩
          rw [hstep, List.length_eq_zero_iff.1 h0]
          exact hsk
        case measure => simp [intOf]; omega
      · have h0' : ¬ (x.length : Int) = 0 := by omega
        go_wp2_with (go_at_call 39; refine (add_calls B A1 c1 x rr n w wr hbk hB hsk hr1).mono ?_; rintro e w2 ⟨rfl, hb2, hs2⟩)
        go_roundw
        case rel =>
          refine ⟨k + 1, by omega, rfl, hb2, wrap64 (n + x.length), ?_⟩
          rw [hstep]
          exact hs2
        case measure => simp [intOf]; omega
    · have ek : k = ls.length := by omega
      subst ek
      rw [List.take_length] at hsk
      go_wp2_with (go_at_call 40; refine (sum_calls B _ n wr hsk).mono ?_; rintro e w2 ⟨rfl, rfl⟩)
      rw [Exit.noGoto_ret]
      go_ret
      exact ⟨rfl, hbk⟩
end Go.Proofs.Ytglmfnaofpbpfaa.C

namespace Go.Proofs.Ytglmfnaofpbpfaa.C
set_option linter.unusedVariables false
set_option linter.unusedSimpArgs false
open Go.RowKit Go.Proofs.YtglmfnaofpbpfaaW.PrintWords

theorem inf5 : (Try.prog.info? 5).map (fun i => (i.zero, i.size, i.bytes)) = some (some (.int .u8 0), 1, 1) := by kernel_rfl
def fixL (n k : Nat) : List Int := (List.range k).map fun i => ((n / 2 ^ (8 * i) % 256 : Nat) : Int)
theorem fixL_snoc (n k : Nat) : fixL n (k + 1) = fixL n k ++ [((n / 2 ^ (8 * k) % 256 : Nat) : Int)] := by unfold fixL; rw [List.range_succ, List.map_append]; rfl
set_option maxHeartbeats 8000000 in
set_option maxRecDepth 100000 in
theorem fixed_calls (n : Nat) (hn : n < 4294967296) (w : World) : Calls Try.prog 37 #[.int .u64 n, .int .i64 4] w fun e w' => ∃ v, e = .returned (.tuple #[v, .int .i64 0]) ∧ Kd.R (Kd.int .u8) 5 w' w.heap.size (fun _ => True) v (fixL n 4) ∧ Below w.heap.size w w' := by
  go_enter Try.func37, Try.ntmps37
  go_wp2
  go_loopw [6, 26] (fun out i wr => ∃ k : Nat, k ≤ 4 ∧ i = .int .i64 k ∧ Kd.R (Kd.int .u8) 5 wr w.heap.size (fun _ => True) out (fixL n k) ∧ Below w.heap.size w wr) (fun _ i _ => 4 - (intOf i).toNat)
  case atStart => exact ⟨0, by omega, rfl, Kd.R_nil _ _ _ _ _, Below.refl _ _⟩
  case round =>
    obtain ⟨k, hk, rfl, hown, hb⟩ := hrel
    have hlen : (fixL n k).length = k := by unfold fixL; simp
    obtain ⟨Ao, co, eo⟩ := Kd.R_slice hown
    subst eo
    rcases Nat.lt_or_ge k 4 with hlt | hge
    · have hki : (k : Int) < 4 := by omega
      obtain ⟨X, hX⟩ : ∃ X : Int, X = ((n / 2 ^ (8 * k) % 256 : Nat) : Int) := ⟨_, rfl⟩
      have hs := fixL_snoc n k
      rw [← hX] at hs
      have hx : X = (n : Int) / 2 ^ (8 * k) % 256 := by rw [hX]; simp
      clear hX
      generalize fixL n k = l at *
      generalize hl' : fixL n (k + 1) = l' at *
      obtain rfl | rfl | rfl | rfl : k = 0 ∨ k = 1 ∨ k = 2 ∨ k = 3 := by omega
      all_goals simp only [Nat.mul_zero, Int.pow_zero, Int.ediv_one, Nat.mul_one, Int.reducePow, Nat.reduceMul] at hx
      all_goals (try (have hx3 : X = (n : Int) / 16777216 := by omega))
      all_goals go_wp2_with (first | ((with_reducible refine gate_builtin (b := .append) (xs := #[.tmp 29, .tmp 35]) rfl ?_); at_builtin; (first | rw [← hx] | rw [← hx3]); refine Kd.R_append (Kd.int .u8) (w0 := w) w.heap.size rfl (.tmp 29) (.tmp 35) 22 5 (.int .u8 0) 1 rfl Try.underlying22 inf5 rfl (by decide) (by omega) (.slice Ao l.length co) l X [.int .u8 X] (fun _ => True) (fun _ => False) rfl rfl ?aP (fun _ hk => hk.elim) ?aF ?aO ?aB ?aS ?aL ?_; (case aP => exact rfl); (case aF => exact (fun _ _ => trivial)); (case aO => exact hown); (case aB => exact hb); (case aS => exact (below_size hb)); (case aL => omega); intro v1 w1 ho hb1 hg hat; rw [← hs] at ho; clear hg hat hown hb))
      all_goals go_roundw
      all_goals first
        | (case rel => subst hl'; first | exact ⟨1, by omega, rfl, ho, hb1⟩ | exact ⟨2, by omega, rfl, ho, hb1⟩ | exact ⟨3, by omega, rfl, ho, hb1⟩ | exact ⟨4, by omega, rfl, ho, hb1⟩)
        | (case measure => simp [intOf])
    · have ek : k = 4 := by omega
      subst ek
      go_wp2
      go_ret2
      exact ⟨_, rfl, hown, hb⟩
theorem C_row1 (w : World) (g : Nat) (A : Option Addr) (ca : Nat) (xs : List Int) (cs : Array Value) (t : TypeId) (fr : Nat × Nat) (hg : w.heap[g]? = some (.cells cs t fr)) (hc : cs = #[.slice A xs.length ca])
    (ha : Kd.C (Kd.int .u8) w A xs.length xs) (hca : xs.length ≤ ca) : Kd.C (Kd.slice 5 (Kd.int .u8)) w (some ⟨g, 0, none⟩) 1 [xs] := by
  refine ⟨rfl, by simp, fun _ => ⟨⟨g, 0, none⟩, rfl, fun j p hp => ?_⟩⟩
  have e : (Addr.add ⟨g, 0, none⟩ (0 * (Kd.slice 5 (Kd.int IntKind.u8)).sz + 0)) = ⟨g, 0, none⟩ := by
    have : (Kd.slice 5 (Kd.int IntKind.u8)).sz = 1 := rfl
    rw [this, Addr.add_mid]
  match j, hp with
  | 0, hp =>
    obtain rfl : xs = p := by simpa using hp
    refine ⟨[.slice A xs.length ca], rfl, ⟨A, ca, rfl, hca, ha⟩, fun i u hu => ?_⟩
    cases i with
    | zero =>
      obtain rfl : Value.slice A xs.length ca = u := by simpa using hu
      rw [e, cell_of_row w g 0 cs t fr hg, hc]; rfl
    | succ i => simp at hu
  | j + 1, hp => simp at hp
theorem bits32_range (op : BinOp) (a b : Int) : 0 ≤ Go.bits op .u32 a b ∧ Go.bits op .u32 a b < 4294967296 := by
  unfold Go.bits
  simp only [IntKind.wrap, IntKind.signed, IntKind.bits]
  constructor <;> simp <;> omega
theorem ofV_nat (ls : List (List Int)) : ∃ n : Nat, ofV ls = (n : Int) ∧ n < 4294967296 := by
  have := bits32_range .xor IntKind.u32.max (allV ls 4294967295)
  refine ⟨(ofV ls).toNat, ?_, ?_⟩ <;> unfold ofV not32 <;> omega
theorem C_cells {w : World} {ad : Addr} {n : Nat} {xs : List Int} (h : Kd.C (Kd.int .u8) w (some ad) n xs) : ∀ j u, (xs.map (Value.int .u8))[j]? = some u → w.cell? (ad.add j) = some u := by
  intro j u hu
  rw [List.getElem?_map] at hu
  cases hx : xs[j]? with
  | none => rw [hx] at hu; cases hu
  | some p =>
    rw [hx] at hu
    obtain rfl : Value.int .u8 p = u := by simpa using hu
    have hlt : j < xs.length := (List.getElem?_eq_some_iff.1 hx).1
    obtain ⟨ad', e, hc⟩ := h.2.2 (by have := h.1; omega)
    injection e with e
    subst e
    obtain ⟨cs, _, hk, hcs⟩ := hc j p hx
    have hk' : cs = [Value.int .u8 p] := hk
    subst hk'
    have := hcs 0 _ rfl
    have hsz : (Kd.int IntKind.u8).sz = 1 := rfl
    rw [hsz, Nat.mul_one, Nat.add_zero] at this
    exact this
set_option maxHeartbeats 8000000 in
set_option maxRecDepth 100000 in
theorem seal_calls (A : Option Addr) (c : Nat) (l : List Int) (w : World) (hr : Kd.C (Kd.int .u8) w A l.length l) (hc : l.length ≤ c) (hl : l.length + 4 ≤ 140737488355328) : Calls Try.prog 33 #[.slice A l.length c] w fun e w' =>
    ∃ v, e = .returned v ∧ Kd.R (Kd.int .u8) 5 w' w.heap.size (fun _ => True) v (l ++ fixL (ofV [l]).toNat 4) ∧ Below w.heap.size w w' := by
  obtain ⟨n, hn, hn2⟩ := ofV_nat [l]
  have hn1 : (ofV [l]).toNat = n := by rw [hn]; rfl
  rw [hn1]
  obtain ⟨i0, hi, hz0, hz1, hz2⟩ := info_parts inf5
  have g1 : (w.alloc (.cells #[.slice A l.length c] 22)).heap[w.heap.size]? = some (.cells #[.slice A l.length c] 22 (0, 0)) := heap_alloc_new w _
  have hK := C_row1 (w.alloc (.cells #[.slice A l.length c] 22)) w.heap.size A c l _ 22 (0, 0) g1 rfl (Kd.C_alloc hr _) hc
  have hb1 : Below w.heap.size w (w.alloc (.cells #[.slice A l.length c] 22)) := (Below.refl _ w).alloc (Nat.le_refl _) _
  have h4 : (fixL n 4).length = 4 := by unfold fixL; simp
  have hnil : A = none → l.length = 0 := by
    intro hA
    by_cases h0 : l.length = 0
    · exact h0
    · obtain ⟨ad, e, _⟩ := hr.2.2 (by omega)
      rw [hA] at e; cases e
  cases A with
  | none =>
    have h0 := hnil rfl
    obtain rfl := List.length_eq_zero_iff.1 h0
    go_enter Try.func33, Try.ntmps33
    go_wp2_with (first | (go_at_call 35; refine (of_calls _ 1 [[]] _ hK).mono ?_; rintro e w2 ⟨he, hb2⟩; rw [hn] at he; subst he) | (go_at_call 37; refine (fixed_calls n hn2 _).mono ?_; rintro e w3 ⟨v3, rfl, ho3, hb3⟩; have hb4 := below_step (below_step hb1 hb2) hb3; obtain ⟨A3, c3, e3⟩ := Kd.R_slice ho3; subst e3; have hC3 := (Kd.R_reads' ho3).2.2; obtain ⟨ad3, e3, _⟩ := hC3.2.2 (by omega); subst e3; have hc3 := C_cells hC3) | (at_builtin; refine wpList_append_grows _ rfl (.tmp 18) (.tmp 19) 22 rfl 5 i0 (.int .u8 0) 1 1 Try.underlying22 hi hz0 hz1 hz2 rfl (by decide) none 0 0 [] rfl (fun _ => ⟨rfl, rfl⟩) (by simp) (fun b e => by cases e) ad3 (fixL n 4).length c3 ((fixL n 4).map (Value.int .u8)) rfl (by simp) hc3 (fun u hu => by obtain ⟨x, _, rfl⟩ := List.mem_map.1 hu; rfl) (by omega) (by unfold maxLen; omega) (by omega) ?_; intro v5 w5 hown5 hgr5))
    go_ret
    refine ⟨v5, rfl, ?_, ?_⟩
    · exact Kd.R_lower (Kd.R_of_own (enc := Value.int .u8) (h1 := fun _ => rfl) (by simpa [encs] using hown5) (fun _ _ => trivial)) (below_size hb4)
    · exact hb4.grown hgr5 (below_size hb4) (fun k h => by cases h)
  | some b0 =>
    go_enter Try.func33, Try.ntmps33
    go_wp2_with (first | (go_at_call 35; refine (of_calls _ 1 [l] _ hK).mono ?_; rintro e w2 ⟨he, hb2⟩; rw [hn] at he; subst he) | (go_at_call 37; refine (fixed_calls n hn2 _).mono ?_; rintro e w3 ⟨v3, rfl, ho3, hb3⟩; have hb4 := below_step (below_step hb1 hb2) hb3; obtain ⟨A3, c3, e3⟩ := Kd.R_slice ho3; subst e3; have hC3 := (Kd.R_reads' ho3).2.2; obtain ⟨ad3, e3, _⟩ := hC3.2.2 (by omega); subst e3; have hc3 := C_cells hC3; have hc0 := C_cells (Kd.C_below hr hb4)) | (at_builtin; refine wpList_append_grows _ rfl (.tmp 18) (.tmp 19) 22 rfl 5 i0 (.int .u8 0) 1 1 Try.underlying22 hi hz0 hz1 hz2 rfl (by decide) (some b0) l.length l.length (l.map (Value.int .u8)) rfl (fun h => by cases h) (by simp) (fun b e => by injection e with e; subst e; exact hc0) ad3 (fixL n 4).length c3 ((fixL n 4).map (Value.int .u8)) rfl (by simp) hc3 (fun u hu => by obtain ⟨x, _, rfl⟩ := List.mem_map.1 hu; rfl) (by omega) (by unfold maxLen; omega) (by omega) ?_; intro v5 w5 hown5 hgr5))
    go_ret
    refine ⟨v5, rfl, ?_, ?_⟩
    · exact Kd.R_lower (Kd.R_of_own (enc := Value.int .u8) (h1 := fun _ => rfl) (by simpa [encs] using hown5) (fun _ _ => trivial)) (below_size hb4)
    · exact hb4.grown hgr5 (below_size hb4) (fun k h => by cases h)
end Go.Proofs.Ytglmfnaofpbpfaa.C

namespace Go.Proofs.Ytglmfnaofpbpfaa.Fz
open Go Go.RowKit Go.Proofs.YtglmfnaofpbpfaaW.PrintWords Go.Proofs.YtglmfnaofpbpfaaW.PrintLast Go.Proofs.YtglmfnaofpbpfaaW.PrintMore
set_option linter.unusedVariables false

def FR (w : World) (base : Nat) (ok : Nat → Prop) (v : Value) (xs : List Int) : Prop :=
  0 < xs.length ∧ xs.length ≤ 1000 ∧ ∃ g, v = .slice (some ⟨g, 0, none⟩) xs.length xs.length ∧ base ≤ g ∧ ok g ∧ w.heap[g]? = some (.cells (xs.map (Value.int .u8)).toArray 5 (xs.length, xs.length + 1))

def RH (w : World) (base : Nat) (ok : Nat → Prop) (v : Value) (xs : List Int) : Prop := (Kd.int .u8).R 5 w base ok v xs ∨ FR w base ok v xs

section
variable {w w1 W : World} {base : Nat} {ok ok' : Nat → Prop} {v u : Value} {xs ys : List Int}
theorem FR_step (h : FR w base ok v xs) (hm : ∀ k, ok k → k < w.heap.size → w1.heap[k]? = w.heap[k]?) : FR w1 base ok v xs := by
  obtain ⟨h0, h1, g, hv, hb, ho, hg⟩ := h
  exact ⟨h0, h1, g, hv, hb, ho, (hm g ho (Array.getElem?_eq_some_iff.1 hg).1).trans hg⟩
theorem FR_mono (h : FR w base ok v xs) (hok : ∀ k, ok k → ok' k) : FR w base ok' v xs := by
  obtain ⟨h0, h1, g, hv, hb, ho, hg⟩ := h
  exact ⟨h0, h1, g, hv, hb, hok g ho, hg⟩
theorem RH_R (h : (Kd.int .u8).R 5 w base ok v xs) : RH w base ok v xs := .inl h
theorem RH_below (h : RH w base ok v xs) (hb : Below w.heap.size w w1) : RH w1 base ok v xs :=
  h.elim (fun h => .inl (Kd.R_below h hb)) (fun h => .inr (FR_step h (fun k _ hk => hb.block k hk)))
theorem RH_alloc (h : RH w base ok v xs) (o : Obj) : RH (w.alloc o) base ok v xs := RH_below h (below_alloc (Below.refl _ _) o)
theorem RH_drewN (h : RH w base ok v xs) (m : Nat) : RH (w.drewN m) base ok v xs := RH_below h (pw_below_drewN (Below.refl _ _) m)
theorem RH_drew (h : RH w base ok v xs) : RH w.drew base ok v xs := RH_below h (below_drew (Below.refl _ _))
theorem RH_mono (h : RH w base ok v xs) (hok : ∀ k, ok k → ok' k) : RH w base ok' v xs := h.elim (fun h => .inl (Kd.R_mono h hok)) (fun h => .inr (FR_mono h hok))
theorem RH_lower {base' : Nat} (h : RH w base ok v xs) (hb : base' ≤ base) : RH w base' ok v xs := h.elim (fun h => .inl (Kd.R_lower h hb)) (fun ⟨h0, h1, g, hv, hbg, ho, hg⟩ => .inr ⟨h0, h1, g, hv, Nat.le_trans hb hbg, ho, hg⟩)
theorem RH_far (h : RH w base ok v xs) {p : Addr} (hok : ∀ k, ok k → k ≠ p.block) (u : Value) : RH (w.setCell p u) base ok v xs :=
  h.elim (fun h => .inl (Kd.R_far h hok u)) (fun h => .inr (FR_step h (fun k ho _ => Below.heap_setCell w p u k (hok k ho))))
theorem FR_type {g t : Nat} {cells : Array Value} {fz : Nat × Nat} (h : FR w base ok v xs) (hb : w.heap[g]? = some (.cells cells t fz)) (ht : 5 ≠ t) : some g ≠ v.ownBlock := by
  obtain ⟨h0, h1, g', rfl, hbg, ho, hg⟩ := h
  intro he
  have : g = g' := by simpa [Value.ownBlock] using he
  subst this
  rw [hg] at hb
  injection hb with hb
  injection hb with _ h2
  exact ht h2
theorem RH_types (h : RH w base ok v xs) {g t : Nat} {cells : Array Value} (hb : w.heap[g]? = some (.cells cells t (0, 0))) (ht : ∀ q, q ∈ (5 : Nat) :: (Kd.int .u8).E → q ≠ t) : RH w base (fun k => ok k ∧ k ≠ g) v xs := by
  rcases h with h | h
  · exact .inl (Kd.R_types h hb ht)
  · have hne := FR_type h hb (ht 5 (List.mem_cons_self))
    obtain ⟨h0, h1, g', rfl, hbg, ho, hg⟩ := h
    exact .inr ⟨h0, h1, g', rfl, hbg, ⟨ho, fun e => hne (by simp [Value.ownBlock, e])⟩, hg⟩
theorem RH_ne (h : RH w base ok v xs) {g t : Nat} {cells : Array Value} (hb : w.heap[g]? = some (.cells cells t (0, 0))) (ht : 5 ≠ t) : some g ≠ v.ownBlock :=
  h.elim (fun h => Kd.R_ne h hb ht) (fun h => FR_type h hb ht)
theorem RH_lt (h : RH w base ok v xs) : ∀ k, v.ownBlock = some k → k < w.heap.size := by
  rcases h with h | ⟨h0, h1, g, rfl, hbg, ho, hg⟩
  · exact Kd.R_lt h
  · intro k hk
    have : g = k := by simpa [Value.ownBlock] using hk
    subst this
    exact (Array.getElem?_eq_some_iff.1 hg).1
theorem RH_base (h : RH w base ok v xs) : ∀ k, v.ownBlock = some k → base ≤ k := by
  rcases h with h | ⟨h0, h1, g, rfl, hbg, ho, hg⟩
  · exact Kd.R_base h
  · intro k hk
    have : g = k := by simpa [Value.ownBlock] using hk
    subst this
    exact hbg
theorem RH_elder' (hu : RH W base ok u xs) (hbase : ∀ k, v.ownBlock = some k → W.heap.size ≤ k) (hb : Below W.heap.size W w1) : RH w1 base (fun k => ok k ∧ some k ≠ v.ownBlock) u xs := by
  rcases hu with h | h
  · exact .inl (Kd.R_elder' h hbase hb)
  · have h2 := FR_step h (fun k _ hk => hb.block k hk)
    obtain ⟨h0, h1, g, rfl, hbg, ho, hg⟩ := h2
    obtain ⟨_, _, g', e, _, _, hg'⟩ := h
    have hgg : g' = g := by injection e with e; injection e with e; injection e with e; exact e.symm
    subst hgg
    refine .inr ⟨h0, h1, g', rfl, hbg, ⟨ho, fun he => ?_⟩, hg⟩
    have := hbase g' he.symm
    have := (Array.getElem?_eq_some_iff.1 hg').1
    omega
theorem RH_slice (h : RH w base ok v xs) : ∃ A c, v = .slice A xs.length c := h.elim Kd.R_slice (fun ⟨_, _, g, hv, _⟩ => ⟨_, _, hv⟩)
end

section
variable {P : Program} {ops : Array Oper} {rest : List Oper} {o : Oper} {a : Act} {Q : Exit → Act → World → Prop} {w0 W : World}
theorem FR_cells {base : Nat} {ok : Nat → Prop} {v : Value} {xs : List Int} (h : FR W base ok v xs) : ∃ g, v = .slice (some ⟨g, 0, none⟩) xs.length xs.length ∧ ∀ j u, (xs.map (Value.int .u8))[j]? = some u → W.cell? ((⟨g, 0, none⟩ : Addr).add j) = some u := by
  obtain ⟨h0, h1, g, rfl, hbg, ho, hg⟩ := h
  refine ⟨g, rfl, fun j u hu => ?_⟩
  have hadd : (⟨g, 0, none⟩ : Addr).add j = ⟨g, j, none⟩ := by unfold Addr.add; split <;> simp_all
  rw [hadd, cell_of_row W g j _ 5 _ hg]
  simpa using hu

/-- The row behind an append that finds no room: new memory. -/
theorem FR_grow (base : Nat) (t : TypeId) (oty : TypeId) (i0 : TypeInfo) (ht : P.underlying t = some (.slice 5)) (hi : P.info? 5 = some i0) (hz0 : i0.zero = some (.int .u8 0)) (hz1 : i0.size = 1) (hz2 : i0.bytes = 1)
    (v : Value) (xs ys : List Int) (ok : Nat → Prop) (ad : Addr) (m c : Nat) (hm : ys.length = m) (hm0 : 0 < m) (hnews : ∀ j u, (ys.map (Value.int .u8))[j]? = some u → W.cell? (ad.add j) = some u)
    (HO : FR W base ok v xs) (hfresh : ∀ k, W.heap.size ≤ k → ok k) (hbase : base ≤ W.heap.size) (hl : xs.length + m ≤ 140737488355328) :
    ∃ v1 w1, (Builtin.append_ #[t, t] oty #[v, .slice (some ad) m c]).run P W = .ok v1 w1 ∧ (Kd.int .u8).R 5 w1 base ok v1 (xs ++ ys) ∧ W.grownBy w1 v.ownBlock ∧ ∃ b, v1.ownBlock = some b ∧ W.heap.size ≤ b := by
  obtain ⟨g, rfl, hc⟩ := FR_cells HO
  have hr := run_append_grow (P := P) W t oty 5 i0 (.int .u8 0) ht hi hz0 ⟨g, 0, none⟩ xs.length xs.length (xs.map (Value.int .u8)) (by rw [hz1]; simp) hc ad m c (ys.map (Value.int .u8)) (by rw [hz1, List.length_map, hm, Nat.mul_one]) hnews (by omega) (by omega) (by rw [hz2]; exact growslice_fits (by omega) (by omega))
  have hge := grownCap_ge W (xs.length + m) xs.length 5
  have hcm : grownCap W (xs.length + m) xs.length 5 ≤ maxLen := grownCap_le_maxLen W (xs.length + m) xs.length 5 (by simp only [maxLen]; omega)
  refine ⟨_, _, hr, ⟨fun k hk => ?_, (xs.map (Value.int .u8)) ++ ys.map (Value.int .u8), ⟨?_, .inr ⟨W.heap.size, _, _, ?_, hbase, heap_alloc_new W.drew _, ?_, hcm, ?_, ?_⟩⟩, ?_⟩, ⟨rfl, rfl, rfl, by simp, fun k hk _ => heap_alloc_old W.drew _ hk⟩, ⟨_, rfl, Nat.le_refl _⟩⟩
  · have : W.heap.size = k := by simpa [Value.ownBlock] using hk
    subst this
    exact hfresh _ (Nat.le_refl _)
  · rw [List.length_append, List.length_map, List.length_map, List.length_append]
    show _ = _ * 1
    omega
  · rw [List.length_append, hm]
  · rw [List.length_append, hm]; exact hge
  · have hz1 : (Value.int IntKind.u8 0).cells.size = 1 := rfl
    have hs1 : (Kd.int .u8).sz = 1 := rfl
    rw [hs1]
    simp only [Array.size_append, List.size_toArray, List.length_map, size_zeroCells, hz1, hm]
    omega
  · have hs1 : (Kd.int .u8).sz = 1 := rfl
    rw [hs1]
    simp only [Array.toList_append, List.append_assoc]
    rw [← List.append_assoc, show (xs ++ ys).length * 1 = (xs.map (Value.int .u8) ++ ys.map (Value.int .u8)).length by simp]
    exact List.take_left
  · rw [show xs.map (Value.int .u8) ++ ys.map (Value.int .u8) = encs (Value.int .u8) (xs ++ ys) by simp [encs]]
    exact Kd.reps_scalar (enc := Value.int .u8) (xs ++ ys)

theorem RH_append_rows {w0 W : World} (base : Nat) (hgd : o.guard = none) (s x : Operand) (t : TypeId)
    (ho : o.op = .call { callee := .builtin .append, args := #[s, x], argTypes := #[t, t] })
    (ht : P.underlying t = some (.slice 5)) (hinfo : (P.info? 5).map (fun i => (i.zero, i.size, i.bytes)) = some (some (.int .u8 0), 1, 1))
    (v : Value) (xs ys : List Int) (A : Option Addr) (m c : Nat) (ok : Nat → Prop) (hs : a.eval s = v) (hx : a.eval x = .slice A m c)
    (HO : RH W base ok v xs) (HR : (Kd.int .u8).C W A m ys) (hfresh : ∀ k, W.heap.size ≤ k → ok k)
    (HB : Below base w0 W) (hbase : base ≤ W.heap.size) (hl : xs.length + m ≤ 140737488355328)
    (h : ∀ v1 w1, RH w1 base ok v1 (xs ++ ys) → Below base w0 w1 → W.grownBy w1 v.ownBlock → (v1.ownBlock = v.ownBlock ∨ ∃ b, v1.ownBlock = some b ∧ W.heap.size ≤ b) → wpList P ops Q rest (a.put o.dst v1) w1) :
    wpList P ops Q (o :: rest) a W := by
  rcases HO with HO | HO
  · exact Kd.R_append_rows (Kd.int .u8) (w0 := w0) base hgd s x t 5 (.int .u8 0) 1 ho ht hinfo rfl (by decide) (by omega) v xs ys A m c ok (fun _ => False) hs hx HO HR (fun _ _ h => h) (fun _ h => h.elim) hfresh HB hbase (by rw [Nat.mul_one]; exact hl) (fun v1 w1 h1 h2 h3 h4 => h v1 w1 (.inl h1) h2 h3 h4)
  · obtain ⟨i0, hi, hzz⟩ := Option.map_eq_some_iff.1 hinfo
    simp only [Prod.mk.injEq] at hzz
    obtain ⟨hz0, hz1, hz2⟩ := hzz
    have hm : ys.length = m := HR.1
    have hrun : ∃ v1 w1, (Builtin.append_ #[t, t] o.type #[v, .slice A m c]).run P W = .ok v1 w1 ∧ RH w1 base ok v1 (xs ++ ys) ∧ W.grownBy w1 v.ownBlock ∧ (v1.ownBlock = v.ownBlock ∨ ∃ b, v1.ownBlock = some b ∧ W.heap.size ≤ b) := by
      rcases Nat.eq_zero_or_pos m with h0 | h0
      · subst h0
        obtain rfl : ys = [] := List.eq_nil_of_length_eq_zero hm
        refine ⟨v, W, ?_, by rw [List.append_nil]; exact .inr HO, World.grownBy.refl W _, .inl rfl⟩
        obtain ⟨g, rfl, hc⟩ := FR_cells HO
        rcases A with _ | ad
        · simp [Builtin.append_, run_underlying ht, sizeOf, typeInfo, hi, Builtin.lenOf, Builtin.firstCells, storeCells]
        · simp [Builtin.append_, run_underlying ht, sizeOf, typeInfo, hi, Builtin.lenOf, Builtin.firstCells, loadCells, loadCellsFrom, storeCells]
      · obtain ⟨ad, rfl, _⟩ := HR.2.2 h0
        obtain ⟨news, hnr, hnc⟩ := ReadsRow.inner_ HR
        have hnw : news = ys.map (Value.int .u8) := by
          refine List.ext_getElem? fun j => ?_
          by_cases hj : j < ys.length
          · have h1 := hnr.2 j _ (List.getElem?_eq_getElem hj)
            have h2 : (news.drop (j * 1)).take 1 = [Value.int .u8 ys[j]] := h1
            rw [Nat.mul_one] at h2
            have h3 := congrArg (fun l => l[0]?) h2
            simp at h3
            rw [h3, List.getElem?_map, List.getElem?_eq_getElem hj]
            rfl
          · have hl2 : news.length = ys.length * 1 := hnr.1
            rw [List.getElem?_eq_none (by omega), List.getElem?_eq_none (by simp; omega)]
        subst hnw
        obtain ⟨v1, w1, h1, h2, h3, h4⟩ := FR_grow (P := P) base t o.type i0 ht hi hz0 hz1 hz2 v xs ys ok ad m c hm h0 hnc HO hfresh hbase hl
        exact ⟨v1, w1, h1, .inl h2, h3, .inr h4⟩
    obtain ⟨v1, w1, hr, h2, h3, h4⟩ := hrun
    refine wpList_plain hgd fun K hK => ?_
    unfold Oper.wp execOp
    simp only [ho, resolve, invoke, builtin, Sem.run_bind, Sem.run_pure, Result.andThen_ok, List.map_toArray, List.map_cons, List.map_nil, hs, hx, hr]
    exact hK _ _ (h v1 w1 h2 (HB.grown h3 hbase (fun k hk => RH_base (.inr HO) k hk)) h3 h4)

theorem RH_append {w0 W : World} (base : Nat) (hgd : o.guard = none) (s x : Operand) (t : TypeId)
    (ho : o.op = .call { callee := .builtin .append, args := #[s, x], argTypes := #[t, t] })
    (ht : P.underlying t = some (.slice 5)) (hinfo : (P.info? 5).map (fun i => (i.zero, i.size, i.bytes)) = some (some (.int .u8 0), 1, 1))
    (v : Value) (xs : List Int) (p : Int) (ok : Nat → Prop) (hs : a.eval s = v) (hx : a.eval x = .slice (some ⟨W.heap.size, 0, none⟩) 1 1) (hfresh : ∀ k, W.heap.size ≤ k → ok k)
    (HO : RH W base ok v xs) (HB : Below base w0 W) (hbase : base ≤ W.heap.size) (hl : xs.length + 1 ≤ 140737488355328)
    (h : ∀ v1 w1, (Kd.int .u8).R 5 w1 base ok v1 (xs ++ [p]) → Below base w0 w1 → W.grownBy w1 v.ownBlock → (v1.ownBlock = v.ownBlock ∨ ∃ b, v1.ownBlock = some b ∧ W.heap.size ≤ b) → wpList P ops Q rest (a.put o.dst v1) w1) :
    wpList P ops Q (o :: rest) a (W.alloc (.cells #[.int .u8 p] 5)) := by
  rcases HO with HO | HO
  · exact Kd.R_append (Kd.int .u8) (w0 := w0) base hgd s x t 5 (.int .u8 0) 1 ho ht hinfo rfl (by decide) (by omega) v xs p [.int .u8 p] ok (fun _ => False) hs hx rfl (fun _ h => h.elim) hfresh HO HB hbase (by rw [Nat.mul_one]; exact hl) h
  · obtain ⟨i0, hi, hzz⟩ := Option.map_eq_some_iff.1 hinfo
    simp only [Prod.mk.injEq] at hzz
    obtain ⟨hz0, hz1, hz2⟩ := hzz
    have HO2 : FR (W.alloc (.cells #[.int .u8 p] 5)) base ok v xs := FR_step HO (fun k _ hk => heap_alloc_old W _ hk)
    obtain ⟨v1, w1, h1, h2, h3, b, hb, hle⟩ := FR_grow (P := P) base t o.type i0 ht hi hz0 hz1 hz2 v xs [p] ok ⟨W.heap.size, 0, none⟩ 1 1 rfl (by omega) (by simpa using World.news_of_block (cs := #[Value.int .u8 p]) (t := 5) (fr := (0, 0)) (heap_alloc_new W (.cells #[Value.int .u8 p] 5))) HO2 (fun k hk => hfresh k (by simp at hk; omega)) (by simp; omega) (by omega)
    refine wpList_plain hgd fun K hK => ?_
    unfold Oper.wp execOp
    simp only [ho, resolve, invoke, builtin, Sem.run_bind, Sem.run_pure, Result.andThen_ok, List.map_toArray, List.map_cons, List.map_nil, hs, hx, h1]
    refine hK _ _ (h v1 w1 h2 ((HB.alloc hbase _).grown h3 (by simp; omega) (fun k hk => RH_base (.inr HO) k hk)) (World.grownBy.trans (World.grownBy_alloc W _ _) h3) (.inr ⟨b, hb, by simp at hle; omega⟩))
end
end Go.Proofs.Ytglmfnaofpbpfaa.Fz

namespace Go.Proofs.Ytglmfnaofpbpfaa.P
open Go.RowKit Go.Proofs.YtglmfnaofpbpfaaW.PrintWords Go.Proofs.YtglmfnaofpbpfaaW.PrintLast Go.Proofs.YtglmfnaofpbpfaaW.PrintMore Go.Proofs.Ytglmfnaofpbpfaa.X
attribute [local go_sem] max2_int min2_int max_two min_two max_three min_three max_four min_four   -- for this text's walks alone
set_option linter.unusedVariables false
set_option linter.unusedSimpArgs false



def errW : Option Int → Value
  | none => .nilIface
  | some c => .iface 0 (.int .i64 c)
theorem errW_none : errW none = .nilIface := rfl
theorem errW_some (c : Int) : errW (some c) = .iface 0 (.int .i64 c) := rfl

theorem info3 : (Try.prog.info? 3).map (fun i => (i.zero, i.size, i.bytes)) = some (some (.int .i64 0), 1, 8) := by kernel_rfl
theorem info4 : (Try.prog.info? 4).map (fun i => (i.zero, i.size, i.bytes)) = some (some (.bool false), 1, 1) := by kernel_rfl
theorem info5 : (Try.prog.info? 5).map (fun i => (i.zero, i.size, i.bytes)) = some (some (.int .u8 0), 1, 1) := by kernel_rfl
theorem info22 : (Try.prog.info? 22).map (fun i => (i.zero, i.size, i.bytes)) = some (some (.slice none 0 0), 1, 24) := by kernel_rfl
theorem info48 : (Try.prog.info? 48).map (fun i => (i.zero, i.size, i.bytes)) = some (some (.agg #[(.int .i64 0), (.slice none 0 0)]), 2, 32) := by kernel_rfl
theorem info58 : (Try.prog.info? 58).map (fun i => (i.zero, i.size, i.bytes)) = some (some (.int .u64 0), 1, 8) := by kernel_rfl
-- the values' own types
def rd_L2 (xs : List (List Int)) (i : Int) : (List Int) := xs.getD i.toNat ([] : List Int)
theorem at_L2 {w : World} {A : Option Addr} {n : Nat} {xs : List (List Int)} (h : Kd.C (Kd.slice 5 (Kd.int .u8)) w A n xs) (i : Int) (h0 : 0 ≤ i) (h1 : i < n) : ∃ ad A0 c0, A = some ad ∧ w.cell? (ad.add i.toNat) = some (.slice A0 (rd_L2 xs i).length c0) ∧ (rd_L2 xs i).length ≤ c0 ∧ (Kd.int .u8).C w A0 (rd_L2 xs i).length (rd_L2 xs i) := by
  obtain ⟨ad, c, e, _, hK, hc0⟩ := Kd.C_get h ([] : List Int) i h0 h1
  have hc : ∀ j u, c[j]? = some u → w.cell? (ad.add (i.toNat * 1 + j)) = some u := hc0
  obtain ⟨A0, c0, rfl, l0, g0⟩ := hK
  exact ⟨ad, A0, c0, e, by have hq := hc 0 _ rfl; rwa [Nat.mul_one, Nat.add_zero] at hq, l0, g0⟩

/-! #### struct type 48 -/
structure S48 where
  f0 : Int
  f1 : (List Int)
def z48 : S48 := ⟨(0 : Int), ([] : List Int)⟩
def k48 : Kd S48 := Kd.iso (Kd.pair (Kd.int .i64) (Kd.slice 5 (Kd.int .u8))) (fun x : S48 => (x.f0, x.f1))
theorem k48_heap : Kd.Heap k48 := Kd.heap_iso _ (Kd.heap_pair (Kd.heap_int .i64) (Kd.heap_slice 5 (Kd.heap_int .u8)))
theorem k48_open {w : World} {x : S48} {cs : List Value} (h : k48.K w x cs) : ∃ A1 c1, cs = [.int .i64 x.f0, .slice A1 x.f1.length c1] ∧ x.f1.length ≤ c1 ∧ (Kd.int .u8).C w A1 x.f1.length x.f1 := by
  obtain ⟨_, _, rfl, rfl, ⟨A1, c1, rfl, l1, g1⟩⟩ := h
  exact ⟨A1, c1, rfl, l1, g1⟩
theorem k48_openM {w : World} {base : Nat} {ok : Nat → Prop} {x : S48} {cs : List Value} (h : k48.M w base ok x cs) : ∃ v1, cs = [.int .i64 x.f0, v1] ∧ (Kd.int .u8).R 5 w base ok v1 x.f1 := by
  obtain ⟨_, _, rfl, rfl, ⟨v1, rfl, g1⟩⟩ := h
  exact ⟨v1, rfl, g1⟩
theorem k48_mk (w : World) (x : S48) {A1 : Option Addr} {c1 : Nat} (l1 : x.f1.length ≤ c1) (g1 : (Kd.int .u8).C w A1 x.f1.length x.f1) : k48.K w x [.int .i64 x.f0, .slice A1 x.f1.length c1] := ⟨[.int .i64 x.f0], [.slice A1 x.f1.length c1], rfl, rfl, ⟨A1, c1, rfl, l1, g1⟩⟩
theorem k48_mkM (w : World) (base : Nat) (ok : Nat → Prop) (x : S48) {v1 : Value} (g1 : (Kd.int .u8).R 5 w base ok v1 x.f1) : k48.M w base ok x [.int .i64 x.f0, v1] := ⟨[.int .i64 x.f0], [v1], rfl, rfl, ⟨v1, rfl, g1⟩⟩
theorem k48_openF {W : World} {ok : Nat → Prop} {x : S48} {cs : List Value} (h : Kd.FK k48 W ok x cs) : ∃ A1 c1, cs = [.int .i64 x.f0, .slice A1 x.f1.length c1] ∧ x.f1.length ≤ c1 ∧ Kd.F (Kd.int .u8) W ok A1 x.f1.length x.f1 := by
  obtain ⟨A1, c1, rfl, l1, _⟩ := k48_open (Kd.FK_now h)
  exact ⟨A1, c1, rfl, l1, (fun W' hW => by obtain ⟨A1_, c1_, he, l1_, g1_⟩ := k48_open (h W' hW); injection (Option.some.inj (show some (Value.slice A1 x.f1.length c1) = some (Value.slice A1_ x.f1.length c1_) from congrArg (fun l => l[1]?) he)) with ha_ _ _; rw [ha_]; exact g1_)⟩
theorem k48_mkF (W : World) (ok : Nat → Prop) (x : S48) {A1 : Option Addr} {c1 : Nat} (l1 : x.f1.length ≤ c1) (g1 : Kd.F (Kd.int .u8) W ok A1 x.f1.length x.f1) : Kd.FK k48 W ok x [.int .i64 x.f0, .slice A1 x.f1.length c1] := fun W2 hW => k48_mk W2 x l1 (g1 W2 hW)
def rd_T48 (xs : List S48) (i : Int) : S48 := xs.getD i.toNat z48
theorem at_T48 {w : World} {A : Option Addr} {n : Nat} {xs : List S48} (h : Kd.C k48 w A n xs) (i : Int) (h0 : 0 ≤ i) (h1 : i < n) : ∃ ad A1 c1, A = some ad ∧ w.cell? (ad.add (i.toNat * 2)) = some (.int .i64 (rd_T48 xs i).f0) ∧ w.cell? ⟨(ad.add (i.toNat * 2)).block, (ad.add (i.toNat * 2)).off + 1, none⟩ = some (.slice A1 (rd_T48 xs i).f1.length c1) ∧ (rd_T48 xs i).f1.length ≤ c1 ∧ (Kd.int .u8).C w A1 (rd_T48 xs i).f1.length (rd_T48 xs i).f1 := by
  obtain ⟨ad, c, e, _, hK, hc0⟩ := Kd.C_get h z48 i h0 h1
  have hc : ∀ j u, c[j]? = some u → w.cell? (ad.add (i.toNat * 2 + j)) = some u := hc0
  obtain ⟨A1, c1, rfl, l1, g1⟩ := k48_open hK
  exact ⟨ad, A1, c1, e, hc 0 _ rfl, by rw [← add_field _ _ 1 (by omega)]; exact hc 1 _ rfl, l1, g1⟩

end Go.Proofs.Ytglmfnaofpbpfaa.P
