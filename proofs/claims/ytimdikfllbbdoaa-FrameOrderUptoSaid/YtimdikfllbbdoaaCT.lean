/- crc's table: of each byte its remainder. No condition. -/
import Derived.Test.YtimdikfllbbdoaaProg
import Derived.WalkKit
import Derived.Below
import Derived.Laws.Rows
import Derived.Deep.MidRow
import Derived.BigQuiet
import Derived.LoopTactic
import Derived.Outline
namespace Go.Proofs.Ytimdikfllbbdoaa.C
set_option linter.unusedVariables false
set_option linter.unusedSimpArgs false
open Go.RowKit

def step (r : Int) : Int := Go.bits .xor .u32 (r / 2) (Go.bits .and .u32 3988292384 (-Go.bits .and .u32 r 1 % 4294967296))
def stepN : Nat → Int → Int
 | 0, r => r
 | n + 1, r => step (stepN n r)
def tabV (k : Nat) : Int := stepN 8 (k : Int)
def arr (k : Nat) : Array Value := ((List.range 256).map fun j => Value.int .u32 (if j < k then tabV j else 0)).toArray
theorem arr_size (k : Nat) : (arr k).size = 256 := by unfold arr; simp
theorem arr_get (k j : Nat) (h : j < 256) : (arr k)[j]? = some (.int .u32 (if j < k then tabV j else 0)) := by
  unfold arr
  simp [h]
theorem arr_zero : arr 0 = Array.replicate 256 (.int .u32 0) := by
  apply Array.ext_getElem?
  intro j
  by_cases hj : j < 256
  · rw [arr_get 0 j hj]; simp [hj]
  · rw [Array.getElem?_eq_none (by rw [arr_size]; omega), Array.getElem?_eq_none (by simp; omega)]
theorem arr_set (k : Nat) (h : k < 256) : (arr k).setIfInBounds k (.int .u32 (tabV k)) = arr (k + 1) := by
  apply Array.ext_getElem?
  intro j
  by_cases hj : j < 256
  · rw [arr_get _ j hj]
    by_cases he : k = j
    · subst he
      rw [Array.getElem?_setIfInBounds_self_of_lt (by rw [arr_size]; exact h), if_pos (by omega)]
    · rw [Array.getElem?_setIfInBounds_ne he, arr_get _ j hj]
      by_cases hl : j < k
      · rw [if_pos hl, if_pos (by omega)]
      · rw [if_neg hl, if_neg (by omega)]
  · rw [Array.getElem?_eq_none (by rw [Array.size_setIfInBounds, arr_size]; omega), Array.getElem?_eq_none (by rw [arr_size]; omega)]
theorem run_zero (w : World) : (zeroValue 78).run Try.prog w = .ok (.agg (Array.replicate 256 (.int .u32 0))) w := by
  kernel_rfl
theorem u46 : Try.prog.underlying 78 = some (.array 256 60) := by kernel_rfl
theorem i46 : (Try.prog.info? 78).map (·.size) = some 256 := by kernel_rfl
theorem arr_one (k : Nat) : (arr k).all (·.oneCell') = true := by
  unfold arr
  refine all_oneCell_toArray fun v hv => ?_
  obtain ⟨j, _, rfl⟩ := List.mem_map.1 hv
  rfl
theorem setCell_self (w : World) (b o : Nat) (v : Value) (c : Array Value) (t : TypeId) (fr : Nat × Nat) (hg : w.heap[b]? = some (.cells c t fr)) (hv : c[o]? = some v) : w.setCell ⟨b, o, none⟩ v = w := by
  have e : (w.setCell ⟨b, o, none⟩ v).heap = w.heap := by
    unfold World.setCell
    simp only
    apply Array.ext_getElem?
    intro j
    rw [Array.getElem?_modify]
    by_cases hj : b = j
    · subst hj
      rw [if_pos rfl, hg]
      have h2 : c.setIfInBounds o v = c := by
        apply Array.ext_getElem?
        intro i
        by_cases hi : o = i
        · subst hi
          rw [Array.getElem?_setIfInBounds_self_of_lt (Array.getElem?_eq_some_iff.1 hv).1, hv]
        · rw [Array.getElem?_setIfInBounds_ne hi]
      simp [h2]
    · rw [if_neg hj]
  cases w
  simp only [World.setCell] at e ⊢
  rw [e]
theorem setCells_self (b : Nat) (c : Array Value) (t : TypeId) (fr : Nat × Nat) : ∀ (vs : List Value) (o : Nat) (w : World), w.heap[b]? = some (.cells c t fr) → (∀ j v, vs[j]? = some v → c[o + j]? = some v) → w.setCells b o vs = w := by
  intro vs
  induction vs with
  | nil => intro o w _ _; rfl
  | cons v r ih =>
    intro o w hg hv
    unfold World.setCells
    rw [setCell_self w b o v c t fr hg (hv 0 v rfl)]
    exact ih (o + 1) w hg (fun j u hu => by have := hv (j + 1) u hu; rw [show o + (j + 1) = o + 1 + j by omega] at this; exact this)
set_option maxHeartbeats 8000000 in
set_option maxRecDepth 100000 in
theorem table_calls (w : World) : Calls Try.prog 38 #[] w fun e w' => e = .returned (.agg (arr 256)) ∧ w' = w.alloc (.cells (arr 256) 78) := by
  have ha := run_zero
  go_enter Try.func38, Try.ntmps38
  go_wp2
  go_loopw [1, 2, 3, 4, 5, 6, 7, 8] (fun _ _ i _ _ _ _ _ wr => ∃ k : Nat, k ≤ 256 ∧ i = .int .i64 k ∧ wr = w.alloc (.cells (arr k) 78)) (fun _ _ i _ _ _ _ _ _ => 256 - (intOf i).toNat)
  case atStart => exact ⟨0, by omega, rfl, by rw [arr_zero]⟩
  case round =>
    obtain ⟨k, hk, rfl, rfl⟩ := hrel
    rcases Nat.lt_or_ge k 256 with hlt | hge
    · have hki : (k : Int) < 256 := by omega
      have hak := arr_get k k hlt
      have hsz := arr_size k
      go_wp2
      obtain ⟨wo, hwo⟩ : ∃ wo : World, wo = w.alloc (.cells (arr k) 78) := ⟨_, rfl⟩
      rw [← hwo]
      go_loopw [2, 8] (fun r c wr => ∃ m : Nat, m ≤ 8 ∧ c = .int .i64 m ∧ r = .int .u32 (stepN m k) ∧ wr = wo) (fun _ c _ => 8 - (intOf c).toNat)
      case atStart => exact ⟨0, by omega, rfl, rfl, rfl⟩
      case round =>
        obtain ⟨m, hm, rfl, rfl, rfl⟩ := hrel
        rcases Nat.lt_or_ge m 8 with hm8 | hm8
        · have hmi : (m : Int) < 8 := by omega
          go_wp2
          go_roundw
          case rel => exact ⟨m + 1, by omega, rfl, rfl, hwo.symm⟩
          case measure => simp [intOf]; omega
        · have hmi : 8 ≤ (m : Int) := by omega
          have em : m = 8 := by omega
          subst em
          subst hwo
          go_wp2
          go_roundw
          case rel =>
            refine ⟨k + 1, by omega, rfl, ?_⟩
            rw [← arr_set k hlt]
            rfl
          case measure => simp [intOf]; omega
    · have hki : 256 ≤ (k : Int) := by omega
      have ek : k = 256 := by omega
      subst ek
      go_wp2
      refine wp_load_row 78 (.tmp 0) rfl w.heap.size rfl 78 (arr 256) (0, 0) _ (heap_alloc_new w _) u46 rfl (by rw [i46, arr_size]) ?_
      have hst : (storeCells ⟨w.heap.size, 0, none⟩ (arr 256).toList).run Try.prog (w.alloc (.cells (arr 256) 78)) = .ok () (w.alloc (.cells (arr 256) 78)) := by
        have h := run_storeCells_cells (P := Try.prog) w.heap.size 0 (arr 256).toList 0 (w.alloc (.cells (arr 256) 78)) (fun j hj => by rw [Array.length_toList, arr_size] at hj; simp [arr_get, hj, World.cell?_alloc_at]) (fun j hj => by rw [Array.length_toList, arr_size] at hj; simp [World.frozen?_alloc_at]) (fun v hv => (Array.all_eq_true_iff_forall_mem.1 (arr_one 256)) v (by simpa using hv))
        rw [setCells_self w.heap.size (arr 256) 78 (0, 0) _ _ _ (heap_alloc_new w _) (fun j v h => by simpa using h)] at h
        exact h
      go_wp2
      refine bodyPost_ret_by (v := .agg (arr 256)) ?hr rfl ⟨rfl, rfl⟩
      case hr => exact results_cell_row (fn := Try.f38) (p := 0) (ty := 78) rfl _ _ w.heap.size 78 (arr 256) (0, 0) _ rfl (heap_alloc_new w _) u46 rfl (by rw [i46, arr_size])
end Go.Proofs.Ytimdikfllbbdoaa.C
