/- What the chapter's examples fix: they hold. No condition. -/
import Derived.Test.YteiimfmanfafhaaCO
import Derived.Lib.SlBytesConst
namespace Go.Proofs.Yteiimfmanfafhaa.C
set_option linter.unusedVariables false
set_option linter.unusedSimpArgs false
open Go.RowKit Go.Proofs.YteiimfmanfafhaaW.PrintWords

theorem ofV_ex : ofV [[49, 50, 51, 52, 53], [54, 55, 56, 57]] = 3421780262 := by decide +kernel
theorem ofV_nil : ofV [] = 0 := by decide +kernel
theorem C_nil {α : Type} (d : Kd α) (w : World) : Kd.C d w none 0 [] := ⟨rfl, by simp, fun h => absurd h (by simp)⟩
theorem C_bytes (w : World) (g : Nat) (xs : List Int) (cs : Array Value) (t : TypeId) (fr : Nat × Nat) (hg : w.heap[g]? = some (.cells cs t fr)) (hc : cs = (xs.map (Value.int .u8)).toArray) (hl : xs.length ≤ 9223372036854775807) : Kd.C (Kd.int .u8) w (some ⟨g, 0, none⟩) xs.length xs := by
  refine ⟨rfl, hl, fun _ => ⟨⟨g, 0, none⟩, rfl, fun j p hp => ⟨[.int .u8 p], rfl, rfl, fun i u hu => ?_⟩⟩⟩
  have hi : i = 0 := by
    cases i with
    | zero => rfl
    | succ i => simp at hu
  subst hi
  have hu' : Value.int .u8 p = u := by simpa using hu
  subst hu'
  have e : (Addr.add ⟨g, 0, none⟩ (j * (Kd.int IntKind.u8).sz + 0)) = ⟨g, j, none⟩ := by
    have : (Kd.int IntKind.u8).sz = 1 := rfl
    rw [this, Addr.add_mid]; simp
  rw [e, cell_of_row w g j cs t fr hg, hc]
  simp [hp]
theorem C_rows2 (w : World) (g : Nat) (A B : Option Addr) (ca cb : Nat) (xs ys : List Int) (cs : Array Value) (t : TypeId) (fr : Nat × Nat) (hg : w.heap[g]? = some (.cells cs t fr)) (hc : cs = #[.slice A xs.length ca, .slice B ys.length cb])
    (ha : Kd.C (Kd.int .u8) w A xs.length xs) (hb : Kd.C (Kd.int .u8) w B ys.length ys) (hca : xs.length ≤ ca) (hcb : ys.length ≤ cb) : Kd.C (Kd.slice 5 (Kd.int .u8)) w (some ⟨g, 0, none⟩) 2 [xs, ys] := by
  refine ⟨rfl, by simp, fun _ => ⟨⟨g, 0, none⟩, rfl, fun j p hp => ?_⟩⟩
  have e : ∀ j, (Addr.add ⟨g, 0, none⟩ (j * (Kd.slice 5 (Kd.int IntKind.u8)).sz + 0)) = ⟨g, j, none⟩ := by
    intro j
    have : (Kd.slice 5 (Kd.int IntKind.u8)).sz = 1 := rfl
    rw [this, Addr.add_mid]; simp
  match j, hp with
  | 0, hp =>
    obtain rfl : xs = p := by simpa using hp
    refine ⟨[.slice A xs.length ca], rfl, ⟨A, ca, rfl, hca, ha⟩, fun i u hu => ?_⟩
    cases i with
    | zero =>
      obtain rfl : Value.slice A xs.length ca = u := by simpa using hu
      rw [e, cell_of_row w g 0 cs t fr hg, hc]; rfl
    | succ i => simp at hu
  | 1, hp =>
    obtain rfl : ys = p := by simpa using hp
    refine ⟨[.slice B ys.length cb], rfl, ⟨B, cb, rfl, hcb, hb⟩, fun i u hu => ?_⟩
    cases i with
    | zero =>
      obtain rfl : Value.slice B ys.length cb = u := by simpa using hu
      rw [e, cell_of_row w g 1 cs t fr hg, hc]; rfl
    | succ i => simp at hu
  | j + 2, hp => simp at hp
set_option maxHeartbeats 8000000 in
set_option maxRecDepth 100000 in
theorem check_one (A : Option Addr) (c : Nat) (w : World) : Calls Try.prog 9 #[.slice A 1 c] w fun e w' => e = .returned (.tuple #[.slice none 0 0, .int .i64 10]) ∧ w' = w := by
  go_enter Try.func9, Try.ntmps9
  go_wp2
  go_ret2
  exact ⟨rfl, rfl⟩
set_option maxHeartbeats 8000000 in
set_option maxRecDepth 100000 in
theorem known_calls (w : World) : Calls Try.prog 8 #[] w fun e w' => e = .returned (.bool true) ∧ Below w.heap.size w w' := by
  obtain ⟨C1, hC1⟩ : ∃ C : Array Value, C = #[.int .u8 49, .int .u8 50, .int .u8 51, .int .u8 52, .int .u8 53] := ⟨_, rfl⟩
  obtain ⟨C2, hC2⟩ : ∃ C : Array Value, C = #[.int .u8 54, .int .u8 55, .int .u8 56, .int .u8 57] := ⟨_, rfl⟩
  have z1 : (w.alloc (.cells #[.int .u8 1] 5)).heap.size = w.heap.size + 1 := by simp
  have z2 : ((w.alloc (.cells #[.int .u8 1] 5)).alloc (.cells C1 5 (5, 6))).heap.size = w.heap.size + 1 + 1 := by simp
  have z3 : (((w.alloc (.cells #[.int .u8 1] 5)).alloc (.cells C1 5 (5, 6))).alloc (.cells C2 5 (4, 5))).heap.size = w.heap.size + 1 + 1 + 1 := by simp
  have k1 : (convert 22 22 (.slice (some ⟨w.heap.size + 1, 0, none⟩) 5 5)).run Try.prog ((w.alloc (.cells #[.int .u8 1] 5)).alloc (.cells C1 5)) = .ok (.slice (some ⟨w.heap.size + 1, 0, none⟩) 5 5) ((w.alloc (.cells #[.int .u8 1] 5)).alloc (.cells C1 5 (5, 6))) := by
    have h := Lib.run_convert_bytes_const (P := Try.prog) (w.alloc (.cells #[.int .u8 1] 5)) 22 5 C1 5 5 Try.underlying22 Try.underlying5
    rw [z1, show C1.size = 5 by rw [hC1]; rfl] at h
    exact h
  have k2 : (convert 22 22 (.slice (some ⟨w.heap.size + 1 + 1, 0, none⟩) 4 4)).run Try.prog (((w.alloc (.cells #[.int .u8 1] 5)).alloc (.cells C1 5 (5, 6))).alloc (.cells C2 5)) = .ok (.slice (some ⟨w.heap.size + 1 + 1, 0, none⟩) 4 4) (((w.alloc (.cells #[.int .u8 1] 5)).alloc (.cells C1 5 (5, 6))).alloc (.cells C2 5 (4, 5))) := by
    have h := Lib.run_convert_bytes_const (P := Try.prog) ((w.alloc (.cells #[.int .u8 1] 5)).alloc (.cells C1 5 (5, 6))) 22 5 C2 4 4 Try.underlying22 Try.underlying5
    rw [z2, show C2.size = 4 by rw [hC2]; rfl] at h
    exact h
  obtain ⟨W4, hW4⟩ : ∃ W4 : World, W4 = ((((w.alloc (.cells #[.int .u8 1] 5)).alloc (.cells C1 5 (5, 6))).alloc (.cells C2 5 (4, 5))).alloc (.cells #[.slice (some ⟨w.heap.size + 1, 0, none⟩) 5 5, .slice (some ⟨w.heap.size + 1 + 1, 0, none⟩) 4 4] 22)) := ⟨_, rfl⟩
  have hb4 : Below w.heap.size w W4 := by
    rw [hW4]
    exact ((((Below.refl _ w).alloc (Nat.le_refl _) _).alloc (by rw [z1]; omega) _).alloc (by rw [z2]; omega) _).alloc (by rw [z3]; omega) _
  have g3 : W4.heap[w.heap.size + 1 + 1 + 1]? = some (.cells #[.slice (some ⟨w.heap.size + 1, 0, none⟩) 5 5, .slice (some ⟨w.heap.size + 1 + 1, 0, none⟩) 4 4] 22 (0, 0)) := by
    rw [hW4, ← z3]; exact heap_alloc_new _ _
  have g2 : W4.heap[w.heap.size + 1 + 1]? = some (.cells C2 5 (4, 5)) := by
    rw [hW4, heap_alloc_old _ _ (by rw [z3]; omega), ← z2]; exact heap_alloc_new _ _
  have g1 : W4.heap[w.heap.size + 1]? = some (.cells C1 5 (5, 6)) := by
    rw [hW4, heap_alloc_old _ _ (by rw [z3]; omega), heap_alloc_old _ _ (by rw [z2]; omega), ← z1]; exact heap_alloc_new _ _
  have hK : Kd.C (Kd.slice 5 (Kd.int .u8)) W4 (some ⟨w.heap.size + 1 + 1 + 1, 0, none⟩) 2 [[49, 50, 51, 52, 53], [54, 55, 56, 57]] :=
    C_rows2 W4 _ _ _ 5 4 [49, 50, 51, 52, 53] [54, 55, 56, 57] _ 22 (0, 0) g3 rfl (C_bytes W4 _ _ C1 5 (5, 6) g1 hC1 (by simp)) (C_bytes W4 _ _ C2 5 (4, 5) g2 hC2 (by simp)) (by simp) (by simp)
  rw [hC1, hC2] at hW4
  rw [hC1] at k1 k2
  rw [hC2] at k2
  clear hC1 hC2 g1 g2 g3 z1 z2 z3
  clear C1 C2
  go_enter Try.func8, Try.ntmps8
  go_wp2_with (first | (go_at_call 9; refine (check_one _ _ _).mono ?_; rintro e w1 ⟨rfl, rfl⟩) | (go_at_call 12; rw [← hW4]; refine (of_calls _ _ [[49, 50, 51, 52, 53], [54, 55, 56, 57]] W4 hK).mono ?_; rintro e w2 ⟨rfl, hb2⟩) | (go_at_call 12; refine (of_calls none 0 [] _ (C_nil _ _)).mono ?_; rintro e w3 ⟨rfl, hb3⟩))
  go_ret
  exact ⟨rfl, below_step (below_step hb4 hb2) hb3⟩
end Go.Proofs.Yteiimfmanfafhaa.C
