/- Written for this claim by a program of this session (a turned copy of the print): Go functions as Lean functions, and that the Go code comes to just these answers; or a statement proved out of them. No condition. -/
import Derived.Test.YtglmfnaofpbpfaaZ2

namespace Go.Proofs.Ytglmfnaofpbpfaa.P
open Go.RowKit Go.Proofs.YtglmfnaofpbpfaaW.PrintWords Go.Proofs.YtglmfnaofpbpfaaW.PrintLast Go.Proofs.YtglmfnaofpbpfaaW.PrintMore Go.Proofs.Ytglmfnaofpbpfaa.X
attribute [local go_sem] max2_int min2_int max_two min_two max_three min_three max_four min_four   -- for this text's walks alone
set_option linter.unusedVariables false
set_option linter.unusedSimpArgs false

/-! ### lapidaryref02_Of: function 41 -/
mutual
def lapidaryref02_Of.l0 : Nat → List Int → List Bool → Int → Option (Int)
 | 0, _, _, _ => none
 | k + 1, x0, x3, x4 => if x4 < (wrap64 ((x0.length : Int) + 4)) then (if x4 < (x0.length : Int) then (if 0 ≤ x4 then (lapidaryref02_Of.j1 k x0 x3 x4 (rd x0 x4)) else (none)) else (lapidaryref02_Of.j1 k x0 x3 x4 0)) else (lapidaryref02_Of.l2 k x3 (([0, 6, 9, 10, 16, 20, 21, 22, 24, 25, 27, 28, 30, 31, 32] : List Int)) 0)
def lapidaryref02_Of.j1 : Nat → List Int → List Bool → Int → Int → Option (Int)
 | 0, _, _, _, _ => none
 | k + 1, x0, x3, x4, x5 => if x4 < 4 then (lapidaryref02_Of.j2 k x0 x3 x4 (Go.bits .xor .u8 x5 255)) else (lapidaryref02_Of.j2 k x0 x3 x4 x5)
def lapidaryref02_Of.j2 : Nat → List Int → List Bool → Int → Int → Option (Int)
 | 0, _, _, _, _ => none
 | k + 1, x0, x3, x4, x5 => lapidaryref02_Of.l1 k x0 x3 x4 x5 0
def lapidaryref02_Of.l1 : Nat → List Int → List Bool → Int → Int → Int → Option (Int)
 | 0, _, _, _, _, _ => none
 | k + 1, x0, x3, x4, x5, x6 => if x6 < 8 then (if x3.length < 140737488355328 then (lapidaryref02_Of.l1 k x0 (x3 ++ [((Int.tmod x5 2) == 1)]) x4 ((Int.tdiv x5 2) % 256) (wrap64 (x6 + 1))) else (none)) else (lapidaryref02_Of.l0 k x0 x3 (wrap64 (x4 + 1)))
def lapidaryref02_Of.l2 : Nat → List Bool → List Int → Int → Option (Int)
 | 0, _, _, _ => none
 | k + 1, x3, x7, x8 => if (wrap64 (x8 + 32)) < (x3.length : Int) then (if 0 ≤ x8 then (if x8 < (x3.length : Int) then (if rdOf false x3 x8 = true then (lapidaryref02_Of.l3 k x3 x7 x8 0) else (lapidaryref02_Of.l2 k x3 x7 (wrap64 (x8 + 1)))) else (none)) else (none)) else (lapidaryref02_Of.l4 k x3 0 31)
def lapidaryref02_Of.l3 : Nat → List Bool → List Int → Int → Int → Option (Int)
 | 0, _, _, _, _ => none
 | k + 1, x3, x7, x8, x9 => if x9 < (x7.length : Int) then (if 0 ≤ x9 then (if 0 ≤ (wrap64 (x8 + (rd x7 x9))) then (if (wrap64 (x8 + (rd x7 x9))) < (x3.length : Int) then (lapidaryref02_Of.l3 k (x3.set ((wrap64 (x8 + (rd x7 x9))) : Int).toNat (!(rdOf false x3 (wrap64 (x8 + (rd x7 x9)))))) x7 x8 (wrap64 (x9 + 1))) else (none)) else (none)) else (none)) else (lapidaryref02_Of.l2 k x3 x7 (wrap64 (x8 + 1)))
def lapidaryref02_Of.l4 : Nat → List Bool → Int → Int → Option (Int)
 | 0, _, _, _ => none
 | k + 1, x3, x10, x11 => if x11 ≥ 0 then (if 0 ≤ (wrap64 ((wrap64 ((x3.length : Int) - 32)) + x11)) then (if (wrap64 ((wrap64 ((x3.length : Int) - 32)) + x11)) < (x3.length : Int) then (if (rdOf false x3 (wrap64 ((wrap64 ((x3.length : Int) - 32)) + x11)) = true) then (lapidaryref02_Of.l4 k x3 ((x10 * 2) % 4294967296) (wrap64 (x11 - 1))) else (lapidaryref02_Of.l4 k x3 ((((x10 * 2) % 4294967296) + 1) % 4294967296) (wrap64 (x11 - 1)))) else (none)) else (none)) else (some x10)
end
def lapidaryref02_Of.f (k : Nat) (l0 : List Int) : Option (Int) := lapidaryref02_Of.l0 k l0 ([] : List Bool) 0
theorem lapidaryref02_Of.mono_l : ∀ k, (∀ y0 y1 y2, LeO (lapidaryref02_Of.l0 k y0 y1 y2) (lapidaryref02_Of.l0 (k + 1) y0 y1 y2)) ∧ (∀ y0 y1 y2 y3, LeO (lapidaryref02_Of.j1 k y0 y1 y2 y3) (lapidaryref02_Of.j1 (k + 1) y0 y1 y2 y3)) ∧ (∀ y0 y1 y2 y3, LeO (lapidaryref02_Of.j2 k y0 y1 y2 y3) (lapidaryref02_Of.j2 (k + 1) y0 y1 y2 y3)) ∧ (∀ y0 y1 y2 y3 y4, LeO (lapidaryref02_Of.l1 k y0 y1 y2 y3 y4) (lapidaryref02_Of.l1 (k + 1) y0 y1 y2 y3 y4)) ∧ (∀ y0 y1 y2, LeO (lapidaryref02_Of.l2 k y0 y1 y2) (lapidaryref02_Of.l2 (k + 1) y0 y1 y2)) ∧ (∀ y0 y1 y2 y3, LeO (lapidaryref02_Of.l3 k y0 y1 y2 y3) (lapidaryref02_Of.l3 (k + 1) y0 y1 y2 y3)) ∧ (∀ y0 y1 y2, LeO (lapidaryref02_Of.l4 k y0 y1 y2) (lapidaryref02_Of.l4 (k + 1) y0 y1 y2))
 | 0 => ⟨fun _ _ _ r h => by simp [lapidaryref02_Of.l0] at h, fun _ _ _ _ r h => by simp [lapidaryref02_Of.j1] at h, fun _ _ _ _ r h => by simp [lapidaryref02_Of.j2] at h, fun _ _ _ _ _ r h => by simp [lapidaryref02_Of.l1] at h, fun _ _ _ r h => by simp [lapidaryref02_Of.l2] at h, fun _ _ _ _ r h => by simp [lapidaryref02_Of.l3] at h, fun _ _ _ r h => by simp [lapidaryref02_Of.l4] at h⟩
 | k + 1 => by
  obtain ⟨ih0, ih1, ih2, ih3, ih4, ih5, ih6⟩ := lapidaryref02_Of.mono_l k
  refine ⟨?_, ?_, ?_, ?_, ?_, ?_, ?_⟩
  ·intro y0 y1 y2
   unfold lapidaryref02_Of.l0
   repeat' first
   | (with_reducible exact ih0 _ _ _)
   | (with_reducible exact ih1 _ _ _ _)
   | (with_reducible exact ih2 _ _ _ _)
   | (with_reducible exact ih3 _ _ _ _ _)
   | (with_reducible exact ih4 _ _ _)
   | (with_reducible exact ih5 _ _ _ _)
   | (with_reducible exact ih6 _ _ _)
   | (with_reducible exact LeO.refl _)
   | (with_reducible exact LeO.none _)
   | (with_reducible refine LeO.ite ?_ ?_)
   | (with_reducible refine LeO.bind ?_ (fun _ => ?_))
   | exact ih0 _ _ _
   | exact ih1 _ _ _ _
   | exact ih2 _ _ _ _
   | exact ih3 _ _ _ _ _
   | exact ih4 _ _ _
   | exact ih5 _ _ _ _
   | exact ih6 _ _ _
   | exact LeO.none _
   | refine LeO.ite ?_ ?_
   | refine LeO.bind ?_ (fun _ => ?_)
  ·intro y0 y1 y2 y3
   unfold lapidaryref02_Of.j1
   repeat' first
   | (with_reducible exact ih0 _ _ _)
   | (with_reducible exact ih1 _ _ _ _)
   | (with_reducible exact ih2 _ _ _ _)
   | (with_reducible exact ih3 _ _ _ _ _)
   | (with_reducible exact ih4 _ _ _)
   | (with_reducible exact ih5 _ _ _ _)
   | (with_reducible exact ih6 _ _ _)
   | (with_reducible exact LeO.refl _)
   | (with_reducible exact LeO.none _)
   | (with_reducible refine LeO.ite ?_ ?_)
   | (with_reducible refine LeO.bind ?_ (fun _ => ?_))
   | exact ih0 _ _ _
   | exact ih1 _ _ _ _
   | exact ih2 _ _ _ _
   | exact ih3 _ _ _ _ _
   | exact ih4 _ _ _
   | exact ih5 _ _ _ _
   | exact ih6 _ _ _
   | exact LeO.none _
   | refine LeO.ite ?_ ?_
   | refine LeO.bind ?_ (fun _ => ?_)
  ·intro y0 y1 y2 y3
   unfold lapidaryref02_Of.j2
   repeat' first
   | (with_reducible exact ih0 _ _ _)
   | (with_reducible exact ih1 _ _ _ _)
   | (with_reducible exact ih2 _ _ _ _)
   | (with_reducible exact ih3 _ _ _ _ _)
   | (with_reducible exact ih4 _ _ _)
   | (with_reducible exact ih5 _ _ _ _)
   | (with_reducible exact ih6 _ _ _)
   | (with_reducible exact LeO.refl _)
   | (with_reducible exact LeO.none _)
   | (with_reducible refine LeO.ite ?_ ?_)
   | (with_reducible refine LeO.bind ?_ (fun _ => ?_))
   | exact ih0 _ _ _
   | exact ih1 _ _ _ _
   | exact ih2 _ _ _ _
   | exact ih3 _ _ _ _ _
   | exact ih4 _ _ _
   | exact ih5 _ _ _ _
   | exact ih6 _ _ _
   | exact LeO.none _
   | refine LeO.ite ?_ ?_
   | refine LeO.bind ?_ (fun _ => ?_)
  ·intro y0 y1 y2 y3 y4
   unfold lapidaryref02_Of.l1
   repeat' first
   | (with_reducible exact ih0 _ _ _)
   | (with_reducible exact ih1 _ _ _ _)
   | (with_reducible exact ih2 _ _ _ _)
   | (with_reducible exact ih3 _ _ _ _ _)
   | (with_reducible exact ih4 _ _ _)
   | (with_reducible exact ih5 _ _ _ _)
   | (with_reducible exact ih6 _ _ _)
   | (with_reducible exact LeO.refl _)
   | (with_reducible exact LeO.none _)
   | (with_reducible refine LeO.ite ?_ ?_)
   | (with_reducible refine LeO.bind ?_ (fun _ => ?_))
   | exact ih0 _ _ _
   | exact ih1 _ _ _ _
   | exact ih2 _ _ _ _
   | exact ih3 _ _ _ _ _
   | exact ih4 _ _ _
   | exact ih5 _ _ _ _
   | exact ih6 _ _ _
   | exact LeO.none _
   | refine LeO.ite ?_ ?_
   | refine LeO.bind ?_ (fun _ => ?_)
  ·intro y0 y1 y2
   unfold lapidaryref02_Of.l2
   repeat' first
   | (with_reducible exact ih0 _ _ _)
   | (with_reducible exact ih1 _ _ _ _)
   | (with_reducible exact ih2 _ _ _ _)
   | (with_reducible exact ih3 _ _ _ _ _)
   | (with_reducible exact ih4 _ _ _)
   | (with_reducible exact ih5 _ _ _ _)
   | (with_reducible exact ih6 _ _ _)
   | (with_reducible exact LeO.refl _)
   | (with_reducible exact LeO.none _)
   | (with_reducible refine LeO.ite ?_ ?_)
   | (with_reducible refine LeO.bind ?_ (fun _ => ?_))
   | exact ih0 _ _ _
   | exact ih1 _ _ _ _
   | exact ih2 _ _ _ _
   | exact ih3 _ _ _ _ _
   | exact ih4 _ _ _
   | exact ih5 _ _ _ _
   | exact ih6 _ _ _
   | exact LeO.none _
   | refine LeO.ite ?_ ?_
   | refine LeO.bind ?_ (fun _ => ?_)
  ·intro y0 y1 y2 y3
   unfold lapidaryref02_Of.l3
   repeat' first
   | (with_reducible exact ih0 _ _ _)
   | (with_reducible exact ih1 _ _ _ _)
   | (with_reducible exact ih2 _ _ _ _)
   | (with_reducible exact ih3 _ _ _ _ _)
   | (with_reducible exact ih4 _ _ _)
   | (with_reducible exact ih5 _ _ _ _)
   | (with_reducible exact ih6 _ _ _)
   | (with_reducible exact LeO.refl _)
   | (with_reducible exact LeO.none _)
   | (with_reducible refine LeO.ite ?_ ?_)
   | (with_reducible refine LeO.bind ?_ (fun _ => ?_))
   | exact ih0 _ _ _
   | exact ih1 _ _ _ _
   | exact ih2 _ _ _ _
   | exact ih3 _ _ _ _ _
   | exact ih4 _ _ _
   | exact ih5 _ _ _ _
   | exact ih6 _ _ _
   | exact LeO.none _
   | refine LeO.ite ?_ ?_
   | refine LeO.bind ?_ (fun _ => ?_)
  ·intro y0 y1 y2
   unfold lapidaryref02_Of.l4
   repeat' first
   | (with_reducible exact ih0 _ _ _)
   | (with_reducible exact ih1 _ _ _ _)
   | (with_reducible exact ih2 _ _ _ _)
   | (with_reducible exact ih3 _ _ _ _ _)
   | (with_reducible exact ih4 _ _ _)
   | (with_reducible exact ih5 _ _ _ _)
   | (with_reducible exact ih6 _ _ _)
   | (with_reducible exact LeO.refl _)
   | (with_reducible exact LeO.none _)
   | (with_reducible refine LeO.ite ?_ ?_)
   | (with_reducible refine LeO.bind ?_ (fun _ => ?_))
   | exact ih0 _ _ _
   | exact ih1 _ _ _ _
   | exact ih2 _ _ _ _
   | exact ih3 _ _ _ _ _
   | exact ih4 _ _ _
   | exact ih5 _ _ _ _
   | exact ih6 _ _ _
   | exact LeO.none _
   | refine LeO.ite ?_ ?_
   | refine LeO.bind ?_ (fun _ => ?_)
theorem lapidaryref02_Of.mono : ∀ a0 k, LeO (lapidaryref02_Of.f k a0) (lapidaryref02_Of.f (k + 1) a0) := by
 intro a0 k
 obtain ⟨ih0, ih1, ih2, ih3, ih4, ih5, ih6⟩ := lapidaryref02_Of.mono_l k
 unfold lapidaryref02_Of.f
 repeat' first
   | (with_reducible exact ih0 _ _ _)
   | (with_reducible exact ih1 _ _ _ _)
   | (with_reducible exact ih2 _ _ _ _)
   | (with_reducible exact ih3 _ _ _ _ _)
   | (with_reducible exact ih4 _ _ _)
   | (with_reducible exact ih5 _ _ _ _)
   | (with_reducible exact ih6 _ _ _)
   | (with_reducible exact LeO.refl _)
   | (with_reducible exact LeO.none _)
   | (with_reducible refine LeO.ite ?_ ?_)
   | (with_reducible refine LeO.bind ?_ (fun _ => ?_))
   | exact ih0 _ _ _
   | exact ih1 _ _ _ _
   | exact ih2 _ _ _ _
   | exact ih3 _ _ _ _ _
   | exact ih4 _ _ _
   | exact ih5 _ _ _ _
   | exact ih6 _ _ _
   | exact LeO.none _
   | refine LeO.ite ?_ ?_
   | refine LeO.bind ?_ (fun _ => ?_)
def lapidaryref02_Of.T23 : Bool × List (List Nat × List Nat) := (true, [([], []), ([], []), ([], []), ([], []), ([2, 3], [2, 3]), ([4], [4]), ([1, 5], [1, 5]), ([], []), ([], []), ([], []), ([], []), ([9, 10], [9, 10]), ([11], [11]), ([8, 12], [8, 12]), ([7, 13], [7, 13]), ([14], [14]), ([15], [15]), ([0, 6, 0, 1, 2, 3, 4, 5, 6, 7, 8, 9, 10, 11, 12, 13, 14, 15, 16], [0, 6]), ([17, 16, 0, 1, 2, 3, 4, 5, 6, 7, 8, 9, 10, 11, 12, 13, 14, 15, 16], [16, 17])])
def lapidaryref02_Of.B23 : List Nat := [0, 0, 0, 0, 12, 28, 62, 0, 0, 0, 0, 1536, 3584, 7936, 16256, 32640, 65408, 131071, 262143]
theorem lapidaryref02_Of.tab23 : rtab .any (opsOf Try.f41 23) = lapidaryref02_Of.T23 := by kernel_rfl
theorem lapidaryref02_Of.bits23 : waitsOk lapidaryref02_Of.T23.2 lapidaryref02_Of.B23 = true := by kernel_rfl
set_option maxHeartbeats 8000000 in
set_option maxRecDepth 100000 in
theorem lapidaryref02_Of.calls (k : Nat) (A0 : Option Addr) (c0 : Nat) (l0 : List Int) (r : Int) (w : World) (hr0 : Kd.C (Kd.int .u8) w A0 l0.length l0) (hc0 : l0.length ≤ c0) (h : lapidaryref02_Of.f k l0 = some r) :
  Calls Try.prog 41 #[.slice A0 l0.length c0] w fun e w' => e = .returned (.int .u32 r) ∧ Below w.heap.size w w' := by
 have HR0 := Aside0.mk hr0
 have HC0 := Aside0.mk hc0
 clear hr0 hc0
 have HB := Aside0.mk (Below.refl w.heap.size w)
 have H : (lapidaryref02_Of.l0 k l0 ([] : List Bool) 0) = some r := h
 clear h
 have H' := Aside0.mk H
 clear H
 go_enter Try.func41, Try.ntmps41
 go_wp2
 go_loopg [3, 4] k (fun kq v3 v4 w' => ∃ (x3_1 : List Bool) (x4_1 : Int), v4 = .int .i64 x4_1 ∧ Aside0 (lapidaryref02_Of.l0 kq l0 x3_1 x4_1 = some r) ∧ Aside0 (kq ≤ k) ∧ Aside0 (Kd.R Kd.bool 4 w' w.heap.size (fun _ => True) v3 x3_1) ∧ Aside0 (Below w.heap.size w w'))
 case atStart => exact ⟨(([] : List Bool)), (0), (by first | rfl | (simp; done) | (simp [*]; done) | (simp; omega) | (simp [*]; omega)), H', ⟨Nat.le_refl _⟩, ⟨by first | exact Kd.R_nil _ _ _ _ _ | exact Kd.N_nil _ _ _ _ _ | exact Kd.V_nil _ _ _ _ _ | exact Kd.Q_nil _ _ _ _ _ | exact Kd.S_nil _ _ _ _ _⟩, ⟨ bH HB⟩⟩
 case round =>
  clear H'
  obtain ⟨x3_1, x4_1, rfl, HA, HK1, HO_3, HB⟩ := hrel
  cases gk with
  | zero => exact absurd HA.out (by simp [lapidaryref02_Of.l0])
  | succ k1 =>
   have H := HA.out
   clear HA
   simp only [lapidaryref02_Of.l0] at H
   by_cases c2 : x4_1 < (wrap64 ((l0.length : Int) + 4))
   ·rw [if_pos c2] at H
    have c2b0 : decide (x4_1 < (wrap64 ((l0.length : Int) + 4))) = true := decide_eq_true c2
    clear c2
    have HC3 := Aside0.mk H
    clear H
    go_upto_if 22 with (fail)
    go_cut [5] (fun v5 wc => ∃ (kq : Nat) (x5_2 : Int), v5 = .int .u8 x5_2 ∧ Aside0 (lapidaryref02_Of.j1 kq l0 x3_1 x4_1 x5_2 = some r) ∧ Aside0 (kq ≤ k1) ∧ Aside0 (Kd.R Kd.bool 4 wc w.heap.size (fun _ => True) u3 x3_1) ∧ Aside0 (Below w.heap.size w wc))
    case first =>
     have H := HC3.out
     clear HC3
     by_cases c4 : x4_1 < (l0.length : Int)
     ·rw [if_pos c4] at H
      have c4b0 : decide (x4_1 < (l0.length : Int)) = true := decide_eq_true c4
      clear c4
      (first | rw [c4b0] | (simp only [i64_w, i32_w]; rw [c4b0]) | skip)
      by_cases c5 : 0 ≤ x4_1
      ·rw [if_pos c5] at H
       have c5b0 : decide (0 ≤ x4_1) = true := decide_eq_true c5
       clear c5
       have H' := Aside0.mk H
       clear H
       have p164 : 0 ≤ (x4_1 : Int) := of_decide_eq_true (by first | (with_reducible assumption) | assumption)
       have q164 : x4_1 < (l0.length : Int) := of_decide_eq_true (by first | (with_reducible assumption) | assumption)
       obtain ⟨ad164, e164, hx164_0⟩ := Kd.at_int HR0.out x4_1 p164 q164
       cases e164
       replace hx164_0 := (HB.out.cell (World.block_lt_of_cell? w _ hx164_0)).trans hx164_0
       replace p164 := eq_true p164
       replace q164 := eq_true q164
       go_wp2
       go_meet
       case rel => exact ⟨_, (rd l0 x4_1), (by first | rfl | (simp; done) | (simp [*]; done) | (simp; omega) | (simp [*]; omega)), H', ⟨by have := HK1.out; first | omega | exact Nat.le_refl _⟩, ⟨by (with_reducible repeat (first | apply Kd.R_alloc | apply Kd.R_drewN | apply Kd.R_drew)); exact HO_3.out⟩, ⟨ bH HB⟩⟩
      ·rw [if_neg c5] at H
       exact absurd H (by simp)
     ·rw [if_neg c4] at H
      have c4b0 : decide (x4_1 < (l0.length : Int)) = false := decide_eq_false c4
      clear c4
      (first | rw [c4b0] | (simp only [i64_w, i32_w]; rw [c4b0]) | skip)
      have H' := Aside0.mk H
      clear H
      go_wp2
      go_meet
      case rel => exact ⟨_, (0), (by first | rfl | (simp; done) | (simp [*]; done) | (simp; omega) | (simp [*]; omega)), H', ⟨by have := HK1.out; first | omega | exact Nat.le_refl _⟩, ⟨by (with_reducible repeat (first | apply Kd.R_alloc | apply Kd.R_drewN | apply Kd.R_drew)); exact HO_3.out⟩, ⟨ bH HB⟩⟩
    case rest =>
     clear HC3
     try clear p1
     try clear q1
     try clear hx1
     try clear c2
     try clear c2b0
     try clear p2
     try clear c4
     try clear c4b0
     try clear c5
     try clear c5b0
     try clear hx164_0
     try clear p164
     try clear q164
     obtain ⟨kq, x5_2, rfl, HA, HJ2, HO_3, HB⟩ := hcut
     cases kq with
     | zero => exact absurd HA.out (by simp [lapidaryref02_Of.j1])
     | succ kj2 =>
      have H := HA.out
      clear HA
      simp only [lapidaryref02_Of.j1] at H
      have HC6 := Aside0.mk H
      clear H
      go_upto_if 28 with (fail)
      go_cut [5] (fun v5 wc => ∃ (kq : Nat) (x5_5 : Int), v5 = .int .u8 x5_5 ∧ Aside0 (lapidaryref02_Of.j2 kq l0 x3_1 x4_1 x5_5 = some r) ∧ Aside0 (kq ≤ kj2) ∧ Aside0 (Kd.R Kd.bool 4 wc w.heap.size (fun _ => True) u3 x3_1) ∧ Aside0 (Below w.heap.size w wc))
      case first =>
       have H := HC6.out
       clear HC6
       by_cases c7 : x4_1 < 4
       ·rw [if_pos c7] at H
        have c7b0 : decide (x4_1 < 4) = true := decide_eq_true c7
        clear c7
        (first | rw [c7b0] | (simp only [i64_w, i32_w]; rw [c7b0]) | skip)
        have H' := Aside0.mk H
        clear H
        go_wp2
        go_meet
        case rel => exact ⟨_, (Go.bits .xor .u8 x5_2 255), (by first | rfl | (simp; done) | (simp [*]; done) | (simp; omega) | (simp [*]; omega)), H', ⟨by have := HK1.out; have := HJ2.out; first | omega | exact Nat.le_refl _⟩, ⟨by (with_reducible repeat (first | apply Kd.R_alloc | apply Kd.R_drewN | apply Kd.R_drew)); exact HO_3.out⟩, ⟨ bH HB⟩⟩
       ·rw [if_neg c7] at H
        have c7b0 : decide (x4_1 < 4) = false := decide_eq_false c7
        clear c7
        (first | rw [c7b0] | (simp only [i64_w, i32_w]; rw [c7b0]) | skip)
        have H' := Aside0.mk H
        clear H
        go_wp2
        go_meet
        case rel => exact ⟨_, (x5_2), (by first | rfl | (simp; done) | (simp [*]; done) | (simp; omega) | (simp [*]; omega)), H', ⟨by have := HK1.out; have := HJ2.out; first | omega | exact Nat.le_refl _⟩, ⟨by (with_reducible repeat (first | apply Kd.R_alloc | apply Kd.R_drewN | apply Kd.R_drew)); exact HO_3.out⟩, ⟨ bH HB⟩⟩
      case rest =>
       clear HC6
       try clear p1
       try clear q1
       try clear hx1
       try clear c2
       try clear c2b0
       try clear p2
       try clear c4
       try clear c4b0
       try clear c5
       try clear c5b0
       try clear p6
       try clear c7
       try clear c7b0
       try clear hx164_0
       try clear p1
       try clear p164
       try clear p2
       try clear q1
       try clear q164
       obtain ⟨kq, x5_5, rfl, HA, HJ5, HO_3, HB⟩ := hcut
       cases kq with
       | zero => exact absurd HA.out (by simp [lapidaryref02_Of.j2])
       | succ kj5 =>
        have H := HA.out
        clear HA
        simp only [lapidaryref02_Of.j2] at H
        have H' := Aside0.mk H
        clear H
        go_wp2
        go_loopg [3, 5, 6] kj5 (fun kq v3 v5 v6 w' => ∃ (x3_4 : List Bool) (x5_4 : Int) (x6_4 : Int), v5 = .int .u8 x5_4 ∧ v6 = .int .i64 x6_4 ∧ Aside0 (lapidaryref02_Of.l1 kq l0 x3_4 x4_1 x5_4 x6_4 = some r) ∧ Aside0 (kq ≤ kj5) ∧ Aside0 (Kd.R Kd.bool 4 w' w.heap.size (fun _ => True) v3 x3_4) ∧ Aside0 (Below w.heap.size w w'))
        case atStart => exact ⟨(x3_1), (x5_5), (0), (by first | rfl | (simp; done) | (simp [*]; done) | (simp; omega) | (simp [*]; omega)), (by first | rfl | (simp; done) | (simp [*]; done) | (simp; omega) | (simp [*]; omega)), H', ⟨Nat.le_refl _⟩, ⟨by (with_reducible repeat (first | apply Kd.R_alloc | apply Kd.R_drewN | apply Kd.R_drew)); exact HO_3.out⟩, ⟨ bH HB⟩⟩
        case round =>
         clear H'
         try clear p1
         try clear q1
         try clear hx1
         try clear c2
         try clear c2b0
         try clear p2
         try clear c4
         try clear c4b0
         try clear c5
         try clear c5b0
         try clear p6
         try clear c7
         try clear c7b0
         try clear hx164_0
         try clear p1
         try clear p164
         try clear p2
         try clear p6
         try clear q1
         try clear q164
         obtain ⟨x3_4, x5_4, x6_4, rfl, rfl, HA, HK4, HO_3, HB⟩ := hrel
         cases gk with
         | zero => exact absurd HA.out (by simp [lapidaryref02_Of.l1])
         | succ k4 =>
          have H := HA.out
          clear HA
          simp only [lapidaryref02_Of.l1] at H
          by_cases c8 : x6_4 < 8
          ·rw [if_pos c8] at H
           have c8b0 : decide (x6_4 < 8) = true := decide_eq_true c8
           clear c8
           by_cases c9 : x3_4.length < 140737488355328
           ·rw [if_pos c9] at H
            have LMc9 := Aside0.mk c9
            clear c9
            obtain ⟨y165, hy165⟩ : ∃ y_ : List Bool, y_ = (x3_4 ++ [((Int.tmod x5_4 2) == 1)]) := ⟨_, rfl⟩
            replace H : (lapidaryref02_Of.l1 k4 l0 y165 x4_1 ((Int.tdiv x5_4 2) % 256) (wrap64 (x6_4 + 1))) = some r := by first | (rw [hy165]; with_reducible exact H) | (have H2_ := (Option.bind_some _ _).symm.trans H; rw [hy165]; with_reducible exact H2_) | (have H2_ := (Option.bind_some _ _).symm.trans H; with_reducible exact H2_) | with_reducible exact H | (rw [hy165]; exact H) | exact H
            have Ny165 := Aside0.mk hy165
            clear hy165
            have H' := Aside0.mk H
            clear H
            go_wp2_with (first | ((with_reducible refine gate_builtin (b := .append) (xs := #[.tmp 35, .tmp 39]) rfl ?_); at_builtin; refine Kd.R_append Kd.bool (w0 := w) w.heap.size rfl (.tmp 35) (.tmp 39) 84 4 (.bool false) 1 rfl Try.underlying84 info4 rfl (by decide) (by omega) u3 x3_4 ((Int.tmod x5_4 2) == 1) [.bool ((Int.tmod x5_4 2) == 1)] (fun _ => True) (fun _ => False) rfl rfl ?aP (fun _ hk => hk.elim) ?aF ?aO ?aB ?aS ?aL ?_; (case aP => exact rfl); (case aB => exact (bH HB)); (case aF => exact (fun _ _ => trivial)); (case aO => exact (rK HO_3)); (case aS => exact (below_size (bH HB))); (case aL => have := LMc9.out; omega); intro v166 w10 ho hb hg hat; rw [← Ny165.out] at ho; have n0_ := Aside0.mk (hb); have n1_ := Aside0.mk (ho); clear HB; clear HO_3; have HB := n0_; have HO167 := n1_; clear n0_ n1_; clear ho hb hg hat))
            go_roundg k4
            case measure => have := HK1.out; have := HJ2.out; have := HJ5.out; have := HK4.out; omega
            case rel => exact ⟨(y165), ((Int.tdiv x5_4 2) % 256), (wrap64 (x6_4 + 1)), (by first | rfl | (simp; done) | (simp [*]; done) | (simp; omega) | (simp [*]; omega)), (by first | rfl | (simp; done) | (simp [*]; done) | (simp; omega) | (simp [*]; omega)), H', ⟨by have := HK1.out; have := HJ2.out; have := HJ5.out; have := HK4.out; omega⟩, ⟨by (with_reducible repeat (first | apply Kd.R_alloc | apply Kd.R_drewN | apply Kd.R_drew)); exact HO167.out⟩, ⟨ bH HB⟩⟩
           ·rw [if_neg c9] at H
            exact absurd H (by simp)
          ·rw [if_neg c8] at H
           have c8b0 : decide (x6_4 < 8) = false := decide_eq_false c8
           clear c8
           have H' := Aside0.mk H
           clear H
           go_wp2
           go_roundg k4
           case measure => have := HK1.out; have := HJ2.out; have := HJ5.out; have := HK4.out; omega
           case rel => exact ⟨(x3_4), (wrap64 (x4_1 + 1)), (by first | rfl | (simp; done) | (simp [*]; done) | (simp; omega) | (simp [*]; omega)), H', ⟨by have := HK1.out; have := HJ2.out; have := HJ5.out; have := HK4.out; omega⟩, ⟨by (with_reducible repeat (first | apply Kd.R_alloc | apply Kd.R_drewN | apply Kd.R_drew)); exact HO_3.out⟩, ⟨ bH HB⟩⟩
   ·rw [if_neg c2] at H
    have c2b0 : decide (x4_1 < (wrap64 ((l0.length : Int) + 4))) = false := decide_eq_false c2
    clear c2
    obtain ⟨y168, hy168⟩ : ∃ y_ : List Int, y_ = (([0, 6, 9, 10, 16, 20, 21, 22, 24, 25, 27, 28, 30, 31, 32] : List Int)) := ⟨_, rfl⟩
    replace H : (lapidaryref02_Of.l2 k1 x3_1 y168 0) = some r := by first | (rw [hy168]; with_reducible exact H) | (have H2_ := (Option.bind_some _ _).symm.trans H; rw [hy168]; with_reducible exact H2_) | (have H2_ := (Option.bind_some _ _).symm.trans H; with_reducible exact H2_) | with_reducible exact H | (rw [hy168]; exact H) | exact H
    have Ny168 := Aside0.mk hy168
    clear hy168
    have H' := Aside0.mk H
    clear H
    go_wp2_with (first | ((with_reducible refine gate_dst (N := 43) rfl ?_); refine Kd.R_lit (Kd.int .i64) _ 3 ?hg (N := 43) ?hd (xs := ([0, 6, 9, 10, 16, 20, 21, 22, 24, 25, 27, 28, 30, 31, 32] : List Int)) (inner := [.int .i64 0, .int .i64 6, .int .i64 9, .int .i64 10, .int .i64 16, .int .i64 20, .int .i64 21, .int .i64 22, .int .i64 24, .int .i64 25, .int .i64 27, .int .i64 28, .int .i64 30, .int .i64 31, .int .i64 32]) (ok := fun _ => True) (okp := fun _ => True) ?hr ?hp (fun _ hk => hk) trivial (Below.refl _ _) (Nat.le_refl _) (by simp) ?_; (case hd => rfl); (case hg => rfl); (case hr => first | (go_simp; done) | (go_simp; rfl)); (case hp => exact (Reps.one (show Kd.M (Kd.int .i64) _ _ _ 0 [.int .i64 0] from rfl) (Reps.one (show Kd.M (Kd.int .i64) _ _ _ 6 [.int .i64 6] from rfl) (Reps.one (show Kd.M (Kd.int .i64) _ _ _ 9 [.int .i64 9] from rfl) (Reps.one (show Kd.M (Kd.int .i64) _ _ _ 10 [.int .i64 10] from rfl) (Reps.one (show Kd.M (Kd.int .i64) _ _ _ 16 [.int .i64 16] from rfl) (Reps.one (show Kd.M (Kd.int .i64) _ _ _ 20 [.int .i64 20] from rfl) (Reps.one (show Kd.M (Kd.int .i64) _ _ _ 21 [.int .i64 21] from rfl) (Reps.one (show Kd.M (Kd.int .i64) _ _ _ 22 [.int .i64 22] from rfl) (Reps.one (show Kd.M (Kd.int .i64) _ _ _ 24 [.int .i64 24] from rfl) (Reps.one (show Kd.M (Kd.int .i64) _ _ _ 25 [.int .i64 25] from rfl) (Reps.one (show Kd.M (Kd.int .i64) _ _ _ 27 [.int .i64 27] from rfl) (Reps.one (show Kd.M (Kd.int .i64) _ _ _ 28 [.int .i64 28] from rfl) (Reps.one (show Kd.M (Kd.int .i64) _ _ _ 30 [.int .i64 30] from rfl) (Reps.one (show Kd.M (Kd.int .i64) _ _ _ 31 [.int .i64 31] from rfl) (Reps.one (show Kd.M (Kd.int .i64) _ _ _ 32 [.int .i64 32] from rfl) (Reps.none _ _))))))))))))))))); intro v169 w11 ho12 hb hg_ hnew_; clear hg_ hnew_; (first | rw [← Ny168.out] at ho12 | (simp only [Int.reduceToNat] at ho12; rw [← Ny168.out] at ho12)); have n0_ := Aside0.mk (Kd.R_below (rK HO_3) hb); have n1_ := Aside0.mk (Kd.R_lower ho12 (below_size (bH HB))); have n2_ := Aside0.mk (below_step (bH HB) hb); clear HO_3; clear HB; have HO_3 := n0_; have HO170 := n1_; have HB := n2_; clear n0_ n1_ n2_; clear hb ho12))
    go_loopg [8] k1 (fun kq v8 w' => ∃ (x3_2 : List Bool) (x8_2 : Int), v8 = .int .i64 x8_2 ∧ Aside0 (lapidaryref02_Of.l2 kq x3_2 y168 x8_2 = some r) ∧ Aside0 (kq ≤ k1) ∧ Aside0 (Kd.R Kd.bool 4 w' w.heap.size (fun _ => True) u3 x3_2) ∧ Aside0 (Kd.R (Kd.int .i64) 3 w' w.heap.size (fun _ => True) v169 y168) ∧ Aside0 (Below w.heap.size w w'))
    case atStart => exact ⟨(x3_1), (0), (by first | rfl | (simp; done) | (simp [*]; done) | (simp; omega) | (simp [*]; omega)), H', ⟨Nat.le_refl _⟩, ⟨by (with_reducible repeat (first | apply Kd.R_alloc | apply Kd.R_drewN | apply Kd.R_drew)); exact HO_3.out⟩, ⟨by (with_reducible repeat (first | apply Kd.R_alloc | apply Kd.R_drewN | apply Kd.R_drew)); exact HO170.out⟩, ⟨ bH HB⟩⟩
    case round =>
     clear H'
     try clear p1
     try clear q1
     try clear hx1
     try clear c2
     try clear c2b0
     try clear p2
     try clear c4
     try clear c4b0
     try clear c5
     try clear c5b0
     try clear p6
     try clear c7
     try clear c7b0
     try clear c8
     try clear c8b0
     try clear c9
     try clear hx164_0
     try clear p1
     try clear p164
     try clear p2
     try clear p6
     try clear q1
     try clear q164
     obtain ⟨x3_2, x8_2, rfl, HA, HK2, HO_3, HO_7, HB⟩ := hrel
     cases gk with
     | zero => exact absurd HA.out (by simp [lapidaryref02_Of.l2])
     | succ k2 =>
      have H := HA.out
      clear HA
      simp only [lapidaryref02_Of.l2] at H
      by_cases c13 : (wrap64 (x8_2 + 32)) < (x3_2.length : Int)
      ·rw [if_pos c13] at H
       have c13b0 : decide ((wrap64 (x8_2 + 32)) < (x3_2.length : Int)) = true := decide_eq_true c13
       clear c13
       by_cases c14 : 0 ≤ x8_2
       ·rw [if_pos c14] at H
        have c14b0 : decide (0 ≤ x8_2) = true := decide_eq_true c14
        clear c14
        by_cases c15 : x8_2 < (x3_2.length : Int)
        ·rw [if_pos c15] at H
         have c15b0 : decide (x8_2 < (x3_2.length : Int)) = true := decide_eq_true c15
         clear c15
         obtain ⟨bq16, hbq16⟩ : ∃ b_ : Bool, b_ = (rdOf false x3_2 x8_2) := ⟨_, rfl⟩
         replace H : (if bq16 = true then (lapidaryref02_Of.l3 k2 x3_2 y168 x8_2 0) else (lapidaryref02_Of.l2 k2 x3_2 y168 (wrap64 (x8_2 + 1)))) = some r := by rw [← hbq16] at H; exact H
         have Nbq16 := Aside0.mk hbq16
         clear hbq16
         by_cases c17 : bq16 = true
         ·subst c17
          have H1 : (lapidaryref02_Of.l3 k2 x3_2 y168 x8_2 0) = some r := by rw [if_pos rfl] at H; exact H
          clear H
          have H := H1
          clear H1
          have H' := Aside0.mk H
          clear H
          obtain ⟨Ao18, co18, eo18⟩ := Kd.R_slice HO_3.out
          subst eo18
          have p171 : 0 ≤ (x8_2 : Int) := of_decide_eq_true (by first | (with_reducible assumption) | assumption)
          have q171 : x8_2 < (x3_2.length : Int) := of_decide_eq_true (by first | (with_reducible assumption) | assumption)
          obtain ⟨ad171, e171, hx171_0⟩ := Kd.at_bool (Kd.R_reads' HO_3.out).2.2 x8_2 p171 q171
          (try rw [← Nbq16.out] at hx171_0)
          cases e171
          replace p171 := eq_true p171
          replace q171 := eq_true q171
          go_wp2
          go_loopg [9] k2 (fun kq v9 w' => ∃ (x3_3 : List Bool) (x9_3 : Int), v9 = .int .i64 x9_3 ∧ Aside0 (lapidaryref02_Of.l3 kq x3_3 y168 x8_2 x9_3 = some r) ∧ Aside0 (kq ≤ k2) ∧ Aside0 (Kd.R Kd.bool 4 w' w.heap.size (fun _ => True) (.slice (some ad171) x3_2.length co18) x3_3) ∧ Aside0 (Kd.R (Kd.int .i64) 3 w' w.heap.size (fun _ => True) v169 y168) ∧ Aside0 (Below w.heap.size w w'))
          case atStart => exact ⟨(x3_2), (0), (by first | rfl | (simp; done) | (simp [*]; done) | (simp; omega) | (simp [*]; omega)), H', ⟨Nat.le_refl _⟩, ⟨by (with_reducible repeat (first | apply Kd.R_alloc | apply Kd.R_drewN | apply Kd.R_drew)); exact HO_3.out⟩, ⟨by (with_reducible repeat (first | apply Kd.R_alloc | apply Kd.R_drewN | apply Kd.R_drew)); exact HO_7.out⟩, ⟨ bH HB⟩⟩
          case round =>
           clear H'
           try clear c1
           try clear p1
           try clear q1
           try clear hx1
           try clear c2
           try clear c2b0
           try clear p2
           try clear c4
           try clear c4b0
           try clear c5
           try clear c5b0
           try clear p6
           try clear c7
           try clear c7b0
           try clear c8
           try clear c8b0
           try clear c9
           try clear c13
           try clear c13b0
           try clear c14
           try clear c14b0
           try clear c15
           try clear c15b0
           try clear p16
           try clear q16
           try clear hx16
           try clear c17
           try clear p17
           try clear q17
           try clear hx17
           try clear hx164_0
           try clear hx171_0
           try clear p1
           try clear p164
           try clear p171
           try clear p2
           try clear p6
           try clear q1
           try clear q164
           try clear q171
           obtain ⟨x3_3, x9_3, rfl, HA, HK3, HO_3, HO_7, HB⟩ := hrel
           have hl3_3 := (Kd.R_reads' HO_3.out).1
           rw [hl3_3] at HO_3
           (try simp only [hl3_3])
           (try simp only [hl3_3] at HO_7)
           cases gk with
           | zero => exact absurd HA.out (by simp [lapidaryref02_Of.l3])
           | succ k3 =>
            have H := HA.out
            clear HA
            simp only [lapidaryref02_Of.l3] at H
            by_cases c19 : x9_3 < (y168.length : Int)
            ·rw [if_pos c19] at H
             have c19b0 : decide (x9_3 < (y168.length : Int)) = true := decide_eq_true c19
             clear c19
             by_cases c20 : 0 ≤ x9_3
             ·rw [if_pos c20] at H
              have c20b0 : decide (0 ≤ x9_3) = true := decide_eq_true c20
              clear c20
              obtain ⟨ji21, hji21⟩ : ∃ j_ : Int, (wrap64 (x8_2 + (rd y168 x9_3))) = j_ := ⟨_, rfl⟩
              replace H : (if 0 ≤ (ji21) then (if (ji21) < (x3_3.length : Int) then (lapidaryref02_Of.l3 k3 (x3_3.set ((ji21) : Int).toNat (!(rdOf false x3_3 (ji21)))) y168 x8_2 (wrap64 (x9_3 + 1))) else (none)) else (none)) = some r := by first | (rw [hji21] at H; exact H) | (simp only [hji21] at H ⊢; exact H)
              have hji21w : (IntKind.i64.wrap (x8_2 + (rd y168 x9_3))) = ji21 := (i64_w _).trans hji21
              by_cases c22 : 0 ≤ (ji21)
              ·rw [if_pos c22] at H
               have c22b0 : decide (0 ≤ (ji21)) = true := decide_eq_true c22
               clear c22
               by_cases c23 : (ji21) < (x3_3.length : Int)
               ·rw [if_pos c23] at H
                have c23b0 : decide ((ji21) < (x3_3.length : Int)) = true := decide_eq_true c23
                clear c23
                obtain ⟨y175, hy175⟩ : ∃ y_ : List Bool, y_ = (x3_3.set ((ji21) : Int).toNat (!(rdOf false x3_3 (ji21)))) := ⟨_, rfl⟩
                replace H : (lapidaryref02_Of.l3 k3 y175 y168 x8_2 (wrap64 (x9_3 + 1))) = some r := by first | (rw [hy175]; with_reducible exact H) | (have H2_ := (Option.bind_some _ _).symm.trans H; rw [hy175]; with_reducible exact H2_) | (have H2_ := (Option.bind_some _ _).symm.trans H; with_reducible exact H2_) | with_reducible exact H | (rw [hy175]; exact H) | exact H
                have Ny175 := Aside0.mk hy175
                clear hy175
                have H' := Aside0.mk H
                clear H
                obtain ⟨Ao25, co25, eo25⟩ := Kd.R_slice HO_7.out
                subst eo25
                try go_wp2
                have n0_ := Aside0.mk (Kd.R_drew HO_3.out)
                have n1_ := Aside0.mk (Kd.R_drew HO_7.out)
                have n2_ := Aside0.mk (below_drew1 HB.out)
                clear HO_3
                clear HO_7
                clear HB
                have HO_3 := n0_
                have HO_7 := n1_
                have HB := n2_
                clear n0_ n1_ n2_
                have p172 : 0 ≤ (x9_3 : Int) := of_decide_eq_true (by first | (with_reducible assumption) | assumption)
                have q172 : x9_3 < (y168.length : Int) := of_decide_eq_true (by first | (with_reducible assumption) | assumption)
                obtain ⟨ad172, e172, hx172_0⟩ := Kd.at_int (Kd.R_reads' HO_7.out).2.2 x9_3 p172 q172
                cases e172
                replace p172 := eq_true p172
                replace q172 := eq_true q172
                have p173 : 0 ≤ (x9_3 : Int) := of_decide_eq_true (by first | (with_reducible assumption) | assumption)
                have q173 : x9_3 < (y168.length : Int) := of_decide_eq_true (by first | (with_reducible assumption) | assumption)
                obtain ⟨ad173, e173, hx173_0⟩ := Kd.at_int (Kd.R_reads' HO_7.out).2.2 x9_3 p173 q173
                obtain rfl : ad172 = ad173 := (by injection e173)
                replace p173 := eq_true p173
                replace q173 := eq_true q173
                have p174 : 0 ≤ ((ji21) : Int) := of_decide_eq_true (by first | (with_reducible assumption) | assumption)
                have q174 : (ji21) < (x3_3.length : Int) := of_decide_eq_true (by first | (with_reducible assumption) | assumption)
                obtain ⟨ad174, e174, hx174_0⟩ := Kd.at_bool (Kd.R_reads' HO_3.out).2.2 (ji21) p174 q174
                (try rw [← Nbq16.out] at hx174_0)
                obtain rfl : ad171 = ad174 := (by injection e174)
                replace p174 := eq_true p174
                replace q174 := eq_true q174
                have p24 : 0 ≤ ((ji21) : Int) := of_decide_eq_true (by first | (with_reducible assumption) | assumption)
                have q24 : ((ji21) : Int) < ((x3_3.length : Int) : Int) := of_decide_eq_true (by first | (with_reducible assumption) | assumption)
                obtain ⟨go24, co24, eo24, gb24, gl24, cl24, HG24⟩ := Kd.R_form HO_3.out (by omega)
                (first | cases eo24 | (injection eo24 with ea_ en_ ec_; (first | subst ea_ | (injection ea_ with ea_; subst ea_)); subst ec_; clear en_))
                have GB24 := Aside0.mk gb24
                have GG24 := Aside0.mk HG24
                clear gb24 gl24 HG24
                (first | simp only [add_plain] at hx171_0 | skip)
                (first | simp only [add_plain] at hx174_0 | skip)
                obtain ⟨hx24_0, hf24_0⟩ := Kd.R_celln false HO_3.out ((ji21) : Int) p24 q24
                replace p24 := eq_true p24
                replace q24 := eq_true q24
                have HP27 := Kd.R_putn HO_3.out ((ji21) : Int) (!(rdOf false x3_3 (ji21)))
                rw [← Ny175.out] at HP27
                have HQ27 := Aside0.mk HP27
                clear HP27
                refine start_ (n := 19) (S := fun w' => w'.cell? (ad172.add (x9_3).toNat) = some (.int .i64 (rd y168 x9_3)) ∧ w'.cell? (ad172.add (x9_3).toNat) = some (.int .i64 (rd y168 x9_3)) ∧ w'.cell? ⟨go24, ((ji21)).toNat, none⟩ = some (.bool (rdOf false x3_3 (ji21)))) (ds := [18]) #[false, false, false, false, false, false, false, false, false, false, false, false, false, false, false, false, false, false, false] (by kernel_rfl) rfl rfl ⟨hx172_0, hx173_0, hx174_0⟩ (fun hHeld => ?_); refine with_tabW lapidaryref02_Of.tab23 lapidaryref02_Of.bits23 (fun HT_ HW_ => ?_)
                generalize wr.drew = w26 at HO_3 HO_7 HB GG24 HQ27 hf24_0 hx172_0 hx173_0 hx174_0 hx24_0 hHeld ⊢
                refine pure_ (i := 0) (N := some 61) (v := ?_) (a' := ?_) #[true, false, false, false, false, false, false, false, false, false, false, false, false, false, false, false, false, false, false] rfl rfl (any_of HT_.out (by kernel_rfl)) (fun _ _ _ h => h) (Or.inl ⟨by rfl, ?_⟩) ?_ ?_
                rotate_left
                ·intro w'
                 go_simp
                 with_reducible rfl
                rotate_left
                ·simp only [Act.put, List.setIfInBounds_toArray, List.set_cons_zero, List.set_cons_succ, i64_w, i32_w]
                 rfl
                refine pure_ (i := 1) (N := some 62) (v := ?_) (a' := ?_) #[true, true, false, false, false, false, false, false, false, false, false, false, false, false, false, false, false, false, false] rfl rfl (any_of HT_.out (by kernel_rfl)) (fun _ _ _ h => h) (Or.inl ⟨by rfl, ?_⟩) ?_ ?_
                rotate_left
                ·intro w'
                 go_simp
                 with_reducible rfl
                rotate_left
                ·simp only [Act.put, List.setIfInBounds_toArray, List.set_cons_zero, List.set_cons_succ, i64_w, i32_w]
                 rfl
                refine pure_ (i := 2) (N := some 63) (v := ?_) (a' := ?_) #[true, true, true, false, false, false, false, false, false, false, false, false, false, false, false, false, false, false, false] rfl rfl (any_of HT_.out (by kernel_rfl)) (fun _ _ _ h => h) (Or.inl ⟨by rfl, ?_⟩) ?_ ?_
                rotate_left
                ·intro w'
                 go_simp
                 with_reducible rfl
                rotate_left
                ·simp only [Act.put, List.setIfInBounds_toArray, List.set_cons_zero, List.set_cons_succ, i64_w, i32_w]
                 rfl
                refine pure_ (i := 3) (N := some 64) (v := ?_) (a' := ?_) #[true, true, true, true, false, false, false, false, false, false, false, false, false, false, false, false, false, false, false] rfl rfl (any_of HT_.out (by kernel_rfl)) (fun _ _ _ h => h) (Or.inl ⟨by rfl, ?_⟩) ?_ ?_
                rotate_left
                ·intro w'
                 go_simp
                 with_reducible rfl
                rotate_left
                ·simp only [Act.put, List.setIfInBounds_toArray, List.set_cons_zero, List.set_cons_succ, i64_w, i32_w]
                 rfl
                refine pure_ (i := 4) (N := some 65) (v := ?_) (a' := ?_) #[true, true, true, true, true, false, false, false, false, false, false, false, false, false, false, false, false, false, false] rfl rfl (any_of HT_.out (by kernel_rfl)) (fun _ _ _ h => h) (Or.inl ⟨by rfl, ?_⟩) ?_ ?_
                rotate_left
                ·intro w'
                 go_simp
                 with_reducible rfl
                rotate_left
                ·simp only [Act.put, List.setIfInBounds_toArray, List.set_cons_zero, List.set_cons_succ, i64_w, i32_w]
                 rfl
                refine pure_ (i := 7) (N := some 68) (v := ?_) (a' := ?_) #[true, true, true, true, true, false, false, true, false, false, false, false, false, false, false, false, false, false, false] rfl rfl (any_of HT_.out (by kernel_rfl)) (fun _ _ _ h => h) (Or.inl ⟨by rfl, ?_⟩) ?_ ?_
                rotate_left
                ·intro w'
                 go_simp
                 with_reducible rfl
                rotate_left
                ·simp only [Act.put, List.setIfInBounds_toArray, List.set_cons_zero, List.set_cons_succ, i64_w, i32_w]
                 rfl
                refine pure_ (i := 8) (N := some 69) (v := ?_) (a' := ?_) #[true, true, true, true, true, false, false, true, true, false, false, false, false, false, false, false, false, false, false] rfl rfl (any_of HT_.out (by kernel_rfl)) (fun _ _ _ h => h) (Or.inl ⟨by rfl, ?_⟩) ?_ ?_
                rotate_left
                ·intro w'
                 go_simp
                 with_reducible rfl
                rotate_left
                ·simp only [Act.put, List.setIfInBounds_toArray, List.set_cons_zero, List.set_cons_succ, i64_w, i32_w]
                 rfl
                refine pure_ (i := 9) (N := some 70) (v := ?_) (a' := ?_) #[true, true, true, true, true, false, false, true, true, true, false, false, false, false, false, false, false, false, false] rfl rfl (any_of HT_.out (by kernel_rfl)) (fun _ _ _ h => h) (Or.inl ⟨by rfl, ?_⟩) ?_ ?_
                rotate_left
                ·intro w'
                 go_simp
                 with_reducible rfl
                rotate_left
                ·simp only [Act.put, List.setIfInBounds_toArray, List.set_cons_zero, List.set_cons_succ, i64_w, i32_w]
                 rfl
                refine pure_ (i := 10) (N := some 71) (v := ?_) (a' := ?_) #[true, true, true, true, true, false, false, true, true, true, true, false, false, false, false, false, false, false, false] rfl rfl (any_of HT_.out (by kernel_rfl)) (fun _ _ _ h => h) (Or.inl ⟨by rfl, ?_⟩) ?_ ?_
                rotate_left
                ·intro w'
                 go_simp
                 with_reducible rfl
                rotate_left
                ·simp only [Act.put, List.setIfInBounds_toArray, List.set_cons_zero, List.set_cons_succ, i64_w, i32_w]
                 rfl
                refine pure_ (i := 11) (N := some 72) (v := ?_) (a' := ?_) #[true, true, true, true, true, false, false, true, true, true, true, true, false, false, false, false, false, false, false] rfl rfl (any_of HT_.out (by kernel_rfl)) (fun _ _ _ h => h) (Or.inl ⟨by rfl, ?_⟩) ?_ ?_
                rotate_left
                ·intro w'
                 go_simp
                 with_reducible rfl
                rotate_left
                ·simp only [Act.put, List.setIfInBounds_toArray, List.set_cons_zero, List.set_cons_succ, i64_w, i32_w]
                 rfl
                refine take_ (i := 5) (N := some 66) (v := ?_) (a' := ?_) #[true, true, true, true, true, true, false, true, true, true, true, true, false, false, false, false, false, false, false] rfl rfl (take_ofW HT_.out HW_.out (by kernel_rfl)) (fun _ _ _ h => h) (Or.inl ⟨by rfl, ?_⟩) hHeld ?_ ?_
                rotate_left
                ·rintro w' ⟨s0, s1, s2⟩
                 go_simp
                 with_reducible rfl
                rotate_left
                ·simp only [Act.put, List.setIfInBounds_toArray, List.set_cons_zero, List.set_cons_succ, i64_w, i32_w]
                 rfl
                refine pure_ (i := 6) (N := some 67) (v := ?_) (a' := ?_) #[true, true, true, true, true, true, true, true, true, true, true, true, false, false, false, false, false, false, false] rfl rfl (any_of HT_.out (by kernel_rfl)) (fun _ _ _ h => h) (Or.inl ⟨by rfl, ?_⟩) ?_ ?_
                rotate_left
                ·intro w'
                 go_simp
                 with_reducible rfl
                rotate_left
                ·simp only [Act.put, List.setIfInBounds_toArray, List.set_cons_zero, List.set_cons_succ, i64_w, i32_w]
                 rfl
                refine take_ (i := 12) (N := some 73) (v := ?_) (a' := ?_) #[true, true, true, true, true, true, true, true, true, true, true, true, true, false, false, false, false, false, false] rfl rfl (take_ofW HT_.out HW_.out (by kernel_rfl)) (fun _ _ _ h => h) (Or.inl ⟨by rfl, ?_⟩) hHeld ?_ ?_
                rotate_left
                ·rintro w' ⟨s0, s1, s2⟩
                 go_simp
                 with_reducible rfl
                rotate_left
                ·simp only [Act.put, List.setIfInBounds_toArray, List.set_cons_zero, List.set_cons_succ, i64_w, i32_w]
                 rfl
                refine pure_ (i := 13) (N := some 74) (v := ?_) (a' := ?_) #[true, true, true, true, true, true, true, true, true, true, true, true, true, true, false, false, false, false, false] rfl rfl (any_of HT_.out (by kernel_rfl)) (fun _ _ _ h => h) (Or.inl ⟨by rfl, ?_⟩) ?_ ?_
                rotate_left
                ·intro w'
                 go_simp
                 with_reducible rfl
                rotate_left
                ·simp only [Act.put, List.setIfInBounds_toArray, List.set_cons_zero, List.set_cons_succ, i64_w, i32_w]
                 rfl
                refine pure_ (i := 14) (N := some 75) (v := ?_) (a' := ?_) #[true, true, true, true, true, true, true, true, true, true, true, true, true, true, true, false, false, false, false] rfl rfl (any_of HT_.out (by kernel_rfl)) (fun _ _ _ h => h) (Or.inl ⟨by rfl, ?_⟩) ?_ ?_
                rotate_left
                ·intro w'
                 go_simp
                 with_reducible rfl
                rotate_left
                ·simp only [Act.put, List.setIfInBounds_toArray, List.set_cons_zero, List.set_cons_succ, i64_w, i32_w]
                 rfl
                refine take_ (i := 15) (N := some 76) (v := ?_) (a' := ?_) #[true, true, true, true, true, true, true, true, true, true, true, true, true, true, true, true, false, false, false] rfl rfl (take_ofW HT_.out HW_.out (by kernel_rfl)) (fun _ _ _ h => h) (Or.inl ⟨by rfl, ?_⟩) hHeld ?_ ?_
                rotate_left
                ·rintro w' ⟨s0, s1, s2⟩
                 go_simp
                 with_reducible rfl
                rotate_left
                ·simp only [Act.put, List.setIfInBounds_toArray, List.set_cons_zero, List.set_cons_succ, i64_w, i32_w]
                 rfl
                refine pure_ (i := 16) (N := some 77) (v := ?_) (a' := ?_) #[true, true, true, true, true, true, true, true, true, true, true, true, true, true, true, true, true, false, false] rfl rfl (any_of HT_.out (by kernel_rfl)) (fun _ _ _ h => h) (Or.inl ⟨by rfl, ?_⟩) ?_ ?_
                rotate_left
                ·intro w'
                 go_simp
                 with_reducible rfl
                rotate_left
                ·simp only [Act.put, List.setIfInBounds_toArray, List.set_cons_zero, List.set_cons_succ, i64_w, i32_w]
                 rfl
                refine pure_ (i := 17) (N := some 78) (v := ?_) (a' := ?_) #[true, true, true, true, true, true, true, true, true, true, true, true, true, true, true, true, true, true, false] rfl rfl (any_of HT_.out (by kernel_rfl)) (fun _ _ _ h => h) (Or.inl ⟨by rfl, ?_⟩) ?_ ?_
                rotate_left
                ·intro w'
                 go_simp
                 with_reducible rfl
                rotate_left
                ·simp only [Act.put, List.setIfInBounds_toArray, List.set_cons_zero, List.set_cons_succ, i64_w, i32_w]
                 rfl
                refine last_ (i := 18) (N := none) #[true, true, true, true, true, true, true, true, true, true, true, true, true, true, true, true, true, true, true] rfl rfl (one_of HT_.out (by kernel_rfl)) (by decide) (fun K hK => ?_)
                refine skip_ (w1 := ?_) (by rfl) rfl ?_ ?_
                rotate_left
                ·go_simp
                 rfl
                refine hK.out _ _ ?_
                clear hK K
                refine done_ (done_of HT_.out (by kernel_rfl)) ?_
                try go_wp2
                (try simp only [← hl3_3])
                (try rw [show (({ block := go24, off := (x8_2).toNat } : Addr)) = ({ block := go24, off := 0 } : Addr).add (x8_2).toNat from by unfold Addr.add; split <;> simp_all])
                go_roundg k3
                case measure => have := HK1.out; have := HK2.out; have := HK3.out; omega
                case rel => exact ⟨(y175), (wrap64 (x9_3 + 1)), (by first | rfl | (simp; done) | (simp [*]; done) | (simp; omega) | (simp [*]; omega)), H', ⟨by have := HK1.out; have := HK2.out; have := HK3.out; omega⟩, ⟨by (try simp only [hl3_3]); (with_reducible repeat (first | apply Kd.R_alloc | apply Kd.R_drewN | apply Kd.R_drew)); exact HQ27.out⟩, ⟨by (try simp only [hl3_3]); (with_reducible repeat (first | apply Kd.R_alloc | apply Kd.R_drewN | apply Kd.R_drew)); exact Kd.R_mono (Kd.R_far (p := ⟨go24, ((ji21) : Int).toNat, none⟩) (Kd.R_types HO_7.out GG24.out (by decide)) (fun _ hk => hk.2) (.bool (!(rdOf false x3_3 (ji21))))) (fun _ hk => trivial)⟩, ⟨by repeat (first | (with_reducible first | exact HB.out | apply below_alloc | apply pw_below_drewN | apply below_drew1 | refine below_set ?_ GB24.out) | exact HB.out)⟩⟩
               ·rw [if_neg c23] at H
                exact absurd H (by simp)
              ·rw [if_neg c22] at H
               exact absurd H (by simp)
             ·rw [if_neg c20] at H
              exact absurd H (by simp)
            ·rw [if_neg c19] at H
             have c19b0 : decide (x9_3 < (y168.length : Int)) = false := decide_eq_false c19
             clear c19
             have H' := Aside0.mk H
             clear H
             obtain ⟨Ao28, co28, eo28⟩ := Kd.R_slice HO_7.out
             subst eo28
             go_wp2
             (try simp only [← hl3_3])
             (try rw [show (({ block := go24, off := (x8_2).toNat } : Addr)) = ({ block := go24, off := 0 } : Addr).add (x8_2).toNat from by unfold Addr.add; split <;> simp_all])
             go_roundg k3
             case measure => have := HK1.out; have := HK2.out; have := HK3.out; omega
             case rel => exact ⟨(x3_3), (wrap64 (x8_2 + 1)), (by first | rfl | (simp; done) | (simp [*]; done) | (simp; omega) | (simp [*]; omega)), H', ⟨by have := HK1.out; have := HK2.out; have := HK3.out; omega⟩, ⟨by (try simp only [hl3_3]); (with_reducible repeat (first | apply Kd.R_alloc | apply Kd.R_drewN | apply Kd.R_drew)); exact HO_3.out⟩, ⟨by (try simp only [hl3_3]); (with_reducible repeat (first | apply Kd.R_alloc | apply Kd.R_drewN | apply Kd.R_drew)); exact HO_7.out⟩, ⟨ bH HB⟩⟩
         ·replace c17 := Bool.eq_false_iff.mpr c17
          subst c17
          have H1 : (lapidaryref02_Of.l2 k2 x3_2 y168 (wrap64 (x8_2 + 1))) = some r := by rw [if_neg (show ¬ (false = true) by decide)] at H; exact H
          clear H
          have H := H1
          clear H1
          have H' := Aside0.mk H
          clear H
          obtain ⟨Ao29, co29, eo29⟩ := Kd.R_slice HO_3.out
          subst eo29
          have p171 : 0 ≤ (x8_2 : Int) := of_decide_eq_true (by first | (with_reducible assumption) | assumption)
          have q171 : x8_2 < (x3_2.length : Int) := of_decide_eq_true (by first | (with_reducible assumption) | assumption)
          obtain ⟨ad171, e171, hx171_0⟩ := Kd.at_bool (Kd.R_reads' HO_3.out).2.2 x8_2 p171 q171
          (try rw [← Nbq16.out] at hx171_0)
          cases e171
          replace p171 := eq_true p171
          replace q171 := eq_true q171
          go_wp2
          go_roundg k2
          case measure => have := HK1.out; have := HK2.out; omega
          case rel => exact ⟨(x3_2), (wrap64 (x8_2 + 1)), (by first | rfl | (simp; done) | (simp [*]; done) | (simp; omega) | (simp [*]; omega)), H', ⟨by have := HK1.out; have := HK2.out; omega⟩, ⟨by (with_reducible repeat (first | apply Kd.R_alloc | apply Kd.R_drewN | apply Kd.R_drew)); exact HO_3.out⟩, ⟨by (with_reducible repeat (first | apply Kd.R_alloc | apply Kd.R_drewN | apply Kd.R_drew)); exact HO_7.out⟩, ⟨ bH HB⟩⟩
        ·rw [if_neg c15] at H
         exact absurd H (by simp)
       ·rw [if_neg c14] at H
        exact absurd H (by simp)
      ·rw [if_neg c13] at H
       have c13b0 : decide ((wrap64 (x8_2 + 32)) < (x3_2.length : Int)) = false := decide_eq_false c13
       clear c13
       have H' := Aside0.mk H
       clear H
       obtain ⟨Ao30, co30, eo30⟩ := Kd.R_slice HO_3.out
       subst eo30
       go_wp2
       go_loopg [10, 11] k2 (fun kq v10 v11 w' => ∃ (x10_3 : Int) (x11_3 : Int), v10 = .int .u32 x10_3 ∧ v11 = .int .i64 x11_3 ∧ Aside0 (lapidaryref02_Of.l4 kq x3_2 x10_3 x11_3 = some r) ∧ Aside0 (kq ≤ k2) ∧ Aside0 (Kd.R Kd.bool 4 w' w.heap.size (fun _ => True) (.slice Ao30 x3_2.length co30) x3_2) ∧ Aside0 (Below w.heap.size w w'))
       case atStart => exact ⟨(0), (31), (by first | rfl | (simp; done) | (simp [*]; done) | (simp; omega) | (simp [*]; omega)), (by first | rfl | (simp; done) | (simp [*]; done) | (simp; omega) | (simp [*]; omega)), H', ⟨Nat.le_refl _⟩, ⟨by (with_reducible repeat (first | apply Kd.R_alloc | apply Kd.R_drewN | apply Kd.R_drew)); exact HO_3.out⟩, ⟨ bH HB⟩⟩
       case round =>
        clear H'
        try clear c1
        try clear p1
        try clear q1
        try clear hx1
        try clear c2
        try clear c2b0
        try clear p2
        try clear q2
        try clear hx2
        try clear hf2
        try clear c4
        try clear c4b0
        try clear c5
        try clear c5b0
        try clear p6
        try clear c7
        try clear c7b0
        try clear c8
        try clear c8b0
        try clear c9
        try clear c13
        try clear c13b0
        try clear c14
        try clear c14b0
        try clear c15
        try clear c15b0
        try clear p16
        try clear q16
        try clear hx16
        try clear c17
        try clear p17
        try clear q17
        try clear hx17
        try clear c19
        try clear c19b0
        try clear c20
        try clear c20b0
        try clear c22
        try clear c22b0
        try clear c23
        try clear c23b0
        try clear p24
        try clear q24
        try clear hx24
        try clear hf24
        try clear hx164_0
        try clear hx171_0
        try clear hx172_0
        try clear hx173_0
        try clear hx174_0
        try clear hx24_0
        try clear p1
        try clear p16
        try clear p164
        try clear p17
        try clear p171
        try clear p172
        try clear p173
        try clear p174
        try clear p2
        try clear p24
        try clear p6
        try clear q1
        try clear q16
        try clear q164
        try clear q17
        try clear q171
        try clear q172
        try clear q173
        try clear q174
        try clear q24
        obtain ⟨x10_3, x11_3, rfl, rfl, HA, HK3, HO_3, HB⟩ := hrel
        cases gk with
        | zero => exact absurd HA.out (by simp [lapidaryref02_Of.l4])
        | succ k3 =>
         have H := HA.out
         clear HA
         simp only [lapidaryref02_Of.l4] at H
         by_cases c31 : x11_3 ≥ 0
         ·rw [if_pos c31] at H
          have c31b0 : decide (0 ≤ x11_3) = true := decide_eq_true c31
          clear c31
          obtain ⟨ji32, hji32⟩ : ∃ j_ : Int, (wrap64 ((wrap64 ((x3_2.length : Int) - 32)) + x11_3)) = j_ := ⟨_, rfl⟩
          replace H : (if 0 ≤ (ji32) then (if (ji32) < (x3_2.length : Int) then (if (rdOf false x3_2 (ji32) = true) then (lapidaryref02_Of.l4 k3 x3_2 ((x10_3 * 2) % 4294967296) (wrap64 (x11_3 - 1))) else (lapidaryref02_Of.l4 k3 x3_2 ((((x10_3 * 2) % 4294967296) + 1) % 4294967296) (wrap64 (x11_3 - 1)))) else (none)) else (none)) = some r := by first | (rw [hji32] at H; exact H) | (simp only [hji32] at H ⊢; exact H)
          have hji32w : (IntKind.i64.wrap ((wrap64 ((x3_2.length : Int) - 32)) + x11_3)) = ji32 := (i64_w _).trans hji32
          by_cases c33 : 0 ≤ (ji32)
          ·rw [if_pos c33] at H
           have c33b0 : decide (0 ≤ (ji32)) = true := decide_eq_true c33
           clear c33
           by_cases c34 : (ji32) < (x3_2.length : Int)
           ·rw [if_pos c34] at H
            have c34b0 : decide ((ji32) < (x3_2.length : Int)) = true := decide_eq_true c34
            clear c34
            obtain ⟨bq35, hbq35⟩ : ∃ b_ : Bool, b_ = (rdOf false x3_2 (ji32)) := ⟨_, rfl⟩
            replace H : (if (bq35 = true) then (lapidaryref02_Of.l4 k3 x3_2 ((x10_3 * 2) % 4294967296) (wrap64 (x11_3 - 1))) else (lapidaryref02_Of.l4 k3 x3_2 ((((x10_3 * 2) % 4294967296) + 1) % 4294967296) (wrap64 (x11_3 - 1)))) = some r := by rw [← hbq35] at H; exact H
            have Nbq35 := Aside0.mk hbq35
            clear hbq35
            by_cases c36 : (bq35 = true)
            ·subst c36
             have H1 : (lapidaryref02_Of.l4 k3 x3_2 ((x10_3 * 2) % 4294967296) (wrap64 (x11_3 - 1))) = some r := by rw [if_pos rfl] at H; exact H
             clear H
             have H := H1
             clear H1
             have H' := Aside0.mk H
             clear H
             have p176 : 0 ≤ ((ji32) : Int) := of_decide_eq_true (by first | (with_reducible assumption) | assumption)
             have q176 : (ji32) < (x3_2.length : Int) := of_decide_eq_true (by first | (with_reducible assumption) | assumption)
             obtain ⟨ad176, e176, hx176_0⟩ := Kd.at_bool (Kd.R_reads' HO_3.out).2.2 (ji32) p176 q176
             (try rw [← Nbq35.out] at hx176_0)
             cases e176
             replace p176 := eq_true p176
             replace q176 := eq_true q176
             go_wp2
             go_roundg k3
             case measure => have := HK1.out; have := HK2.out; have := HK3.out; omega
             case rel => exact ⟨((x10_3 * 2) % 4294967296), (wrap64 (x11_3 - 1)), (by first | rfl | (simp; done) | (simp [*]; done) | (simp; omega) | (simp [*]; omega)), (by first | rfl | (simp; done) | (simp [*]; done) | (simp; omega) | (simp [*]; omega)), H', ⟨by have := HK1.out; have := HK2.out; have := HK3.out; omega⟩, ⟨by (with_reducible repeat (first | apply Kd.R_alloc | apply Kd.R_drewN | apply Kd.R_drew)); exact HO_3.out⟩, ⟨ bH HB⟩⟩
            ·replace c36 := Bool.eq_false_iff.mpr c36
             subst c36
             have H1 : (lapidaryref02_Of.l4 k3 x3_2 ((((x10_3 * 2) % 4294967296) + 1) % 4294967296) (wrap64 (x11_3 - 1))) = some r := by rw [if_neg (show ¬ (false = true) by decide)] at H; exact H
             clear H
             have H := H1
             clear H1
             have H' := Aside0.mk H
             clear H
             have p176 : 0 ≤ ((ji32) : Int) := of_decide_eq_true (by first | (with_reducible assumption) | assumption)
             have q176 : (ji32) < (x3_2.length : Int) := of_decide_eq_true (by first | (with_reducible assumption) | assumption)
             obtain ⟨ad176, e176, hx176_0⟩ := Kd.at_bool (Kd.R_reads' HO_3.out).2.2 (ji32) p176 q176
             (try rw [← Nbq35.out] at hx176_0)
             cases e176
             replace p176 := eq_true p176
             replace q176 := eq_true q176
             go_wp2
             go_roundg k3
             case measure => have := HK1.out; have := HK2.out; have := HK3.out; omega
             case rel => exact ⟨((((x10_3 * 2) % 4294967296) + 1) % 4294967296), (wrap64 (x11_3 - 1)), (by first | rfl | (simp; done) | (simp [*]; done) | (simp; omega) | (simp [*]; omega)), (by first | rfl | (simp; done) | (simp [*]; done) | (simp; omega) | (simp [*]; omega)), H', ⟨by have := HK1.out; have := HK2.out; have := HK3.out; omega⟩, ⟨by (with_reducible repeat (first | apply Kd.R_alloc | apply Kd.R_drewN | apply Kd.R_drew)); exact HO_3.out⟩, ⟨ bH HB⟩⟩
           ·rw [if_neg c34] at H
            exact absurd H (by simp)
          ·rw [if_neg c33] at H
           exact absurd H (by simp)
         ·rw [if_neg c31] at H
          have c31b0 : decide (0 ≤ x11_3) = false := decide_eq_false c31
          clear c31
          obtain rfl := Option.some.inj H
          go_wp2
          go_ret
          exact ⟨by first | rfl | (simp [errW_none, errW_some] <;> rfl) | (simp [*, errW_none, errW_some] <;> rfl), bH HB⟩

end Go.Proofs.Ytglmfnaofpbpfaa.P
