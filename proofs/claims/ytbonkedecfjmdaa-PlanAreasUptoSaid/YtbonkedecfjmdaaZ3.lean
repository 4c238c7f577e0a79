/- Written for this claim by a program of this session (a turned copy of the print): Go functions as Lean functions, and that the Go code comes to just these answers; or a statement proved out of them. No condition. -/
import Derived.Test.YtbonkedecfjmdaaZ2

namespace Go.Proofs.Ytbonkedecfjmdaa.P
open Go.RowKit Go.Proofs.YtbonkedecfjmdaaW.PrintWords Go.Proofs.YtbonkedecfjmdaaW.PrintLast Go.Proofs.YtbonkedecfjmdaaW.PrintMore Go.Proofs.Ytbonkedecfjmdaa.X
attribute [local go_sem] max2_int min2_int max_two min_two max_three min_three max_four min_four add64_0 add64_1 add64   -- for this text's walks alone
set_option linter.unusedVariables false
set_option linter.unusedSimpArgs false

attribute [local go_sem high] eqA27
/-! ### arc_Check: function 56 -/
mutual
def arc_Check.l0 : Nat → List (List (S27)) → Int → List (List (S27)) → Int → Int → Option (Int)
 | 0, _, _, _, _, _ => none
 | k + 1, x0, x3, x10, x11, x12 => if x12 < x11 then (if 0 ≤ x12 then (if x12 < (x10.length : Int) then (arc_Check.l0 k x0 (wrap64 (x3 + ((rd_L2 x10 x12).length : Int))) x10 x11 (wrap64 (x12 + 1))) else (none)) else (none)) else (if (x0.length : Int) > 2000 then (arc_Check.j1 k x0 true) else (arc_Check.j1 k x0 (decide (x3 > 20000))))
def arc_Check.j1 : Nat → List (List (S27)) → Bool → Option (Int)
 | 0, _, _ => none
 | k + 1, x0, x27 => if x27 = true then (some 3) else (arc_Check.l1 k x0 (x0.length : Int) 0)
def arc_Check.l1 : Nat → List (List (S27)) → Int → Int → Option (Int)
 | 0, _, _, _ => none
 | k + 1, x28, x29, x30 => if x30 < x29 then (if 0 ≤ x30 then (if x30 < (x28.length : Int) then (if ((rd_L2 x28 x30).length : Int) < 2 then (some 2) else (arc_Check.l2 k (rd_L2 x28 x30) x28 x29 x30 (rd_L2 x28 x30) ((rd_L2 x28 x30).length : Int) 0)) else (none)) else (none)) else (some 0)
def arc_Check.l2 : Nat → List (S27) → List (List (S27)) → Int → Int → List (S27) → Int → Int → Option (Int)
 | 0, _, _, _, _, _, _, _ => none
 | k + 1, x7, x28, x29, x30, x37, x38, x39 => if x39 < x38 then (if 0 ≤ x39 then (if x39 < (x37.length : Int) then ((arc_right.f ((rd_T27 x37 x39).f0) ((rd_T27 x37 x39).f1) ((rd_T27 x37 x39).f2)).bind fun t543 => (if t543 = true then (if x39 > 0 then (if 0 ≤ (wrap64 (x39 - 1)) then (if (wrap64 (x39 - 1)) < (x7.length : Int) then (if (((rd_T27 x37 x39).f0) == ((rd_T27 x7 (wrap64 (x39 - 1))).f0) && (((rd_T27 x37 x39).f1) == ((rd_T27 x7 (wrap64 (x39 - 1))).f1) && (((rd_T27 x37 x39).f2) == ((rd_T27 x7 (wrap64 (x39 - 1))).f2)))) = true then (some 2) else (arc_Check.l2 k x7 x28 x29 x30 x37 x38 (wrap64 (x39 + 1)))) else (none)) else (none)) else (arc_Check.l2 k x7 x28 x29 x30 x37 x38 (wrap64 (x39 + 1)))) else (some 2))) else (none)) else (none)) else (arc_Check.l1 k x28 x29 (wrap64 (x30 + 1)))
end
def arc_Check.f (k : Nat) (l0 : List (List (S27))) : Option (Int) := arc_Check.l0 k l0 0 l0 (l0.length : Int) 0
theorem arc_Check.mono_l : ∀ k, (∀ y0 y1 y2 y3 y4, LeO (arc_Check.l0 k y0 y1 y2 y3 y4) (arc_Check.l0 (k + 1) y0 y1 y2 y3 y4)) ∧ (∀ y0 y1, LeO (arc_Check.j1 k y0 y1) (arc_Check.j1 (k + 1) y0 y1)) ∧ (∀ y0 y1 y2, LeO (arc_Check.l1 k y0 y1 y2) (arc_Check.l1 (k + 1) y0 y1 y2)) ∧ (∀ y0 y1 y2 y3 y4 y5 y6, LeO (arc_Check.l2 k y0 y1 y2 y3 y4 y5 y6) (arc_Check.l2 (k + 1) y0 y1 y2 y3 y4 y5 y6))
 | 0 => ⟨fun _ _ _ _ _ r h => by simp [arc_Check.l0] at h, fun _ _ r h => by simp [arc_Check.j1] at h, fun _ _ _ r h => by simp [arc_Check.l1] at h, fun _ _ _ _ _ _ _ r h => by simp [arc_Check.l2] at h⟩
 | k + 1 => by
  obtain ⟨ih0, ih1, ih2, ih3⟩ := arc_Check.mono_l k
  refine ⟨?_, ?_, ?_, ?_⟩
  ·intro y0 y1 y2 y3 y4
   unfold arc_Check.l0
   repeat' first
   | (with_reducible exact ih0 _ _ _ _ _)
   | (with_reducible exact ih1 _ _)
   | (with_reducible exact ih2 _ _ _)
   | (with_reducible exact ih3 _ _ _ _ _ _ _)
   | (with_reducible exact LeO.refl _)
   | (with_reducible exact LeO.none _)
   | (with_reducible refine LeO.ite ?_ ?_)
   | (with_reducible refine LeO.bind ?_ (fun _ => ?_))
   | exact ih0 _ _ _ _ _
   | exact ih1 _ _
   | exact ih2 _ _ _
   | exact ih3 _ _ _ _ _ _ _
   | exact LeO.none _
   | refine LeO.ite ?_ ?_
   | refine LeO.bind ?_ (fun _ => ?_)
  ·intro y0 y1
   unfold arc_Check.j1
   repeat' first
   | (with_reducible exact ih0 _ _ _ _ _)
   | (with_reducible exact ih1 _ _)
   | (with_reducible exact ih2 _ _ _)
   | (with_reducible exact ih3 _ _ _ _ _ _ _)
   | (with_reducible exact LeO.refl _)
   | (with_reducible exact LeO.none _)
   | (with_reducible refine LeO.ite ?_ ?_)
   | (with_reducible refine LeO.bind ?_ (fun _ => ?_))
   | exact ih0 _ _ _ _ _
   | exact ih1 _ _
   | exact ih2 _ _ _
   | exact ih3 _ _ _ _ _ _ _
   | exact LeO.none _
   | refine LeO.ite ?_ ?_
   | refine LeO.bind ?_ (fun _ => ?_)
  ·intro y0 y1 y2
   unfold arc_Check.l1
   repeat' first
   | (with_reducible exact ih0 _ _ _ _ _)
   | (with_reducible exact ih1 _ _)
   | (with_reducible exact ih2 _ _ _)
   | (with_reducible exact ih3 _ _ _ _ _ _ _)
   | (with_reducible exact LeO.refl _)
   | (with_reducible exact LeO.none _)
   | (with_reducible refine LeO.ite ?_ ?_)
   | (with_reducible refine LeO.bind ?_ (fun _ => ?_))
   | exact ih0 _ _ _ _ _
   | exact ih1 _ _
   | exact ih2 _ _ _
   | exact ih3 _ _ _ _ _ _ _
   | exact LeO.none _
   | refine LeO.ite ?_ ?_
   | refine LeO.bind ?_ (fun _ => ?_)
  ·intro y0 y1 y2 y3 y4 y5 y6
   unfold arc_Check.l2
   repeat' first
   | (with_reducible exact ih0 _ _ _ _ _)
   | (with_reducible exact ih1 _ _)
   | (with_reducible exact ih2 _ _ _)
   | (with_reducible exact ih3 _ _ _ _ _ _ _)
   | (with_reducible exact LeO.refl _)
   | (with_reducible exact LeO.none _)
   | (with_reducible refine LeO.ite ?_ ?_)
   | (with_reducible refine LeO.bind ?_ (fun _ => ?_))
   | exact ih0 _ _ _ _ _
   | exact ih1 _ _
   | exact ih2 _ _ _
   | exact ih3 _ _ _ _ _ _ _
   | exact LeO.none _
   | refine LeO.ite ?_ ?_
   | refine LeO.bind ?_ (fun _ => ?_)
theorem arc_Check.mono : ∀ a0 k, LeO (arc_Check.f k a0) (arc_Check.f (k + 1) a0) := by
 intro a0 k
 obtain ⟨ih0, ih1, ih2, ih3⟩ := arc_Check.mono_l k
 unfold arc_Check.f
 repeat' first
   | (with_reducible exact ih0 _ _ _ _ _)
   | (with_reducible exact ih1 _ _)
   | (with_reducible exact ih2 _ _ _)
   | (with_reducible exact ih3 _ _ _ _ _ _ _)
   | (with_reducible exact LeO.refl _)
   | (with_reducible exact LeO.none _)
   | (with_reducible refine LeO.ite ?_ ?_)
   | (with_reducible refine LeO.bind ?_ (fun _ => ?_))
   | exact ih0 _ _ _ _ _
   | exact ih1 _ _
   | exact ih2 _ _ _
   | exact ih3 _ _ _ _ _ _ _
   | exact LeO.none _
   | refine LeO.ite ?_ ?_
   | refine LeO.bind ?_ (fun _ => ?_)
def arc_Check.T17 : Bool × List (List Nat × List Nat) := (true, [([], []), ([0], [0]), ([1], [1]), ([2, 1], [2]), ([3], [3]), ([4, 3], [3, 4]), ([5, 3, 3], [3, 5]), ([6], [6]), ([6], [6]), ([6], [6]), ([9, 6], [6, 9]), ([8, 10, 6], [6, 8, 10]), ([11, 6], [6, 11]), ([7, 12, 6], [6, 7, 12]), ([6, 13, 3], [3, 6, 13]), ([3, 14], [3, 14])])
def arc_Check.B17 : List Nat := [0, 1, 3, 7, 15, 31, 63, 127, 127, 127, 639, 1919, 3967, 8191, 16383, 32767]
theorem arc_Check.tab17 : rtab .any (opsOf Try.f56 17) = arc_Check.T17 := by kernel_rfl
theorem arc_Check.bits17 : waitsOk arc_Check.T17.2 arc_Check.B17 = true := by kernel_rfl
set_option maxHeartbeats 8000000 in
set_option maxRecDepth 100000 in
theorem arc_Check.calls (k : Nat) (A0 : Option Addr) (c0 : Nat) (l0 : List (List (S27))) (r : Int) (w : World) (hr0 : Kd.C (Kd.slice 27 k27) w A0 l0.length l0) (hc0 : l0.length ≤ c0) (h : arc_Check.f k l0 = some r) :
  Calls Try.prog 56 #[.slice A0 l0.length c0] w fun e w' => e = .returned (.int .i64 r) ∧ Below w.heap.size w w' := by
 have hu27 := Try.underlying27
 have HR0 := Aside0.mk hr0
 have HC0 := Aside0.mk hc0
 clear hr0 hc0
 have HB := Aside0.mk (Below.refl w.heap.size w)
 have H : (arc_Check.l0 k l0 0 l0 (l0.length : Int) 0) = some r := h
 clear h
 have H' := Aside0.mk H
 clear H
 go_enter Try.func56, Try.ntmps56
 go_wp2
 go_loopg [3, 12] k (fun kq v3 v12 w' => ∃ (x3_1 : Int) (x12_1 : Int), v3 = .int .i64 x3_1 ∧ v12 = .int .i64 x12_1 ∧ Aside0 (arc_Check.l0 kq l0 x3_1 l0 (l0.length : Int) x12_1 = some r) ∧ Aside0 (kq ≤ k) ∧ Aside0 (Below w.heap.size w w'))
 case atStart => exact ⟨(0), (0), (by first | rfl | (simp; done) | (simp [*]; done)), (by first | rfl | (simp; done) | (simp [*]; done)), H', ⟨Nat.le_refl _⟩, ⟨ bH HB⟩⟩
 case round =>
  clear H'
  obtain ⟨x3_1, x12_1, rfl, rfl, HA, HK1, HB⟩ := hrel
  cases gk with
  | zero => exact absurd HA.out (by simp [arc_Check.l0])
  | succ k1 =>
   have H := HA.out
   clear HA
   simp only [arc_Check.l0] at H
   by_cases c2 : x12_1 < (l0.length : Int)
   ·rw [if_pos c2] at H
    have c2b0 : decide (x12_1 < (l0.length : Int)) = true := decide_eq_true c2
    clear c2
    by_cases c3 : 0 ≤ x12_1
    ·rw [if_pos c3] at H
     have c3b0 : decide (0 ≤ x12_1) = true := decide_eq_true c3
     clear c3
     by_cases c4 : x12_1 < (l0.length : Int)
     ·rw [if_pos c4] at H
      have c4b0 : decide (x12_1 < (l0.length : Int)) = true := decide_eq_true c4
      clear c4
      have H' := Aside0.mk H
      clear H
      have p539 : 0 ≤ (x12_1 : Int) := of_decide_eq_true (by first | (with_reducible assumption) | assumption)
      have q539 : x12_1 < (l0.length : Int) := of_decide_eq_true (by first | (with_reducible assumption) | assumption)
      obtain ⟨ad539, A539_0, c539_0, e539, hx539_0, hl539_0, hi539_0⟩ := at_L2 HR0.out x12_1 p539 q539
      cases e539
      replace hx539_0 := (HB.out.cell (World.block_lt_of_cell? w _ hx539_0)).trans hx539_0
      have HR539_0 := Aside0.mk hi539_0
      have HC539_0 := Aside0.mk hl539_0
      clear hi539_0 hl539_0
      replace p539 := eq_true p539
      replace q539 := eq_true q539
      go_wp2
      go_roundg k1
      case measure => have := HK1.out; omega
      case rel => exact ⟨(wrap64 (x3_1 + ((rd_L2 l0 x12_1).length : Int))), (wrap64 (x12_1 + 1)), (by first | rfl | (simp; done) | (simp [*]; done)), (by first | rfl | (simp; done) | (simp [*]; done)), H', ⟨by have := HK1.out; omega⟩, ⟨ bH HB⟩⟩
     ·rw [if_neg c4] at H
      exact absurd H (by simp)
    ·rw [if_neg c3] at H
     exact absurd H (by simp)
   ·rw [if_neg c2] at H
    have c2b0 : decide (x12_1 < (l0.length : Int)) = false := decide_eq_false c2
    clear c2
    have HC5 := Aside0.mk H
    clear H
    go_upto_region 7 with (fail)
    go_cut [27] (fun v27 wc => ∃ (kq : Nat) (x27_4 : Bool), v27 = .bool x27_4 ∧ Aside0 (arc_Check.j1 kq l0 x27_4 = some r) ∧ Aside0 (kq ≤ k1) ∧ Aside0 (Below w.heap.size w wc))
    case first =>
     have H := HC5.out
     clear HC5
     by_cases c6 : (l0.length : Int) > 2000
     ·rw [if_pos c6] at H
      have c6b0 : decide (2000 < (l0.length : Int)) = true := decide_eq_true c6
      have c6b1 : decide (2000 < l0.length) = true := decide_eq_true (by omega)
      clear c6
      (first | rw [c6b0] | (simp only [i64_w, i32_w]; rw [c6b0]) | skip)
      have H' := Aside0.mk H
      clear H
      go_wp2
      go_meet
      case rel => exact ⟨_, (true), (by first | rfl | (simp; done) | (simp [*]; done)), H', ⟨by have := HK1.out; first | omega | exact Nat.le_refl _⟩, ⟨ bH HB⟩⟩
     ·rw [if_neg c6] at H
      have c6b0 : decide (2000 < (l0.length : Int)) = false := decide_eq_false c6
      have c6b1 : decide (2000 < l0.length) = false := decide_eq_false (by omega)
      clear c6
      (first | rw [c6b0] | (simp only [i64_w, i32_w]; rw [c6b0]) | skip)
      have H' := Aside0.mk H
      clear H
      go_wp2
      go_meet
      case rel => exact ⟨_, (decide (x3_1 > 20000)), (by first | rfl | (simp; done) | (simp [*]; done)), H', ⟨by have := HK1.out; first | omega | exact Nat.le_refl _⟩, ⟨ bH HB⟩⟩
    case rest =>
     clear HC5
     try clear c2
     try clear c2b0
     try clear p2
     try clear c3
     try clear c3b0
     try clear c4
     try clear c4b0
     try clear c5
     try clear p5
     try clear q5
     try clear hx5
     try clear c6
     try clear c6b0
     try clear c6b1
     try clear p6
     try clear hx539_0
     try clear p539
     try clear q539
     obtain ⟨kq, x27_4, rfl, HA, HJ4, HB⟩ := hcut
     cases kq with
     | zero => exact absurd HA.out (by simp [arc_Check.j1])
     | succ kj4 =>
      have H := HA.out
      clear HA
      simp only [arc_Check.j1] at H
      by_cases c7 : x27_4 = true
      ·subst c7
       have H1 : (some 3) = some r := by rw [if_pos rfl] at H; exact H
       clear H
       have H := H1
       clear H1
       obtain rfl := Option.some.inj H
       go_wp2
       go_ret
       exact ⟨by first | rfl | (simp [errW_none, errW_some] <;> rfl) | (simp [*, errW_none, errW_some] <;> rfl), bH HB⟩
      ·replace c7 := Bool.eq_false_iff.mpr c7
       subst c7
       have H1 : (arc_Check.l1 kj4 l0 (l0.length : Int) 0) = some r := by rw [if_neg (show ¬ (false = true) by decide)] at H; exact H
       clear H
       have H := H1
       clear H1
       have H' := Aside0.mk H
       clear H
       go_wp2
       go_loopg [30] kj4 (fun kq v30 w' => ∃ (x30_3 : Int), v30 = .int .i64 x30_3 ∧ Aside0 (arc_Check.l1 kq l0 (l0.length : Int) x30_3 = some r) ∧ Aside0 (kq ≤ kj4) ∧ Aside0 (Below w.heap.size w w'))
       case atStart => exact ⟨(0), (by first | rfl | (simp; done) | (simp [*]; done)), H', ⟨Nat.le_refl _⟩, ⟨ bH HB⟩⟩
       case round =>
        clear H'
        try clear c2
        try clear c2b0
        try clear p2
        try clear c3
        try clear c3b0
        try clear c4
        try clear c4b0
        try clear c5
        try clear p5
        try clear q5
        try clear hx5
        try clear c6
        try clear c6b0
        try clear c6b1
        try clear p6
        try clear c7
        try clear hx539_0
        try clear p2
        try clear p5
        try clear p539
        try clear p6
        try clear q5
        try clear q539
        obtain ⟨x30_3, rfl, HA, HK3, HB⟩ := hrel
        cases gk with
        | zero => exact absurd HA.out (by simp [arc_Check.l1])
        | succ k3 =>
         have H := HA.out
         clear HA
         simp only [arc_Check.l1] at H
         by_cases c8 : x30_3 < (l0.length : Int)
         ·rw [if_pos c8] at H
          have c8b0 : decide (x30_3 < (l0.length : Int)) = true := decide_eq_true c8
          clear c8
          by_cases c9 : 0 ≤ x30_3
          ·rw [if_pos c9] at H
           have c9b0 : decide (0 ≤ x30_3) = true := decide_eq_true c9
           clear c9
           by_cases c10 : x30_3 < (l0.length : Int)
           ·rw [if_pos c10] at H
            have c10b0 : decide (x30_3 < (l0.length : Int)) = true := decide_eq_true c10
            clear c10
            by_cases c11 : ((rd_L2 l0 x30_3).length : Int) < 2
            ·rw [if_pos c11] at H
             have c11b0 : decide (((rd_L2 l0 x30_3).length : Int) < 2) = true := decide_eq_true c11
             have c11b1 : decide ((rd_L2 l0 x30_3).length < 2) = true := decide_eq_true (by omega)
             clear c11
             obtain rfl := Option.some.inj H
             have p540 : 0 ≤ (x30_3 : Int) := of_decide_eq_true (by first | (with_reducible assumption) | assumption)
             have q540 : x30_3 < (l0.length : Int) := of_decide_eq_true (by first | (with_reducible assumption) | assumption)
             obtain ⟨ad540, A540_0, c540_0, e540, hx540_0, hl540_0, hi540_0⟩ := at_L2 HR0.out x30_3 p540 q540
             cases e540
             replace hx540_0 := (HB.out.cell (World.block_lt_of_cell? w _ hx540_0)).trans hx540_0
             have HR540_0 := Aside0.mk hi540_0
             have HC540_0 := Aside0.mk hl540_0
             clear hi540_0 hl540_0
             replace p540 := eq_true p540
             replace q540 := eq_true q540
             go_wp2
             go_ret
             exact ⟨by first | rfl | (simp [errW_none, errW_some] <;> rfl) | (simp [*, errW_none, errW_some] <;> rfl), bH HB⟩
            ·rw [if_neg c11] at H
             have c11b0 : decide (((rd_L2 l0 x30_3).length : Int) < 2) = false := decide_eq_false c11
             have c11b1 : decide ((rd_L2 l0 x30_3).length < 2) = false := decide_eq_false (by omega)
             clear c11
             have H' := Aside0.mk H
             clear H
             have p540 : 0 ≤ (x30_3 : Int) := of_decide_eq_true (by first | (with_reducible assumption) | assumption)
             have q540 : x30_3 < (l0.length : Int) := of_decide_eq_true (by first | (with_reducible assumption) | assumption)
             obtain ⟨ad540, A540_0, c540_0, e540, hx540_0, hl540_0, hi540_0⟩ := at_L2 HR0.out x30_3 p540 q540
             cases e540
             replace hx540_0 := (HB.out.cell (World.block_lt_of_cell? w _ hx540_0)).trans hx540_0
             have HR540_0 := Aside0.mk hi540_0
             have HC540_0 := Aside0.mk hl540_0
             clear hi540_0 hl540_0
             replace p540 := eq_true p540
             replace q540 := eq_true q540
             go_wp2
             go_loopg [39] k3 (fun kq v39 w' => ∃ (x39_4 : Int), v39 = .int .i64 x39_4 ∧ Aside0 (arc_Check.l2 kq (rd_L2 l0 x30_3) l0 (l0.length : Int) x30_3 (rd_L2 l0 x30_3) ((rd_L2 l0 x30_3).length : Int) x39_4 = some r) ∧ Aside0 (kq ≤ k3) ∧ Aside0 (Below w.heap.size w w'))
             case atStart => exact ⟨(0), (by first | rfl | (simp; done) | (simp [*]; done)), H', ⟨Nat.le_refl _⟩, ⟨ bH HB⟩⟩
             case round =>
              clear H'
              try clear c1
              try clear c2
              try clear c2b0
              try clear p2
              try clear c3
              try clear c3b0
              try clear c4
              try clear c4b0
              try clear c5
              try clear p5
              try clear q5
              try clear hx5
              try clear c6
              try clear c6b0
              try clear c6b1
              try clear p6
              try clear c7
              try clear c8
              try clear c8b0
              try clear c9
              try clear c9b0
              try clear c10
              try clear c10b0
              try clear c11
              try clear c11b0
              try clear c11b1
              try clear hx539_0
              try clear hx540_0
              try clear p2
              try clear p5
              try clear p539
              try clear p540
              try clear p6
              try clear q5
              try clear q539
              try clear q540
              obtain ⟨x39_4, rfl, HA, HK4, HB⟩ := hrel
              cases gk with
              | zero => exact absurd HA.out (by simp [arc_Check.l2])
              | succ k4 =>
               have H := HA.out
               clear HA
               simp only [arc_Check.l2] at H
               by_cases c12 : x39_4 < ((rd_L2 l0 x30_3).length : Int)
               ·rw [if_pos c12] at H
                have c12b0 : decide (x39_4 < ((rd_L2 l0 x30_3).length : Int)) = true := decide_eq_true c12
                clear c12
                by_cases c13 : 0 ≤ x39_4
                ·rw [if_pos c13] at H
                 have c13b0 : decide (0 ≤ x39_4) = true := decide_eq_true c13
                 clear c13
                 by_cases c14 : x39_4 < ((rd_L2 l0 x30_3).length : Int)
                 ·rw [if_pos c14] at H
                  have c14b0 : decide (x39_4 < ((rd_L2 l0 x30_3).length : Int)) = true := decide_eq_true c14
                  clear c14
                  replace H := Option.bind_eq_some_iff.mp H
                  obtain ⟨t543, A150, H⟩ := H
                  replace H : (if t543 = true then (if x39_4 > 0 then (if 0 ≤ (wrap64 (x39_4 - 1)) then (if (wrap64 (x39_4 - 1)) < ((rd_L2 l0 x30_3).length : Int) then (if (((rd_T27 (rd_L2 l0 x30_3) x39_4).f0) == ((rd_T27 (rd_L2 l0 x30_3) (wrap64 (x39_4 - 1))).f0) && (((rd_T27 (rd_L2 l0 x30_3) x39_4).f1) == ((rd_T27 (rd_L2 l0 x30_3) (wrap64 (x39_4 - 1))).f1) && (((rd_T27 (rd_L2 l0 x30_3) x39_4).f2) == ((rd_T27 (rd_L2 l0 x30_3) (wrap64 (x39_4 - 1))).f2)))) = true then (some 2) else (arc_Check.l2 k4 (rd_L2 l0 x30_3) l0 (l0.length : Int) x30_3 (rd_L2 l0 x30_3) ((rd_L2 l0 x30_3).length : Int) (wrap64 (x39_4 + 1)))) else (none)) else (none)) else (arc_Check.l2 k4 (rd_L2 l0 x30_3) l0 (l0.length : Int) x30_3 (rd_L2 l0 x30_3) ((rd_L2 l0 x30_3).length : Int) (wrap64 (x39_4 + 1)))) else (some 2)) = some r := H
                  have A15 := Aside0.mk A150
                  clear A150
                  by_cases c16 : t543 = true
                  ·subst c16
                   have H1 : (if x39_4 > 0 then (if 0 ≤ (wrap64 (x39_4 - 1)) then (if (wrap64 (x39_4 - 1)) < ((rd_L2 l0 x30_3).length : Int) then (if (((rd_T27 (rd_L2 l0 x30_3) x39_4).f0) == ((rd_T27 (rd_L2 l0 x30_3) (wrap64 (x39_4 - 1))).f0) && (((rd_T27 (rd_L2 l0 x30_3) x39_4).f1) == ((rd_T27 (rd_L2 l0 x30_3) (wrap64 (x39_4 - 1))).f1) && (((rd_T27 (rd_L2 l0 x30_3) x39_4).f2) == ((rd_T27 (rd_L2 l0 x30_3) (wrap64 (x39_4 - 1))).f2)))) = true then (some 2) else (arc_Check.l2 k4 (rd_L2 l0 x30_3) l0 (l0.length : Int) x30_3 (rd_L2 l0 x30_3) ((rd_L2 l0 x30_3).length : Int) (wrap64 (x39_4 + 1)))) else (none)) else (none)) else (arc_Check.l2 k4 (rd_L2 l0 x30_3) l0 (l0.length : Int) x30_3 (rd_L2 l0 x30_3) ((rd_L2 l0 x30_3).length : Int) (wrap64 (x39_4 + 1)))) = some r := by rw [if_pos rfl] at H; exact H
                   clear H
                   have H := H1
                   clear H1
                   by_cases c17 : x39_4 > 0
                   ·rw [if_pos c17] at H
                    have c17b0 : decide (0 < x39_4) = true := decide_eq_true c17
                    clear c17
                    obtain ⟨ji18, hji18⟩ : ∃ j_ : Int, (wrap64 (x39_4 - 1)) = j_ := ⟨_, rfl⟩
                    replace H : (if 0 ≤ (ji18) then (if (ji18) < ((rd_L2 l0 x30_3).length : Int) then (if (((rd_T27 (rd_L2 l0 x30_3) x39_4).f0) == ((rd_T27 (rd_L2 l0 x30_3) (ji18)).f0) && (((rd_T27 (rd_L2 l0 x30_3) x39_4).f1) == ((rd_T27 (rd_L2 l0 x30_3) (ji18)).f1) && (((rd_T27 (rd_L2 l0 x30_3) x39_4).f2) == ((rd_T27 (rd_L2 l0 x30_3) (ji18)).f2)))) = true then (some 2) else (arc_Check.l2 k4 (rd_L2 l0 x30_3) l0 (l0.length : Int) x30_3 (rd_L2 l0 x30_3) ((rd_L2 l0 x30_3).length : Int) (wrap64 (x39_4 + 1)))) else (none)) else (none)) = some r := by first | (rw [hji18] at H; exact H) | (simp only [hji18] at H ⊢; exact H)
                    (try rw [hji18] at A15)
                    have hji18w : (IntKind.i64.wrap (x39_4 - 1)) = ji18 := (i64_w _).trans hji18
                    by_cases c19 : 0 ≤ (ji18)
                    ·rw [if_pos c19] at H
                     have c19b0 : decide (0 ≤ (ji18)) = true := decide_eq_true c19
                     clear c19
                     by_cases c20 : (ji18) < ((rd_L2 l0 x30_3).length : Int)
                     ·rw [if_pos c20] at H
                      have c20b0 : decide ((ji18) < ((rd_L2 l0 x30_3).length : Int)) = true := decide_eq_true c20
                      clear c20
                      have HC21 := Aside0.mk H
                      clear H
                      have p541 : 0 ≤ (x39_4 : Int) := of_decide_eq_true (by first | (with_reducible assumption) | assumption)
                      have q541 : x39_4 < ((rd_L2 l0 x30_3).length : Int) := of_decide_eq_true (by first | (with_reducible assumption) | assumption)
                      obtain ⟨ad541, e541, hx541_0, hx541_1, hx541_2⟩ := at_T27 HR540_0.out x39_4 p541 q541
                      cases e541
                      replace hx541_0 := (HB.out.cell (World.block_lt_of_cell? w _ hx541_0)).trans hx541_0
                      replace hx541_1 := (HB.out.cell (World.block_lt_of_cell? w _ hx541_1)).trans hx541_1
                      replace hx541_2 := (HB.out.cell (World.block_lt_of_cell? w _ hx541_2)).trans hx541_2
                      replace p541 := eq_true p541
                      replace q541 := eq_true q541
                      try go_wp2_with (first | ((with_reducible refine gate_dst (N := 9) rfl ?_); refine box_event ?hg (N := 9) ?hd (cs := #[.int .i64 0, .int .i64 0, .int .i64 0]) (t := 27) ?hr ?_; (case hd => rfl); (case hg => rfl); (case hr => first | (go_simp; done) | (go_simp; rfl)); intro gb542 hg w22 hbox hb; have n0_ := Aside0.mk (below_step (bH HB) hb); have n1_ := Aside0.mk (hbox); have n2_ := Aside0.mk ((by rw [hg]; exact (below_size (bH HB)) : w.heap.size ≤ gb542)); have n3_ := n2_; clear HB; have HB := n0_; have BK542 := n1_; have GW542 := n2_; have GE542 := n3_; clear n0_ n1_ n2_ n3_; clear hb hbox hg; have hcz23_0 : w22.cell? ⟨gb542, 0, none⟩ = some (.int .i64 0) := (blk_cell BK542.out 0).trans rfl; have hcz23_1 : w22.cell? ⟨gb542, 1, none⟩ = some (.int .i64 0) := (blk_cell BK542.out 1).trans rfl; have hcz23_2 : w22.cell? ⟨gb542, 2, none⟩ = some (.int .i64 0) := (blk_cell BK542.out 2).trans rfl; have hfz23_0 := blk_frozen BK542.out 0; have hfz23_1 := blk_frozen BK542.out 1; have hfz23_2 := blk_frozen BK542.out 2))
                      have n0_ : Aside0 ((((w22.setCell ⟨gb542, 0, none⟩ (.int .i64 ((rd_T27 (rd_L2 l0 x30_3) x39_4).f0))).setCell ⟨gb542, 1, none⟩ (.int .i64 ((rd_T27 (rd_L2 l0 x30_3) x39_4).f1))).setCell ⟨gb542, 2, none⟩ (.int .i64 ((rd_T27 (rd_L2 l0 x30_3) x39_4).f2))).heap[gb542]? = some (.cells #[.int .i64 ((rd_T27 (rd_L2 l0 x30_3) x39_4).f0), .int .i64 ((rd_T27 (rd_L2 l0 x30_3) x39_4).f1), .int .i64 ((rd_T27 (rd_L2 l0 x30_3) x39_4).f2)] 27 (0, 0))) := ⟨by (with_reducible repeat (first | refine blk_drewN ?_ _ | refine blk_drew ?_ | refine blk_alloc ?_ _)); refine blk_put (cs := #[.int .i64 ((rd_T27 (rd_L2 l0 x30_3) x39_4).f0), .int .i64 ((rd_T27 (rd_L2 l0 x30_3) x39_4).f1), .int .i64 0]) ?_ 2 _ rfl; (with_reducible repeat (first | refine blk_drewN ?_ _ | refine blk_drew ?_ | refine blk_alloc ?_ _)); refine blk_put (cs := #[.int .i64 ((rd_T27 (rd_L2 l0 x30_3) x39_4).f0), .int .i64 0, .int .i64 0]) ?_ 1 _ rfl; (with_reducible repeat (first | refine blk_drewN ?_ _ | refine blk_drew ?_ | refine blk_alloc ?_ _)); refine blk_put (cs := #[.int .i64 0, .int .i64 0, .int .i64 0]) ?_ 0 _ rfl; (with_reducible repeat (first | refine blk_drewN ?_ _ | refine blk_drew ?_ | refine blk_alloc ?_ _)); exact BK542.out⟩
                      have n1_ : Aside0 (Below w.heap.size w (((w22.setCell ⟨gb542, 0, none⟩ (.int .i64 ((rd_T27 (rd_L2 l0 x30_3) x39_4).f0))).setCell ⟨gb542, 1, none⟩ (.int .i64 ((rd_T27 (rd_L2 l0 x30_3) x39_4).f1))).setCell ⟨gb542, 2, none⟩ (.int .i64 ((rd_T27 (rd_L2 l0 x30_3) x39_4).f2)))) := ⟨ bH HB⟩
                      (try clear BK542)
                      (try clear HB)
                      generalize (((w22.setCell ⟨gb542, 0, none⟩ (.int .i64 ((rd_T27 (rd_L2 l0 x30_3) x39_4).f0))).setCell ⟨gb542, 1, none⟩ (.int .i64 ((rd_T27 (rd_L2 l0 x30_3) x39_4).f1))).setCell ⟨gb542, 2, none⟩ (.int .i64 ((rd_T27 (rd_L2 l0 x30_3) x39_4).f2))) = w24 at n0_ n1_ ⊢
                      have BK542 := n0_
                      have HB := n1_
                      clear n0_ n1_
                      have n0_ := Aside0.mk (blk_drew BK542.out)
                      have n1_ := Aside0.mk (below_drew1 HB.out)
                      clear BK542
                      clear HB
                      have BK542 := n0_
                      have HB := n1_
                      clear n0_ n1_
                      have p544 : 0 ≤ ((ji18) : Int) := of_decide_eq_true (by first | (with_reducible assumption) | assumption)
                      have q544 : (ji18) < ((rd_L2 l0 x30_3).length : Int) := of_decide_eq_true (by first | (with_reducible assumption) | assumption)
                      obtain ⟨ad544, e544, hx544_0, hx544_1, hx544_2⟩ := at_T27 HR540_0.out (ji18) p544 q544
                      have hw544_2 := hx544_2
                      have hw544_1 := hx544_1
                      have hw544_0 := hx544_0
                      obtain rfl : ad541 = ad544 := (by injection e544)
                      replace hx544_0 := (HB.out.cell (World.block_lt_of_cell? w _ hx544_0)).trans hx544_0
                      replace hx544_1 := (HB.out.cell (World.block_lt_of_cell? w _ hx544_1)).trans hx544_1
                      replace hx544_2 := (HB.out.cell (World.block_lt_of_cell? w _ hx544_2)).trans hx544_2
                      replace p544 := eq_true p544
                      replace q544 := eq_true q544
                      refine start_ (n := 16) (S := fun w' => w'.cell? ⟨gb542, 0, none⟩ = some (.int .i64 ((rd_T27 (rd_L2 l0 x30_3) x39_4).f0)) ∧ w'.cell? ⟨gb542, 1, none⟩ = some (.int .i64 ((rd_T27 (rd_L2 l0 x30_3) x39_4).f1)) ∧ w'.cell? ⟨gb542, 2, none⟩ = some (.int .i64 ((rd_T27 (rd_L2 l0 x30_3) x39_4).f2)) ∧ w'.cell? (ad541.add (((ji18)).toNat * 3)) = some (.int .i64 ((rd_T27 (rd_L2 l0 x30_3) (ji18)).f0)) ∧ w'.cell? ⟨(ad541.add (((ji18)).toNat * 3)).block, (ad541.add (((ji18)).toNat * 3)).off + 1, none⟩ = some (.int .i64 ((rd_T27 (rd_L2 l0 x30_3) (ji18)).f1)) ∧ w'.cell? ⟨(ad541.add (((ji18)).toNat * 3)).block, (ad541.add (((ji18)).toNat * 3)).off + 2, none⟩ = some (.int .i64 ((rd_T27 (rd_L2 l0 x30_3) (ji18)).f2))) (ds := []) #[false, false, false, false, false, false, false, false, false, false, false, false, false, false, false, false] (by kernel_rfl) rfl rfl ⟨(blk_cell BK542.out 0).trans rfl, (blk_cell BK542.out 1).trans rfl, (blk_cell BK542.out 2).trans rfl, ((HB.out.cell (World.block_lt_of_cell? w _ hw544_0)).trans hw544_0), ((HB.out.cell (World.block_lt_of_cell? w _ hw544_1)).trans hw544_1), ((HB.out.cell (World.block_lt_of_cell? w _ hw544_2)).trans hw544_2)⟩ (fun hHeld => ?_); refine with_tabW arc_Check.tab17 arc_Check.bits17 (fun HT_ HW_ => ?_)
                      generalize w24.drew = w25 at BK542 HB hx544_0 hx544_1 hx544_2 hHeld ⊢
                      refine take_ (i := 0) (N := some 44) (v := ?_) (a' := ?_) #[true, false, false, false, false, false, false, false, false, false, false, false, false, false, false, false] rfl rfl (take_ofW HT_.out HW_.out (by kernel_rfl)) (fun _ _ _ h => h) (Or.inl ⟨by rfl, ?_⟩) hHeld ?_ ?_
                      rotate_left
                      ·rintro w' ⟨s0, s1, s2, s3, s4, s5⟩
                       go_simp
                       with_reducible rfl
                      rotate_left
                      ·simp only [Act.put, List.setIfInBounds_toArray, List.set_cons_zero, List.set_cons_succ, i64_w, i32_w]
                       rfl
                      refine one_ (i := 1) (N := some 45) #[true, true, false, false, false, false, false, false, false, false, false, false, false, false, false, false] rfl rfl (one_of HT_.out (by kernel_rfl)) (by decide) (fun K hK => ?_)
                      refine goes_ Try.func75 (by kernel_rfl) rfl #[.agg #[.int .i64 ((rd_T27 (rd_L2 l0 x30_3) x39_4).f0), .int .i64 ((rd_T27 (rd_L2 l0 x30_3) x39_4).f1), .int .i64 ((rd_T27 (rd_L2 l0 x30_3) x39_4).f2)]] (by rfl) rfl rfl (by (try simp only [List.map_toArray, List.map_cons, List.map_nil]); first | done | rfl | (simp only [List.length_drop, List.length_take]; rfl)) ?_
                      with_reducible refine (arc_right.calls ((rd_T27 (rd_L2 l0 x30_3) x39_4).f0) ((rd_T27 (rd_L2 l0 x30_3) x39_4).f1) ((rd_T27 (rd_L2 l0 x30_3) x39_4).f2) true _ A15.out).mono ?_
                      rintro e w26 ⟨rfl, hb⟩
                      refine ⟨_, rfl, ?_⟩
                      have n0_ := Aside0.mk (blk_below (g := gb542) (o := .cells #[.int .i64 ((rd_T27 (rd_L2 l0 x30_3) x39_4).f0), .int .i64 ((rd_T27 (rd_L2 l0 x30_3) x39_4).f1), .int .i64 ((rd_T27 (rd_L2 l0 x30_3) x39_4).f2)] 27 (0, 0)) (bK BK542) hb)
                      have n1_ := Aside0.mk (below_step (bH HB) hb)
                      clear BK542
                      clear HB
                      have BK542 := n0_
                      have HB := n1_
                      clear n0_ n1_
                      (try clear hb)
                      (try clear hb2)
                      (try clear hk)
                      (try clear hi)
                      refine hK.out _ _ ⟨(blk_cell BK542.out 0).trans rfl, (blk_cell BK542.out 1).trans rfl, (blk_cell BK542.out 2).trans rfl, ((HB.out.cell (World.block_lt_of_cell? w _ hw544_0)).trans hw544_0), ((HB.out.cell (World.block_lt_of_cell? w _ hw544_1)).trans hw544_1), ((HB.out.cell (World.block_lt_of_cell? w _ hw544_2)).trans hw544_2)⟩ (fun hHeld => ?_)
                      clear hK K
                      refine norm_ (a' := ?_) ?_ ?_
                      rotate_left
                      ·show Act.put _ (some 45) _ = _
                       simp only [Act.put, List.setIfInBounds_toArray, List.set_cons_zero, List.set_cons_succ, i64_w, i32_w]
                       rfl
                      refine pure_ (i := 2) (N := some 46) (v := ?_) (a' := ?_) #[true, true, true, false, false, false, false, false, false, false, false, false, false, false, false, false] rfl rfl (any_of HT_.out (by kernel_rfl)) (fun _ _ _ h => h) (Or.inl ⟨by rfl, ?_⟩) ?_ ?_
                      rotate_left
                      ·intro w'
                       go_simp
                       with_reducible rfl
                      rotate_left
                      ·simp only [Act.put, List.setIfInBounds_toArray, List.set_cons_zero, List.set_cons_succ, i64_w, i32_w]
                       rfl
                      refine pure_ (i := 3) (N := some 47) (v := ?_) (a' := ?_) #[true, true, true, true, false, false, false, false, false, false, false, false, false, false, false, false] rfl rfl (any_of HT_.out (by kernel_rfl)) (fun _ _ _ h => h) (Or.inl ⟨by rfl, ?_⟩) ?_ ?_
                      rotate_left
                      ·intro w'
                       go_simp
                       with_reducible rfl
                      rotate_left
                      ·simp only [Act.put, List.setIfInBounds_toArray, List.set_cons_zero, List.set_cons_succ, i64_w, i32_w]
                       rfl
                      refine pure_ (i := 4) (N := some 48) (v := ?_) (a' := ?_) #[true, true, true, true, true, false, false, false, false, false, false, false, false, false, false, false] rfl rfl (any_of HT_.out (by kernel_rfl)) (fun _ _ _ h => h) (Or.inl ⟨by rfl, ?_⟩) ?_ ?_
                      rotate_left
                      ·intro w'
                       go_simp
                       with_reducible rfl
                      rotate_left
                      ·simp only [Act.put, List.setIfInBounds_toArray, List.set_cons_zero, List.set_cons_succ, i64_w, i32_w]
                       rfl
                      refine pure_ (i := 5) (N := some 49) (v := ?_) (a' := ?_) #[true, true, true, true, true, true, false, false, false, false, false, false, false, false, false, false] rfl rfl (any_of HT_.out (by kernel_rfl)) (fun _ _ _ h => h) (Or.inl ⟨by rfl, ?_⟩) ?_ ?_
                      rotate_left
                      ·intro w'
                       go_simp
                       with_reducible rfl
                      rotate_left
                      ·simp only [Act.put, List.setIfInBounds_toArray, List.set_cons_zero, List.set_cons_succ, i64_w, i32_w]
                       rfl
                      refine pure_ (i := 6) (N := some 50) (v := ?_) (a' := ?_) #[true, true, true, true, true, true, true, false, false, false, false, false, false, false, false, false] rfl rfl (any_of HT_.out (by kernel_rfl)) (fun _ _ _ h => h) (Or.inl ⟨by rfl, ?_⟩) ?_ ?_
                      rotate_left
                      ·intro w'
                       go_simp
                       with_reducible rfl
                      rotate_left
                      ·simp only [Act.put, List.setIfInBounds_toArray, List.set_cons_zero, List.set_cons_succ, i64_w, i32_w]
                       rfl
                      refine pure_ (i := 8) (N := some 52) (v := ?_) (a' := ?_) #[true, true, true, true, true, true, true, false, true, false, false, false, false, false, false, false] rfl rfl (any_of HT_.out (by kernel_rfl)) (fun _ _ _ h => h) (Or.inl ⟨by rfl, ?_⟩) ?_ ?_
                      rotate_left
                      ·intro w'
                       go_simp
                       with_reducible rfl
                      rotate_left
                      ·simp only [Act.put, List.setIfInBounds_toArray, List.set_cons_zero, List.set_cons_succ, i64_w, i32_w]
                       rfl
                      refine pure_ (i := 9) (N := some 53) (v := ?_) (a' := ?_) #[true, true, true, true, true, true, true, false, true, true, false, false, false, false, false, false] rfl rfl (any_of HT_.out (by kernel_rfl)) (fun _ _ _ h => h) (Or.inl ⟨by rfl, ?_⟩) ?_ ?_
                      rotate_left
                      ·intro w'
                       go_simp
                       with_reducible rfl
                      rotate_left
                      ·simp only [Act.put, List.setIfInBounds_toArray, List.set_cons_zero, List.set_cons_succ, i64_w, i32_w]
                       rfl
                      refine pure_ (i := 10) (N := some 54) (v := ?_) (a' := ?_) #[true, true, true, true, true, true, true, false, true, true, true, false, false, false, false, false] rfl rfl (any_of HT_.out (by kernel_rfl)) (fun _ _ _ h => h) (Or.inl ⟨by rfl, ?_⟩) ?_ ?_
                      rotate_left
                      ·intro w'
                       go_simp
                       with_reducible rfl
                      rotate_left
                      ·simp only [Act.put, List.setIfInBounds_toArray, List.set_cons_zero, List.set_cons_succ, i64_w, i32_w]
                       rfl
                      refine pure_ (i := 11) (N := some 55) (v := ?_) (a' := ?_) #[true, true, true, true, true, true, true, false, true, true, true, true, false, false, false, false] rfl rfl (any_of HT_.out (by kernel_rfl)) (fun _ _ _ h => h) (Or.inl ⟨by rfl, ?_⟩) ?_ ?_
                      rotate_left
                      ·intro w'
                       go_simp
                       with_reducible rfl
                      rotate_left
                      ·simp only [Act.put, List.setIfInBounds_toArray, List.set_cons_zero, List.set_cons_succ, i64_w, i32_w]
                       rfl
                      refine take_ (i := 7) (N := some 51) (v := ?_) (a' := ?_) #[true, true, true, true, true, true, true, true, true, true, true, true, false, false, false, false] rfl rfl (take_ofW HT_.out HW_.out (by kernel_rfl)) (fun _ _ _ h => h) (Or.inl ⟨by rfl, ?_⟩) hHeld ?_ ?_
                      rotate_left
                      ·rintro w' ⟨s0, s1, s2, s3, s4, s5⟩
                       go_simp
                       with_reducible rfl
                      rotate_left
                      ·simp only [Act.put, List.setIfInBounds_toArray, List.set_cons_zero, List.set_cons_succ, i64_w, i32_w]
                       rfl
                      refine take_ (i := 12) (N := some 56) (v := ?_) (a' := ?_) #[true, true, true, true, true, true, true, true, true, true, true, true, true, false, false, false] rfl rfl (take_ofW HT_.out HW_.out (by kernel_rfl)) (fun _ _ _ h => h) (Or.inl ⟨by rfl, ?_⟩) hHeld ?_ ?_
                      rotate_left
                      ·rintro w' ⟨s0, s1, s2, s3, s4, s5⟩
                       go_simp
                       with_reducible rfl
                      rotate_left
                      ·simp only [Act.put, List.setIfInBounds_toArray, List.set_cons_zero, List.set_cons_succ, i64_w, i32_w]
                       rfl
                      refine pure_ (i := 13) (N := some 57) (v := ?_) (a' := ?_) #[true, true, true, true, true, true, true, true, true, true, true, true, true, true, false, false] rfl rfl (any_of HT_.out (by kernel_rfl)) (fun _ _ _ h => h) (Or.inl ⟨by rfl, ?_⟩) ?_ ?_
                      rotate_left
                      ·intro w'
                       go_simp
                       with_reducible rfl
                      rotate_left
                      ·simp only [Act.put, List.setIfInBounds_toArray, List.set_cons_zero, List.set_cons_succ, i64_w, i32_w]
                       rfl
                      refine pure_ (i := 14) (N := some 58) (v := ?_) (a' := ?_) #[true, true, true, true, true, true, true, true, true, true, true, true, true, true, true, false] rfl rfl (any_of HT_.out (by kernel_rfl)) (fun _ _ _ h => h) (Or.inl ⟨by rfl, ?_⟩) ?_ ?_
                      rotate_left
                      ·intro w'
                       go_simp
                       with_reducible rfl
                      rotate_left
                      ·simp only [Act.put, List.setIfInBounds_toArray, List.set_cons_zero, List.set_cons_succ, i64_w, i32_w]
                       rfl
                      refine pure_ (i := 15) (N := some 59) (v := ?_) (a' := ?_) #[true, true, true, true, true, true, true, true, true, true, true, true, true, true, true, true] rfl rfl (any_of HT_.out (by kernel_rfl)) (fun _ _ _ h => h) (Or.inl ⟨by rfl, ?_⟩) ?_ ?_
                      rotate_left
                      ·intro w'
                       go_simp
                       with_reducible rfl
                      rotate_left
                      ·simp only [Act.put, List.setIfInBounds_toArray, List.set_cons_zero, List.set_cons_succ, i64_w, i32_w]
                       rfl
                      refine done_ (done_of HT_.out (by kernel_rfl)) ?_
                      go_upto_if 59 with (fail)
                      have H := HC21.out
                      clear HC21
                      by_cases c27 : (((rd_T27 (rd_L2 l0 x30_3) x39_4).f0) == ((rd_T27 (rd_L2 l0 x30_3) (ji18)).f0) && (((rd_T27 (rd_L2 l0 x30_3) x39_4).f1) == ((rd_T27 (rd_L2 l0 x30_3) (ji18)).f1) && (((rd_T27 (rd_L2 l0 x30_3) x39_4).f2) == ((rd_T27 (rd_L2 l0 x30_3) (ji18)).f2)))) = true
                      ·rw [if_pos c27] at H
                       have c27b0 : (((rd_T27 (rd_L2 l0 x30_3) x39_4).f0) == ((rd_T27 (rd_L2 l0 x30_3) (ji18)).f0) && (((rd_T27 (rd_L2 l0 x30_3) x39_4).f1) == ((rd_T27 (rd_L2 l0 x30_3) (ji18)).f1) && (((rd_T27 (rd_L2 l0 x30_3) x39_4).f2) == ((rd_T27 (rd_L2 l0 x30_3) (ji18)).f2)))) = true := c27
                       (try (have c27b1 : decide (((rd_T27 (rd_L2 l0 x30_3) x39_4).f0) = ((rd_T27 (rd_L2 l0 x30_3) (ji18)).f0) && (((rd_T27 (rd_L2 l0 x30_3) x39_4).f1) == ((rd_T27 (rd_L2 l0 x30_3) (ji18)).f1) && (((rd_T27 (rd_L2 l0 x30_3) x39_4).f2) == ((rd_T27 (rd_L2 l0 x30_3) (ji18)).f2)))) = true := by simpa using c27))
                       (try (have c27b2 : (((rd_T27 (rd_L2 l0 x30_3) x39_4).f0) == ((rd_T27 (rd_L2 l0 x30_3) (ji18)).f0) && (((rd_T27 (rd_L2 l0 x30_3) x39_4).f1) == ((rd_T27 (rd_L2 l0 x30_3) (ji18)).f1) && (((rd_T27 (rd_L2 l0 x30_3) x39_4).f2) == ((rd_T27 (rd_L2 l0 x30_3) (ji18)).f2)))) = true := by simpa using c27))
                       clear c27
                       (first | rw [c27b0] | (simp only [i64_w, i32_w]; rw [c27b0]) | skip)
                       obtain rfl := Option.some.inj H
                       go_wp2
                       go_ret
                       exact ⟨by first | rfl | (simp [errW_none, errW_some] <;> rfl) | (simp only [← hji18]; first | rfl | (simp [errW_none, errW_some] <;> rfl)) | (simp [*, errW_none, errW_some] <;> rfl), bH HB⟩
                      ·rw [if_neg c27] at H
                       have c27b0 : (((rd_T27 (rd_L2 l0 x30_3) x39_4).f0) == ((rd_T27 (rd_L2 l0 x30_3) (ji18)).f0) && (((rd_T27 (rd_L2 l0 x30_3) x39_4).f1) == ((rd_T27 (rd_L2 l0 x30_3) (ji18)).f1) && (((rd_T27 (rd_L2 l0 x30_3) x39_4).f2) == ((rd_T27 (rd_L2 l0 x30_3) (ji18)).f2)))) = false := by simpa using c27
                       (try (have c27b1 : decide (((rd_T27 (rd_L2 l0 x30_3) x39_4).f0) = ((rd_T27 (rd_L2 l0 x30_3) (ji18)).f0) && (((rd_T27 (rd_L2 l0 x30_3) x39_4).f1) == ((rd_T27 (rd_L2 l0 x30_3) (ji18)).f1) && (((rd_T27 (rd_L2 l0 x30_3) x39_4).f2) == ((rd_T27 (rd_L2 l0 x30_3) (ji18)).f2)))) = false := by simpa using c27))
                       (try (have c27b2 : (((rd_T27 (rd_L2 l0 x30_3) x39_4).f0) == ((rd_T27 (rd_L2 l0 x30_3) (ji18)).f0) && (((rd_T27 (rd_L2 l0 x30_3) x39_4).f1) == ((rd_T27 (rd_L2 l0 x30_3) (ji18)).f1) && (((rd_T27 (rd_L2 l0 x30_3) x39_4).f2) == ((rd_T27 (rd_L2 l0 x30_3) (ji18)).f2)))) = false := by simpa using c27))
                       (try (have c27b3 : ¬ (((rd_T27 (rd_L2 l0 x30_3) x39_4).f0) = ((rd_T27 (rd_L2 l0 x30_3) (ji18)).f0) && (((rd_T27 (rd_L2 l0 x30_3) x39_4).f1) == ((rd_T27 (rd_L2 l0 x30_3) (ji18)).f1) && (((rd_T27 (rd_L2 l0 x30_3) x39_4).f2) == ((rd_T27 (rd_L2 l0 x30_3) (ji18)).f2)))) := by simpa using c27))
                       clear c27
                       (first | rw [c27b0] | (simp only [i64_w, i32_w]; rw [c27b0]) | skip)
                       have H' := Aside0.mk H
                       clear H
                       go_wp2
                       go_roundg k4
                       case measure => have := HK1.out; have := HJ4.out; have := HK3.out; have := HK4.out; omega
                       case rel => exact ⟨(wrap64 (x39_4 + 1)), (by first | rfl | (simp; done) | (simp [*]; done)), H', ⟨by have := HK1.out; have := HJ4.out; have := HK3.out; have := HK4.out; omega⟩, ⟨ bH HB⟩⟩
                     ·rw [if_neg c20] at H
                      exact absurd H (by simp)
                    ·rw [if_neg c19] at H
                     exact absurd H (by simp)
                   ·rw [if_neg c17] at H
                    have c17b0 : decide (0 < x39_4) = false := decide_eq_false c17
                    clear c17
                    have H' := Aside0.mk H
                    clear H
                    have p541 : 0 ≤ (x39_4 : Int) := of_decide_eq_true (by first | (with_reducible assumption) | assumption)
                    have q541 : x39_4 < ((rd_L2 l0 x30_3).length : Int) := of_decide_eq_true (by first | (with_reducible assumption) | assumption)
                    obtain ⟨ad541, e541, hx541_0, hx541_1, hx541_2⟩ := at_T27 HR540_0.out x39_4 p541 q541
                    cases e541
                    replace hx541_0 := (HB.out.cell (World.block_lt_of_cell? w _ hx541_0)).trans hx541_0
                    replace hx541_1 := (HB.out.cell (World.block_lt_of_cell? w _ hx541_1)).trans hx541_1
                    replace hx541_2 := (HB.out.cell (World.block_lt_of_cell? w _ hx541_2)).trans hx541_2
                    replace p541 := eq_true p541
                    replace q541 := eq_true q541
                    try go_wp2_with (first | ((with_reducible refine gate_dst (N := 9) rfl ?_); refine box_event ?hg (N := 9) ?hd (cs := #[.int .i64 0, .int .i64 0, .int .i64 0]) (t := 27) ?hr ?_; (case hd => rfl); (case hg => rfl); (case hr => first | (go_simp; done) | (go_simp; rfl)); intro gb542 hg w28 hbox hb; have n0_ := Aside0.mk (below_step (bH HB) hb); have n1_ := Aside0.mk (hbox); have n2_ := Aside0.mk ((by rw [hg]; exact (below_size (bH HB)) : w.heap.size ≤ gb542)); have n3_ := n2_; clear HB; have HB := n0_; have BK542 := n1_; have GW542 := n2_; have GE542 := n3_; clear n0_ n1_ n2_ n3_; clear hb hbox hg; have hcz29_0 : w28.cell? ⟨gb542, 0, none⟩ = some (.int .i64 0) := (blk_cell BK542.out 0).trans rfl; have hcz29_1 : w28.cell? ⟨gb542, 1, none⟩ = some (.int .i64 0) := (blk_cell BK542.out 1).trans rfl; have hcz29_2 : w28.cell? ⟨gb542, 2, none⟩ = some (.int .i64 0) := (blk_cell BK542.out 2).trans rfl; have hfz29_0 := blk_frozen BK542.out 0; have hfz29_1 := blk_frozen BK542.out 1; have hfz29_2 := blk_frozen BK542.out 2))
                    have n0_ : Aside0 ((((w28.setCell ⟨gb542, 0, none⟩ (.int .i64 ((rd_T27 (rd_L2 l0 x30_3) x39_4).f0))).setCell ⟨gb542, 1, none⟩ (.int .i64 ((rd_T27 (rd_L2 l0 x30_3) x39_4).f1))).setCell ⟨gb542, 2, none⟩ (.int .i64 ((rd_T27 (rd_L2 l0 x30_3) x39_4).f2))).heap[gb542]? = some (.cells #[.int .i64 ((rd_T27 (rd_L2 l0 x30_3) x39_4).f0), .int .i64 ((rd_T27 (rd_L2 l0 x30_3) x39_4).f1), .int .i64 ((rd_T27 (rd_L2 l0 x30_3) x39_4).f2)] 27 (0, 0))) := ⟨by (with_reducible repeat (first | refine blk_drewN ?_ _ | refine blk_drew ?_ | refine blk_alloc ?_ _)); refine blk_put (cs := #[.int .i64 ((rd_T27 (rd_L2 l0 x30_3) x39_4).f0), .int .i64 ((rd_T27 (rd_L2 l0 x30_3) x39_4).f1), .int .i64 0]) ?_ 2 _ rfl; (with_reducible repeat (first | refine blk_drewN ?_ _ | refine blk_drew ?_ | refine blk_alloc ?_ _)); refine blk_put (cs := #[.int .i64 ((rd_T27 (rd_L2 l0 x30_3) x39_4).f0), .int .i64 0, .int .i64 0]) ?_ 1 _ rfl; (with_reducible repeat (first | refine blk_drewN ?_ _ | refine blk_drew ?_ | refine blk_alloc ?_ _)); refine blk_put (cs := #[.int .i64 0, .int .i64 0, .int .i64 0]) ?_ 0 _ rfl; (with_reducible repeat (first | refine blk_drewN ?_ _ | refine blk_drew ?_ | refine blk_alloc ?_ _)); exact BK542.out⟩
                    have n1_ : Aside0 (Below w.heap.size w (((w28.setCell ⟨gb542, 0, none⟩ (.int .i64 ((rd_T27 (rd_L2 l0 x30_3) x39_4).f0))).setCell ⟨gb542, 1, none⟩ (.int .i64 ((rd_T27 (rd_L2 l0 x30_3) x39_4).f1))).setCell ⟨gb542, 2, none⟩ (.int .i64 ((rd_T27 (rd_L2 l0 x30_3) x39_4).f2)))) := ⟨ bH HB⟩
                    (try clear BK542)
                    (try clear HB)
                    generalize (((w28.setCell ⟨gb542, 0, none⟩ (.int .i64 ((rd_T27 (rd_L2 l0 x30_3) x39_4).f0))).setCell ⟨gb542, 1, none⟩ (.int .i64 ((rd_T27 (rd_L2 l0 x30_3) x39_4).f1))).setCell ⟨gb542, 2, none⟩ (.int .i64 ((rd_T27 (rd_L2 l0 x30_3) x39_4).f2))) = w30 at n0_ n1_ ⊢
                    have BK542 := n0_
                    have HB := n1_
                    clear n0_ n1_
                    have n0_ := Aside0.mk (blk_drew BK542.out)
                    have n1_ := Aside0.mk (below_drew1 HB.out)
                    clear BK542
                    clear HB
                    have BK542 := n0_
                    have HB := n1_
                    clear n0_ n1_
                    refine start_ (n := 16) (S := fun w' => w'.cell? ⟨gb542, 0, none⟩ = some (.int .i64 ((rd_T27 (rd_L2 l0 x30_3) x39_4).f0)) ∧ w'.cell? ⟨gb542, 1, none⟩ = some (.int .i64 ((rd_T27 (rd_L2 l0 x30_3) x39_4).f1)) ∧ w'.cell? ⟨gb542, 2, none⟩ = some (.int .i64 ((rd_T27 (rd_L2 l0 x30_3) x39_4).f2))) (ds := []) #[false, false, false, false, false, false, false, false, false, false, false, false, false, false, false, false] (by kernel_rfl) rfl rfl ⟨(blk_cell BK542.out 0).trans rfl, (blk_cell BK542.out 1).trans rfl, (blk_cell BK542.out 2).trans rfl⟩ (fun hHeld => ?_); refine with_tabW arc_Check.tab17 arc_Check.bits17 (fun HT_ HW_ => ?_)
                    generalize w30.drew = w31 at BK542 HB hHeld ⊢
                    refine take_ (i := 0) (N := some 44) (v := ?_) (a' := ?_) #[true, false, false, false, false, false, false, false, false, false, false, false, false, false, false, false] rfl rfl (take_ofW HT_.out HW_.out (by kernel_rfl)) (fun _ _ _ h => h) (Or.inl ⟨by rfl, ?_⟩) hHeld ?_ ?_
                    rotate_left
                    ·rintro w' ⟨s0, s1, s2⟩
                     go_simp
                     with_reducible rfl
                    rotate_left
                    ·simp only [Act.put, List.setIfInBounds_toArray, List.set_cons_zero, List.set_cons_succ, i64_w, i32_w]
                     rfl
                    refine one_ (i := 1) (N := some 45) #[true, true, false, false, false, false, false, false, false, false, false, false, false, false, false, false] rfl rfl (one_of HT_.out (by kernel_rfl)) (by decide) (fun K hK => ?_)
                    refine goes_ Try.func75 (by kernel_rfl) rfl #[.agg #[.int .i64 ((rd_T27 (rd_L2 l0 x30_3) x39_4).f0), .int .i64 ((rd_T27 (rd_L2 l0 x30_3) x39_4).f1), .int .i64 ((rd_T27 (rd_L2 l0 x30_3) x39_4).f2)]] (by rfl) rfl rfl (by (try simp only [List.map_toArray, List.map_cons, List.map_nil]); first | done | rfl | (simp only [List.length_drop, List.length_take]; rfl)) ?_
                    with_reducible refine (arc_right.calls ((rd_T27 (rd_L2 l0 x30_3) x39_4).f0) ((rd_T27 (rd_L2 l0 x30_3) x39_4).f1) ((rd_T27 (rd_L2 l0 x30_3) x39_4).f2) true _ A15.out).mono ?_
                    rintro e w32 ⟨rfl, hb⟩
                    refine ⟨_, rfl, ?_⟩
                    have n0_ := Aside0.mk (blk_below (g := gb542) (o := .cells #[.int .i64 ((rd_T27 (rd_L2 l0 x30_3) x39_4).f0), .int .i64 ((rd_T27 (rd_L2 l0 x30_3) x39_4).f1), .int .i64 ((rd_T27 (rd_L2 l0 x30_3) x39_4).f2)] 27 (0, 0)) (bK BK542) hb)
                    have n1_ := Aside0.mk (below_step (bH HB) hb)
                    clear BK542
                    clear HB
                    have BK542 := n0_
                    have HB := n1_
                    clear n0_ n1_
                    (try clear hb)
                    (try clear hb2)
                    (try clear hk)
                    (try clear hi)
                    refine hK.out _ _ ⟨(blk_cell BK542.out 0).trans rfl, (blk_cell BK542.out 1).trans rfl, (blk_cell BK542.out 2).trans rfl⟩ (fun hHeld => ?_)
                    clear hK K
                    refine norm_ (a' := ?_) ?_ ?_
                    rotate_left
                    ·show Act.put _ (some 45) _ = _
                     simp only [Act.put, List.setIfInBounds_toArray, List.set_cons_zero, List.set_cons_succ, i64_w, i32_w]
                     rfl
                    refine pure_ (i := 2) (N := some 46) (v := ?_) (a' := ?_) #[true, true, true, false, false, false, false, false, false, false, false, false, false, false, false, false] rfl rfl (any_of HT_.out (by kernel_rfl)) (fun _ _ _ h => h) (Or.inl ⟨by rfl, ?_⟩) ?_ ?_
                    rotate_left
                    ·intro w'
                     go_simp
                     with_reducible rfl
                    rotate_left
                    ·simp only [Act.put, List.setIfInBounds_toArray, List.set_cons_zero, List.set_cons_succ, i64_w, i32_w]
                     rfl
                    refine pure_ (i := 3) (N := some 47) (v := ?_) (a' := ?_) #[true, true, true, true, false, false, false, false, false, false, false, false, false, false, false, false] rfl rfl (any_of HT_.out (by kernel_rfl)) (fun _ _ _ h => h) (Or.inl ⟨by rfl, ?_⟩) ?_ ?_
                    rotate_left
                    ·intro w'
                     go_simp
                     with_reducible rfl
                    rotate_left
                    ·simp only [Act.put, List.setIfInBounds_toArray, List.set_cons_zero, List.set_cons_succ, i64_w, i32_w]
                     rfl
                    refine pure_ (i := 4) (N := some 48) (v := ?_) (a' := ?_) #[true, true, true, true, true, false, false, false, false, false, false, false, false, false, false, false] rfl rfl (any_of HT_.out (by kernel_rfl)) (fun _ _ _ h => h) (Or.inl ⟨by rfl, ?_⟩) ?_ ?_
                    rotate_left
                    ·intro w'
                     go_simp
                     with_reducible rfl
                    rotate_left
                    ·simp only [Act.put, List.setIfInBounds_toArray, List.set_cons_zero, List.set_cons_succ, i64_w, i32_w]
                     rfl
                    refine pure_ (i := 5) (N := some 49) (v := ?_) (a' := ?_) #[true, true, true, true, true, true, false, false, false, false, false, false, false, false, false, false] rfl rfl (any_of HT_.out (by kernel_rfl)) (fun _ _ _ h => h) (Or.inl ⟨by rfl, ?_⟩) ?_ ?_
                    rotate_left
                    ·intro w'
                     go_simp
                     with_reducible rfl
                    rotate_left
                    ·simp only [Act.put, List.setIfInBounds_toArray, List.set_cons_zero, List.set_cons_succ, i64_w, i32_w]
                     rfl
                    refine pure_ (i := 6) (N := some 50) (v := ?_) (a' := ?_) #[true, true, true, true, true, true, true, false, false, false, false, false, false, false, false, false] rfl rfl (any_of HT_.out (by kernel_rfl)) (fun _ _ _ h => h) (Or.inl ⟨by rfl, ?_⟩) ?_ ?_
                    rotate_left
                    ·intro w'
                     go_simp
                     with_reducible rfl
                    rotate_left
                    ·simp only [Act.put, List.setIfInBounds_toArray, List.set_cons_zero, List.set_cons_succ, i64_w, i32_w]
                     rfl
                    refine pure_ (i := 7) (N := some 51) (v := undef) (a' := ?_) #[true, true, true, true, true, true, true, true, false, false, false, false, false, false, false, false] rfl rfl (any_of HT_.out (by kernel_rfl)) (fun _ _ _ h => h) (Or.inr ⟨by rfl, rfl⟩) ?_ ?_
                    rotate_left
                    ·simp only [Act.put, List.setIfInBounds_toArray, List.set_cons_zero, List.set_cons_succ, i64_w, i32_w]
                     rfl
                    refine pure_ (i := 8) (N := some 52) (v := undef) (a' := ?_) #[true, true, true, true, true, true, true, true, true, false, false, false, false, false, false, false] rfl rfl (any_of HT_.out (by kernel_rfl)) (fun _ _ _ h => h) (Or.inr ⟨by rfl, rfl⟩) ?_ ?_
                    rotate_left
                    ·simp only [Act.put, List.setIfInBounds_toArray, List.set_cons_zero, List.set_cons_succ, i64_w, i32_w]
                     rfl
                    refine pure_ (i := 9) (N := some 53) (v := undef) (a' := ?_) #[true, true, true, true, true, true, true, true, true, true, false, false, false, false, false, false] rfl rfl (any_of HT_.out (by kernel_rfl)) (fun _ _ _ h => h) (Or.inr ⟨by rfl, rfl⟩) ?_ ?_
                    rotate_left
                    ·simp only [Act.put, List.setIfInBounds_toArray, List.set_cons_zero, List.set_cons_succ, i64_w, i32_w]
                     rfl
                    refine pure_ (i := 10) (N := some 54) (v := undef) (a' := ?_) #[true, true, true, true, true, true, true, true, true, true, true, false, false, false, false, false] rfl rfl (any_of HT_.out (by kernel_rfl)) (fun _ _ _ h => h) (Or.inr ⟨by rfl, rfl⟩) ?_ ?_
                    rotate_left
                    ·simp only [Act.put, List.setIfInBounds_toArray, List.set_cons_zero, List.set_cons_succ, i64_w, i32_w]
                     rfl
                    refine pure_ (i := 11) (N := some 55) (v := undef) (a' := ?_) #[true, true, true, true, true, true, true, true, true, true, true, true, false, false, false, false] rfl rfl (any_of HT_.out (by kernel_rfl)) (fun _ _ _ h => h) (Or.inr ⟨by rfl, rfl⟩) ?_ ?_
                    rotate_left
                    ·simp only [Act.put, List.setIfInBounds_toArray, List.set_cons_zero, List.set_cons_succ, i64_w, i32_w]
                     rfl
                    refine pure_ (i := 12) (N := some 56) (v := undef) (a' := ?_) #[true, true, true, true, true, true, true, true, true, true, true, true, true, false, false, false] rfl rfl (any_of HT_.out (by kernel_rfl)) (fun _ _ _ h => h) (Or.inr ⟨by rfl, rfl⟩) ?_ ?_
                    rotate_left
                    ·simp only [Act.put, List.setIfInBounds_toArray, List.set_cons_zero, List.set_cons_succ, i64_w, i32_w]
                     rfl
                    refine pure_ (i := 13) (N := some 57) (v := undef) (a' := ?_) #[true, true, true, true, true, true, true, true, true, true, true, true, true, true, false, false] rfl rfl (any_of HT_.out (by kernel_rfl)) (fun _ _ _ h => h) (Or.inr ⟨by rfl, rfl⟩) ?_ ?_
                    rotate_left
                    ·simp only [Act.put, List.setIfInBounds_toArray, List.set_cons_zero, List.set_cons_succ, i64_w, i32_w]
                     rfl
                    refine pure_ (i := 14) (N := some 58) (v := ?_) (a' := ?_) #[true, true, true, true, true, true, true, true, true, true, true, true, true, true, true, false] rfl rfl (any_of HT_.out (by kernel_rfl)) (fun _ _ _ h => h) (Or.inl ⟨by rfl, ?_⟩) ?_ ?_
                    rotate_left
                    ·intro w'
                     go_simp
                     with_reducible rfl
                    rotate_left
                    ·simp only [Act.put, List.setIfInBounds_toArray, List.set_cons_zero, List.set_cons_succ, i64_w, i32_w]
                     rfl
                    refine pure_ (i := 15) (N := some 59) (v := ?_) (a' := ?_) #[true, true, true, true, true, true, true, true, true, true, true, true, true, true, true, true] rfl rfl (any_of HT_.out (by kernel_rfl)) (fun _ _ _ h => h) (Or.inl ⟨by rfl, ?_⟩) ?_ ?_
                    rotate_left
                    ·intro w'
                     go_simp
                     with_reducible rfl
                    rotate_left
                    ·simp only [Act.put, List.setIfInBounds_toArray, List.set_cons_zero, List.set_cons_succ, i64_w, i32_w]
                     rfl
                    refine done_ (done_of HT_.out (by kernel_rfl)) ?_
                    try go_wp2
                    go_roundg k4
                    case measure => have := HK1.out; have := HJ4.out; have := HK3.out; have := HK4.out; omega
                    case rel => exact ⟨(wrap64 (x39_4 + 1)), (by first | rfl | (simp; done) | (simp [*]; done)), H', ⟨by have := HK1.out; have := HJ4.out; have := HK3.out; have := HK4.out; omega⟩, ⟨ bH HB⟩⟩
                  ·replace c16 := Bool.eq_false_iff.mpr c16
                   subst c16
                   have H1 : (some 2) = some r := by rw [if_neg (show ¬ (false = true) by decide)] at H; exact H
                   clear H
                   have H := H1
                   clear H1
                   obtain rfl := Option.some.inj H
                   have p541 : 0 ≤ (x39_4 : Int) := of_decide_eq_true (by first | (with_reducible assumption) | assumption)
                   have q541 : x39_4 < ((rd_L2 l0 x30_3).length : Int) := of_decide_eq_true (by first | (with_reducible assumption) | assumption)
                   obtain ⟨ad541, e541, hx541_0, hx541_1, hx541_2⟩ := at_T27 HR540_0.out x39_4 p541 q541
                   cases e541
                   replace hx541_0 := (HB.out.cell (World.block_lt_of_cell? w _ hx541_0)).trans hx541_0
                   replace hx541_1 := (HB.out.cell (World.block_lt_of_cell? w _ hx541_1)).trans hx541_1
                   replace hx541_2 := (HB.out.cell (World.block_lt_of_cell? w _ hx541_2)).trans hx541_2
                   replace p541 := eq_true p541
                   replace q541 := eq_true q541
                   try go_wp2_with (first | ((with_reducible refine gate_dst (N := 9) rfl ?_); refine box_event ?hg (N := 9) ?hd (cs := #[.int .i64 0, .int .i64 0, .int .i64 0]) (t := 27) ?hr ?_; (case hd => rfl); (case hg => rfl); (case hr => first | (go_simp; done) | (go_simp; rfl)); intro gb542 hg w33 hbox hb; have n0_ := Aside0.mk (below_step (bH HB) hb); have n1_ := Aside0.mk (hbox); have n2_ := Aside0.mk ((by rw [hg]; exact (below_size (bH HB)) : w.heap.size ≤ gb542)); have n3_ := n2_; clear HB; have HB := n0_; have BK542 := n1_; have GW542 := n2_; have GE542 := n3_; clear n0_ n1_ n2_ n3_; clear hb hbox hg; have hcz34_0 : w33.cell? ⟨gb542, 0, none⟩ = some (.int .i64 0) := (blk_cell BK542.out 0).trans rfl; have hcz34_1 : w33.cell? ⟨gb542, 1, none⟩ = some (.int .i64 0) := (blk_cell BK542.out 1).trans rfl; have hcz34_2 : w33.cell? ⟨gb542, 2, none⟩ = some (.int .i64 0) := (blk_cell BK542.out 2).trans rfl; have hfz34_0 := blk_frozen BK542.out 0; have hfz34_1 := blk_frozen BK542.out 1; have hfz34_2 := blk_frozen BK542.out 2))
                   have n0_ : Aside0 ((((w33.setCell ⟨gb542, 0, none⟩ (.int .i64 ((rd_T27 (rd_L2 l0 x30_3) x39_4).f0))).setCell ⟨gb542, 1, none⟩ (.int .i64 ((rd_T27 (rd_L2 l0 x30_3) x39_4).f1))).setCell ⟨gb542, 2, none⟩ (.int .i64 ((rd_T27 (rd_L2 l0 x30_3) x39_4).f2))).heap[gb542]? = some (.cells #[.int .i64 ((rd_T27 (rd_L2 l0 x30_3) x39_4).f0), .int .i64 ((rd_T27 (rd_L2 l0 x30_3) x39_4).f1), .int .i64 ((rd_T27 (rd_L2 l0 x30_3) x39_4).f2)] 27 (0, 0))) := ⟨by (with_reducible repeat (first | refine blk_drewN ?_ _ | refine blk_drew ?_ | refine blk_alloc ?_ _)); refine blk_put (cs := #[.int .i64 ((rd_T27 (rd_L2 l0 x30_3) x39_4).f0), .int .i64 ((rd_T27 (rd_L2 l0 x30_3) x39_4).f1), .int .i64 0]) ?_ 2 _ rfl; (with_reducible repeat (first | refine blk_drewN ?_ _ | refine blk_drew ?_ | refine blk_alloc ?_ _)); refine blk_put (cs := #[.int .i64 ((rd_T27 (rd_L2 l0 x30_3) x39_4).f0), .int .i64 0, .int .i64 0]) ?_ 1 _ rfl; (with_reducible repeat (first | refine blk_drewN ?_ _ | refine blk_drew ?_ | refine blk_alloc ?_ _)); refine blk_put (cs := #[.int .i64 0, .int .i64 0, .int .i64 0]) ?_ 0 _ rfl; (with_reducible repeat (first | refine blk_drewN ?_ _ | refine blk_drew ?_ | refine blk_alloc ?_ _)); exact BK542.out⟩
                   have n1_ : Aside0 (Below w.heap.size w (((w33.setCell ⟨gb542, 0, none⟩ (.int .i64 ((rd_T27 (rd_L2 l0 x30_3) x39_4).f0))).setCell ⟨gb542, 1, none⟩ (.int .i64 ((rd_T27 (rd_L2 l0 x30_3) x39_4).f1))).setCell ⟨gb542, 2, none⟩ (.int .i64 ((rd_T27 (rd_L2 l0 x30_3) x39_4).f2)))) := ⟨ bH HB⟩
                   (try clear BK542)
                   (try clear HB)
                   generalize (((w33.setCell ⟨gb542, 0, none⟩ (.int .i64 ((rd_T27 (rd_L2 l0 x30_3) x39_4).f0))).setCell ⟨gb542, 1, none⟩ (.int .i64 ((rd_T27 (rd_L2 l0 x30_3) x39_4).f1))).setCell ⟨gb542, 2, none⟩ (.int .i64 ((rd_T27 (rd_L2 l0 x30_3) x39_4).f2))) = w35 at n0_ n1_ ⊢
                   have BK542 := n0_
                   have HB := n1_
                   clear n0_ n1_
                   have n0_ := Aside0.mk (blk_drew BK542.out)
                   have n1_ := Aside0.mk (below_drew1 HB.out)
                   clear BK542
                   clear HB
                   have BK542 := n0_
                   have HB := n1_
                   clear n0_ n1_
                   refine start_ (n := 16) (S := fun w' => w'.cell? ⟨gb542, 0, none⟩ = some (.int .i64 ((rd_T27 (rd_L2 l0 x30_3) x39_4).f0)) ∧ w'.cell? ⟨gb542, 1, none⟩ = some (.int .i64 ((rd_T27 (rd_L2 l0 x30_3) x39_4).f1)) ∧ w'.cell? ⟨gb542, 2, none⟩ = some (.int .i64 ((rd_T27 (rd_L2 l0 x30_3) x39_4).f2))) (ds := []) #[false, false, false, false, false, false, false, false, false, false, false, false, false, false, false, false] (by kernel_rfl) rfl rfl ⟨(blk_cell BK542.out 0).trans rfl, (blk_cell BK542.out 1).trans rfl, (blk_cell BK542.out 2).trans rfl⟩ (fun hHeld => ?_); refine with_tabW arc_Check.tab17 arc_Check.bits17 (fun HT_ HW_ => ?_)
                   generalize w35.drew = w36 at BK542 HB hHeld ⊢
                   refine take_ (i := 0) (N := some 44) (v := ?_) (a' := ?_) #[true, false, false, false, false, false, false, false, false, false, false, false, false, false, false, false] rfl rfl (take_ofW HT_.out HW_.out (by kernel_rfl)) (fun _ _ _ h => h) (Or.inl ⟨by rfl, ?_⟩) hHeld ?_ ?_
                   rotate_left
                   ·rintro w' ⟨s0, s1, s2⟩
                    go_simp
                    with_reducible rfl
                   rotate_left
                   ·simp only [Act.put, List.setIfInBounds_toArray, List.set_cons_zero, List.set_cons_succ, i64_w, i32_w]
                    rfl
                   refine one_ (i := 1) (N := some 45) #[true, true, false, false, false, false, false, false, false, false, false, false, false, false, false, false] rfl rfl (one_of HT_.out (by kernel_rfl)) (by decide) (fun K hK => ?_)
                   refine goes_ Try.func75 (by kernel_rfl) rfl #[.agg #[.int .i64 ((rd_T27 (rd_L2 l0 x30_3) x39_4).f0), .int .i64 ((rd_T27 (rd_L2 l0 x30_3) x39_4).f1), .int .i64 ((rd_T27 (rd_L2 l0 x30_3) x39_4).f2)]] (by rfl) rfl rfl (by (try simp only [List.map_toArray, List.map_cons, List.map_nil]); first | done | rfl | (simp only [List.length_drop, List.length_take]; rfl)) ?_
                   with_reducible refine (arc_right.calls ((rd_T27 (rd_L2 l0 x30_3) x39_4).f0) ((rd_T27 (rd_L2 l0 x30_3) x39_4).f1) ((rd_T27 (rd_L2 l0 x30_3) x39_4).f2) false _ A15.out).mono ?_
                   rintro e w37 ⟨rfl, hb⟩
                   refine ⟨_, rfl, ?_⟩
                   have n0_ := Aside0.mk (blk_below (g := gb542) (o := .cells #[.int .i64 ((rd_T27 (rd_L2 l0 x30_3) x39_4).f0), .int .i64 ((rd_T27 (rd_L2 l0 x30_3) x39_4).f1), .int .i64 ((rd_T27 (rd_L2 l0 x30_3) x39_4).f2)] 27 (0, 0)) (bK BK542) hb)
                   have n1_ := Aside0.mk (below_step (bH HB) hb)
                   clear BK542
                   clear HB
                   have BK542 := n0_
                   have HB := n1_
                   clear n0_ n1_
                   (try clear hb)
                   (try clear hb2)
                   (try clear hk)
                   (try clear hi)
                   refine hK.out _ _ ⟨(blk_cell BK542.out 0).trans rfl, (blk_cell BK542.out 1).trans rfl, (blk_cell BK542.out 2).trans rfl⟩ (fun hHeld => ?_)
                   clear hK K
                   refine norm_ (a' := ?_) ?_ ?_
                   rotate_left
                   ·show Act.put _ (some 45) _ = _
                    simp only [Act.put, List.setIfInBounds_toArray, List.set_cons_zero, List.set_cons_succ, i64_w, i32_w]
                    rfl
                   refine pure_ (i := 2) (N := some 46) (v := ?_) (a' := ?_) #[true, true, true, false, false, false, false, false, false, false, false, false, false, false, false, false] rfl rfl (any_of HT_.out (by kernel_rfl)) (fun _ _ _ h => h) (Or.inl ⟨by rfl, ?_⟩) ?_ ?_
                   rotate_left
                   ·intro w'
                    go_simp
                    with_reducible rfl
                   rotate_left
                   ·simp only [Act.put, List.setIfInBounds_toArray, List.set_cons_zero, List.set_cons_succ, i64_w, i32_w]
                    rfl
                   refine pure_ (i := 3) (N := some 47) (v := ?_) (a' := ?_) #[true, true, true, true, false, false, false, false, false, false, false, false, false, false, false, false] rfl rfl (any_of HT_.out (by kernel_rfl)) (fun _ _ _ h => h) (Or.inl ⟨by rfl, ?_⟩) ?_ ?_
                   rotate_left
                   ·intro w'
                    go_simp
                    with_reducible rfl
                   rotate_left
                   ·simp only [Act.put, List.setIfInBounds_toArray, List.set_cons_zero, List.set_cons_succ, i64_w, i32_w]
                    rfl
                   refine pure_ (i := 4) (N := some 48) (v := undef) (a' := ?_) #[true, true, true, true, true, false, false, false, false, false, false, false, false, false, false, false] rfl rfl (any_of HT_.out (by kernel_rfl)) (fun _ _ _ h => h) (Or.inr ⟨by rfl, rfl⟩) ?_ ?_
                   rotate_left
                   ·simp only [Act.put, List.setIfInBounds_toArray, List.set_cons_zero, List.set_cons_succ, i64_w, i32_w]
                    rfl
                   refine pure_ (i := 5) (N := some 49) (v := undef) (a' := ?_) #[true, true, true, true, true, true, false, false, false, false, false, false, false, false, false, false] rfl rfl (any_of HT_.out (by kernel_rfl)) (fun _ _ _ h => h) (Or.inr ⟨by rfl, rfl⟩) ?_ ?_
                   rotate_left
                   ·simp only [Act.put, List.setIfInBounds_toArray, List.set_cons_zero, List.set_cons_succ, i64_w, i32_w]
                    rfl
                   refine pure_ (i := 6) (N := some 50) (v := undef) (a' := ?_) #[true, true, true, true, true, true, true, false, false, false, false, false, false, false, false, false] rfl rfl (any_of HT_.out (by kernel_rfl)) (fun _ _ _ h => h) (Or.inr ⟨by rfl, rfl⟩) ?_ ?_
                   rotate_left
                   ·simp only [Act.put, List.setIfInBounds_toArray, List.set_cons_zero, List.set_cons_succ, i64_w, i32_w]
                    rfl
                   refine pure_ (i := 7) (N := some 51) (v := undef) (a' := ?_) #[true, true, true, true, true, true, true, true, false, false, false, false, false, false, false, false] rfl rfl (any_of HT_.out (by kernel_rfl)) (fun _ _ _ h => h) (Or.inr ⟨by rfl, rfl⟩) ?_ ?_
                   rotate_left
                   ·simp only [Act.put, List.setIfInBounds_toArray, List.set_cons_zero, List.set_cons_succ, i64_w, i32_w]
                    rfl
                   refine pure_ (i := 8) (N := some 52) (v := undef) (a' := ?_) #[true, true, true, true, true, true, true, true, true, false, false, false, false, false, false, false] rfl rfl (any_of HT_.out (by kernel_rfl)) (fun _ _ _ h => h) (Or.inr ⟨by rfl, rfl⟩) ?_ ?_
                   rotate_left
                   ·simp only [Act.put, List.setIfInBounds_toArray, List.set_cons_zero, List.set_cons_succ, i64_w, i32_w]
                    rfl
                   refine pure_ (i := 9) (N := some 53) (v := undef) (a' := ?_) #[true, true, true, true, true, true, true, true, true, true, false, false, false, false, false, false] rfl rfl (any_of HT_.out (by kernel_rfl)) (fun _ _ _ h => h) (Or.inr ⟨by rfl, rfl⟩) ?_ ?_
                   rotate_left
                   ·simp only [Act.put, List.setIfInBounds_toArray, List.set_cons_zero, List.set_cons_succ, i64_w, i32_w]
                    rfl
                   refine pure_ (i := 10) (N := some 54) (v := undef) (a' := ?_) #[true, true, true, true, true, true, true, true, true, true, true, false, false, false, false, false] rfl rfl (any_of HT_.out (by kernel_rfl)) (fun _ _ _ h => h) (Or.inr ⟨by rfl, rfl⟩) ?_ ?_
                   rotate_left
                   ·simp only [Act.put, List.setIfInBounds_toArray, List.set_cons_zero, List.set_cons_succ, i64_w, i32_w]
                    rfl
                   refine pure_ (i := 11) (N := some 55) (v := undef) (a' := ?_) #[true, true, true, true, true, true, true, true, true, true, true, true, false, false, false, false] rfl rfl (any_of HT_.out (by kernel_rfl)) (fun _ _ _ h => h) (Or.inr ⟨by rfl, rfl⟩) ?_ ?_
                   rotate_left
                   ·simp only [Act.put, List.setIfInBounds_toArray, List.set_cons_zero, List.set_cons_succ, i64_w, i32_w]
                    rfl
                   refine pure_ (i := 12) (N := some 56) (v := undef) (a' := ?_) #[true, true, true, true, true, true, true, true, true, true, true, true, true, false, false, false] rfl rfl (any_of HT_.out (by kernel_rfl)) (fun _ _ _ h => h) (Or.inr ⟨by rfl, rfl⟩) ?_ ?_
                   rotate_left
                   ·simp only [Act.put, List.setIfInBounds_toArray, List.set_cons_zero, List.set_cons_succ, i64_w, i32_w]
                    rfl
                   refine pure_ (i := 13) (N := some 57) (v := undef) (a' := ?_) #[true, true, true, true, true, true, true, true, true, true, true, true, true, true, false, false] rfl rfl (any_of HT_.out (by kernel_rfl)) (fun _ _ _ h => h) (Or.inr ⟨by rfl, rfl⟩) ?_ ?_
                   rotate_left
                   ·simp only [Act.put, List.setIfInBounds_toArray, List.set_cons_zero, List.set_cons_succ, i64_w, i32_w]
                    rfl
                   refine pure_ (i := 14) (N := some 58) (v := undef) (a' := ?_) #[true, true, true, true, true, true, true, true, true, true, true, true, true, true, true, false] rfl rfl (any_of HT_.out (by kernel_rfl)) (fun _ _ _ h => h) (Or.inr ⟨by rfl, rfl⟩) ?_ ?_
                   rotate_left
                   ·simp only [Act.put, List.setIfInBounds_toArray, List.set_cons_zero, List.set_cons_succ, i64_w, i32_w]
                    rfl
                   refine pure_ (i := 15) (N := some 59) (v := ?_) (a' := ?_) #[true, true, true, true, true, true, true, true, true, true, true, true, true, true, true, true] rfl rfl (any_of HT_.out (by kernel_rfl)) (fun _ _ _ h => h) (Or.inl ⟨by rfl, ?_⟩) ?_ ?_
                   rotate_left
                   ·intro w'
                    go_simp
                    with_reducible rfl
                   rotate_left
                   ·simp only [Act.put, List.setIfInBounds_toArray, List.set_cons_zero, List.set_cons_succ, i64_w, i32_w]
                    rfl
                   refine done_ (done_of HT_.out (by kernel_rfl)) ?_
                   try go_wp2
                   go_ret
                   exact ⟨by first | rfl | (simp [errW_none, errW_some] <;> rfl) | (simp [*, errW_none, errW_some] <;> rfl), bH HB⟩
                 ·rw [if_neg c14] at H
                  exact absurd H (by simp)
                ·rw [if_neg c13] at H
                 exact absurd H (by simp)
               ·rw [if_neg c12] at H
                have c12b0 : decide (x39_4 < ((rd_L2 l0 x30_3).length : Int)) = false := decide_eq_false c12
                clear c12
                have H' := Aside0.mk H
                clear H
                go_wp2
                go_roundg k4
                case measure => have := HK1.out; have := HJ4.out; have := HK3.out; have := HK4.out; omega
                case rel => exact ⟨(wrap64 (x30_3 + 1)), (by first | rfl | (simp; done) | (simp [*]; done)), H', ⟨by have := HK1.out; have := HJ4.out; have := HK3.out; have := HK4.out; omega⟩, ⟨ bH HB⟩⟩
           ·rw [if_neg c10] at H
            exact absurd H (by simp)
          ·rw [if_neg c9] at H
           exact absurd H (by simp)
         ·rw [if_neg c8] at H
          have c8b0 : decide (x30_3 < (l0.length : Int)) = false := decide_eq_false c8
          clear c8
          obtain rfl := Option.some.inj H
          go_wp2
          go_ret
          exact ⟨by first | rfl | (simp [errW_none, errW_some] <;> rfl) | (simp [*, errW_none, errW_some] <;> rfl), bH HB⟩

end Go.Proofs.Ytbonkedecfjmdaa.P
