/- Written for this claim by a program of this session (a turned copy of the print): Go functions as Lean functions, and that the Go code comes to just these answers; or a statement proved out of them. No condition. -/
import Derived.Test.YtbonkedecfjmdaaZ2
import Derived.Test.YtbonkedecfjmdaaZ3
import Derived.Test.YtbonkedecfjmdaaZ11

namespace Go.Proofs.Ytbonkedecfjmdaa.P
open Go.RowKit Go.Proofs.YtbonkedecfjmdaaW.PrintWords Go.Proofs.YtbonkedecfjmdaaW.PrintLast Go.Proofs.YtbonkedecfjmdaaW.PrintMore Go.Proofs.Ytbonkedecfjmdaa.X
attribute [local go_sem] max2_int min2_int max_two min_two max_three min_three max_four min_four add64_0 add64_1 add64
set_option linter.unusedVariables false
set_option linter.unusedSimpArgs false
attribute [local go_sem high] eqA27
mutual
def arc_Check.l0 : Nat → List (List (S27)) → Int → List (List (S27)) → Int → Int → Option (Int)
 | 0, _, _, _, _, _ => none
 | k + 1, x0, x3, x10, x11, x12 => if x12 < x11 then (if 0 ≤ x12 then (if x12 < (x10.length : Int) then (arc_Check.l0 k x0 (wrap64 (x3 + ((rd_L2 x10 x12).length : Int))) x10 x11 (wrap64 (x12 + 1))) else (none)) else (none)) else (if (x0.length : Int) > 2000 then (arc_Check.j1 k x0 true) else (arc_Check.j1 k x0 (decide (x3 > 20000))))
def arc_Check.j1 : Nat → List (List (S27)) → Bool → Option (Int)
 | 0, _, _ => none
 | k + 1, x0, x27 => if x27 = true then (some 3) else (arc_Check.l1 k x0 (x0.length : Int) 0)
def arc_Check.l1 : Nat → List (List (S27)) → Int → Int → Option (Int)
 | 0, _, _, _ => none
 | k + 1, x28, x29, x30 => if x30 < x29 then (if 0 ≤ x30 then (if x30 < (x28.length : Int) then (if ((rd_L2 x28 x30).length : Int) < 2 then (some 2) else (arc_Check.l2 k (rd_L2 x28 x30) x28 x29 x30 (rd_L2 x28 x30) ((rd_L2 x28 x30).length : Int) 0)) else (none)) else (none)) else (some 0)
def arc_Check.l2 : Nat → List (S27) → List (List (S27)) → Int → Int → List (S27) → Int → Int → Option (Int)
 | 0, _, _, _, _, _, _, _ => none
 | k + 1, x7, x28, x29, x30, x37, x38, x39 => if x39 < x38 then (if 0 ≤ x39 then (if x39 < (x37.length : Int) then ((arc_right.f ((rd_T27 x37 x39).f0) ((rd_T27 x37 x39).f1) ((rd_T27 x37 x39).f2)).bind fun t543 => (if t543 = true then (if x39 > 0 then (if 0 ≤ (wrap64 (x39 - 1)) then (if (wrap64 (x39 - 1)) < (x7.length : Int) then (if (((rd_T27 x37 x39).f0) == ((rd_T27 x7 (wrap64 (x39 - 1))).f0) && (((rd_T27 x37 x39).f1) == ((rd_T27 x7 (wrap64 (x39 - 1))).f1) && (((rd_T27 x37 x39).f2) == ((rd_T27 x7 (wrap64 (x39 - 1))).f2)))) = true then (some 2) else (arc_Check.l2 k x7 x28 x29 x30 x37 x38 (wrap64 (x39 + 1)))) else (none)) else (none)) else (arc_Check.l2 k x7 x28 x29 x30 x37 x38 (wrap64 (x39 + 1)))) else (some 2))) else (none)) else (none)) else (arc_Check.l1 k x28 x29 (wrap64 (x30 + 1)))
end
def arc_Check.f (k : Nat) (l0 : List (List (S27))) : Option (Int) := arc_Check.l0 k l0 0 l0 (l0.length : Int) 0
theorem arc_Check.mono_l : ∀ k, (∀ y0 y1 y2 y3 y4, LeO (arc_Check.l0 k y0 y1 y2 y3 y4) (arc_Check.l0 (k + 1) y0 y1 y2 y3 y4)) ∧ (∀ y0 y1, LeO (arc_Check.j1 k y0 y1) (arc_Check.j1 (k + 1) y0 y1)) ∧ (∀ y0 y1 y2, LeO (arc_Check.l1 k y0 y1 y2) (arc_Check.l1 (k + 1) y0 y1 y2)) ∧ (∀ y0 y1 y2 y3 y4 y5 y6, LeO (arc_Check.l2 k y0 y1 y2 y3 y4 y5 y6) (arc_Check.l2 (k + 1) y0 y1 y2 y3 y4 y5 y6))
 | 0 => ⟨fun _ _ _ _ _ r h => by simp [arc_Check.l0] at h, fun _ _ r h => by simp [arc_Check.j1] at h, fun _ _ _ r h => by simp [arc_Check.l1] at h, fun _ _ _ _ _ _ _ r h => by simp [arc_Check.l2] at h⟩
 | k + 1 => by
  obtain ⟨ih0, ih1, ih2, ih3⟩ := arc_Check.mono_l k
  refine ⟨?_, ?_, ?_, ?_⟩
  all_goals
   intros
   first | unfold arc_Check.l0 | unfold arc_Check.j1 | unfold arc_Check.l1 | unfold arc_Check.l2
   repeat' with_reducible first | exact ih0 _ _ _ _ _ | exact ih1 _ _ | exact ih2 _ _ _ | exact ih3 _ _ _ _ _ _ _ | exact LeO.refl _ | exact LeO.none _ | refine LeO.ite ?_ ?_ | refine LeO.bind ?_ (fun _ => ?_)
theorem arc_Check.mono : ∀ a0 k, LeO (arc_Check.f k a0) (arc_Check.f (k + 1) a0) := by
 intro a0 k
 obtain ⟨ih0, ih1, ih2, ih3⟩ := arc_Check.mono_l k
 unfold arc_Check.f
 repeat' first
   | (with_reducible exact ih0 _ _ _ _ _)
   | (with_reducible exact ih1 _ _)
   | (with_reducible exact ih2 _ _ _)
   | (with_reducible exact ih3 _ _ _ _ _ _ _)
   | (with_reducible exact LeO.refl _)
   | (with_reducible exact LeO.none _)
   | (with_reducible refine LeO.ite ?_ ?_)
   | (with_reducible refine LeO.bind ?_ (fun _ => ?_))
   | exact ih0 _ _ _ _ _
   | exact ih1 _ _
   | exact ih2 _ _ _
   | exact ih3 _ _ _ _ _ _ _
   | exact LeO.none _
   | refine LeO.ite ?_ ?_
   | refine LeO.bind ?_ (fun _ => ?_)
def arc_Check.T17 : Bool × List (List Nat × List Nat) := (true, [([], []), ([0], [0]), ([1], [1]), ([2, 1], [2]), ([3], [3]), ([4, 3], [3, 4]), ([5, 3, 3], [3, 5]), ([6], [6]), ([6], [6]), ([6], [6]), ([9, 6], [6, 9]), ([8, 10, 6], [6, 8, 10]), ([11, 6], [6, 11]), ([7, 12, 6], [6, 7, 12]), ([6, 13, 3], [3, 6, 13]), ([3, 14], [3, 14])])
def arc_Check.B17 : List Nat := [0, 1, 3, 7, 15, 31, 63, 127, 127, 127, 639, 1919, 3967, 8191, 16383, 32767]
theorem arc_Check.tab17 : rtab .any (opsOf Try.f56 17) = arc_Check.T17 := by kernel_rfl
theorem arc_Check.bits17 : waitsOk arc_Check.T17.2 arc_Check.B17 = true := by kernel_rfl
set_option maxHeartbeats 8000000 in
set_option maxRecDepth 100000 in
theorem arc_Check.calls (k : Nat) (A0 : Option Addr) (c0 : Nat) (l0 : List (List (S27))) (r : Int) (w : World) (hr0 : Kd.C (Kd.slice 27 k27) w A0 l0.length l0) (hc0 : l0.length ≤ c0) (h : arc_Check.f k l0 = some r) :
  Calls Try.prog 56 #[.slice A0 l0.length c0] w fun e w' => e = .returned (.int .i64 r) ∧ Below w.heap.size w w' := by
 have hu27 := Try.underlying27
 have HR0 := AM hr0
 have HC0 := AM hc0
 clear hr0 hc0
 have HB := AM (Below.refl w.heap.size w)
 have H : (arc_Check.l0 k l0 0 l0 (l0.length : Int) 0) = some r := h
 clear h
 have H' := AM H
 clear H
 go_enter Try.func56, Try.ntmps56
 go_wp2
 go_loopg [3, 12] k (fun kq v3 v12 w' => ∃ (x3_1 : Int) (x12_1 : Int), v3 = .int .i64 x3_1 ∧ v12 = .int .i64 x12_1 ∧ Aside0 (arc_Check.l0 kq l0 x3_1 l0 (l0.length : Int) x12_1 = some r) ∧ Aside0 (kq ≤ k) ∧ Aside0 (Below w.heap.size w w'))
 case atStart => exact ⟨(0), (0), rS, rS, H', ⟨Nat.le_refl _⟩, ⟨ bH HB⟩⟩
 case round =>
  clear H'
  obtain ⟨x3_1, x12_1, rfl, rfl, HA, HK1, HB⟩ := hrel
  cases gk with
  | zero => exact absurd HA.out (by simp [arc_Check.l0])
  | succ k1 =>
   have H := HA.out; clear HA
   simp only [arc_Check.l0] at H
   by_cases c2 : x12_1 < (l0.length : Int)
   ·rw [if_pos c2] at H
    have c2b0 := decide_eq_true c2; clear c2
    by_cases c3 : 0 ≤ x12_1
    ·rw [if_pos c3] at H
     have c3b0 := decide_eq_true c3; clear c3
     by_cases c4 : x12_1 < (l0.length : Int)
     ·rw [if_pos c4] at H
      have c4b0 := decide_eq_true c4; clear c4
      have H' := AM H
      clear H
      have p539 : 0 ≤ (x12_1 : Int) := pD
      have q539 : x12_1 < (l0.length : Int) := pD
      obtain ⟨ad539, A539_0, c539_0, e539, hx539_0, hl539_0, hi539_0⟩ := at_L2 HR0.out x12_1 p539 q539
      cases e539
      replace hx539_0 := hW HB hx539_0
      have HR539_0 := AM hi539_0
      have HC539_0 := AM hl539_0
      clear hi539_0 hl539_0; replace p539 := eq_true p539; replace q539 := eq_true q539
      go_wp2
      go_roundg k1
      case measure => have := HK1.out; omega
      case rel => exact ⟨(wrap64 (x3_1 + ((rd_L2 l0 x12_1).length : Int))), (wrap64 (x12_1 + 1)), rS, rS, H', ⟨by have := HK1.out; omega⟩, ⟨ bH HB⟩⟩
     ·rw [if_neg c4] at H
      exact absurd H (by simp)
    ·rw [if_neg c3] at H
     exact absurd H (by simp)
   ·rw [if_neg c2] at H
    have c2b0 := decide_eq_false c2; clear c2
    have HC5 := AM H
    clear H
    go_upto_region 7 with (fail)
    go_cut [27] (fun v27 wc => ∃ (kq : Nat) (x27_4 : Bool), v27 = .bool x27_4 ∧ Aside0 (arc_Check.j1 kq l0 x27_4 = some r) ∧ Aside0 (kq ≤ k1) ∧ Aside0 (Below w.heap.size w wc))
    case first =>
     have H := HC5.out; clear HC5
     by_cases c6 : (l0.length : Int) > 2000
     ·rw [if_pos c6] at H
      have c6b0 := decide_eq_true c6
      have c6b1 : decide (2000 < l0.length) = true := decide_eq_true (by omega)
      clear c6
      (first | rw [c6b0] | (simp only [i64_w, i32_w]; rw [c6b0]) | skip)
      have H' := AM H
      clear H
      go_wp2
      go_meet
      case rel => exact ⟨_, (true), rS, H', ⟨by have := HK1.out; first | omega | exact Nat.le_refl _⟩, ⟨ bH HB⟩⟩
     ·rw [if_neg c6] at H
      have c6b0 := decide_eq_false c6
      have c6b1 : decide (2000 < l0.length) = false := decide_eq_false (by omega)
      clear c6
      (first | rw [c6b0] | (simp only [i64_w, i32_w]; rw [c6b0]) | skip)
      have H' := AM H
      clear H
      go_wp2
      go_meet
      case rel => exact ⟨_, (decide (x3_1 > 20000)), rS, H', ⟨by have := HK1.out; first | omega | exact Nat.le_refl _⟩, ⟨ bH HB⟩⟩
    case rest =>
     clear HC5; (try clear c2); (try clear c2b0); (try clear p2); (try clear c3); (try clear c3b0); (try clear c4); (try clear c4b0); (try clear c5); (try clear p5); (try clear q5); (try clear hx5); (try clear c6); (try clear c6b0); (try clear c6b1); (try clear p6); (try clear hx539_0); (try clear p539); (try clear q539)
     obtain ⟨kq, x27_4, rfl, HA, HJ4, HB⟩ := hcut
     cases kq with
     | zero => exact absurd HA.out (by simp [arc_Check.j1])
     | succ kj4 =>
      have H := HA.out; clear HA
      simp only [arc_Check.j1] at H
      by_cases c7 : x27_4 = true
      ·subst c7
       have H1 : (some 3) = some r := by rw [if_pos rfl] at H; exact H
       clear H; have H := H1; clear H1
       obtain rfl := Option.some.inj H
       go_wp2
       go_ret
       exact ⟨rE, bH HB⟩
      ·replace c7 := Bool.eq_false_iff.mpr c7
       subst c7
       have H1 : (arc_Check.l1 kj4 l0 (l0.length : Int) 0) = some r := by rw [if_neg (show ¬ (false = true) by decide)] at H; exact H
       clear H; have H := H1; clear H1
       have H' := AM H
       clear H
       go_wp2
       go_loopg [30] kj4 (fun kq v30 w' => ∃ (x30_3 : Int), v30 = .int .i64 x30_3 ∧ Aside0 (arc_Check.l1 kq l0 (l0.length : Int) x30_3 = some r) ∧ Aside0 (kq ≤ kj4) ∧ Aside0 (Below w.heap.size w w'))
       case atStart => exact ⟨(0), rS, H', ⟨Nat.le_refl _⟩, ⟨ bH HB⟩⟩
       case round =>
        clear H'
        (try clear c2); (try clear c2b0); (try clear p2); (try clear c3); (try clear c3b0); (try clear c4); (try clear c4b0); (try clear c5); (try clear p5); (try clear q5); (try clear hx5); (try clear c6); (try clear c6b0); (try clear c6b1); (try clear p6); (try clear c7); (try clear hx539_0); (try clear p2); (try clear p5); (try clear p539); (try clear p6); (try clear q5); (try clear q539)
        obtain ⟨x30_3, rfl, HA, HK3, HB⟩ := hrel
        cases gk with
        | zero => exact absurd HA.out (by simp [arc_Check.l1])
        | succ k3 =>
         have H := HA.out; clear HA
         simp only [arc_Check.l1] at H
         by_cases c8 : x30_3 < (l0.length : Int)
         ·rw [if_pos c8] at H
          have c8b0 := decide_eq_true c8; clear c8
          by_cases c9 : 0 ≤ x30_3
          ·rw [if_pos c9] at H
           have c9b0 := decide_eq_true c9; clear c9
           by_cases c10 : x30_3 < (l0.length : Int)
           ·rw [if_pos c10] at H
            have c10b0 := decide_eq_true c10; clear c10
            by_cases c11 : ((rd_L2 l0 x30_3).length : Int) < 2
            ·rw [if_pos c11] at H
             have c11b0 := decide_eq_true c11
             have c11b1 : decide ((rd_L2 l0 x30_3).length < 2) = true := decide_eq_true (by omega)
             clear c11
             obtain rfl := Option.some.inj H
             have p540 : 0 ≤ (x30_3 : Int) := pD
             have q540 : x30_3 < (l0.length : Int) := pD
             obtain ⟨ad540, A540_0, c540_0, e540, hx540_0, hl540_0, hi540_0⟩ := at_L2 HR0.out x30_3 p540 q540
             cases e540
             replace hx540_0 := hW HB hx540_0
             have HR540_0 := AM hi540_0
             have HC540_0 := AM hl540_0
             clear hi540_0 hl540_0; replace p540 := eq_true p540; replace q540 := eq_true q540
             go_wp2
             go_ret
             exact ⟨rE, bH HB⟩
            ·rw [if_neg c11] at H
             have c11b0 := decide_eq_false c11
             have c11b1 : decide ((rd_L2 l0 x30_3).length < 2) = false := decide_eq_false (by omega)
             clear c11
             have H' := AM H
             clear H
             have p540 : 0 ≤ (x30_3 : Int) := pD
             have q540 : x30_3 < (l0.length : Int) := pD
             obtain ⟨ad540, A540_0, c540_0, e540, hx540_0, hl540_0, hi540_0⟩ := at_L2 HR0.out x30_3 p540 q540
             cases e540
             replace hx540_0 := hW HB hx540_0
             have HR540_0 := AM hi540_0
             have HC540_0 := AM hl540_0
             clear hi540_0 hl540_0; replace p540 := eq_true p540; replace q540 := eq_true q540
             go_wp2
             go_loopg [39] k3 (fun kq v39 w' => ∃ (x39_4 : Int), v39 = .int .i64 x39_4 ∧ Aside0 (arc_Check.l2 kq (rd_L2 l0 x30_3) l0 (l0.length : Int) x30_3 (rd_L2 l0 x30_3) ((rd_L2 l0 x30_3).length : Int) x39_4 = some r) ∧ Aside0 (kq ≤ k3) ∧ Aside0 (Below w.heap.size w w'))
             case atStart => exact ⟨(0), rS, H', ⟨Nat.le_refl _⟩, ⟨ bH HB⟩⟩
             case round =>
              clear H'
              (try clear c1); (try clear c2); (try clear c2b0); (try clear p2); (try clear c3); (try clear c3b0); (try clear c4); (try clear c4b0); (try clear c5); (try clear p5); (try clear q5); (try clear hx5); (try clear c6); (try clear c6b0); (try clear c6b1); (try clear p6); (try clear c7); (try clear c8); (try clear c8b0); (try clear c9); (try clear c9b0); (try clear c10); (try clear c10b0); (try clear c11); (try clear c11b0); (try clear c11b1); (try clear hx539_0); (try clear hx540_0); (try clear p2); (try clear p5); (try clear p539); (try clear p540); (try clear p6); (try clear q5); (try clear q539); (try clear q540)
              obtain ⟨x39_4, rfl, HA, HK4, HB⟩ := hrel
              cases gk with
              | zero => exact absurd HA.out (by simp [arc_Check.l2])
              | succ k4 =>
               have H := HA.out; clear HA
               simp only [arc_Check.l2] at H
               by_cases c12 : x39_4 < ((rd_L2 l0 x30_3).length : Int)
               ·rw [if_pos c12] at H
                have c12b0 := decide_eq_true c12; clear c12
                by_cases c13 : 0 ≤ x39_4
                ·rw [if_pos c13] at H
                 have c13b0 := decide_eq_true c13; clear c13
                 by_cases c14 : x39_4 < ((rd_L2 l0 x30_3).length : Int)
                 ·rw [if_pos c14] at H
                  have c14b0 := decide_eq_true c14; clear c14
                  obtain ⟨t543, A15, H⟩ := bS H
                  by_cases c16 : t543 = true
                  ·subst c16
                   have H1 : (if x39_4 > 0 then (if 0 ≤ (wrap64 (x39_4 - 1)) then (if (wrap64 (x39_4 - 1)) < ((rd_L2 l0 x30_3).length : Int) then (if (((rd_T27 (rd_L2 l0 x30_3) x39_4).f0) == ((rd_T27 (rd_L2 l0 x30_3) (wrap64 (x39_4 - 1))).f0) && (((rd_T27 (rd_L2 l0 x30_3) x39_4).f1) == ((rd_T27 (rd_L2 l0 x30_3) (wrap64 (x39_4 - 1))).f1) && (((rd_T27 (rd_L2 l0 x30_3) x39_4).f2) == ((rd_T27 (rd_L2 l0 x30_3) (wrap64 (x39_4 - 1))).f2)))) = true then (some 2) else (arc_Check.l2 k4 (rd_L2 l0 x30_3) l0 (l0.length : Int) x30_3 (rd_L2 l0 x30_3) ((rd_L2 l0 x30_3).length : Int) (wrap64 (x39_4 + 1)))) else (none)) else (none)) else (arc_Check.l2 k4 (rd_L2 l0 x30_3) l0 (l0.length : Int) x30_3 (rd_L2 l0 x30_3) ((rd_L2 l0 x30_3).length : Int) (wrap64 (x39_4 + 1)))) = some r := by rw [if_pos rfl] at H; exact H
                   clear H; have H := H1; clear H1
                   by_cases c17 : x39_4 > 0
                   ·rw [if_pos c17] at H
                    have c17b0 := decide_eq_true c17; clear c17
                    obtain ⟨ji18, hji18⟩ : ∃ j_ : Int, (wrap64 (x39_4 - 1)) = j_ := ⟨_, rfl⟩
                    replace H : (if 0 ≤ (ji18) then (if (ji18) < ((rd_L2 l0 x30_3).length : Int) then (if (((rd_T27 (rd_L2 l0 x30_3) x39_4).f0) == ((rd_T27 (rd_L2 l0 x30_3) (ji18)).f0) && (((rd_T27 (rd_L2 l0 x30_3) x39_4).f1) == ((rd_T27 (rd_L2 l0 x30_3) (ji18)).f1) && (((rd_T27 (rd_L2 l0 x30_3) x39_4).f2) == ((rd_T27 (rd_L2 l0 x30_3) (ji18)).f2)))) = true then (some 2) else (arc_Check.l2 k4 (rd_L2 l0 x30_3) l0 (l0.length : Int) x30_3 (rd_L2 l0 x30_3) ((rd_L2 l0 x30_3).length : Int) (wrap64 (x39_4 + 1)))) else (none)) else (none)) = some r := by first | (rw [hji18] at H; exact H) | (simp only [hji18] at H ⊢; exact H)
                    (try rw [hji18] at A15)
                    have hji18w : (IntKind.i64.wrap (x39_4 - 1)) = ji18 := (i64_w _).trans hji18
                    by_cases c19 : 0 ≤ (ji18)
                    ·rw [if_pos c19] at H
                     have c19b0 := decide_eq_true c19; clear c19
                     by_cases c20 : (ji18) < ((rd_L2 l0 x30_3).length : Int)
                     ·rw [if_pos c20] at H
                      have c20b0 := decide_eq_true c20; clear c20
                      have HC21 := AM H
                      clear H
                      have p541 : 0 ≤ (x39_4 : Int) := pD
                      have q541 : x39_4 < ((rd_L2 l0 x30_3).length : Int) := pD
                      obtain ⟨ad541, e541, hx541_0, hx541_1, hx541_2⟩ := at_T27 HR540_0.out x39_4 p541 q541
                      cases e541
                      replace hx541_0 := hW HB hx541_0; replace hx541_1 := hW HB hx541_1; replace hx541_2 := hW HB hx541_2; replace p541 := eq_true p541; replace q541 := eq_true q541
                      try go_wp2_with (first | ((with_reducible refine gate_dst (N := 9) rfl ?_); refine bE 9 #[.int .i64 0, .int .i64 0, .int .i64 0] 27 ?_; intro gb542 hg w22 hbox hb; have BK542 := AM hbox; have GW542 := kG HB hg; replace HB := kH HB hb; have GE542 := GW542; clear hb hbox hg; obtain ⟨hcz23_0, hcz23_1, hcz23_2, hfz23_0, hfz23_1, hfz23_2⟩ := c3 BK542))
                      have n0_ : Aside0 ((((w22.setCell ⟨gb542, 0, none⟩ (.int .i64 ((rd_T27 (rd_L2 l0 x30_3) x39_4).f0))).setCell ⟨gb542, 1, none⟩ (.int .i64 ((rd_T27 (rd_L2 l0 x30_3) x39_4).f1))).setCell ⟨gb542, 2, none⟩ (.int .i64 ((rd_T27 (rd_L2 l0 x30_3) x39_4).f2))).heap[gb542]? = some (.cells #[.int .i64 ((rd_T27 (rd_L2 l0 x30_3) x39_4).f0), .int .i64 ((rd_T27 (rd_L2 l0 x30_3) x39_4).f1), .int .i64 ((rd_T27 (rd_L2 l0 x30_3) x39_4).f2)] 27 (0, 0))) := ⟨by (with_reducible repeat (first | refine blk_drewN ?_ _ | refine blk_drew ?_ | refine blk_alloc ?_ _)); refine blk_put (cs := #[.int .i64 ((rd_T27 (rd_L2 l0 x30_3) x39_4).f0), .int .i64 ((rd_T27 (rd_L2 l0 x30_3) x39_4).f1), .int .i64 0]) ?_ 2 _ rfl; (with_reducible repeat (first | refine blk_drewN ?_ _ | refine blk_drew ?_ | refine blk_alloc ?_ _)); refine blk_put (cs := #[.int .i64 ((rd_T27 (rd_L2 l0 x30_3) x39_4).f0), .int .i64 0, .int .i64 0]) ?_ 1 _ rfl; (with_reducible repeat (first | refine blk_drewN ?_ _ | refine blk_drew ?_ | refine blk_alloc ?_ _)); refine blk_put (cs := #[.int .i64 0, .int .i64 0, .int .i64 0]) ?_ 0 _ rfl; (with_reducible repeat (first | refine blk_drewN ?_ _ | refine blk_drew ?_ | refine blk_alloc ?_ _)); exact BK542.out⟩
                      have n1_ : Aside0 (Below w.heap.size w (((w22.setCell ⟨gb542, 0, none⟩ (.int .i64 ((rd_T27 (rd_L2 l0 x30_3) x39_4).f0))).setCell ⟨gb542, 1, none⟩ (.int .i64 ((rd_T27 (rd_L2 l0 x30_3) x39_4).f1))).setCell ⟨gb542, 2, none⟩ (.int .i64 ((rd_T27 (rd_L2 l0 x30_3) x39_4).f2)))) := ⟨ bH HB⟩
                      (try clear BK542); (try clear HB)
                      generalize (((w22.setCell ⟨gb542, 0, none⟩ (.int .i64 ((rd_T27 (rd_L2 l0 x30_3) x39_4).f0))).setCell ⟨gb542, 1, none⟩ (.int .i64 ((rd_T27 (rd_L2 l0 x30_3) x39_4).f1))).setCell ⟨gb542, 2, none⟩ (.int .i64 ((rd_T27 (rd_L2 l0 x30_3) x39_4).f2))) = w24 at n0_ n1_ ⊢
                      have BK542 := n0_; have HB := n1_; clear n0_ n1_; replace BK542 := dB BK542; replace HB := dH HB
                      have p544 : 0 ≤ ((ji18) : Int) := pD
                      have q544 : (ji18) < ((rd_L2 l0 x30_3).length : Int) := pD
                      obtain ⟨ad544, e544, hx544_0, hx544_1, hx544_2⟩ := at_T27 HR540_0.out (ji18) p544 q544
                      have hw544_2 := hx544_2; have hw544_1 := hx544_1; have hw544_0 := hx544_0
                      obtain rfl : ad541 = ad544 := (by injection e544)
                      replace hx544_0 := hW HB hx544_0; replace hx544_1 := hW HB hx544_1; replace hx544_2 := hW HB hx544_2; replace p544 := eq_true p544; replace q544 := eq_true q544
                      refine sP 16 (S := fun w' => w'.cell? ⟨gb542, 0, none⟩ = some (.int .i64 ((rd_T27 (rd_L2 l0 x30_3) x39_4).f0)) ∧ w'.cell? ⟨gb542, 1, none⟩ = some (.int .i64 ((rd_T27 (rd_L2 l0 x30_3) x39_4).f1)) ∧ w'.cell? ⟨gb542, 2, none⟩ = some (.int .i64 ((rd_T27 (rd_L2 l0 x30_3) x39_4).f2)) ∧ w'.cell? (ad541.add (((ji18)).toNat * 3)) = some (.int .i64 ((rd_T27 (rd_L2 l0 x30_3) (ji18)).f0)) ∧ w'.cell? ⟨(ad541.add (((ji18)).toNat * 3)).block, (ad541.add (((ji18)).toNat * 3)).off + 1, none⟩ = some (.int .i64 ((rd_T27 (rd_L2 l0 x30_3) (ji18)).f1)) ∧ w'.cell? ⟨(ad541.add (((ji18)).toNat * 3)).block, (ad541.add (((ji18)).toNat * 3)).off + 2, none⟩ = some (.int .i64 ((rd_T27 (rd_L2 l0 x30_3) (ji18)).f2))) (ds := []) ⟨bC BK542, bC BK542, bC BK542, (hW HB hw544_0), (hW HB hw544_1), (hW HB hw544_2)⟩ fun hHeld => ?_; refine with_tabW arc_Check.tab17 arc_Check.bits17 (fun HT_ HW_ => ?_)
                      generalize w24.drew = w25 at BK542 HB hx544_0 hx544_1 hx544_2 hHeld ⊢
                      refine tQ 0 (some 44) HT_ HW_ hHeld ?_
                      refine oQ 1 (some 45) HT_ rfl fun K hK => ?_
                      refine gO Try.func75 #[.agg #[.int .i64 ((rd_T27 (rd_L2 l0 x30_3) x39_4).f0), .int .i64 ((rd_T27 (rd_L2 l0 x30_3) x39_4).f1), .int .i64 ((rd_T27 (rd_L2 l0 x30_3) x39_4).f2)]] ?_
                      with_reducible refine (arc_right.calls ((rd_T27 (rd_L2 l0 x30_3) x39_4).f0) ((rd_T27 (rd_L2 l0 x30_3) x39_4).f1) ((rd_T27 (rd_L2 l0 x30_3) x39_4).f2) true _ A15.out).mono ?_
                      rintro e w26 ⟨rfl, hb⟩
                      refine ⟨_, rfl, ?_⟩
                      replace BK542 := kB BK542 hb; replace HB := kH HB hb; (try clear hb); (try clear hb2); (try clear hk); (try clear hi)
                      refine hK.out _ _ ⟨bC BK542, bC BK542, bC BK542, (hW HB hw544_0), (hW HB hw544_1), (hW HB hw544_2)⟩ (fun hHeld => ?_)
                      clear hK K; refine nP (some 45) ?_; refine pQ 2 (some 46) HT_ ?_; refine pQ 3 (some 47) HT_ ?_; refine pQ 4 (some 48) HT_ ?_; refine pQ 5 (some 49) HT_ ?_; refine pQ 6 (some 50) HT_ ?_; refine pQ 8 (some 52) HT_ ?_; refine pQ 9 (some 53) HT_ ?_; refine pQ 10 (some 54) HT_ ?_; refine pQ 11 (some 55) HT_ ?_; refine tQ 7 (some 51) HT_ HW_ hHeld ?_; refine tQ 12 (some 56) HT_ HW_ hHeld ?_; refine pQ 13 (some 57) HT_ ?_; refine pQ 14 (some 58) HT_ ?_; refine pQ 15 (some 59) HT_ ?_
                      refine done_ (done_of HT_.out (by kernel_rfl)) ?_
                      go_upto_if 59 with (fail)
                      have H := HC21.out; clear HC21
                      by_cases c27 : (((rd_T27 (rd_L2 l0 x30_3) x39_4).f0) == ((rd_T27 (rd_L2 l0 x30_3) (ji18)).f0) && (((rd_T27 (rd_L2 l0 x30_3) x39_4).f1) == ((rd_T27 (rd_L2 l0 x30_3) (ji18)).f1) && (((rd_T27 (rd_L2 l0 x30_3) x39_4).f2) == ((rd_T27 (rd_L2 l0 x30_3) (ji18)).f2)))) = true
                      ·rw [if_pos c27] at H
                       have c27b0 : (((rd_T27 (rd_L2 l0 x30_3) x39_4).f0) == ((rd_T27 (rd_L2 l0 x30_3) (ji18)).f0) && (((rd_T27 (rd_L2 l0 x30_3) x39_4).f1) == ((rd_T27 (rd_L2 l0 x30_3) (ji18)).f1) && (((rd_T27 (rd_L2 l0 x30_3) x39_4).f2) == ((rd_T27 (rd_L2 l0 x30_3) (ji18)).f2)))) = true := c27
                       (try (have c27b1 : decide (((rd_T27 (rd_L2 l0 x30_3) x39_4).f0) = ((rd_T27 (rd_L2 l0 x30_3) (ji18)).f0) && (((rd_T27 (rd_L2 l0 x30_3) x39_4).f1) == ((rd_T27 (rd_L2 l0 x30_3) (ji18)).f1) && (((rd_T27 (rd_L2 l0 x30_3) x39_4).f2) == ((rd_T27 (rd_L2 l0 x30_3) (ji18)).f2)))) = true := by simpa using c27))
                       (try (have c27b2 : (((rd_T27 (rd_L2 l0 x30_3) x39_4).f0) == ((rd_T27 (rd_L2 l0 x30_3) (ji18)).f0) && (((rd_T27 (rd_L2 l0 x30_3) x39_4).f1) == ((rd_T27 (rd_L2 l0 x30_3) (ji18)).f1) && (((rd_T27 (rd_L2 l0 x30_3) x39_4).f2) == ((rd_T27 (rd_L2 l0 x30_3) (ji18)).f2)))) = true := by simpa using c27))
                       clear c27
                       (first | rw [c27b0] | (simp only [i64_w, i32_w]; rw [c27b0]) | skip)
                       obtain rfl := Option.some.inj H
                       go_wp2
                       go_ret
                       exact ⟨by first | rfl | (simp [errW_none, errW_some] <;> rfl) | (simp only [← hji18]; first | rfl | (simp [errW_none, errW_some] <;> rfl)) | (simp [*, errW_none, errW_some] <;> rfl), bH HB⟩
                      ·rw [if_neg c27] at H
                       have c27b0 : (((rd_T27 (rd_L2 l0 x30_3) x39_4).f0) == ((rd_T27 (rd_L2 l0 x30_3) (ji18)).f0) && (((rd_T27 (rd_L2 l0 x30_3) x39_4).f1) == ((rd_T27 (rd_L2 l0 x30_3) (ji18)).f1) && (((rd_T27 (rd_L2 l0 x30_3) x39_4).f2) == ((rd_T27 (rd_L2 l0 x30_3) (ji18)).f2)))) = false := by simpa using c27
                       (try (have c27b1 : decide (((rd_T27 (rd_L2 l0 x30_3) x39_4).f0) = ((rd_T27 (rd_L2 l0 x30_3) (ji18)).f0) && (((rd_T27 (rd_L2 l0 x30_3) x39_4).f1) == ((rd_T27 (rd_L2 l0 x30_3) (ji18)).f1) && (((rd_T27 (rd_L2 l0 x30_3) x39_4).f2) == ((rd_T27 (rd_L2 l0 x30_3) (ji18)).f2)))) = false := by simpa using c27))
                       (try (have c27b2 : (((rd_T27 (rd_L2 l0 x30_3) x39_4).f0) == ((rd_T27 (rd_L2 l0 x30_3) (ji18)).f0) && (((rd_T27 (rd_L2 l0 x30_3) x39_4).f1) == ((rd_T27 (rd_L2 l0 x30_3) (ji18)).f1) && (((rd_T27 (rd_L2 l0 x30_3) x39_4).f2) == ((rd_T27 (rd_L2 l0 x30_3) (ji18)).f2)))) = false := by simpa using c27))
                       (try (have c27b3 : ¬ (((rd_T27 (rd_L2 l0 x30_3) x39_4).f0) = ((rd_T27 (rd_L2 l0 x30_3) (ji18)).f0) && (((rd_T27 (rd_L2 l0 x30_3) x39_4).f1) == ((rd_T27 (rd_L2 l0 x30_3) (ji18)).f1) && (((rd_T27 (rd_L2 l0 x30_3) x39_4).f2) == ((rd_T27 (rd_L2 l0 x30_3) (ji18)).f2)))) := by simpa using c27))
                       clear c27
                       (first | rw [c27b0] | (simp only [i64_w, i32_w]; rw [c27b0]) | skip)
                       have H' := AM H
                       clear H
                       go_wp2
                       go_roundg k4
                       case measure => have := HK1.out; have := HJ4.out; have := HK3.out; have := HK4.out; omega
                       case rel => exact ⟨(wrap64 (x39_4 + 1)), rS, H', ⟨by have := HK1.out; have := HJ4.out; have := HK3.out; have := HK4.out; omega⟩, ⟨ bH HB⟩⟩
                     ·rw [if_neg c20] at H
                      exact absurd H (by simp)
                    ·rw [if_neg c19] at H
                     exact absurd H (by simp)
                   ·rw [if_neg c17] at H
                    have c17b0 := decide_eq_false c17; clear c17
                    have H' := AM H
                    clear H
                    have p541 : 0 ≤ (x39_4 : Int) := pD
                    have q541 : x39_4 < ((rd_L2 l0 x30_3).length : Int) := pD
                    obtain ⟨ad541, e541, hx541_0, hx541_1, hx541_2⟩ := at_T27 HR540_0.out x39_4 p541 q541
                    cases e541
                    replace hx541_0 := hW HB hx541_0; replace hx541_1 := hW HB hx541_1; replace hx541_2 := hW HB hx541_2; replace p541 := eq_true p541; replace q541 := eq_true q541
                    try go_wp2_with (first | ((with_reducible refine gate_dst (N := 9) rfl ?_); refine bE 9 #[.int .i64 0, .int .i64 0, .int .i64 0] 27 ?_; intro gb542 hg w28 hbox hb; have BK542 := AM hbox; have GW542 := kG HB hg; replace HB := kH HB hb; have GE542 := GW542; clear hb hbox hg; obtain ⟨hcz29_0, hcz29_1, hcz29_2, hfz29_0, hfz29_1, hfz29_2⟩ := c3 BK542))
                    have n0_ : Aside0 ((((w28.setCell ⟨gb542, 0, none⟩ (.int .i64 ((rd_T27 (rd_L2 l0 x30_3) x39_4).f0))).setCell ⟨gb542, 1, none⟩ (.int .i64 ((rd_T27 (rd_L2 l0 x30_3) x39_4).f1))).setCell ⟨gb542, 2, none⟩ (.int .i64 ((rd_T27 (rd_L2 l0 x30_3) x39_4).f2))).heap[gb542]? = some (.cells #[.int .i64 ((rd_T27 (rd_L2 l0 x30_3) x39_4).f0), .int .i64 ((rd_T27 (rd_L2 l0 x30_3) x39_4).f1), .int .i64 ((rd_T27 (rd_L2 l0 x30_3) x39_4).f2)] 27 (0, 0))) := ⟨by (with_reducible repeat (first | refine blk_drewN ?_ _ | refine blk_drew ?_ | refine blk_alloc ?_ _)); refine blk_put (cs := #[.int .i64 ((rd_T27 (rd_L2 l0 x30_3) x39_4).f0), .int .i64 ((rd_T27 (rd_L2 l0 x30_3) x39_4).f1), .int .i64 0]) ?_ 2 _ rfl; (with_reducible repeat (first | refine blk_drewN ?_ _ | refine blk_drew ?_ | refine blk_alloc ?_ _)); refine blk_put (cs := #[.int .i64 ((rd_T27 (rd_L2 l0 x30_3) x39_4).f0), .int .i64 0, .int .i64 0]) ?_ 1 _ rfl; (with_reducible repeat (first | refine blk_drewN ?_ _ | refine blk_drew ?_ | refine blk_alloc ?_ _)); refine blk_put (cs := #[.int .i64 0, .int .i64 0, .int .i64 0]) ?_ 0 _ rfl; (with_reducible repeat (first | refine blk_drewN ?_ _ | refine blk_drew ?_ | refine blk_alloc ?_ _)); exact BK542.out⟩
                    have n1_ : Aside0 (Below w.heap.size w (((w28.setCell ⟨gb542, 0, none⟩ (.int .i64 ((rd_T27 (rd_L2 l0 x30_3) x39_4).f0))).setCell ⟨gb542, 1, none⟩ (.int .i64 ((rd_T27 (rd_L2 l0 x30_3) x39_4).f1))).setCell ⟨gb542, 2, none⟩ (.int .i64 ((rd_T27 (rd_L2 l0 x30_3) x39_4).f2)))) := ⟨ bH HB⟩
                    (try clear BK542); (try clear HB)
                    generalize (((w28.setCell ⟨gb542, 0, none⟩ (.int .i64 ((rd_T27 (rd_L2 l0 x30_3) x39_4).f0))).setCell ⟨gb542, 1, none⟩ (.int .i64 ((rd_T27 (rd_L2 l0 x30_3) x39_4).f1))).setCell ⟨gb542, 2, none⟩ (.int .i64 ((rd_T27 (rd_L2 l0 x30_3) x39_4).f2))) = w30 at n0_ n1_ ⊢
                    have BK542 := n0_; have HB := n1_; clear n0_ n1_; replace BK542 := dB BK542; replace HB := dH HB
                    refine sP 16 (S := fun w' => w'.cell? ⟨gb542, 0, none⟩ = some (.int .i64 ((rd_T27 (rd_L2 l0 x30_3) x39_4).f0)) ∧ w'.cell? ⟨gb542, 1, none⟩ = some (.int .i64 ((rd_T27 (rd_L2 l0 x30_3) x39_4).f1)) ∧ w'.cell? ⟨gb542, 2, none⟩ = some (.int .i64 ((rd_T27 (rd_L2 l0 x30_3) x39_4).f2))) (ds := []) ⟨bC BK542, bC BK542, bC BK542⟩ fun hHeld => ?_; refine with_tabW arc_Check.tab17 arc_Check.bits17 (fun HT_ HW_ => ?_)
                    generalize w30.drew = w31 at BK542 HB hHeld ⊢
                    refine tQ 0 (some 44) HT_ HW_ hHeld ?_
                    refine oQ 1 (some 45) HT_ rfl fun K hK => ?_
                    refine gO Try.func75 #[.agg #[.int .i64 ((rd_T27 (rd_L2 l0 x30_3) x39_4).f0), .int .i64 ((rd_T27 (rd_L2 l0 x30_3) x39_4).f1), .int .i64 ((rd_T27 (rd_L2 l0 x30_3) x39_4).f2)]] ?_
                    with_reducible refine (arc_right.calls ((rd_T27 (rd_L2 l0 x30_3) x39_4).f0) ((rd_T27 (rd_L2 l0 x30_3) x39_4).f1) ((rd_T27 (rd_L2 l0 x30_3) x39_4).f2) true _ A15.out).mono ?_
                    rintro e w32 ⟨rfl, hb⟩
                    refine ⟨_, rfl, ?_⟩
                    replace BK542 := kB BK542 hb; replace HB := kH HB hb; (try clear hb); (try clear hb2); (try clear hk); (try clear hi)
                    refine hK.out _ _ ⟨bC BK542, bC BK542, bC BK542⟩ (fun hHeld => ?_)
                    clear hK K; refine nP (some 45) ?_; refine pQ 2 (some 46) HT_ ?_; refine pQ 3 (some 47) HT_ ?_; refine pQ 4 (some 48) HT_ ?_; refine pQ 5 (some 49) HT_ ?_; refine pQ 6 (some 50) HT_ ?_; refine uQ 7 (some 51) HT_ ?_; refine uQ 8 (some 52) HT_ ?_; refine uQ 9 (some 53) HT_ ?_; refine uQ 10 (some 54) HT_ ?_; refine uQ 11 (some 55) HT_ ?_; refine uQ 12 (some 56) HT_ ?_; refine uQ 13 (some 57) HT_ ?_; refine pQ 14 (some 58) HT_ ?_; refine pQ 15 (some 59) HT_ ?_
                    refine done_ (done_of HT_.out (by kernel_rfl)) ?_
                    try go_wp2
                    go_roundg k4
                    case measure => have := HK1.out; have := HJ4.out; have := HK3.out; have := HK4.out; omega
                    case rel => exact ⟨(wrap64 (x39_4 + 1)), rS, H', ⟨by have := HK1.out; have := HJ4.out; have := HK3.out; have := HK4.out; omega⟩, ⟨ bH HB⟩⟩
                  ·replace c16 := Bool.eq_false_iff.mpr c16
                   subst c16
                   have H1 : (some 2) = some r := by rw [if_neg (show ¬ (false = true) by decide)] at H; exact H
                   clear H; have H := H1; clear H1
                   obtain rfl := Option.some.inj H
                   have p541 : 0 ≤ (x39_4 : Int) := pD
                   have q541 : x39_4 < ((rd_L2 l0 x30_3).length : Int) := pD
                   obtain ⟨ad541, e541, hx541_0, hx541_1, hx541_2⟩ := at_T27 HR540_0.out x39_4 p541 q541
                   cases e541
                   replace hx541_0 := hW HB hx541_0; replace hx541_1 := hW HB hx541_1; replace hx541_2 := hW HB hx541_2; replace p541 := eq_true p541; replace q541 := eq_true q541
                   try go_wp2_with (first | ((with_reducible refine gate_dst (N := 9) rfl ?_); refine bE 9 #[.int .i64 0, .int .i64 0, .int .i64 0] 27 ?_; intro gb542 hg w33 hbox hb; have BK542 := AM hbox; have GW542 := kG HB hg; replace HB := kH HB hb; have GE542 := GW542; clear hb hbox hg; obtain ⟨hcz34_0, hcz34_1, hcz34_2, hfz34_0, hfz34_1, hfz34_2⟩ := c3 BK542))
                   have n0_ : Aside0 ((((w33.setCell ⟨gb542, 0, none⟩ (.int .i64 ((rd_T27 (rd_L2 l0 x30_3) x39_4).f0))).setCell ⟨gb542, 1, none⟩ (.int .i64 ((rd_T27 (rd_L2 l0 x30_3) x39_4).f1))).setCell ⟨gb542, 2, none⟩ (.int .i64 ((rd_T27 (rd_L2 l0 x30_3) x39_4).f2))).heap[gb542]? = some (.cells #[.int .i64 ((rd_T27 (rd_L2 l0 x30_3) x39_4).f0), .int .i64 ((rd_T27 (rd_L2 l0 x30_3) x39_4).f1), .int .i64 ((rd_T27 (rd_L2 l0 x30_3) x39_4).f2)] 27 (0, 0))) := ⟨by (with_reducible repeat (first | refine blk_drewN ?_ _ | refine blk_drew ?_ | refine blk_alloc ?_ _)); refine blk_put (cs := #[.int .i64 ((rd_T27 (rd_L2 l0 x30_3) x39_4).f0), .int .i64 ((rd_T27 (rd_L2 l0 x30_3) x39_4).f1), .int .i64 0]) ?_ 2 _ rfl; (with_reducible repeat (first | refine blk_drewN ?_ _ | refine blk_drew ?_ | refine blk_alloc ?_ _)); refine blk_put (cs := #[.int .i64 ((rd_T27 (rd_L2 l0 x30_3) x39_4).f0), .int .i64 0, .int .i64 0]) ?_ 1 _ rfl; (with_reducible repeat (first | refine blk_drewN ?_ _ | refine blk_drew ?_ | refine blk_alloc ?_ _)); refine blk_put (cs := #[.int .i64 0, .int .i64 0, .int .i64 0]) ?_ 0 _ rfl; (with_reducible repeat (first | refine blk_drewN ?_ _ | refine blk_drew ?_ | refine blk_alloc ?_ _)); exact BK542.out⟩
                   have n1_ : Aside0 (Below w.heap.size w (((w33.setCell ⟨gb542, 0, none⟩ (.int .i64 ((rd_T27 (rd_L2 l0 x30_3) x39_4).f0))).setCell ⟨gb542, 1, none⟩ (.int .i64 ((rd_T27 (rd_L2 l0 x30_3) x39_4).f1))).setCell ⟨gb542, 2, none⟩ (.int .i64 ((rd_T27 (rd_L2 l0 x30_3) x39_4).f2)))) := ⟨ bH HB⟩
                   (try clear BK542); (try clear HB)
                   generalize (((w33.setCell ⟨gb542, 0, none⟩ (.int .i64 ((rd_T27 (rd_L2 l0 x30_3) x39_4).f0))).setCell ⟨gb542, 1, none⟩ (.int .i64 ((rd_T27 (rd_L2 l0 x30_3) x39_4).f1))).setCell ⟨gb542, 2, none⟩ (.int .i64 ((rd_T27 (rd_L2 l0 x30_3) x39_4).f2))) = w35 at n0_ n1_ ⊢
                   have BK542 := n0_; have HB := n1_; clear n0_ n1_; replace BK542 := dB BK542; replace HB := dH HB
                   refine sP 16 (S := fun w' => w'.cell? ⟨gb542, 0, none⟩ = some (.int .i64 ((rd_T27 (rd_L2 l0 x30_3) x39_4).f0)) ∧ w'.cell? ⟨gb542, 1, none⟩ = some (.int .i64 ((rd_T27 (rd_L2 l0 x30_3) x39_4).f1)) ∧ w'.cell? ⟨gb542, 2, none⟩ = some (.int .i64 ((rd_T27 (rd_L2 l0 x30_3) x39_4).f2))) (ds := []) ⟨bC BK542, bC BK542, bC BK542⟩ fun hHeld => ?_; refine with_tabW arc_Check.tab17 arc_Check.bits17 (fun HT_ HW_ => ?_)
                   generalize w35.drew = w36 at BK542 HB hHeld ⊢
                   refine tQ 0 (some 44) HT_ HW_ hHeld ?_
                   refine oQ 1 (some 45) HT_ rfl fun K hK => ?_
                   refine gO Try.func75 #[.agg #[.int .i64 ((rd_T27 (rd_L2 l0 x30_3) x39_4).f0), .int .i64 ((rd_T27 (rd_L2 l0 x30_3) x39_4).f1), .int .i64 ((rd_T27 (rd_L2 l0 x30_3) x39_4).f2)]] ?_
                   with_reducible refine (arc_right.calls ((rd_T27 (rd_L2 l0 x30_3) x39_4).f0) ((rd_T27 (rd_L2 l0 x30_3) x39_4).f1) ((rd_T27 (rd_L2 l0 x30_3) x39_4).f2) false _ A15.out).mono ?_
                   rintro e w37 ⟨rfl, hb⟩
                   refine ⟨_, rfl, ?_⟩
                   replace BK542 := kB BK542 hb; replace HB := kH HB hb; (try clear hb); (try clear hb2); (try clear hk); (try clear hi)
                   refine hK.out _ _ ⟨bC BK542, bC BK542, bC BK542⟩ (fun hHeld => ?_)
                   clear hK K; refine nP (some 45) ?_; refine pQ 2 (some 46) HT_ ?_; refine pQ 3 (some 47) HT_ ?_; refine uQ 4 (some 48) HT_ ?_; refine uQ 5 (some 49) HT_ ?_; refine uQ 6 (some 50) HT_ ?_; refine uQ 7 (some 51) HT_ ?_; refine uQ 8 (some 52) HT_ ?_; refine uQ 9 (some 53) HT_ ?_; refine uQ 10 (some 54) HT_ ?_; refine uQ 11 (some 55) HT_ ?_; refine uQ 12 (some 56) HT_ ?_; refine uQ 13 (some 57) HT_ ?_; refine uQ 14 (some 58) HT_ ?_; refine pQ 15 (some 59) HT_ ?_
                   refine done_ (done_of HT_.out (by kernel_rfl)) ?_
                   try go_wp2
                   go_ret
                   exact ⟨rE, bH HB⟩
                 ·rw [if_neg c14] at H
                  exact absurd H (by simp)
                ·rw [if_neg c13] at H
                 exact absurd H (by simp)
               ·rw [if_neg c12] at H
                have c12b0 := decide_eq_false c12; clear c12
                have H' := AM H
                clear H
                go_wp2
                go_roundg k4
                case measure => have := HK1.out; have := HJ4.out; have := HK3.out; have := HK4.out; omega
                case rel => exact ⟨(wrap64 (x30_3 + 1)), rS, H', ⟨by have := HK1.out; have := HJ4.out; have := HK3.out; have := HK4.out; omega⟩, ⟨ bH HB⟩⟩
           ·rw [if_neg c10] at H
            exact absurd H (by simp)
          ·rw [if_neg c9] at H
           exact absurd H (by simp)
         ·rw [if_neg c8] at H
          have c8b0 := decide_eq_false c8; clear c8
          obtain rfl := Option.some.inj H
          go_wp2
          go_ret
          exact ⟨rE, bH HB⟩
end Go.Proofs.Ytbonkedecfjmdaa.P

namespace Go.Proofs.Ytbonkedecfjmdaa.P
open Go.RowKit Go.Proofs.YtbonkedecfjmdaaW.PrintWords Go.Proofs.YtbonkedecfjmdaaW.PrintLast Go.Proofs.YtbonkedecfjmdaaW.PrintMore Go.Proofs.Ytbonkedecfjmdaa.X
attribute [local go_sem] max2_int min2_int max_two min_two max_three min_three max_four min_four add64_0 add64_1 add64
set_option linter.unusedVariables false
set_option linter.unusedSimpArgs false
mutual
def plan_sides.l0 : Nat → List (S109) → List (List (S27)) → Int → Int → Option ((List (S109)))
 | 0, _, _, _, _ => none
 | k + 1, x3, x8, x9, x10 => if x10 < x9 then (if 0 ≤ x10 then (if x10 < (x8.length : Int) then (plan_sides.l1 k x3 x10 (rd_L2 x8 x10) 1 x8 x9 x10) else (none)) else (none)) else (some x3)
def plan_sides.l1 : Nat → List (S109) → Int → List (S27) → Int → List (List (S27)) → Int → Int → Option ((List (S109)))
 | 0, _, _, _, _, _, _, _ => none
 | k + 1, x3, x4, x5, x6, x8, x9, x10 => if x6 < (x5.length : Int) then (if 0 ≤ (wrap64 (x6 - 1)) then (if (wrap64 (x6 - 1)) < (x5.length : Int) then (if 0 ≤ x6 then (if x3.length < 1954687338268 then (plan_sides.l1 k (x3 ++ [(⟨(⟨(rd_T27 x5 (wrap64 (x6 - 1))).f0, (rd_T27 x5 (wrap64 (x6 - 1))).f1, (rd_T27 x5 (wrap64 (x6 - 1))).f2⟩ : S27), (⟨(rd_T27 x5 x6).f0, (rd_T27 x5 x6).f1, (rd_T27 x5 x6).f2⟩ : S27), x4, x6, (x6 == 1), (x6 == (wrap64 ((x5.length : Int) - 1)))⟩ : S109)]) x4 x5 (wrap64 (x6 + 1)) x8 x9 x10) else (none)) else (none)) else (none)) else (none)) else (plan_sides.l0 k x3 x8 x9 (wrap64 (x10 + 1)))
end
def plan_sides.f (k : Nat) (l0_0 : List (List (S27))) (l0_1 : List (List Int)) (l0_2 : List (List Int)) : Option ((List (S109))) := plan_sides.l0 k ([] : List (S109)) l0_0 (l0_0.length : Int) 0
theorem plan_sides.mono_l : ∀ k, (∀ y0 y1 y2 y3, LeO (plan_sides.l0 k y0 y1 y2 y3) (plan_sides.l0 (k + 1) y0 y1 y2 y3)) ∧ (∀ y0 y1 y2 y3 y4 y5 y6, LeO (plan_sides.l1 k y0 y1 y2 y3 y4 y5 y6) (plan_sides.l1 (k + 1) y0 y1 y2 y3 y4 y5 y6))
 | 0 => ⟨fun _ _ _ _ r h => by simp [plan_sides.l0] at h, fun _ _ _ _ _ _ _ r h => by simp [plan_sides.l1] at h⟩
 | k + 1 => by
  obtain ⟨ih0, ih1⟩ := plan_sides.mono_l k
  refine ⟨?_, ?_⟩
  all_goals
   intros
   first | unfold plan_sides.l0 | unfold plan_sides.l1
   repeat' with_reducible first | exact ih0 _ _ _ _ | exact ih1 _ _ _ _ _ _ _ | exact LeO.refl _ | exact LeO.none _ | refine LeO.ite ?_ ?_ | refine LeO.bind ?_ (fun _ => ?_)
theorem plan_sides.mono : ∀ a0 a1 a2 k, LeO (plan_sides.f k a0 a1 a2) (plan_sides.f (k + 1) a0 a1 a2) := by
 intro a0 a1 a2 k
 obtain ⟨ih0, ih1⟩ := plan_sides.mono_l k
 unfold plan_sides.f
 repeat' first
   | (with_reducible exact ih0 _ _ _ _)
   | (with_reducible exact ih1 _ _ _ _ _ _ _)
   | (with_reducible exact LeO.refl _)
   | (with_reducible exact LeO.none _)
   | (with_reducible refine LeO.ite ?_ ?_)
   | (with_reducible refine LeO.bind ?_ (fun _ => ?_))
   | exact ih0 _ _ _ _
   | exact ih1 _ _ _ _ _ _ _
   | exact LeO.none _
   | refine LeO.ite ?_ ?_
   | refine LeO.bind ?_ (fun _ => ?_)
def plan_sides.T8 : Bool × List (List Nat × List Nat) := (true, [([], []), ([], []), ([], []), ([2], [2]), ([1, 3], [1, 3]), ([4], [4]), ([], []), ([], []), ([6, 7], [6, 7]), ([8], [8]), ([], []), ([], []), ([], []), ([12], [12]), ([], []), ([], []), ([15], [15]), ([16], [16]), ([14, 17], [14, 17]), ([5, 9, 10, 11, 13, 18], [5, 9, 10, 11, 13, 18]), ([19], [19]), ([0, 20], [0, 20]), ([21, 21, 0, 1, 2, 3, 4, 5, 6, 7, 8, 9, 10, 11, 12, 13, 14, 15, 16, 17, 18, 19, 20, 21], [0, 21])])
def plan_sides.B8 : List Nat := [0, 0, 0, 4, 14, 30, 0, 0, 192, 448, 0, 0, 0, 4096, 0, 0, 32768, 98304, 245760, 524286, 1048574, 2097151, 4194303]
theorem plan_sides.tab8 : rtab .any (opsOf Try.f76 8) = plan_sides.T8 := by kernel_rfl
theorem plan_sides.bits8 : waitsOk plan_sides.T8.2 plan_sides.B8 = true := by kernel_rfl
set_option maxHeartbeats 8000000 in
set_option maxRecDepth 100000 in
theorem plan_sides.calls (k : Nat) (A0_0 : Option Addr) (c0_0 : Nat) (l0_0 : List (List (S27))) (A0_1 : Option Addr) (c0_1 : Nat) (l0_1 : List (List Int)) (A0_2 : Option Addr) (c0_2 : Nat) (l0_2 : List (List Int)) (r : List (S109)) (w : World) (hr0_0 : Kd.C (Kd.slice 27 k27) w A0_0 l0_0.length l0_0) (hc0_0 : l0_0.length ≤ c0_0) (hr0_1 : Kd.C (Kd.slice 3 (Kd.int .i64)) w A0_1 l0_1.length l0_1) (hc0_1 : l0_1.length ≤ c0_1) (hr0_2 : Kd.C (Kd.slice 3 (Kd.int .i64)) w A0_2 l0_2.length l0_2) (hc0_2 : l0_2.length ≤ c0_2) (h : plan_sides.f k l0_0 l0_1 l0_2 = some r) :
  Calls Try.prog 76 #[.agg #[.slice A0_0 l0_0.length c0_0, .slice A0_1 l0_1.length c0_1, .slice A0_2 l0_2.length c0_2]] w fun e w' => ∃ v0_ : Value, e = .returned (v0_) ∧ Kd.R k109 109 w' w.heap.size (fun _ => True) v0_ r ∧ Below w.heap.size w w' := by
 have hu25 := Try.underlying25
 have hu27 := Try.underlying27
 have hu109 := Try.underlying109
 have HR0_0 := AM hr0_0
 have HC0_0 := AM hc0_0
 clear hr0_0 hc0_0
 have HR0_1 := AM hr0_1
 have HC0_1 := AM hc0_1
 clear hr0_1 hc0_1
 have HR0_2 := AM hr0_2
 have HC0_2 := AM hc0_2
 clear hr0_2 hc0_2
 have HB := AM (Below.refl w.heap.size w)
 have H : (plan_sides.l0 k ([] : List (S109)) l0_0 (l0_0.length : Int) 0) = some r := h
 clear h
 have H' := AM H
 clear H
 go_enter Try.func76, Try.ntmps76
 go_wp2_with (first | ((with_reducible refine gate_dst (N := 1) rfl ?_); refine bE 1 #[.slice A0_0 l0_0.length c0_0, .slice A0_1 l0_1.length c0_1, .slice A0_2 l0_2.length c0_2] 25 ?_; intro gb545 hg w2 hbox hb; have BK545 := AM hbox; have GW545 := kG HB hg; replace HB := kH HB hb; have GE545 := GW545; clear hb hbox hg; obtain ⟨hcz3_0, hcz3_1, hcz3_2, hfz3_0, hfz3_1, hfz3_2⟩ := c3 BK545))
 go_loopg [3, 10] k (fun kq v3 v10 w' => ∃ (x3_1 : List (S109)) (x10_1 : Int), v10 = .int .i64 x10_1 ∧ Aside0 (plan_sides.l0 kq x3_1 l0_0 (l0_0.length : Int) x10_1 = some r) ∧ Aside0 (kq ≤ k) ∧ Aside0 (Kd.R k109 109 w' w.heap.size (fun _ => True) v3 x3_1) ∧ Aside0 (w'.heap[gb545]? = some (.cells #[(.slice A0_0 l0_0.length c0_0), (.slice A0_1 l0_1.length c0_1), (.slice A0_2 l0_2.length c0_2)] 25 (0, 0))) ∧ Aside0 (Below w.heap.size w w'))
 case atStart => exact ⟨(([] : List (S109))), (0), rS, H', ⟨Nat.le_refl _⟩, ⟨by first | exact Kd.R_nil _ _ _ _ _ | exact Kd.N_nil _ _ _ _ _ | exact Kd.V_nil _ _ _ _ _ | exact Kd.Q_nil _ _ _ _ _ | exact Kd.S_nil _ _ _ _ _⟩, ⟨bK BK545⟩, ⟨ bH HB⟩⟩
 case round =>
  clear H'
  (try clear p2); (try clear hcz3_0); (try clear hcz3_1); (try clear hcz3_2); (try clear hfz3_0); (try clear hfz3_1); (try clear hfz3_2)
  obtain ⟨x3_1, x10_1, rfl, HA, HK1, HO_3, BK545, HB⟩ := hrel
  cases gk with
  | zero => exact absurd HA.out (by simp [plan_sides.l0])
  | succ k1 =>
   have H := HA.out; clear HA
   simp only [plan_sides.l0] at H
   by_cases c4 : x10_1 < (l0_0.length : Int)
   ·rw [if_pos c4] at H
    have c4b0 := decide_eq_true c4; clear c4
    by_cases c5 : 0 ≤ x10_1
    ·rw [if_pos c5] at H
     have c5b0 := decide_eq_true c5; clear c5
     by_cases c6 : x10_1 < (l0_0.length : Int)
     ·rw [if_pos c6] at H
      have c6b0 := decide_eq_true c6; clear c6
      have H' := AM H
      clear H
      have p546 : 0 ≤ (x10_1 : Int) := pD
      have q546 : x10_1 < (l0_0.length : Int) := pD
      obtain ⟨ad546, A546_0, c546_0, e546, hx546_0, hl546_0, hi546_0⟩ := at_L2 HR0_0.out x10_1 p546 q546
      cases e546
      replace hx546_0 := hW HB hx546_0
      have HR546_0 := AM hi546_0
      have HC546_0 := AM hl546_0
      clear hi546_0 hl546_0; replace p546 := eq_true p546; replace q546 := eq_true q546
      go_wp2
      go_loopg [3, 6] k1 (fun kq v3 v6 w' => ∃ (x3_2 : List (S109)) (x6_2 : Int), v6 = .int .i64 x6_2 ∧ Aside0 (plan_sides.l1 kq x3_2 x10_1 (rd_L2 l0_0 x10_1) x6_2 l0_0 (l0_0.length : Int) x10_1 = some r) ∧ Aside0 (kq ≤ k1) ∧ Aside0 (Kd.R k109 109 w' w.heap.size (fun _ => True) v3 x3_2) ∧ Aside0 (w'.heap[gb545]? = some (.cells #[(.slice (some ad546) l0_0.length c0_0), (.slice A0_1 l0_1.length c0_1), (.slice A0_2 l0_2.length c0_2)] 25 (0, 0))) ∧ Aside0 (Below w.heap.size w w'))
      case atStart => exact ⟨(x3_1), (1), rS, H', ⟨Nat.le_refl _⟩, ⟨rK HO_3⟩, ⟨bK BK545⟩, ⟨ bH HB⟩⟩
      case round =>
       clear H'
       (try clear p2); (try clear c4); (try clear c4b0); (try clear c5); (try clear c5b0); (try clear p5); (try clear q5); (try clear hx5); (try clear c6); (try clear c6b0); (try clear hcz3_0); (try clear hcz3_1); (try clear hcz3_2); (try clear hfz3_0); (try clear hfz3_1); (try clear hfz3_2); (try clear hx546_0); (try clear p2); (try clear p546); (try clear q546)
       obtain ⟨x3_2, x6_2, rfl, HA, HK2, HO_3, BK545, HB⟩ := hrel
       cases gk with
       | zero => exact absurd HA.out (by simp [plan_sides.l1])
       | succ k2 =>
        have H := HA.out; clear HA
        simp only [plan_sides.l1] at H
        by_cases c7 : x6_2 < ((rd_L2 l0_0 x10_1).length : Int)
        ·rw [if_pos c7] at H
         have c7b0 := decide_eq_true c7; clear c7
         obtain ⟨ji8, hji8⟩ : ∃ j_ : Int, (wrap64 (x6_2 - 1)) = j_ := ⟨_, rfl⟩
         replace H : (if 0 ≤ (ji8) then (if (ji8) < ((rd_L2 l0_0 x10_1).length : Int) then (if 0 ≤ x6_2 then (if x3_2.length < 1954687338268 then (plan_sides.l1 k2 (x3_2 ++ [(⟨(⟨(rd_T27 (rd_L2 l0_0 x10_1) (ji8)).f0, (rd_T27 (rd_L2 l0_0 x10_1) (ji8)).f1, (rd_T27 (rd_L2 l0_0 x10_1) (ji8)).f2⟩ : S27), (⟨(rd_T27 (rd_L2 l0_0 x10_1) x6_2).f0, (rd_T27 (rd_L2 l0_0 x10_1) x6_2).f1, (rd_T27 (rd_L2 l0_0 x10_1) x6_2).f2⟩ : S27), x10_1, x6_2, (x6_2 == 1), (x6_2 == (wrap64 (((rd_L2 l0_0 x10_1).length : Int) - 1)))⟩ : S109)]) x10_1 (rd_L2 l0_0 x10_1) (wrap64 (x6_2 + 1)) l0_0 (l0_0.length : Int) x10_1) else (none)) else (none)) else (none)) else (none)) = some r := by first | (rw [hji8] at H; exact H) | (simp only [hji8] at H ⊢; exact H)
         have hji8w : (IntKind.i64.wrap (x6_2 - 1)) = ji8 := (i64_w _).trans hji8
         by_cases c9 : 0 ≤ (ji8)
         ·rw [if_pos c9] at H
          have c9b0 := decide_eq_true c9; clear c9
          by_cases c10 : (ji8) < ((rd_L2 l0_0 x10_1).length : Int)
          ·rw [if_pos c10] at H
           have c10b0 := decide_eq_true c10; clear c10
           by_cases c11 : 0 ≤ x6_2
           ·rw [if_pos c11] at H
            have c11b0 := decide_eq_true c11; clear c11
            by_cases c12 : x3_2.length < 1954687338268
            ·rw [if_pos c12] at H
             have LMc12 := AM c12
             clear c12
             obtain ⟨y549, hy549⟩ : ∃ y_ : List (S109), y_ = (x3_2 ++ [(⟨(⟨(rd_T27 (rd_L2 l0_0 x10_1) (ji8)).f0, (rd_T27 (rd_L2 l0_0 x10_1) (ji8)).f1, (rd_T27 (rd_L2 l0_0 x10_1) (ji8)).f2⟩ : S27), (⟨(rd_T27 (rd_L2 l0_0 x10_1) x6_2).f0, (rd_T27 (rd_L2 l0_0 x10_1) x6_2).f1, (rd_T27 (rd_L2 l0_0 x10_1) x6_2).f2⟩ : S27), x10_1, x6_2, (x6_2 == 1), (x6_2 == (wrap64 (((rd_L2 l0_0 x10_1).length : Int) - 1)))⟩ : S109)]) := ⟨_, rfl⟩
             replace H : (plan_sides.l1 k2 y549 x10_1 (rd_L2 l0_0 x10_1) (wrap64 (x6_2 + 1)) l0_0 (l0_0.length : Int) x10_1) = some r := by first | (rw [hy549]; with_reducible exact H) | (have H2_ := (Option.bind_some _ _).symm.trans H; rw [hy549]; with_reducible exact H2_) | (have H2_ := (Option.bind_some _ _).symm.trans H; with_reducible exact H2_) | with_reducible exact H | (rw [hy549]; exact H) | exact H
             have Ny549 := AM hy549
             clear hy549
             have H' := AM H
             clear H
             try go_wp2
             replace HO_3 := dR HO_3; replace BK545 := dB BK545; replace HB := dH HB
             have p547 : 0 ≤ ((ji8) : Int) := pD
             have q547 : (ji8) < ((rd_L2 l0_0 x10_1).length : Int) := pD
             obtain ⟨ad547, e547, hx547_0, hx547_1, hx547_2⟩ := at_T27 HR546_0.out (ji8) p547 q547
             have hw547_2 := hx547_2; have hw547_1 := hx547_1; have hw547_0 := hx547_0
             cases e547
             replace hx547_0 := hW HB hx547_0; replace hx547_1 := hW HB hx547_1; replace hx547_2 := hW HB hx547_2; replace p547 := eq_true p547; replace q547 := eq_true q547
             have p548 : 0 ≤ (x6_2 : Int) := pD
             have q548 : x6_2 < ((rd_L2 l0_0 x10_1).length : Int) := pD
             obtain ⟨ad548, e548, hx548_0, hx548_1, hx548_2⟩ := at_T27 HR546_0.out x6_2 p548 q548
             have hw548_2 := hx548_2; have hw548_1 := hx548_1; have hw548_0 := hx548_0
             obtain rfl : ad547 = ad548 := (by injection e548)
             replace hx548_0 := hW HB hx548_0; replace hx548_1 := hW HB hx548_1; replace hx548_2 := hW HB hx548_2; replace p548 := eq_true p548; replace q548 := eq_true q548
             refine sP 23 (S := fun w' => w'.cell? (ad547.add (((ji8)).toNat * 3)) = some (.int .i64 ((rd_T27 (rd_L2 l0_0 x10_1) (ji8)).f0)) ∧ w'.cell? ⟨(ad547.add (((ji8)).toNat * 3)).block, (ad547.add (((ji8)).toNat * 3)).off + 1, none⟩ = some (.int .i64 ((rd_T27 (rd_L2 l0_0 x10_1) (ji8)).f1)) ∧ w'.cell? ⟨(ad547.add (((ji8)).toNat * 3)).block, (ad547.add (((ji8)).toNat * 3)).off + 2, none⟩ = some (.int .i64 ((rd_T27 (rd_L2 l0_0 x10_1) (ji8)).f2)) ∧ w'.cell? (ad547.add ((x6_2).toNat * 3)) = some (.int .i64 ((rd_T27 (rd_L2 l0_0 x10_1) x6_2).f0)) ∧ w'.cell? ⟨(ad547.add ((x6_2).toNat * 3)).block, (ad547.add ((x6_2).toNat * 3)).off + 1, none⟩ = some (.int .i64 ((rd_T27 (rd_L2 l0_0 x10_1) x6_2).f1)) ∧ w'.cell? ⟨(ad547.add ((x6_2).toNat * 3)).block, (ad547.add ((x6_2).toNat * 3)).off + 2, none⟩ = some (.int .i64 ((rd_T27 (rd_L2 l0_0 x10_1) x6_2).f2))) (ds := []) ⟨(hW HB hw547_0), (hW HB hw547_1), (hW HB hw547_2), (hW HB hw548_0), (hW HB hw548_1), (hW HB hw548_2)⟩ fun hHeld => ?_; refine with_tabW plan_sides.tab8 plan_sides.bits8 (fun HT_ HW_ => ?_)
             generalize wr.drew = w13 at HO_3 BK545 HB hx547_0 hx547_1 hx547_2 hx548_0 hx548_1 hx548_2 hHeld ⊢
             refine pQ 0 (some 21) HT_ ?_; refine pQ 1 (some 22) HT_ ?_; refine pQ 2 (some 23) HT_ ?_; refine pQ 3 (some 24) HT_ ?_; refine pQ 4 (some 25) HT_ ?_; refine pQ 6 (some 27) HT_ ?_; refine pQ 7 (some 28) HT_ ?_; refine pQ 8 (some 29) HT_ ?_; refine pQ 10 (some 31) HT_ ?_; refine pQ 11 (some 32) HT_ ?_; refine pQ 12 (some 33) HT_ ?_; refine pQ 13 (some 34) HT_ ?_; refine pQ 14 (some 35) HT_ ?_; refine pQ 15 (some 36) HT_ ?_; refine pQ 16 (some 37) HT_ ?_; refine pQ 17 (some 38) HT_ ?_; refine pQ 18 (some 39) HT_ ?_; refine tQ 5 (some 26) HT_ HW_ hHeld ?_; refine tQ 9 (some 30) HT_ HW_ hHeld ?_; refine pQ 19 (some 40) HT_ ?_
             refine oQ 20 (some 41) HT_ rfl fun K hK => ?_
             refine value_ (w1 := ?_) (v := ?_) (by rfl) rfl ?_ ?_
             rotate_left 2
             ·go_simp
              constructor
              ·rfl
              ·rfl
             refine hK.out _ _ ⟨(World.cell?_alloc_lt _ _ _ (World.block_lt_of_cell? _ _ ((hW HB hw547_0)))).trans ((hW HB hw547_0)), (World.cell?_alloc_lt _ _ _ (World.block_lt_of_cell? _ _ ((hW HB hw547_1)))).trans ((hW HB hw547_1)), (World.cell?_alloc_lt _ _ _ (World.block_lt_of_cell? _ _ ((hW HB hw547_2)))).trans ((hW HB hw547_2)), (World.cell?_alloc_lt _ _ _ (World.block_lt_of_cell? _ _ ((hW HB hw548_0)))).trans ((hW HB hw548_0)), (World.cell?_alloc_lt _ _ _ (World.block_lt_of_cell? _ _ ((hW HB hw548_1)))).trans ((hW HB hw548_1)), (World.cell?_alloc_lt _ _ _ (World.block_lt_of_cell? _ _ ((hW HB hw548_2)))).trans ((hW HB hw548_2))⟩ (fun hHeld => ?_)
             clear hK K; refine nP (some 41) ?_
             refine oQ 21 (some 42) HT_ rfl fun K hK => ?_
             refine Kd.R_append_step k109 (w0 := w) w.heap.size (by rfl) (.tmp 21) (.tmp 41) 106 109 (.agg #[(.int .i64 0), (.int .i64 0), (.int .i64 0), (.int .i64 0), (.int .i64 0), (.int .i64 0), (.int .i64 0), (.int .i64 0), (.bool false), (.bool false)]) 72 rfl Try.underlying106 info109 rfl (by decide) (by omega) u3 x3_2 (⟨(⟨(rd_T27 (rd_L2 l0_0 x10_1) (ji8)).f0, (rd_T27 (rd_L2 l0_0 x10_1) (ji8)).f1, (rd_T27 (rd_L2 l0_0 x10_1) (ji8)).f2⟩ : S27), (⟨(rd_T27 (rd_L2 l0_0 x10_1) x6_2).f0, (rd_T27 (rd_L2 l0_0 x10_1) x6_2).f1, (rd_T27 (rd_L2 l0_0 x10_1) x6_2).f2⟩ : S27), x10_1, x6_2, (x6_2 == 1), (x6_2 == (wrap64 (((rd_L2 l0_0 x10_1).length : Int) - 1)))⟩ : S109) [.int .i64 ((rd_T27 (rd_L2 l0_0 x10_1) (ji8)).f0), .int .i64 ((rd_T27 (rd_L2 l0_0 x10_1) (ji8)).f1), .int .i64 ((rd_T27 (rd_L2 l0_0 x10_1) (ji8)).f2), .int .i64 ((rd_T27 (rd_L2 l0_0 x10_1) x6_2).f0), .int .i64 ((rd_T27 (rd_L2 l0_0 x10_1) x6_2).f1), .int .i64 ((rd_T27 (rd_L2 l0_0 x10_1) x6_2).f2), .int .i64 x10_1, .int .i64 x6_2, .bool (x6_2 == 1), .bool (x6_2 == (wrap64 (((rd_L2 l0_0 x10_1).length : Int) - 1)))] (fun _ => True) (fun _ => False) rfl rfl ?aP (fun _ hk => hk.elim) ?aF ?aO ?aB ?aS ?aL ?_
             (case aP => exact k109_mkM _ _ _ (⟨(⟨(rd_T27 (rd_L2 l0_0 x10_1) (ji8)).f0, (rd_T27 (rd_L2 l0_0 x10_1) (ji8)).f1, (rd_T27 (rd_L2 l0_0 x10_1) (ji8)).f2⟩ : S27), (⟨(rd_T27 (rd_L2 l0_0 x10_1) x6_2).f0, (rd_T27 (rd_L2 l0_0 x10_1) x6_2).f1, (rd_T27 (rd_L2 l0_0 x10_1) x6_2).f2⟩ : S27), x10_1, x6_2, (x6_2 == 1), (x6_2 == (wrap64 (((rd_L2 l0_0 x10_1).length : Int) - 1)))⟩ : S109))
             (case aB => exact (bH HB))
             (case aF => exact (fun _ _ => trivial))
             (case aO => exact (rK HO_3))
             (case aS => exact (below_size (bH HB)))
             (case aL => have := LMc12.out; omega)
             intro v550 w14 ho hb hg hat
             rw [← Ny549.out] at ho
             replace BK545 := AM (blk_grown (g := gb545) (o := .cells #[.slice (some ad546) l0_0.length c0_0, .slice A0_1 l0_1.length c0_1, .slice A0_2 l0_2.length c0_2] 25 (0, 0)) (bK BK545) hg (Kd.R_ne HO_3.out BK545.out (by decide)))
             replace HB := AM hb; have HO551 := AM ho; clear HO_3; clear ho hb hg hat
             refine hK.out _ _ ⟨(hW HB hw547_0), (hW HB hw547_1), (hW HB hw547_2), (hW HB hw548_0), (hW HB hw548_1), (hW HB hw548_2)⟩ (fun hHeld => ?_)
             clear hK K; refine nP (some 42) ?_; refine pQ 22 (some 3) HT_ ?_
             refine done_ (done_of HT_.out (by kernel_rfl)) ?_
             try go_wp2
             go_roundg k2
             case measure => have := HK1.out; have := HK2.out; omega
             case rel => exact ⟨(y549), (wrap64 (x6_2 + 1)), rS, H', ⟨by have := HK1.out; have := HK2.out; omega⟩, ⟨rK HO551⟩, ⟨bK BK545⟩, ⟨ bH HB⟩⟩
            ·rw [if_neg c12] at H
             exact absurd H (by simp)
           ·rw [if_neg c11] at H
            exact absurd H (by simp)
          ·rw [if_neg c10] at H
           exact absurd H (by simp)
         ·rw [if_neg c9] at H
          exact absurd H (by simp)
        ·rw [if_neg c7] at H
         have c7b0 := decide_eq_false c7; clear c7
         have H' := AM H
         clear H
         go_wp2
         go_roundg k2
         case measure => have := HK1.out; have := HK2.out; omega
         case rel => exact ⟨(x3_2), (wrap64 (x10_1 + 1)), rS, H', ⟨by have := HK1.out; have := HK2.out; omega⟩, ⟨rK HO_3⟩, ⟨bK BK545⟩, ⟨ bH HB⟩⟩
     ·rw [if_neg c6] at H
      exact absurd H (by simp)
    ·rw [if_neg c5] at H
     exact absurd H (by simp)
   ·rw [if_neg c4] at H
    have c4b0 := decide_eq_false c4; clear c4
    obtain rfl := Option.some.inj H
    go_wp2
    go_ret
    exact ⟨_, rE, rK HO_3, bH HB⟩
end Go.Proofs.Ytbonkedecfjmdaa.P
