/- Written for this claim by a program of this session (a turned copy of the print): Go functions as Lean functions, and that the Go code comes to just these answers; or a statement proved out of them. No condition. Bytes as numbers; two rows of bytes are the same just if they are one. No condition. -/
import Derived.Test.YtbdbobjdlomjnaaGreatDoorZ2
import Derived.Test.YtbdbobjdlomjnaaGreatDoorZ7
import Derived.Lib.Bytes

namespace Go.Proofs.YtbdbobjdlomjnaaGreatDoor.P
open Go.RowKit Go.Proofs.YtbdbobjdlomjnaaGreatDoorW.PrintWords Go.Proofs.YtbdbobjdlomjnaaGreatDoorW.PrintLast Go.Proofs.YtbdbobjdlomjnaaGreatDoorW.PrintMore Go.Proofs.YtbdbobjdlomjnaaGreatDoor.X
attribute [local go_sem] max2_int min2_int max_two min_two max_three min_three max_four min_four add64_0 add64_1 add64
set_option linter.unusedVariables false
set_option linter.unusedSimpArgs false
mutual
def rf01_Get.j0 : Nat → List Int → Int → Bool → Option (Int × Int × Int)
 | 0, _, _, _ => none
 | k + 1, x0, x1, x17 => if x17 = true then (some (0, 0, 2)) else (rf01_Get.l0 k x0 x1 x1)
def rf01_Get.l0 : Nat → List Int → Int → Int → Option (Int × Int × Int)
 | 0, _, _, _ => none
 | k + 1, x0, x1, x7 => if x7 < (x0.length : Int) then (if 0 ≤ x7 then (if (rd x0 x7) ≥ 128 then (rf01_Get.j2 k x0 x1 x7 (decide ((wrap64 (x7 - x1)) < 10))) else (rf01_Get.j2 k x0 x1 x7 false)) else (none)) else (rf01_Get.j2 k x0 x1 x7 false)
def rf01_Get.j2 : Nat → List Int → Int → Int → Bool → Option (Int × Int × Int)
 | 0, _, _, _, _ => none
 | k + 1, x0, x1, x7, x35 => if x35 = true then (if (wrap64 (x7 - x1)) = 9 then (some (0, 0, 11)) else (rf01_Get.l0 k x0 x1 (wrap64 (x7 + 1)))) else (if x7 = (x0.length : Int) then (some (0, 0, 10)) else (if (wrap64 (x7 - x1)) = 9 then (if 0 ≤ x7 then (if x7 < (x0.length : Int) then (if (rd x0 x7) > 1 then (rf01_Get.j3 k x0 x1 x7 true) else (if x7 > x1 then (rf01_Get.j3 k x0 x1 x7 ((rd x0 x7) == 0)) else (rf01_Get.j3 k x0 x1 x7 false))) else (none)) else (none)) else (if x7 > x1 then (if 0 ≤ x7 then (if x7 < (x0.length : Int) then (rf01_Get.j3 k x0 x1 x7 ((rd x0 x7) == 0)) else (none)) else (none)) else (rf01_Get.j3 k x0 x1 x7 false))))
def rf01_Get.j3 : Nat → List Int → Int → Int → Bool → Option (Int × Int × Int)
 | 0, _, _, _, _ => none
 | k + 1, x0, x1, x7, x68 => if x68 = true then (some (0, 0, 11)) else (rf01_Get.l1 k x0 x1 x7 0 x7)
def rf01_Get.l1 : Nat → List Int → Int → Int → Int → Int → Option (Int × Int × Int)
 | 0, _, _, _, _, _ => none
 | k + 1, x0, x1, x7, x8, x9 => if x9 ≥ x1 then (if 0 ≤ x9 then (if x9 < (x0.length : Int) then (rf01_Get.l1 k x0 x1 x7 (IntKind.u64.wrap ((IntKind.u64.wrap (x8 * 128)) + (IntKind.u64.wrap (Int.tmod (rd x0 x9) 128)))) (wrap64 (x9 - 1))) else (none)) else (none)) else (some (x8, wrap64 (x7 + 1), 0))
end
def rf01_Get.f (k : Nat) (l0 : List Int) (a1 : Int) : Option (Int × Int × Int) := if a1 < 0 then (rf01_Get.j0 k l0 a1 true) else (rf01_Get.j0 k l0 a1 (decide (a1 > (l0.length : Int))))
theorem rf01_Get.mono_l : ∀ k, (∀ y0 y1 y2, LeO (rf01_Get.j0 k y0 y1 y2) (rf01_Get.j0 (k + 1) y0 y1 y2)) ∧ (∀ y0 y1 y2, LeO (rf01_Get.l0 k y0 y1 y2) (rf01_Get.l0 (k + 1) y0 y1 y2)) ∧ (∀ y0 y1 y2 y3, LeO (rf01_Get.j2 k y0 y1 y2 y3) (rf01_Get.j2 (k + 1) y0 y1 y2 y3)) ∧ (∀ y0 y1 y2 y3, LeO (rf01_Get.j3 k y0 y1 y2 y3) (rf01_Get.j3 (k + 1) y0 y1 y2 y3)) ∧ (∀ y0 y1 y2 y3 y4, LeO (rf01_Get.l1 k y0 y1 y2 y3 y4) (rf01_Get.l1 (k + 1) y0 y1 y2 y3 y4))
 | 0 => ⟨fun _ _ _ r h => by simp [rf01_Get.j0] at h, fun _ _ _ r h => by simp [rf01_Get.l0] at h, fun _ _ _ _ r h => by simp [rf01_Get.j2] at h, fun _ _ _ _ r h => by simp [rf01_Get.j3] at h, fun _ _ _ _ _ r h => by simp [rf01_Get.l1] at h⟩
 | k + 1 => by
  obtain ⟨ih0, ih1, ih2, ih3, ih4⟩ := rf01_Get.mono_l k
  refine ⟨?_, ?_, ?_, ?_, ?_⟩
  ·intro y0 y1 y2
   unfold rf01_Get.j0
   repeat' first
   | (with_reducible exact ih0 _ _ _)
   | (with_reducible exact ih1 _ _ _)
   | (with_reducible exact ih2 _ _ _ _)
   | (with_reducible exact ih3 _ _ _ _)
   | (with_reducible exact ih4 _ _ _ _ _)
   | (with_reducible exact LeO.refl _)
   | (with_reducible exact LeO.none _)
   | (with_reducible refine LeO.ite ?_ ?_)
   | (with_reducible refine LeO.bind ?_ (fun _ => ?_))
   | exact ih0 _ _ _
   | exact ih1 _ _ _
   | exact ih2 _ _ _ _
   | exact ih3 _ _ _ _
   | exact ih4 _ _ _ _ _
   | exact LeO.none _
   | refine LeO.ite ?_ ?_
   | refine LeO.bind ?_ (fun _ => ?_)
  ·intro y0 y1 y2
   unfold rf01_Get.l0
   repeat' first
   | (with_reducible exact ih0 _ _ _)
   | (with_reducible exact ih1 _ _ _)
   | (with_reducible exact ih2 _ _ _ _)
   | (with_reducible exact ih3 _ _ _ _)
   | (with_reducible exact ih4 _ _ _ _ _)
   | (with_reducible exact LeO.refl _)
   | (with_reducible exact LeO.none _)
   | (with_reducible refine LeO.ite ?_ ?_)
   | (with_reducible refine LeO.bind ?_ (fun _ => ?_))
   | exact ih0 _ _ _
   | exact ih1 _ _ _
   | exact ih2 _ _ _ _
   | exact ih3 _ _ _ _
   | exact ih4 _ _ _ _ _
   | exact LeO.none _
   | refine LeO.ite ?_ ?_
   | refine LeO.bind ?_ (fun _ => ?_)
  ·intro y0 y1 y2 y3
   unfold rf01_Get.j2
   repeat' first
   | (with_reducible exact ih0 _ _ _)
   | (with_reducible exact ih1 _ _ _)
   | (with_reducible exact ih2 _ _ _ _)
   | (with_reducible exact ih3 _ _ _ _)
   | (with_reducible exact ih4 _ _ _ _ _)
   | (with_reducible exact LeO.refl _)
   | (with_reducible exact LeO.none _)
   | (with_reducible refine LeO.ite ?_ ?_)
   | (with_reducible refine LeO.bind ?_ (fun _ => ?_))
   | exact ih0 _ _ _
   | exact ih1 _ _ _
   | exact ih2 _ _ _ _
   | exact ih3 _ _ _ _
   | exact ih4 _ _ _ _ _
   | exact LeO.none _
   | refine LeO.ite ?_ ?_
   | refine LeO.bind ?_ (fun _ => ?_)
  ·intro y0 y1 y2 y3
   unfold rf01_Get.j3
   repeat' first
   | (with_reducible exact ih0 _ _ _)
   | (with_reducible exact ih1 _ _ _)
   | (with_reducible exact ih2 _ _ _ _)
   | (with_reducible exact ih3 _ _ _ _)
   | (with_reducible exact ih4 _ _ _ _ _)
   | (with_reducible exact LeO.refl _)
   | (with_reducible exact LeO.none _)
   | (with_reducible refine LeO.ite ?_ ?_)
   | (with_reducible refine LeO.bind ?_ (fun _ => ?_))
   | exact ih0 _ _ _
   | exact ih1 _ _ _
   | exact ih2 _ _ _ _
   | exact ih3 _ _ _ _
   | exact ih4 _ _ _ _ _
   | exact LeO.none _
   | refine LeO.ite ?_ ?_
   | refine LeO.bind ?_ (fun _ => ?_)
  ·intro y0 y1 y2 y3 y4
   unfold rf01_Get.l1
   repeat' first
   | (with_reducible exact ih0 _ _ _)
   | (with_reducible exact ih1 _ _ _)
   | (with_reducible exact ih2 _ _ _ _)
   | (with_reducible exact ih3 _ _ _ _)
   | (with_reducible exact ih4 _ _ _ _ _)
   | (with_reducible exact LeO.refl _)
   | (with_reducible exact LeO.none _)
   | (with_reducible refine LeO.ite ?_ ?_)
   | (with_reducible refine LeO.bind ?_ (fun _ => ?_))
   | exact ih0 _ _ _
   | exact ih1 _ _ _
   | exact ih2 _ _ _ _
   | exact ih3 _ _ _ _
   | exact ih4 _ _ _ _ _
   | exact LeO.none _
   | refine LeO.ite ?_ ?_
   | refine LeO.bind ?_ (fun _ => ?_)
theorem rf01_Get.mono : ∀ a0 a1 k, LeO (rf01_Get.f k a0 a1) (rf01_Get.f (k + 1) a0 a1) := by
 intro a0 a1 k
 obtain ⟨ih0, ih1, ih2, ih3, ih4⟩ := rf01_Get.mono_l k
 unfold rf01_Get.f
 repeat' first
   | (with_reducible exact ih0 _ _ _)
   | (with_reducible exact ih1 _ _ _)
   | (with_reducible exact ih2 _ _ _ _)
   | (with_reducible exact ih3 _ _ _ _)
   | (with_reducible exact ih4 _ _ _ _ _)
   | (with_reducible exact LeO.refl _)
   | (with_reducible exact LeO.none _)
   | (with_reducible refine LeO.ite ?_ ?_)
   | (with_reducible refine LeO.bind ?_ (fun _ => ?_))
   | exact ih0 _ _ _
   | exact ih1 _ _ _
   | exact ih2 _ _ _ _
   | exact ih3 _ _ _ _
   | exact ih4 _ _ _ _ _
   | exact LeO.none _
   | refine LeO.ite ?_ ?_
   | refine LeO.bind ?_ (fun _ => ?_)
set_option maxHeartbeats 8000000 in
set_option maxRecDepth 100000 in
theorem rf01_Get.calls (k : Nat) (A0 : Option Addr) (c0 : Nat) (l0 : List Int) (a1 : Int) (r1 : Int) (r2 : Int) (r3 : Int) (w : World) (hr0 : Kd.C (Kd.int .u8) w A0 l0.length l0) (hc0 : l0.length ≤ c0) (h : rf01_Get.f k l0 a1 = some (r1, r2, r3)) :
  Calls Tryz.prog 48 #[.slice A0 l0.length c0, .int .i64 a1] w fun e w' => e = .returned (.tuple #[.int .u64 r1, .int .i64 r2, .int .i64 r3]) ∧ Drawn0 w w' := by
 have HR0 := Aside0.mk hr0
 have HC0 := Aside0.mk hc0
 clear hr0 hc0
 have H : (if a1 < 0 then (rf01_Get.j0 k l0 a1 true) else (rf01_Get.j0 k l0 a1 (decide (a1 > (l0.length : Int))))) = some (r1, r2, r3) := h
 clear h
 have HC3 := Aside0.mk H
 clear H
 go_enter Tryz.func48, Tryz.ntmps48
 go_upto_region 1 with (fail)
 go_cut [17] (fun v17 wc => ∃ (kq : Nat) (x17_2 : Bool), v17 = .bool x17_2 ∧ Aside0 (rf01_Get.j0 kq l0 a1 x17_2 = some (r1, r2, r3)) ∧ Aside0 (kq ≤ k) ∧ Drawn0 w wc)
 case first =>
  have H := HC3.out
  clear HC3
  by_cases c4 : a1 < 0
  ·rw [if_pos c4] at H
   have c4b0 : decide (a1 < 0) = true := decide_eq_true c4
   clear c4
   (first | rw [c4b0] | (simp only [i64_w, i32_w]; rw [c4b0]) | skip)
   have H' := Aside0.mk H
   clear H
   go_wp2
   go_meet
   case rel => exact ⟨_, (true), (by first | rfl | (simp; done) | (simp [*]; done)), H', ⟨by first | omega | exact Nat.le_refl _⟩, by repeat (first | exact Drawn0.refl _ | apply Drawn0.step)⟩
  ·rw [if_neg c4] at H
   have c4b0 : decide (a1 < 0) = false := decide_eq_false c4
   clear c4
   (first | rw [c4b0] | (simp only [i64_w, i32_w]; rw [c4b0]) | skip)
   have H' := Aside0.mk H
   clear H
   go_wp2
   go_meet
   case rel => exact ⟨_, (decide (a1 > (l0.length : Int))), (by first | rfl | (simp; done) | (simp [*]; done)), H', ⟨by first | omega | exact Nat.le_refl _⟩, by repeat (first | exact Drawn0.refl _ | apply Drawn0.step)⟩
 case rest =>
  clear HC3
  try clear p2
  try clear c4
  try clear c4b0
  obtain ⟨kq, x17_2, rfl, HA, HJ2, ⟨mc2, rfl⟩⟩ := hcut
  cases kq with
  | zero => exact absurd HA.out (by simp [rf01_Get.j0])
  | succ kj2 =>
   have H := HA.out
   clear HA
   simp only [rf01_Get.j0] at H
   by_cases c5 : x17_2 = true
   ·subst c5
    have H1 : (some (0, 0, 2)) = some (r1, r2, r3) := by rw [if_pos rfl] at H; exact H
    clear H
    have H := H1
    clear H1
    simp only [Option.some.injEq, Prod.mk.injEq] at H
    obtain ⟨rfl, rfl, rfl⟩ := H
    go_wp2
    go_ret3
    exact ⟨by first | rfl | (simp; done) | (simp [*]; done), by repeat (first | exact Drawn0.refl _ | apply Drawn0.step)⟩
   ·replace c5 := Bool.eq_false_iff.mpr c5
    subst c5
    have H1 : (rf01_Get.l0 kj2 l0 a1 a1) = some (r1, r2, r3) := by rw [if_neg (show ¬ (false = true) by decide)] at H; exact H
    clear H
    have H := H1
    clear H1
    have H' := Aside0.mk H
    clear H
    go_wp2
    go_loopg [7] kj2 (fun kq v7 w' => ∃ (x7_2 : Int), v7 = .int .i64 x7_2 ∧ Aside0 (rf01_Get.l0 kq l0 a1 x7_2 = some (r1, r2, r3)) ∧ Aside0 (kq ≤ kj2) ∧ Drawn0 w w')
    case atStart => exact ⟨(a1), (by first | rfl | (simp; done) | (simp [*]; done)), H', ⟨Nat.le_refl _⟩, by repeat (first | exact Drawn0.refl _ | apply Drawn0.step)⟩
    case round =>
     clear H'
     try clear c2
     try clear p2
     try clear c4
     try clear c4b0
     try clear c5
     try clear p2
     obtain ⟨x7_2, rfl, HA, HK2, ⟨m2, rfl⟩⟩ := hrel
     cases gk with
     | zero => exact absurd HA.out (by simp [rf01_Get.l0])
     | succ k2 =>
      have H := HA.out
      clear HA
      simp only [rf01_Get.l0] at H
      have HC6 := Aside0.mk H
      clear H
      go_upto_region 4 with (fail)
      go_cut [35] (fun v35 wc => ∃ (kq : Nat) (x35_5 : Bool), v35 = .bool x35_5 ∧ Aside0 (rf01_Get.j2 kq l0 a1 x7_2 x35_5 = some (r1, r2, r3)) ∧ Aside0 (kq ≤ k2) ∧ Drawn0 w wc)
      case first =>
       have H := HC6.out
       clear HC6
       by_cases c7 : x7_2 < (l0.length : Int)
       ·rw [if_pos c7] at H
        have c7b0 : decide (x7_2 < (l0.length : Int)) = true := decide_eq_true c7
        clear c7
        (first | rw [c7b0] | (simp only [i64_w, i32_w]; rw [c7b0]) | skip)
        by_cases c8 : 0 ≤ x7_2
        ·rw [if_pos c8] at H
         have c8b0 : decide (0 ≤ x7_2) = true := decide_eq_true c8
         clear c8
         by_cases c9 : (rd l0 x7_2) ≥ 128
         ·rw [if_pos c9] at H
          have c9b0 : decide (128 ≤ (rd l0 x7_2)) = true := decide_eq_true c9
          clear c9
          have H' := Aside0.mk H
          clear H
          have p312 : 0 ≤ (x7_2 : Int) := of_decide_eq_true (by first | (with_reducible assumption) | assumption)
          have q312 : x7_2 < (l0.length : Int) := of_decide_eq_true (by first | (with_reducible assumption) | assumption)
          obtain ⟨ad312, e312, hx312_0⟩ := Kd.at_int HR0.out x7_2 p312 q312
          cases e312
          replace p312 := eq_true p312
          replace q312 := eq_true q312
          go_wp2
          go_meet
          case rel => exact ⟨_, (decide ((wrap64 (x7_2 - a1)) < 10)), (by first | rfl | (simp; done) | (simp [*]; done)), H', ⟨by have := HJ2.out; have := HK2.out; first | omega | exact Nat.le_refl _⟩, by repeat (first | exact Drawn0.refl _ | apply Drawn0.step)⟩
         ·rw [if_neg c9] at H
          have c9b0 : decide (128 ≤ (rd l0 x7_2)) = false := decide_eq_false c9
          clear c9
          have H' := Aside0.mk H
          clear H
          have p312 : 0 ≤ (x7_2 : Int) := of_decide_eq_true (by first | (with_reducible assumption) | assumption)
          have q312 : x7_2 < (l0.length : Int) := of_decide_eq_true (by first | (with_reducible assumption) | assumption)
          obtain ⟨ad312, e312, hx312_0⟩ := Kd.at_int HR0.out x7_2 p312 q312
          cases e312
          replace p312 := eq_true p312
          replace q312 := eq_true q312
          go_wp2
          go_meet
          case rel => exact ⟨_, (false), (by first | rfl | (simp; done) | (simp [*]; done)), H', ⟨by have := HJ2.out; have := HK2.out; first | omega | exact Nat.le_refl _⟩, by repeat (first | exact Drawn0.refl _ | apply Drawn0.step)⟩
        ·rw [if_neg c8] at H
         exact absurd H (by simp)
       ·rw [if_neg c7] at H
        have c7b0 : decide (x7_2 < (l0.length : Int)) = false := decide_eq_false c7
        clear c7
        (first | rw [c7b0] | (simp only [i64_w, i32_w]; rw [c7b0]) | skip)
        have H' := Aside0.mk H
        clear H
        go_wp2
        go_meet
        case rel => exact ⟨_, (false), (by first | rfl | (simp; done) | (simp [*]; done)), H', ⟨by have := HJ2.out; have := HK2.out; first | omega | exact Nat.le_refl _⟩, by repeat (first | exact Drawn0.refl _ | apply Drawn0.step)⟩
      case rest =>
       clear HC6
       try clear c2
       try clear p2
       try clear p3
       try clear q3
       try clear hx3
       try clear c4
       try clear c4b0
       try clear c5
       try clear p6
       try clear c7
       try clear c7b0
       try clear c8
       try clear c8b0
       try clear c9
       try clear c9b0
       try clear hx312_0
       try clear p2
       try clear p312
       try clear q312
       obtain ⟨kq, x35_5, rfl, HA, HJ5, ⟨mc5, rfl⟩⟩ := hcut
       cases kq with
       | zero => exact absurd HA.out (by simp [rf01_Get.j2])
       | succ kj5 =>
        have H := HA.out
        clear HA
        simp only [rf01_Get.j2] at H
        by_cases c10 : x35_5 = true
        ·subst c10
         have H1 : (if (wrap64 (x7_2 - a1)) = 9 then (some (0, 0, 11)) else (rf01_Get.l0 kj5 l0 a1 (wrap64 (x7_2 + 1)))) = some (r1, r2, r3) := by rw [if_pos rfl] at H; exact H
         clear H
         have H := H1
         clear H1
         by_cases c11 : (wrap64 (x7_2 - a1)) = 9
         ·rw [if_pos c11] at H
          have c11b0 : ((wrap64 (x7_2 - a1)) == 9) = true := beq_iff_eq.mpr c11
          have c11b1 : ((wrap64 (x7_2 - a1)) != 9) = false := bne_eq_false_iff_eq.mpr c11
          clear c11
          simp only [Option.some.injEq, Prod.mk.injEq] at H
          obtain ⟨rfl, rfl, rfl⟩ := H
          go_wp2
          go_ret3
          exact ⟨by first | rfl | (simp; done) | (simp [*]; done), by repeat (first | exact Drawn0.refl _ | apply Drawn0.step)⟩
         ·rw [if_neg c11] at H
          have c11b0 : ((wrap64 (x7_2 - a1)) == 9) = false := beq_eq_false_iff_ne.mpr c11
          have c11b1 : ((wrap64 (x7_2 - a1)) != 9) = true := bne_iff_ne.mpr c11
          have H' := Aside0.mk H
          clear H
          go_wp2
          go_roundg kj5
          case measure => have := HJ2.out; have := HK2.out; have := HJ5.out; omega
          case rel => exact ⟨(wrap64 (x7_2 + 1)), (by first | rfl | (simp; done) | (simp [*]; done)), H', ⟨by have := HJ2.out; have := HK2.out; have := HJ5.out; omega⟩, by repeat (first | exact Drawn0.refl _ | apply Drawn0.step)⟩
        ·replace c10 := Bool.eq_false_iff.mpr c10
         subst c10
         have H1 : (if x7_2 = (l0.length : Int) then (some (0, 0, 10)) else (if (wrap64 (x7_2 - a1)) = 9 then (if 0 ≤ x7_2 then (if x7_2 < (l0.length : Int) then (if (rd l0 x7_2) > 1 then (rf01_Get.j3 kj5 l0 a1 x7_2 true) else (if x7_2 > a1 then (rf01_Get.j3 kj5 l0 a1 x7_2 ((rd l0 x7_2) == 0)) else (rf01_Get.j3 kj5 l0 a1 x7_2 false))) else (none)) else (none)) else (if x7_2 > a1 then (if 0 ≤ x7_2 then (if x7_2 < (l0.length : Int) then (rf01_Get.j3 kj5 l0 a1 x7_2 ((rd l0 x7_2) == 0)) else (none)) else (none)) else (rf01_Get.j3 kj5 l0 a1 x7_2 false)))) = some (r1, r2, r3) := by rw [if_neg (show ¬ (false = true) by decide)] at H; exact H
         clear H
         have H := H1
         clear H1
         by_cases c12 : x7_2 = (l0.length : Int)
         ·rw [if_pos c12] at H
          have c12b0 : (x7_2 == (l0.length : Int)) = true := beq_iff_eq.mpr c12
          have c12b1 : (x7_2 != (l0.length : Int)) = false := bne_eq_false_iff_eq.mpr c12
          clear c12
          simp only [Option.some.injEq, Prod.mk.injEq] at H
          obtain ⟨rfl, rfl, rfl⟩ := H
          go_wp2
          go_ret3
          exact ⟨by first | rfl | (simp; done) | (simp [*]; done), by repeat (first | exact Drawn0.refl _ | apply Drawn0.step)⟩
         ·rw [if_neg c12] at H
          have c12b0 : (x7_2 == (l0.length : Int)) = false := beq_eq_false_iff_ne.mpr c12
          have c12b1 : (x7_2 != (l0.length : Int)) = true := bne_iff_ne.mpr c12
          have HC13 := Aside0.mk H
          clear H
          go_upto_region 10 with (fail)
          go_cut [68] (fun v68 wc => ∃ (kq : Nat) (x68_12 : Bool), v68 = .bool x68_12 ∧ Aside0 (rf01_Get.j3 kq l0 a1 x7_2 x68_12 = some (r1, r2, r3)) ∧ Aside0 (kq ≤ kj5) ∧ Drawn0 w wc)
          case first =>
           have H := HC13.out
           clear HC13
           by_cases c14 : (wrap64 (x7_2 - a1)) = 9
           ·rw [if_pos c14] at H
            have c14b0 : ((wrap64 (x7_2 - a1)) == 9) = true := beq_iff_eq.mpr c14
            have c14b1 : ((wrap64 (x7_2 - a1)) != 9) = false := bne_eq_false_iff_eq.mpr c14
            clear c14
            (first | rw [c14b0] | (simp only [i64_w, i32_w]; rw [c14b0]) | skip)
            by_cases c15 : 0 ≤ x7_2
            ·rw [if_pos c15] at H
             have c15b0 : decide (0 ≤ x7_2) = true := decide_eq_true c15
             clear c15
             by_cases c16 : x7_2 < (l0.length : Int)
             ·rw [if_pos c16] at H
              have c16b0 : decide (x7_2 < (l0.length : Int)) = true := decide_eq_true c16
              clear c16
              by_cases c17 : (rd l0 x7_2) > 1
              ·rw [if_pos c17] at H
               have c17b0 : decide (1 < (rd l0 x7_2)) = true := decide_eq_true c17
               clear c17
               have H' := Aside0.mk H
               clear H
               have p313 : 0 ≤ (x7_2 : Int) := of_decide_eq_true (by first | (with_reducible assumption) | assumption)
               have q313 : x7_2 < (l0.length : Int) := of_decide_eq_true (by first | (with_reducible assumption) | assumption)
               obtain ⟨ad313, e313, hx313_0⟩ := Kd.at_int HR0.out x7_2 p313 q313
               cases e313
               replace p313 := eq_true p313
               replace q313 := eq_true q313
               go_wp2
               go_meet
               case rel => exact ⟨_, (true), (by first | rfl | (simp; done) | (simp [*]; done)), H', ⟨by have := HJ2.out; have := HK2.out; have := HJ5.out; first | omega | exact Nat.le_refl _⟩, by repeat (first | exact Drawn0.refl _ | apply Drawn0.step)⟩
              ·rw [if_neg c17] at H
               have c17b0 : decide (1 < (rd l0 x7_2)) = false := decide_eq_false c17
               clear c17
               by_cases c18 : x7_2 > a1
               ·rw [if_pos c18] at H
                have c18b0 : decide (a1 < x7_2) = true := decide_eq_true c18
                clear c18
                have H' := Aside0.mk H
                clear H
                have p313 : 0 ≤ (x7_2 : Int) := of_decide_eq_true (by first | (with_reducible assumption) | assumption)
                have q313 : x7_2 < (l0.length : Int) := of_decide_eq_true (by first | (with_reducible assumption) | assumption)
                obtain ⟨ad313, e313, hx313_0⟩ := Kd.at_int HR0.out x7_2 p313 q313
                cases e313
                replace p313 := eq_true p313
                replace q313 := eq_true q313
                have p314 : 0 ≤ (x7_2 : Int) := of_decide_eq_true (by first | (with_reducible assumption) | assumption)
                have q314 : x7_2 < (l0.length : Int) := of_decide_eq_true (by first | (with_reducible assumption) | assumption)
                obtain ⟨ad314, e314, hx314_0⟩ := Kd.at_int HR0.out x7_2 p314 q314
                obtain rfl : ad313 = ad314 := (by injection e314)
                replace p314 := eq_true p314
                replace q314 := eq_true q314
                go_wp2
                go_meet
                case rel => exact ⟨_, (((rd l0 x7_2) == 0)), (by first | rfl | (simp; done) | (simp [*]; done)), H', ⟨by have := HJ2.out; have := HK2.out; have := HJ5.out; first | omega | exact Nat.le_refl _⟩, by repeat (first | exact Drawn0.refl _ | apply Drawn0.step)⟩
               ·rw [if_neg c18] at H
                have c18b0 : decide (a1 < x7_2) = false := decide_eq_false c18
                clear c18
                have H' := Aside0.mk H
                clear H
                have p313 : 0 ≤ (x7_2 : Int) := of_decide_eq_true (by first | (with_reducible assumption) | assumption)
                have q313 : x7_2 < (l0.length : Int) := of_decide_eq_true (by first | (with_reducible assumption) | assumption)
                obtain ⟨ad313, e313, hx313_0⟩ := Kd.at_int HR0.out x7_2 p313 q313
                cases e313
                replace p313 := eq_true p313
                replace q313 := eq_true q313
                go_wp2
                go_meet
                case rel => exact ⟨_, (false), (by first | rfl | (simp; done) | (simp [*]; done)), H', ⟨by have := HJ2.out; have := HK2.out; have := HJ5.out; first | omega | exact Nat.le_refl _⟩, by repeat (first | exact Drawn0.refl _ | apply Drawn0.step)⟩
             ·rw [if_neg c16] at H
              exact absurd H (by simp)
            ·rw [if_neg c15] at H
             exact absurd H (by simp)
           ·rw [if_neg c14] at H
            have c14b0 : ((wrap64 (x7_2 - a1)) == 9) = false := beq_eq_false_iff_ne.mpr c14
            have c14b1 : ((wrap64 (x7_2 - a1)) != 9) = true := bne_iff_ne.mpr c14
            (first | rw [c14b0] | (simp only [i64_w, i32_w]; rw [c14b0]) | skip)
            by_cases c19 : x7_2 > a1
            ·rw [if_pos c19] at H
             have c19b0 : decide (a1 < x7_2) = true := decide_eq_true c19
             clear c19
             by_cases c20 : 0 ≤ x7_2
             ·rw [if_pos c20] at H
              have c20b0 : decide (0 ≤ x7_2) = true := decide_eq_true c20
              clear c20
              by_cases c21 : x7_2 < (l0.length : Int)
              ·rw [if_pos c21] at H
               have c21b0 : decide (x7_2 < (l0.length : Int)) = true := decide_eq_true c21
               clear c21
               have H' := Aside0.mk H
               clear H
               have p315 : 0 ≤ (x7_2 : Int) := of_decide_eq_true (by first | (with_reducible assumption) | assumption)
               have q315 : x7_2 < (l0.length : Int) := of_decide_eq_true (by first | (with_reducible assumption) | assumption)
               obtain ⟨ad315, e315, hx315_0⟩ := Kd.at_int HR0.out x7_2 p315 q315
               cases e315
               replace p315 := eq_true p315
               replace q315 := eq_true q315
               go_wp2
               go_meet
               case rel => exact ⟨_, (((rd l0 x7_2) == 0)), (by first | rfl | (simp; done) | (simp [*]; done)), H', ⟨by have := HJ2.out; have := HK2.out; have := HJ5.out; first | omega | exact Nat.le_refl _⟩, by repeat (first | exact Drawn0.refl _ | apply Drawn0.step)⟩
              ·rw [if_neg c21] at H
               exact absurd H (by simp)
             ·rw [if_neg c20] at H
              exact absurd H (by simp)
            ·rw [if_neg c19] at H
             have c19b0 : decide (a1 < x7_2) = false := decide_eq_false c19
             clear c19
             have H' := Aside0.mk H
             clear H
             go_wp2
             go_meet
             case rel => exact ⟨_, (false), (by first | rfl | (simp; done) | (simp [*]; done)), H', ⟨by have := HJ2.out; have := HK2.out; have := HJ5.out; first | omega | exact Nat.le_refl _⟩, by repeat (first | exact Drawn0.refl _ | apply Drawn0.step)⟩
          case rest =>
           clear HC13
           try clear c1
           try clear c2
           try clear p2
           try clear p3
           try clear q3
           try clear hx3
           try clear c4
           try clear c4b0
           try clear c5
           try clear p6
           try clear c7
           try clear c7b0
           try clear c8
           try clear c8b0
           try clear c9
           try clear c9b0
           try clear c10
           try clear c11
           try clear c11b0
           try clear c11b1
           try clear c12
           try clear c12b0
           try clear c12b1
           try clear c14
           try clear c14b0
           try clear c14b1
           try clear c15
           try clear c15b0
           try clear c16
           try clear c16b0
           try clear c17
           try clear c17b0
           try clear c18
           try clear c18b0
           try clear c19
           try clear c19b0
           try clear c20
           try clear c20b0
           try clear c21
           try clear c21b0
           try clear hx312_0
           try clear hx313_0
           try clear hx314_0
           try clear hx315_0
           try clear p2
           try clear p3
           try clear p312
           try clear p313
           try clear p314
           try clear p315
           try clear p6
           try clear q3
           try clear q312
           try clear q313
           try clear q314
           try clear q315
           obtain ⟨kq, x68_12, rfl, HA, HJ12, ⟨mc12, rfl⟩⟩ := hcut
           cases kq with
           | zero => exact absurd HA.out (by simp [rf01_Get.j3])
           | succ kj12 =>
            have H := HA.out
            clear HA
            simp only [rf01_Get.j3] at H
            by_cases c22 : x68_12 = true
            ·subst c22
             have H1 : (some (0, 0, 11)) = some (r1, r2, r3) := by rw [if_pos rfl] at H; exact H
             clear H
             have H := H1
             clear H1
             simp only [Option.some.injEq, Prod.mk.injEq] at H
             obtain ⟨rfl, rfl, rfl⟩ := H
             go_wp2
             go_ret3
             exact ⟨by first | rfl | (simp; done) | (simp [*]; done), by repeat (first | exact Drawn0.refl _ | apply Drawn0.step)⟩
            ·replace c22 := Bool.eq_false_iff.mpr c22
             subst c22
             have H1 : (rf01_Get.l1 kj12 l0 a1 x7_2 0 x7_2) = some (r1, r2, r3) := by rw [if_neg (show ¬ (false = true) by decide)] at H; exact H
             clear H
             have H := H1
             clear H1
             have H' := Aside0.mk H
             clear H
             go_wp2
             go_loopg [8, 9] kj12 (fun kq v8 v9 w' => ∃ (x8_5 : Int) (x9_5 : Int), v8 = .int .u64 x8_5 ∧ v9 = .int .i64 x9_5 ∧ Aside0 (rf01_Get.l1 kq l0 a1 x7_2 x8_5 x9_5 = some (r1, r2, r3)) ∧ Aside0 (kq ≤ kj12) ∧ Drawn0 w w')
             case atStart => exact ⟨(0), (x7_2), (by first | rfl | (simp; done) | (simp [*]; done)), (by first | rfl | (simp; done) | (simp [*]; done)), H', ⟨Nat.le_refl _⟩, by repeat (first | exact Drawn0.refl _ | apply Drawn0.step)⟩
             case round =>
              clear H'
              try clear c1
              try clear c2
              try clear p2
              try clear p3
              try clear q3
              try clear hx3
              try clear c4
              try clear c4b0
              try clear c5
              try clear p6
              try clear c7
              try clear c7b0
              try clear c8
              try clear c8b0
              try clear c9
              try clear c9b0
              try clear c10
              try clear c11
              try clear c11b0
              try clear c11b1
              try clear c12
              try clear c12b0
              try clear c12b1
              try clear c14
              try clear c14b0
              try clear c14b1
              try clear c15
              try clear c15b0
              try clear c16
              try clear c16b0
              try clear c17
              try clear c17b0
              try clear c18
              try clear c18b0
              try clear c19
              try clear c19b0
              try clear c20
              try clear c20b0
              try clear c21
              try clear c21b0
              try clear c22
              try clear hx312_0
              try clear hx313_0
              try clear hx314_0
              try clear hx315_0
              try clear p2
              try clear p3
              try clear p312
              try clear p313
              try clear p314
              try clear p315
              try clear p6
              try clear q3
              try clear q312
              try clear q313
              try clear q314
              try clear q315
              obtain ⟨x8_5, x9_5, rfl, rfl, HA, HK5, ⟨m5, rfl⟩⟩ := hrel
              cases gk with
              | zero => exact absurd HA.out (by simp [rf01_Get.l1])
              | succ k5 =>
               have H := HA.out
               clear HA
               simp only [rf01_Get.l1] at H
               by_cases c23 : x9_5 ≥ a1
               ·rw [if_pos c23] at H
                have c23b0 : decide (a1 ≤ x9_5) = true := decide_eq_true c23
                clear c23
                by_cases c24 : 0 ≤ x9_5
                ·rw [if_pos c24] at H
                 have c24b0 : decide (0 ≤ x9_5) = true := decide_eq_true c24
                 clear c24
                 by_cases c25 : x9_5 < (l0.length : Int)
                 ·rw [if_pos c25] at H
                  have c25b0 : decide (x9_5 < (l0.length : Int)) = true := decide_eq_true c25
                  clear c25
                  have H' := Aside0.mk H
                  clear H
                  have p316 : 0 ≤ (x9_5 : Int) := of_decide_eq_true (by first | (with_reducible assumption) | assumption)
                  have q316 : x9_5 < (l0.length : Int) := of_decide_eq_true (by first | (with_reducible assumption) | assumption)
                  obtain ⟨ad316, e316, hx316_0⟩ := Kd.at_int HR0.out x9_5 p316 q316
                  cases e316
                  replace p316 := eq_true p316
                  replace q316 := eq_true q316
                  go_wp2
                  go_roundg k5
                  case measure => have := HJ2.out; have := HK2.out; have := HJ5.out; have := HJ12.out; have := HK5.out; omega
                  case rel => exact ⟨(IntKind.u64.wrap ((IntKind.u64.wrap (x8_5 * 128)) + (IntKind.u64.wrap (Int.tmod (rd l0 x9_5) 128)))), (wrap64 (x9_5 - 1)), (by first | rfl | (simp; done) | (simp [*]; done)), (by first | rfl | (simp; done) | (simp [*]; done)), H', ⟨by have := HJ2.out; have := HK2.out; have := HJ5.out; have := HJ12.out; have := HK5.out; omega⟩, by repeat (first | exact Drawn0.refl _ | apply Drawn0.step)⟩
                 ·rw [if_neg c25] at H
                  exact absurd H (by simp)
                ·rw [if_neg c24] at H
                 exact absurd H (by simp)
               ·rw [if_neg c23] at H
                have c23b0 : decide (a1 ≤ x9_5) = false := decide_eq_false c23
                clear c23
                simp only [Option.some.injEq, Prod.mk.injEq] at H
                obtain ⟨rfl, rfl, rfl⟩ := H
                go_wp2
                go_ret3
                exact ⟨by first | rfl | (simp; done) | (simp [*]; done), by repeat (first | exact Drawn0.refl _ | apply Drawn0.step)⟩

def rf01_Put.l0 : Nat → Int → List Int → Option (List Int)
 | 0, _, _ => none
 | k + 1, x0, x3 => if x0 > 0 then (if 0 ≤ (wrap64 ((x3.length : Int) - 1)) then (if (wrap64 ((x3.length : Int) - 1)) < (x3.length : Int) then ((some (x3.set ((wrap64 ((x3.length : Int) - 1)) : Int).toNat (((rd x3 (wrap64 ((x3.length : Int) - 1))) + 128) % 256) : List Int)).bind fun y176 => (if y176.length < 140737488355328 then (rf01_Put.l0 k (IntKind.u64.wrap (Int.tdiv x0 128)) (y176 ++ [(Int.tmod x0 128) % 256])) else (none))) else (none)) else (none)) else (some x3)
def rf01_Put.f (k : Nat) (a0 : Int) : Option (List Int) := rf01_Put.l0 k (IntKind.u64.wrap (Int.tdiv a0 128)) (([(Int.tmod a0 128) % 256] : List Int))
theorem rf01_Put.mono_l : ∀ k, (∀ y0 y1, LeO (rf01_Put.l0 k y0 y1) (rf01_Put.l0 (k + 1) y0 y1))
 | 0 => fun _ _ r h => by simp [rf01_Put.l0] at h
 | k + 1 => by
  have ih0 := rf01_Put.mono_l k
  ·intro y0 y1
   unfold rf01_Put.l0
   repeat' first
   | (with_reducible exact ih0 _ _)
   | (with_reducible exact LeO.refl _)
   | (with_reducible exact LeO.none _)
   | (with_reducible refine LeO.ite ?_ ?_)
   | (with_reducible refine LeO.bind ?_ (fun _ => ?_))
   | exact ih0 _ _
   | exact LeO.none _
   | refine LeO.ite ?_ ?_
   | refine LeO.bind ?_ (fun _ => ?_)
theorem rf01_Put.mono : ∀ a0 k, LeO (rf01_Put.f k a0) (rf01_Put.f (k + 1) a0) := by
 intro a0 k
 have ih0 := rf01_Put.mono_l k
 unfold rf01_Put.f
 repeat' first
   | (with_reducible exact ih0 _ _)
   | (with_reducible exact LeO.refl _)
   | (with_reducible exact LeO.none _)
   | (with_reducible refine LeO.ite ?_ ?_)
   | (with_reducible refine LeO.bind ?_ (fun _ => ?_))
   | exact ih0 _ _
   | exact LeO.none _
   | refine LeO.ite ?_ ?_
   | refine LeO.bind ?_ (fun _ => ?_)
set_option maxHeartbeats 8000000 in
set_option maxRecDepth 100000 in
theorem rf01_Put.calls (k : Nat) (a0 : Int) (r : List Int) (w : World) (h : rf01_Put.f k a0 = some r) :
  Calls Tryz.prog 85 #[.int .u64 a0] w fun e w' => ∃ v0_ : Value, e = .returned (v0_) ∧ Kd.R (Kd.int .u8) 5 w' w.heap.size (fun _ => True) v0_ r ∧ Below w.heap.size w w' := by
 have HB := Aside0.mk (Below.refl w.heap.size w)
 have H : (rf01_Put.l0 k (IntKind.u64.wrap (Int.tdiv a0 128)) (([(Int.tmod a0 128) % 256] : List Int))) = some r := h
 clear h
 obtain ⟨y172, hy172⟩ : ∃ y_ : List Int, y_ = (([(Int.tmod a0 128) % 256] : List Int)) := ⟨_, rfl⟩
 replace H : (rf01_Put.l0 k (IntKind.u64.wrap (Int.tdiv a0 128)) y172) = some r := by first | (rw [hy172]; with_reducible exact H) | (have H2_ := (Option.bind_some _ _).symm.trans H; rw [hy172]; with_reducible exact H2_) | (have H2_ := (Option.bind_some _ _).symm.trans H; with_reducible exact H2_) | with_reducible exact H | (rw [hy172]; exact H) | exact H
 have Ny172 := Aside0.mk hy172
 clear hy172
 have H' := Aside0.mk H
 clear H
 go_enter Tryz.func85, Tryz.ntmps85
 go_wp2_with (first | ((with_reducible refine gate_dst (N := 7) rfl ?_); refine Kd.R_lit (Kd.int .u8) _ 5 ?hg (N := 7) ?hd (xs := ([(Int.tmod a0 128) % 256] : List Int)) (inner := [.int .u8 ((Int.tmod a0 128) % 256)]) (ok := fun _ => True) (okp := fun _ => True) ?hr ?hp (fun _ hk => hk) trivial (Below.refl _ _) (Nat.le_refl _) (by simp) ?_; (case hd => rfl); (case hg => rfl); (case hr => first | (go_simp; done) | (go_simp; rfl)); (case hp => exact (Reps.one (show Kd.M (Kd.int .u8) _ _ _ ((Int.tmod a0 128) % 256) [.int .u8 ((Int.tmod a0 128) % 256)] from rfl) (Reps.none _ _))); intro v173 w2 ho3 hb hg_ hnew_; clear hg_ hnew_; (first | rw [← Ny172.out] at ho3 | (simp only [Int.reduceToNat] at ho3; rw [← Ny172.out] at ho3)); have n0_ := Aside0.mk (Kd.R_lower ho3 (below_size (bH HB))); have n1_ := Aside0.mk (below_step (bH HB) hb); clear HB; have HO174 := n0_; have HB := n1_; clear n0_ n1_; clear hb ho3))
 go_loopg [0, 3] k (fun kq v0 v3 w' => ∃ (x0_1 : Int) (x3_1 : List Int), v0 = .int .u64 x0_1 ∧ Aside0 (rf01_Put.l0 kq x0_1 x3_1 = some r) ∧ Aside0 (kq ≤ k) ∧ Aside0 (Kd.R (Kd.int .u8) 5 w' w.heap.size (fun _ => True) v3 x3_1) ∧ Aside0 (Below w.heap.size w w'))
 case atStart => exact ⟨(IntKind.u64.wrap (Int.tdiv a0 128)), (y172), (by first | rfl | (simp; done) | (simp [*]; done)), H', ⟨Nat.le_refl _⟩, ⟨by (with_reducible repeat (first | apply Kd.R_alloc | apply Kd.R_drewN | apply Kd.R_drew)); exact HO174.out⟩, ⟨ bH HB⟩⟩
 case round =>
  clear H'
  try clear p2
  obtain ⟨x0_1, x3_1, rfl, HA, HK1, HO_3, HB⟩ := hrel
  cases gk with
  | zero => exact absurd HA.out (by simp [rf01_Put.l0])
  | succ k1 =>
   have H := HA.out
   clear HA
   simp only [rf01_Put.l0] at H
   by_cases c4 : x0_1 > 0
   ·rw [if_pos c4] at H
    have c4b0 : decide (0 < x0_1) = true := decide_eq_true c4
    clear c4
    obtain ⟨ji5, hji5⟩ : ∃ j_ : Int, (wrap64 ((x3_1.length : Int) - 1)) = j_ := ⟨_, rfl⟩
    replace H : (if 0 ≤ (ji5) then (if (ji5) < (x3_1.length : Int) then ((some (x3_1.set ((ji5) : Int).toNat (((rd x3_1 (ji5)) + 128) % 256) : List Int)).bind fun y176 => (if y176.length < 140737488355328 then (rf01_Put.l0 k1 (IntKind.u64.wrap (Int.tdiv x0_1 128)) (y176 ++ [(Int.tmod x0_1 128) % 256])) else (none))) else (none)) else (none)) = some r := by first | (rw [hji5] at H; exact H) | (simp only [hji5] at H ⊢; exact H)
    have hji5w : (IntKind.i64.wrap ((x3_1.length : Int) - 1)) = ji5 := (i64_w _).trans hji5
    by_cases c6 : 0 ≤ (ji5)
    ·rw [if_pos c6] at H
     have c6b0 : decide (0 ≤ (ji5)) = true := decide_eq_true c6
     clear c6
     by_cases c7 : (ji5) < (x3_1.length : Int)
     ·rw [if_pos c7] at H
      have c7b0 : decide ((ji5) < (x3_1.length : Int)) = true := decide_eq_true c7
      clear c7
      obtain ⟨y176, hy176⟩ : ∃ y_ : List Int, y_ = (x3_1.set ((ji5) : Int).toNat (((rd x3_1 (ji5)) + 128) % 256)) := ⟨_, rfl⟩
      replace H : (if y176.length < 140737488355328 then (rf01_Put.l0 k1 (IntKind.u64.wrap (Int.tdiv x0_1 128)) (y176 ++ [(Int.tmod x0_1 128) % 256])) else (none)) = some r := by first | (rw [hy176]; with_reducible exact H) | (have H2_ := (Option.bind_some _ _).symm.trans H; rw [hy176]; with_reducible exact H2_) | (have H2_ := (Option.bind_some _ _).symm.trans H; with_reducible exact H2_) | with_reducible exact H | (rw [hy176]; exact H) | exact H
      have Ny176 := Aside0.mk hy176
      clear hy176
      by_cases c9 : y176.length < 140737488355328
      ·rw [if_pos c9] at H
       have LMc9 := Aside0.mk c9
       clear c9
       obtain ⟨y177, hy177⟩ : ∃ y_ : List Int, y_ = (y176 ++ [(Int.tmod x0_1 128) % 256]) := ⟨_, rfl⟩
       replace H : (rf01_Put.l0 k1 (IntKind.u64.wrap (Int.tdiv x0_1 128)) y177) = some r := by first | (rw [hy177]; with_reducible exact H) | (have H2_ := (Option.bind_some _ _).symm.trans H; rw [hy177]; with_reducible exact H2_) | (have H2_ := (Option.bind_some _ _).symm.trans H; with_reducible exact H2_) | with_reducible exact H | (rw [hy177]; exact H) | exact H
       have Ny177 := Aside0.mk hy177
       clear hy177
       have H' := Aside0.mk H
       clear H
       obtain ⟨Ao10, co10, eo10⟩ := Kd.R_slice HO_3.out
       subst eo10
       have p175 : 0 ≤ ((ji5) : Int) := of_decide_eq_true (by first | (with_reducible assumption) | assumption)
       have q175 : (ji5) < (x3_1.length : Int) := of_decide_eq_true (by first | (with_reducible assumption) | assumption)
       obtain ⟨ad175, e175, hx175_0⟩ := Kd.at_int (Kd.R_reads' HO_3.out).2.2 (ji5) p175 q175
       cases e175
       replace p175 := eq_true p175
       replace q175 := eq_true q175
       have p8 : 0 ≤ ((ji5) : Int) := of_decide_eq_true (by first | (with_reducible assumption) | assumption)
       have q8 : ((ji5) : Int) < ((x3_1.length : Int) : Int) := of_decide_eq_true (by first | (with_reducible assumption) | assumption)
       obtain ⟨go8, co8, eo8, gb8, gl8, cl8, HG8⟩ := Kd.R_form HO_3.out (by omega)
       (first | cases eo8 | (injection eo8 with ea_ en_ ec_; (first | subst ea_ | (injection ea_ with ea_; subst ea_)); subst ec_; clear en_))
       have GB8 := Aside0.mk gb8
       have GG8 := Aside0.mk HG8
       clear gb8 gl8 HG8
       (first | simp only [add_plain] at hx175_0 | skip)
       obtain ⟨hx8_0, hf8_0⟩ := Kd.R_celln 0 HO_3.out ((ji5) : Int) p8 q8
       replace p8 := eq_true p8
       replace q8 := eq_true q8
       have HP11 := Kd.R_putg HO_3.out ((ji5) : Int) (((rd x3_1 (ji5)) + 128) % 256)
       go_wp2_with (first | ((with_reducible refine gate_store (t := 5) (p := 23) rfl ?_); refine store_event (t := 5) (p := 23) (v := ?vo_w12) (w1 := (wr.setCell ⟨go8, ((ji5) : Int).toNat, none⟩ (.int .u8 (((rd x3_1 (ji5)) + 128) % 256)))) ?hg ?ho ?hn ?hr ?_; (case ho => rfl); (case hg => rfl); (case hn => rfl); (case hr => first | (go_simp; done) | (go_simp; rfl)); intro w12 hw; have hg : wr.grownBy w12 (some go8) := (by rw [hw]; exact HP11.2); have hp_ : Kd.R (Kd.int .u8) 5 w12 w.heap.size (fun _ => True) (.slice (some ⟨go8, 0, none⟩) x3_1.length co10) y176 := (by rw [hw, Ny176.out]; exact HP11.1); clear HP11; have n0_ := Aside0.mk (hp_); have n1_ := Aside0.mk ((by rw [hw]; exact below_set (HB.out) GB8.out : Below w.heap.size w w12)); clear HO_3; clear HB; have HO_3 := n0_; have HB := n1_; clear n0_ n1_; clear hg hw hp_) | ((with_reducible refine gate_builtin (b := .append) (xs := #[.tmp 24, .tmp 28]) rfl ?_); at_builtin; refine Kd.R_append (Kd.int .u8) (w0 := w) w.heap.size rfl (.tmp 24) (.tmp 28) 26 5 (.int .u8 0) 1 rfl Tryz.underlying26 info5 rfl (by decide) (by omega) (.slice (some ⟨go8, 0, none⟩) x3_1.length co10) y176 ((Int.tmod x0_1 128) % 256) [.int .u8 ((Int.tmod x0_1 128) % 256)] (fun _ => True) (fun _ => False) rfl rfl ?aP (fun _ hk => hk.elim) ?aF ?aO ?aB ?aS ?aL ?_; (case aP => exact rfl); (case aB => exact (bH HB)); (case aF => exact (fun _ _ => trivial)); (case aO => exact (rK HO_3)); (case aS => exact (below_size (bH HB))); (case aL => have := LMc9.out; omega); intro v178 w13 ho hb hg hat; rw [← Ny177.out] at ho; have n0_ := Aside0.mk (hb); have n1_ := Aside0.mk (ho); clear HB; clear HO_3; have HB := n0_; have HO179 := n1_; clear n0_ n1_; clear ho hb hg hat))
       go_roundg k1
       case measure => have := HK1.out; omega
       case rel => exact ⟨(IntKind.u64.wrap (Int.tdiv x0_1 128)), (y177), (by first | rfl | (simp; done) | (simp [*]; done)), H', ⟨by have := HK1.out; omega⟩, ⟨by (with_reducible repeat (first | apply Kd.R_alloc | apply Kd.R_drewN | apply Kd.R_drew)); exact HO179.out⟩, ⟨ bH HB⟩⟩
      ·rw [if_neg c9] at H
       exact absurd H (by simp)
     ·rw [if_neg c7] at H
      exact absurd H (by simp)
    ·rw [if_neg c6] at H
     exact absurd H (by simp)
   ·rw [if_neg c4] at H
    have c4b0 : decide (0 < x0_1) = false := decide_eq_false c4
    clear c4
    obtain rfl := Option.some.inj H
    go_wp2
    go_ret
    exact ⟨_, by first | rfl | (simp [errW_none, errW_some] <;> rfl) | (simp [*, errW_none, errW_some] <;> rfl), by (with_reducible repeat (first | apply Kd.R_alloc | apply Kd.R_drewN | apply Kd.R_drew)); exact HO_3.out, bH HB⟩
end Go.Proofs.YtbdbobjdlomjnaaGreatDoor.P

namespace Go.Proofs.YtbdbobjdlomjnaaGreatDoor.C
set_option linter.unusedVariables false
set_option linter.unusedSimpArgs false
open Go.RowKit Go.Proofs.YtbdbobjdlomjnaaGreatDoor.P Go.Proofs.YtbdbobjdlomjnaaGreatDoorW.PrintWords Go.Proofs.YtbdbobjdlomjnaaGreatDoorW.PrintLast Go.Proofs.YtbdbobjdlomjnaaGreatDoorW.PrintMore
theorem ofInt_toNat (n : Nat) (x : BitVec n) : BitVec.ofInt n (x.toNat : Int) = x := by
 rw [BitVec.ofInt_natCast, BitVec.ofNat_toNat]; simp
theorem w64 {x : Int} (h : -9223372036854775808 ≤ x) (h' : x ≤ 9223372036854775807) : wrap64 x = x := by unfold wrap64; omega
def cN (b : List Int) (i : Nat) : Nat := (b.getD i 0).toNat
theorem cN_lt (b : List Int) (h : ∀ c ∈ b, 0 ≤ c ∧ c ≤ 255) (i : Nat) : cN b i < 256 := by
 unfold cN
 rcases Nat.lt_or_ge i b.length with hi | hi
 ·have := h _ (List.getElem_mem hi)
  simp only [List.getD, List.getElem?_eq_getElem hi, Option.getD_some]
  omega
 ·simp [List.getD, List.getElem?_eq_none hi]
theorem bits_or64 (x y : BitVec 64) : Go.bits .or .u64 (x.toNat : Int) (y.toNat : Int) = ((x ||| y).toNat : Int) := by
 unfold Go.bits
 show IntKind.u64.wrap (((BitVec.ofInt 64 (x.toNat : Int)) ||| (BitVec.ofInt 64 (y.toNat : Int))).toNat : Int) = _
 rw [ofInt_toNat, ofInt_toNat]
 have := (x ||| y).isLt
 show ((x ||| y).toNat : Int) % 18446744073709551616 = _
 omega
theorem or64 (a c : Nat) (s : Nat) (ha : a < 2 ^ s) (hc : c < 256) (hs : s ≤ 24) : Go.bits .or .u64 (a : Int) (shl .u64 (IntKind.u64.wrap (c : Int)) (s : Int)) = ((a + c * 2 ^ s : Nat) : Int) := by
 have hp : 2 ^ s ≤ 2 ^ 24 := Nat.pow_le_pow_right (by decide) hs
 have hb : c * 2 ^ s < 2 ^ 32 := Nat.lt_of_lt_of_le (Nat.mul_lt_mul_of_lt_of_le hc hp (by decide)) (by decide)
 have e1 : shl .u64 (IntKind.u64.wrap (c : Int)) (s : Int) = ((c * 2 ^ s : Nat) : Int) := by
  unfold shl
  rw [Int.toNat_natCast, show min s IntKind.u64.bits = s from Nat.min_eq_left (Nat.le_trans hs (by decide))]
  have : IntKind.u64.wrap (c : Int) = (c : Int) := by
   show (c : Int) % 18446744073709551616 = _
   omega
  rw [this]
  have e : (c : Int) * 2 ^ s = ((c * 2 ^ s : Nat) : Int) := by push_cast; rfl
  rw [e]
  generalize c * 2 ^ s = q at *
  show (q : Int) % 18446744073709551616 = _
  omega
 have h1 : (BitVec.ofNat 64 a).toNat = a := by rw [BitVec.toNat_ofNat]; exact Nat.mod_eq_of_lt (by omega)
 have h2 : (BitVec.ofNat 64 (c * 2 ^ s)).toNat = c * 2 ^ s := by rw [BitVec.toNat_ofNat]; exact Nat.mod_eq_of_lt (by omega)
 have h := bits_or64 (BitVec.ofNat 64 a) (BitVec.ofNat 64 (c * 2 ^ s))
 rw [BitVec.toNat_or, h1, h2] at h
 rw [e1, h]
 congr 1
 rw [Nat.or_comm, ← Nat.shiftLeft_eq, ← Nat.shiftLeft_add_eq_or_of_lt ha, Nat.add_comm]
theorem rdN (b : List Int) (h : ∀ c ∈ b, 0 ≤ c ∧ c ≤ 255) (i : Nat) (hi : i < b.length) : rd b (i : Int) = (cN b i : Int) := by
 have := h _ (List.getElem_mem hi)
 unfold rd cN
 simp only [Int.toNat_natCast, List.getD, List.getElem?_eq_getElem hi, Option.getD_some]
 omega
theorem getN (b : List Int) (h : ∀ c ∈ b, 0 ≤ c ∧ c ≤ 255) (i : Nat) (hi : i < b.length) : b[i] = (cN b i : Int) := by
 have := h _ (List.getElem_mem hi)
 unfold cN
 simp only [List.getD, List.getElem?_eq_getElem hi, Option.getD_some]
 omega
theorem same_self (a : List Int) : rf00_Same.f a a = some true := by unfold rf00_Same.f; simp
theorem byte_inj {x y : Int} (hx : 0 ≤ x ∧ x ≤ 255) (hy : 0 ≤ y ∧ y ≤ 255) (h : UInt8.ofNat x.toNat = UInt8.ofNat y.toNat) : x = y := by
 have := congrArg UInt8.toNat h
 rw [UInt8.toNat_ofNat', UInt8.toNat_ofNat'] at this
 omega
theorem same_list : ∀ (a b : List Int), (∀ c ∈ a, 0 ≤ c ∧ c ≤ 255) → (∀ c ∈ b, 0 ≤ c ∧ c ≤ 255) → (a.map fun n => UInt8.ofNat n.toNat) = (b.map fun n => UInt8.ofNat n.toNat) → a = b := by
 intro a
 induction a with
 | nil => intro b _ _ h; cases b with
  | nil => rfl
  | cons y t => simp at h
 | cons x s ih =>
  intro b ha hb h
  cases b with
  | nil => simp at h
  | cons y t =>
   rw [List.map_cons, List.map_cons] at h
   injection h with h1 h2
   rw [byte_inj (ha x (by simp)) (hb y (by simp)) h1, ih t (fun c hc => ha c (List.mem_cons_of_mem _ hc)) (fun c hc => hb c (List.mem_cons_of_mem _ hc)) h2]
theorem toList_map (a : List Int) : (strOfNums a).toList = a.map fun n => UInt8.ofNat n.toNat := Lib.strOfNums_toList a
theorem same_dec (a b : List Int) (ha : ∀ c ∈ a, 0 ≤ c ∧ c ≤ 255) (hb : ∀ c ∈ b, 0 ≤ c ∧ c ≤ 255) : rf00_Same.f a b = some (decide (a = b)) := by
 unfold rf00_Same.f
 rw [toList_map, toList_map]
 by_cases h : a = b
 ·rw [decide_eq_true h, h]; simp
 ·rw [decide_eq_false h]
  congr 1
  rw [beq_eq_false_iff_ne]
  intro hh
  exact h (same_list a b ha hb hh)
end Go.Proofs.YtbdbobjdlomjnaaGreatDoor.C
