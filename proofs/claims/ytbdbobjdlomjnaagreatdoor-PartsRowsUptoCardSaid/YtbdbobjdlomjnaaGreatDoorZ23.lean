/- Written for this claim by a program of this session (a turned copy of the print): Go functions as Lean functions, and that the Go code comes to just these answers; or a statement proved out of them. No condition. -/
import Derived.Test.YtbdbobjdlomjnaaGreatDoorZ2
import Derived.Test.YtbdbobjdlomjnaaGreatDoorZ8
import Derived.Test.YtbdbobjdlomjnaaGreatDoorZ22

namespace Go.Proofs.YtbdbobjdlomjnaaGreatDoor.P
open Go.RowKit Go.Proofs.YtbdbobjdlomjnaaGreatDoorW.PrintWords Go.Proofs.YtbdbobjdlomjnaaGreatDoorW.PrintLast Go.Proofs.YtbdbobjdlomjnaaGreatDoorW.PrintMore Go.Proofs.YtbdbobjdlomjnaaGreatDoor.X
attribute [local go_sem] max2_int min2_int max_two min_two max_three min_three max_four min_four add64_0 add64_1 add64
set_option linter.unusedVariables false
set_option linter.unusedSimpArgs false
mutual
def rf18_Unwrap.j0 : Nat → List Int → Int → Bool → Option (List Int × Int × Int)
 | 0, _, _, _ => none
 | k + 1, x0, x1, x24 => if x24 = true then (some (([] : List Int), 0, 2)) else ((rf01_Get.f k x0 x1).bind fun bt323 => (if bt323.2.2 = 0 then (rf18_Unwrap.j1 k x0 bt323.1 bt323.2.1 (decide (bt323.1 > 65536))) else (rf18_Unwrap.j1 k x0 bt323.1 bt323.2.1 true)))
def rf18_Unwrap.j1 : Nat → List Int → Int → Int → Bool → Option (List Int × Int × Int)
 | 0, _, _, _, _ => none
 | k + 1, x0, x7, x8, x37 => if x37 = true then (some (([] : List Int), 0, 11)) else ((rf01_Get.f k x0 x8).bind fun bt326 => (if bt326.2.2 = 0 then (rf18_Unwrap.j2 k x0 x7 bt326.1 bt326.2.1 (decide (bt326.1 > (IntKind.u64.wrap (wrap64 ((x0.length : Int) - bt326.2.1)))))) else (rf18_Unwrap.j2 k x0 x7 bt326.1 bt326.2.1 true)))
def rf18_Unwrap.j2 : Nat → List Int → Int → Int → Int → Bool → Option (List Int × Int × Int)
 | 0, _, _, _, _, _ => none
 | k + 1, x0, x7, x10, x11, x55 => if x55 = true then (some (([] : List Int), 0, 11)) else (if 0 ≤ (wrap64 (x7)) then (if (wrap64 (x7) : Int).toNat ≤ 35184372088832 then (if 0 ≤ x11 then (if x11 ≤ (wrap64 (x11 + (wrap64 (x10)))) then (if (wrap64 (x11 + (wrap64 (x10)))) ≤ (x0.length : Int) then ((rf06_Decode.f (([256] : List Int)) (List.replicate (wrap64 (x7) : Int).toNat 0) ((x0.take ((wrap64 (x11 + (wrap64 (x10)))) : Int).toNat).drop (x11 : Int).toNat)).bind fun bt336 => (if bt336.2 = 0 then (rf18_Unwrap.l0 k x10 x11 bt336.1 ([] : List Int) 0) else (some (([] : List Int), 0, 11)))) else (none)) else (none)) else (none)) else (none)) else (none))
def rf18_Unwrap.l0 : Nat → Int → Int → List (S122) → List Int → Int → Option (List Int × Int × Int)
 | 0, _, _, _, _, _ => none
 | k + 1, x10, x11, x13, x15, x16 => if x16 < (x13.length : Int) then (if 0 ≤ x16 then (if x15.length < 140737488355328 then (rf18_Unwrap.l0 k x10 x11 x13 (x15 ++ [((rd_T122 x13 x16).f1) % 256]) (wrap64 (x16 + 1))) else (none)) else (none)) else (some (x15, wrap64 (x11 + (wrap64 (x10))), 0))
end
def rf18_Unwrap.f (k : Nat) (l0 : List Int) (a1 : Int) : Option (List Int × Int × Int) := if a1 < 0 then (rf18_Unwrap.j0 k l0 a1 true) else (rf18_Unwrap.j0 k l0 a1 (decide (a1 > (l0.length : Int))))
theorem rf18_Unwrap.mono_l : ∀ k, (∀ y0 y1 y2, LeO (rf18_Unwrap.j0 k y0 y1 y2) (rf18_Unwrap.j0 (k + 1) y0 y1 y2)) ∧ (∀ y0 y1 y2 y3, LeO (rf18_Unwrap.j1 k y0 y1 y2 y3) (rf18_Unwrap.j1 (k + 1) y0 y1 y2 y3)) ∧ (∀ y0 y1 y2 y3 y4, LeO (rf18_Unwrap.j2 k y0 y1 y2 y3 y4) (rf18_Unwrap.j2 (k + 1) y0 y1 y2 y3 y4)) ∧ (∀ y0 y1 y2 y3 y4, LeO (rf18_Unwrap.l0 k y0 y1 y2 y3 y4) (rf18_Unwrap.l0 (k + 1) y0 y1 y2 y3 y4))
 | 0 => ⟨fun _ _ _ r h => by simp [rf18_Unwrap.j0] at h, fun _ _ _ _ r h => by simp [rf18_Unwrap.j1] at h, fun _ _ _ _ _ r h => by simp [rf18_Unwrap.j2] at h, fun _ _ _ _ _ r h => by simp [rf18_Unwrap.l0] at h⟩
 | k + 1 => by
  obtain ⟨ih0, ih1, ih2, ih3⟩ := rf18_Unwrap.mono_l k
  refine ⟨?_, ?_, ?_, ?_⟩
  ·intro y0 y1 y2
   unfold rf18_Unwrap.j0
   repeat' first
   | (with_reducible exact ih0 _ _ _)
   | (with_reducible exact ih1 _ _ _ _)
   | (with_reducible exact ih2 _ _ _ _ _)
   | (with_reducible exact ih3 _ _ _ _ _)
   | (with_reducible exact rf01_Get.mono _ _ _)
   | (with_reducible exact LeO.refl _)
   | (with_reducible exact LeO.none _)
   | (with_reducible refine LeO.ite ?_ ?_)
   | (with_reducible refine LeO.bind ?_ (fun _ => ?_))
   | exact ih0 _ _ _
   | exact ih1 _ _ _ _
   | exact ih2 _ _ _ _ _
   | exact ih3 _ _ _ _ _
   | exact rf01_Get.mono _ _ _
   | exact LeO.none _
   | refine LeO.ite ?_ ?_
   | refine LeO.bind ?_ (fun _ => ?_)
  ·intro y0 y1 y2 y3
   unfold rf18_Unwrap.j1
   repeat' first
   | (with_reducible exact ih0 _ _ _)
   | (with_reducible exact ih1 _ _ _ _)
   | (with_reducible exact ih2 _ _ _ _ _)
   | (with_reducible exact ih3 _ _ _ _ _)
   | (with_reducible exact rf01_Get.mono _ _ _)
   | (with_reducible exact LeO.refl _)
   | (with_reducible exact LeO.none _)
   | (with_reducible refine LeO.ite ?_ ?_)
   | (with_reducible refine LeO.bind ?_ (fun _ => ?_))
   | exact ih0 _ _ _
   | exact ih1 _ _ _ _
   | exact ih2 _ _ _ _ _
   | exact ih3 _ _ _ _ _
   | exact rf01_Get.mono _ _ _
   | exact LeO.none _
   | refine LeO.ite ?_ ?_
   | refine LeO.bind ?_ (fun _ => ?_)
  ·intro y0 y1 y2 y3 y4
   unfold rf18_Unwrap.j2
   repeat' first
   | (with_reducible exact ih0 _ _ _)
   | (with_reducible exact ih1 _ _ _ _)
   | (with_reducible exact ih2 _ _ _ _ _)
   | (with_reducible exact ih3 _ _ _ _ _)
   | (with_reducible exact rf01_Get.mono _ _ _)
   | (with_reducible exact LeO.refl _)
   | (with_reducible exact LeO.none _)
   | (with_reducible refine LeO.ite ?_ ?_)
   | (with_reducible refine LeO.bind ?_ (fun _ => ?_))
   | exact ih0 _ _ _
   | exact ih1 _ _ _ _
   | exact ih2 _ _ _ _ _
   | exact ih3 _ _ _ _ _
   | exact rf01_Get.mono _ _ _
   | exact LeO.none _
   | refine LeO.ite ?_ ?_
   | refine LeO.bind ?_ (fun _ => ?_)
  ·intro y0 y1 y2 y3 y4
   unfold rf18_Unwrap.l0
   repeat' first
   | (with_reducible exact ih0 _ _ _)
   | (with_reducible exact ih1 _ _ _ _)
   | (with_reducible exact ih2 _ _ _ _ _)
   | (with_reducible exact ih3 _ _ _ _ _)
   | (with_reducible exact rf01_Get.mono _ _ _)
   | (with_reducible exact LeO.refl _)
   | (with_reducible exact LeO.none _)
   | (with_reducible refine LeO.ite ?_ ?_)
   | (with_reducible refine LeO.bind ?_ (fun _ => ?_))
   | exact ih0 _ _ _
   | exact ih1 _ _ _ _
   | exact ih2 _ _ _ _ _
   | exact ih3 _ _ _ _ _
   | exact rf01_Get.mono _ _ _
   | exact LeO.none _
   | refine LeO.ite ?_ ?_
   | refine LeO.bind ?_ (fun _ => ?_)
theorem rf18_Unwrap.mono : ∀ a0 a1 k, LeO (rf18_Unwrap.f k a0 a1) (rf18_Unwrap.f (k + 1) a0 a1) := by
 intro a0 a1 k
 obtain ⟨ih0, ih1, ih2, ih3⟩ := rf18_Unwrap.mono_l k
 unfold rf18_Unwrap.f
 repeat' first
   | (with_reducible exact ih0 _ _ _)
   | (with_reducible exact ih1 _ _ _ _)
   | (with_reducible exact ih2 _ _ _ _ _)
   | (with_reducible exact ih3 _ _ _ _ _)
   | (with_reducible exact rf01_Get.mono _ _ _)
   | (with_reducible exact LeO.refl _)
   | (with_reducible exact LeO.none _)
   | (with_reducible refine LeO.ite ?_ ?_)
   | (with_reducible refine LeO.bind ?_ (fun _ => ?_))
   | exact ih0 _ _ _
   | exact ih1 _ _ _ _
   | exact ih2 _ _ _ _ _
   | exact ih3 _ _ _ _ _
   | exact rf01_Get.mono _ _ _
   | exact LeO.none _
   | refine LeO.ite ?_ ?_
   | refine LeO.bind ?_ (fun _ => ?_)
def rf18_Unwrap.T9 : Bool × List (List Nat × List Nat) := (true, [([], []), ([], []), ([1], [1]), ([2, 2], [2]), ([], []), ([], []), ([], []), ([], []), ([7], [7]), ([6, 8], [6, 8]), ([4, 5, 9], [4, 5, 9]), ([0, 3, 10], [0, 3, 10]), ([11], [11]), ([12], [12]), ([12], [12]), ([13, 11, 0, 1, 2, 3, 4, 5, 6, 7, 8, 9, 10, 11, 12, 13], [13]), ([14, 15, 0, 1, 2, 3, 4, 5, 6, 7, 8, 9, 10, 11, 12, 13, 14, 15], [14])])
def rf18_Unwrap.B9 : List Nat := [0, 0, 2, 6, 0, 0, 0, 0, 128, 448, 1008, 2047, 4095, 8191, 8191, 16383, 65535]
theorem rf18_Unwrap.tab9 : rtab .any (opsOf Tryz.f21 9) = rf18_Unwrap.T9 := by kernel_rfl
theorem rf18_Unwrap.bits9 : waitsOk rf18_Unwrap.T9.2 rf18_Unwrap.B9 = true := by kernel_rfl
set_option maxHeartbeats 8000000 in
set_option maxRecDepth 100000 in
theorem rf18_Unwrap.calls (k : Nat) (A0 : Option Addr) (c0 : Nat) (l0 : List Int) (a1 : Int) (r1 : List Int) (r2 : Int) (r3 : Int) (w : World) (hr0 : Kd.C (Kd.int .u8) w A0 l0.length l0) (hc0 : l0.length ≤ c0) (h : rf18_Unwrap.f k l0 a1 = some (r1, r2, r3)) :
  Calls Tryz.prog 21 #[.slice A0 l0.length c0, .int .i64 a1] w fun e w' => ∃ v0_ : Value, e = .returned (.tuple #[v0_, .int .i64 r2, .int .i64 r3]) ∧ Kd.R (Kd.int .u8) 5 w' w.heap.size (fun _ => True) v0_ r1 ∧ Below w.heap.size w w' := by
 have HR0 := Aside0.mk hr0
 have HC0 := Aside0.mk hc0
 clear hr0 hc0
 have HB := Aside0.mk (Below.refl w.heap.size w)
 have H : (if a1 < 0 then (rf18_Unwrap.j0 k l0 a1 true) else (rf18_Unwrap.j0 k l0 a1 (decide (a1 > (l0.length : Int))))) = some (r1, r2, r3) := h
 clear h
 have HC3 := Aside0.mk H
 clear H
 go_enter Tryz.func21, Tryz.ntmps21
 go_upto_region 1 with (fail)
 go_cut [24] (fun v24 wc => ∃ (kq : Nat) (x24_2 : Bool), v24 = .bool x24_2 ∧ Aside0 (rf18_Unwrap.j0 kq l0 a1 x24_2 = some (r1, r2, r3)) ∧ Aside0 (kq ≤ k) ∧ Aside0 (Below w.heap.size w wc))
 case first =>
  have H := HC3.out
  clear HC3
  by_cases c4 : a1 < 0
  ·rw [if_pos c4] at H
   have c4b0 : decide (a1 < 0) = true := decide_eq_true c4
   clear c4
   (first | rw [c4b0] | (simp only [i64_w, i32_w]; rw [c4b0]) | rw [c4b1] | skip)
   have H' := Aside0.mk H
   clear H
   go_wp2
   go_meet
   case rel => exact ⟨_, (true), (by first | rfl | (simp; done) | (simp [*]; done)), H', ⟨by first | omega | exact Nat.le_refl _⟩, ⟨ bH HB⟩⟩
  ·rw [if_neg c4] at H
   have c4b0 : decide (a1 < 0) = false := decide_eq_false c4
   clear c4
   (first | rw [c4b0] | (simp only [i64_w, i32_w]; rw [c4b0]) | rw [c4b1] | skip)
   have H' := Aside0.mk H
   clear H
   go_wp2
   go_meet
   case rel => exact ⟨_, (decide (a1 > (l0.length : Int))), (by first | rfl | (simp; done) | (simp [*]; done)), H', ⟨by first | omega | exact Nat.le_refl _⟩, ⟨ bH HB⟩⟩
 case rest =>
  clear HC3
  try clear c2
  try clear p2
  try clear c4
  try clear c4b0
  obtain ⟨kq, x24_2, rfl, HA, HJ2, HB⟩ := hcut
  cases kq with
  | zero => exact absurd HA.out (by simp [rf18_Unwrap.j0])
  | succ kj2 =>
   have H := HA.out
   clear HA
   simp only [rf18_Unwrap.j0] at H
   by_cases c5 : x24_2 = true
   ·subst c5
    have H1 : (some (([] : List Int), 0, 2)) = some (r1, r2, r3) := by rw [if_pos rfl] at H; exact H
    clear H
    have H := H1
    clear H1
    simp only [Option.some.injEq, Prod.mk.injEq] at H
    obtain ⟨rfl, rfl, rfl⟩ := H
    go_wp2
    go_ret3
    exact ⟨_, by first | rfl | (simp [errW_none, errW_some] <;> rfl) | (simp [*, errW_none, errW_some] <;> rfl), by first | exact Kd.R_nil _ _ _ _ _ | exact Kd.N_nil _ _ _ _ _ | exact Kd.V_nil _ _ _ _ _ | exact Kd.Q_nil _ _ _ _ _ | exact Kd.S_nil _ _ _ _ _, bH HB⟩
   ·replace c5 := Bool.eq_false_iff.mpr c5
    subst c5
    have H1 : ((rf01_Get.f kj2 l0 a1).bind fun bt323 => (if bt323.2.2 = 0 then (rf18_Unwrap.j1 kj2 l0 bt323.1 bt323.2.1 (decide (bt323.1 > 65536))) else (rf18_Unwrap.j1 kj2 l0 bt323.1 bt323.2.1 true))) = some (r1, r2, r3) := by rw [if_neg (show ¬ (false = true) by decide)] at H; exact H
    clear H
    have H := H1
    clear H1
    replace H := Option.bind_eq_some_iff.mp H
    obtain ⟨⟨t323, t324, t325⟩, A60, H⟩ := H
    replace H : (if t325 = 0 then (rf18_Unwrap.j1 kj2 l0 t323 t324 (decide (t323 > 65536))) else (rf18_Unwrap.j1 kj2 l0 t323 t324 true)) = some (r1, r2, r3) := H
    have A6 := Aside0.mk A60
    clear A60
    have HC7 := Aside0.mk H
    clear H
    go_upto_region 4 with (first | ((with_reducible refine gate_callee (f := 48) rfl ?_); refine goesL_ (some 28) rfl rfl Tryz.func48 (by kernel_rfl) rfl #[.slice A0 l0.length c0, .int .i64 a1] rfl (by (try simp only [List.map_toArray, List.map_cons, List.map_nil]); first | done | rfl | (simp only [List.length_drop, List.length_take]; rfl)) ?_; (with_reducible refine (rf01_Get.calls kj2 _ _ l0 a1 t323 t324 t325 _ ?side1 ?side2 A6.out).mono ?_); (case side1 => repeat (first | exact (Kd.C_below HR0.out HB.out) | (with_reducible refine Kd.C_alloc ?_ _) | (with_reducible refine Kd.C_drewN ?_ _) | (with_reducible refine Kd.C_drew ?_))); (case side2 => exact HC0.out); rintro e w' ⟨rfl, ⟨nd, rfl⟩⟩; refine ⟨_, rfl, ?_⟩))
    (try simp only [Act.put, List.setIfInBounds_toArray, List.set_cons_zero, List.set_cons_succ])
    go_cut [37] (fun v37 wc => ∃ (kq : Nat) (x37_6 : Bool), v37 = .bool x37_6 ∧ Aside0 (rf18_Unwrap.j1 kq l0 t323 t324 x37_6 = some (r1, r2, r3)) ∧ Aside0 (kq ≤ kj2) ∧ Aside0 (Below w.heap.size w wc))
    case first =>
     have H := HC7.out
     clear HC7
     by_cases c8 : t325 = 0
     ·rw [if_pos c8] at H
      have c8b0 : (t325 == 0) = true := beq_iff_eq.mpr c8
      have c8b1 : (t325 != 0) = false := bne_eq_false_iff_eq.mpr c8
      clear c8
      (first | rw [c8b0] | (simp only [i64_w, i32_w]; rw [c8b0]) | rw [c8b1] | skip)
      have H' := Aside0.mk H
      clear H
      go_wp2
      go_meet
      case rel => exact ⟨_, (decide (t323 > 65536)), (by first | rfl | (simp; done) | (simp [*]; done)), H', ⟨by have := HJ2.out; first | omega | exact Nat.le_refl _⟩, ⟨ bH HB⟩⟩
     ·rw [if_neg c8] at H
      have c8b0 : (t325 == 0) = false := beq_eq_false_iff_ne.mpr c8
      have c8b1 : (t325 != 0) = true := bne_iff_ne.mpr c8
      (first | rw [c8b0] | (simp only [i64_w, i32_w]; rw [c8b0]) | rw [c8b1] | skip)
      have H' := Aside0.mk H
      clear H
      go_wp2
      go_meet
      case rel => exact ⟨_, (true), (by first | rfl | (simp; done) | (simp [*]; done)), H', ⟨by have := HJ2.out; first | omega | exact Nat.le_refl _⟩, ⟨ bH HB⟩⟩
    case rest =>
     clear HC7
     try clear c2
     try clear p2
     try clear c4
     try clear c4b0
     try clear c5
     try clear c8
     try clear c8b0
     try clear c8b1
     try clear p2
     obtain ⟨kq, x37_6, rfl, HA, HJ6, HB⟩ := hcut
     cases kq with
     | zero => exact absurd HA.out (by simp [rf18_Unwrap.j1])
     | succ kj6 =>
      have H := HA.out
      clear HA
      simp only [rf18_Unwrap.j1] at H
      by_cases c9 : x37_6 = true
      ·subst c9
       have H1 : (some (([] : List Int), 0, 11)) = some (r1, r2, r3) := by rw [if_pos rfl] at H; exact H
       clear H
       have H := H1
       clear H1
       simp only [Option.some.injEq, Prod.mk.injEq] at H
       obtain ⟨rfl, rfl, rfl⟩ := H
       go_wp2
       go_ret3
       exact ⟨_, by first | rfl | (simp [errW_none, errW_some] <;> rfl) | (simp [*, errW_none, errW_some] <;> rfl), by first | exact Kd.R_nil _ _ _ _ _ | exact Kd.N_nil _ _ _ _ _ | exact Kd.V_nil _ _ _ _ _ | exact Kd.Q_nil _ _ _ _ _ | exact Kd.S_nil _ _ _ _ _, bH HB⟩
      ·replace c9 := Bool.eq_false_iff.mpr c9
       subst c9
       have H1 : ((rf01_Get.f kj6 l0 t324).bind fun bt326 => (if bt326.2.2 = 0 then (rf18_Unwrap.j2 kj6 l0 t323 bt326.1 bt326.2.1 (decide (bt326.1 > (IntKind.u64.wrap (wrap64 ((l0.length : Int) - bt326.2.1)))))) else (rf18_Unwrap.j2 kj6 l0 t323 bt326.1 bt326.2.1 true))) = some (r1, r2, r3) := by rw [if_neg (show ¬ (false = true) by decide)] at H; exact H
       clear H
       have H := H1
       clear H1
       replace H := Option.bind_eq_some_iff.mp H
       obtain ⟨⟨t326, t327, t328⟩, A100, H⟩ := H
       replace H : (if t328 = 0 then (rf18_Unwrap.j2 kj6 l0 t323 t326 t327 (decide (t326 > (IntKind.u64.wrap (wrap64 ((l0.length : Int) - t327)))))) else (rf18_Unwrap.j2 kj6 l0 t323 t326 t327 true)) = some (r1, r2, r3) := H
       have A10 := Aside0.mk A100
       clear A100
       have HC11 := Aside0.mk H
       clear H
       go_upto_region 7 with (first | ((with_reducible refine gate_callee (f := 48) rfl ?_); refine goesL_ (some 41) rfl rfl Tryz.func48 (by kernel_rfl) rfl #[.slice A0 l0.length c0, .int .i64 t324] rfl (by (try simp only [List.map_toArray, List.map_cons, List.map_nil]); first | done | rfl | (simp only [List.length_drop, List.length_take]; rfl)) ?_; (with_reducible refine (rf01_Get.calls kj6 _ _ l0 t324 t326 t327 t328 _ ?side1 ?side2 A10.out).mono ?_); (case side1 => repeat (first | exact (Kd.C_below HR0.out HB.out) | (with_reducible refine Kd.C_alloc ?_ _) | (with_reducible refine Kd.C_drewN ?_ _) | (with_reducible refine Kd.C_drew ?_))); (case side2 => exact HC0.out); rintro e w' ⟨rfl, ⟨nd, rfl⟩⟩; refine ⟨_, rfl, ?_⟩))
       (try simp only [Act.put, List.setIfInBounds_toArray, List.set_cons_zero, List.set_cons_succ])
       go_cut [55] (fun v55 wc => ∃ (kq : Nat) (x55_10 : Bool), v55 = .bool x55_10 ∧ Aside0 (rf18_Unwrap.j2 kq l0 t323 t326 t327 x55_10 = some (r1, r2, r3)) ∧ Aside0 (kq ≤ kj6) ∧ Aside0 (Below w.heap.size w wc))
       case first =>
        have H := HC11.out
        clear HC11
        by_cases c12 : t328 = 0
        ·rw [if_pos c12] at H
         have c12b0 : (t328 == 0) = true := beq_iff_eq.mpr c12
         have c12b1 : (t328 != 0) = false := bne_eq_false_iff_eq.mpr c12
         clear c12
         (first | rw [c12b0] | (simp only [i64_w, i32_w]; rw [c12b0]) | rw [c12b1] | skip)
         have H' := Aside0.mk H
         clear H
         go_wp2
         go_meet
         case rel => exact ⟨_, (decide (t326 > (IntKind.u64.wrap (wrap64 ((l0.length : Int) - t327))))), (by first | rfl | (simp; done) | (simp [*]; done)), H', ⟨by have := HJ2.out; have := HJ6.out; first | omega | exact Nat.le_refl _⟩, ⟨ bH HB⟩⟩
        ·rw [if_neg c12] at H
         have c12b0 : (t328 == 0) = false := beq_eq_false_iff_ne.mpr c12
         have c12b1 : (t328 != 0) = true := bne_iff_ne.mpr c12
         (first | rw [c12b0] | (simp only [i64_w, i32_w]; rw [c12b0]) | rw [c12b1] | skip)
         have H' := Aside0.mk H
         clear H
         go_wp2
         go_meet
         case rel => exact ⟨_, (true), (by first | rfl | (simp; done) | (simp [*]; done)), H', ⟨by have := HJ2.out; have := HJ6.out; first | omega | exact Nat.le_refl _⟩, ⟨ bH HB⟩⟩
       case rest =>
        clear HC11
        try clear c1
        try clear c2
        try clear p2
        try clear c4
        try clear c4b0
        try clear c5
        try clear p6
        try clear c8
        try clear c8b0
        try clear c8b1
        try clear c9
        try clear c12
        try clear c12b0
        try clear c12b1
        try clear p2
        obtain ⟨kq, x55_10, rfl, HA, HJ10, HB⟩ := hcut
        cases kq with
        | zero => exact absurd HA.out (by simp [rf18_Unwrap.j2])
        | succ kj10 =>
         have H := HA.out
         clear HA
         simp only [rf18_Unwrap.j2] at H
         by_cases c13 : x55_10 = true
         ·subst c13
          have H1 : (some (([] : List Int), 0, 11)) = some (r1, r2, r3) := by rw [if_pos rfl] at H; exact H
          clear H
          have H := H1
          clear H1
          simp only [Option.some.injEq, Prod.mk.injEq] at H
          obtain ⟨rfl, rfl, rfl⟩ := H
          go_wp2
          go_ret3
          exact ⟨_, by first | rfl | (simp [errW_none, errW_some] <;> rfl) | (simp [*, errW_none, errW_some] <;> rfl), by first | exact Kd.R_nil _ _ _ _ _ | exact Kd.N_nil _ _ _ _ _ | exact Kd.V_nil _ _ _ _ _ | exact Kd.Q_nil _ _ _ _ _ | exact Kd.S_nil _ _ _ _ _, bH HB⟩
         ·replace c13 := Bool.eq_false_iff.mpr c13
          subst c13
          have H1 : (if 0 ≤ (wrap64 (t323)) then (if (wrap64 (t323) : Int).toNat ≤ 35184372088832 then (if 0 ≤ t327 then (if t327 ≤ (wrap64 (t327 + (wrap64 (t326)))) then (if (wrap64 (t327 + (wrap64 (t326)))) ≤ (l0.length : Int) then ((rf06_Decode.f (([256] : List Int)) (List.replicate (wrap64 (t323) : Int).toNat 0) ((l0.take ((wrap64 (t327 + (wrap64 (t326)))) : Int).toNat).drop (t327 : Int).toNat)).bind fun bt336 => (if bt336.2 = 0 then (rf18_Unwrap.l0 kj10 t326 t327 bt336.1 ([] : List Int) 0) else (some (([] : List Int), 0, 11)))) else (none)) else (none)) else (none)) else (none)) else (none)) = some (r1, r2, r3) := by rw [if_neg (show ¬ (false = true) by decide)] at H; exact H
          clear H
          have H := H1
          clear H1
          obtain ⟨y329, hy329⟩ : ∃ y_ : List Int, y_ = (([256] : List Int)) := ⟨_, rfl⟩
          replace H : (if 0 ≤ (wrap64 (t323)) then (if (wrap64 (t323) : Int).toNat ≤ 35184372088832 then (if 0 ≤ t327 then (if t327 ≤ (wrap64 (t327 + (wrap64 (t326)))) then (if (wrap64 (t327 + (wrap64 (t326)))) ≤ (l0.length : Int) then ((rf06_Decode.f y329 (List.replicate (wrap64 (t323) : Int).toNat 0) ((l0.take ((wrap64 (t327 + (wrap64 (t326)))) : Int).toNat).drop (t327 : Int).toNat)).bind fun bt336 => (if bt336.2 = 0 then (rf18_Unwrap.l0 kj10 t326 t327 bt336.1 ([] : List Int) 0) else (some (([] : List Int), 0, 11)))) else (none)) else (none)) else (none)) else (none)) else (none)) = some (r1, r2, r3) := by first | (rw [hy329]; with_reducible exact H) | (have H2_ := (Option.bind_some _ _).symm.trans H; rw [hy329]; with_reducible exact H2_) | (have H2_ := (Option.bind_some _ _).symm.trans H; with_reducible exact H2_) | with_reducible exact H | (rw [hy329]; exact H) | exact H
          have Ny329 := Aside0.mk hy329
          clear hy329
          obtain ⟨ji14, hji14⟩ : ∃ j_ : Int, (wrap64 (t323)) = j_ := ⟨_, rfl⟩
          replace H : (if 0 ≤ (ji14) then (if (ji14 : Int).toNat ≤ 35184372088832 then (if 0 ≤ t327 then (if t327 ≤ (wrap64 (t327 + (wrap64 (t326)))) then (if (wrap64 (t327 + (wrap64 (t326)))) ≤ (l0.length : Int) then ((rf06_Decode.f y329 (List.replicate (ji14 : Int).toNat 0) ((l0.take ((wrap64 (t327 + (wrap64 (t326)))) : Int).toNat).drop (t327 : Int).toNat)).bind fun bt336 => (if bt336.2 = 0 then (rf18_Unwrap.l0 kj10 t326 t327 bt336.1 ([] : List Int) 0) else (some (([] : List Int), 0, 11)))) else (none)) else (none)) else (none)) else (none)) else (none)) = some (r1, r2, r3) := by first | (rw [hji14] at H; exact H) | (simp only [hji14] at H ⊢; exact H)
          have hji14w : (IntKind.i64.wrap (t323)) = ji14 := (i64_w _).trans hji14
          by_cases c15 : 0 ≤ (ji14)
          ·rw [if_pos c15] at H
           have c15b0 := eq_true c15
           have c15b1 : decide (0 ≤ (ji14)) = true := decide_eq_true c15
           clear c15
           by_cases c16 : (ji14 : Int).toNat ≤ 35184372088832
           ·rw [if_pos c16] at H
            have c16b0 := eq_true c16
            have c16b1 : decide ((ji14 : Int).toNat ≤ 35184372088832) = true := decide_eq_true c16
            clear c16
            obtain ⟨y332, hy332⟩ : ∃ y_ : List Int, y_ = (List.replicate (ji14 : Int).toNat 0) := ⟨_, rfl⟩
            replace H : (if 0 ≤ t327 then (if t327 ≤ (wrap64 (t327 + (wrap64 (t326)))) then (if (wrap64 (t327 + (wrap64 (t326)))) ≤ (l0.length : Int) then ((rf06_Decode.f y329 y332 ((l0.take ((wrap64 (t327 + (wrap64 (t326)))) : Int).toNat).drop (t327 : Int).toNat)).bind fun bt336 => (if bt336.2 = 0 then (rf18_Unwrap.l0 kj10 t326 t327 bt336.1 ([] : List Int) 0) else (some (([] : List Int), 0, 11)))) else (none)) else (none)) else (none)) = some (r1, r2, r3) := by first | (rw [hy332]; with_reducible exact H) | (have H2_ := (Option.bind_some _ _).symm.trans H; rw [hy332]; with_reducible exact H2_) | (have H2_ := (Option.bind_some _ _).symm.trans H; with_reducible exact H2_) | with_reducible exact H | (rw [hy332]; exact H) | exact H
            have Ny332 := Aside0.mk hy332
            clear hy332
            by_cases c17 : 0 ≤ t327
            ·rw [if_pos c17] at H
             have c17b0 := eq_true c17
             have c17b1 : decide (0 ≤ t327) = true := decide_eq_true c17
             clear c17
             by_cases c18 : t327 ≤ (wrap64 (t327 + (wrap64 (t326))))
             ·rw [if_pos c18] at H
              have c18b0 := eq_true c18
              have c18b1 : decide (t327 ≤ (wrap64 (t327 + (wrap64 (t326))))) = true := decide_eq_true c18
              by_cases c19 : (wrap64 (t327 + (wrap64 (t326)))) ≤ (l0.length : Int)
              ·rw [if_pos c19] at H
               have c19b0 := eq_true c19
               have c19b1 : decide ((wrap64 (t327 + (wrap64 (t326)))) ≤ (l0.length : Int)) = true := decide_eq_true c19
               replace H := Option.bind_eq_some_iff.mp H
               obtain ⟨⟨t336, t337⟩, A200, H⟩ := H
               replace H : (if t337 = 0 then (rf18_Unwrap.l0 kj10 t326 t327 t336 ([] : List Int) 0) else (some (([] : List Int), 0, 11))) = some (r1, r2, r3) := H
               have A20 := Aside0.mk A200
               clear A200
               have HC21 := Aside0.mk H
               clear H
               try go_wp2
               have n0_ := Aside0.mk (below_drew1 HB.out)
               clear HB
               have HB := n0_
               clear n0_
               obtain ⟨i023, hi023, _, hsz23, _⟩ := info_parts info5
               obtain ⟨A23, hcut23, hA23, hC23⟩ := print_mid_of (P := Tryz.prog) (Value.int .u8) 0 26 5 .i64 .i64 Tryz.underlying26 hi023 hsz23 A0 c0 l0 t327 (wrap64 (t327 + (wrap64 (t326)))) (of_decide_eq_true (by first | (with_reducible assumption) | assumption)) (by first | omega | exact of_decide_eq_true (by first | (with_reducible assumption) | assumption)) (of_decide_eq_true (by first | (with_reducible assumption) | assumption)) HC0.out
               have HR335 := Aside0.mk (Kd.C_of_reads (h1 := fun _ => rfl) (hA23 _ (Kd.reads_of_C HR0.out)))
               have HC335 := Aside0.mk hC23
               clear hA23 hC23 hi023 hsz23
               refine start_ (n := 17) (S := fun w' => True) (ds := []) #[false, false, false, false, false, false, false, false, false, false, false, false, false, false, false, false, false] (by kernel_rfl) rfl rfl trivial (fun hHeld => ?_); refine with_tabW rf18_Unwrap.tab9 rf18_Unwrap.bits9 (fun HT_ HW_ => ?_)
               generalize wc.drew = w22 at HB HR335 hHeld ⊢
               refine pure_ (i := 1) (N := some 58) (v := ?_) (a' := ?_) #[false, true, false, false, false, false, false, false, false, false, false, false, false, false, false, false, false] rfl rfl (any_of HT_.out (by kernel_rfl)) (fun _ _ _ h => h) (Or.inl ⟨by rfl, ?_⟩) ?_ ?_
               rotate_left
               ·intro w'
                go_simp
                with_reducible rfl
               rotate_left
               ·simp only [Act.put, List.setIfInBounds_toArray, List.set_cons_zero, List.set_cons_succ, i64_w, i32_w]
                rfl
               refine pure_ (i := 2) (N := some 59) (v := ?_) (a' := ?_) #[false, true, true, false, false, false, false, false, false, false, false, false, false, false, false, false, false] rfl rfl (any_of HT_.out (by kernel_rfl)) (fun _ _ _ h => h) (Or.inl ⟨by rfl, ?_⟩) ?_ ?_
               rotate_left
               ·intro w'
                go_simp
                with_reducible rfl
               rotate_left
               ·simp only [Act.put, List.setIfInBounds_toArray, List.set_cons_zero, List.set_cons_succ, i64_w, i32_w]
                rfl
               refine pure_ (i := 4) (N := some 61) (v := ?_) (a' := ?_) #[false, true, true, false, true, false, false, false, false, false, false, false, false, false, false, false, false] rfl rfl (any_of HT_.out (by kernel_rfl)) (fun _ _ _ h => h) (Or.inl ⟨by rfl, ?_⟩) ?_ ?_
               rotate_left
               ·intro w'
                go_simp
                with_reducible rfl
               rotate_left
               ·simp only [Act.put, List.setIfInBounds_toArray, List.set_cons_zero, List.set_cons_succ, i64_w, i32_w]
                rfl
               refine pure_ (i := 5) (N := some 62) (v := ?_) (a' := ?_) #[false, true, true, false, true, true, false, false, false, false, false, false, false, false, false, false, false] rfl rfl (any_of HT_.out (by kernel_rfl)) (fun _ _ _ h => h) (Or.inl ⟨by rfl, ?_⟩) ?_ ?_
               rotate_left
               ·intro w'
                go_simp
                with_reducible rfl
               rotate_left
               ·simp only [Act.put, List.setIfInBounds_toArray, List.set_cons_zero, List.set_cons_succ, i64_w, i32_w]
                rfl
               refine pure_ (i := 6) (N := some 63) (v := ?_) (a' := ?_) #[false, true, true, false, true, true, true, false, false, false, false, false, false, false, false, false, false] rfl rfl (any_of HT_.out (by kernel_rfl)) (fun _ _ _ h => h) (Or.inl ⟨by rfl, ?_⟩) ?_ ?_
               rotate_left
               ·intro w'
                go_simp
                with_reducible rfl
               rotate_left
               ·simp only [Act.put, List.setIfInBounds_toArray, List.set_cons_zero, List.set_cons_succ, i64_w, i32_w]
                rfl
               refine pure_ (i := 7) (N := some 64) (v := ?_) (a' := ?_) #[false, true, true, false, true, true, true, true, false, false, false, false, false, false, false, false, false] rfl rfl (any_of HT_.out (by kernel_rfl)) (fun _ _ _ h => h) (Or.inl ⟨by rfl, ?_⟩) ?_ ?_
               rotate_left
               ·intro w'
                go_simp
                with_reducible rfl
               rotate_left
               ·simp only [Act.put, List.setIfInBounds_toArray, List.set_cons_zero, List.set_cons_succ, i64_w, i32_w]
                rfl
               refine pure_ (i := 8) (N := some 65) (v := ?_) (a' := ?_) #[false, true, true, false, true, true, true, true, true, false, false, false, false, false, false, false, false] rfl rfl (any_of HT_.out (by kernel_rfl)) (fun _ _ _ h => h) (Or.inl ⟨by rfl, ?_⟩) ?_ ?_
               rotate_left
               ·intro w'
                go_simp
                with_reducible rfl
               rotate_left
               ·simp only [Act.put, List.setIfInBounds_toArray, List.set_cons_zero, List.set_cons_succ, i64_w, i32_w]
                rfl
               refine pure_ (i := 9) (N := some 66) (v := ?_) (a' := ?_) #[false, true, true, false, true, true, true, true, true, true, false, false, false, false, false, false, false] rfl rfl (any_of HT_.out (by kernel_rfl)) (fun _ _ _ h => h) (Or.inl ⟨by rfl, ?_⟩) ?_ ?_
               rotate_left
               ·intro w'
                go_simp
                with_reducible rfl
               rotate_left
               ·simp only [Act.put, List.setIfInBounds_toArray, List.set_cons_zero, List.set_cons_succ, i64_w, i32_w]
                rfl
               refine pure_ (i := 10) (N := some 67) (v := ?_) (a' := ?_) #[false, true, true, false, true, true, true, true, true, true, true, false, false, false, false, false, false] rfl rfl (any_of HT_.out (by kernel_rfl)) (fun _ _ _ h => h) (Or.inl ⟨by rfl, ?_⟩) ?_ ?_
               rotate_left
               ·intro w'
                go_simp
                with_reducible rfl
               rotate_left
               ·simp only [Act.put, List.setIfInBounds_toArray, List.set_cons_zero, List.set_cons_succ, i64_w, i32_w]
                rfl
               refine join_ (σ := Value × Value) 6 #[true, true, true, true, true, true, true, true, true, true, true, false, false, false, false, false, false] (fun s_ => [(57, s_.1), (60, s_.2)]) (fun s_ w' => (Kd.R (Kd.int .i64) 3 w' w.heap.size (fun k_ => some k_ ≠ (s_.2 : Value).ownBlock) s_.1 y329) ∧ (Kd.R (Kd.int .i64) 3 w' w.heap.size (fun k_ => some k_ ≠ (s_.1 : Value).ownBlock) s_.2 y332) ∧ (Below w.heap.size w w')) ?_ ?_
               rotate_left
               ·intro hCont
                refine two_ (i := 0) (j := 3) (Ni := some 57) (Nj := some 60) #[true, true, true, false, true, true, true, true, true, true, true, false, false, false, false, false, false] #[false, true, true, true, true, true, true, true, true, true, true, false, false, false, false, false, false] rfl rfl rfl rfl (two_of HT_.out (by kernel_rfl)) (by decide) (by decide) (fun K hK => ?_) (fun K hK => ?_)
                ·skip
                 refine Kd.R_lit_step (Kd.int .i64) _ 3 ?hg (N := 57) ?hd (xs := ([256] : List Int)) (inner := [.int .i64 256]) (ok := fun _ => True) (okp := fun _ => True) ?hr ?hp (fun _ hk => hk) trivial (Below.refl _ _) (Nat.le_refl _) (by simp) ?_; (case hd => rfl); (case hg => rfl); (case hr => first | (go_simp; done) | (go_simp; rfl)); (case hp => exact (Reps.one (show Kd.M (Kd.int .i64) _ _ _ 256 [.int .i64 256] from rfl) (Reps.none _ _)))
                 intro v330 w24 ho25 hb hg_ hnew_
                 clear hg_ hnew_
                 (first | rw [← Ny329.out] at ho25 | (simp only [Int.reduceToNat] at ho25; rw [← Ny329.out] at ho25))
                 have n0_ := Aside0.mk (Kd.R_lower ho25 (below_size (bH HB)))
                 have n1_ := Aside0.mk (below_step (bH HB) hb)
                 clear HB
                 have HO331 := n0_
                 have HB := n1_
                 clear n0_ n1_
                 clear hb ho25
                 refine hK.out _ _ trivial (fun hHeld => ?_)
                 clear hK K
                 refine norm_ (a' := ?_) ?_ ?_
                 rotate_left
                 ·show Act.put _ (some 57) _ = _
                  simp only [Act.put, List.setIfInBounds_toArray, List.set_cons_zero, List.set_cons_succ, i64_w, i32_w]
                  rfl
                 refine one_ (i := 3) (N := some 60) #[true, true, true, true, true, true, true, true, true, true, true, false, false, false, false, false, false] rfl rfl (one_of HT_.out (by kernel_rfl)) (by decide) (fun K hK => ?_)
                 refine Kd.R_make_step (Kd.int .i64) _ 3 (by rfl) (N := 60) rfl 83 _ _ rfl ji14 rfl rfl Tryz.underlying83 (.int .i64 0) 8 info3 rfl (by decide) (by omega) 0 (ok := fun _ => True) (okp := fun _ => True) rfl (fun _ hk => hk) trivial (of_decide_eq_true (by first | (with_reducible assumption) | assumption)) (Nat.le_trans (Nat.mul_le_mul_right _ (of_decide_eq_true (by first | (with_reducible assumption) | assumption) : ji14.toNat ≤ 35184372088832)) (by omega)) (Below.refl _ _) (Nat.le_refl _) ?_
                 intro v333 w26 ho27 hb hg_ hnew_
                 clear hg_ hnew_
                 (first | rw [← Ny332.out] at ho27 | (simp only [Int.reduceToNat] at ho27; rw [← Ny332.out] at ho27))
                 have n0_ := Aside0.mk (Kd.R_elder' (rK HO331) (Kd.R_base ho27) hb)
                 have n1_ := Aside0.mk (Kd.R_lower (Kd.R_new' ho27 (Kd.R_lt (rK HO331))) (below_size (bH HB)))
                 have n2_ := Aside0.mk (below_step (bH HB) hb)
                 clear HO331
                 clear HB
                 have HO331 := n0_
                 have HO334 := n1_
                 have HB := n2_
                 clear n0_ n1_ n2_
                 clear hb ho27
                 refine hK.out _ _ trivial (fun hHeld => ?_)
                 clear hK K
                 refine norm_ (a' := ?_) ?_ ?_
                 rotate_left
                 ·show Act.put _ (some 60) _ = _
                  simp only [Act.put, List.setIfInBounds_toArray, List.set_cons_zero, List.set_cons_succ, i64_w, i32_w]
                  rfl
                 exact norm_ (by simp only [putAll, Act.put, List.setIfInBounds_toArray, List.set_cons_zero, List.set_cons_succ]) (hCont (v330, v333) _ ⟨(by (with_reducible repeat (first | apply Kd.R_alloc | apply Kd.R_drewN | apply Kd.R_drew)); exact Kd.R_mono HO331.out (fun _ hk => hk.2)), (by (with_reducible repeat (first | apply Kd.R_alloc | apply Kd.R_drewN | apply Kd.R_drew)); exact Kd.R_mono HO334.out (fun _ hk => hk.2)), (bH HB)⟩)
                ·skip
                 refine Kd.R_make_step (Kd.int .i64) _ 3 (by rfl) (N := 60) rfl 83 _ _ rfl ji14 rfl rfl Tryz.underlying83 (.int .i64 0) 8 info3 rfl (by decide) (by omega) 0 (ok := fun _ => True) (okp := fun _ => True) rfl (fun _ hk => hk) trivial (of_decide_eq_true (by first | (with_reducible assumption) | assumption)) (Nat.le_trans (Nat.mul_le_mul_right _ (of_decide_eq_true (by first | (with_reducible assumption) | assumption) : ji14.toNat ≤ 35184372088832)) (by omega)) (Below.refl _ _) (Nat.le_refl _) ?_
                 intro v333 w24 ho25 hb hg_ hnew_
                 clear hg_ hnew_
                 (first | rw [← Ny332.out] at ho25 | (simp only [Int.reduceToNat] at ho25; rw [← Ny332.out] at ho25))
                 have n0_ := Aside0.mk (Kd.R_lower ho25 (below_size (bH HB)))
                 have n1_ := Aside0.mk (below_step (bH HB) hb)
                 clear HB
                 have HO334 := n0_
                 have HB := n1_
                 clear n0_ n1_
                 clear hb ho25
                 refine hK.out _ _ trivial (fun hHeld => ?_)
                 clear hK K
                 refine norm_ (a' := ?_) ?_ ?_
                 rotate_left
                 ·show Act.put _ (some 60) _ = _
                  simp only [Act.put, List.setIfInBounds_toArray, List.set_cons_zero, List.set_cons_succ, i64_w, i32_w]
                  rfl
                 refine one_ (i := 0) (N := some 57) #[true, true, true, true, true, true, true, true, true, true, true, false, false, false, false, false, false] rfl rfl (one_of HT_.out (by kernel_rfl)) (by decide) (fun K hK => ?_)
                 refine Kd.R_lit_step (Kd.int .i64) _ 3 ?hg (N := 57) ?hd (xs := ([256] : List Int)) (inner := [.int .i64 256]) (ok := fun _ => True) (okp := fun _ => True) ?hr ?hp (fun _ hk => hk) trivial (Below.refl _ _) (Nat.le_refl _) (by simp) ?_; (case hd => rfl); (case hg => rfl); (case hr => first | (go_simp; done) | (go_simp; rfl)); (case hp => exact (Reps.one (show Kd.M (Kd.int .i64) _ _ _ 256 [.int .i64 256] from rfl) (Reps.none _ _)))
                 intro v330 w26 ho27 hb hg_ hnew_
                 clear hg_ hnew_
                 (first | rw [← Ny329.out] at ho27 | (simp only [Int.reduceToNat] at ho27; rw [← Ny329.out] at ho27))
                 have n0_ := Aside0.mk (Kd.R_elder' (rK HO334) (Kd.R_base ho27) hb)
                 have n1_ := Aside0.mk (Kd.R_lower (Kd.R_new' ho27 (Kd.R_lt (rK HO334))) (below_size (bH HB)))
                 have n2_ := Aside0.mk (below_step (bH HB) hb)
                 clear HO334
                 clear HB
                 have HO334 := n0_
                 have HO331 := n1_
                 have HB := n2_
                 clear n0_ n1_ n2_
                 clear hb ho27
                 refine hK.out _ _ trivial (fun hHeld => ?_)
                 clear hK K
                 refine norm_ (a' := ?_) ?_ ?_
                 rotate_left
                 ·show Act.put _ (some 57) _ = _
                  simp only [Act.put, List.setIfInBounds_toArray, List.set_cons_zero, List.set_cons_succ, i64_w, i32_w]
                  rfl
                 exact norm_ (by simp only [putAll, Act.put, List.setIfInBounds_toArray, List.set_cons_zero, List.set_cons_succ]) (hCont (v330, v333) _ ⟨(by (with_reducible repeat (first | apply Kd.R_alloc | apply Kd.R_drewN | apply Kd.R_drew)); exact Kd.R_mono HO331.out (fun _ hk => hk.2)), (by (with_reducible repeat (first | apply Kd.R_alloc | apply Kd.R_drewN | apply Kd.R_drew)); exact Kd.R_mono HO334.out (fun _ hk => hk.2)), (bH HB)⟩)
               rintro ⟨v330, v333⟩ w28 ⟨h0_, h1_, h2_⟩
               have n0_ : Aside0 (Kd.R (Kd.int .i64) 3 w28 w.heap.size (fun k_ => some k_ ≠ (v333 : Value).ownBlock) v330 y329) := ⟨h0_⟩
               have n1_ : Aside0 (Kd.R (Kd.int .i64) 3 w28 w.heap.size (fun k_ => some k_ ≠ (v330 : Value).ownBlock) v333 y332) := ⟨h1_⟩
               have n2_ : Aside0 (Below w.heap.size w w28) := ⟨h2_⟩
               clear HB
               clear h0_ h1_ h2_
               have HO331 := n0_
               have HO334 := n1_
               have HB := n2_
               clear n0_ n1_ n2_
               have hHeld := trivial
               obtain ⟨Ao29, co29, eo29⟩ := Kd.R_slice HO331.out
               (first | subst eo29 | (injection eo29 with f1_ f2_ f3_; have f4_ := f1_.symm; have f5_ := f3_.symm; clear f1_ f2_ f3_; subst f4_; subst f5_))
               obtain ⟨Ao30, co30, eo30⟩ := Kd.R_slice HO334.out
               (first | subst eo30 | (injection eo30 with f1_ f2_ f3_; have f4_ := f1_.symm; have f5_ := f3_.symm; clear f1_ f2_ f3_; subst f4_; subst f5_))
               refine norm_ (a' := ?_) ?_ ?_
               rotate_left
               ·simp only [putAll, Act.put, List.setIfInBounds_toArray, List.set_cons_zero, List.set_cons_succ]
                rfl
               refine one_ (i := 11) (N := some 68) #[true, true, true, true, true, true, true, true, true, true, true, true, false, false, false, false, false] rfl rfl (one_of HT_.out (by kernel_rfl)) (by decide) (fun K hK => ?_)
               refine goes_ Tryz.func53 (by kernel_rfl) rfl #[.slice Ao29 y329.length co29, .slice Ao30 y332.length co30, .slice A23 ((l0.take ((wrap64 (t327 + (wrap64 (t326)))) : Int).toNat).drop (t327 : Int).toNat).length (c0 - t327.toNat)] (by rfl) rfl rfl (by (try simp only [List.map_toArray, List.map_cons, List.map_nil]); first | done | (rw [show ((l0.take ((wrap64 (t327 + (wrap64 (t326)))) : Int).toNat).drop (t327 : Int).toNat).length = ((wrap64 (t327 + (wrap64 (t326)))).toNat - t327.toNat) from (by rw [List.length_drop, List.length_take]; have h_ : ((wrap64 (t327 + (wrap64 (t326)))) : Int) ≤ (l0.length : Int) := of_decide_eq_true (by first | (with_reducible assumption) | assumption); omega)] <;> rfl) | rfl | (simp only [List.length_drop, List.length_take]; rfl)) ?_
               with_reducible refine (rf06_Decode.calls _ _ y329 _ _ y332 _ _ ((l0.take ((wrap64 (t327 + (wrap64 (t326)))) : Int).toNat).drop (t327 : Int).toNat) t336 t337 _ ?side1 ?side2 ?side3 ?side4 ?side5 ?side6 A20.out).mono ?_
               (case side1 => repeat (first | exact (Kd.R_reads' HO331.out).2.2 | (with_reducible refine Kd.C_alloc ?_ _) | (with_reducible refine Kd.C_drewN ?_ _) | (with_reducible refine Kd.C_drew ?_)))
               (case side2 => exact (Kd.R_reads' HO331.out).2.1)
               (case side3 => repeat (first | exact (Kd.R_reads' HO334.out).2.2 | (with_reducible refine Kd.C_alloc ?_ _) | (with_reducible refine Kd.C_drewN ?_ _) | (with_reducible refine Kd.C_drew ?_)))
               (case side4 => exact (Kd.R_reads' HO334.out).2.1)
               (case side5 => repeat (first | exact (Kd.C_below HR335.out HB.out) | (with_reducible refine Kd.C_alloc ?_ _) | (with_reducible refine Kd.C_drewN ?_ _) | (with_reducible refine Kd.C_drew ?_)))
               (case side6 => exact HC335.out)
               rintro e w31 ⟨v338, rfl, ho0, hb⟩
               refine ⟨_, rfl, ?_⟩
               have n0_ := Aside0.mk (Kd.R_below (rK HO331) hb)
               have n1_ := Aside0.mk (Kd.R_below (rK HO334) hb)
               have n2_ := Aside0.mk (Kd.R_lower ho0 (below_size (bH HB)))
               have n3_ := Aside0.mk (below_step (bH HB) hb)
               clear HO331
               clear HO334
               clear HB
               have HO331 := n0_
               have HO334 := n1_
               have HO339 := n2_
               have HB := n3_
               clear n0_ n1_ n2_ n3_
               (try clear hb)
               (try clear hb2)
               (try clear hk)
               (try clear hi)
               (try clear ho0)
               refine hK.out _ _ trivial (fun hHeld => ?_)
               clear hK K
               refine norm_ (a' := ?_) ?_ ?_
               rotate_left
               ·show Act.put _ (some 68) _ = _
                simp only [Act.put, List.setIfInBounds_toArray, List.set_cons_zero, List.set_cons_succ, i64_w, i32_w]
                rfl
               refine pure_ (i := 12) (N := some 56) (v := ?_) (a' := ?_) #[true, true, true, true, true, true, true, true, true, true, true, true, true, false, false, false, false] rfl rfl (any_of HT_.out (by kernel_rfl)) (fun _ _ _ h => h) (Or.inl ⟨by rfl, ?_⟩) ?_ ?_
               rotate_left
               ·intro w'
                go_simp
                with_reducible rfl
               rotate_left
               ·simp only [Act.put, List.setIfInBounds_toArray, List.set_cons_zero, List.set_cons_succ, i64_w, i32_w]
                rfl
               refine pure_ (i := 13) (N := some 69) (v := ?_) (a' := ?_) #[true, true, true, true, true, true, true, true, true, true, true, true, true, true, false, false, false] rfl rfl (any_of HT_.out (by kernel_rfl)) (fun _ _ _ h => h) (Or.inl ⟨by rfl, ?_⟩) ?_ ?_
               rotate_left
               ·intro w'
                go_simp
                with_reducible rfl
               rotate_left
               ·simp only [Act.put, List.setIfInBounds_toArray, List.set_cons_zero, List.set_cons_succ, i64_w, i32_w]
                rfl
               refine pure_ (i := 14) (N := some 70) (v := ?_) (a' := ?_) #[true, true, true, true, true, true, true, true, true, true, true, true, true, true, true, false, false] rfl rfl (any_of HT_.out (by kernel_rfl)) (fun _ _ _ h => h) (Or.inl ⟨by rfl, ?_⟩) ?_ ?_
               rotate_left
               ·intro w'
                go_simp
                with_reducible rfl
               rotate_left
               ·simp only [Act.put, List.setIfInBounds_toArray, List.set_cons_zero, List.set_cons_succ, i64_w, i32_w]
                rfl
               refine pure_ (i := 15) (N := some 13) (v := ?_) (a' := ?_) #[true, true, true, true, true, true, true, true, true, true, true, true, true, true, true, true, false] rfl rfl (any_of HT_.out (by kernel_rfl)) (fun _ _ _ h => h) (Or.inl ⟨by rfl, ?_⟩) ?_ ?_
               rotate_left
               ·intro w'
                go_simp
                with_reducible rfl
               rotate_left
               ·simp only [Act.put, List.setIfInBounds_toArray, List.set_cons_zero, List.set_cons_succ, i64_w, i32_w]
                rfl
               refine pure_ (i := 16) (N := some 14) (v := ?_) (a' := ?_) #[true, true, true, true, true, true, true, true, true, true, true, true, true, true, true, true, true] rfl rfl (any_of HT_.out (by kernel_rfl)) (fun _ _ _ h => h) (Or.inl ⟨by rfl, ?_⟩) ?_ ?_
               rotate_left
               ·intro w'
                go_simp
                with_reducible rfl
               rotate_left
               ·simp only [Act.put, List.setIfInBounds_toArray, List.set_cons_zero, List.set_cons_succ, i64_w, i32_w]
                rfl
               refine done_ (done_of HT_.out (by kernel_rfl)) ?_
               go_upto_if 72 with (fail)
               have H := HC21.out
               clear HC21
               by_cases c32 : t337 = 0
               ·rw [if_pos c32] at H
                have c32b0 : (t337 == 0) = true := beq_iff_eq.mpr c32
                have c32b1 : (t337 != 0) = false := bne_eq_false_iff_eq.mpr c32
                clear c32
                (first | rw [c32b0] | (simp only [i64_w, i32_w]; rw [c32b0]) | rw [c32b1] | skip)
                have H' := Aside0.mk H
                clear H
                go_wp2
                go_loopg [15, 16] kj10 (fun kq v15 v16 w' => ∃ (x15_4 : List Int) (x16_4 : Int), v16 = .int .i64 x16_4 ∧ Aside0 (rf18_Unwrap.l0 kq t326 t327 t336 x15_4 x16_4 = some (r1, r2, r3)) ∧ Aside0 (kq ≤ kj10) ∧ Aside0 (Kd.R k122 122 w' w.heap.size (fun _ => True) v338 t336) ∧ Aside0 (Kd.R (Kd.int .u8) 5 w' w.heap.size (fun _ => True) v15 x15_4) ∧ Aside0 (Below w.heap.size w w'))
                case atStart => exact ⟨(([] : List Int)), (0), (by first | rfl | (simp; done) | (simp [*]; done)), H', ⟨Nat.le_refl _⟩, ⟨by (with_reducible repeat (first | apply Kd.R_alloc | apply Kd.R_drewN | apply Kd.R_drew)); exact HO339.out⟩, ⟨by first | exact Kd.R_nil _ _ _ _ _ | exact Kd.N_nil _ _ _ _ _ | exact Kd.V_nil _ _ _ _ _ | exact Kd.Q_nil _ _ _ _ _ | exact Kd.S_nil _ _ _ _ _⟩, ⟨ bH HB⟩⟩
                case round =>
                 clear H'
                 try clear c1
                 try clear c2
                 try clear p2
                 try clear c3
                 try clear c4
                 try clear c4b0
                 try clear c5
                 try clear p6
                 try clear c8
                 try clear c8b0
                 try clear c8b1
                 try clear c9
                 try clear c12
                 try clear c12b0
                 try clear c12b1
                 try clear c13
                 try clear c15
                 try clear c15b0
                 try clear c15b1
                 try clear c16
                 try clear c16b0
                 try clear c16b1
                 try clear c17
                 try clear c17b0
                 try clear c17b1
                 try clear c18
                 try clear c18b0
                 try clear c18b1
                 try clear c19
                 try clear c19b0
                 try clear c19b1
                 try clear c21
                 try clear c32
                 try clear c32b0
                 try clear c32b1
                 try clear p2
                 try clear p6
                 obtain ⟨x15_4, x16_4, rfl, HA, HK4, HO_13, HO_15, HB⟩ := hrel
                 cases gk with
                 | zero => exact absurd HA.out (by simp [rf18_Unwrap.l0])
                 | succ k4 =>
                  have H := HA.out
                  clear HA
                  simp only [rf18_Unwrap.l0] at H
                  by_cases c33 : x16_4 < (t336.length : Int)
                  ·rw [if_pos c33] at H
                   have c33b0 : decide (x16_4 < (t336.length : Int)) = true := decide_eq_true c33
                   clear c33
                   by_cases c34 : 0 ≤ x16_4
                   ·rw [if_pos c34] at H
                    have c34b0 : decide (0 ≤ x16_4) = true := decide_eq_true c34
                    clear c34
                    by_cases c35 : x15_4.length < 140737488355328
                    ·rw [if_pos c35] at H
                     have LMc35 := Aside0.mk c35
                     clear c35
                     obtain ⟨y341, hy341⟩ : ∃ y_ : List Int, y_ = (x15_4 ++ [((rd_T122 t336 x16_4).f1) % 256]) := ⟨_, rfl⟩
                     replace H : (rf18_Unwrap.l0 k4 t326 t327 t336 y341 (wrap64 (x16_4 + 1))) = some (r1, r2, r3) := by first | (rw [hy341]; with_reducible exact H) | (have H2_ := (Option.bind_some _ _).symm.trans H; rw [hy341]; with_reducible exact H2_) | (have H2_ := (Option.bind_some _ _).symm.trans H; with_reducible exact H2_) | with_reducible exact H | (rw [hy341]; exact H) | exact H
                     have Ny341 := Aside0.mk hy341
                     clear hy341
                     have H' := Aside0.mk H
                     clear H
                     obtain ⟨Ao36, co36, eo36⟩ := Kd.R_slice HO_13.out
                     subst eo36
                     have p340 : 0 ≤ (x16_4 : Int) := of_decide_eq_true (by first | (with_reducible assumption) | assumption)
                     have q340 : x16_4 < (t336.length : Int) := of_decide_eq_true (by first | (with_reducible assumption) | assumption)
                     obtain ⟨ad340, e340, hx340_0, hx340_1⟩ := at_T122 (Kd.R_reads' HO_13.out).2.2 x16_4 p340 q340
                     cases e340
                     replace p340 := eq_true p340
                     replace q340 := eq_true q340
                     go_wp2_with (first | ((with_reducible refine gate_builtin (b := .append) (xs := #[.tmp 79, .tmp 86]) rfl ?_); (try (refine gate_guard (by rfl) ?_; dsimp only)); at_builtin; refine Kd.R_append (Kd.int .u8) (w0 := w) w.heap.size rfl (.tmp 79) (.tmp 86) 26 5 (.int .u8 0) 1 rfl Tryz.underlying26 info5 rfl (by decide) (by omega) u15 x15_4 (((rd_T122 t336 x16_4).f1) % 256) [.int .u8 (((rd_T122 t336 x16_4).f1) % 256)] (fun _ => True) (fun _ => False) rfl rfl ?aP (fun _ hk => hk.elim) ?aF ?aO ?aB ?aS ?aL ?_; (case aP => exact rfl); (case aB => exact (bH HB)); (case aF => exact (fun _ _ => trivial)); (case aO => exact (rK HO_15)); (case aS => exact (below_size (bH HB))); (case aL => have := LMc35.out; omega); intro v342 w37 ho hb hg hat; rw [← Ny341.out] at ho; have n0_ := Aside0.mk (Kd.R_over' (rK HO_13) (Kd.R_typed (rK HO_15)) (by decide) hg); have n1_ := Aside0.mk (hb); have n2_ := Aside0.mk (ho); clear HO_13; clear HB; clear HO_15; have HO_13 := n0_; have HB := n1_; have HO343 := n2_; clear n0_ n1_ n2_; clear ho hb hg hat))
                     go_roundg k4
                     case measure => have := HJ2.out; have := HJ6.out; have := HJ10.out; have := HK4.out; omega
                     case rel => exact ⟨(y341), (wrap64 (x16_4 + 1)), (by first | rfl | (simp; done) | (simp [*]; done)), H', ⟨by have := HJ2.out; have := HJ6.out; have := HJ10.out; have := HK4.out; omega⟩, ⟨by (with_reducible repeat (first | apply Kd.R_alloc | apply Kd.R_drewN | apply Kd.R_drew)); exact HO_13.out⟩, ⟨by (with_reducible repeat (first | apply Kd.R_alloc | apply Kd.R_drewN | apply Kd.R_drew)); exact HO343.out⟩, ⟨ bH HB⟩⟩
                    ·rw [if_neg c35] at H
                     exact absurd H (by simp)
                   ·rw [if_neg c34] at H
                    exact absurd H (by simp)
                  ·rw [if_neg c33] at H
                   have c33b0 : decide (x16_4 < (t336.length : Int)) = false := decide_eq_false c33
                   clear c33
                   simp only [Option.some.injEq, Prod.mk.injEq] at H
                   obtain ⟨rfl, rfl, rfl⟩ := H
                   obtain ⟨Ao38, co38, eo38⟩ := Kd.R_slice HO_13.out
                   subst eo38
                   go_wp2
                   go_ret3
                   exact ⟨_, by first | rfl | (simp [errW_none, errW_some] <;> rfl) | (simp only [← hji14]; first | rfl | (simp [errW_none, errW_some] <;> rfl)) | (simp [*, errW_none, errW_some] <;> rfl), by (with_reducible repeat (first | apply Kd.R_alloc | apply Kd.R_drewN | apply Kd.R_drew)); exact HO_15.out, bH HB⟩
               ·rw [if_neg c32] at H
                have c32b0 : (t337 == 0) = false := beq_eq_false_iff_ne.mpr c32
                have c32b1 : (t337 != 0) = true := bne_iff_ne.mpr c32
                (first | rw [c32b0] | (simp only [i64_w, i32_w]; rw [c32b0]) | rw [c32b1] | skip)
                simp only [Option.some.injEq, Prod.mk.injEq] at H
                obtain ⟨rfl, rfl, rfl⟩ := H
                go_wp2
                go_ret3
                exact ⟨_, by first | rfl | (simp [errW_none, errW_some] <;> rfl) | (simp only [← hji14]; first | rfl | (simp [errW_none, errW_some] <;> rfl)) | (simp [*, errW_none, errW_some] <;> rfl), by first | exact Kd.R_nil _ _ _ _ _ | exact Kd.N_nil _ _ _ _ _ | exact Kd.V_nil _ _ _ _ _ | exact Kd.Q_nil _ _ _ _ _ | exact Kd.S_nil _ _ _ _ _, bH HB⟩
              ·rw [if_neg c19] at H
               exact absurd H (by simp)
             ·rw [if_neg c18] at H
              exact absurd H (by simp)
            ·rw [if_neg c17] at H
             exact absurd H (by simp)
           ·rw [if_neg c16] at H
            exact absurd H (by simp)
          ·rw [if_neg c15] at H
           exact absurd H (by simp)
end Go.Proofs.YtbdbobjdlomjnaaGreatDoor.P
