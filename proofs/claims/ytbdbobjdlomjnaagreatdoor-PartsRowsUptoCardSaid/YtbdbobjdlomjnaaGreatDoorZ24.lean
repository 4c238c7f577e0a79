/- Written for this claim by a program of this session (a turned copy of the print): Go functions as Lean functions, and that the Go code comes to just these answers; or a statement proved out of them. No condition. Whether two rows of rows of bytes are the same: SameLists. No condition. -/
import Derived.Test.YtbdbobjdlomjnaaGreatDoorZ2
import Derived.Test.YtbdbobjdlomjnaaGreatDoorZ8
import Derived.Test.YtbdbobjdlomjnaaGreatDoorZ23
import Derived.Test.YtbdbobjdlomjnaaGreatDoorZ19

namespace Go.Proofs.YtbdbobjdlomjnaaGreatDoor.P
open Go.RowKit Go.Proofs.YtbdbobjdlomjnaaGreatDoorW.PrintWords Go.Proofs.YtbdbobjdlomjnaaGreatDoorW.PrintLast Go.Proofs.YtbdbobjdlomjnaaGreatDoorW.PrintMore Go.Proofs.YtbdbobjdlomjnaaGreatDoor.X
attribute [local go_sem] max2_int min2_int max_two min_two max_three min_three max_four min_four add64_0 add64_1 add64
set_option linter.unusedVariables false
set_option linter.unusedSimpArgs false
mutual
def rf18_Split.j0 : Nat → List Int → Int → Int → Bool → Option ((List (List Int)) × Int)
 | 0, _, _, _, _ => none
 | k + 1, x0, x4, x5, x23 => if x23 = true then (some (([] : List (List Int)), 11)) else (rf18_Split.l0 k x0 x4 x5 ([] : List (List Int)) 0)
def rf18_Split.l0 : Nat → List Int → Int → Int → List (List Int) → Int → Option ((List (List Int)) × Int)
 | 0, _, _, _, _, _ => none
 | k + 1, x0, x4, x5, x7, x8 => if x8 < (wrap64 (x4)) then ((rf18_Unwrap.f k x0 x5).bind fun bt347 => (if bt347.2.2 = 0 then (if x7.length < 5864062014805 then (rf18_Split.l0 k x0 x4 bt347.2.1 (x7 ++ [bt347.1]) (wrap64 (x8 + 1))) else (none)) else (some (([] : List (List Int)), 11)))) else (if x5 = (x0.length : Int) then (some (x7, 0)) else (some (([] : List (List Int)), 11)))
end
def rf18_Split.f (k : Nat) (l0 : List Int) : Option ((List (List Int)) × Int) := (rf01_Get.f k l0 0).bind fun bt344 => (if bt344.2.2 = 0 then (rf18_Split.j0 k l0 bt344.1 bt344.2.1 (decide (bt344.1 > 50))) else (rf18_Split.j0 k l0 bt344.1 bt344.2.1 true))
theorem rf18_Split.mono_l : ∀ k, (∀ y0 y1 y2 y3, LeO (rf18_Split.j0 k y0 y1 y2 y3) (rf18_Split.j0 (k + 1) y0 y1 y2 y3)) ∧ (∀ y0 y1 y2 y3 y4, LeO (rf18_Split.l0 k y0 y1 y2 y3 y4) (rf18_Split.l0 (k + 1) y0 y1 y2 y3 y4))
 | 0 => ⟨fun _ _ _ _ r h => by simp [rf18_Split.j0] at h, fun _ _ _ _ _ r h => by simp [rf18_Split.l0] at h⟩
 | k + 1 => by
  obtain ⟨ih0, ih1⟩ := rf18_Split.mono_l k
  refine ⟨?_, ?_⟩
  ·intro y0 y1 y2 y3
   unfold rf18_Split.j0
   repeat' first
   | (with_reducible exact ih0 _ _ _ _)
   | (with_reducible exact ih1 _ _ _ _ _)
   | (with_reducible exact rf01_Get.mono _ _ _)
   | (with_reducible exact rf18_Unwrap.mono _ _ _)
   | (with_reducible exact LeO.refl _)
   | (with_reducible exact LeO.none _)
   | (with_reducible refine LeO.ite ?_ ?_)
   | (with_reducible refine LeO.bind ?_ (fun _ => ?_))
   | exact ih0 _ _ _ _
   | exact ih1 _ _ _ _ _
   | exact rf01_Get.mono _ _ _
   | exact rf18_Unwrap.mono _ _ _
   | exact LeO.none _
   | refine LeO.ite ?_ ?_
   | refine LeO.bind ?_ (fun _ => ?_)
  ·intro y0 y1 y2 y3 y4
   unfold rf18_Split.l0
   repeat' first
   | (with_reducible exact ih0 _ _ _ _)
   | (with_reducible exact ih1 _ _ _ _ _)
   | (with_reducible exact rf01_Get.mono _ _ _)
   | (with_reducible exact rf18_Unwrap.mono _ _ _)
   | (with_reducible exact LeO.refl _)
   | (with_reducible exact LeO.none _)
   | (with_reducible refine LeO.ite ?_ ?_)
   | (with_reducible refine LeO.bind ?_ (fun _ => ?_))
   | exact ih0 _ _ _ _
   | exact ih1 _ _ _ _ _
   | exact rf01_Get.mono _ _ _
   | exact rf18_Unwrap.mono _ _ _
   | exact LeO.none _
   | refine LeO.ite ?_ ?_
   | refine LeO.bind ?_ (fun _ => ?_)
theorem rf18_Split.mono : ∀ a0 k, LeO (rf18_Split.f k a0) (rf18_Split.f (k + 1) a0) := by
 intro a0 k
 obtain ⟨ih0, ih1⟩ := rf18_Split.mono_l k
 unfold rf18_Split.f
 repeat' first
   | (with_reducible exact ih0 _ _ _ _)
   | (with_reducible exact ih1 _ _ _ _ _)
   | (with_reducible exact rf01_Get.mono _ _ _)
   | (with_reducible exact rf18_Unwrap.mono _ _ _)
   | (with_reducible exact LeO.refl _)
   | (with_reducible exact LeO.none _)
   | (with_reducible refine LeO.ite ?_ ?_)
   | (with_reducible refine LeO.bind ?_ (fun _ => ?_))
   | exact ih0 _ _ _ _
   | exact ih1 _ _ _ _ _
   | exact rf01_Get.mono _ _ _
   | exact rf18_Unwrap.mono _ _ _
   | exact LeO.none _
   | refine LeO.ite ?_ ?_
   | refine LeO.bind ?_ (fun _ => ?_)
set_option maxHeartbeats 8000000 in
set_option maxRecDepth 100000 in
theorem rf18_Split.calls (k : Nat) (A0 : Option Addr) (c0 : Nat) (l0 : List Int) (r1 : List (List Int)) (r2 : Int) (w : World) (hr0 : Kd.C (Kd.int .u8) w A0 l0.length l0) (hc0 : l0.length ≤ c0) (h : rf18_Split.f k l0 = some (r1, r2)) :
  Calls Tryz.prog 23 #[.slice A0 l0.length c0] w fun e w' => ∃ v0_ : Value, e = .returned (.tuple #[v0_, .int .i64 r2]) ∧ Kd.S (Kd.slice 5 (Kd.int .u8)) 26 w' w.heap.size (fun _ => True) v0_ r1 ∧ Below w.heap.size w w' := by
 have HR0 := Aside0.mk hr0
 have HC0 := Aside0.mk hc0
 clear hr0 hc0
 have HB := Aside0.mk (Below.refl w.heap.size w)
 have H : ((rf01_Get.f k l0 0).bind fun bt344 => (if bt344.2.2 = 0 then (rf18_Split.j0 k l0 bt344.1 bt344.2.1 (decide (bt344.1 > 50))) else (rf18_Split.j0 k l0 bt344.1 bt344.2.1 true))) = some (r1, r2) := h
 clear h
 replace H := Option.bind_eq_some_iff.mp H
 obtain ⟨⟨t344, t345, t346⟩, A20, H⟩ := H
 replace H : (if t346 = 0 then (rf18_Split.j0 k l0 t344 t345 (decide (t344 > 50))) else (rf18_Split.j0 k l0 t344 t345 true)) = some (r1, r2) := H
 have A2 := Aside0.mk A20
 clear A20
 have HC3 := Aside0.mk H
 clear H
 go_enter Tryz.func23, Tryz.ntmps23
 go_upto_region 2 with (first | ((with_reducible refine gate_callee (f := 48) rfl ?_); refine goesL_ (some 14) rfl rfl Tryz.func48 (by kernel_rfl) rfl #[.slice A0 l0.length c0, .int .i64 0] rfl (by (try simp only [List.map_toArray, List.map_cons, List.map_nil]); first | done | rfl | (simp only [List.length_drop, List.length_take]; rfl)) ?_; (with_reducible refine (rf01_Get.calls k _ _ l0 0 t344 t345 t346 _ ?side1 ?side2 A2.out).mono ?_); (case side1 => repeat (first | exact HR0.out | (with_reducible refine Kd.C_alloc ?_ _) | (with_reducible refine Kd.C_drewN ?_ _) | (with_reducible refine Kd.C_drew ?_))); (case side2 => exact HC0.out); rintro e w' ⟨rfl, ⟨nd, rfl⟩⟩; refine ⟨_, rfl, ?_⟩))
 (try simp only [Act.put, List.setIfInBounds_toArray, List.set_cons_zero, List.set_cons_succ])
 go_cut [23] (fun v23 wc => ∃ (kq : Nat) (x23_2 : Bool), v23 = .bool x23_2 ∧ Aside0 (rf18_Split.j0 kq l0 t344 t345 x23_2 = some (r1, r2)) ∧ Aside0 (kq ≤ k) ∧ Aside0 (Below w.heap.size w wc))
 case first =>
  have H := HC3.out
  clear HC3
  by_cases c4 : t346 = 0
  ·rw [if_pos c4] at H
   have c4b0 : (t346 == 0) = true := beq_iff_eq.mpr c4
   have c4b1 : (t346 != 0) = false := bne_eq_false_iff_eq.mpr c4
   clear c4
   (first | rw [c4b0] | (simp only [i64_w, i32_w]; rw [c4b0]) | skip)
   have H' := Aside0.mk H
   clear H
   go_wp2
   go_meet
   case rel => exact ⟨_, (decide (t344 > 50)), (by first | rfl | (simp; done) | (simp [*]; done)), H', ⟨by first | omega | exact Nat.le_refl _⟩, ⟨ bH HB⟩⟩
  ·rw [if_neg c4] at H
   have c4b0 : (t346 == 0) = false := beq_eq_false_iff_ne.mpr c4
   have c4b1 : (t346 != 0) = true := bne_iff_ne.mpr c4
   (first | rw [c4b0] | (simp only [i64_w, i32_w]; rw [c4b0]) | skip)
   have H' := Aside0.mk H
   clear H
   go_wp2
   go_meet
   case rel => exact ⟨_, (true), (by first | rfl | (simp; done) | (simp [*]; done)), H', ⟨by first | omega | exact Nat.le_refl _⟩, ⟨ bH HB⟩⟩
 case rest =>
  clear HC3
  try clear c2
  try clear p2
  try clear c4
  try clear c4b0
  try clear c4b1
  obtain ⟨kq, x23_2, rfl, HA, HJ2, HB⟩ := hcut
  cases kq with
  | zero => exact absurd HA.out (by simp [rf18_Split.j0])
  | succ kj2 =>
   have H := HA.out
   clear HA
   simp only [rf18_Split.j0] at H
   by_cases c5 : x23_2 = true
   ·subst c5
    have H1 : (some (([] : List (List Int)), 11)) = some (r1, r2) := by rw [if_pos rfl] at H; exact H
    clear H
    have H := H1
    clear H1
    simp only [Option.some.injEq, Prod.mk.injEq] at H
    obtain ⟨rfl, rfl⟩ := H
    go_wp2
    go_ret2
    exact ⟨_, by first | rfl | (simp [errW_none, errW_some] <;> rfl) | (simp [*, errW_none, errW_some] <;> rfl), by first | exact Kd.S_nil _ _ _ _ _ | exact Kd.N_nil _ _ _ _ _ | exact Kd.V_nil _ _ _ _ _ | exact Kd.Q_nil _ _ _ _ _ | exact Kd.R_nil _ _ _ _ _, bH HB⟩
   ·replace c5 := Bool.eq_false_iff.mpr c5
    subst c5
    have H1 : (rf18_Split.l0 kj2 l0 t344 t345 ([] : List (List Int)) 0) = some (r1, r2) := by rw [if_neg (show ¬ (false = true) by decide)] at H; exact H
    clear H
    have H := H1
    clear H1
    have H' := Aside0.mk H
    clear H
    go_wp2
    go_loopg [5, 7, 8] kj2 (fun kq v5 v7 v8 w' => ∃ (x5_2 : Int) (x7_2 : List (List Int)) (x8_2 : Int), v5 = .int .i64 x5_2 ∧ v8 = .int .i64 x8_2 ∧ Aside0 (rf18_Split.l0 kq l0 t344 x5_2 x7_2 x8_2 = some (r1, r2)) ∧ Aside0 (kq ≤ kj2) ∧ Aside0 (Kd.S (Kd.slice 5 (Kd.int .u8)) 26 w' w.heap.size (fun _ => True) v7 x7_2) ∧ Aside0 (Below w.heap.size w w'))
    case atStart => exact ⟨(t345), (([] : List (List Int))), (0), (by first | rfl | (simp; done) | (simp [*]; done)), (by first | rfl | (simp; done) | (simp [*]; done)), H', ⟨Nat.le_refl _⟩, ⟨by first | exact Kd.S_nil _ _ _ _ _ | exact Kd.N_nil _ _ _ _ _ | exact Kd.V_nil _ _ _ _ _ | exact Kd.Q_nil _ _ _ _ _ | exact Kd.R_nil _ _ _ _ _⟩, ⟨ bH HB⟩⟩
    case round =>
     clear H'
     try clear c2
     try clear p2
     try clear c4
     try clear c4b0
     try clear c4b1
     try clear c5
     try clear p2
     obtain ⟨x5_2, x7_2, x8_2, rfl, rfl, HA, HK2, HO_7, HB⟩ := hrel
     cases gk with
     | zero => exact absurd HA.out (by simp [rf18_Split.l0])
     | succ k2 =>
      have H := HA.out
      clear HA
      simp only [rf18_Split.l0] at H
      by_cases c6 : x8_2 < (wrap64 (t344))
      ·rw [if_pos c6] at H
       have c6b0 : decide (x8_2 < (wrap64 (t344))) = true := decide_eq_true c6
       clear c6
       replace H := Option.bind_eq_some_iff.mp H
       obtain ⟨⟨t347, t348, t349⟩, A70, H⟩ := H
       replace H : (if t349 = 0 then (if x7_2.length < 5864062014805 then (rf18_Split.l0 k2 l0 t344 t348 (x7_2 ++ [t347]) (wrap64 (x8_2 + 1))) else (none)) else (some (([] : List (List Int)), 11))) = some (r1, r2) := H
       have A7 := Aside0.mk A70
       clear A70
       have HC8 := Aside0.mk H
       clear H
       go_upto_if 38 with (first | ((with_reducible refine gate_callee (f := 21) rfl ?_); refine goesL_ (some 33) rfl rfl Tryz.func21 (by kernel_rfl) rfl #[.slice A0 l0.length c0, .int .i64 x5_2] rfl (by (try simp only [List.map_toArray, List.map_cons, List.map_nil]); first | done | rfl | (simp only [List.length_drop, List.length_take]; rfl)) ?_; (with_reducible refine (rf18_Unwrap.calls k2 _ _ l0 x5_2 t347 t348 t349 _ ?side1 ?side2 A7.out).mono ?_); (case side1 => repeat (first | exact (Kd.C_below HR0.out HB.out) | (with_reducible refine Kd.C_alloc ?_ _) | (with_reducible refine Kd.C_drewN ?_ _) | (with_reducible refine Kd.C_drew ?_))); (case side2 => exact HC0.out); rintro e w9 ⟨v350, rfl, ho0, hb⟩; refine ⟨_, rfl, ?_⟩; have n0_ := Aside0.mk (Kd.S_elder' (by (with_reducible repeat (first | apply Kd.S_alloc | apply Kd.S_drewN | apply Kd.S_drew)); exact HO_7.out) (Kd.R_base ho0) hb); have n1_ := Aside0.mk (Kd.R_lower ho0 (below_size (bH HB))); have n2_ := Aside0.mk (below_step (bH HB) hb); clear HO_7; clear HB; have HO_7 := n0_; have HO351 := n1_; have HB := n2_; clear n0_ n1_ n2_; (try clear hb); (try clear hb2); (try clear hk); (try clear hi); (try clear ho0)))
       (try simp only [Act.put, List.setIfInBounds_toArray, List.set_cons_zero, List.set_cons_succ])
       have H := HC8.out
       clear HC8
       by_cases c10 : t349 = 0
       ·rw [if_pos c10] at H
        have c10b0 : (t349 == 0) = true := beq_iff_eq.mpr c10
        have c10b1 : (t349 != 0) = false := bne_eq_false_iff_eq.mpr c10
        clear c10
        (first | rw [c10b0] | (simp only [i64_w, i32_w]; rw [c10b0]) | skip)
        by_cases c11 : x7_2.length < 5864062014805
        ·rw [if_pos c11] at H
         have LMc11 := Aside0.mk c11
         clear c11
         obtain ⟨y352, hy352⟩ : ∃ y_ : List (List Int), y_ = (x7_2 ++ [t347]) := ⟨_, rfl⟩
         replace H : (rf18_Split.l0 k2 l0 t344 t348 y352 (wrap64 (x8_2 + 1))) = some (r1, r2) := by first | (rw [hy352]; with_reducible exact H) | (have H2_ := (Option.bind_some _ _).symm.trans H; rw [hy352]; with_reducible exact H2_) | (have H2_ := (Option.bind_some _ _).symm.trans H; with_reducible exact H2_) | with_reducible exact H | (rw [hy352]; exact H) | exact H
         have Ny352 := Aside0.mk hy352
         clear hy352
         have H' := Aside0.mk H
         clear H
         obtain ⟨Ao13, co13, eo13⟩ := Kd.R_slice HO351.out
         subst eo13
         go_wp2_with (first | ((with_reducible refine gate_builtin (b := .append) (xs := #[.tmp 39, .tmp 41]) rfl ?_); at_builtin; refine Kd.S_append (Kd.slice 5 (Kd.int .u8)) (w0 := w) w.heap.size rfl (.tmp 39) (.tmp 41) 41 26 (.slice none 0 0) 24 rfl Tryz.underlying41 info26 rfl (by decide) (by omega) u7 x7_2 t347 [.slice Ao13 t347.length co13] (fun _ => True) (fun k_ => some k_ = (.slice Ao13 t347.length co13 : Value).ownBlock) rfl rfl ?aP (fun k_ hk_ => ((Kd.R_mono (ok' := fun k_ => ((fun _ => True)) k_ ∧ some k_ ≠ (u7 : Value).ownBlock) (Kd.R_apart' (HO351.out) (Kd.S_typed HO_7.out) (by decide)) (fun k_ hk => ⟨trivial, hk.2⟩))).1 k_ hk_.symm) ?aF ?aO ?aB ?aS ?aL ?_; (case aP => exact Kd.M_row (Kd.R_mono (Kd.R_tight rfl (Kd.R_mono (ok' := fun k_ => ((fun _ => True)) k_ ∧ some k_ ≠ (u7 : Value).ownBlock) (Kd.R_apart' (HO351.out) (Kd.S_typed HO_7.out) (by decide)) (fun k_ hk => ⟨trivial, hk.2⟩))) (fun _ h_ => h_))); (case aB => exact (bH HB)); (case aF => exact (fun _ _ => trivial)); (case aO => exact (by (with_reducible repeat (first | apply Kd.S_alloc | apply Kd.S_drewN | apply Kd.S_drew)); exact Kd.S_mono HO_7.out (fun k_ hk => ⟨trivial, fun e_ => hk.2 e_⟩))); (case aS => exact (below_size (bH HB))); (case aL => have := LMc11.out; omega); intro v353 w12 ho hb hg hat; rw [← Ny352.out] at ho; have n0_ := Aside0.mk (hb); have n1_ := Aside0.mk (ho); clear HB; clear HO_7; clear HO351; have HB := n0_; have HO354 := n1_; clear n0_ n1_; clear ho hb hg hat))
         go_roundg k2
         case measure => have := HJ2.out; have := HK2.out; omega
         case rel => exact ⟨(t348), (y352), (wrap64 (x8_2 + 1)), (by first | rfl | (simp; done) | (simp [*]; done)), (by first | rfl | (simp; done) | (simp [*]; done)), H', ⟨by have := HJ2.out; have := HK2.out; omega⟩, ⟨by (with_reducible repeat (first | apply Kd.S_alloc | apply Kd.S_drewN | apply Kd.S_drew)); exact HO354.out⟩, ⟨ bH HB⟩⟩
        ·rw [if_neg c11] at H
         exact absurd H (by simp)
       ·rw [if_neg c10] at H
        have c10b0 : (t349 == 0) = false := beq_eq_false_iff_ne.mpr c10
        have c10b1 : (t349 != 0) = true := bne_iff_ne.mpr c10
        (first | rw [c10b0] | (simp only [i64_w, i32_w]; rw [c10b0]) | skip)
        simp only [Option.some.injEq, Prod.mk.injEq] at H
        obtain ⟨rfl, rfl⟩ := H
        go_wp2
        go_ret2
        exact ⟨_, by first | rfl | (simp [errW_none, errW_some] <;> rfl) | (simp [*, errW_none, errW_some] <;> rfl), by first | exact Kd.S_nil _ _ _ _ _ | exact Kd.N_nil _ _ _ _ _ | exact Kd.V_nil _ _ _ _ _ | exact Kd.Q_nil _ _ _ _ _ | exact Kd.R_nil _ _ _ _ _, bH HB⟩
      ·rw [if_neg c6] at H
       have c6b0 : decide (x8_2 < (wrap64 (t344))) = false := decide_eq_false c6
       clear c6
       by_cases c14 : x5_2 = (l0.length : Int)
       ·rw [if_pos c14] at H
        have c14b0 : (x5_2 == (l0.length : Int)) = true := beq_iff_eq.mpr c14
        have c14b1 : (x5_2 != (l0.length : Int)) = false := bne_eq_false_iff_eq.mpr c14
        clear c14
        simp only [Option.some.injEq, Prod.mk.injEq] at H
        obtain ⟨rfl, rfl⟩ := H
        go_wp2
        go_ret2
        exact ⟨_, by first | rfl | (simp [errW_none, errW_some] <;> rfl) | (simp [*, errW_none, errW_some] <;> rfl), by (with_reducible repeat (first | apply Kd.S_alloc | apply Kd.S_drewN | apply Kd.S_drew)); exact HO_7.out, bH HB⟩
       ·rw [if_neg c14] at H
        have c14b0 : (x5_2 == (l0.length : Int)) = false := beq_eq_false_iff_ne.mpr c14
        have c14b1 : (x5_2 != (l0.length : Int)) = true := bne_iff_ne.mpr c14
        simp only [Option.some.injEq, Prod.mk.injEq] at H
        obtain ⟨rfl, rfl⟩ := H
        go_wp2
        go_ret2
        exact ⟨_, by first | rfl | (simp [errW_none, errW_some] <;> rfl) | (simp [*, errW_none, errW_some] <;> rfl), by first | exact Kd.S_nil _ _ _ _ _ | exact Kd.N_nil _ _ _ _ _ | exact Kd.V_nil _ _ _ _ _ | exact Kd.Q_nil _ _ _ _ _ | exact Kd.R_nil _ _ _ _ _, bH HB⟩
end Go.Proofs.YtbdbobjdlomjnaaGreatDoor.P

namespace Go.Proofs.YtbdbobjdlomjnaaGreatDoor.Ec
set_option linter.unusedVariables false
set_option linter.unusedSimpArgs false
open Go Go.RowKit Go.Proofs.YtbdbobjdlomjnaaGreatDoor.P Go.Proofs.YtbdbobjdlomjnaaGreatDoor.X Go.Proofs.YtbdbobjdlomjnaaGreatDoor.Fv Go.Proofs.YtbdbobjdlomjnaaGreatDoorW.PrintWords Go.Proofs.YtbdbobjdlomjnaaGreatDoorW.PrintLast Go.Proofs.YtbdbobjdlomjnaaGreatDoorW.PrintMore
set_option maxHeartbeats 8000000
set_option maxRecDepth 100000
theorem drop_same {α : Type} (l m : List α) (i : Nat) (h1 : i < l.length) (h2 : i < m.length) : (l.drop i = m.drop i) ↔ (l[i] = m[i] ∧ l.drop (i + 1) = m.drop (i + 1)) := by
 rw [List.drop_eq_getElem_cons h1, List.drop_eq_getElem_cons h2]
 exact ⟨fun h => by injection h with a b; exact ⟨a, b⟩, fun h => by rw [h.1, h.2]⟩
theorem samelists_calls (w : World) (A B : Option Addr) (c d : Nat) (l m : List (List Int)) (hl : ∀ x ∈ l, Dg x) (hm : ∀ x ∈ m, Dg x) (hn : l.length ≤ 1099511627776) (hA : Kd.C (Kd.slice 5 (Kd.int .u8)) w A l.length l) (hB : Kd.C (Kd.slice 5 (Kd.int .u8)) w B m.length m) :
  Calls Tryz.prog 54 #[.slice A l.length c, .slice B m.length d] w fun e w' => e = .returned (.bool (decide (l = m))) ∧ Below w.heap.size w w' := by
 by_cases hne : l.length = m.length
 ·have hb0 : ((l.length : Int) != (m.length : Int)) = false := by rw [hne]; simp
  have he0 : decide (l = m) = decide (l.drop 0 = m.drop 0) := by simp
  rw [he0]
  have HNE := Aside0.mk hne
  clear he0 hne
  go_enter Tryz.func54, Tryz.ntmps54
  go_wp2
  go_loopw [5] (fun v wr => ∃ i : Nat, i ≤ l.length ∧ v = .int .i64 i ∧ Aside0 ((l.drop 0 = m.drop 0) ↔ (l.drop i = m.drop i)) ∧ Below w.heap.size w wr) (fun v _ => l.length - (intV v).toNat)
  case atStart => exact ⟨0, by omega, rfl, ⟨Iff.rfl⟩, Below.refl _ w⟩
  case round =>
   obtain ⟨i, hi, rfl, HI, hBr⟩ := hrel
   rcases Nat.lt_or_ge i l.length with hlt | hge
   ·have hii : (i : Int) < (l.length : Int) := by omega
    have him : i < m.length := by have := HNE.out; omega
    have hij : (i : Int) < (m.length : Int) := by omega
    obtain ⟨ad, Ax, cx, eA, y0, hcx, hCx⟩ := at_L3 (Kd.C_below hA hBr) (i : Int) (by omega) hii
    subst eA
    obtain ⟨bd, Bx, dx, eB, y1, hdx, hCy⟩ := at_L3 (Kd.C_below hB hBr) (i : Int) (by omega) hij
    subst eB
    rw [rd4_at l i hlt] at y0 hcx hCx
    rw [rd4_at m i him] at y1 hdx hCy
    rw [Int.toNat_natCast] at y0 y1
    have HF := Aside0.mk (drop_same l m i hlt him)
    have hdl := hl _ (List.getElem_mem hlt)
    have hdm := hm _ (List.getElem_mem him)
    generalize l[i] = x at *
    generalize m[i] = y at *
    have hc1 := fun (W : World) (hb : Below wr.heap.size wr W) => Kd.C_string (P := Tryz.prog) (A := Ax) (c := cx) Tryz.underlying26 Tryz.underlying5 Tryz.underlying9 (Kd.C_below hCx hb)
    have hc2 := fun (W : World) (hb : Below wr.heap.size wr W) => Kd.C_string (P := Tryz.prog) (A := Bx) (c := dx) Tryz.underlying26 Tryz.underlying5 Tryz.underlying9 (Kd.C_below hCy hb)
    go_upto_region 6 with (fail)
--REGION6
    refine start_ (n := 11) (S := fun w' => w'.cell? (ad.add i) = some (.slice Ax x.length cx) ∧ w'.cell? (bd.add i) = some (.slice Bx y.length dx) ∧ Sem.run Tryz.prog (convert 26 9 (.slice Ax x.length cx)) w' = .ok (.string (strOfNums x)) w' ∧ Sem.run Tryz.prog (convert 26 9 (.slice Bx y.length dx)) w' = .ok (.string (strOfNums y)) w') (ds := []) #[false, false, false, false, false, false, false, false, false, false, false] (by kernel_rfl) rfl rfl ⟨y0, y1, (hc1 _ (below_drew (Below.refl _ wr))), (hc2 _ (below_drew (Below.refl _ wr)))⟩ (fun hHeld => ?_)
    refine pure_ (i := 0) (N := some 17) (v := ?_) (a' := ?_) #[true, false, false, false, false, false, false, false, false, false, false] rfl rfl (by kernel_rfl) (fun _ _ _ h => h) (Or.inl ⟨by rfl, ?_⟩) ?_ ?_
    rotate_left
    ·intro w'
     go_simp
     with_reducible rfl
    rotate_left
    ·simp only [Act.put, List.setIfInBounds_toArray, List.set_cons_zero, List.set_cons_succ, i64_w, i32_w]
     rfl
    refine pure_ (i := 1) (N := some 18) (v := ?_) (a' := ?_) #[true, true, false, false, false, false, false, false, false, false, false] rfl rfl (by kernel_rfl) (fun _ _ _ h => h) (Or.inl ⟨by rfl, ?_⟩) ?_ ?_
    rotate_left
    ·intro w'
     go_simp
     with_reducible rfl
    rotate_left
    ·simp only [Act.put, List.setIfInBounds_toArray, List.set_cons_zero, List.set_cons_succ, i64_w, i32_w]
     rfl
    refine pure_ (i := 2) (N := some 19) (v := ?_) (a' := ?_) #[true, true, true, false, false, false, false, false, false, false, false] rfl rfl (by kernel_rfl) (fun _ _ _ h => h) (Or.inl ⟨by rfl, ?_⟩) ?_ ?_
    rotate_left
    ·intro w'
     go_simp
     with_reducible rfl
    rotate_left
    ·simp only [Act.put, List.setIfInBounds_toArray, List.set_cons_zero, List.set_cons_succ, i64_w, i32_w]
     rfl
    refine pure_ (i := 5) (N := some 22) (v := ?_) (a' := ?_) #[true, true, true, false, false, true, false, false, false, false, false] rfl rfl (by kernel_rfl) (fun _ _ _ h => h) (Or.inl ⟨by rfl, ?_⟩) ?_ ?_
    rotate_left
    ·intro w'
     go_simp
     with_reducible rfl
    rotate_left
    ·simp only [Act.put, List.setIfInBounds_toArray, List.set_cons_zero, List.set_cons_succ, i64_w, i32_w]
     rfl
    refine pure_ (i := 6) (N := some 23) (v := ?_) (a' := ?_) #[true, true, true, false, false, true, true, false, false, false, false] rfl rfl (by kernel_rfl) (fun _ _ _ h => h) (Or.inl ⟨by rfl, ?_⟩) ?_ ?_
    rotate_left
    ·intro w'
     go_simp
     with_reducible rfl
    rotate_left
    ·simp only [Act.put, List.setIfInBounds_toArray, List.set_cons_zero, List.set_cons_succ, i64_w, i32_w]
     rfl
    refine pure_ (i := 7) (N := some 24) (v := ?_) (a' := ?_) #[true, true, true, false, false, true, true, true, false, false, false] rfl rfl (by kernel_rfl) (fun _ _ _ h => h) (Or.inl ⟨by rfl, ?_⟩) ?_ ?_
    rotate_left
    ·intro w'
     go_simp
     with_reducible rfl
    rotate_left
    ·simp only [Act.put, List.setIfInBounds_toArray, List.set_cons_zero, List.set_cons_succ, i64_w, i32_w]
     rfl
    refine take_ (i := 3) (N := some 20) (v := ?_) (a' := ?_) #[true, true, true, true, false, true, true, true, false, false, false] rfl rfl (by kernel_rfl) (fun _ _ _ h => h) (Or.inl ⟨by rfl, ?_⟩) hHeld ?_ ?_
    rotate_left
    ·rintro w' ⟨s0, s1, s2, s3⟩
     go_simp
     with_reducible rfl
    rotate_left
    ·simp only [Act.put, List.setIfInBounds_toArray, List.set_cons_zero, List.set_cons_succ, i64_w, i32_w]
     rfl
    refine take_ (i := 4) (N := some 21) (v := ?_) (a' := ?_) #[true, true, true, true, true, true, true, true, false, false, false] rfl rfl (by kernel_rfl) (fun _ _ _ h => h) (Or.inl ⟨by rfl, ?_⟩) hHeld ?_ ?_
    rotate_left
    ·rintro w' ⟨s0, s1, s2, s3⟩
     go_simp
     with_reducible rfl
    rotate_left
    ·simp only [Act.put, List.setIfInBounds_toArray, List.set_cons_zero, List.set_cons_succ, i64_w, i32_w]
     rfl
    refine take_ (i := 8) (N := some 25) (v := ?_) (a' := ?_) #[true, true, true, true, true, true, true, true, true, false, false] rfl rfl (by kernel_rfl) (fun _ _ _ h => h) (Or.inl ⟨by rfl, ?_⟩) hHeld ?_ ?_
    rotate_left
    ·rintro w' ⟨s0, s1, s2, s3⟩
     go_simp
     with_reducible rfl
    rotate_left
    ·simp only [Act.put, List.setIfInBounds_toArray, List.set_cons_zero, List.set_cons_succ, i64_w, i32_w]
     rfl
    refine take_ (i := 9) (N := some 26) (v := ?_) (a' := ?_) #[true, true, true, true, true, true, true, true, true, true, false] rfl rfl (by kernel_rfl) (fun _ _ _ h => h) (Or.inl ⟨by rfl, ?_⟩) hHeld ?_ ?_
    rotate_left
    ·rintro w' ⟨s0, s1, s2, s3⟩
     go_simp
     with_reducible rfl
    rotate_left
    ·simp only [Act.put, List.setIfInBounds_toArray, List.set_cons_zero, List.set_cons_succ, i64_w, i32_w]
     rfl
    refine pure_ (i := 10) (N := some 27) (v := ?_) (a' := ?_) #[true, true, true, true, true, true, true, true, true, true, true] rfl rfl (by kernel_rfl) (fun _ _ _ h => h) (Or.inl ⟨by rfl, ?_⟩) ?_ ?_
    rotate_left
    ·intro w'
     go_simp
     with_reducible rfl
    rotate_left
    ·simp only [Act.put, List.setIfInBounds_toArray, List.set_cons_zero, List.set_cons_succ, i64_w, i32_w]
     rfl
    refine done_ (by kernel_rfl) ?_
    
    --END6
    clear hc1 hc2 hHeld y0 y1
    have hb2 : Below w.heap.size w wr.drew := below_drew hBr
    generalize wr.drew = w2 at hb2 ⊢
    go_wp2
    ·have hs : (!(strOfNums x).toList == (strOfNums y).toList) = true := by assumption
     have hxy : ¬ x = y := fun e => by rw [e] at hs; simp at hs
     have hfin : decide (l.drop 0 = m.drop 0) = false := decide_eq_false (fun h => hxy ((HF.out.1 (HI.out.1 h)).1))
     have HFI := Aside0.mk hfin
     clear hxy hfin
     go_ret
     rw [HFI.out]
     exact ⟨rfl, hb2⟩
    ·have hs : (!(strOfNums x).toList == (strOfNums y).toList) = false := by assumption
     have hxy : x = y := by
      have h1 : (strOfNums x).toList = (strOfNums y).toList := by simpa using hs
      rw [C.toList_map, C.toList_map] at h1
      exact C.same_list _ _ hdl hdm h1
     have HXY := Aside0.mk hxy
     clear hxy
     go_roundw
     case rel => exact ⟨i + 1, by omega, rfl, ⟨HI.out.trans (HF.out.trans ⟨fun h => h.2, fun h => ⟨HXY.out, h⟩⟩)⟩, hb2⟩
     case measure => simp [intV]; omega
   ·obtain rfl : i = l.length := by omega
    go_wp2
    go_ret
    refine ⟨?_, hBr⟩
    rw [decide_eq_true (HI.out.2 (by rw [List.drop_of_length_le (Nat.le_refl _), List.drop_of_length_le (by have := HNE.out; omega)]))]
    rfl
 ·have hb0 : ((l.length : Int) != (m.length : Int)) = true := bne_iff_ne.2 (by omega)
  rw [decide_eq_false (fun h => hne (by rw [h]))]
  go_enter Tryz.func54, Tryz.ntmps54
  go_wp2
  go_ret
  exact ⟨rfl, Below.refl _ w⟩
end Go.Proofs.YtbdbobjdlomjnaaGreatDoor.Ec

namespace Go.Proofs.YtbdbobjdlomjnaaGreatDoor.P
open Go.RowKit Go.Proofs.YtbdbobjdlomjnaaGreatDoorW.PrintWords Go.Proofs.YtbdbobjdlomjnaaGreatDoorW.PrintLast Go.Proofs.YtbdbobjdlomjnaaGreatDoorW.PrintMore Go.Proofs.YtbdbobjdlomjnaaGreatDoor.X
attribute [local go_sem] max2_int min2_int max_two min_two max_three min_three max_four min_four add64_0 add64_1 add64
set_option linter.unusedVariables false
set_option linter.unusedSimpArgs false
def rf00_SameLists.f (l0 : List (List Int)) (l1 : List (List Int)) : Option (Bool) := if (∀ x ∈ l0, ∀ y ∈ x, 0 ≤ y ∧ y ≤ 255) ∧ (∀ x ∈ l1, ∀ y ∈ x, 0 ≤ y ∧ y ≤ 255) ∧ l0.length ≤ 1099511627776 then (some (decide (l0 = l1))) else (none)
set_option maxHeartbeats 8000000 in
set_option maxRecDepth 100000 in
theorem rf00_SameLists.calls (A0 : Option Addr) (c0 : Nat) (l0 : List (List Int)) (A1 : Option Addr) (c1 : Nat) (l1 : List (List Int)) (r : Bool) (w : World) (hr0 : Kd.C (Kd.slice 5 (Kd.int .u8)) w A0 l0.length l0) (hc0 : l0.length ≤ c0) (hr1 : Kd.C (Kd.slice 5 (Kd.int .u8)) w A1 l1.length l1) (hc1 : l1.length ≤ c1) (h : rf00_SameLists.f l0 l1 = some r) :
  Calls Tryz.prog 54 #[.slice A0 l0.length c0, .slice A1 l1.length c1] w fun e w' => e = .returned (.bool r) ∧ Below w.heap.size w w' := by
 unfold rf00_SameLists.f at h
 by_cases hl : (∀ x ∈ l0, ∀ y ∈ x, 0 ≤ y ∧ y ≤ 255) ∧ (∀ x ∈ l1, ∀ y ∈ x, 0 ≤ y ∧ y ≤ 255) ∧ l0.length ≤ 1099511627776
 ·rw [if_pos hl] at h
  obtain rfl := Option.some.inj h
  exact Ec.samelists_calls w A0 A1 c0 c1 l0 l1 hl.1 hl.2.1 hl.2.2 hr0 hr1
 ·rw [if_neg hl] at h; cases h

def rf18_Same.f (l0 : List (List Int)) (l1 : List (List Int)) : Option (Bool) := (rf00_SameLists.f l0 l1).bind fun t355 => (some t355)
set_option maxHeartbeats 8000000 in
set_option maxRecDepth 100000 in
theorem rf18_Same.calls (A0 : Option Addr) (c0 : Nat) (l0 : List (List Int)) (A1 : Option Addr) (c1 : Nat) (l1 : List (List Int)) (r : Bool) (w : World) (hr0 : Kd.C (Kd.slice 5 (Kd.int .u8)) w A0 l0.length l0) (hc0 : l0.length ≤ c0) (hr1 : Kd.C (Kd.slice 5 (Kd.int .u8)) w A1 l1.length l1) (hc1 : l1.length ≤ c1) (h : rf18_Same.f l0 l1 = some r) :
  Calls Tryz.prog 24 #[.slice A0 l0.length c0, .slice A1 l1.length c1] w fun e w' => e = .returned (.bool r) ∧ Below w.heap.size w w' := by
 have HR0 := Aside0.mk hr0
 have HC0 := Aside0.mk hc0
 clear hr0 hc0
 have HR1 := Aside0.mk hr1
 have HC1 := Aside0.mk hc1
 clear hr1 hc1
 have HB := Aside0.mk (Below.refl w.heap.size w)
 have H : ((rf00_SameLists.f l0 l1).bind fun t355 => (some t355)) = some r := h
 clear h
 replace H := Option.bind_eq_some_iff.mp H
 obtain ⟨t355, A30, H⟩ := H
 replace H : (some t355) = some r := H
 have A3 := Aside0.mk A30
 clear A30
 obtain rfl := Option.some.inj H
 go_enter Tryz.func24, Tryz.ntmps24
 go_wp2_with (first | ((with_reducible refine gate_callee (f := 54) rfl ?_); refine goesL_ (some 7) rfl rfl Tryz.func54 (by kernel_rfl) rfl #[.slice A0 l0.length c0, .slice A1 l1.length c1] rfl (by (try simp only [List.map_toArray, List.map_cons, List.map_nil]); first | done | rfl | (simp only [List.length_drop, List.length_take]; rfl)) ?_; (with_reducible refine (rf00_SameLists.calls _ _ l0 _ _ l1 t355 _ ?side1 ?side2 ?side3 ?side4 A3.out).mono ?_); (case side1 => repeat (first | exact HR0.out | (with_reducible refine Kd.C_alloc ?_ _) | (with_reducible refine Kd.C_drewN ?_ _) | (with_reducible refine Kd.C_drew ?_))); (case side2 => exact HC0.out); (case side3 => repeat (first | exact HR1.out | (with_reducible refine Kd.C_alloc ?_ _) | (with_reducible refine Kd.C_drewN ?_ _) | (with_reducible refine Kd.C_drew ?_))); (case side4 => exact HC1.out); rintro e w4 ⟨rfl, hb⟩; refine ⟨_, rfl, ?_⟩; have n0_ := Aside0.mk (below_step (bH HB) hb); clear HB; have HB := n0_; clear n0_; (try clear hb); (try clear hb2); (try clear hk); (try clear hi)))
 go_ret
 exact ⟨by first | rfl | (simp [errW_none, errW_some] <;> rfl) | (simp [*, errW_none, errW_some] <;> rfl), bH HB⟩
end Go.Proofs.YtbdbobjdlomjnaaGreatDoor.P
