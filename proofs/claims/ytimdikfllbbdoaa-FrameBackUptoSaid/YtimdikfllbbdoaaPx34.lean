/- Written for this claim by a program of this session (a turned copy of the print): Go functions as Lean functions, and that the Go code comes to just these answers; or a statement proved out of them. No condition. -/
import Derived.Test.YtimdikfllbbdoaaPx0
import Derived.Test.YtimdikfllbbdoaaPx1
import Derived.Test.YtimdikfllbbdoaaPx12
import Derived.Test.YtimdikfllbbdoaaPx13
import Derived.Test.YtimdikfllbbdoaaPx18
import Derived.Test.YtimdikfllbbdoaaPx19
import Derived.Test.YtimdikfllbbdoaaPx21
import Derived.Test.YtimdikfllbbdoaaPx32
namespace Go.Proofs.Ytimdikfllbbdoaa.P
open Go.RowKit Go.Proofs.YtimdikfllbbdoaaW.PrintWords Go.Proofs.YtimdikfllbbdoaaW.PrintLast Go.Proofs.YtimdikfllbbdoaaW.PrintMore Go.Proofs.Ytimdikfllbbdoaa.X
attribute [local go_sem] max2_int min2_int max_two min_two max_three min_three max_four min_four   -- for this text's walks alone
set_option linter.unusedVariables false
set_option linter.unusedSimpArgs false

/-! ### lapidarylaw03_FrameBack: function 5 -/
mutual
def lapidarylaw03_FrameBack.j0 : Nat → List (S33) → List Int → Int → Int → Bool → Option (Bool)
 | 0, _, _, _, _, _ => none
 | k + 1, x0, x1, x2, x3, x28 => if x28 = true then ((lapidarylaw03_known.f k).bind fun t394 => (some t394)) else ((frame_Encode.f k x0).bind fun bt395 => (if bt395.2 = 0 then (if (bt395.1.length : Int) = 0 then (none) else ((frame_Decode.f k bt395.1).bind fun bt399 => (if 0 ≤ (Int.tmod (wrap64 (x2)) (bt395.1.length : Int)) then (if (Int.tmod (wrap64 (x2)) (bt395.1.length : Int)) ≤ (bt395.1.length : Int) then ((frame_Decode.f k (bt395.1.take ((Int.tmod (wrap64 (x2)) (bt395.1.length : Int)) : Int).toNat)).bind fun bt407 => ((lapidaryref00_Copy.f bt395.1).bind fun t411 => (if t411.length < 140737488355328 then ((frame_Decode.f k (t411 ++ [x3])).bind fun bt417 => (if bt399.2 = 0 then ((lapidaryref03_Same.f k bt399.1 x0).bind fun t421 => (if t421 = true then (if bt407.2 = 10 then (if bt417.2 = 11 then (lapidarylaw03_FrameBack.j1 k x1) else (none)) else (none)) else (none))) else (none))) else (none)))) else (none)) else (none)))) else (lapidarylaw03_FrameBack.j1 k x1)))
def lapidarylaw03_FrameBack.j1 : Nat → List Int → Option (Bool)
 | 0, _ => none
 | k + 1, x1 => (frame_Decode.f k x1).bind fun bt422 => (if bt422.2 = 0 then ((frame_Encode.f k bt422.1).bind fun bt426 => (if bt426.2 = 0 then ((lapidaryref00_Same.f bt426.1 x1).bind fun t430 => (if t430 = true then ((lapidarylaw03_known.f k).bind fun t431 => (some t431)) else (none))) else (none))) else (if (bt422.1.length : Int) = 0 then ((lapidarylaw03_known.f k).bind fun t432 => (some t432)) else (none)))
end
def lapidarylaw03_FrameBack.f (k : Nat) (l0 : List (S33)) (l1 : List Int) (a2 : Int) (a3 : Int) : Option (Bool) := (lapidarylaw03_long.f k l0).bind fun t393 => (if t393 = true then (lapidarylaw03_FrameBack.j0 k l0 l1 a2 a3 true) else (lapidarylaw03_FrameBack.j0 k l0 l1 a2 a3 (decide ((l1.length : Int) > 1200))))
theorem lapidarylaw03_FrameBack.mono_l : ∀ k, (∀ y0 y1 y2 y3 y4, LeO (lapidarylaw03_FrameBack.j0 k y0 y1 y2 y3 y4) (lapidarylaw03_FrameBack.j0 (k + 1) y0 y1 y2 y3 y4)) ∧ (∀ y0, LeO (lapidarylaw03_FrameBack.j1 k y0) (lapidarylaw03_FrameBack.j1 (k + 1) y0))
 | 0 => ⟨fun _ _ _ _ _ r h => by simp [lapidarylaw03_FrameBack.j0] at h, fun _ r h => by simp [lapidarylaw03_FrameBack.j1] at h⟩
 | k + 1 => by
  obtain ⟨ih0, ih1⟩ := lapidarylaw03_FrameBack.mono_l k
  refine ⟨?_, ?_⟩
  ·intro y0 y1 y2 y3 y4
   unfold lapidarylaw03_FrameBack.j0
   repeat' first
   | (with_reducible exact ih0 _ _ _ _ _)
   | (with_reducible exact ih1 _)
   | (with_reducible exact frame_Decode.mono _ _)
   | (with_reducible exact frame_Encode.mono _ _)
   | (with_reducible exact lapidarylaw03_known.mono _)
   | (with_reducible exact lapidarylaw03_long.mono _ _)
   | (with_reducible exact lapidaryref03_Same.mono _ _ _)
   | (with_reducible exact LeO.refl _)
   | (with_reducible exact LeO.none _)
   | (with_reducible refine LeO.ite ?_ ?_)
   | (with_reducible refine LeO.bind ?_ (fun _ => ?_))
   | exact ih0 _ _ _ _ _
   | exact ih1 _
   | exact frame_Decode.mono _ _
   | exact frame_Encode.mono _ _
   | exact lapidarylaw03_known.mono _
   | exact lapidarylaw03_long.mono _ _
   | exact lapidaryref03_Same.mono _ _ _
   | exact LeO.none _
   | refine LeO.ite ?_ ?_
   | refine LeO.bind ?_ (fun _ => ?_)
  ·intro y0
   unfold lapidarylaw03_FrameBack.j1
   repeat' first
   | (with_reducible exact ih0 _ _ _ _ _)
   | (with_reducible exact ih1 _)
   | (with_reducible exact frame_Decode.mono _ _)
   | (with_reducible exact frame_Encode.mono _ _)
   | (with_reducible exact lapidarylaw03_known.mono _)
   | (with_reducible exact lapidarylaw03_long.mono _ _)
   | (with_reducible exact lapidaryref03_Same.mono _ _ _)
   | (with_reducible exact LeO.refl _)
   | (with_reducible exact LeO.none _)
   | (with_reducible refine LeO.ite ?_ ?_)
   | (with_reducible refine LeO.bind ?_ (fun _ => ?_))
   | exact ih0 _ _ _ _ _
   | exact ih1 _
   | exact frame_Decode.mono _ _
   | exact frame_Encode.mono _ _
   | exact lapidarylaw03_known.mono _
   | exact lapidarylaw03_long.mono _ _
   | exact lapidaryref03_Same.mono _ _ _
   | exact LeO.none _
   | refine LeO.ite ?_ ?_
   | refine LeO.bind ?_ (fun _ => ?_)
theorem lapidarylaw03_FrameBack.mono : ∀ a0 a1 a2 a3 k, LeO (lapidarylaw03_FrameBack.f k a0 a1 a2 a3) (lapidarylaw03_FrameBack.f (k + 1) a0 a1 a2 a3) := by
 intro a0 a1 a2 a3 k
 obtain ⟨ih0, ih1⟩ := lapidarylaw03_FrameBack.mono_l k
 unfold lapidarylaw03_FrameBack.f
 repeat' first
   | (with_reducible exact ih0 _ _ _ _ _)
   | (with_reducible exact ih1 _)
   | (with_reducible exact frame_Decode.mono _ _)
   | (with_reducible exact frame_Encode.mono _ _)
   | (with_reducible exact lapidarylaw03_known.mono _)
   | (with_reducible exact lapidarylaw03_long.mono _ _)
   | (with_reducible exact lapidaryref03_Same.mono _ _ _)
   | (with_reducible exact LeO.refl _)
   | (with_reducible exact LeO.none _)
   | (with_reducible refine LeO.ite ?_ ?_)
   | (with_reducible refine LeO.bind ?_ (fun _ => ?_))
   | exact ih0 _ _ _ _ _
   | exact ih1 _
   | exact frame_Decode.mono _ _
   | exact frame_Encode.mono _ _
   | exact lapidarylaw03_known.mono _
   | exact lapidarylaw03_long.mono _ _
   | exact lapidaryref03_Same.mono _ _ _
   | exact LeO.none _
   | refine LeO.ite ?_ ?_
   | refine LeO.bind ?_ (fun _ => ?_)
set_option maxHeartbeats 8000000 in
set_option maxRecDepth 100000 in
theorem lapidarylaw03_FrameBack.calls (k : Nat) (A0 : Option Addr) (c0 : Nat) (l0 : List (S33)) (A1 : Option Addr) (c1 : Nat) (l1 : List Int) (a2 : Int) (a3 : Int) (r : Bool) (w : World) (hr0 : Kd.C k33 w A0 l0.length l0) (hc0 : l0.length ≤ c0) (hr1 : Kd.C (Kd.int .u8) w A1 l1.length l1) (hc1 : l1.length ≤ c1) (h : lapidarylaw03_FrameBack.f k l0 l1 a2 a3 = some r) :
  Calls Try.prog 5 #[.slice A0 l0.length c0, .slice A1 l1.length c1, .int .u16 a2, .int .u8 a3] w fun e w' => e = .returned (.bool r) ∧ Below w.heap.size w w' := by
 have HR0 := Aside0.mk hr0
 have HC0 := Aside0.mk hc0
 clear hr0 hc0
 have HR1 := Aside0.mk hr1
 have HC1 := Aside0.mk hc1
 clear hr1 hc1
 have HB := Aside0.mk (Below.refl w.heap.size w)
 have H : ((lapidarylaw03_long.f k l0).bind fun t393 => (if t393 = true then (lapidarylaw03_FrameBack.j0 k l0 l1 a2 a3 true) else (lapidarylaw03_FrameBack.j0 k l0 l1 a2 a3 (decide ((l1.length : Int) > 1200))))) = some r := h
 clear h
 have HC5 := Aside0.mk H
 clear H
 go_enter Try.func5, Try.ntmps5
 go_upto_region 1 with (fail)
 go_cut [28] (fun v28 wc => ∃ (kq : Nat) (x28_4 : Bool), v28 = .bool x28_4 ∧ Aside0 (lapidarylaw03_FrameBack.j0 kq l0 l1 a2 a3 x28_4 = some r) ∧ Aside0 (kq ≤ k) ∧ Aside0 (Below w.heap.size w wc))
 case first =>
  have H := HC5.out
  clear HC5
  replace H := Option.bind_eq_some_iff.mp H
  obtain ⟨t393, A60, H⟩ := H
  replace H : (if t393 = true then (lapidarylaw03_FrameBack.j0 k l0 l1 a2 a3 true) else (lapidarylaw03_FrameBack.j0 k l0 l1 a2 a3 (decide ((l1.length : Int) > 1200)))) = some r := H
  have A6 := Aside0.mk A60
  clear A60
  by_cases c7 : t393 = true
  ·subst c7
   have H1 : (lapidarylaw03_FrameBack.j0 k l0 l1 a2 a3 true) = some r := by rw [if_pos rfl] at H; exact H
   clear H
   have H := H1
   clear H1
   have H' := Aside0.mk H
   clear H
   go_wp2_with (first | ((with_reducible refine gate_callee (f := 8) rfl ?_); refine goesL_ (some 23) rfl rfl Try.func8 (by kernel_rfl) rfl #[.slice A0 l0.length c0] rfl (by (try simp only [List.map_toArray, List.map_cons, List.map_nil]); first | done | rfl | (simp only [List.length_drop, List.length_take]; rfl)) ?_; (with_reducible refine (lapidarylaw03_long.calls k _ _ l0 true _ ?side1 ?side2 A6.out).mono ?_); (case side1 => repeat (first | exact (Kd.C_below HR0.out HB.out) | (with_reducible refine Kd.C_alloc ?_ _) | (with_reducible refine Kd.C_drewN ?_ _) | (with_reducible refine Kd.C_drew ?_))); (case side2 => exact HC0.out); rintro e w' ⟨rfl, ⟨nd, rfl⟩⟩; refine ⟨_, rfl, ?_⟩))
   go_meet
   case rel => exact ⟨_, (true), (by first | rfl | (simp; done) | (simp [*]; done)), H', ⟨by first | omega | exact Nat.le_refl _⟩, ⟨ bH HB⟩⟩
  ·replace c7 := Bool.eq_false_iff.mpr c7
   subst c7
   have H1 : (lapidarylaw03_FrameBack.j0 k l0 l1 a2 a3 (decide ((l1.length : Int) > 1200))) = some r := by rw [if_neg (show ¬ (false = true) by decide)] at H; exact H
   clear H
   have H := H1
   clear H1
   have H' := Aside0.mk H
   clear H
   go_wp2_with (first | ((with_reducible refine gate_callee (f := 8) rfl ?_); refine goesL_ (some 23) rfl rfl Try.func8 (by kernel_rfl) rfl #[.slice A0 l0.length c0] rfl (by (try simp only [List.map_toArray, List.map_cons, List.map_nil]); first | done | rfl | (simp only [List.length_drop, List.length_take]; rfl)) ?_; (with_reducible refine (lapidarylaw03_long.calls k _ _ l0 false _ ?side1 ?side2 A6.out).mono ?_); (case side1 => repeat (first | exact (Kd.C_below HR0.out HB.out) | (with_reducible refine Kd.C_alloc ?_ _) | (with_reducible refine Kd.C_drewN ?_ _) | (with_reducible refine Kd.C_drew ?_))); (case side2 => exact HC0.out); rintro e w' ⟨rfl, ⟨nd, rfl⟩⟩; refine ⟨_, rfl, ?_⟩))
   go_meet
   case rel => exact ⟨_, (decide ((l1.length : Int) > 1200)), (by first | rfl | (simp; done) | (simp [*]; done)), H', ⟨by first | omega | exact Nat.le_refl _⟩, ⟨ bH HB⟩⟩
 case rest =>
  clear HC5
  try clear c1
  try clear p2
  try clear c5
  try clear c7
  obtain ⟨kq, x28_4, rfl, HA, HJ4, HB⟩ := hcut
  cases kq with
  | zero => exact absurd HA.out (by simp [lapidarylaw03_FrameBack.j0])
  | succ kj4 =>
   have H := HA.out
   clear HA
   simp only [lapidarylaw03_FrameBack.j0] at H
   by_cases c8 : x28_4 = true
   ·subst c8
    have H1 : ((lapidarylaw03_known.f kj4).bind fun t394 => (some t394)) = some r := by rw [if_pos rfl] at H; exact H
    clear H
    have H := H1
    clear H1
    replace H := Option.bind_eq_some_iff.mp H
    obtain ⟨t394, A90, H⟩ := H
    replace H : (some t394) = some r := H
    have A9 := Aside0.mk A90
    clear A90
    obtain rfl := Option.some.inj H
    go_wp2_with (first | ((with_reducible refine gate_callee (f := 9) rfl ?_); refine goesL_ (some 29) rfl rfl Try.func9 (by kernel_rfl) rfl #[] rfl (by (try simp only [List.map_toArray, List.map_cons, List.map_nil]); first | done | rfl | (simp only [List.length_drop, List.length_take]; rfl)) ?_; (with_reducible refine (lapidarylaw03_known.calls kj4  t394 _ A9.out).mono ?_); rintro e w10 ⟨rfl, hb⟩; refine ⟨_, rfl, ?_⟩; have n0_ := Aside0.mk (below_step (bH HB) hb); clear HB; have HB := n0_; clear n0_; (try clear hb); (try clear hb2); (try clear hk); (try clear hi)))
    go_ret
    exact ⟨by first | rfl | (simp [errW_none, errW_some] <;> rfl) | (simp [*, errW_none, errW_some] <;> rfl), bH HB⟩
   ·replace c8 := Bool.eq_false_iff.mpr c8
    subst c8
    have H1 : ((frame_Encode.f kj4 l0).bind fun bt395 => (if bt395.2 = 0 then (if (bt395.1.length : Int) = 0 then (none) else ((frame_Decode.f kj4 bt395.1).bind fun bt399 => (if 0 ≤ (Int.tmod (wrap64 (a2)) (bt395.1.length : Int)) then (if (Int.tmod (wrap64 (a2)) (bt395.1.length : Int)) ≤ (bt395.1.length : Int) then ((frame_Decode.f kj4 (bt395.1.take ((Int.tmod (wrap64 (a2)) (bt395.1.length : Int)) : Int).toNat)).bind fun bt407 => ((lapidaryref00_Copy.f bt395.1).bind fun t411 => (if t411.length < 140737488355328 then ((frame_Decode.f kj4 (t411 ++ [a3])).bind fun bt417 => (if bt399.2 = 0 then ((lapidaryref03_Same.f kj4 bt399.1 l0).bind fun t421 => (if t421 = true then (if bt407.2 = 10 then (if bt417.2 = 11 then (lapidarylaw03_FrameBack.j1 kj4 l1) else (none)) else (none)) else (none))) else (none))) else (none)))) else (none)) else (none)))) else (lapidarylaw03_FrameBack.j1 kj4 l1))) = some r := by rw [if_neg (show ¬ (false = true) by decide)] at H; exact H
    clear H
    have H := H1
    clear H1
    replace H := Option.bind_eq_some_iff.mp H
    obtain ⟨⟨t395, t396⟩, A110, H⟩ := H
    replace H : (if t396 = 0 then (if (t395.length : Int) = 0 then (none) else ((frame_Decode.f kj4 t395).bind fun bt399 => (if 0 ≤ (Int.tmod (wrap64 (a2)) (t395.length : Int)) then (if (Int.tmod (wrap64 (a2)) (t395.length : Int)) ≤ (t395.length : Int) then ((frame_Decode.f kj4 (t395.take ((Int.tmod (wrap64 (a2)) (t395.length : Int)) : Int).toNat)).bind fun bt407 => ((lapidaryref00_Copy.f t395).bind fun t411 => (if t411.length < 140737488355328 then ((frame_Decode.f kj4 (t411 ++ [a3])).bind fun bt417 => (if bt399.2 = 0 then ((lapidaryref03_Same.f kj4 bt399.1 l0).bind fun t421 => (if t421 = true then (if bt407.2 = 10 then (if bt417.2 = 11 then (lapidarylaw03_FrameBack.j1 kj4 l1) else (none)) else (none)) else (none))) else (none))) else (none)))) else (none)) else (none)))) else (lapidarylaw03_FrameBack.j1 kj4 l1)) = some r := H
    have A11 := Aside0.mk A110
    clear A110
    have HC12 := Aside0.mk H
    clear H
    go_upto_if 36 with (first | ((with_reducible refine gate_callee (f := 10) rfl ?_); refine goesL_ (some 32) rfl rfl Try.func10 (by kernel_rfl) rfl #[.slice A0 l0.length c0] rfl (by (try simp only [List.map_toArray, List.map_cons, List.map_nil]); first | done | rfl | (simp only [List.length_drop, List.length_take]; rfl)) ?_; (with_reducible refine (frame_Encode.calls kj4 _ _ l0 t395 t396 _ ?side1 ?side2 A11.out).mono ?_); (case side1 => repeat (first | exact (Kd.C_below HR0.out HB.out) | (with_reducible refine Kd.C_alloc ?_ _) | (with_reducible refine Kd.C_drewN ?_ _) | (with_reducible refine Kd.C_drew ?_))); (case side2 => exact HC0.out); rintro e w13 ⟨v397, rfl, ho0, hb⟩; refine ⟨_, rfl, ?_⟩; have n0_ := Aside0.mk (Kd.R_lower ho0 (below_size (bH HB))); have n1_ := Aside0.mk (below_step (bH HB) hb); clear HB; have HO398 := n0_; have HB := n1_; clear n0_ n1_; (try clear hb); (try clear hb2); (try clear hk); (try clear hi); (try clear ho0)))
    (try simp only [Act.put, List.setIfInBounds_toArray, List.set_cons_zero, List.set_cons_succ])
    go_cut [] (fun wc => ∃ (kq : Nat), Aside0 (lapidarylaw03_FrameBack.j1 kq l1 = some r) ∧ Aside0 (kq ≤ kj4) ∧ Aside0 (Below w.heap.size w wc))
    case first =>
     have H := HC12.out
     clear HC12
     by_cases c14 : t396 = 0
     ·rw [if_pos c14] at H
      have c14b0 : (t396 == 0) = true := beq_iff_eq.mpr c14
      have c14b1 : (t396 != 0) = false := bne_eq_false_iff_eq.mpr c14
      clear c14
      (first | rw [c14b0] | (simp only [i64_w, i32_w]; rw [c14b0]) | skip)
      by_cases c15 : (t395.length : Int) = 0
      ·rw [if_pos c15] at H
       exact absurd H (by simp)
      ·rw [if_neg c15] at H
       have c15b0 : ((t395.length : Int) == 0) = false := beq_eq_false_iff_ne.mpr c15
       have c15b1 : ((t395.length : Int) != 0) = true := bne_iff_ne.mpr c15
       have c15b2 : ¬ (t395 = []) := fun h_ => c15 (by rw [h_]; rfl)
       replace H := Option.bind_eq_some_iff.mp H
       obtain ⟨⟨t399, t400⟩, A160, H⟩ := H
       replace H : (if 0 ≤ (Int.tmod (wrap64 (a2)) (t395.length : Int)) then (if (Int.tmod (wrap64 (a2)) (t395.length : Int)) ≤ (t395.length : Int) then ((frame_Decode.f kj4 (t395.take ((Int.tmod (wrap64 (a2)) (t395.length : Int)) : Int).toNat)).bind fun bt407 => ((lapidaryref00_Copy.f t395).bind fun t411 => (if t411.length < 140737488355328 then ((frame_Decode.f kj4 (t411 ++ [a3])).bind fun bt417 => (if t400 = 0 then ((lapidaryref03_Same.f kj4 t399 l0).bind fun t421 => (if t421 = true then (if bt407.2 = 10 then (if bt417.2 = 11 then (lapidarylaw03_FrameBack.j1 kj4 l1) else (none)) else (none)) else (none))) else (none))) else (none)))) else (none)) else (none)) = some r := H
       have A16 := Aside0.mk A160
       clear A160
       obtain ⟨ji17, hji17⟩ : ∃ j_ : Int, (Int.tmod (wrap64 (a2)) (t395.length : Int)) = j_ := ⟨_, rfl⟩
       replace H : (if 0 ≤ (ji17) then (if (ji17) ≤ (t395.length : Int) then ((frame_Decode.f kj4 (t395.take ((ji17) : Int).toNat)).bind fun bt407 => ((lapidaryref00_Copy.f t395).bind fun t411 => (if t411.length < 140737488355328 then ((frame_Decode.f kj4 (t411 ++ [a3])).bind fun bt417 => (if t400 = 0 then ((lapidaryref03_Same.f kj4 t399 l0).bind fun t421 => (if t421 = true then (if bt407.2 = 10 then (if bt417.2 = 11 then (lapidarylaw03_FrameBack.j1 kj4 l1) else (none)) else (none)) else (none))) else (none))) else (none)))) else (none)) else (none)) = some r := by first | (rw [hji17] at H; exact H) | (simp only [hji17] at H ⊢; exact H)
       (try rw [hji17] at A16)
       by_cases c18 : 0 ≤ (ji17)
       ·rw [if_pos c18] at H
        have c18b0 := eq_true c18
        have c18b1 : decide (0 ≤ (ji17)) = true := decide_eq_true c18
        clear c18
        by_cases c19 : (ji17) ≤ (t395.length : Int)
        ·rw [if_pos c19] at H
         have c19b0 := eq_true c19
         have c19b1 : decide ((ji17) ≤ (t395.length : Int)) = true := decide_eq_true c19
         clear c19
         obtain ⟨y403, hy403⟩ : ∃ y_ : List Int, y_ = (t395.take ((ji17) : Int).toNat) := ⟨_, rfl⟩
         replace H : ((frame_Decode.f kj4 y403).bind fun bt407 => ((lapidaryref00_Copy.f t395).bind fun t411 => (if t411.length < 140737488355328 then ((frame_Decode.f kj4 (t411 ++ [a3])).bind fun bt417 => (if t400 = 0 then ((lapidaryref03_Same.f kj4 t399 l0).bind fun t421 => (if t421 = true then (if bt407.2 = 10 then (if bt417.2 = 11 then (lapidarylaw03_FrameBack.j1 kj4 l1) else (none)) else (none)) else (none))) else (none))) else (none)))) = some r := by first | (rw [hy403]; with_reducible exact H) | (have H2_ := (Option.bind_some _ _).symm.trans H; rw [hy403]; with_reducible exact H2_) | (have H2_ := (Option.bind_some _ _).symm.trans H; with_reducible exact H2_) | with_reducible exact H | (rw [hy403]; exact H) | exact H
         have Ny403 := Aside0.mk hy403
         clear hy403
         replace H := Option.bind_eq_some_iff.mp H
         obtain ⟨⟨t407, t408⟩, A200, H⟩ := H
         replace H : ((lapidaryref00_Copy.f t395).bind fun t411 => (if t411.length < 140737488355328 then ((frame_Decode.f kj4 (t411 ++ [a3])).bind fun bt417 => (if t400 = 0 then ((lapidaryref03_Same.f kj4 t399 l0).bind fun t421 => (if t421 = true then (if t408 = 10 then (if bt417.2 = 11 then (lapidarylaw03_FrameBack.j1 kj4 l1) else (none)) else (none)) else (none))) else (none))) else (none))) = some r := H
         have A20 := Aside0.mk A200
         clear A200
         replace H := Option.bind_eq_some_iff.mp H
         obtain ⟨t411, A210, H⟩ := H
         replace H : (if t411.length < 140737488355328 then ((frame_Decode.f kj4 (t411 ++ [a3])).bind fun bt417 => (if t400 = 0 then ((lapidaryref03_Same.f kj4 t399 l0).bind fun t421 => (if t421 = true then (if t408 = 10 then (if bt417.2 = 11 then (lapidarylaw03_FrameBack.j1 kj4 l1) else (none)) else (none)) else (none))) else (none))) else (none)) = some r := H
         have A21 := Aside0.mk A210
         clear A210
         by_cases c22 : t411.length < 140737488355328
         ·rw [if_pos c22] at H
          have LMc22 := Aside0.mk c22
          clear c22
          obtain ⟨y414, hy414⟩ : ∃ y_ : List Int, y_ = (t411 ++ [a3]) := ⟨_, rfl⟩
          replace H : ((frame_Decode.f kj4 y414).bind fun bt417 => (if t400 = 0 then ((lapidaryref03_Same.f kj4 t399 l0).bind fun t421 => (if t421 = true then (if t408 = 10 then (if bt417.2 = 11 then (lapidarylaw03_FrameBack.j1 kj4 l1) else (none)) else (none)) else (none))) else (none))) = some r := by first | (rw [hy414]; with_reducible exact H) | (have H2_ := (Option.bind_some _ _).symm.trans H; rw [hy414]; with_reducible exact H2_) | (have H2_ := (Option.bind_some _ _).symm.trans H; with_reducible exact H2_) | with_reducible exact H | (rw [hy414]; exact H) | exact H
          have Ny414 := Aside0.mk hy414
          clear hy414
          replace H := Option.bind_eq_some_iff.mp H
          obtain ⟨⟨t417, t418⟩, A230, H⟩ := H
          replace H : (if t400 = 0 then ((lapidaryref03_Same.f kj4 t399 l0).bind fun t421 => (if t421 = true then (if t408 = 10 then (if t418 = 11 then (lapidarylaw03_FrameBack.j1 kj4 l1) else (none)) else (none)) else (none))) else (none)) = some r := H
          have A23 := Aside0.mk A230
          clear A230
          by_cases c24 : t400 = 0
          ·rw [if_pos c24] at H
           have c24b0 : (t400 == 0) = true := beq_iff_eq.mpr c24
           have c24b1 : (t400 != 0) = false := bne_eq_false_iff_eq.mpr c24
           clear c24
           replace H := Option.bind_eq_some_iff.mp H
           obtain ⟨t421, A250, H⟩ := H
           replace H : (if t421 = true then (if t408 = 10 then (if t418 = 11 then (lapidarylaw03_FrameBack.j1 kj4 l1) else (none)) else (none)) else (none)) = some r := H
           have A25 := Aside0.mk A250
           clear A250
           by_cases c26 : t421 = true
           ·subst c26
            have H1 : (if t408 = 10 then (if t418 = 11 then (lapidarylaw03_FrameBack.j1 kj4 l1) else (none)) else (none)) = some r := by rw [if_pos rfl] at H; exact H
            clear H
            have H := H1
            clear H1
            by_cases c27 : t408 = 10
            ·rw [if_pos c27] at H
             have c27b0 : (t408 == 10) = true := beq_iff_eq.mpr c27
             have c27b1 : (t408 != 10) = false := bne_eq_false_iff_eq.mpr c27
             clear c27
             by_cases c28 : t418 = 11
             ·rw [if_pos c28] at H
              have c28b0 : (t418 == 11) = true := beq_iff_eq.mpr c28
              have c28b1 : (t418 != 11) = false := bne_eq_false_iff_eq.mpr c28
              clear c28
              have H' := Aside0.mk H
              clear H
              obtain ⟨Ao29, co29, eo29⟩ := Kd.R_slice HO398.out
              subst eo29
              go_wp2_with (first | ((with_reducible refine gate_callee (f := 15) rfl ?_); refine goesL_ (some 42) rfl rfl Try.func15 (by kernel_rfl) rfl #[.slice Ao29 t395.length co29] rfl (by (try simp only [List.map_toArray, List.map_cons, List.map_nil]); first | done | rfl | (simp only [List.length_drop, List.length_take]; rfl)) ?_; (with_reducible refine (frame_Decode.calls kj4 _ _ t395 t399 t400 _ ?side1 ?side2 A16.out).mono ?_); (case side1 => repeat (first | exact (Kd.R_reads' HO398.out).2.2 | (with_reducible refine Kd.C_alloc ?_ _) | (with_reducible refine Kd.C_drewN ?_ _) | (with_reducible refine Kd.C_drew ?_))); (case side2 => exact (Kd.R_reads' HO398.out).2.1); rintro e w30 ⟨v401, rfl, ho0, hb⟩; refine ⟨_, rfl, ?_⟩; have n0_ := Aside0.mk (Kd.R_below (rK HO398) hb); have n1_ := Aside0.mk (Kd.S_lower (Kd.S_new' ho0 (Kd.R_lt (rK HO398))) (below_size (bH HB))); have n2_ := Aside0.mk (below_step (bH HB) hb); clear HO398; clear HB; have HO398 := n0_; have HO402 := n1_; have HB := n2_; clear n0_ n1_ n2_; (try clear hb); (try clear hb2); (try clear hk); (try clear hi); (try clear ho0); have q31 : ((ji17) : Int) ≤ ((t395.length : Int) : Int) := of_decide_eq_true (by first | (with_reducible assumption) | assumption); obtain ⟨i031, hi031, _, hsz31, _⟩ := info_parts info5; have hroom31 : t395.length ≤ co29 := (Kd.R_reads' HO398.out).2.1; have hC31 : Kd.C (Kd.int .u8) _ Ao29 t395.length t395 := (Kd.R_reads' HO398.out).2.2; have hcut31 := cut_to (P := Try.prog) 25 5 .i64 Try.underlying25 hi031 Ao29 t395.length co29 (ji17) (of_decide_eq_true (by first | (with_reducible assumption) | assumption)) q31 hroom31; have hr31 := Kd.C_take (m := ((ji17) : Int).toNat) hC31 (by omega); have hy31 : y403.length = ((ji17) : Int).toNat := (by rw [Ny403.out, List.length_take]; omega); rw [← Ny403.out] at hr31; rw [← hy31] at hcut31; have HR406 := Aside0.mk hr31; have HC406 := Aside0.mk (show y403.length ≤ co29 from by omega); clear hr31 hC31 hroom31 hi031 hsz31; have KY31 := Aside0.mk hy31; clear hy31; have KL31 := Aside0.mk (show ((ji17) : Int).toNat ≤ t395.length from by omega); replace q31 := eq_true q31) | ((with_reducible refine gate_callee (f := 15) rfl ?_); refine goesL_ (some 53) rfl rfl Try.func15 (by kernel_rfl) rfl #[.slice Ao29 y403.length co29] rfl (by (try simp only [List.map_toArray, List.map_cons, List.map_nil]); first | done | rfl | (simp only [List.length_drop, List.length_take]; rfl)) ?_; (with_reducible refine (frame_Decode.calls kj4 _ _ y403 t407 t408 _ ?side1 ?side2 A20.out).mono ?_); (case side1 => repeat (first | exact (by repeat (first | (with_reducible exact HR406.out) | (with_reducible refine Kd.C_alloc ?_ _) | (with_reducible refine Kd.C_drewN ?_ _) | (with_reducible refine Kd.C_drew ?_) | exact HR406.out)) | (with_reducible refine Kd.C_alloc ?_ _) | (with_reducible refine Kd.C_drewN ?_ _) | (with_reducible refine Kd.C_drew ?_))); (case side2 => exact HC406.out); rintro e w32 ⟨v409, rfl, ho0, hb⟩; refine ⟨_, rfl, ?_⟩; have n0_ := Aside0.mk (Kd.R_below (rK HO398) hb); have n1_ := Aside0.mk (Kd.S_elder' (by (with_reducible repeat (first | apply Kd.S_alloc | apply Kd.S_drewN | apply Kd.S_drew)); exact HO402.out) (Kd.S_base ho0) hb); have n2_ := Aside0.mk (Kd.S_lower (Kd.S_new' (Kd.S_new' ho0 (Kd.R_lt (rK HO398))) (Kd.S_lt (by (with_reducible repeat (first | apply Kd.S_alloc | apply Kd.S_drewN | apply Kd.S_drew)); exact HO402.out))) (below_size (bH HB))); have n3_ := Aside0.mk (Kd.C_below (by repeat (first | (with_reducible exact HR406.out) | (with_reducible refine Kd.C_alloc ?_ _) | (with_reducible refine Kd.C_drewN ?_ _) | (with_reducible refine Kd.C_drew ?_) | exact HR406.out)) hb); have n4_ := Aside0.mk (below_step (bH HB) hb); clear HO398; clear HO402; clear HR406; clear HB; have HO398 := n0_; have HO402 := n1_; have HO410 := n2_; have HR406 := n3_; have HB := n4_; clear n0_ n1_ n2_ n3_ n4_; (try clear hb); (try clear hb2); (try clear hk); (try clear hi); (try clear ho0)) | ((with_reducible refine gate_callee (f := 18) rfl ?_); refine goesL_ (some 57) rfl rfl Try.func18 (by kernel_rfl) rfl #[.slice Ao29 t395.length co29] rfl (by (try simp only [List.map_toArray, List.map_cons, List.map_nil]); first | done | rfl | (simp only [List.length_drop, List.length_take]; rfl)) ?_; (with_reducible refine (lapidaryref00_Copy.calls _ _ t395 t411 _ ?side1 ?side2 A21.out).mono ?_); (case side1 => repeat (first | exact (Kd.R_reads' HO398.out).2.2 | (with_reducible refine Kd.C_alloc ?_ _) | (with_reducible refine Kd.C_drewN ?_ _) | (with_reducible refine Kd.C_drew ?_))); (case side2 => exact (Kd.R_reads' HO398.out).2.1); rintro e w33 ⟨v412, rfl, ho0, hb⟩; refine ⟨_, rfl, ?_⟩; have n0_ := Aside0.mk (Kd.R_elder' (rK HO398) (Kd.R_base ho0) hb); have n1_ := Aside0.mk (Kd.S_elder' (by (with_reducible repeat (first | apply Kd.S_alloc | apply Kd.S_drewN | apply Kd.S_drew)); exact HO402.out) (Kd.R_base ho0) hb); have n2_ := Aside0.mk (Kd.S_elder' (by (with_reducible repeat (first | apply Kd.S_alloc | apply Kd.S_drewN | apply Kd.S_drew)); exact HO410.out) (Kd.R_base ho0) hb); have n3_ := Aside0.mk (Kd.R_lower (Kd.R_new' ho0 (Kd.R_lt (rK HO398))) (below_size (bH HB))); have n4_ := Aside0.mk (Kd.C_below (by repeat (first | (with_reducible exact HR406.out) | (with_reducible refine Kd.C_alloc ?_ _) | (with_reducible refine Kd.C_drewN ?_ _) | (with_reducible refine Kd.C_drew ?_) | exact HR406.out)) hb); have n5_ := Aside0.mk (below_step (bH HB) hb); clear HO398; clear HO402; clear HO410; clear HR406; clear HB; have HO398 := n0_; have HO402 := n1_; have HO410 := n2_; have HO413 := n3_; have HR406 := n4_; have HB := n5_; clear n0_ n1_ n2_ n3_ n4_ n5_; (try clear hb); (try clear hb2); (try clear hk); (try clear hi); (try clear ho0)) | ((with_reducible refine gate_builtin (b := .append) (xs := #[.tmp 58, .tmp 60]) rfl ?_); (try (refine gate_guard (by rfl) ?_; dsimp only)); at_builtin; refine Kd.R_append (Kd.int .u8) (w0 := w) w.heap.size rfl (.tmp 58) (.tmp 60) 25 5 (.int .u8 0) 1 rfl Try.underlying25 info5 rfl (by decide) (by omega) v412 t411 a3 [.int .u8 a3] (fun k_ => some k_ ≠ (.slice Ao29 t395.length co29 : Value).ownBlock) (fun _ => False) rfl rfl ?aP (fun _ hk => hk.elim) ?aF ?aO ?aB ?aS ?aL ?_; (case aP => exact rfl); (case aB => exact (bH HB)); (case aF => exact (fun k_ hk => Kd.fresh' (Kd.R_lt (rK HO398)) k_ hk)); (case aO => exact (by (with_reducible repeat (first | apply Kd.R_alloc | apply Kd.R_drewN | apply Kd.R_drew)); exact Kd.R_mono HO413.out (fun _ hk => hk.2))); (case aS => exact (below_size (bH HB))); (case aL => have := LMc22.out; omega); intro v415 w34 ho hb hg hat; rw [← Ny414.out] at ho; have n0_ := Aside0.mk (Kd.R_after (ok := (fun _ => True)) (rK HO398) hg hat); have n1_ := Aside0.mk (Kd.S_after (ok := (fun k_ => some k_ ≠ (.slice Ao29 t395.length co29 : Value).ownBlock ∧ some k_ ≠ (v409 : Value).ownBlock)) (by (with_reducible repeat (first | apply Kd.S_alloc | apply Kd.S_drewN | apply Kd.S_drew)); exact Kd.S_mono HO402.out (fun _ hk => ⟨⟨hk.1.1.2, hk.1.2⟩, hk.2⟩)) hg hat); have n2_ := Aside0.mk (Kd.S_after (ok := (fun k_ => some k_ ≠ (.slice Ao29 t395.length co29 : Value).ownBlock ∧ some k_ ≠ (v401 : Value).ownBlock)) (by (with_reducible repeat (first | apply Kd.S_alloc | apply Kd.S_drewN | apply Kd.S_drew)); exact Kd.S_mono HO410.out (fun _ hk => ⟨⟨hk.1.1.2, hk.1.2⟩, hk.2⟩)) hg hat); have n3_ := Aside0.mk (hb); have n4_ := Aside0.mk ((show Kd.C (Kd.int .u8) w34 Ao29 y403.length y403 from by rw [Ny403.out]; exact Kd.C_take (m := ((ji17) : Int).toNat) ((Kd.R_reads' (Kd.R_after (ok := (fun _ => True)) (rK HO398) hg hat)).2.2) KL31.out)); have n5_ := Aside0.mk (ho); clear HO398; clear HO402; clear HO410; clear HB; clear HR406; clear HO413; have HO398 := n0_; have HO402 := n1_; have HO410 := n2_; have HB := n3_; have HR406 := n4_; have HO416 := n5_; clear n0_ n1_ n2_ n3_ n4_ n5_; clear ho hb hg hat; obtain ⟨Ao35, co35, eo35⟩ := Kd.R_slice HO416.out; subst eo35) | ((with_reducible refine gate_callee (f := 15) rfl ?_); refine goesL_ (some 64) rfl rfl Try.func15 (by kernel_rfl) rfl #[.slice Ao35 y414.length co35] rfl (by (try simp only [List.map_toArray, List.map_cons, List.map_nil]); first | done | rfl | (simp only [List.length_drop, List.length_take]; rfl)) ?_; (with_reducible refine (frame_Decode.calls kj4 _ _ y414 t417 t418 _ ?side1 ?side2 A23.out).mono ?_); (case side1 => repeat (first | exact (Kd.R_reads' HO416.out).2.2 | (with_reducible refine Kd.C_alloc ?_ _) | (with_reducible refine Kd.C_drewN ?_ _) | (with_reducible refine Kd.C_drew ?_))); (case side2 => exact (Kd.R_reads' HO416.out).2.1); rintro e w36 ⟨v419, rfl, ho0, hb⟩; refine ⟨_, rfl, ?_⟩; have n0_ := Aside0.mk (Kd.R_below (rK HO398) hb); have n1_ := Aside0.mk (Kd.S_elder' (by (with_reducible repeat (first | apply Kd.S_alloc | apply Kd.S_drewN | apply Kd.S_drew)); exact HO402.out) (Kd.S_base ho0) hb); have n2_ := Aside0.mk (Kd.S_elder' (by (with_reducible repeat (first | apply Kd.S_alloc | apply Kd.S_drewN | apply Kd.S_drew)); exact HO410.out) (Kd.S_base ho0) hb); have n3_ := Aside0.mk (Kd.R_below (rK HO416) hb); have n4_ := Aside0.mk (Kd.S_lower (Kd.S_new' (Kd.S_new' (Kd.S_new' (Kd.S_new' ho0 (Kd.R_lt (rK HO398))) (Kd.S_lt (by (with_reducible repeat (first | apply Kd.S_alloc | apply Kd.S_drewN | apply Kd.S_drew)); exact HO402.out))) (Kd.S_lt (by (with_reducible repeat (first | apply Kd.S_alloc | apply Kd.S_drewN | apply Kd.S_drew)); exact HO410.out))) (Kd.R_lt (rK HO416))) (below_size (bH HB))); have n5_ := Aside0.mk (Kd.C_below (by repeat (first | (with_reducible exact HR406.out) | (with_reducible refine Kd.C_alloc ?_ _) | (with_reducible refine Kd.C_drewN ?_ _) | (with_reducible refine Kd.C_drew ?_) | exact HR406.out)) hb); have n6_ := Aside0.mk (below_step (bH HB) hb); clear HO398; clear HO402; clear HO410; clear HO416; clear HR406; clear HB; have HO398 := n0_; have HO402 := n1_; have HO410 := n2_; have HO416 := n3_; have HO420 := n4_; have HR406 := n5_; have HB := n6_; clear n0_ n1_ n2_ n3_ n4_ n5_ n6_; (try clear hb); (try clear hb2); (try clear hk); (try clear hi); (try clear ho0); obtain ⟨Ao37, co37, eo37⟩ := Kd.S_slice HO402.out; subst eo37) | (go_at_call 17; (with_reducible refine (lapidaryref03_Same.calls kj4 _ _ t399 _ _ l0 true _ ?side1 ?side2 ?side3 ?side4 A25.out).mono ?_); (case side1 => repeat (first | exact (Kd.S_reads' HO402.out).2.2 | (with_reducible refine Kd.C_alloc ?_ _) | (with_reducible refine Kd.C_drewN ?_ _) | (with_reducible refine Kd.C_drew ?_))); (case side2 => exact (Kd.S_reads' HO402.out).2.1); (case side3 => repeat (first | exact (Kd.C_below HR0.out HB.out) | (with_reducible refine Kd.C_alloc ?_ _) | (with_reducible refine Kd.C_drewN ?_ _) | (with_reducible refine Kd.C_drew ?_))); (case side4 => exact HC0.out); rintro e w' ⟨rfl, ⟨nd, rfl⟩⟩))
              go_meet
              case rel => exact ⟨_, H', ⟨by have := HJ4.out; first | omega | exact Nat.le_refl _⟩, ⟨ bH HB⟩⟩
             ·rw [if_neg c28] at H
              exact absurd H (by simp)
            ·rw [if_neg c27] at H
             exact absurd H (by simp)
           ·replace c26 := Bool.eq_false_iff.mpr c26
            subst c26
            have H1 : (none) = some r := by rw [if_neg (show ¬ (false = true) by decide)] at H; exact H
            clear H
            have H := H1
            clear H1
            exact absurd H (by simp)
          ·rw [if_neg c24] at H
           exact absurd H (by simp)
         ·rw [if_neg c22] at H
          exact absurd H (by simp)
        ·rw [if_neg c19] at H
         exact absurd H (by simp)
       ·rw [if_neg c18] at H
        exact absurd H (by simp)
     ·rw [if_neg c14] at H
      have c14b0 : (t396 == 0) = false := beq_eq_false_iff_ne.mpr c14
      have c14b1 : (t396 != 0) = true := bne_iff_ne.mpr c14
      (first | rw [c14b0] | (simp only [i64_w, i32_w]; rw [c14b0]) | skip)
      have H' := Aside0.mk H
      clear H
      go_wp2
      go_meet
      case rel => exact ⟨_, H', ⟨by have := HJ4.out; first | omega | exact Nat.le_refl _⟩, ⟨ bH HB⟩⟩
    case rest =>
     clear HC12
     try clear c1
     try clear c2
     try clear p2
     try clear q3
     try clear c5
     try clear p6
     try clear c7
     try clear c8
     try clear c9
     try clear c10
     try clear c14
     try clear c14b0
     try clear c14b1
     try clear c15
     try clear c15b0
     try clear c15b1
     try clear c15b2
     try clear c18
     try clear c18b0
     try clear c18b1
     try clear c19
     try clear c19b0
     try clear c19b1
     try clear c22
     try clear c24
     try clear c24b0
     try clear c24b1
     try clear c26
     try clear c27
     try clear c27b0
     try clear c27b1
     try clear c28
     try clear c28b0
     try clear c28b1
     try clear q31
     try clear p2
     try clear q31
     obtain ⟨kq, HA, HJ11, HB⟩ := hcut
     cases kq with
     | zero => exact absurd HA.out (by simp [lapidarylaw03_FrameBack.j1])
     | succ kj11 =>
      have H := HA.out
      clear HA
      simp only [lapidarylaw03_FrameBack.j1] at H
      replace H := Option.bind_eq_some_iff.mp H
      obtain ⟨⟨t422, t423⟩, A380, H⟩ := H
      replace H : (if t423 = 0 then ((frame_Encode.f kj11 t422).bind fun bt426 => (if bt426.2 = 0 then ((lapidaryref00_Same.f bt426.1 l1).bind fun t430 => (if t430 = true then ((lapidarylaw03_known.f kj11).bind fun t431 => (some t431)) else (none))) else (none))) else (if (t422.length : Int) = 0 then ((lapidarylaw03_known.f kj11).bind fun t432 => (some t432)) else (none))) = some r := H
      have A38 := Aside0.mk A380
      clear A380
      have HC39 := Aside0.mk H
      clear H
      go_upto_if 89 with (first | ((with_reducible refine gate_callee (f := 15) rfl ?_); refine goesL_ (some 85) rfl rfl Try.func15 (by kernel_rfl) rfl #[.slice A1 l1.length c1] rfl (by (try simp only [List.map_toArray, List.map_cons, List.map_nil]); first | done | rfl | (simp only [List.length_drop, List.length_take]; rfl)) ?_; (with_reducible refine (frame_Decode.calls kj11 _ _ l1 t422 t423 _ ?side1 ?side2 A38.out).mono ?_); (case side1 => repeat (first | exact (Kd.C_below HR1.out HB.out) | (with_reducible refine Kd.C_alloc ?_ _) | (with_reducible refine Kd.C_drewN ?_ _) | (with_reducible refine Kd.C_drew ?_))); (case side2 => exact HC1.out); rintro e w40 ⟨v424, rfl, ho0, hb⟩; refine ⟨_, rfl, ?_⟩; have n0_ := Aside0.mk (Kd.S_lower ho0 (below_size (bH HB))); have n1_ := Aside0.mk (below_step (bH HB) hb); clear HB; have HO425 := n0_; have HB := n1_; clear n0_ n1_; (try clear hb); (try clear hb2); (try clear hk); (try clear hi); (try clear ho0)))
      (try simp only [Act.put, List.setIfInBounds_toArray, List.set_cons_zero, List.set_cons_succ])
      have H := HC39.out
      clear HC39
      by_cases c41 : t423 = 0
      ·rw [if_pos c41] at H
       have c41b0 : (t423 == 0) = true := beq_iff_eq.mpr c41
       have c41b1 : (t423 != 0) = false := bne_eq_false_iff_eq.mpr c41
       clear c41
       (first | rw [c41b0] | (simp only [i64_w, i32_w]; rw [c41b0]) | skip)
       replace H := Option.bind_eq_some_iff.mp H
       obtain ⟨⟨t426, t427⟩, A420, H⟩ := H
       replace H : (if t427 = 0 then ((lapidaryref00_Same.f t426 l1).bind fun t430 => (if t430 = true then ((lapidarylaw03_known.f kj11).bind fun t431 => (some t431)) else (none))) else (none)) = some r := H
       have A42 := Aside0.mk A420
       clear A420
       by_cases c43 : t427 = 0
       ·rw [if_pos c43] at H
        have c43b0 : (t427 == 0) = true := beq_iff_eq.mpr c43
        have c43b1 : (t427 != 0) = false := bne_eq_false_iff_eq.mpr c43
        clear c43
        replace H := Option.bind_eq_some_iff.mp H
        obtain ⟨t430, A440, H⟩ := H
        replace H : (if t430 = true then ((lapidarylaw03_known.f kj11).bind fun t431 => (some t431)) else (none)) = some r := H
        have A44 := Aside0.mk A440
        clear A440
        by_cases c45 : t430 = true
        ·subst c45
         have H1 : ((lapidarylaw03_known.f kj11).bind fun t431 => (some t431)) = some r := by rw [if_pos rfl] at H; exact H
         clear H
         have H := H1
         clear H1
         replace H := Option.bind_eq_some_iff.mp H
         obtain ⟨t431, A460, H⟩ := H
         replace H : (some t431) = some r := H
         have A46 := Aside0.mk A460
         clear A460
         obtain rfl := Option.some.inj H
         obtain ⟨Ao47, co47, eo47⟩ := Kd.S_slice HO425.out
         subst eo47
         go_wp2_with (first | ((with_reducible refine gate_callee (f := 10) rfl ?_); refine goesL_ (some 98) rfl rfl Try.func10 (by kernel_rfl) rfl #[.slice Ao47 t422.length co47] rfl (by (try simp only [List.map_toArray, List.map_cons, List.map_nil]); first | done | rfl | (simp only [List.length_drop, List.length_take]; rfl)) ?_; (with_reducible refine (frame_Encode.calls kj11 _ _ t422 t426 t427 _ ?side1 ?side2 A42.out).mono ?_); (case side1 => repeat (first | exact (Kd.S_reads' HO425.out).2.2 | (with_reducible refine Kd.C_alloc ?_ _) | (with_reducible refine Kd.C_drewN ?_ _) | (with_reducible refine Kd.C_drew ?_))); (case side2 => exact (Kd.S_reads' HO425.out).2.1); rintro e w48 ⟨v428, rfl, ho0, hb⟩; refine ⟨_, rfl, ?_⟩; have n0_ := Aside0.mk (Kd.S_elder' (by (with_reducible repeat (first | apply Kd.S_alloc | apply Kd.S_drewN | apply Kd.S_drew)); exact HO425.out) (Kd.R_base ho0) hb); have n1_ := Aside0.mk (Kd.R_lower ho0 (below_size (bH HB))); have n2_ := Aside0.mk (below_step (bH HB) hb); clear HO425; clear HB; have HO425 := n0_; have HO429 := n1_; have HB := n2_; clear n0_ n1_ n2_; (try clear hb); (try clear hb2); (try clear hk); (try clear hi); (try clear ho0); obtain ⟨Ao49, co49, eo49⟩ := Kd.R_slice HO429.out; subst eo49) | (go_at_call 14; (with_reducible refine (lapidaryref00_Same.calls _ _ t426 _ _ l1 true _ ?side1 ?side2 ?side3 ?side4 A44.out).mono ?_); (case side1 => repeat (first | exact (Kd.R_reads' HO429.out).2.2 | (with_reducible refine Kd.C_alloc ?_ _) | (with_reducible refine Kd.C_drewN ?_ _) | (with_reducible refine Kd.C_drew ?_))); (case side2 => exact (Kd.R_reads' HO429.out).2.1); (case side3 => repeat (first | exact (Kd.C_below HR1.out HB.out) | (with_reducible refine Kd.C_alloc ?_ _) | (with_reducible refine Kd.C_drewN ?_ _) | (with_reducible refine Kd.C_drew ?_))); (case side4 => exact HC1.out); rintro e w' ⟨rfl, ⟨nd, rfl⟩⟩) | (go_at_call 9; (with_reducible refine (lapidarylaw03_known.calls kj11  t431 _ A46.out).mono ?_); rintro e w50 ⟨rfl, hb⟩; have n0_ := Aside0.mk (Kd.S_below (by (with_reducible repeat (first | apply Kd.S_alloc | apply Kd.S_drewN | apply Kd.S_drew)); exact HO425.out) hb); have n1_ := Aside0.mk (Kd.R_below (rK HO429) hb); have n2_ := Aside0.mk (below_step (bH HB) hb); clear HO425; clear HO429; clear HB; have HO425 := n0_; have HO429 := n1_; have HB := n2_; clear n0_ n1_ n2_; (try clear hb); (try clear hb2); (try clear hk); (try clear hi)))
         go_ret
         exact ⟨by first | rfl | (simp [errW_none, errW_some] <;> rfl) | (simp [*, errW_none, errW_some] <;> rfl), bH HB⟩
        ·replace c45 := Bool.eq_false_iff.mpr c45
         subst c45
         have H1 : (none) = some r := by rw [if_neg (show ¬ (false = true) by decide)] at H; exact H
         clear H
         have H := H1
         clear H1
         exact absurd H (by simp)
       ·rw [if_neg c43] at H
        exact absurd H (by simp)
      ·rw [if_neg c41] at H
       have c41b0 : (t423 == 0) = false := beq_eq_false_iff_ne.mpr c41
       have c41b1 : (t423 != 0) = true := bne_iff_ne.mpr c41
       (first | rw [c41b0] | (simp only [i64_w, i32_w]; rw [c41b0]) | skip)
       by_cases c51 : (t422.length : Int) = 0
       ·rw [if_pos c51] at H
        have c51b0 : ((t422.length : Int) == 0) = true := beq_iff_eq.mpr c51
        have c51b1 : ((t422.length : Int) != 0) = false := bne_eq_false_iff_eq.mpr c51
        clear c51
        replace H := Option.bind_eq_some_iff.mp H
        obtain ⟨t432, A520, H⟩ := H
        replace H : (some t432) = some r := H
        have A52 := Aside0.mk A520
        clear A520
        obtain rfl := Option.some.inj H
        obtain ⟨Ao53, co53, eo53⟩ := Kd.S_slice HO425.out
        subst eo53
        go_wp2_with (first | (go_at_call 9; (with_reducible refine (lapidarylaw03_known.calls kj11  t432 _ A52.out).mono ?_); rintro e w54 ⟨rfl, hb⟩; have n0_ := Aside0.mk (Kd.S_below (by (with_reducible repeat (first | apply Kd.S_alloc | apply Kd.S_drewN | apply Kd.S_drew)); exact HO425.out) hb); have n1_ := Aside0.mk (below_step (bH HB) hb); clear HO425; clear HB; have HO425 := n0_; have HB := n1_; clear n0_ n1_; (try clear hb); (try clear hb2); (try clear hk); (try clear hi)))
        go_ret
        exact ⟨by first | rfl | (simp [errW_none, errW_some] <;> rfl) | (simp [*, errW_none, errW_some] <;> rfl), bH HB⟩
       ·rw [if_neg c51] at H
        exact absurd H (by simp)

end Go.Proofs.Ytimdikfllbbdoaa.P
