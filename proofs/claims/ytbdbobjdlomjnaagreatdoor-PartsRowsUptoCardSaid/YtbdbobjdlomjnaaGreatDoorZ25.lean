/- Written for this claim by a program of this session (a turned copy of the print): Go functions as Lean functions, and that the Go code comes to just these answers; or a statement proved out of them. No condition. -/
import Derived.Test.YtbdbobjdlomjnaaGreatDoorZ2
import Derived.Test.YtbdbobjdlomjnaaGreatDoorZ19
import Derived.Test.YtbdbobjdlomjnaaGreatDoorZ20
import Derived.Test.YtbdbobjdlomjnaaGreatDoorZ21
import Derived.Test.YtbdbobjdlomjnaaGreatDoorZ18
import Derived.Test.YtbdbobjdlomjnaaGreatDoorZ23
import Derived.Test.YtbdbobjdlomjnaaGreatDoorZ24

namespace Go.Proofs.YtbdbobjdlomjnaaGreatDoor.P
open Go.RowKit Go.Proofs.YtbdbobjdlomjnaaGreatDoorW.PrintWords Go.Proofs.YtbdbobjdlomjnaaGreatDoorW.PrintLast Go.Proofs.YtbdbobjdlomjnaaGreatDoorW.PrintMore Go.Proofs.YtbdbobjdlomjnaaGreatDoor.X
attribute [local go_sem] max2_int min2_int max_two min_two max_three min_three max_four min_four add64_0 add64_1 add64
set_option linter.unusedVariables false
set_option linter.unusedSimpArgs false
mutual
def lw_PartsRows.l0 : Nat → List (List Int) → List Int → Int → Int → Int → Option (Bool)
 | 0, _, _, _, _, _ => none
 | k + 1, x0, x1, x2, x7, x8 => if x8 < (x0.length : Int) then (if 0 ≤ x8 then (lw_PartsRows.l0 k x0 x1 x2 (wrap64 ((wrap64 (x7 + 1)) + ((rd_L3 x0 x8).length : Int))) (wrap64 (x8 + 1))) else (none)) else (if x7 > 200 then (lw_PartsRows.j1 k x0 x1 x2 true) else (lw_PartsRows.j1 k x0 x1 x2 (decide ((x1.length : Int) > 300))))
def lw_PartsRows.j1 : Nat → List (List Int) → List Int → Int → Bool → Option (Bool)
 | 0, _, _, _, _ => none
 | k + 1, x0, x1, x2, x45 => if x45 = true then ((lw_known.f).bind fun t357 => (some t357)) else ((parts_Many.f x0).bind fun bt358 => ((rf18_Many.f k x0).bind fun bt362 => ((parts_Unwrap.f x1 x2).bind fun bt366 => ((rf18_Unwrap.f k x1 x2).bind fun bt371 => ((parts_Split.f x1).bind fun bt376 => ((rf18_Split.f k x1).bind fun bt380 => ((rf00_Same.f bt358.1 bt362.1).bind fun t384 => (if t384 = true then (if bt358.2 = bt362.2 then ((rf00_Same.f bt366.1 bt371.1).bind fun t385 => (if t385 = true then (if bt366.2.1 = bt371.2.1 then (if bt366.2.2 = bt371.2.2 then ((rf18_Same.f bt376.1 bt380.1).bind fun t386 => (if t386 = true then (lw_PartsRows.j2 k x0 bt358.1 bt358.2 (bt376.2 != bt380.2)) else (lw_PartsRows.j2 k x0 bt358.1 bt358.2 true))) else (lw_PartsRows.j2 k x0 bt358.1 bt358.2 true)) else (lw_PartsRows.j2 k x0 bt358.1 bt358.2 true)) else (lw_PartsRows.j2 k x0 bt358.1 bt358.2 true))) else (lw_PartsRows.j2 k x0 bt358.1 bt358.2 true)) else (lw_PartsRows.j2 k x0 bt358.1 bt358.2 true)))))))))
def lw_PartsRows.j2 : Nat → List (List Int) → List Int → Int → Bool → Option (Bool)
 | 0, _, _, _, _ => none
 | k + 1, x0, x9, x10, x116 => if x116 = true then (none) else (if x10 = 0 then ((parts_Split.f x9).bind fun bt387 => (if bt387.2 = 0 then ((rf18_Same.f bt387.1 x0).bind fun t391 => (if t391 = true then ((lw_known.f).bind fun t392 => (some t392)) else (none))) else (none))) else ((lw_known.f).bind fun t393 => (some t393)))
end
def lw_PartsRows.f (k : Nat) (l0 : List (List Int)) (l1 : List Int) (a2 : Int) : Option (Bool) := lw_PartsRows.l0 k l0 l1 a2 0 0
theorem lw_PartsRows.mono_l : ∀ k, (∀ y0 y1 y2 y3 y4, LeO (lw_PartsRows.l0 k y0 y1 y2 y3 y4) (lw_PartsRows.l0 (k + 1) y0 y1 y2 y3 y4)) ∧ (∀ y0 y1 y2 y3, LeO (lw_PartsRows.j1 k y0 y1 y2 y3) (lw_PartsRows.j1 (k + 1) y0 y1 y2 y3)) ∧ (∀ y0 y1 y2 y3, LeO (lw_PartsRows.j2 k y0 y1 y2 y3) (lw_PartsRows.j2 (k + 1) y0 y1 y2 y3))
 | 0 => ⟨fun _ _ _ _ _ r h => by simp [lw_PartsRows.l0] at h, fun _ _ _ _ r h => by simp [lw_PartsRows.j1] at h, fun _ _ _ _ r h => by simp [lw_PartsRows.j2] at h⟩
 | k + 1 => by
  obtain ⟨ih0, ih1, ih2⟩ := lw_PartsRows.mono_l k
  refine ⟨?_, ?_, ?_⟩
  ·intro y0 y1 y2 y3 y4
   unfold lw_PartsRows.l0
   repeat' first
   | (with_reducible exact ih0 _ _ _ _ _)
   | (with_reducible exact ih1 _ _ _ _)
   | (with_reducible exact ih2 _ _ _ _)
   | (with_reducible exact rf18_Many.mono _ _)
   | (with_reducible exact rf18_Split.mono _ _)
   | (with_reducible exact rf18_Unwrap.mono _ _ _)
   | (with_reducible exact LeO.refl _)
   | (with_reducible exact LeO.none _)
   | (with_reducible refine LeO.ite ?_ ?_)
   | (with_reducible refine LeO.bind ?_ (fun _ => ?_))
   | exact ih0 _ _ _ _ _
   | exact ih1 _ _ _ _
   | exact ih2 _ _ _ _
   | exact rf18_Many.mono _ _
   | exact rf18_Split.mono _ _
   | exact rf18_Unwrap.mono _ _ _
   | exact LeO.none _
   | refine LeO.ite ?_ ?_
   | refine LeO.bind ?_ (fun _ => ?_)
  ·intro y0 y1 y2 y3
   unfold lw_PartsRows.j1
   repeat' first
   | (with_reducible exact ih0 _ _ _ _ _)
   | (with_reducible exact ih1 _ _ _ _)
   | (with_reducible exact ih2 _ _ _ _)
   | (with_reducible exact rf18_Many.mono _ _)
   | (with_reducible exact rf18_Split.mono _ _)
   | (with_reducible exact rf18_Unwrap.mono _ _ _)
   | (with_reducible exact LeO.refl _)
   | (with_reducible exact LeO.none _)
   | (with_reducible refine LeO.ite ?_ ?_)
   | (with_reducible refine LeO.bind ?_ (fun _ => ?_))
   | exact ih0 _ _ _ _ _
   | exact ih1 _ _ _ _
   | exact ih2 _ _ _ _
   | exact rf18_Many.mono _ _
   | exact rf18_Split.mono _ _
   | exact rf18_Unwrap.mono _ _ _
   | exact LeO.none _
   | refine LeO.ite ?_ ?_
   | refine LeO.bind ?_ (fun _ => ?_)
  ·intro y0 y1 y2 y3
   unfold lw_PartsRows.j2
   repeat' first
   | (with_reducible exact ih0 _ _ _ _ _)
   | (with_reducible exact ih1 _ _ _ _)
   | (with_reducible exact ih2 _ _ _ _)
   | (with_reducible exact rf18_Many.mono _ _)
   | (with_reducible exact rf18_Split.mono _ _)
   | (with_reducible exact rf18_Unwrap.mono _ _ _)
   | (with_reducible exact LeO.refl _)
   | (with_reducible exact LeO.none _)
   | (with_reducible refine LeO.ite ?_ ?_)
   | (with_reducible refine LeO.bind ?_ (fun _ => ?_))
   | exact ih0 _ _ _ _ _
   | exact ih1 _ _ _ _
   | exact ih2 _ _ _ _
   | exact rf18_Many.mono _ _
   | exact rf18_Split.mono _ _
   | exact rf18_Unwrap.mono _ _ _
   | exact LeO.none _
   | refine LeO.ite ?_ ?_
   | refine LeO.bind ?_ (fun _ => ?_)
theorem lw_PartsRows.mono : ∀ a0 a1 a2 k, LeO (lw_PartsRows.f k a0 a1 a2) (lw_PartsRows.f (k + 1) a0 a1 a2) := by
 intro a0 a1 a2 k
 obtain ⟨ih0, ih1, ih2⟩ := lw_PartsRows.mono_l k
 unfold lw_PartsRows.f
 repeat' first
   | (with_reducible exact ih0 _ _ _ _ _)
   | (with_reducible exact ih1 _ _ _ _)
   | (with_reducible exact ih2 _ _ _ _)
   | (with_reducible exact rf18_Many.mono _ _)
   | (with_reducible exact rf18_Split.mono _ _)
   | (with_reducible exact rf18_Unwrap.mono _ _ _)
   | (with_reducible exact LeO.refl _)
   | (with_reducible exact LeO.none _)
   | (with_reducible refine LeO.ite ?_ ?_)
   | (with_reducible refine LeO.bind ?_ (fun _ => ?_))
   | exact ih0 _ _ _ _ _
   | exact ih1 _ _ _ _
   | exact ih2 _ _ _ _
   | exact rf18_Many.mono _ _
   | exact rf18_Split.mono _ _
   | exact rf18_Unwrap.mono _ _ _
   | exact LeO.none _
   | refine LeO.ite ?_ ?_
   | refine LeO.bind ?_ (fun _ => ?_)
set_option maxHeartbeats 8000000 in
set_option maxRecDepth 100000 in
theorem lw_PartsRows.calls (k : Nat) (A0 : Option Addr) (c0 : Nat) (l0 : List (List Int)) (A1 : Option Addr) (c1 : Nat) (l1 : List Int) (a2 : Int) (r : Bool) (w : World) (hr0 : Kd.C (Kd.slice 5 (Kd.int .u8)) w A0 l0.length l0) (hc0 : l0.length ≤ c0) (hr1 : Kd.C (Kd.int .u8) w A1 l1.length l1) (hc1 : l1.length ≤ c1) (h : lw_PartsRows.f k l0 l1 a2 = some r) :
  Calls Tryz.prog 4 #[.slice A0 l0.length c0, .slice A1 l1.length c1, .int .i64 a2] w fun e w' => e = .returned (.bool r) ∧ Below w.heap.size w w' := by
 have HR0 := Aside0.mk hr0
 have HC0 := Aside0.mk hc0
 clear hr0 hc0
 have HR1 := Aside0.mk hr1
 have HC1 := Aside0.mk hc1
 clear hr1 hc1
 have HB := Aside0.mk (Below.refl w.heap.size w)
 have H : (lw_PartsRows.l0 k l0 l1 a2 0 0) = some r := h
 clear h
 have H' := Aside0.mk H
 clear H
 go_enter Tryz.func4, Tryz.ntmps4
 go_wp2
 go_loopg [7, 8] k (fun kq v7 v8 w' => ∃ (x7_1 : Int) (x8_1 : Int), v7 = .int .i64 x7_1 ∧ v8 = .int .i64 x8_1 ∧ Aside0 (lw_PartsRows.l0 kq l0 l1 a2 x7_1 x8_1 = some r) ∧ Aside0 (kq ≤ k) ∧ Aside0 (Below w.heap.size w w'))
 case atStart => exact ⟨(0), (0), (by first | rfl | (simp; done) | (simp [*]; done)), (by first | rfl | (simp; done) | (simp [*]; done)), H', ⟨Nat.le_refl _⟩, ⟨ bH HB⟩⟩
 case round =>
  clear H'
  try clear c1
  try clear p2
  obtain ⟨x7_1, x8_1, rfl, rfl, HA, HK1, HB⟩ := hrel
  cases gk with
  | zero => exact absurd HA.out (by simp [lw_PartsRows.l0])
  | succ k1 =>
   have H := HA.out
   clear HA
   simp only [lw_PartsRows.l0] at H
   by_cases c4 : x8_1 < (l0.length : Int)
   ·rw [if_pos c4] at H
    have c4b0 : decide (x8_1 < (l0.length : Int)) = true := decide_eq_true c4
    clear c4
    by_cases c5 : 0 ≤ x8_1
    ·rw [if_pos c5] at H
     have c5b0 : decide (0 ≤ x8_1) = true := decide_eq_true c5
     clear c5
     have H' := Aside0.mk H
     clear H
     have p356 : 0 ≤ (x8_1 : Int) := of_decide_eq_true (by first | (with_reducible assumption) | assumption)
     have q356 : x8_1 < (l0.length : Int) := of_decide_eq_true (by first | (with_reducible assumption) | assumption)
     obtain ⟨ad356, A356_0, c356_0, e356, hx356_0, hl356_0, hi356_0⟩ := at_L3 HR0.out x8_1 p356 q356
     cases e356
     replace hx356_0 := (HB.out.cell (World.block_lt_of_cell? w _ hx356_0)).trans hx356_0
     have HR356_0 := Aside0.mk hi356_0
     have HC356_0 := Aside0.mk hl356_0
     clear hi356_0 hl356_0
     replace p356 := eq_true p356
     replace q356 := eq_true q356
     go_wp2
     go_roundg k1
     case measure => have := HK1.out; omega
     case rel => exact ⟨(wrap64 ((wrap64 (x7_1 + 1)) + ((rd_L3 l0 x8_1).length : Int))), (wrap64 (x8_1 + 1)), (by first | rfl | (simp; done) | (simp [*]; done)), (by first | rfl | (simp; done) | (simp [*]; done)), H', ⟨by have := HK1.out; omega⟩, ⟨ bH HB⟩⟩
    ·rw [if_neg c5] at H
     exact absurd H (by simp)
   ·rw [if_neg c4] at H
    have c4b0 : decide (x8_1 < (l0.length : Int)) = false := decide_eq_false c4
    clear c4
    have HC6 := Aside0.mk H
    clear H
    go_upto_region 6 with (fail)
    go_cut [45] (fun v45 wc => ∃ (kq : Nat) (x45_5 : Bool), v45 = .bool x45_5 ∧ Aside0 (lw_PartsRows.j1 kq l0 l1 a2 x45_5 = some r) ∧ Aside0 (kq ≤ k1) ∧ Aside0 (Below w.heap.size w wc))
    case first =>
     have H := HC6.out
     clear HC6
     by_cases c7 : x7_1 > 200
     ·rw [if_pos c7] at H
      have c7b0 : decide (200 < x7_1) = true := decide_eq_true c7
      clear c7
      (first | rw [c7b0] | (simp only [i64_w, i32_w]; rw [c7b0]) | skip)
      have H' := Aside0.mk H
      clear H
      go_wp2
      go_meet
      case rel => exact ⟨_, (true), (by first | rfl | (simp; done) | (simp [*]; done)), H', ⟨by have := HK1.out; first | omega | exact Nat.le_refl _⟩, ⟨ bH HB⟩⟩
     ·rw [if_neg c7] at H
      have c7b0 : decide (200 < x7_1) = false := decide_eq_false c7
      clear c7
      (first | rw [c7b0] | (simp only [i64_w, i32_w]; rw [c7b0]) | skip)
      have H' := Aside0.mk H
      clear H
      go_wp2
      go_meet
      case rel => exact ⟨_, (decide ((l1.length : Int) > 300)), (by first | rfl | (simp; done) | (simp [*]; done)), H', ⟨by have := HK1.out; first | omega | exact Nat.le_refl _⟩, ⟨ bH HB⟩⟩
    case rest =>
     clear HC6
     try clear c1
     try clear p2
     try clear c3
     try clear p3
     try clear q3
     try clear hx3
     try clear c4
     try clear c4b0
     try clear c5
     try clear c5b0
     try clear p6
     try clear c7
     try clear c7b0
     try clear hx356_0
     try clear p2
     try clear p356
     try clear q356
     obtain ⟨kq, x45_5, rfl, HA, HJ5, HB⟩ := hcut
     cases kq with
     | zero => exact absurd HA.out (by simp [lw_PartsRows.j1])
     | succ kj5 =>
      have H := HA.out
      clear HA
      simp only [lw_PartsRows.j1] at H
      by_cases c8 : x45_5 = true
      ·subst c8
       have H1 : ((lw_known.f).bind fun t357 => (some t357)) = some r := by rw [if_pos rfl] at H; exact H
       clear H
       have H := H1
       clear H1
       replace H := Option.bind_eq_some_iff.mp H
       obtain ⟨t357, A90, H⟩ := H
       replace H : (some t357) = some r := H
       have A9 := Aside0.mk A90
       clear A90
       obtain rfl := Option.some.inj H
       go_wp2_with (first | ((with_reducible refine gate_callee (f := 11) rfl ?_); refine goesL_ (some 46) rfl rfl Tryz.func11 (by kernel_rfl) rfl #[] rfl (by (try simp only [List.map_toArray, List.map_cons, List.map_nil]); first | done | rfl | (simp only [List.length_drop, List.length_take]; rfl)) ?_; (with_reducible refine (lw_known.calls  t357 _ A9.out).mono ?_); rintro e w10 ⟨rfl, hb⟩; refine ⟨_, rfl, ?_⟩; have n0_ := Aside0.mk (below_step (bH HB) hb); clear HB; have HB := n0_; clear n0_; (try clear hb); (try clear hb2); (try clear hk); (try clear hi)))
       go_ret
       exact ⟨by first | rfl | (simp [errW_none, errW_some] <;> rfl) | (simp [*, errW_none, errW_some] <;> rfl), bH HB⟩
      ·replace c8 := Bool.eq_false_iff.mpr c8
       subst c8
       have H1 : ((parts_Many.f l0).bind fun bt358 => ((rf18_Many.f kj5 l0).bind fun bt362 => ((parts_Unwrap.f l1 a2).bind fun bt366 => ((rf18_Unwrap.f kj5 l1 a2).bind fun bt371 => ((parts_Split.f l1).bind fun bt376 => ((rf18_Split.f kj5 l1).bind fun bt380 => ((rf00_Same.f bt358.1 bt362.1).bind fun t384 => (if t384 = true then (if bt358.2 = bt362.2 then ((rf00_Same.f bt366.1 bt371.1).bind fun t385 => (if t385 = true then (if bt366.2.1 = bt371.2.1 then (if bt366.2.2 = bt371.2.2 then ((rf18_Same.f bt376.1 bt380.1).bind fun t386 => (if t386 = true then (lw_PartsRows.j2 kj5 l0 bt358.1 bt358.2 (bt376.2 != bt380.2)) else (lw_PartsRows.j2 kj5 l0 bt358.1 bt358.2 true))) else (lw_PartsRows.j2 kj5 l0 bt358.1 bt358.2 true)) else (lw_PartsRows.j2 kj5 l0 bt358.1 bt358.2 true)) else (lw_PartsRows.j2 kj5 l0 bt358.1 bt358.2 true))) else (lw_PartsRows.j2 kj5 l0 bt358.1 bt358.2 true)) else (lw_PartsRows.j2 kj5 l0 bt358.1 bt358.2 true))))))))) = some r := by rw [if_neg (show ¬ (false = true) by decide)] at H; exact H
       clear H
       have H := H1
       clear H1
       replace H := Option.bind_eq_some_iff.mp H
       obtain ⟨⟨t358, t359⟩, A110, H⟩ := H
       replace H : ((rf18_Many.f kj5 l0).bind fun bt362 => ((parts_Unwrap.f l1 a2).bind fun bt366 => ((rf18_Unwrap.f kj5 l1 a2).bind fun bt371 => ((parts_Split.f l1).bind fun bt376 => ((rf18_Split.f kj5 l1).bind fun bt380 => ((rf00_Same.f t358 bt362.1).bind fun t384 => (if t384 = true then (if t359 = bt362.2 then ((rf00_Same.f bt366.1 bt371.1).bind fun t385 => (if t385 = true then (if bt366.2.1 = bt371.2.1 then (if bt366.2.2 = bt371.2.2 then ((rf18_Same.f bt376.1 bt380.1).bind fun t386 => (if t386 = true then (lw_PartsRows.j2 kj5 l0 t358 t359 (bt376.2 != bt380.2)) else (lw_PartsRows.j2 kj5 l0 t358 t359 true))) else (lw_PartsRows.j2 kj5 l0 t358 t359 true)) else (lw_PartsRows.j2 kj5 l0 t358 t359 true)) else (lw_PartsRows.j2 kj5 l0 t358 t359 true))) else (lw_PartsRows.j2 kj5 l0 t358 t359 true)) else (lw_PartsRows.j2 kj5 l0 t358 t359 true)))))))) = some r := H
       have A11 := Aside0.mk A110
       clear A110
       replace H := Option.bind_eq_some_iff.mp H
       obtain ⟨⟨t362, t363⟩, A120, H⟩ := H
       replace H : ((parts_Unwrap.f l1 a2).bind fun bt366 => ((rf18_Unwrap.f kj5 l1 a2).bind fun bt371 => ((parts_Split.f l1).bind fun bt376 => ((rf18_Split.f kj5 l1).bind fun bt380 => ((rf00_Same.f t358 t362).bind fun t384 => (if t384 = true then (if t359 = t363 then ((rf00_Same.f bt366.1 bt371.1).bind fun t385 => (if t385 = true then (if bt366.2.1 = bt371.2.1 then (if bt366.2.2 = bt371.2.2 then ((rf18_Same.f bt376.1 bt380.1).bind fun t386 => (if t386 = true then (lw_PartsRows.j2 kj5 l0 t358 t359 (bt376.2 != bt380.2)) else (lw_PartsRows.j2 kj5 l0 t358 t359 true))) else (lw_PartsRows.j2 kj5 l0 t358 t359 true)) else (lw_PartsRows.j2 kj5 l0 t358 t359 true)) else (lw_PartsRows.j2 kj5 l0 t358 t359 true))) else (lw_PartsRows.j2 kj5 l0 t358 t359 true)) else (lw_PartsRows.j2 kj5 l0 t358 t359 true))))))) = some r := H
       have A12 := Aside0.mk A120
       clear A120
       replace H := Option.bind_eq_some_iff.mp H
       obtain ⟨⟨t366, t367, t368⟩, A130, H⟩ := H
       replace H : ((rf18_Unwrap.f kj5 l1 a2).bind fun bt371 => ((parts_Split.f l1).bind fun bt376 => ((rf18_Split.f kj5 l1).bind fun bt380 => ((rf00_Same.f t358 t362).bind fun t384 => (if t384 = true then (if t359 = t363 then ((rf00_Same.f t366 bt371.1).bind fun t385 => (if t385 = true then (if t367 = bt371.2.1 then (if t368 = bt371.2.2 then ((rf18_Same.f bt376.1 bt380.1).bind fun t386 => (if t386 = true then (lw_PartsRows.j2 kj5 l0 t358 t359 (bt376.2 != bt380.2)) else (lw_PartsRows.j2 kj5 l0 t358 t359 true))) else (lw_PartsRows.j2 kj5 l0 t358 t359 true)) else (lw_PartsRows.j2 kj5 l0 t358 t359 true)) else (lw_PartsRows.j2 kj5 l0 t358 t359 true))) else (lw_PartsRows.j2 kj5 l0 t358 t359 true)) else (lw_PartsRows.j2 kj5 l0 t358 t359 true)))))) = some r := H
       have A13 := Aside0.mk A130
       clear A130
       replace H := Option.bind_eq_some_iff.mp H
       obtain ⟨⟨t371, t372, t373⟩, A140, H⟩ := H
       replace H : ((parts_Split.f l1).bind fun bt376 => ((rf18_Split.f kj5 l1).bind fun bt380 => ((rf00_Same.f t358 t362).bind fun t384 => (if t384 = true then (if t359 = t363 then ((rf00_Same.f t366 t371).bind fun t385 => (if t385 = true then (if t367 = t372 then (if t368 = t373 then ((rf18_Same.f bt376.1 bt380.1).bind fun t386 => (if t386 = true then (lw_PartsRows.j2 kj5 l0 t358 t359 (bt376.2 != bt380.2)) else (lw_PartsRows.j2 kj5 l0 t358 t359 true))) else (lw_PartsRows.j2 kj5 l0 t358 t359 true)) else (lw_PartsRows.j2 kj5 l0 t358 t359 true)) else (lw_PartsRows.j2 kj5 l0 t358 t359 true))) else (lw_PartsRows.j2 kj5 l0 t358 t359 true)) else (lw_PartsRows.j2 kj5 l0 t358 t359 true))))) = some r := H
       have A14 := Aside0.mk A140
       clear A140
       replace H := Option.bind_eq_some_iff.mp H
       obtain ⟨⟨t376, t377⟩, A150, H⟩ := H
       replace H : ((rf18_Split.f kj5 l1).bind fun bt380 => ((rf00_Same.f t358 t362).bind fun t384 => (if t384 = true then (if t359 = t363 then ((rf00_Same.f t366 t371).bind fun t385 => (if t385 = true then (if t367 = t372 then (if t368 = t373 then ((rf18_Same.f t376 bt380.1).bind fun t386 => (if t386 = true then (lw_PartsRows.j2 kj5 l0 t358 t359 (t377 != bt380.2)) else (lw_PartsRows.j2 kj5 l0 t358 t359 true))) else (lw_PartsRows.j2 kj5 l0 t358 t359 true)) else (lw_PartsRows.j2 kj5 l0 t358 t359 true)) else (lw_PartsRows.j2 kj5 l0 t358 t359 true))) else (lw_PartsRows.j2 kj5 l0 t358 t359 true)) else (lw_PartsRows.j2 kj5 l0 t358 t359 true)))) = some r := H
       have A15 := Aside0.mk A150
       clear A150
       replace H := Option.bind_eq_some_iff.mp H
       obtain ⟨⟨t380, t381⟩, A160, H⟩ := H
       replace H : ((rf00_Same.f t358 t362).bind fun t384 => (if t384 = true then (if t359 = t363 then ((rf00_Same.f t366 t371).bind fun t385 => (if t385 = true then (if t367 = t372 then (if t368 = t373 then ((rf18_Same.f t376 t380).bind fun t386 => (if t386 = true then (lw_PartsRows.j2 kj5 l0 t358 t359 (t377 != t381)) else (lw_PartsRows.j2 kj5 l0 t358 t359 true))) else (lw_PartsRows.j2 kj5 l0 t358 t359 true)) else (lw_PartsRows.j2 kj5 l0 t358 t359 true)) else (lw_PartsRows.j2 kj5 l0 t358 t359 true))) else (lw_PartsRows.j2 kj5 l0 t358 t359 true)) else (lw_PartsRows.j2 kj5 l0 t358 t359 true))) = some r := H
       have A16 := Aside0.mk A160
       clear A160
       have HC17 := Aside0.mk H
       clear H
       go_upto_region 14 with (first | ((with_reducible refine gate_callee (f := 18) rfl ?_); refine goesL_ (some 49) rfl rfl Tryz.func18 (by kernel_rfl) rfl #[.slice A0 l0.length c0] rfl (by (try simp only [List.map_toArray, List.map_cons, List.map_nil]); first | done | rfl | (simp only [List.length_drop, List.length_take]; rfl)) ?_; (with_reducible refine (parts_Many.calls _ _ l0 t358 t359 _ ?side1 ?side2 A11.out).mono ?_); (case side1 => repeat (first | exact (Kd.C_below HR0.out HB.out) | (with_reducible refine Kd.C_alloc ?_ _) | (with_reducible refine Kd.C_drewN ?_ _) | (with_reducible refine Kd.C_drew ?_))); (case side2 => exact HC0.out); rintro e w18 ⟨v360, rfl, ho0, hb⟩; refine ⟨_, rfl, ?_⟩; have n0_ := Aside0.mk (Kd.R_lower ho0 (below_size (bH HB))); have n1_ := Aside0.mk (below_step (bH HB) hb); clear HB; have HO361 := n0_; have HB := n1_; clear n0_ n1_; (try clear hb); (try clear hb2); (try clear hk); (try clear hi); (try clear ho0)) | ((with_reducible refine gate_callee (f := 19) rfl ?_); refine goesL_ (some 54) rfl rfl Tryz.func19 (by kernel_rfl) rfl #[.slice A0 l0.length c0] rfl (by (try simp only [List.map_toArray, List.map_cons, List.map_nil]); first | done | rfl | (simp only [List.length_drop, List.length_take]; rfl)) ?_; (with_reducible refine (rf18_Many.calls kj5 _ _ l0 t362 t363 _ ?side1 ?side2 A12.out).mono ?_); (case side1 => repeat (first | exact (Kd.C_below HR0.out HB.out) | (with_reducible refine Kd.C_alloc ?_ _) | (with_reducible refine Kd.C_drewN ?_ _) | (with_reducible refine Kd.C_drew ?_))); (case side2 => exact HC0.out); rintro e w19 ⟨v364, rfl, ho0, hb⟩; refine ⟨_, rfl, ?_⟩; have n0_ := Aside0.mk (Kd.R_elder' (rK HO361) (Kd.R_base ho0) hb); have n1_ := Aside0.mk (Kd.R_lower (Kd.R_new' ho0 (Kd.R_lt (rK HO361))) (below_size (bH HB))); have n2_ := Aside0.mk (below_step (bH HB) hb); clear HO361; clear HB; have HO361 := n0_; have HO365 := n1_; have HB := n2_; clear n0_ n1_ n2_; (try clear hb); (try clear hb2); (try clear hk); (try clear hi); (try clear ho0)) | ((with_reducible refine gate_callee (f := 20) rfl ?_); refine goesL_ (some 60) rfl rfl Tryz.func20 (by kernel_rfl) rfl #[.slice A1 l1.length c1, .int .i64 a2] rfl (by (try simp only [List.map_toArray, List.map_cons, List.map_nil]); first | done | rfl | (simp only [List.length_drop, List.length_take]; rfl)) ?_; (with_reducible refine (parts_Unwrap.calls _ _ l1 a2 t366 t367 t368 _ ?side1 ?side2 A13.out).mono ?_); (case side1 => repeat (first | exact (Kd.C_below HR1.out HB.out) | (with_reducible refine Kd.C_alloc ?_ _) | (with_reducible refine Kd.C_drewN ?_ _) | (with_reducible refine Kd.C_drew ?_))); (case side2 => exact HC1.out); rintro e w20 ⟨v369, rfl, ho0, hb⟩; refine ⟨_, rfl, ?_⟩; have n0_ := Aside0.mk (Kd.R_elder' (rK HO361) (Kd.R_base ho0) hb); have n1_ := Aside0.mk (Kd.R_elder' (rK HO365) (Kd.R_base ho0) hb); have n2_ := Aside0.mk (Kd.R_lower (Kd.R_new' (Kd.R_new' ho0 (Kd.R_lt (rK HO361))) (Kd.R_lt (rK HO365))) (below_size (bH HB))); have n3_ := Aside0.mk (below_step (bH HB) hb); clear HO361; clear HO365; clear HB; have HO361 := n0_; have HO365 := n1_; have HO370 := n2_; have HB := n3_; clear n0_ n1_ n2_ n3_; (try clear hb); (try clear hb2); (try clear hk); (try clear hi); (try clear ho0)) | ((with_reducible refine gate_callee (f := 21) rfl ?_); refine goesL_ (some 67) rfl rfl Tryz.func21 (by kernel_rfl) rfl #[.slice A1 l1.length c1, .int .i64 a2] rfl (by (try simp only [List.map_toArray, List.map_cons, List.map_nil]); first | done | rfl | (simp only [List.length_drop, List.length_take]; rfl)) ?_; (with_reducible refine (rf18_Unwrap.calls kj5 _ _ l1 a2 t371 t372 t373 _ ?side1 ?side2 A14.out).mono ?_); (case side1 => repeat (first | exact (Kd.C_below HR1.out HB.out) | (with_reducible refine Kd.C_alloc ?_ _) | (with_reducible refine Kd.C_drewN ?_ _) | (with_reducible refine Kd.C_drew ?_))); (case side2 => exact HC1.out); rintro e w21 ⟨v374, rfl, ho0, hb⟩; refine ⟨_, rfl, ?_⟩; have n0_ := Aside0.mk (Kd.R_elder' (rK HO361) (Kd.R_base ho0) hb); have n1_ := Aside0.mk (Kd.R_elder' (rK HO365) (Kd.R_base ho0) hb); have n2_ := Aside0.mk (Kd.R_elder' (rK HO370) (Kd.R_base ho0) hb); have n3_ := Aside0.mk (Kd.R_lower (Kd.R_new' (Kd.R_new' (Kd.R_new' ho0 (Kd.R_lt (rK HO361))) (Kd.R_lt (rK HO365))) (Kd.R_lt (rK HO370))) (below_size (bH HB))); have n4_ := Aside0.mk (below_step (bH HB) hb); clear HO361; clear HO365; clear HO370; clear HB; have HO361 := n0_; have HO365 := n1_; have HO370 := n2_; have HO375 := n3_; have HB := n4_; clear n0_ n1_ n2_ n3_ n4_; (try clear hb); (try clear hb2); (try clear hk); (try clear hi); (try clear ho0)) | ((with_reducible refine gate_callee (f := 22) rfl ?_); refine goesL_ (some 73) rfl rfl Tryz.func22 (by kernel_rfl) rfl #[.slice A1 l1.length c1] rfl (by (try simp only [List.map_toArray, List.map_cons, List.map_nil]); first | done | rfl | (simp only [List.length_drop, List.length_take]; rfl)) ?_; (with_reducible refine (parts_Split.calls _ _ l1 t376 t377 _ ?side1 ?side2 A15.out).mono ?_); (case side1 => repeat (first | exact (Kd.C_below HR1.out HB.out) | (with_reducible refine Kd.C_alloc ?_ _) | (with_reducible refine Kd.C_drewN ?_ _) | (with_reducible refine Kd.C_drew ?_))); (case side2 => exact HC1.out); rintro e w22 ⟨v378, rfl, ho0, hb⟩; refine ⟨_, rfl, ?_⟩; have n0_ := Aside0.mk (Kd.R_below (rK HO361) hb); have n1_ := Aside0.mk (Kd.R_below (rK HO365) hb); have n2_ := Aside0.mk (Kd.R_below (rK HO370) hb); have n3_ := Aside0.mk (Kd.R_below (rK HO375) hb); have n4_ := Aside0.mk (Kd.S_lower (Kd.S_new' (Kd.S_new' (Kd.S_new' (Kd.S_new' ho0 (Kd.R_lt (rK HO361))) (Kd.R_lt (rK HO365))) (Kd.R_lt (rK HO370))) (Kd.R_lt (rK HO375))) (below_size (bH HB))); have n5_ := Aside0.mk (below_step (bH HB) hb); clear HO361; clear HO365; clear HO370; clear HO375; clear HB; have HO361 := n0_; have HO365 := n1_; have HO370 := n2_; have HO375 := n3_; have HO379 := n4_; have HB := n5_; clear n0_ n1_ n2_ n3_ n4_ n5_; (try clear hb); (try clear hb2); (try clear hk); (try clear hi); (try clear ho0)) | ((with_reducible refine gate_callee (f := 23) rfl ?_); refine goesL_ (some 78) rfl rfl Tryz.func23 (by kernel_rfl) rfl #[.slice A1 l1.length c1] rfl (by (try simp only [List.map_toArray, List.map_cons, List.map_nil]); first | done | rfl | (simp only [List.length_drop, List.length_take]; rfl)) ?_; (with_reducible refine (rf18_Split.calls kj5 _ _ l1 t380 t381 _ ?side1 ?side2 A16.out).mono ?_); (case side1 => repeat (first | exact (Kd.C_below HR1.out HB.out) | (with_reducible refine Kd.C_alloc ?_ _) | (with_reducible refine Kd.C_drewN ?_ _) | (with_reducible refine Kd.C_drew ?_))); (case side2 => exact HC1.out); rintro e w23 ⟨v382, rfl, ho0, hb⟩; refine ⟨_, rfl, ?_⟩; have n0_ := Aside0.mk (Kd.R_below (rK HO361) hb); have n1_ := Aside0.mk (Kd.R_below (rK HO365) hb); have n2_ := Aside0.mk (Kd.R_below (rK HO370) hb); have n3_ := Aside0.mk (Kd.R_below (rK HO375) hb); have n4_ := Aside0.mk (Kd.S_elder' (by (with_reducible repeat (first | apply Kd.S_alloc | apply Kd.S_drewN | apply Kd.S_drew)); exact HO379.out) (Kd.S_base ho0) hb); have n5_ := Aside0.mk (Kd.S_lower (Kd.S_new' (Kd.S_new' (Kd.S_new' (Kd.S_new' (Kd.S_new' ho0 (Kd.R_lt (rK HO361))) (Kd.R_lt (rK HO365))) (Kd.R_lt (rK HO370))) (Kd.R_lt (rK HO375))) (Kd.S_lt (by (with_reducible repeat (first | apply Kd.S_alloc | apply Kd.S_drewN | apply Kd.S_drew)); exact HO379.out))) (below_size (bH HB))); have n6_ := Aside0.mk (below_step (bH HB) hb); clear HO361; clear HO365; clear HO370; clear HO375; clear HO379; clear HB; have HO361 := n0_; have HO365 := n1_; have HO370 := n2_; have HO375 := n3_; have HO379 := n4_; have HO383 := n5_; have HB := n6_; clear n0_ n1_ n2_ n3_ n4_ n5_ n6_; (try clear hb); (try clear hb2); (try clear hk); (try clear hi); (try clear ho0)))
       (try simp only [Act.put, List.setIfInBounds_toArray, List.set_cons_zero, List.set_cons_succ])
       go_cut [116] (fun v116 wc => ∃ (kq : Nat) (x116_16 : Bool), v116 = .bool x116_16 ∧ Aside0 (lw_PartsRows.j2 kq l0 t358 t359 x116_16 = some r) ∧ Aside0 (kq ≤ kj5) ∧ Aside0 (Kd.R (Kd.int .u8) 5 wc w.heap.size (fun _ => True) v360 t358) ∧ Aside0 (Below w.heap.size w wc))
       case first =>
        have H := HC17.out
        clear HC17
        replace H := Option.bind_eq_some_iff.mp H
        obtain ⟨t384, A240, H⟩ := H
        replace H : (if t384 = true then (if t359 = t363 then ((rf00_Same.f t366 t371).bind fun t385 => (if t385 = true then (if t367 = t372 then (if t368 = t373 then ((rf18_Same.f t376 t380).bind fun t386 => (if t386 = true then (lw_PartsRows.j2 kj5 l0 t358 t359 (t377 != t381)) else (lw_PartsRows.j2 kj5 l0 t358 t359 true))) else (lw_PartsRows.j2 kj5 l0 t358 t359 true)) else (lw_PartsRows.j2 kj5 l0 t358 t359 true)) else (lw_PartsRows.j2 kj5 l0 t358 t359 true))) else (lw_PartsRows.j2 kj5 l0 t358 t359 true)) else (lw_PartsRows.j2 kj5 l0 t358 t359 true)) = some r := H
        have A24 := Aside0.mk A240
        clear A240
        by_cases c25 : t384 = true
        ·subst c25
         have H1 : (if t359 = t363 then ((rf00_Same.f t366 t371).bind fun t385 => (if t385 = true then (if t367 = t372 then (if t368 = t373 then ((rf18_Same.f t376 t380).bind fun t386 => (if t386 = true then (lw_PartsRows.j2 kj5 l0 t358 t359 (t377 != t381)) else (lw_PartsRows.j2 kj5 l0 t358 t359 true))) else (lw_PartsRows.j2 kj5 l0 t358 t359 true)) else (lw_PartsRows.j2 kj5 l0 t358 t359 true)) else (lw_PartsRows.j2 kj5 l0 t358 t359 true))) else (lw_PartsRows.j2 kj5 l0 t358 t359 true)) = some r := by rw [if_pos rfl] at H; exact H
         clear H
         have H := H1
         clear H1
         by_cases c26 : t359 = t363
         ·rw [if_pos c26] at H
          have c26b0 : (t359 == t363) = true := beq_iff_eq.mpr c26
          have c26b1 : (t359 != t363) = false := bne_eq_false_iff_eq.mpr c26
          clear c26
          (first | rw [c26b0] | (simp only [i64_w, i32_w]; rw [c26b0]) | skip)
          replace H := Option.bind_eq_some_iff.mp H
          obtain ⟨t385, A270, H⟩ := H
          replace H : (if t385 = true then (if t367 = t372 then (if t368 = t373 then ((rf18_Same.f t376 t380).bind fun t386 => (if t386 = true then (lw_PartsRows.j2 kj5 l0 t358 t359 (t377 != t381)) else (lw_PartsRows.j2 kj5 l0 t358 t359 true))) else (lw_PartsRows.j2 kj5 l0 t358 t359 true)) else (lw_PartsRows.j2 kj5 l0 t358 t359 true)) else (lw_PartsRows.j2 kj5 l0 t358 t359 true)) = some r := H
          have A27 := Aside0.mk A270
          clear A270
          by_cases c28 : t385 = true
          ·subst c28
           have H1 : (if t367 = t372 then (if t368 = t373 then ((rf18_Same.f t376 t380).bind fun t386 => (if t386 = true then (lw_PartsRows.j2 kj5 l0 t358 t359 (t377 != t381)) else (lw_PartsRows.j2 kj5 l0 t358 t359 true))) else (lw_PartsRows.j2 kj5 l0 t358 t359 true)) else (lw_PartsRows.j2 kj5 l0 t358 t359 true)) = some r := by rw [if_pos rfl] at H; exact H
           clear H
           have H := H1
           clear H1
           by_cases c29 : t367 = t372
           ·rw [if_pos c29] at H
            have c29b0 : (t367 == t372) = true := beq_iff_eq.mpr c29
            have c29b1 : (t367 != t372) = false := bne_eq_false_iff_eq.mpr c29
            clear c29
            by_cases c30 : t368 = t373
            ·rw [if_pos c30] at H
             have c30b0 : (t368 == t373) = true := beq_iff_eq.mpr c30
             have c30b1 : (t368 != t373) = false := bne_eq_false_iff_eq.mpr c30
             clear c30
             replace H := Option.bind_eq_some_iff.mp H
             obtain ⟨t386, A310, H⟩ := H
             replace H : (if t386 = true then (lw_PartsRows.j2 kj5 l0 t358 t359 (t377 != t381)) else (lw_PartsRows.j2 kj5 l0 t358 t359 true)) = some r := H
             have A31 := Aside0.mk A310
             clear A310
             by_cases c32 : t386 = true
             ·subst c32
              have H1 : (lw_PartsRows.j2 kj5 l0 t358 t359 (t377 != t381)) = some r := by rw [if_pos rfl] at H; exact H
              clear H
              have H := H1
              clear H1
              have H' := Aside0.mk H
              clear H
              obtain ⟨Ao33, co33, eo33⟩ := Kd.R_slice HO361.out
              subst eo33
              obtain ⟨Ao34, co34, eo34⟩ := Kd.R_slice HO365.out
              subst eo34
              go_wp2_with (first | ((with_reducible refine gate_callee (f := 16) rfl ?_); refine goesL_ (some 83) rfl rfl Tryz.func16 (by kernel_rfl) rfl #[.slice Ao33 t358.length co33, .slice Ao34 t362.length co34] rfl (by (try simp only [List.map_toArray, List.map_cons, List.map_nil]); first | done | rfl | (simp only [List.length_drop, List.length_take]; rfl)) ?_; (with_reducible refine (rf00_Same.calls _ _ t358 _ _ t362 true _ ?side1 ?side2 ?side3 ?side4 A24.out).mono ?_); (case side1 => repeat (first | exact (Kd.R_reads' HO361.out).2.2 | (with_reducible refine Kd.C_alloc ?_ _) | (with_reducible refine Kd.C_drewN ?_ _) | (with_reducible refine Kd.C_drew ?_))); (case side2 => exact (Kd.R_reads' HO361.out).2.1); (case side3 => repeat (first | exact (Kd.R_reads' HO365.out).2.2 | (with_reducible refine Kd.C_alloc ?_ _) | (with_reducible refine Kd.C_drewN ?_ _) | (with_reducible refine Kd.C_drew ?_))); (case side4 => exact (Kd.R_reads' HO365.out).2.1); rintro e w' ⟨rfl, ⟨nd, rfl⟩⟩; refine ⟨_, rfl, ?_⟩; obtain ⟨Ao35, co35, eo35⟩ := Kd.R_slice HO370.out; subst eo35; obtain ⟨Ao36, co36, eo36⟩ := Kd.R_slice HO375.out; subst eo36) | (go_at_call 16; (with_reducible refine (rf00_Same.calls _ _ t366 _ _ t371 true _ ?side1 ?side2 ?side3 ?side4 A27.out).mono ?_); (case side1 => repeat (first | exact (Kd.R_reads' HO370.out).2.2 | (with_reducible refine Kd.C_alloc ?_ _) | (with_reducible refine Kd.C_drewN ?_ _) | (with_reducible refine Kd.C_drew ?_))); (case side2 => exact (Kd.R_reads' HO370.out).2.1); (case side3 => repeat (first | exact (Kd.R_reads' HO375.out).2.2 | (with_reducible refine Kd.C_alloc ?_ _) | (with_reducible refine Kd.C_drewN ?_ _) | (with_reducible refine Kd.C_drew ?_))); (case side4 => exact (Kd.R_reads' HO375.out).2.1); rintro e w' ⟨rfl, ⟨nd, rfl⟩⟩; obtain ⟨Ao37, co37, eo37⟩ := Kd.S_slice HO379.out; subst eo37; obtain ⟨Ao38, co38, eo38⟩ := Kd.S_slice HO383.out; subst eo38) | (go_at_call 24; (with_reducible refine (rf18_Same.calls _ _ t376 _ _ t380 true _ ?side1 ?side2 ?side3 ?side4 A31.out).mono ?_); (case side1 => repeat (first | exact (Kd.S_reads' HO379.out).2.2 | (with_reducible refine Kd.C_alloc ?_ _) | (with_reducible refine Kd.C_drewN ?_ _) | (with_reducible refine Kd.C_drew ?_))); (case side2 => exact (Kd.S_reads' HO379.out).2.1); (case side3 => repeat (first | exact (Kd.S_reads' HO383.out).2.2 | (with_reducible refine Kd.C_alloc ?_ _) | (with_reducible refine Kd.C_drewN ?_ _) | (with_reducible refine Kd.C_drew ?_))); (case side4 => exact (Kd.S_reads' HO383.out).2.1); rintro e w39 ⟨rfl, hb⟩; have n0_ := Aside0.mk (Kd.R_below (rK HO361) hb); have n1_ := Aside0.mk (Kd.R_below (rK HO365) hb); have n2_ := Aside0.mk (Kd.R_below (rK HO370) hb); have n3_ := Aside0.mk (Kd.R_below (rK HO375) hb); have n4_ := Aside0.mk (Kd.S_below (by (with_reducible repeat (first | apply Kd.S_alloc | apply Kd.S_drewN | apply Kd.S_drew)); exact HO379.out) hb); have n5_ := Aside0.mk (Kd.S_below (by (with_reducible repeat (first | apply Kd.S_alloc | apply Kd.S_drewN | apply Kd.S_drew)); exact HO383.out) hb); have n6_ := Aside0.mk (below_step (bH HB) hb); clear HO361; clear HO365; clear HO370; clear HO375; clear HO379; clear HO383; clear HB; have HO361 := n0_; have HO365 := n1_; have HO370 := n2_; have HO375 := n3_; have HO379 := n4_; have HO383 := n5_; have HB := n6_; clear n0_ n1_ n2_ n3_ n4_ n5_ n6_; (try clear hb); (try clear hb2); (try clear hk); (try clear hi)))
              go_meet
              case rel => exact ⟨_, ((t377 != t381)), (by first | rfl | (simp; done) | (simp [*]; done)), H', ⟨by have := HK1.out; have := HJ5.out; first | omega | exact Nat.le_refl _⟩, ⟨by (with_reducible repeat (first | apply Kd.R_alloc | apply Kd.R_drewN | apply Kd.R_drew)); exact Kd.R_mono HO361.out (fun _ hk => trivial)⟩, ⟨ bH HB⟩⟩
             ·replace c32 := Bool.eq_false_iff.mpr c32
              subst c32
              have H1 : (lw_PartsRows.j2 kj5 l0 t358 t359 true) = some r := by rw [if_neg (show ¬ (false = true) by decide)] at H; exact H
              clear H
              have H := H1
              clear H1
              have H' := Aside0.mk H
              clear H
              obtain ⟨Ao40, co40, eo40⟩ := Kd.R_slice HO361.out
              subst eo40
              obtain ⟨Ao41, co41, eo41⟩ := Kd.R_slice HO365.out
              subst eo41
              go_wp2_with (first | ((with_reducible refine gate_callee (f := 16) rfl ?_); refine goesL_ (some 83) rfl rfl Tryz.func16 (by kernel_rfl) rfl #[.slice Ao40 t358.length co40, .slice Ao41 t362.length co41] rfl (by (try simp only [List.map_toArray, List.map_cons, List.map_nil]); first | done | rfl | (simp only [List.length_drop, List.length_take]; rfl)) ?_; (with_reducible refine (rf00_Same.calls _ _ t358 _ _ t362 true _ ?side1 ?side2 ?side3 ?side4 A24.out).mono ?_); (case side1 => repeat (first | exact (Kd.R_reads' HO361.out).2.2 | (with_reducible refine Kd.C_alloc ?_ _) | (with_reducible refine Kd.C_drewN ?_ _) | (with_reducible refine Kd.C_drew ?_))); (case side2 => exact (Kd.R_reads' HO361.out).2.1); (case side3 => repeat (first | exact (Kd.R_reads' HO365.out).2.2 | (with_reducible refine Kd.C_alloc ?_ _) | (with_reducible refine Kd.C_drewN ?_ _) | (with_reducible refine Kd.C_drew ?_))); (case side4 => exact (Kd.R_reads' HO365.out).2.1); rintro e w' ⟨rfl, ⟨nd, rfl⟩⟩; refine ⟨_, rfl, ?_⟩; obtain ⟨Ao42, co42, eo42⟩ := Kd.R_slice HO370.out; subst eo42; obtain ⟨Ao43, co43, eo43⟩ := Kd.R_slice HO375.out; subst eo43) | (go_at_call 16; (with_reducible refine (rf00_Same.calls _ _ t366 _ _ t371 true _ ?side1 ?side2 ?side3 ?side4 A27.out).mono ?_); (case side1 => repeat (first | exact (Kd.R_reads' HO370.out).2.2 | (with_reducible refine Kd.C_alloc ?_ _) | (with_reducible refine Kd.C_drewN ?_ _) | (with_reducible refine Kd.C_drew ?_))); (case side2 => exact (Kd.R_reads' HO370.out).2.1); (case side3 => repeat (first | exact (Kd.R_reads' HO375.out).2.2 | (with_reducible refine Kd.C_alloc ?_ _) | (with_reducible refine Kd.C_drewN ?_ _) | (with_reducible refine Kd.C_drew ?_))); (case side4 => exact (Kd.R_reads' HO375.out).2.1); rintro e w' ⟨rfl, ⟨nd, rfl⟩⟩; obtain ⟨Ao44, co44, eo44⟩ := Kd.S_slice HO379.out; subst eo44; obtain ⟨Ao45, co45, eo45⟩ := Kd.S_slice HO383.out; subst eo45) | (go_at_call 24; (with_reducible refine (rf18_Same.calls _ _ t376 _ _ t380 false _ ?side1 ?side2 ?side3 ?side4 A31.out).mono ?_); (case side1 => repeat (first | exact (Kd.S_reads' HO379.out).2.2 | (with_reducible refine Kd.C_alloc ?_ _) | (with_reducible refine Kd.C_drewN ?_ _) | (with_reducible refine Kd.C_drew ?_))); (case side2 => exact (Kd.S_reads' HO379.out).2.1); (case side3 => repeat (first | exact (Kd.S_reads' HO383.out).2.2 | (with_reducible refine Kd.C_alloc ?_ _) | (with_reducible refine Kd.C_drewN ?_ _) | (with_reducible refine Kd.C_drew ?_))); (case side4 => exact (Kd.S_reads' HO383.out).2.1); rintro e w46 ⟨rfl, hb⟩; have n0_ := Aside0.mk (Kd.R_below (rK HO361) hb); have n1_ := Aside0.mk (Kd.R_below (rK HO365) hb); have n2_ := Aside0.mk (Kd.R_below (rK HO370) hb); have n3_ := Aside0.mk (Kd.R_below (rK HO375) hb); have n4_ := Aside0.mk (Kd.S_below (by (with_reducible repeat (first | apply Kd.S_alloc | apply Kd.S_drewN | apply Kd.S_drew)); exact HO379.out) hb); have n5_ := Aside0.mk (Kd.S_below (by (with_reducible repeat (first | apply Kd.S_alloc | apply Kd.S_drewN | apply Kd.S_drew)); exact HO383.out) hb); have n6_ := Aside0.mk (below_step (bH HB) hb); clear HO361; clear HO365; clear HO370; clear HO375; clear HO379; clear HO383; clear HB; have HO361 := n0_; have HO365 := n1_; have HO370 := n2_; have HO375 := n3_; have HO379 := n4_; have HO383 := n5_; have HB := n6_; clear n0_ n1_ n2_ n3_ n4_ n5_ n6_; (try clear hb); (try clear hb2); (try clear hk); (try clear hi)))
              go_meet
              case rel => exact ⟨_, (true), (by first | rfl | (simp; done) | (simp [*]; done)), H', ⟨by have := HK1.out; have := HJ5.out; first | omega | exact Nat.le_refl _⟩, ⟨by (with_reducible repeat (first | apply Kd.R_alloc | apply Kd.R_drewN | apply Kd.R_drew)); exact Kd.R_mono HO361.out (fun _ hk => trivial)⟩, ⟨ bH HB⟩⟩
            ·rw [if_neg c30] at H
             have c30b0 : (t368 == t373) = false := beq_eq_false_iff_ne.mpr c30
             have c30b1 : (t368 != t373) = true := bne_iff_ne.mpr c30
             have H' := Aside0.mk H
             clear H
             obtain ⟨Ao47, co47, eo47⟩ := Kd.R_slice HO361.out
             subst eo47
             obtain ⟨Ao48, co48, eo48⟩ := Kd.R_slice HO365.out
             subst eo48
             go_wp2_with (first | ((with_reducible refine gate_callee (f := 16) rfl ?_); refine goesL_ (some 83) rfl rfl Tryz.func16 (by kernel_rfl) rfl #[.slice Ao47 t358.length co47, .slice Ao48 t362.length co48] rfl (by (try simp only [List.map_toArray, List.map_cons, List.map_nil]); first | done | rfl | (simp only [List.length_drop, List.length_take]; rfl)) ?_; (with_reducible refine (rf00_Same.calls _ _ t358 _ _ t362 true _ ?side1 ?side2 ?side3 ?side4 A24.out).mono ?_); (case side1 => repeat (first | exact (Kd.R_reads' HO361.out).2.2 | (with_reducible refine Kd.C_alloc ?_ _) | (with_reducible refine Kd.C_drewN ?_ _) | (with_reducible refine Kd.C_drew ?_))); (case side2 => exact (Kd.R_reads' HO361.out).2.1); (case side3 => repeat (first | exact (Kd.R_reads' HO365.out).2.2 | (with_reducible refine Kd.C_alloc ?_ _) | (with_reducible refine Kd.C_drewN ?_ _) | (with_reducible refine Kd.C_drew ?_))); (case side4 => exact (Kd.R_reads' HO365.out).2.1); rintro e w' ⟨rfl, ⟨nd, rfl⟩⟩; refine ⟨_, rfl, ?_⟩; obtain ⟨Ao49, co49, eo49⟩ := Kd.R_slice HO370.out; subst eo49; obtain ⟨Ao50, co50, eo50⟩ := Kd.R_slice HO375.out; subst eo50) | (go_at_call 16; (with_reducible refine (rf00_Same.calls _ _ t366 _ _ t371 true _ ?side1 ?side2 ?side3 ?side4 A27.out).mono ?_); (case side1 => repeat (first | exact (Kd.R_reads' HO370.out).2.2 | (with_reducible refine Kd.C_alloc ?_ _) | (with_reducible refine Kd.C_drewN ?_ _) | (with_reducible refine Kd.C_drew ?_))); (case side2 => exact (Kd.R_reads' HO370.out).2.1); (case side3 => repeat (first | exact (Kd.R_reads' HO375.out).2.2 | (with_reducible refine Kd.C_alloc ?_ _) | (with_reducible refine Kd.C_drewN ?_ _) | (with_reducible refine Kd.C_drew ?_))); (case side4 => exact (Kd.R_reads' HO375.out).2.1); rintro e w' ⟨rfl, ⟨nd, rfl⟩⟩))
             go_meet
             case rel => exact ⟨_, (true), (by first | rfl | (simp; done) | (simp [*]; done)), H', ⟨by have := HK1.out; have := HJ5.out; first | omega | exact Nat.le_refl _⟩, ⟨by (with_reducible repeat (first | apply Kd.R_alloc | apply Kd.R_drewN | apply Kd.R_drew)); exact Kd.R_mono HO361.out (fun _ hk => trivial)⟩, ⟨ bH HB⟩⟩
           ·rw [if_neg c29] at H
            have c29b0 : (t367 == t372) = false := beq_eq_false_iff_ne.mpr c29
            have c29b1 : (t367 != t372) = true := bne_iff_ne.mpr c29
            have H' := Aside0.mk H
            clear H
            obtain ⟨Ao51, co51, eo51⟩ := Kd.R_slice HO361.out
            subst eo51
            obtain ⟨Ao52, co52, eo52⟩ := Kd.R_slice HO365.out
            subst eo52
            go_wp2_with (first | ((with_reducible refine gate_callee (f := 16) rfl ?_); refine goesL_ (some 83) rfl rfl Tryz.func16 (by kernel_rfl) rfl #[.slice Ao51 t358.length co51, .slice Ao52 t362.length co52] rfl (by (try simp only [List.map_toArray, List.map_cons, List.map_nil]); first | done | rfl | (simp only [List.length_drop, List.length_take]; rfl)) ?_; (with_reducible refine (rf00_Same.calls _ _ t358 _ _ t362 true _ ?side1 ?side2 ?side3 ?side4 A24.out).mono ?_); (case side1 => repeat (first | exact (Kd.R_reads' HO361.out).2.2 | (with_reducible refine Kd.C_alloc ?_ _) | (with_reducible refine Kd.C_drewN ?_ _) | (with_reducible refine Kd.C_drew ?_))); (case side2 => exact (Kd.R_reads' HO361.out).2.1); (case side3 => repeat (first | exact (Kd.R_reads' HO365.out).2.2 | (with_reducible refine Kd.C_alloc ?_ _) | (with_reducible refine Kd.C_drewN ?_ _) | (with_reducible refine Kd.C_drew ?_))); (case side4 => exact (Kd.R_reads' HO365.out).2.1); rintro e w' ⟨rfl, ⟨nd, rfl⟩⟩; refine ⟨_, rfl, ?_⟩; obtain ⟨Ao53, co53, eo53⟩ := Kd.R_slice HO370.out; subst eo53; obtain ⟨Ao54, co54, eo54⟩ := Kd.R_slice HO375.out; subst eo54) | (go_at_call 16; (with_reducible refine (rf00_Same.calls _ _ t366 _ _ t371 true _ ?side1 ?side2 ?side3 ?side4 A27.out).mono ?_); (case side1 => repeat (first | exact (Kd.R_reads' HO370.out).2.2 | (with_reducible refine Kd.C_alloc ?_ _) | (with_reducible refine Kd.C_drewN ?_ _) | (with_reducible refine Kd.C_drew ?_))); (case side2 => exact (Kd.R_reads' HO370.out).2.1); (case side3 => repeat (first | exact (Kd.R_reads' HO375.out).2.2 | (with_reducible refine Kd.C_alloc ?_ _) | (with_reducible refine Kd.C_drewN ?_ _) | (with_reducible refine Kd.C_drew ?_))); (case side4 => exact (Kd.R_reads' HO375.out).2.1); rintro e w' ⟨rfl, ⟨nd, rfl⟩⟩))
            go_meet
            case rel => exact ⟨_, (true), (by first | rfl | (simp; done) | (simp [*]; done)), H', ⟨by have := HK1.out; have := HJ5.out; first | omega | exact Nat.le_refl _⟩, ⟨by (with_reducible repeat (first | apply Kd.R_alloc | apply Kd.R_drewN | apply Kd.R_drew)); exact Kd.R_mono HO361.out (fun _ hk => trivial)⟩, ⟨ bH HB⟩⟩
          ·replace c28 := Bool.eq_false_iff.mpr c28
           subst c28
           have H1 : (lw_PartsRows.j2 kj5 l0 t358 t359 true) = some r := by rw [if_neg (show ¬ (false = true) by decide)] at H; exact H
           clear H
           have H := H1
           clear H1
           have H' := Aside0.mk H
           clear H
           obtain ⟨Ao55, co55, eo55⟩ := Kd.R_slice HO361.out
           subst eo55
           obtain ⟨Ao56, co56, eo56⟩ := Kd.R_slice HO365.out
           subst eo56
           go_wp2_with (first | ((with_reducible refine gate_callee (f := 16) rfl ?_); refine goesL_ (some 83) rfl rfl Tryz.func16 (by kernel_rfl) rfl #[.slice Ao55 t358.length co55, .slice Ao56 t362.length co56] rfl (by (try simp only [List.map_toArray, List.map_cons, List.map_nil]); first | done | rfl | (simp only [List.length_drop, List.length_take]; rfl)) ?_; (with_reducible refine (rf00_Same.calls _ _ t358 _ _ t362 true _ ?side1 ?side2 ?side3 ?side4 A24.out).mono ?_); (case side1 => repeat (first | exact (Kd.R_reads' HO361.out).2.2 | (with_reducible refine Kd.C_alloc ?_ _) | (with_reducible refine Kd.C_drewN ?_ _) | (with_reducible refine Kd.C_drew ?_))); (case side2 => exact (Kd.R_reads' HO361.out).2.1); (case side3 => repeat (first | exact (Kd.R_reads' HO365.out).2.2 | (with_reducible refine Kd.C_alloc ?_ _) | (with_reducible refine Kd.C_drewN ?_ _) | (with_reducible refine Kd.C_drew ?_))); (case side4 => exact (Kd.R_reads' HO365.out).2.1); rintro e w' ⟨rfl, ⟨nd, rfl⟩⟩; refine ⟨_, rfl, ?_⟩; obtain ⟨Ao57, co57, eo57⟩ := Kd.R_slice HO370.out; subst eo57; obtain ⟨Ao58, co58, eo58⟩ := Kd.R_slice HO375.out; subst eo58) | (go_at_call 16; (with_reducible refine (rf00_Same.calls _ _ t366 _ _ t371 false _ ?side1 ?side2 ?side3 ?side4 A27.out).mono ?_); (case side1 => repeat (first | exact (Kd.R_reads' HO370.out).2.2 | (with_reducible refine Kd.C_alloc ?_ _) | (with_reducible refine Kd.C_drewN ?_ _) | (with_reducible refine Kd.C_drew ?_))); (case side2 => exact (Kd.R_reads' HO370.out).2.1); (case side3 => repeat (first | exact (Kd.R_reads' HO375.out).2.2 | (with_reducible refine Kd.C_alloc ?_ _) | (with_reducible refine Kd.C_drewN ?_ _) | (with_reducible refine Kd.C_drew ?_))); (case side4 => exact (Kd.R_reads' HO375.out).2.1); rintro e w' ⟨rfl, ⟨nd, rfl⟩⟩))
           go_meet
           case rel => exact ⟨_, (true), (by first | rfl | (simp; done) | (simp [*]; done)), H', ⟨by have := HK1.out; have := HJ5.out; first | omega | exact Nat.le_refl _⟩, ⟨by (with_reducible repeat (first | apply Kd.R_alloc | apply Kd.R_drewN | apply Kd.R_drew)); exact Kd.R_mono HO361.out (fun _ hk => trivial)⟩, ⟨ bH HB⟩⟩
         ·rw [if_neg c26] at H
          have c26b0 : (t359 == t363) = false := beq_eq_false_iff_ne.mpr c26
          have c26b1 : (t359 != t363) = true := bne_iff_ne.mpr c26
          (first | rw [c26b0] | (simp only [i64_w, i32_w]; rw [c26b0]) | skip)
          have H' := Aside0.mk H
          clear H
          obtain ⟨Ao59, co59, eo59⟩ := Kd.R_slice HO361.out
          subst eo59
          obtain ⟨Ao60, co60, eo60⟩ := Kd.R_slice HO365.out
          subst eo60
          go_wp2_with (first | ((with_reducible refine gate_callee (f := 16) rfl ?_); refine goesL_ (some 83) rfl rfl Tryz.func16 (by kernel_rfl) rfl #[.slice Ao59 t358.length co59, .slice Ao60 t362.length co60] rfl (by (try simp only [List.map_toArray, List.map_cons, List.map_nil]); first | done | rfl | (simp only [List.length_drop, List.length_take]; rfl)) ?_; (with_reducible refine (rf00_Same.calls _ _ t358 _ _ t362 true _ ?side1 ?side2 ?side3 ?side4 A24.out).mono ?_); (case side1 => repeat (first | exact (Kd.R_reads' HO361.out).2.2 | (with_reducible refine Kd.C_alloc ?_ _) | (with_reducible refine Kd.C_drewN ?_ _) | (with_reducible refine Kd.C_drew ?_))); (case side2 => exact (Kd.R_reads' HO361.out).2.1); (case side3 => repeat (first | exact (Kd.R_reads' HO365.out).2.2 | (with_reducible refine Kd.C_alloc ?_ _) | (with_reducible refine Kd.C_drewN ?_ _) | (with_reducible refine Kd.C_drew ?_))); (case side4 => exact (Kd.R_reads' HO365.out).2.1); rintro e w' ⟨rfl, ⟨nd, rfl⟩⟩; refine ⟨_, rfl, ?_⟩))
          go_meet
          case rel => exact ⟨_, (true), (by first | rfl | (simp; done) | (simp [*]; done)), H', ⟨by have := HK1.out; have := HJ5.out; first | omega | exact Nat.le_refl _⟩, ⟨by (with_reducible repeat (first | apply Kd.R_alloc | apply Kd.R_drewN | apply Kd.R_drew)); exact Kd.R_mono HO361.out (fun _ hk => trivial)⟩, ⟨ bH HB⟩⟩
        ·replace c25 := Bool.eq_false_iff.mpr c25
         subst c25
         have H1 : (lw_PartsRows.j2 kj5 l0 t358 t359 true) = some r := by rw [if_neg (show ¬ (false = true) by decide)] at H; exact H
         clear H
         have H := H1
         clear H1
         have H' := Aside0.mk H
         clear H
         obtain ⟨Ao61, co61, eo61⟩ := Kd.R_slice HO361.out
         subst eo61
         obtain ⟨Ao62, co62, eo62⟩ := Kd.R_slice HO365.out
         subst eo62
         go_wp2_with (first | ((with_reducible refine gate_callee (f := 16) rfl ?_); refine goesL_ (some 83) rfl rfl Tryz.func16 (by kernel_rfl) rfl #[.slice Ao61 t358.length co61, .slice Ao62 t362.length co62] rfl (by (try simp only [List.map_toArray, List.map_cons, List.map_nil]); first | done | rfl | (simp only [List.length_drop, List.length_take]; rfl)) ?_; (with_reducible refine (rf00_Same.calls _ _ t358 _ _ t362 false _ ?side1 ?side2 ?side3 ?side4 A24.out).mono ?_); (case side1 => repeat (first | exact (Kd.R_reads' HO361.out).2.2 | (with_reducible refine Kd.C_alloc ?_ _) | (with_reducible refine Kd.C_drewN ?_ _) | (with_reducible refine Kd.C_drew ?_))); (case side2 => exact (Kd.R_reads' HO361.out).2.1); (case side3 => repeat (first | exact (Kd.R_reads' HO365.out).2.2 | (with_reducible refine Kd.C_alloc ?_ _) | (with_reducible refine Kd.C_drewN ?_ _) | (with_reducible refine Kd.C_drew ?_))); (case side4 => exact (Kd.R_reads' HO365.out).2.1); rintro e w' ⟨rfl, ⟨nd, rfl⟩⟩; refine ⟨_, rfl, ?_⟩))
         go_meet
         case rel => exact ⟨_, (true), (by first | rfl | (simp; done) | (simp [*]; done)), H', ⟨by have := HK1.out; have := HJ5.out; first | omega | exact Nat.le_refl _⟩, ⟨by (with_reducible repeat (first | apply Kd.R_alloc | apply Kd.R_drewN | apply Kd.R_drew)); exact Kd.R_mono HO361.out (fun _ hk => trivial)⟩, ⟨ bH HB⟩⟩
       case rest =>
        clear HC17
        try clear c1
        try clear c2
        try clear p2
        try clear c3
        try clear p3
        try clear q3
        try clear hx3
        try clear c4
        try clear c4b0
        try clear c5
        try clear c5b0
        try clear p6
        try clear c7
        try clear c7b0
        try clear c8
        try clear c11
        try clear c16
        try clear c18
        try clear c19
        try clear c20
        try clear c21
        try clear c22
        try clear c23
        try clear c25
        try clear c26
        try clear c26b0
        try clear c26b1
        try clear c28
        try clear c29
        try clear c29b0
        try clear c29b1
        try clear c30
        try clear c30b0
        try clear c30b1
        try clear c32
        try clear c35
        try clear p35
        try clear q35
        try clear hx35
        try clear hx356_0
        try clear p2
        try clear p3
        try clear p356
        try clear p6
        try clear q3
        try clear q356
        obtain ⟨kq, x116_16, rfl, HA, HJ16, HO_9, HB⟩ := hcut
        cases kq with
        | zero => exact absurd HA.out (by simp [lw_PartsRows.j2])
        | succ kj16 =>
         have H := HA.out
         clear HA
         simp only [lw_PartsRows.j2] at H
         by_cases c63 : x116_16 = true
         ·subst c63
          have H1 : (none) = some r := by rw [if_pos rfl] at H; exact H
          clear H
          have H := H1
          clear H1
          exact absurd H (by simp)
         ·replace c63 := Bool.eq_false_iff.mpr c63
          subst c63
          have H1 : (if t359 = 0 then ((parts_Split.f t358).bind fun bt387 => (if bt387.2 = 0 then ((rf18_Same.f bt387.1 l0).bind fun t391 => (if t391 = true then ((lw_known.f).bind fun t392 => (some t392)) else (none))) else (none))) else ((lw_known.f).bind fun t393 => (some t393))) = some r := by rw [if_neg (show ¬ (false = true) by decide)] at H; exact H
          clear H
          have H := H1
          clear H1
          by_cases c64 : t359 = 0
          ·rw [if_pos c64] at H
           have c64b0 : (t359 == 0) = true := beq_iff_eq.mpr c64
           have c64b1 : (t359 != 0) = false := bne_eq_false_iff_eq.mpr c64
           clear c64
           replace H := Option.bind_eq_some_iff.mp H
           obtain ⟨⟨t387, t388⟩, A650, H⟩ := H
           replace H : (if t388 = 0 then ((rf18_Same.f t387 l0).bind fun t391 => (if t391 = true then ((lw_known.f).bind fun t392 => (some t392)) else (none))) else (none)) = some r := H
           have A65 := Aside0.mk A650
           clear A650
           by_cases c66 : t388 = 0
           ·rw [if_pos c66] at H
            have c66b0 : (t388 == 0) = true := beq_iff_eq.mpr c66
            have c66b1 : (t388 != 0) = false := bne_eq_false_iff_eq.mpr c66
            clear c66
            replace H := Option.bind_eq_some_iff.mp H
            obtain ⟨t391, A670, H⟩ := H
            replace H : (if t391 = true then ((lw_known.f).bind fun t392 => (some t392)) else (none)) = some r := H
            have A67 := Aside0.mk A670
            clear A670
            by_cases c68 : t391 = true
            ·subst c68
             have H1 : ((lw_known.f).bind fun t392 => (some t392)) = some r := by rw [if_pos rfl] at H; exact H
             clear H
             have H := H1
             clear H1
             replace H := Option.bind_eq_some_iff.mp H
             obtain ⟨t392, A690, H⟩ := H
             replace H : (some t392) = some r := H
             have A69 := Aside0.mk A690
             clear A690
             obtain rfl := Option.some.inj H
             obtain ⟨Ao70, co70, eo70⟩ := Kd.R_slice HO_9.out
             subst eo70
             go_wp2_with (first | ((with_reducible refine gate_callee (f := 22) rfl ?_); refine goesL_ (some 122) rfl rfl Tryz.func22 (by kernel_rfl) rfl #[.slice Ao70 t358.length co70] rfl (by (try simp only [List.map_toArray, List.map_cons, List.map_nil]); first | done | rfl | (simp only [List.length_drop, List.length_take]; rfl)) ?_; (with_reducible refine (parts_Split.calls _ _ t358 t387 t388 _ ?side1 ?side2 A65.out).mono ?_); (case side1 => repeat (first | exact (Kd.R_reads' HO_9.out).2.2 | (with_reducible refine Kd.C_alloc ?_ _) | (with_reducible refine Kd.C_drewN ?_ _) | (with_reducible refine Kd.C_drew ?_))); (case side2 => exact (Kd.R_reads' HO_9.out).2.1); rintro e w71 ⟨v389, rfl, ho0, hb⟩; refine ⟨_, rfl, ?_⟩; have n0_ := Aside0.mk (Kd.R_below (rK HO_9) hb); have n1_ := Aside0.mk (Kd.S_lower (Kd.S_new' ho0 (Kd.R_lt (rK HO_9))) (below_size (bH HB))); have n2_ := Aside0.mk (below_step (bH HB) hb); clear HO_9; clear HB; have HO_9 := n0_; have HO390 := n1_; have HB := n2_; clear n0_ n1_ n2_; (try clear hb); (try clear hb2); (try clear hk); (try clear hi); (try clear ho0); obtain ⟨Ao72, co72, eo72⟩ := Kd.S_slice HO390.out; subst eo72) | (go_at_call 24; (with_reducible refine (rf18_Same.calls _ _ t387 _ _ l0 true _ ?side1 ?side2 ?side3 ?side4 A67.out).mono ?_); (case side1 => repeat (first | exact (Kd.S_reads' HO390.out).2.2 | (with_reducible refine Kd.C_alloc ?_ _) | (with_reducible refine Kd.C_drewN ?_ _) | (with_reducible refine Kd.C_drew ?_))); (case side2 => exact (Kd.S_reads' HO390.out).2.1); (case side3 => repeat (first | exact (Kd.C_below HR0.out HB.out) | (with_reducible refine Kd.C_alloc ?_ _) | (with_reducible refine Kd.C_drewN ?_ _) | (with_reducible refine Kd.C_drew ?_))); (case side4 => exact HC0.out); rintro e w73 ⟨rfl, hb⟩; have n0_ := Aside0.mk (Kd.R_below (rK HO_9) hb); have n1_ := Aside0.mk (Kd.S_below (by (with_reducible repeat (first | apply Kd.S_alloc | apply Kd.S_drewN | apply Kd.S_drew)); exact HO390.out) hb); have n2_ := Aside0.mk (below_step (bH HB) hb); clear HO_9; clear HO390; clear HB; have HO_9 := n0_; have HO390 := n1_; have HB := n2_; clear n0_ n1_ n2_; (try clear hb); (try clear hb2); (try clear hk); (try clear hi)) | (go_at_call 11; (with_reducible refine (lw_known.calls  t392 _ A69.out).mono ?_); rintro e w74 ⟨rfl, hb⟩; have n0_ := Aside0.mk (Kd.R_below (rK HO_9) hb); have n1_ := Aside0.mk (Kd.S_below (by (with_reducible repeat (first | apply Kd.S_alloc | apply Kd.S_drewN | apply Kd.S_drew)); exact HO390.out) hb); have n2_ := Aside0.mk (below_step (bH HB) hb); clear HO_9; clear HO390; clear HB; have HO_9 := n0_; have HO390 := n1_; have HB := n2_; clear n0_ n1_ n2_; (try clear hb); (try clear hb2); (try clear hk); (try clear hi)))
             go_ret
             exact ⟨by first | rfl | (simp [errW_none, errW_some] <;> rfl) | (simp [*, errW_none, errW_some] <;> rfl), bH HB⟩
            ·replace c68 := Bool.eq_false_iff.mpr c68
             subst c68
             have H1 : (none) = some r := by rw [if_neg (show ¬ (false = true) by decide)] at H; exact H
             clear H
             have H := H1
             clear H1
             exact absurd H (by simp)
           ·rw [if_neg c66] at H
            exact absurd H (by simp)
          ·rw [if_neg c64] at H
           have c64b0 : (t359 == 0) = false := beq_eq_false_iff_ne.mpr c64
           have c64b1 : (t359 != 0) = true := bne_iff_ne.mpr c64
           replace H := Option.bind_eq_some_iff.mp H
           obtain ⟨t393, A750, H⟩ := H
           replace H : (some t393) = some r := H
           have A75 := Aside0.mk A750
           clear A750
           obtain rfl := Option.some.inj H
           go_wp2_with (first | ((with_reducible refine gate_callee (f := 11) rfl ?_); refine goesL_ (some 119) rfl rfl Tryz.func11 (by kernel_rfl) rfl #[] rfl (by (try simp only [List.map_toArray, List.map_cons, List.map_nil]); first | done | rfl | (simp only [List.length_drop, List.length_take]; rfl)) ?_; (with_reducible refine (lw_known.calls  t393 _ A75.out).mono ?_); rintro e w76 ⟨rfl, hb⟩; refine ⟨_, rfl, ?_⟩; have n0_ := Aside0.mk (Kd.R_below (rK HO_9) hb); have n1_ := Aside0.mk (below_step (bH HB) hb); clear HO_9; clear HB; have HO_9 := n0_; have HB := n1_; clear n0_ n1_; (try clear hb); (try clear hb2); (try clear hk); (try clear hi)))
           go_ret
           exact ⟨by first | rfl | (simp [errW_none, errW_some] <;> rfl) | (simp [*, errW_none, errW_some] <;> rfl), bH HB⟩
end Go.Proofs.YtbdbobjdlomjnaaGreatDoor.P
