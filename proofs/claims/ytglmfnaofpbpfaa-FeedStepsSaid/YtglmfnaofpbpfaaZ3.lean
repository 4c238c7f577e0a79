/- Written for this claim by a program of this session (a turned copy of the print): Go functions as Lean functions, and that the Go code comes to just these answers; or a statement proved out of them. No condition. -/
import Derived.Test.YtglmfnaofpbpfaaZ2

namespace Go.Proofs.Ytglmfnaofpbpfaa.P
open Go.RowKit Go.Proofs.YtglmfnaofpbpfaaW.PrintWords Go.Proofs.YtglmfnaofpbpfaaW.PrintLast Go.Proofs.YtglmfnaofpbpfaaW.PrintMore Go.Proofs.Ytglmfnaofpbpfaa.X
attribute [local go_sem] max2_int min2_int max_two min_two max_three min_three max_four min_four   -- for this text's walks alone
set_option linter.unusedVariables false
set_option linter.unusedSimpArgs false

/-! ### vint_Field: function 34 -/
mutual
def vint_Field.j0 : Nat → List Int → Int → Int → Bool → Option (Int × Int)
 | 0, _, _, _, _ => none
 | k + 1, x0, x1, x2, x10 => if x10 = true then (some (0, 2)) else (if x1 > (wrap64 ((x0.length : Int) - x2)) then (some (0, 10)) else (vint_Field.l0 k x0 x1 0 x2 0))
def vint_Field.l0 : Nat → List Int → Int → Int → Int → Int → Option (Int × Int)
 | 0, _, _, _, _, _ => none
 | k + 1, x0, x1, x8, x28, x29 => if x29 < x28 then (if 0 ≤ (wrap64 (x1 + x29)) then (if (wrap64 (x1 + x29)) < (x0.length : Int) then (if 0 ≤ (wrap64 (8 * x29)) then (vint_Field.l0 k x0 x1 (Go.bits .or .u64 x8 (shl .u64 (IntKind.u64.wrap (rd x0 (wrap64 (x1 + x29)))) (wrap64 (8 * x29)))) x28 (wrap64 (x29 + 1))) else (none)) else (none)) else (none)) else (some (x8, 0))
end
def vint_Field.f (k : Nat) (l0 : List Int) (a1 : Int) (a2 : Int) : Option (Int × Int) := if a2 < 1 then (vint_Field.j0 k l0 a1 a2 true) else (if a2 > 8 then (vint_Field.j0 k l0 a1 a2 true) else (vint_Field.j0 k l0 a1 a2 (decide (a1 < 0))))
theorem vint_Field.mono_l : ∀ k, (∀ y0 y1 y2 y3, LeO (vint_Field.j0 k y0 y1 y2 y3) (vint_Field.j0 (k + 1) y0 y1 y2 y3)) ∧ (∀ y0 y1 y2 y3 y4, LeO (vint_Field.l0 k y0 y1 y2 y3 y4) (vint_Field.l0 (k + 1) y0 y1 y2 y3 y4))
 | 0 => ⟨fun _ _ _ _ r h => by simp [vint_Field.j0] at h, fun _ _ _ _ _ r h => by simp [vint_Field.l0] at h⟩
 | k + 1 => by
  obtain ⟨ih0, ih1⟩ := vint_Field.mono_l k
  refine ⟨?_, ?_⟩
  ·intro y0 y1 y2 y3
   unfold vint_Field.j0
   repeat' first
   | (with_reducible exact ih0 _ _ _ _)
   | (with_reducible exact ih1 _ _ _ _ _)
   | (with_reducible exact LeO.refl _)
   | (with_reducible exact LeO.none _)
   | (with_reducible refine LeO.ite ?_ ?_)
   | (with_reducible refine LeO.bind ?_ (fun _ => ?_))
   | exact ih0 _ _ _ _
   | exact ih1 _ _ _ _ _
   | exact LeO.none _
   | refine LeO.ite ?_ ?_
   | refine LeO.bind ?_ (fun _ => ?_)
  ·intro y0 y1 y2 y3 y4
   unfold vint_Field.l0
   repeat' first
   | (with_reducible exact ih0 _ _ _ _)
   | (with_reducible exact ih1 _ _ _ _ _)
   | (with_reducible exact LeO.refl _)
   | (with_reducible exact LeO.none _)
   | (with_reducible refine LeO.ite ?_ ?_)
   | (with_reducible refine LeO.bind ?_ (fun _ => ?_))
   | exact ih0 _ _ _ _
   | exact ih1 _ _ _ _ _
   | exact LeO.none _
   | refine LeO.ite ?_ ?_
   | refine LeO.bind ?_ (fun _ => ?_)
theorem vint_Field.mono : ∀ a0 a1 a2 k, LeO (vint_Field.f k a0 a1 a2) (vint_Field.f (k + 1) a0 a1 a2) := by
 intro a0 a1 a2 k
 obtain ⟨ih0, ih1⟩ := vint_Field.mono_l k
 unfold vint_Field.f
 repeat' first
   | (with_reducible exact ih0 _ _ _ _)
   | (with_reducible exact ih1 _ _ _ _ _)
   | (with_reducible exact LeO.refl _)
   | (with_reducible exact LeO.none _)
   | (with_reducible refine LeO.ite ?_ ?_)
   | (with_reducible refine LeO.bind ?_ (fun _ => ?_))
   | exact ih0 _ _ _ _
   | exact ih1 _ _ _ _ _
   | exact LeO.none _
   | refine LeO.ite ?_ ?_
   | refine LeO.bind ?_ (fun _ => ?_)
set_option maxHeartbeats 8000000 in
set_option maxRecDepth 100000 in
theorem vint_Field.calls (k : Nat) (A0 : Option Addr) (c0 : Nat) (l0 : List Int) (a1 : Int) (a2 : Int) (r1 : Int) (r2 : Int) (w : World) (hr0 : Kd.C (Kd.int .u8) w A0 l0.length l0) (hc0 : l0.length ≤ c0) (h : vint_Field.f k l0 a1 a2 = some (r1, r2)) :
  Calls Try.prog 34 #[.slice A0 l0.length c0, .int .i64 a1, .int .i64 a2] w fun e w' => e = .returned (.tuple #[.int .u64 r1, .int .i64 r2]) ∧ Drawn0 w w' := by
 have HR0 := Aside0.mk hr0
 have HC0 := Aside0.mk hc0
 clear hr0 hc0
 have H : (if a2 < 1 then (vint_Field.j0 k l0 a1 a2 true) else (if a2 > 8 then (vint_Field.j0 k l0 a1 a2 true) else (vint_Field.j0 k l0 a1 a2 (decide (a1 < 0))))) = some (r1, r2) := h
 clear h
 have HC4 := Aside0.mk H
 clear H
 go_enter Try.func34, Try.ntmps34
 go_upto_region 1 with (fail)
 go_cut [10] (fun v10 wc => ∃ (kq : Nat) (x10_3 : Bool), v10 = .bool x10_3 ∧ Aside0 (vint_Field.j0 kq l0 a1 a2 x10_3 = some (r1, r2)) ∧ Aside0 (kq ≤ k) ∧ Drawn0 w wc)
 case first =>
  have H := HC4.out
  clear HC4
  by_cases c5 : a2 < 1
  ·rw [if_pos c5] at H
   have c5b0 : decide (a2 < 1) = true := decide_eq_true c5
   clear c5
   (first | rw [c5b0] | (simp only [i64_w, i32_w]; rw [c5b0]) | skip)
   have H' := Aside0.mk H
   clear H
   go_wp2
   go_meet
   case rel => exact ⟨_, (true), (by first | rfl | (simp; done) | (simp [*]; done)), H', ⟨by first | omega | exact Nat.le_refl _⟩, by repeat (first | exact Drawn0.refl _ | apply Drawn0.step)⟩
  ·rw [if_neg c5] at H
   have c5b0 : decide (a2 < 1) = false := decide_eq_false c5
   clear c5
   (first | rw [c5b0] | (simp only [i64_w, i32_w]; rw [c5b0]) | skip)
   by_cases c6 : a2 > 8
   ·rw [if_pos c6] at H
    have c6b0 : decide (8 < a2) = true := decide_eq_true c6
    clear c6
    have H' := Aside0.mk H
    clear H
    go_wp2
    go_meet
    case rel => exact ⟨_, (true), (by first | rfl | (simp; done) | (simp [*]; done)), H', ⟨by first | omega | exact Nat.le_refl _⟩, by repeat (first | exact Drawn0.refl _ | apply Drawn0.step)⟩
   ·rw [if_neg c6] at H
    have c6b0 : decide (8 < a2) = false := decide_eq_false c6
    clear c6
    have H' := Aside0.mk H
    clear H
    go_wp2
    go_meet
    case rel => exact ⟨_, (decide (a1 < 0)), (by first | rfl | (simp; done) | (simp [*]; done)), H', ⟨by first | omega | exact Nat.le_refl _⟩, by repeat (first | exact Drawn0.refl _ | apply Drawn0.step)⟩
 case rest =>
  clear HC4
  try clear p2
  try clear c3
  try clear c5
  try clear c5b0
  try clear c6
  try clear c6b0
  obtain ⟨kq, x10_3, rfl, HA, HJ3, ⟨mc3, rfl⟩⟩ := hcut
  cases kq with
  | zero => exact absurd HA.out (by simp [vint_Field.j0])
  | succ kj3 =>
   have H := HA.out
   clear HA
   simp only [vint_Field.j0] at H
   by_cases c7 : x10_3 = true
   ·subst c7
    have H1 : (some (0, 2)) = some (r1, r2) := by rw [if_pos rfl] at H; exact H
    clear H
    have H := H1
    clear H1
    simp only [Option.some.injEq, Prod.mk.injEq] at H
    obtain ⟨rfl, rfl⟩ := H
    go_wp2
    go_ret2
    exact ⟨by first | rfl | (simp; done) | (simp [*]; done), by repeat (first | exact Drawn0.refl _ | apply Drawn0.step)⟩
   ·replace c7 := Bool.eq_false_iff.mpr c7
    subst c7
    have H1 : (if a1 > (wrap64 ((l0.length : Int) - a2)) then (some (0, 10)) else (vint_Field.l0 kj3 l0 a1 0 a2 0)) = some (r1, r2) := by rw [if_neg (show ¬ (false = true) by decide)] at H; exact H
    clear H
    have H := H1
    clear H1
    by_cases c8 : a1 > (wrap64 ((l0.length : Int) - a2))
    ·rw [if_pos c8] at H
     have c8b0 : decide ((wrap64 ((l0.length : Int) - a2)) < a1) = true := decide_eq_true c8
     clear c8
     simp only [Option.some.injEq, Prod.mk.injEq] at H
     obtain ⟨rfl, rfl⟩ := H
     go_wp2
     go_ret2
     exact ⟨by first | rfl | (simp; done) | (simp [*]; done), by repeat (first | exact Drawn0.refl _ | apply Drawn0.step)⟩
    ·rw [if_neg c8] at H
     have c8b0 : decide ((wrap64 ((l0.length : Int) - a2)) < a1) = false := decide_eq_false c8
     clear c8
     have H' := Aside0.mk H
     clear H
     go_wp2
     go_loopg [8, 29] kj3 (fun kq v8 v29 w' => ∃ (x8_2 : Int) (x29_2 : Int), v8 = .int .u64 x8_2 ∧ v29 = .int .i64 x29_2 ∧ Aside0 (vint_Field.l0 kq l0 a1 x8_2 a2 x29_2 = some (r1, r2)) ∧ Aside0 (kq ≤ kj3) ∧ Drawn0 w w')
     case atStart => exact ⟨(0), (0), (by first | rfl | (simp; done) | (simp [*]; done)), (by first | rfl | (simp; done) | (simp [*]; done)), H', ⟨Nat.le_refl _⟩, by repeat (first | exact Drawn0.refl _ | apply Drawn0.step)⟩
     case round =>
      clear H'
      try clear p2
      try clear c3
      try clear c5
      try clear c5b0
      try clear c6
      try clear c6b0
      try clear p6
      try clear c7
      try clear c8
      try clear c8b0
      try clear p2
      obtain ⟨x8_2, x29_2, rfl, rfl, HA, HK2, ⟨m2, rfl⟩⟩ := hrel
      cases gk with
      | zero => exact absurd HA.out (by simp [vint_Field.l0])
      | succ k2 =>
       have H := HA.out
       clear HA
       simp only [vint_Field.l0] at H
       by_cases c9 : x29_2 < a2
       ·rw [if_pos c9] at H
        have c9b0 : decide (x29_2 < a2) = true := decide_eq_true c9
        clear c9
        obtain ⟨ji10, hji10⟩ : ∃ j_ : Int, (wrap64 (a1 + x29_2)) = j_ := ⟨_, rfl⟩
        replace H : (if 0 ≤ (ji10) then (if (ji10) < (l0.length : Int) then (if 0 ≤ (wrap64 (8 * x29_2)) then (vint_Field.l0 k2 l0 a1 (Go.bits .or .u64 x8_2 (shl .u64 (IntKind.u64.wrap (rd l0 (ji10))) (wrap64 (8 * x29_2)))) a2 (wrap64 (x29_2 + 1))) else (none)) else (none)) else (none)) = some (r1, r2) := by first | (rw [hji10] at H; exact H) | (simp only [hji10] at H ⊢; exact H)
        have hji10w : (IntKind.i64.wrap (a1 + x29_2)) = ji10 := (i64_w _).trans hji10
        by_cases c11 : 0 ≤ (ji10)
        ·rw [if_pos c11] at H
         have c11b0 : decide (0 ≤ (ji10)) = true := decide_eq_true c11
         clear c11
         by_cases c12 : (ji10) < (l0.length : Int)
         ·rw [if_pos c12] at H
          have c12b0 : decide ((ji10) < (l0.length : Int)) = true := decide_eq_true c12
          clear c12
          obtain ⟨ji13, hji13⟩ : ∃ j_ : Int, (wrap64 (8 * x29_2)) = j_ := ⟨_, rfl⟩
          replace H : (if 0 ≤ (ji13) then (vint_Field.l0 k2 l0 a1 (Go.bits .or .u64 x8_2 (shl .u64 (IntKind.u64.wrap (rd l0 (ji10))) (ji13))) a2 (wrap64 (x29_2 + 1))) else (none)) = some (r1, r2) := by first | (rw [hji13] at H; exact H) | (simp only [hji13] at H ⊢; exact H)
          have hji13w : (IntKind.i64.wrap (8 * x29_2)) = ji13 := (i64_w _).trans hji13
          by_cases c14 : 0 ≤ (ji13)
          ·rw [if_pos c14] at H
           have c14b0 := eq_true c14
           have c14b1 : decide (0 ≤ (ji13)) = true := decide_eq_true c14
           clear c14
           obtain ⟨ji15, hji15⟩ : ∃ j_ : Int, (shl .u64 (IntKind.u64.wrap (rd l0 (ji10))) (ji13)) = j_ := ⟨_, rfl⟩
           replace H : (vint_Field.l0 k2 l0 a1 (Go.bits .or .u64 x8_2 (ji15)) a2 (wrap64 (x29_2 + 1))) = some (r1, r2) := by first | (rw [hji15] at H; exact H) | (simp only [hji15] at H ⊢; exact H)
           have hji15_ : (IntKind.u64.wrap ((IntKind.u64.wrap (rd l0 (ji10))) * 2 ^ min (ji13).toNat 64)) = ji15 := hji15
           have hji15z : (ji13) ≤ 64 → (IntKind.u64.wrap ((IntKind.u64.wrap (rd l0 (ji10))) * 2 ^ (ji13).toNat)) = ji15 := shl_small hji15
           have H' := Aside0.mk H
           clear H
           have p111 : 0 ≤ ((ji10) : Int) := of_decide_eq_true (by first | (with_reducible assumption) | assumption)
           have q111 : (ji10) < (l0.length : Int) := of_decide_eq_true (by first | (with_reducible assumption) | assumption)
           obtain ⟨ad111, e111, hx111_0⟩ := Kd.at_int HR0.out (ji10) p111 q111
           cases e111
           replace p111 := eq_true p111
           replace q111 := eq_true q111
           go_wp2
           go_roundg k2
           case measure => have := HJ3.out; have := HK2.out; omega
           case rel => exact ⟨(Go.bits .or .u64 x8_2 (ji15)), (wrap64 (x29_2 + 1)), (by first | rfl | (simp; done) | (simp only [← hji15] <;> (first | rfl | simp)) | (simp [*]; done)), (by first | rfl | (simp; done) | (simp [*]; done)), H', ⟨by have := HJ3.out; have := HK2.out; omega⟩, by repeat (first | exact Drawn0.refl _ | apply Drawn0.step)⟩
          ·rw [if_neg c14] at H
           exact absurd H (by simp)
         ·rw [if_neg c12] at H
          exact absurd H (by simp)
        ·rw [if_neg c11] at H
         exact absurd H (by simp)
       ·rw [if_neg c9] at H
        have c9b0 : decide (x29_2 < a2) = false := decide_eq_false c9
        clear c9
        simp only [Option.some.injEq, Prod.mk.injEq] at H
        obtain ⟨rfl, rfl⟩ := H
        go_wp2
        go_ret2
        exact ⟨by first | rfl | (simp; done) | (simp [*]; done), by repeat (first | exact Drawn0.refl _ | apply Drawn0.step)⟩

end Go.Proofs.Ytglmfnaofpbpfaa.P

namespace Go.Proofs.Ytglmfnaofpbpfaa.P
open Go.RowKit Go.Proofs.YtglmfnaofpbpfaaW.PrintWords Go.Proofs.YtglmfnaofpbpfaaW.PrintLast Go.Proofs.YtglmfnaofpbpfaaW.PrintMore Go.Proofs.Ytglmfnaofpbpfaa.X
attribute [local go_sem] max2_int min2_int max_two min_two max_three min_three max_four min_four   -- for this text's walks alone
set_option linter.unusedVariables false
set_option linter.unusedSimpArgs false

/-! ### crc_Of: function 35 -/
def crc_Of.f (l0 : List (List Int)) : Option (Int) := some (C.ofV l0)

set_option maxHeartbeats 8000000 in
set_option maxRecDepth 100000 in
theorem crc_Of.calls (A0 : Option Addr) (c0 : Nat) (l0 : List (List Int)) (r : Int) (w : World) (hr0 : Kd.C (Kd.slice 5 (Kd.int .u8)) w A0 l0.length l0) (hc0 : l0.length ≤ c0) (h : crc_Of.f l0 = some r) :
  Calls Try.prog 35 #[.slice A0 l0.length c0] w fun e w' => e = .returned (.int .u32 r) ∧ Below w.heap.size w w' := by
 unfold crc_Of.f at h
 obtain rfl := Option.some.inj h
 exact C.of_calls A0 c0 l0 w hr0

end Go.Proofs.Ytglmfnaofpbpfaa.P

namespace Go.Proofs.Ytglmfnaofpbpfaa.P
open Go.RowKit Go.Proofs.YtglmfnaofpbpfaaW.PrintWords Go.Proofs.YtglmfnaofpbpfaaW.PrintLast Go.Proofs.YtglmfnaofpbpfaaW.PrintMore Go.Proofs.Ytglmfnaofpbpfaa.X
attribute [local go_sem] max2_int min2_int max_two min_two max_three min_three max_four min_four   -- for this text's walks alone
set_option linter.unusedVariables false
set_option linter.unusedSimpArgs false

/-! ### crc_Check: function 28 -/
def crc_Check.f (k : Nat) (l0 : List Int) : Option (List Int × Int) := if (wrap64 ((l0.length : Int) - 4)) < 0 then (some (([] : List Int), 10)) else ((vint_Field.f k l0 (wrap64 ((l0.length : Int) - 4)) 4).bind fun bt112 => (if 0 ≤ (wrap64 ((l0.length : Int) - 4)) then (if (wrap64 ((l0.length : Int) - 4)) ≤ (l0.length : Int) then ((crc_Of.f (([(l0.take ((wrap64 ((l0.length : Int) - 4)) : Int).toNat)] : List (List Int)))).bind fun t122 => (if ((bt112.1) % 4294967296) = t122 then ((some (l0.take ((wrap64 ((l0.length : Int) - 4)) : Int).toNat : List Int)).bind fun y123 => (if ([] : List Int).length + y123.length < 140737488355328 then (some ((([] : List Int) ++ y123), 0)) else (none))) else (some (([] : List Int), 30)))) else (none)) else (none)))
theorem crc_Check.mono : ∀ a0 k, LeO (crc_Check.f k a0) (crc_Check.f (k + 1) a0) := by
 intro a0 k
 unfold crc_Check.f
 repeat' first
   | (with_reducible exact vint_Field.mono _ _ _ _)
   | (with_reducible exact LeO.refl _)
   | (with_reducible exact LeO.none _)
   | (with_reducible refine LeO.ite ?_ ?_)
   | (with_reducible refine LeO.bind ?_ (fun _ => ?_))
   | exact vint_Field.mono _ _ _ _
   | exact LeO.none _
   | refine LeO.ite ?_ ?_
   | refine LeO.bind ?_ (fun _ => ?_)
set_option maxHeartbeats 8000000 in
set_option maxRecDepth 100000 in
theorem crc_Check.calls (k : Nat) (P0_ : Nat → Prop) (A0 : Option Addr) (c0 : Nat) (l0 : List Int) (r1 : List Int) (r2 : Int) (w : World) (hs0 : Kd.V (Kd.int .u8) 5 w w.heap.size (fun k_ => P0_ k_) (.slice A0 l0.length c0) l0) (h : crc_Check.f k l0 = some (r1, r2)) :
  Calls Try.prog 28 #[.slice A0 l0.length c0] w fun e w' => ∃ v0_ : Value, e = .returned (.tuple #[v0_, .int .i64 r2]) ∧ Kd.R (Kd.int .u8) 5 w' w.heap.size (fun k_ => (w.heap.size ≤ k_)) v0_ r1 ∧ Below w.heap.size w w' := by
 have HO0 := Aside0.mk (show Kd.V (Kd.int .u8) 5 w w.heap.size (fun k_ => (P0_ k_ ∨ w.heap.size ≤ k_)) (.slice A0 l0.length c0) l0 from Kd.V_mono hs0 (fun k_ hk => .inl hk))
 have HB := Aside0.mk (Below.refl w.heap.size w)
 have H : (if (wrap64 ((l0.length : Int) - 4)) < 0 then (some (([] : List Int), 10)) else ((vint_Field.f k l0 (wrap64 ((l0.length : Int) - 4)) 4).bind fun bt112 => (if 0 ≤ (wrap64 ((l0.length : Int) - 4)) then (if (wrap64 ((l0.length : Int) - 4)) ≤ (l0.length : Int) then ((crc_Of.f (([(l0.take ((wrap64 ((l0.length : Int) - 4)) : Int).toNat)] : List (List Int)))).bind fun t122 => (if ((bt112.1) % 4294967296) = t122 then ((some (l0.take ((wrap64 ((l0.length : Int) - 4)) : Int).toNat : List Int)).bind fun y123 => (if ([] : List Int).length + y123.length < 140737488355328 then (some ((([] : List Int) ++ y123), 0)) else (none))) else (some (([] : List Int), 30)))) else (none)) else (none)))) = some (r1, r2) := h
 clear h
 by_cases c2 : (wrap64 ((l0.length : Int) - 4)) < 0
 ·rw [if_pos c2] at H
  have c2b0 : decide ((wrap64 ((l0.length : Int) - 4)) < 0) = true := decide_eq_true c2
  clear c2
  simp only [Option.some.injEq, Prod.mk.injEq] at H
  obtain ⟨rfl, rfl⟩ := H
  go_enter Try.func28, Try.ntmps28
  go_wp2
  go_ret2
  exact ⟨_, by first | rfl | (simp [errW_none, errW_some] <;> rfl) | (simp [*, errW_none, errW_some] <;> rfl), by first | exact Kd.R_nil _ _ _ _ _ | exact Kd.N_nil _ _ _ _ _ | exact Kd.V_nil _ _ _ _ _ | exact Kd.Q_nil _ _ _ _ _ | exact Kd.S_nil _ _ _ _ _, bH HB⟩
 ·rw [if_neg c2] at H
  have c2b0 : decide ((wrap64 ((l0.length : Int) - 4)) < 0) = false := decide_eq_false c2
  clear c2
  replace H := Option.bind_eq_some_iff.mp H
  obtain ⟨⟨t112, t113⟩, A30, H⟩ := H
  replace H : (if 0 ≤ (wrap64 ((l0.length : Int) - 4)) then (if (wrap64 ((l0.length : Int) - 4)) ≤ (l0.length : Int) then ((crc_Of.f (([(l0.take ((wrap64 ((l0.length : Int) - 4)) : Int).toNat)] : List (List Int)))).bind fun t122 => (if ((t112) % 4294967296) = t122 then ((some (l0.take ((wrap64 ((l0.length : Int) - 4)) : Int).toNat : List Int)).bind fun y123 => (if ([] : List Int).length + y123.length < 140737488355328 then (some ((([] : List Int) ++ y123), 0)) else (none))) else (some (([] : List Int), 30)))) else (none)) else (none)) = some (r1, r2) := H
  have A3 := Aside0.mk A30
  clear A30
  obtain ⟨ji4, hji4⟩ : ∃ j_ : Int, (wrap64 ((l0.length : Int) - 4)) = j_ := ⟨_, rfl⟩
  replace H : (if 0 ≤ (ji4) then (if (ji4) ≤ (l0.length : Int) then ((crc_Of.f (([(l0.take ((ji4) : Int).toNat)] : List (List Int)))).bind fun t122 => (if ((t112) % 4294967296) = t122 then ((some (l0.take ((ji4) : Int).toNat : List Int)).bind fun y123 => (if ([] : List Int).length + y123.length < 140737488355328 then (some ((([] : List Int) ++ y123), 0)) else (none))) else (some (([] : List Int), 30)))) else (none)) else (none)) = some (r1, r2) := by first | (rw [hji4] at H; exact H) | (simp only [hji4] at H ⊢; exact H)
  (try rw [hji4] at c2b0)
  (try rw [hji4] at A3)
  have hji4w : (IntKind.i64.wrap ((l0.length : Int) - 4)) = ji4 := (i64_w _).trans hji4
  by_cases c5 : 0 ≤ (ji4)
  ·rw [if_pos c5] at H
   have c5b0 := eq_true c5
   have c5b1 : decide (0 ≤ (ji4)) = true := decide_eq_true c5
   clear c5
   by_cases c6 : (ji4) ≤ (l0.length : Int)
   ·rw [if_pos c6] at H
    have c6b0 := eq_true c6
    have c6b1 : decide ((ji4) ≤ (l0.length : Int)) = true := decide_eq_true c6
    clear c6
    obtain ⟨y114, hy114⟩ : ∃ y_ : List Int, y_ = (l0.take ((ji4) : Int).toNat) := ⟨_, rfl⟩
    replace H : ((crc_Of.f (([y114] : List (List Int)))).bind fun t122 => (if ((t112) % 4294967296) = t122 then ((some (l0.take ((ji4) : Int).toNat : List Int)).bind fun y123 => (if ([] : List Int).length + y123.length < 140737488355328 then (some ((([] : List Int) ++ y123), 0)) else (none))) else (some (([] : List Int), 30)))) = some (r1, r2) := by first | (rw [hy114]; with_reducible exact H) | (have H2_ := (Option.bind_some _ _).symm.trans H; rw [hy114]; with_reducible exact H2_) | (have H2_ := (Option.bind_some _ _).symm.trans H; with_reducible exact H2_) | with_reducible exact H | (rw [hy114]; exact H) | exact H
    have Ny114 := Aside0.mk hy114
    clear hy114
    obtain ⟨y119, hy119⟩ : ∃ y_ : List (List Int), y_ = (([y114] : List (List Int))) := ⟨_, rfl⟩
    replace H : ((crc_Of.f y119).bind fun t122 => (if ((t112) % 4294967296) = t122 then ((some (l0.take ((ji4) : Int).toNat : List Int)).bind fun y123 => (if ([] : List Int).length + y123.length < 140737488355328 then (some ((([] : List Int) ++ y123), 0)) else (none))) else (some (([] : List Int), 30)))) = some (r1, r2) := by first | (rw [hy119]; with_reducible exact H) | (have H2_ := (Option.bind_some _ _).symm.trans H; rw [hy119]; with_reducible exact H2_) | (have H2_ := (Option.bind_some _ _).symm.trans H; with_reducible exact H2_) | with_reducible exact H | (rw [hy119]; exact H) | exact H
    have Ny119 := Aside0.mk hy119
    clear hy119
    replace H := Option.bind_eq_some_iff.mp H
    obtain ⟨t122, A70, H⟩ := H
    replace H : (if ((t112) % 4294967296) = t122 then ((some (l0.take ((ji4) : Int).toNat : List Int)).bind fun y123 => (if ([] : List Int).length + y123.length < 140737488355328 then (some ((([] : List Int) ++ y123), 0)) else (none))) else (some (([] : List Int), 30))) = some (r1, r2) := H
    have A7 := Aside0.mk A70
    clear A70
    have HC8 := Aside0.mk H
    clear H
    go_enter Try.func28, Try.ntmps28
    go_upto_if 25 with (first | ((with_reducible refine gate_callee (f := 34) rfl ?_); refine goesL_ (some 15) rfl rfl Try.func34 (by kernel_rfl) rfl #[.slice A0 l0.length c0, .int .i64 ji4, .int .i64 4] rfl (by (try simp only [List.map_toArray, List.map_cons, List.map_nil]); first | done | (simp only [hji4]; rfl) | rfl | (simp only [List.length_drop, List.length_take]; rfl)) ?_; (with_reducible refine (vint_Field.calls k _ _ l0 ji4 4 t112 t113 _ ?side1 ?side2 A3.out).mono ?_); (case side1 => repeat (first | exact (Kd.V_reads' HO0.out).2.2 | (with_reducible refine Kd.C_alloc ?_ _) | (with_reducible refine Kd.C_drewN ?_ _) | (with_reducible refine Kd.C_drew ?_))); (case side2 => exact (Kd.V_reads' HO0.out).2.1); rintro e w' ⟨rfl, ⟨nd, rfl⟩⟩; refine ⟨_, rfl, ?_⟩; have q9 : ((ji4) : Int) ≤ ((l0.length : Int) : Int) := of_decide_eq_true (by first | (with_reducible assumption) | assumption); obtain ⟨i09, hi09, _, hsz9, _⟩ := info_parts info5; have hroom9 : l0.length ≤ c0 := (Kd.V_reads' HO0.out).2.1; have hC9 : Kd.F (Kd.int .u8) _ _ A0 l0.length l0 := (Kd.V_at (base := w.heap.size) HO0.out).2.2; have hcut9 := cut_to (P := Try.prog) 22 5 .i64 Try.underlying22 hi09 A0 l0.length c0 (ji4) (of_decide_eq_true (by first | (with_reducible assumption) | assumption)) q9 hroom9; have hr9 := Kd.F_take (m := ((ji4) : Int).toNat) hC9 (by omega); have hy9 : y114.length = ((ji4) : Int).toNat := (by rw [Ny114.out, List.length_take]; omega); rw [← Ny114.out] at hr9; rw [← hy9] at hcut9; have HO118 := Aside0.mk (show Kd.V (Kd.int .u8) 5 _ w.heap.size _ (.slice A0 y114.length c0) y114 from Kd.V_mk (by omega) hr9); have HC118 := Aside0.mk (show y114.length ≤ c0 from by omega); clear hr9 hC9 hroom9 hi09 hsz9; have KY9 := Aside0.mk hy9; clear hy9; replace q9 := eq_true q9) | ((with_reducible refine gate_dst (N := 23) rfl ?_); refine Kd.N_lit (Kd.slice 5 (Kd.int .u8)) _ 22 ?hg (N' := 23) ?hd (xs := ([y114] : List (List Int))) (inner := [.slice A0 y114.length c0]) (ok := (fun k_ => (P0_ k_ ∨ w.heap.size ≤ k_))) (okp := (fun k_ => (P0_ k_ ∨ w.heap.size ≤ k_))) ?hr ?hp (fun _ hk => hk) ((show ∀ k_, w.heap.size ≤ k_ → (fun k_ => (P0_ k_ ∨ w.heap.size ≤ k_)) k_ from fun k_ hk => (.inr (Nat.le_trans (below_size (bH HB)) hk))) _ (Nat.le_refl _)) (Below.refl _ _) (Nat.le_refl _) (by simp) ?_; (case hd => rfl); (case hg => rfl); (case hr => first | (go_simp; done) | (go_simp; rfl)); (case hp => first | exact (Reps.one (show Kd.FK (Kd.slice 5 (Kd.int .u8)) _ _ y114 [.slice A0 y114.length c0] from (Kd.FK_slice_mk (Kd.V_reads' (Kd.V_mono (ok' := (fun k_ => (P0_ k_ ∨ w.heap.size ≤ k_))) (HO118.out) (fun k_ hk => hk))).2.1 (Kd.V_F (Kd.V_mono (ok' := (fun k_ => (P0_ k_ ∨ w.heap.size ≤ k_))) (HO118.out) (fun k_ hk => hk))))) (Reps.none _ _)) | (refine Reps.one ?_ (Reps.none _ _); have hv_ := Kd.V_drewN HO118.out nd; exact Kd.FK_slice_mk (Kd.V_reads' hv_).2.1 (Kd.V_F hv_))); intro v120 w10 ho11 hb hg_ hnew_; clear hg_ hnew_; (first | rw [← Ny119.out] at ho11 | (simp only [Int.reduceToNat] at ho11; rw [← Ny119.out] at ho11)); have n0_ := Aside0.mk (Kd.V_elder' (by (with_reducible repeat (first | apply Kd.V_alloc | apply Kd.V_drewN | apply Kd.V_drew)); exact HO0.out) (Kd.N_base ho11) hb); have n1_ := Aside0.mk (Kd.V_elder' (by (with_reducible repeat (first | apply Kd.V_alloc | apply Kd.V_drewN | apply Kd.V_drew)); exact HO118.out) (Kd.N_base ho11) hb); have n2_ := Aside0.mk (Kd.N_lower ho11 (below_size (bH HB))); have n3_ := Aside0.mk (below_step (bH HB) hb); clear HO0; clear HO118; clear HB; have HO0 := n0_; have HO118 := n1_; have HO121 := n2_; have HB := n3_; clear n0_ n1_ n2_ n3_; clear hb ho11; obtain ⟨Ao12, co12, eo12⟩ := Kd.N_slice HO121.out; subst eo12) | ((with_reducible refine gate_callee (f := 35) rfl ?_); refine goesL_ (some 24) rfl rfl Try.func35 (by kernel_rfl) rfl #[.slice Ao12 y119.length co12] rfl (by (try simp only [List.map_toArray, List.map_cons, List.map_nil]); first | done | rfl | (simp only [List.length_drop, List.length_take]; rfl)) ?_; (with_reducible refine (crc_Of.calls _ _ y119 t122 _ ?side1 ?side2 A7.out).mono ?_); (case side1 => repeat (first | exact (Kd.N_reads' HO121.out).2.2 | (with_reducible refine Kd.C_alloc ?_ _) | (with_reducible refine Kd.C_drewN ?_ _) | (with_reducible refine Kd.C_drew ?_))); (case side2 => exact (Kd.N_reads' HO121.out).2.1); rintro e w13 ⟨rfl, hb⟩; refine ⟨_, rfl, ?_⟩; have n0_ := Aside0.mk (Kd.V_below (by (with_reducible repeat (first | apply Kd.V_alloc | apply Kd.V_drewN | apply Kd.V_drew)); exact HO0.out) hb); have n1_ := Aside0.mk (Kd.V_below (by (with_reducible repeat (first | apply Kd.V_alloc | apply Kd.V_drewN | apply Kd.V_drew)); exact HO118.out) hb); have n2_ := Aside0.mk (Kd.N_below (by (with_reducible repeat (first | apply Kd.N_alloc | apply Kd.N_drewN | apply Kd.N_drew)); exact HO121.out) hb); have n3_ := Aside0.mk (below_step (bH HB) hb); clear HO0; clear HO118; clear HO121; clear HB; have HO0 := n0_; have HO118 := n1_; have HO121 := n2_; have HB := n3_; clear n0_ n1_ n2_ n3_; (try clear hb); (try clear hb2); (try clear hk); (try clear hi)))
    (try simp only [Act.put, List.setIfInBounds_toArray, List.set_cons_zero, List.set_cons_succ])
    have H := HC8.out
    clear HC8
    by_cases c14 : ((t112) % 4294967296) = t122
    ·rw [if_pos c14] at H
     have c14b0 : (((t112) % 4294967296) == t122) = true := beq_iff_eq.mpr c14
     have c14b1 : (((t112) % 4294967296) != t122) = false := bne_eq_false_iff_eq.mpr c14
     clear c14
     (first | rw [c14b0] | (simp only [i64_w, i32_w]; rw [c14b0]) | skip)
     have c15b0 := eq_true (of_decide_eq_true (by first | (with_reducible assumption) | assumption) : 0 ≤ (ji4))
     have c16b0 := eq_true (of_decide_eq_true (by first | (with_reducible assumption) | assumption) : (ji4) ≤ (l0.length : Int))
     obtain ⟨y123, hy123⟩ : ∃ y_ : List Int, y_ = (l0.take ((ji4) : Int).toNat) := ⟨_, rfl⟩
     replace H : (if ([] : List Int).length + y123.length < 140737488355328 then (some ((([] : List Int) ++ y123), 0)) else (none)) = some (r1, r2) := by first | (rw [hy123]; with_reducible exact H) | (have H2_ := (Option.bind_some _ _).symm.trans H; rw [hy123]; with_reducible exact H2_) | (have H2_ := (Option.bind_some _ _).symm.trans H; with_reducible exact H2_) | with_reducible exact H | (rw [hy123]; exact H) | exact H
     have Ny123 := Aside0.mk hy123
     clear hy123
     by_cases c17 : ([] : List Int).length + y123.length < 140737488355328
     ·rw [if_pos c17] at H
      have LMc17 := Aside0.mk c17
      clear c17
      obtain ⟨y128, hy128⟩ : ∃ y_ : List Int, y_ = (([] : List Int) ++ y123) := ⟨_, rfl⟩
      replace H : (some (y128, 0)) = some (r1, r2) := by first | (rw [hy128]; with_reducible exact H) | (have H2_ := (Option.bind_some _ _).symm.trans H; rw [hy128]; with_reducible exact H2_) | (have H2_ := (Option.bind_some _ _).symm.trans H; with_reducible exact H2_) | with_reducible exact H | (rw [hy128]; exact H) | exact H
      have Ny128 := Aside0.mk hy128
      clear hy128
      simp only [Option.some.injEq, Prod.mk.injEq] at H
      obtain ⟨rfl, rfl⟩ := H
      have q18 : ((ji4) : Int) ≤ ((l0.length : Int) : Int) := of_decide_eq_true (by first | (with_reducible assumption) | assumption)
      obtain ⟨i018, hi018, _, hsz18, _⟩ := info_parts info5
      have hroom18 : l0.length ≤ c0 := (Kd.V_reads' HO0.out).2.1
      have hC18 : Kd.F (Kd.int .u8) _ _ A0 l0.length l0 := (Kd.V_at (base := w.heap.size) HO0.out).2.2
      have hcut18 := cut_to (P := Try.prog) 22 5 .i64 Try.underlying22 hi018 A0 l0.length c0 (ji4) (of_decide_eq_true (by first | (with_reducible assumption) | assumption)) q18 hroom18
      have hr18 := Kd.F_take (m := ((ji4) : Int).toNat) hC18 (by omega)
      have hy18 : y123.length = ((ji4) : Int).toNat := (by rw [Ny123.out, List.length_take]; omega)
      rw [← Ny123.out] at hr18
      rw [← hy18] at hcut18
      (try clear hcut9)
      have HO127 := Aside0.mk (show Kd.V (Kd.int .u8) 5 _ w.heap.size _ (.slice A0 y123.length c0) y123 from Kd.V_mk (by omega) hr18)
      have HC127 := Aside0.mk (show y123.length ≤ c0 from by omega)
      clear hr18 hC18 hroom18 hi018 hsz18
      have KY18 := Aside0.mk hy18
      clear hy18
      replace q18 := eq_true q18
      go_wp2_with (first | ((with_reducible refine gate_builtin (b := .append) (xs := #[.const (.slice none 0 0), .tmp 28]) rfl ?_); at_builtin; refine Kd.R_append_rows (Kd.int .u8) (w0 := w) w.heap.size rfl (.const (.slice none 0 0)) (.tmp 28) 22 5 (.int .u8 0) 1 rfl Try.underlying22 info5 rfl (by decide) (by omega) (.slice none 0 0) ([] : List Int) y123 _ _ _ (fun k_ => (w.heap.size ≤ k_)) (fun _ => False) rfl rfl ?aO ?aR (fun _ _ h => h) (fun _ h => h.elim) ?aF ?aB ?aS ?aL ?_; (case aR => repeat (first | exact (Kd.V_reads' HO127.out).2.2 | (with_reducible refine Kd.C_alloc ?_ _) | (with_reducible refine Kd.C_drewN ?_ _) | (with_reducible refine Kd.C_drew ?_))); (case aB => exact (bH HB)); (case aF => exact (fun k_ hk => (Nat.le_trans (below_size (bH HB)) hk))); (case aO => exact ((Kd.R_nil _ _ _ _ (fun k_ => (w.heap.size ≤ k_))))); (case aS => exact (below_size (bH HB))); (case aL => have := LMc17.out; omega); intro v129 w19 ho hb hg hat; rw [← Ny128.out] at ho; have n0_ := Aside0.mk (Kd.V_afterv (Kd.V_apart_nil (by (with_reducible repeat (first | apply Kd.V_alloc | apply Kd.V_drewN | apply Kd.V_drew)); exact HO0.out)) hg hat); have n1_ := Aside0.mk (Kd.V_afterv (Kd.V_apart_nil (by (with_reducible repeat (first | apply Kd.V_alloc | apply Kd.V_drewN | apply Kd.V_drew)); exact HO118.out)) hg hat); have n2_ := Aside0.mk (Kd.N_afterv (Kd.N_apart_nil (by (with_reducible repeat (first | apply Kd.N_alloc | apply Kd.N_drewN | apply Kd.N_drew)); exact HO121.out)) hg hat); have n3_ := Aside0.mk (Kd.V_afterv (Kd.V_apart_nil (by (with_reducible repeat (first | apply Kd.V_alloc | apply Kd.V_drewN | apply Kd.V_drew)); exact HO127.out)) hg hat); have n4_ := Aside0.mk (hb); have n5_ := Aside0.mk (ho); clear HO0; clear HO118; clear HO121; clear HO127; clear HB; have HO0 := n0_; have HO118 := n1_; have HO121 := n2_; have HO127 := n3_; have HB := n4_; have HO130 := n5_; clear n0_ n1_ n2_ n3_ n4_ n5_; clear ho hb hg hat))
      go_ret2
      exact ⟨_, by first | rfl | (simp [errW_none, errW_some] <;> rfl) | (simp only [← hji4]; first | rfl | (simp [errW_none, errW_some] <;> rfl)) | (simp [*, errW_none, errW_some] <;> rfl), by (with_reducible repeat (first | apply Kd.R_alloc | apply Kd.R_drewN | apply Kd.R_drew)); exact HO130.out, bH HB⟩
     ·rw [if_neg c17] at H
      exact absurd H (by simp)
    ·rw [if_neg c14] at H
     have c14b0 : (((t112) % 4294967296) == t122) = false := beq_eq_false_iff_ne.mpr c14
     have c14b1 : (((t112) % 4294967296) != t122) = true := bne_iff_ne.mpr c14
     (first | rw [c14b0] | (simp only [i64_w, i32_w]; rw [c14b0]) | skip)
     simp only [Option.some.injEq, Prod.mk.injEq] at H
     obtain ⟨rfl, rfl⟩ := H
     go_wp2
     go_ret2
     exact ⟨_, by first | rfl | (simp [errW_none, errW_some] <;> rfl) | (simp only [← hji4]; first | rfl | (simp [errW_none, errW_some] <;> rfl)) | (simp [*, errW_none, errW_some] <;> rfl), by first | exact Kd.R_nil _ _ _ _ _ | exact Kd.N_nil _ _ _ _ _ | exact Kd.V_nil _ _ _ _ _ | exact Kd.Q_nil _ _ _ _ _ | exact Kd.S_nil _ _ _ _ _, bH HB⟩
   ·rw [if_neg c6] at H
    exact absurd H (by simp)
  ·rw [if_neg c5] at H
   exact absurd H (by simp)

end Go.Proofs.Ytglmfnaofpbpfaa.P
