/- Written for this claim by a program of this session (a turned copy of the print): Go functions as Lean functions, and that the Go code comes to just these answers; or a statement proved out of them. No condition. -/
import Derived.Test.YtbonkedecfjmdaaZ2
import Derived.Test.YtbonkedecfjmdaaZ4
import Derived.Test.YtbonkedecfjmdaaZ5
import Derived.Test.YtbonkedecfjmdaaZ7
import Derived.Test.YtbonkedecfjmdaaZ9

namespace Go.Proofs.Ytbonkedecfjmdaa.P
open Go.RowKit Go.Proofs.YtbonkedecfjmdaaW.PrintWords Go.Proofs.YtbonkedecfjmdaaW.PrintLast Go.Proofs.YtbonkedecfjmdaaW.PrintMore Go.Proofs.Ytbonkedecfjmdaa.X
attribute [local go_sem] max2_int min2_int max_two min_two max_three min_three max_four min_four add64_0 add64_1 add64
set_option linter.unusedVariables false
set_option linter.unusedSimpArgs false
mutual
def rf17_fills.l0 : Nat → List Int → Int → List (List (S27)) → List (List Int) → List (List Int) → Option (Bool)
 | 0, _, _, _, _, _ => none
 | k + 1, x1, x5, x291000, x291001, x291002 => if x5 < (x1.length : Int) then (if 0 ≤ x5 then (if (rd x1 x5) < 0 then (rf17_fills.j1 k x1 x5 true x291000 x291001 x291002) else (rf17_fills.j1 k x1 x5 (decide ((rd x1 x5) ≥ (x291001.length : Int))) x291000 x291001 x291002)) else (none)) else (some (decide ((x1.length : Int) > 0)))
def rf17_fills.j1 : Nat → List Int → Int → Bool → List (List (S27)) → List (List Int) → List (List Int) → Option (Bool)
 | 0, _, _, _, _, _, _ => none
 | k + 1, x1, x5, x32, x291000, x291001, x291002 => if x32 = true then (some false) else (if 0 ≤ x5 then (if x5 < (x1.length : Int) then (if 0 ≤ (rd x1 x5) then (if (rd x1 x5) < (x291001.length : Int) then ((rf16_Points.f k x291000 x291001 x291002 (rd_L3 x291001 (rd x1 x5))).bind fun bt295 => (if bt295.2 = 0 then ((rf17_Area.f k x291000 x291001 x291002 (rd x1 x5)).bind fun t300 => ((rf08_Of.f k 0).bind fun t303 => ((rf08_Cmp.f k t300 t303).bind fun t306 => (if x5 = 0 then (if t306 = 1 then (if x5 > 0 then (rf17_fills.j2 k x1 x5 bt295.1 (t306 != (-1)) x291000 x291001 x291002) else (rf17_fills.j2 k x1 x5 bt295.1 false x291000 x291001 x291002)) else (rf17_fills.j2 k x1 x5 bt295.1 true x291000 x291001 x291002)) else (if x5 > 0 then (rf17_fills.j2 k x1 x5 bt295.1 (t306 != (-1)) x291000 x291001 x291002) else (rf17_fills.j2 k x1 x5 bt295.1 false x291000 x291001 x291002)))))) else (some false))) else (none)) else (none)) else (none)) else (none))
def rf17_fills.j2 : Nat → List Int → Int → List (S27) → Bool → List (List (S27)) → List (List Int) → List (List Int) → Option (Bool)
 | 0, _, _, _, _, _, _, _ => none
 | k + 1, x1, x5, x6, x69, x291000, x291001, x291002 => if x69 = true then (some false) else (if 0 < (x1.length : Int) then (if 0 ≤ (rd x1 0) then (if (rd x1 0) < (x291001.length : Int) then ((rf16_Points.f k x291000 x291001 x291002 (rd_L3 x291001 (rd x1 0))).bind fun bt309 => (rf17_fills.l1 k x1 x5 x6 bt309.1 0 x291000 x291001 x291002)) else (none)) else (none)) else (none))
def rf17_fills.l1 : Nat → List Int → Int → List (S27) → List (S27) → Int → List (List (S27)) → List (List Int) → List (List Int) → Option (Bool)
 | 0, _, _, _, _, _, _, _, _ => none
 | k + 1, x1, x5, x6, x9, x11, x291000, x291001, x291002 => if x11 < (x6.length : Int) then (rf17_fills.j4 k x1 x5 x6 x9 x11 (decide (x5 > 0)) x291000 x291001 x291002) else (rf17_fills.j4 k x1 x5 x6 x9 x11 false x291000 x291001 x291002)
def rf17_fills.j4 : Nat → List Int → Int → List (S27) → List (S27) → Int → Bool → List (List (S27)) → List (List Int) → List (List Int) → Option (Bool)
 | 0, _, _, _, _, _, _, _, _, _ => none
 | k + 1, x1, x5, x6, x9, x11, x89, x291000, x291001, x291002 => if x89 = true then (if 0 ≤ x11 then (if x11 < (x6.length : Int) then ((rf09_In.f k ((rd_T27 x6 x11).f0) ((rd_T27 x6 x11).f1) ((rd_T27 x6 x11).f2) x9).bind fun t314 => (if t314 = (-1) then (some false) else (rf17_fills.l1 k x1 x5 x6 x9 (wrap64 (x11 + 1)) x291000 x291001 x291002))) else (none)) else (none)) else (rf17_fills.l0 k x1 (wrap64 (x5 + 1)) x291000 x291001 x291002)
end
def rf17_fills.f (k : Nat) (l0_0 : List (List (S27))) (l0_1 : List (List Int)) (l0_2 : List (List Int)) (l1 : List Int) : Option (Bool) := rf17_fills.l0 k l1 0 l0_0 l0_1 l0_2
theorem rf17_fills.mono_l : ∀ k, (∀ y0 y1 y2 y3 y4, LeO (rf17_fills.l0 k y0 y1 y2 y3 y4) (rf17_fills.l0 (k + 1) y0 y1 y2 y3 y4)) ∧ (∀ y0 y1 y2 y3 y4 y5, LeO (rf17_fills.j1 k y0 y1 y2 y3 y4 y5) (rf17_fills.j1 (k + 1) y0 y1 y2 y3 y4 y5)) ∧ (∀ y0 y1 y2 y3 y4 y5 y6, LeO (rf17_fills.j2 k y0 y1 y2 y3 y4 y5 y6) (rf17_fills.j2 (k + 1) y0 y1 y2 y3 y4 y5 y6)) ∧ (∀ y0 y1 y2 y3 y4 y5 y6 y7, LeO (rf17_fills.l1 k y0 y1 y2 y3 y4 y5 y6 y7) (rf17_fills.l1 (k + 1) y0 y1 y2 y3 y4 y5 y6 y7)) ∧ (∀ y0 y1 y2 y3 y4 y5 y6 y7 y8, LeO (rf17_fills.j4 k y0 y1 y2 y3 y4 y5 y6 y7 y8) (rf17_fills.j4 (k + 1) y0 y1 y2 y3 y4 y5 y6 y7 y8))
 | 0 => ⟨fun _ _ _ _ _ r h => by simp [rf17_fills.l0] at h, fun _ _ _ _ _ _ r h => by simp [rf17_fills.j1] at h, fun _ _ _ _ _ _ _ r h => by simp [rf17_fills.j2] at h, fun _ _ _ _ _ _ _ _ r h => by simp [rf17_fills.l1] at h, fun _ _ _ _ _ _ _ _ _ r h => by simp [rf17_fills.j4] at h⟩
 | k + 1 => by
  obtain ⟨ih0, ih1, ih2, ih3, ih4⟩ := rf17_fills.mono_l k
  refine ⟨?_, ?_, ?_, ?_, ?_⟩
  all_goals
   intros
   first | unfold rf17_fills.l0 | unfold rf17_fills.j1 | unfold rf17_fills.j2 | unfold rf17_fills.l1 | unfold rf17_fills.j4
   repeat' with_reducible first | exact ih0 _ _ _ _ _ | exact ih1 _ _ _ _ _ _ | exact ih2 _ _ _ _ _ _ _ | exact ih3 _ _ _ _ _ _ _ _ | exact ih4 _ _ _ _ _ _ _ _ _ | exact rf08_Cmp.mono _ _ _ | exact rf08_Of.mono _ _ | exact rf09_In.mono _ _ _ _ _ | exact rf16_Points.mono _ _ _ _ _ | exact rf17_Area.mono _ _ _ _ _ | exact LeO.refl _ | exact LeO.none _ | refine LeO.ite ?_ ?_ | refine LeO.bind ?_ (fun _ => ?_)
theorem rf17_fills.mono : ∀ a0 a1 a2 a3 k, LeO (rf17_fills.f k a0 a1 a2 a3) (rf17_fills.f (k + 1) a0 a1 a2 a3) := by
 intro a0 a1 a2 a3 k
 obtain ⟨ih0, ih1, ih2, ih3, ih4⟩ := rf17_fills.mono_l k
 unfold rf17_fills.f
 repeat' first
   | (with_reducible exact ih0 _ _ _ _ _)
   | (with_reducible exact ih1 _ _ _ _ _ _)
   | (with_reducible exact ih2 _ _ _ _ _ _ _)
   | (with_reducible exact ih3 _ _ _ _ _ _ _ _)
   | (with_reducible exact ih4 _ _ _ _ _ _ _ _ _)
   | (with_reducible exact rf08_Cmp.mono _ _ _)
   | (with_reducible exact rf08_Of.mono _ _)
   | (with_reducible exact rf09_In.mono _ _ _ _ _)
   | (with_reducible exact rf16_Points.mono _ _ _ _ _)
   | (with_reducible exact rf17_Area.mono _ _ _ _ _)
   | (with_reducible exact LeO.refl _)
   | (with_reducible exact LeO.none _)
   | (with_reducible refine LeO.ite ?_ ?_)
   | (with_reducible refine LeO.bind ?_ (fun _ => ?_))
   | exact ih0 _ _ _ _ _
   | exact ih1 _ _ _ _ _ _
   | exact ih2 _ _ _ _ _ _ _
   | exact ih3 _ _ _ _ _ _ _ _
   | exact ih4 _ _ _ _ _ _ _ _ _
   | exact rf08_Cmp.mono _ _ _
   | exact rf08_Of.mono _ _
   | exact rf09_In.mono _ _ _ _ _
   | exact rf16_Points.mono _ _ _ _ _
   | exact rf17_Area.mono _ _ _ _ _
   | exact LeO.none _
   | refine LeO.ite ?_ ?_
   | refine LeO.bind ?_ (fun _ => ?_)
def rf17_fills.T4 : Bool × List (List Nat × List Nat) := (true, [([], []), ([], []), ([0, 1], [0, 1]), ([2], [2]), ([3], [3]), ([4], [4]), ([5], [5]), ([5], [5]), ([6, 7, 5], [5, 6, 7]), ([8, 5], [5, 8]), ([5], [5]), ([10, 5], [5, 10]), ([11, 5], [5, 11]), ([9, 12, 5], [5, 9, 12]), ([5, 13], [5, 13])])
def rf17_fills.B4 : List Nat := [0, 0, 3, 7, 15, 31, 63, 63, 255, 511, 63, 1087, 3135, 8191, 16383]
theorem rf17_fills.tab4 : rtab .any (opsOf Try.f45 4) = rf17_fills.T4 := by kernel_rfl
theorem rf17_fills.bits4 : waitsOk rf17_fills.T4.2 rf17_fills.B4 = true := by kernel_rfl
def rf17_fills.T6 : Bool × List (List Nat × List Nat) := (true, [([], []), ([], []), ([1], [1]), ([], []), ([], []), ([3, 4], [3, 4]), ([5], [5]), ([2, 6], [2, 6]), ([7], [7]), ([0, 8], [0, 8]), ([9], [9]), ([10], [10]), ([10], [10]), ([11, 9, 0, 1, 2, 3, 4, 5, 6, 7, 8, 9, 10, 11], [11]), ([12, 13, 0, 1, 2, 3, 4, 5, 6, 7, 8, 9, 10, 11, 12, 13], [12])])
def rf17_fills.B6 : List Nat := [0, 0, 2, 0, 0, 24, 56, 126, 254, 511, 1023, 2047, 2047, 4095, 16383]
theorem rf17_fills.tab6 : rtab .any (opsOf Try.f45 6) = rf17_fills.T6 := by kernel_rfl
theorem rf17_fills.bits6 : waitsOk rf17_fills.T6.2 rf17_fills.B6 = true := by kernel_rfl
def rf17_fills.T9 : Bool × List (List Nat × List Nat) := (true, [([], []), ([], []), ([], []), ([1, 2], [1, 2]), ([3], [3]), ([0, 4], [0, 4]), ([5], []), ([5, 6, 6], [5, 6]), ([7, 7, 0, 1, 2, 3, 4, 5, 6, 7], [7])])
def rf17_fills.B9 : List Nat := [0, 0, 0, 6, 14, 31, 63, 127, 255]
theorem rf17_fills.tab9 : rtab .any (opsOf Try.f45 9) = rf17_fills.T9 := by kernel_rfl
theorem rf17_fills.bits9 : waitsOk rf17_fills.T9.2 rf17_fills.B9 = true := by kernel_rfl
def rf17_fills.T12 : Bool × List (List Nat × List Nat) := (true, [([], []), ([], []), ([1], [1]), ([], []), ([3], [3]), ([4], [4]), ([2, 5], [2, 5]), ([6], [6]), ([0, 7], [0, 7]), ([8], [8]), ([9], [9]), ([9], [9]), ([10, 8, 0, 1, 2, 3, 4, 5, 6, 7, 8, 9, 10], [10]), ([11, 12, 0, 1, 2, 3, 4, 5, 6, 7, 8, 9, 10, 11, 12], [11])])
def rf17_fills.B12 : List Nat := [0, 0, 2, 0, 8, 24, 62, 126, 255, 511, 1023, 1023, 2047, 8191]
theorem rf17_fills.tab12 : rtab .any (opsOf Try.f45 12) = rf17_fills.T12 := by kernel_rfl
theorem rf17_fills.bits12 : waitsOk rf17_fills.T12.2 rf17_fills.B12 = true := by kernel_rfl
set_option maxHeartbeats 8000000 in
set_option maxRecDepth 100000 in
theorem rf17_fills.calls (k : Nat) (A0_0 : Option Addr) (c0_0 : Nat) (l0_0 : List (List (S27))) (A0_1 : Option Addr) (c0_1 : Nat) (l0_1 : List (List Int)) (A0_2 : Option Addr) (c0_2 : Nat) (l0_2 : List (List Int)) (A1 : Option Addr) (c1 : Nat) (l1 : List Int) (r : Bool) (w : World) (hr0_0 : Kd.C (Kd.slice 27 k27) w A0_0 l0_0.length l0_0) (hc0_0 : l0_0.length ≤ c0_0) (hr0_1 : Kd.C (Kd.slice 3 (Kd.int .i64)) w A0_1 l0_1.length l0_1) (hc0_1 : l0_1.length ≤ c0_1) (hr0_2 : Kd.C (Kd.slice 3 (Kd.int .i64)) w A0_2 l0_2.length l0_2) (hc0_2 : l0_2.length ≤ c0_2) (hr1 : Kd.C (Kd.int .i64) w A1 l1.length l1) (hc1 : l1.length ≤ c1) (h : rf17_fills.f k l0_0 l0_1 l0_2 l1 = some r) :
  Calls Try.prog 45 #[.agg #[.slice A0_0 l0_0.length c0_0, .slice A0_1 l0_1.length c0_1, .slice A0_2 l0_2.length c0_2], .slice A1 l1.length c1] w fun e w' => e = .returned (.bool r) ∧ Below w.heap.size w w' := by
 have hu25 := Try.underlying25
 have hu27 := Try.underlying27
 have HR0_0 := AM hr0_0
 have HC0_0 := AM hc0_0
 clear hr0_0 hc0_0
 have HR0_1 := AM hr0_1
 have HC0_1 := AM hc0_1
 clear hr0_1 hc0_1
 have HR0_2 := AM hr0_2
 have HC0_2 := AM hc0_2
 clear hr0_2 hc0_2
 have HR1 := AM hr1
 have HC1 := AM hc1
 clear hr1 hc1
 have HB := AM (Below.refl w.heap.size w)
 have H : (rf17_fills.l0 k l1 0 l0_0 l0_1 l0_2) = some r := h
 clear h
 have H' := AM H
 clear H
 go_enter Try.func45, Try.ntmps45
 go_wp2_with (first | ((with_reducible refine gate_dst (N := 2) rfl ?_); (try (refine gate_guard (by rfl) ?_; dsimp only)); refine bE 2 #[.slice A0_0 l0_0.length c0_0, .slice A0_1 l0_1.length c0_1, .slice A0_2 l0_2.length c0_2] 25 ?_; intro gb290 hg w3 hbox hb; have BK290 := AM hbox; have GW290 := kG HB hg; replace HB := kH HB hb; have GE290 := GW290; clear hb hbox hg))
 go_loopg [5] k (fun kq v5 w' => ∃ (x5_1 : Int), v5 = .int .i64 x5_1 ∧ Aside0 (rf17_fills.l0 kq l1 x5_1 l0_0 l0_1 l0_2 = some r) ∧ Aside0 (kq ≤ k) ∧ Aside0 (w'.heap[gb290]? = some (.cells #[(.slice A0_0 l0_0.length c0_0), (.slice A0_1 l0_1.length c0_1), (.slice A0_2 l0_2.length c0_2)] 25 (0, 0))) ∧ Aside0 (Below w.heap.size w w'))
 case atStart => exact ⟨(0), rS, H', ⟨Nat.le_refl _⟩, ⟨bK BK290⟩, ⟨ bH HB⟩⟩
 case round =>
  clear H'
  (try clear c1); (try clear p2)
  obtain ⟨x5_1, rfl, HA, HK1, BK290, HB⟩ := hrel
  cases gk with
  | zero => exact absurd HA.out (by simp [rf17_fills.l0])
  | succ k1 =>
   have H := HA.out; clear HA
   simp only [rf17_fills.l0] at H
   by_cases c4 : x5_1 < (l1.length : Int)
   ·rw [if_pos c4] at H
    have c4b0 := decide_eq_true c4; clear c4
    have HC5 := AM H
    clear H
    go_upto_region 4 with (fail)
    go_cut [32] (fun v32 wc => ∃ (kq : Nat) (x32_4 : Bool), v32 = .bool x32_4 ∧ Aside0 (rf17_fills.j1 kq l1 x5_1 x32_4 l0_0 l0_1 l0_2 = some r) ∧ Aside0 (kq ≤ k1) ∧ Aside0 (wc.heap[gb290]? = some (.cells #[(.slice A0_0 l0_0.length c0_0), (.slice A0_1 l0_1.length c0_1), (.slice A0_2 l0_2.length c0_2)] 25 (0, 0))) ∧ Aside0 (Below w.heap.size w wc))
    case first =>
     have H := HC5.out; clear HC5
     by_cases c6 : 0 ≤ x5_1
     ·rw [if_pos c6] at H
      have c6b0 := decide_eq_true c6; clear c6
      (first | rw [c6b0] | (simp only [i64_w, i32_w]; rw [c6b0]) | skip)
      by_cases c7 : (rd l1 x5_1) < 0
      ·rw [if_pos c7] at H
       have c7b0 := decide_eq_true c7; clear c7
       have H' := AM H
       clear H
       try go_wp2
       replace BK290 := dB BK290; replace HB := dH HB
       have p291 : 0 ≤ (x5_1 : Int) := pD
       have q291 : x5_1 < (l1.length : Int) := pD
       obtain ⟨ad291, e291, hx291_0⟩ := Kd.at_int HR1.out x5_1 p291 q291
       have hw291_0 := hx291_0
       cases e291
       replace hx291_0 := hW HB hx291_0; replace p291 := eq_true p291; replace q291 := eq_true q291
       refine sP 15 (S := fun w' => w'.cell? (ad291.add (x5_1).toNat) = some (.int .i64 (rd l1 x5_1))) (ds := []) ((hW HB hw291_0)) fun hHeld => ?_; refine with_tabW rf17_fills.tab4 rf17_fills.bits4 (fun HT_ HW_ => ?_)
       generalize wr.drew = w8 at BK290 HB hx291_0 hHeld ⊢
       refine pQ 0 (some 18) HT_ ?_; refine pQ 1 (some 19) HT_ ?_; refine pQ 2 (some 20) HT_ ?_; refine tQ 3 (some 21) HT_ HW_ hHeld ?_; refine pQ 4 (some 22) HT_ ?_; refine pQ 5 (some 23) HT_ ?_; refine uQ 6 (some 24) HT_ ?_; refine uQ 7 (some 25) HT_ ?_; refine uQ 8 (some 26) HT_ ?_; refine uQ 9 (some 27) HT_ ?_; refine uQ 10 (some 28) HT_ ?_; refine uQ 11 (some 29) HT_ ?_; refine uQ 12 (some 30) HT_ ?_; refine uQ 13 (some 31) HT_ ?_; refine pQ 14 (some 32) HT_ ?_
       refine done_ (done_of HT_.out (by kernel_rfl)) ?_
       try go_wp2
       go_meet
       case rel => exact ⟨_, (true), rS, H', ⟨by have := HK1.out; first | omega | exact Nat.le_refl _⟩, ⟨bK BK290⟩, ⟨ bH HB⟩⟩
      ·rw [if_neg c7] at H
       have c7b0 := decide_eq_false c7; clear c7
       have H' := AM H
       clear H
       try go_wp2
       replace BK290 := dB BK290; replace HB := dH HB
       have p291 : 0 ≤ (x5_1 : Int) := pD
       have q291 : x5_1 < (l1.length : Int) := pD
       obtain ⟨ad291, e291, hx291_0⟩ := Kd.at_int HR1.out x5_1 p291 q291
       have hw291_0 := hx291_0
       cases e291
       replace hx291_0 := hW HB hx291_0; replace p291 := eq_true p291; replace q291 := eq_true q291
       have p292 : 0 ≤ (x5_1 : Int) := pD
       have q292 : x5_1 < (l1.length : Int) := pD
       obtain ⟨ad292, e292, hx292_0⟩ := Kd.at_int HR1.out x5_1 p292 q292
       have hw292_0 := hx292_0
       obtain rfl : ad291 = ad292 := (by injection e292)
       replace hx292_0 := hW HB hx292_0; replace p292 := eq_true p292; replace q292 := eq_true q292
       refine sP 15 (S := fun w' => w'.cell? ⟨gb290, 0, none⟩ = some (.slice A0_0 l0_0.length c0_0) ∧ w'.cell? ⟨gb290, 1, none⟩ = some (.slice A0_1 l0_1.length c0_1) ∧ w'.cell? ⟨gb290, 2, none⟩ = some (.slice A0_2 l0_2.length c0_2) ∧ w'.cell? (ad291.add (x5_1).toNat) = some (.int .i64 (rd l1 x5_1)) ∧ w'.cell? (ad291.add (x5_1).toNat) = some (.int .i64 (rd l1 x5_1))) (ds := []) ⟨bC BK290, bC BK290, bC BK290, (hW HB hw291_0), (hW HB hw292_0)⟩ fun hHeld => ?_; refine with_tabW rf17_fills.tab4 rf17_fills.bits4 (fun HT_ HW_ => ?_)
       generalize wr.drew = w9 at BK290 HB hx291_0 hx292_0 hHeld ⊢
       refine pQ 0 (some 18) HT_ ?_; refine pQ 1 (some 19) HT_ ?_; refine pQ 2 (some 20) HT_ ?_; refine tQ 3 (some 21) HT_ HW_ hHeld ?_; refine pQ 4 (some 22) HT_ ?_; refine pQ 5 (some 23) HT_ ?_; refine pQ 6 (some 24) HT_ ?_; refine pQ 7 (some 25) HT_ ?_; refine pQ 8 (some 26) HT_ ?_; refine pQ 10 (some 28) HT_ ?_; refine tQ 9 (some 27) HT_ HW_ hHeld ?_; refine tQ 11 (some 29) HT_ HW_ hHeld ?_; refine pQ 12 (some 30) HT_ ?_; refine pQ 13 (some 31) HT_ ?_; refine pQ 14 (some 32) HT_ ?_
       refine done_ (done_of HT_.out (by kernel_rfl)) ?_
       try go_wp2
       go_meet
       case rel => exact ⟨_, (decide ((rd l1 x5_1) ≥ (l0_1.length : Int))), rS, H', ⟨by have := HK1.out; first | omega | exact Nat.le_refl _⟩, ⟨bK BK290⟩, ⟨ bH HB⟩⟩
     ·rw [if_neg c6] at H
      exact absurd H (by simp)
    case rest =>
     clear HC5; (try clear c1); (try clear p2); (try clear q2); (try clear hx2); (try clear c4); (try clear c4b0); (try clear c6); (try clear c6b0); (try clear c7); (try clear c7b0); (try clear hx291_0); (try clear hx292_0); (try clear p2); (try clear p291); (try clear p292); (try clear q291); (try clear q292)
     obtain ⟨kq, x32_4, rfl, HA, HJ4, BK290, HB⟩ := hcut
     cases kq with
     | zero => exact absurd HA.out (by simp [rf17_fills.j1])
     | succ kj4 =>
      have H := HA.out; clear HA
      simp only [rf17_fills.j1] at H
      by_cases c10 : x32_4 = true
      ·subst c10
       have H1 : (some false) = some r := by rw [if_pos rfl] at H; exact H
       clear H; have H := H1; clear H1
       obtain rfl := Option.some.inj H
       go_wp2
       go_ret
       exact ⟨rE, bH HB⟩
      ·replace c10 := Bool.eq_false_iff.mpr c10
       subst c10
       have H1 : (if 0 ≤ x5_1 then (if x5_1 < (l1.length : Int) then (if 0 ≤ (rd l1 x5_1) then (if (rd l1 x5_1) < (l0_1.length : Int) then ((rf16_Points.f kj4 l0_0 l0_1 l0_2 (rd_L3 l0_1 (rd l1 x5_1))).bind fun bt295 => (if bt295.2 = 0 then ((rf17_Area.f kj4 l0_0 l0_1 l0_2 (rd l1 x5_1)).bind fun t300 => ((rf08_Of.f kj4 0).bind fun t303 => ((rf08_Cmp.f kj4 t300 t303).bind fun t306 => (if x5_1 = 0 then (if t306 = 1 then (if x5_1 > 0 then (rf17_fills.j2 kj4 l1 x5_1 bt295.1 (t306 != (-1)) l0_0 l0_1 l0_2) else (rf17_fills.j2 kj4 l1 x5_1 bt295.1 false l0_0 l0_1 l0_2)) else (rf17_fills.j2 kj4 l1 x5_1 bt295.1 true l0_0 l0_1 l0_2)) else (if x5_1 > 0 then (rf17_fills.j2 kj4 l1 x5_1 bt295.1 (t306 != (-1)) l0_0 l0_1 l0_2) else (rf17_fills.j2 kj4 l1 x5_1 bt295.1 false l0_0 l0_1 l0_2)))))) else (some false))) else (none)) else (none)) else (none)) else (none)) = some r := by rw [if_neg (show ¬ (false = true) by decide)] at H; exact H
       clear H; have H := H1; clear H1
       by_cases c11 : 0 ≤ x5_1
       ·rw [if_pos c11] at H
        have c11b0 := decide_eq_true c11; clear c11
        by_cases c12 : x5_1 < (l1.length : Int)
        ·rw [if_pos c12] at H
         have c12b0 := decide_eq_true c12; clear c12
         by_cases c13 : 0 ≤ (rd l1 x5_1)
         ·rw [if_pos c13] at H
          have c13b0 := decide_eq_true c13; clear c13
          by_cases c14 : (rd l1 x5_1) < (l0_1.length : Int)
          ·rw [if_pos c14] at H
           have c14b0 := decide_eq_true c14; clear c14
           obtain ⟨⟨t295, t298⟩, A15, H⟩ := bS H
           try dsimp only at H
           have HC16 := AM H
           clear H
           try go_wp2
           replace BK290 := dB BK290; replace HB := dH HB
           have p293 : 0 ≤ (x5_1 : Int) := pD
           have q293 : x5_1 < (l1.length : Int) := pD
           obtain ⟨ad293, e293, hx293_0⟩ := Kd.at_int HR1.out x5_1 p293 q293
           have hw293_0 := hx293_0
           cases e293
           replace hx293_0 := hW HB hx293_0; replace p293 := eq_true p293; replace q293 := eq_true q293
           have p294 : 0 ≤ ((rd l1 x5_1) : Int) := pD
           have q294 : (rd l1 x5_1) < (l0_1.length : Int) := pD
           obtain ⟨ad294, A294_0, c294_0, e294, hx294_0, hl294_0, hi294_0⟩ := at_L3 HR0_1.out (rd l1 x5_1) p294 q294
           have hw294_0 := hx294_0
           cases e294
           replace hx294_0 := hW HB hx294_0
           have HR294_0 := AM hi294_0
           have HC294_0 := AM hl294_0
           clear hi294_0 hl294_0; replace p294 := eq_true p294; replace q294 := eq_true q294
           refine sP 15 (S := fun w' => w'.cell? ⟨gb290, 0, none⟩ = some (.slice A0_0 l0_0.length c0_0) ∧ w'.cell? ⟨gb290, 1, none⟩ = some (.slice (some ad294) l0_1.length c0_1) ∧ w'.cell? ⟨gb290, 2, none⟩ = some (.slice A0_2 l0_2.length c0_2) ∧ w'.cell? (ad293.add (x5_1).toNat) = some (.int .i64 (rd l1 x5_1)) ∧ w'.cell? (ad294.add ((rd l1 x5_1)).toNat) = some (.slice A294_0 (rd_L3 l0_1 (rd l1 x5_1)).length c294_0)) (ds := []) ⟨bC BK290, bC BK290, bC BK290, (hW HB hw293_0), (hW HB hw294_0)⟩ fun hHeld => ?_; refine with_tabW rf17_fills.tab6 rf17_fills.bits6 (fun HT_ HW_ => ?_)
           generalize wc.drew = w17 at BK290 HB HR294_0 hx293_0 hx294_0 hHeld ⊢
           refine pQ 1 (some 35) HT_ ?_; refine pQ 3 (some 37) HT_ ?_; refine pQ 4 (some 38) HT_ ?_; refine pQ 5 (some 39) HT_ ?_; refine tQ 0 (some 34) HT_ HW_ hHeld ?_; refine tQ 2 (some 36) HT_ HW_ hHeld ?_; refine tQ 6 (some 40) HT_ HW_ hHeld ?_; refine pQ 7 (some 41) HT_ ?_; refine tQ 8 (some 42) HT_ HW_ hHeld ?_
           refine oQ 9 (some 43) HT_ rfl fun K hK => ?_
           refine gO Try.func35 #[.agg #[.slice A0_0 l0_0.length c0_0, .slice (some ad294) l0_1.length c0_1, .slice A0_2 l0_2.length c0_2], .slice A294_0 (rd_L3 l0_1 (rd l1 x5_1)).length c294_0] ?_
           with_reducible refine (rf16_Points.calls kj4 _ _ l0_0 _ _ l0_1 _ _ l0_2 _ _ (rd_L3 l0_1 (rd l1 x5_1)) t295 t298 _ ?side1 ?side2 ?side3 ?side4 ?side5 ?side6 ?side7 ?side8 A15.out).mono ?_
           (case side1 => exact sC HR0_0 HB)
           (case side2 => exact HC0_0.out)
           (case side3 => exact sC HR0_1 HB)
           (case side4 => exact HC0_1.out)
           (case side5 => exact sC HR0_2 HB)
           (case side6 => exact HC0_2.out)
           (case side7 => exact sC HR294_0 HB)
           (case side8 => exact HC294_0.out)
           rintro e w18 ⟨v296, rfl, ho0, hb⟩
           refine ⟨_, rfl, ?_⟩
           have HO297 := AM (Kd.R_lower ho0 (below_size (bH HB)))
           replace BK290 := kB BK290 hb; replace HB := kH HB hb; (try clear hb); (try clear hb2); (try clear hk); (try clear hi); (try clear ho0)
           refine hK.out _ _ ⟨bC BK290, bC BK290, bC BK290, (hW HB hw293_0), (hW HB hw294_0)⟩ (fun hHeld => ?_)
           clear hK K; refine nP (some 43) ?_; refine pQ 10 (some 33) HT_ ?_; refine pQ 11 (some 44) HT_ ?_; refine pQ 12 (some 45) HT_ ?_; refine pQ 13 (some 6) HT_ ?_; refine pQ 14 (some 7) HT_ ?_
           refine done_ (done_of HT_.out (by kernel_rfl)) ?_
           go_upto_if 47 with (fail)
           have H := HC16.out; clear HC16
           by_cases c19 : t298 = 0
           ·rw [if_pos c19] at H
            have c19b0 : (t298 == 0) = true := beq_iff_eq.mpr c19
            have c19b1 : (t298 != 0) = false := bne_eq_false_iff_eq.mpr c19
            clear c19
            (first | rw [c19b0] | (simp only [i64_w, i32_w]; rw [c19b0]) | skip)
            obtain ⟨t300, A20, H⟩ := bS H
            obtain ⟨t303, A21, H⟩ := bS H
            obtain ⟨t306, A22, H⟩ := bS H
            have HC23 := AM H
            clear H
            try go_wp2
            replace HO297 := dR HO297; replace BK290 := dB BK290; replace HB := dH HB
            have p299 : 0 ≤ (x5_1 : Int) := pD
            have q299 : x5_1 < (l1.length : Int) := pD
            obtain ⟨ad299, e299, hx299_0⟩ := Kd.at_int HR1.out x5_1 p299 q299
            have hw299_0 := hx299_0
            obtain rfl : ad293 = ad299 := (by injection e299)
            replace hx299_0 := hW HB hx299_0; replace p299 := eq_true p299; replace q299 := eq_true q299
            refine sP 9 (S := fun w' => w'.cell? ⟨gb290, 0, none⟩ = some (.slice A0_0 l0_0.length c0_0) ∧ w'.cell? ⟨gb290, 1, none⟩ = some (.slice (some ad294) l0_1.length c0_1) ∧ w'.cell? ⟨gb290, 2, none⟩ = some (.slice A0_2 l0_2.length c0_2) ∧ w'.cell? (ad293.add (x5_1).toNat) = some (.int .i64 (rd l1 x5_1))) (ds := []) ⟨bC BK290, bC BK290, bC BK290, (hW HB hw299_0)⟩ fun hHeld => ?_; refine with_tabW rf17_fills.tab9 rf17_fills.bits9 (fun HT_ HW_ => ?_)
            generalize w18.drew = w24 at HO297 BK290 HB hx299_0 hHeld ⊢
            refine pQ 1 (some 49) HT_ ?_; refine pQ 2 (some 50) HT_ ?_; refine pQ 3 (some 51) HT_ ?_; refine tQ 0 (some 48) HT_ HW_ hHeld ?_; refine tQ 4 (some 52) HT_ HW_ hHeld ?_
            refine oQ 5 (some 53) HT_ rfl fun K hK => ?_
            refine gO Try.func20 #[.agg #[.slice A0_0 l0_0.length c0_0, .slice (some ad294) l0_1.length c0_1, .slice A0_2 l0_2.length c0_2], .int .i64 (rd l1 x5_1)] ?_
            with_reducible refine (rf17_Area.calls kj4 _ _ l0_0 _ _ l0_1 _ _ l0_2 (rd l1 x5_1) t300 _ ?side1 ?side2 ?side3 ?side4 ?side5 ?side6 A20.out).mono ?_
            (case side1 => exact sC HR0_0 HB)
            (case side2 => exact HC0_0.out)
            (case side3 => exact sC HR0_1 HB)
            (case side4 => exact HC0_1.out)
            (case side5 => exact sC HR0_2 HB)
            (case side6 => exact HC0_2.out)
            rintro e w25 ⟨v301, rfl, ho0, hb⟩
            refine ⟨_, rfl, ?_⟩
            replace HO297 := kR HO297 hb
            have HO302 := AM (Kd.R_lower ho0 (below_size (bH HB)))
            replace BK290 := kB BK290 hb; replace HB := kH HB hb; (try clear hb); (try clear hb2); (try clear hk); (try clear hi); (try clear ho0)
            refine hK.out _ _ ⟨bC BK290, bC BK290, bC BK290, (hW HB hw299_0)⟩ (fun hHeld => ?_)
            clear hK K; refine nP (some 53) ?_
            refine oQ 6 (some 54) HT_ rfl fun K hK => ?_
            refine gO Try.func18 #[.int .i64 0] ?_
            with_reducible refine (rf08_Of.calls kj4 0 t303 _ A21.out).mono ?_
            rintro e w26 ⟨v304, rfl, ho0, hb⟩
            refine ⟨_, rfl, ?_⟩
            replace HO297 := kR HO297 hb
            have HO305 := AM (Kd.R_lower (Kd.R_new' ho0 (Kd.R_lt (rK HO302))) (below_size (bH HB)))
            replace HO302 := AM (Kd.R_elder' (rK HO302) (Kd.R_base ho0) hb)
            replace BK290 := kB BK290 hb; replace HB := kH HB hb; (try clear hb); (try clear hb2); (try clear hk); (try clear hi); (try clear ho0)
            obtain ⟨Ao27, co27, eo27⟩ := Kd.R_slice HO302.out
            (first | subst eo27 | (injection eo27 with f1_ f2_ f3_; have f4_ := f1_.symm; have f5_ := f3_.symm; clear f1_ f2_ f3_; subst f4_; subst f5_))
            obtain ⟨Ao28, co28, eo28⟩ := Kd.R_slice HO305.out
            (first | subst eo28 | (injection eo28 with f1_ f2_ f3_; have f4_ := f1_.symm; have f5_ := f3_.symm; clear f1_ f2_ f3_; subst f4_; subst f5_))
            refine hK.out _ _ ⟨bC BK290, bC BK290, bC BK290, (hW HB hw299_0)⟩ (fun hHeld => ?_)
            clear hK K; refine nP (some 54) ?_
            refine oQ 7 (some 55) HT_ rfl fun K hK => ?_
            refine gO Try.func49 #[.agg #[.slice Ao27 t300.length co27], .agg #[.slice Ao28 t303.length co28]] ?_
            with_reducible refine (rf08_Cmp.calls kj4 _ _ t300 _ _ t303 t306 _ ?side1 ?side2 ?side3 ?side4 A22.out).mono ?_
            (case side1 => exact sR HO302)
            (case side2 => exact (Kd.R_reads' HO302.out).2.1)
            (case side3 => exact sR HO305)
            (case side4 => exact (Kd.R_reads' HO305.out).2.1)
            rintro e w29 ⟨rfl, hb⟩
            refine ⟨_, rfl, ?_⟩
            replace HO297 := kR HO297 hb; replace HO302 := kR HO302 hb; replace HO305 := kR HO305 hb; replace BK290 := kB BK290 hb; replace HB := kH HB hb; (try clear hb); (try clear hb2); (try clear hk); (try clear hi)
            refine hK.out _ _ ⟨bC BK290, bC BK290, bC BK290, (hW HB hw299_0)⟩ (fun hHeld => ?_)
            clear hK K; refine nP (some 55) ?_; refine pQ 8 (some 8) HT_ ?_
            refine done_ (done_of HT_.out (by kernel_rfl)) ?_
            go_upto_region 10 with (fail)
            go_cut [69] (fun v69 wc => ∃ (kq : Nat) (x69_22 : Bool), v69 = .bool x69_22 ∧ Aside0 (rf17_fills.j2 kq l1 x5_1 t295 x69_22 l0_0 l0_1 l0_2 = some r) ∧ Aside0 (kq ≤ kj4) ∧ Aside0 (Kd.R k27 27 wc w.heap.size (fun _ => True) v296 t295) ∧ Aside0 (wc.heap[gb290]? = some (.cells #[(.slice A0_0 l0_0.length c0_0), (.slice (some ad294) l0_1.length c0_1), (.slice A0_2 l0_2.length c0_2)] 25 (0, 0))) ∧ Aside0 (Below w.heap.size w wc))
            case first =>
             have H := HC23.out; clear HC23
             by_cases c30 : x5_1 = 0
             ·rw [if_pos c30] at H
              have c30b0 : (x5_1 == 0) = true := beq_iff_eq.mpr c30
              have c30b1 : (x5_1 != 0) = false := bne_eq_false_iff_eq.mpr c30
              clear c30
              (first | rw [c30b0] | (simp only [i64_w, i32_w]; rw [c30b0]) | skip)
              by_cases c31 : t306 = 1
              ·rw [if_pos c31] at H
               have c31b0 : (t306 == 1) = true := beq_iff_eq.mpr c31
               have c31b1 : (t306 != 1) = false := bne_eq_false_iff_eq.mpr c31
               clear c31
               by_cases c32 : x5_1 > 0
               ·rw [if_pos c32] at H
                have c32b0 := decide_eq_true c32; clear c32
                have H' := AM H
                clear H
                go_wp2
                go_meet
                case rel => exact ⟨_, ((t306 != (-1))), rS, H', ⟨by have := HK1.out; have := HJ4.out; first | omega | exact Nat.le_refl _⟩, ⟨rK HO297⟩, ⟨bK BK290⟩, ⟨ bH HB⟩⟩
               ·rw [if_neg c32] at H
                have c32b0 := decide_eq_false c32; clear c32
                have H' := AM H
                clear H
                go_wp2
                go_meet
                case rel => exact ⟨_, (false), rS, H', ⟨by have := HK1.out; have := HJ4.out; first | omega | exact Nat.le_refl _⟩, ⟨rK HO297⟩, ⟨bK BK290⟩, ⟨ bH HB⟩⟩
              ·rw [if_neg c31] at H
               have c31b0 : (t306 == 1) = false := beq_eq_false_iff_ne.mpr c31
               have c31b1 : (t306 != 1) = true := bne_iff_ne.mpr c31
               have H' := AM H
               clear H
               go_wp2
               go_meet
               case rel => exact ⟨_, (true), rS, H', ⟨by have := HK1.out; have := HJ4.out; first | omega | exact Nat.le_refl _⟩, ⟨rK HO297⟩, ⟨bK BK290⟩, ⟨ bH HB⟩⟩
             ·rw [if_neg c30] at H
              have c30b0 : (x5_1 == 0) = false := beq_eq_false_iff_ne.mpr c30
              have c30b1 : (x5_1 != 0) = true := bne_iff_ne.mpr c30
              (first | rw [c30b0] | (simp only [i64_w, i32_w]; rw [c30b0]) | skip)
              by_cases c33 : x5_1 > 0
              ·rw [if_pos c33] at H
               have c33b0 := decide_eq_true c33; clear c33
               have H' := AM H
               clear H
               go_wp2
               go_meet
               case rel => exact ⟨_, ((t306 != (-1))), rS, H', ⟨by have := HK1.out; have := HJ4.out; first | omega | exact Nat.le_refl _⟩, ⟨rK HO297⟩, ⟨bK BK290⟩, ⟨ bH HB⟩⟩
              ·rw [if_neg c33] at H
               have c33b0 := decide_eq_false c33; clear c33
               have H' := AM H
               clear H
               go_wp2
               go_meet
               case rel => exact ⟨_, (false), rS, H', ⟨by have := HK1.out; have := HJ4.out; first | omega | exact Nat.le_refl _⟩, ⟨rK HO297⟩, ⟨bK BK290⟩, ⟨ bH HB⟩⟩
            case rest =>
             clear HC23; (try clear c1); (try clear c2); (try clear p2); (try clear q2); (try clear hx2); (try clear c3); (try clear c4); (try clear c4b0); (try clear c6); (try clear c6b0); (try clear c7); (try clear c7b0); (try clear c10); (try clear c11); (try clear c11b0); (try clear c12); (try clear c12b0); (try clear c13); (try clear c13b0); (try clear c14); (try clear c14b0); (try clear c18); (try clear c19); (try clear c19b0); (try clear c19b1); (try clear c20); (try clear c29); (try clear p29); (try clear q29); (try clear hx29); (try clear c30); (try clear c30b0); (try clear c30b1); (try clear c31); (try clear c31b0); (try clear c31b1); (try clear c32); (try clear c32b0); (try clear c33); (try clear c33b0); (try clear hx291_0); (try clear hx292_0); (try clear hx293_0); (try clear hx294_0); (try clear hx299_0); (try clear p2); (try clear p291); (try clear p292); (try clear p293); (try clear p294); (try clear p299); (try clear q2); (try clear q291); (try clear q292); (try clear q293); (try clear q294); (try clear q299)
             obtain ⟨kq, x69_22, rfl, HA, HJ22, HO_6, BK290, HB⟩ := hcut
             cases kq with
             | zero => exact absurd HA.out (by simp [rf17_fills.j2])
             | succ kj22 =>
              have H := HA.out; clear HA
              simp only [rf17_fills.j2] at H
              by_cases c34 : x69_22 = true
              ·subst c34
               have H1 : (some false) = some r := by rw [if_pos rfl] at H; exact H
               clear H; have H := H1; clear H1
               obtain rfl := Option.some.inj H
               go_wp2
               go_ret
               exact ⟨rE, bH HB⟩
              ·replace c34 := Bool.eq_false_iff.mpr c34
               subst c34
               have H1 : (if 0 < (l1.length : Int) then (if 0 ≤ (rd l1 0) then (if (rd l1 0) < (l0_1.length : Int) then ((rf16_Points.f kj22 l0_0 l0_1 l0_2 (rd_L3 l0_1 (rd l1 0))).bind fun bt309 => (rf17_fills.l1 kj22 l1 x5_1 t295 bt309.1 0 l0_0 l0_1 l0_2)) else (none)) else (none)) else (none)) = some r := by rw [if_neg (show ¬ (false = true) by decide)] at H; exact H
               clear H; have H := H1; clear H1
               by_cases c35 : 0 < (l1.length : Int)
               ·rw [if_pos c35] at H
                have c35b0 := decide_eq_true c35
                have c35b1 : decide (0 < l1.length) = true := decide_eq_true (by omega)
                clear c35
                by_cases c36 : 0 ≤ (rd l1 0)
                ·rw [if_pos c36] at H
                 have c36b0 := decide_eq_true c36; clear c36
                 by_cases c37 : (rd l1 0) < (l0_1.length : Int)
                 ·rw [if_pos c37] at H
                  have c37b0 := decide_eq_true c37; clear c37
                  obtain ⟨⟨t309, t312⟩, A38, H⟩ := bS H
                  try dsimp only at H
                  have H' := AM H
                  clear H
                  try go_wp2
                  replace HO_6 := dR HO_6; replace BK290 := dB BK290; replace HB := dH HB
                  have p307 : 0 ≤ (0 : Int) := (by omega)
                  have q307 : 0 < (l1.length : Int) := pD
                  obtain ⟨ad307, e307, hx307_0⟩ := Kd.at_int HR1.out 0 p307 q307
                  have hw307_0 := hx307_0
                  (try rw [show ((0 : Int)).toNat = 0 from rfl] at hw307_0)
                  (try rw [show 0 * 1 = 0 from rfl] at hw307_0)
                  (try rw [Addr.add_zero'] at hw307_0)
                  obtain rfl : ad293 = ad307 := (by injection e307)
                  have qi307 : (0 < l1.length) = True := eq_true (by omega)
                  (try rw [show ((0 : Int)).toNat = 0 from rfl] at hx307_0)
                  (try rw [Addr.add_zero'] at hx307_0)
                  replace hx307_0 := hW HB hx307_0; replace p307 := eq_true p307; replace q307 := eq_true q307
                  have p308 : 0 ≤ ((rd l1 0) : Int) := pD
                  have q308 : (rd l1 0) < (l0_1.length : Int) := pD
                  obtain ⟨ad308, A308_0, c308_0, e308, hx308_0, hl308_0, hi308_0⟩ := at_L3 HR0_1.out (rd l1 0) p308 q308
                  have hw308_0 := hx308_0
                  obtain rfl : ad294 = ad308 := (by injection e308)
                  replace hx308_0 := hW HB hx308_0
                  have HR308_0 := AM hi308_0
                  have HC308_0 := AM hl308_0
                  clear hi308_0 hl308_0; replace p308 := eq_true p308; replace q308 := eq_true q308
                  refine sP 14 (S := fun w' => w'.cell? ⟨gb290, 0, none⟩ = some (.slice A0_0 l0_0.length c0_0) ∧ w'.cell? ⟨gb290, 1, none⟩ = some (.slice (some ad294) l0_1.length c0_1) ∧ w'.cell? ⟨gb290, 2, none⟩ = some (.slice A0_2 l0_2.length c0_2) ∧ w'.cell? ad293 = some (.int .i64 (rd l1 0)) ∧ w'.cell? (ad294.add ((rd l1 0)).toNat) = some (.slice A308_0 (rd_L3 l0_1 (rd l1 0)).length c308_0)) (ds := []) ⟨bC BK290, bC BK290, bC BK290, (hW HB hw307_0), (hW HB hw308_0)⟩ fun hHeld => ?_; refine with_tabW rf17_fills.tab12 rf17_fills.bits12 (fun HT_ HW_ => ?_)
                  generalize wc.drew = w39 at HO_6 BK290 HB HR308_0 hx307_0 hx308_0 hHeld ⊢
                  refine pQ 1 (some 72) HT_ ?_; refine pQ 3 (some 74) HT_ ?_; refine pQ 4 (some 75) HT_ ?_; refine tQ 0 (some 71) HT_ HW_ hHeld ?_; refine tQ 2 (some 73) HT_ HW_ hHeld ?_; refine tQ 5 (some 76) HT_ HW_ hHeld ?_; refine pQ 6 (some 77) HT_ ?_; refine tQ 7 (some 78) HT_ HW_ hHeld ?_
                  refine oQ 8 (some 79) HT_ rfl fun K hK => ?_
                  refine gO Try.func35 #[.agg #[.slice A0_0 l0_0.length c0_0, .slice (some ad294) l0_1.length c0_1, .slice A0_2 l0_2.length c0_2], .slice A308_0 (rd_L3 l0_1 (rd l1 0)).length c308_0] ?_
                  with_reducible refine (rf16_Points.calls kj22 _ _ l0_0 _ _ l0_1 _ _ l0_2 _ _ (rd_L3 l0_1 (rd l1 0)) t309 t312 _ ?side1 ?side2 ?side3 ?side4 ?side5 ?side6 ?side7 ?side8 A38.out).mono ?_
                  (case side1 => exact sC HR0_0 HB)
                  (case side2 => exact HC0_0.out)
                  (case side3 => exact sC HR0_1 HB)
                  (case side4 => exact HC0_1.out)
                  (case side5 => exact sC HR0_2 HB)
                  (case side6 => exact HC0_2.out)
                  (case side7 => exact sC HR308_0 HB)
                  (case side8 => exact HC308_0.out)
                  rintro e w40 ⟨v310, rfl, ho0, hb⟩
                  refine ⟨_, rfl, ?_⟩
                  have HO311 := AM (Kd.R_lower (Kd.R_new' ho0 (Kd.R_lt (rK HO_6))) (below_size (bH HB)))
                  replace HO_6 := AM (Kd.R_elder' (rK HO_6) (Kd.R_base ho0) hb)
                  replace BK290 := kB BK290 hb; replace HB := kH HB hb; (try clear hb); (try clear hb2); (try clear hk); (try clear hi); (try clear ho0)
                  refine hK.out _ _ ⟨bC BK290, bC BK290, bC BK290, (hW HB hw307_0), (hW HB hw308_0)⟩ (fun hHeld => ?_)
                  clear hK K; refine nP (some 79) ?_; refine pQ 9 (some 70) HT_ ?_; refine pQ 10 (some 80) HT_ ?_; refine pQ 11 (some 81) HT_ ?_; refine pQ 12 (some 9) HT_ ?_; refine pQ 13 (some 10) HT_ ?_
                  refine done_ (done_of HT_.out (by kernel_rfl)) ?_
                  try go_wp2
                  go_loopg [11] kj22 (fun kq v11 w' => ∃ (x11_4 : Int), v11 = .int .i64 x11_4 ∧ Aside0 (rf17_fills.l1 kq l1 x5_1 t295 t309 x11_4 l0_0 l0_1 l0_2 = some r) ∧ Aside0 (kq ≤ kj22) ∧ Aside0 (Kd.R k27 27 w' w.heap.size (fun k_ => some k_ ≠ (v310 : Value).ownBlock) v296 t295) ∧ Aside0 (Kd.R k27 27 w' w.heap.size (fun k_ => some k_ ≠ (v296 : Value).ownBlock) v310 t309) ∧ Aside0 (w'.heap[gb290]? = some (.cells #[(.slice A0_0 l0_0.length c0_0), (.slice (some ad294) l0_1.length c0_1), (.slice A0_2 l0_2.length c0_2)] 25 (0, 0))) ∧ Aside0 (Below w.heap.size w w'))
                  case atStart => exact ⟨(0), rS, H', ⟨Nat.le_refl _⟩, ⟨by (with_reducible repeat (first | apply Kd.R_alloc | apply Kd.R_drewN | apply Kd.R_drew)); exact Kd.R_mono HO_6.out (fun _ hk => hk.2)⟩, ⟨by (with_reducible repeat (first | apply Kd.R_alloc | apply Kd.R_drewN | apply Kd.R_drew)); exact Kd.R_mono HO311.out (fun _ hk => hk.2)⟩, ⟨bK BK290⟩, ⟨ bH HB⟩⟩
                  case round =>
                   clear H'
                   (try clear c1); (try clear c2); (try clear p2); (try clear q2); (try clear hx2); (try clear c3); (try clear p3); (try clear q3); (try clear hx3); (try clear qi3); (try clear c4); (try clear c4b0); (try clear c6); (try clear c6b0); (try clear c7); (try clear c7b0); (try clear c10); (try clear c11); (try clear c11b0); (try clear c12); (try clear c12b0); (try clear c13); (try clear c13b0); (try clear c14); (try clear c14b0); (try clear c18); (try clear c19); (try clear c19b0); (try clear c19b1); (try clear c20); (try clear c29); (try clear p29); (try clear q29); (try clear hx29); (try clear c30); (try clear c30b0); (try clear c30b1); (try clear p30); (try clear q30); (try clear hx30); (try clear qi30); (try clear c31); (try clear c31b0); (try clear c31b1); (try clear c32); (try clear c32b0); (try clear c33); (try clear c33b0); (try clear c34); (try clear c35); (try clear c35b0); (try clear c35b1); (try clear c36); (try clear c36b0); (try clear c37); (try clear c37b0); (try clear hx291_0); (try clear hx292_0)
                   (try clear hx293_0); (try clear hx294_0); (try clear hx299_0); (try clear hx307_0); (try clear hx308_0); (try clear p2); (try clear p29); (try clear p291); (try clear p292); (try clear p293); (try clear p294); (try clear p299); (try clear p307); (try clear p308); (try clear q2); (try clear q29); (try clear q291); (try clear q292); (try clear q293); (try clear q294); (try clear q299); (try clear q307); (try clear q308)
                   obtain ⟨x11_4, rfl, HA, HK4, HO_6, HO_9, BK290, HB⟩ := hrel
                   cases gk with
                   | zero => exact absurd HA.out (by simp [rf17_fills.l1])
                   | succ k4 =>
                    have H := HA.out; clear HA
                    simp only [rf17_fills.l1] at H
                    have HC41 := AM H
                    clear H
                    go_upto_region 14 with (fail)
                    go_cut [89] (fun v89 wc => ∃ (kq : Nat) (x89_40 : Bool), v89 = .bool x89_40 ∧ Aside0 (rf17_fills.j4 kq l1 x5_1 t295 t309 x11_4 x89_40 l0_0 l0_1 l0_2 = some r) ∧ Aside0 (kq ≤ k4) ∧ Aside0 (Kd.R k27 27 wc w.heap.size (fun k_ => some k_ ≠ (v310 : Value).ownBlock) v296 t295) ∧ Aside0 (Kd.R k27 27 wc w.heap.size (fun k_ => some k_ ≠ (v296 : Value).ownBlock) v310 t309) ∧ Aside0 (wc.heap[gb290]? = some (.cells #[(.slice A0_0 l0_0.length c0_0), (.slice (some ad294) l0_1.length c0_1), (.slice A0_2 l0_2.length c0_2)] 25 (0, 0))) ∧ Aside0 (Below w.heap.size w wc))
                    case first =>
                     have H := HC41.out; clear HC41
                     by_cases c42 : x11_4 < (t295.length : Int)
                     ·rw [if_pos c42] at H
                      have c42b0 := decide_eq_true c42; clear c42
                      (first | rw [c42b0] | (simp only [i64_w, i32_w]; rw [c42b0]) | skip)
                      have H' := AM H
                      clear H
                      obtain ⟨Ao43, co43, eo43⟩ := Kd.R_slice HO_6.out
                      subst eo43
                      go_wp2
                      go_meet
                      case rel => exact ⟨_, (decide (x5_1 > 0)), rS, H', ⟨by have := HK1.out; have := HJ4.out; have := HJ22.out; have := HK4.out; first | omega | exact Nat.le_refl _⟩, ⟨rK HO_6⟩, ⟨rK HO_9⟩, ⟨bK BK290⟩, ⟨ bH HB⟩⟩
                     ·rw [if_neg c42] at H
                      have c42b0 := decide_eq_false c42; clear c42
                      (first | rw [c42b0] | (simp only [i64_w, i32_w]; rw [c42b0]) | skip)
                      have H' := AM H
                      clear H
                      obtain ⟨Ao44, co44, eo44⟩ := Kd.R_slice HO_6.out
                      subst eo44
                      go_wp2
                      go_meet
                      case rel => exact ⟨_, (false), rS, H', ⟨by have := HK1.out; have := HJ4.out; have := HJ22.out; have := HK4.out; first | omega | exact Nat.le_refl _⟩, ⟨rK HO_6⟩, ⟨rK HO_9⟩, ⟨bK BK290⟩, ⟨ bH HB⟩⟩
                    case rest =>
                     clear HC41; (try clear c1); (try clear c2); (try clear p2); (try clear q2); (try clear hx2); (try clear c3); (try clear p3); (try clear q3); (try clear hx3); (try clear qi3); (try clear c4); (try clear c4b0); (try clear c6); (try clear c6b0); (try clear c7); (try clear c7b0); (try clear c10); (try clear c11); (try clear c11b0); (try clear c12); (try clear c12b0); (try clear c13); (try clear c13b0); (try clear c14); (try clear c14b0); (try clear c18); (try clear c19); (try clear c19b0); (try clear c19b1); (try clear c20); (try clear c29); (try clear p29); (try clear q29); (try clear hx29); (try clear c30); (try clear c30b0); (try clear c30b1); (try clear p30); (try clear q30); (try clear hx30); (try clear qi30); (try clear c31); (try clear c31b0); (try clear c31b1); (try clear c32); (try clear c32b0); (try clear c33); (try clear c33b0); (try clear c34); (try clear c35); (try clear c35b0); (try clear c35b1); (try clear c36); (try clear c36b0); (try clear c37); (try clear c37b0); (try clear c42); (try clear c42b0)
                     (try clear hx291_0); (try clear hx292_0); (try clear hx293_0); (try clear hx294_0); (try clear hx299_0); (try clear hx307_0); (try clear hx308_0); (try clear p2); (try clear p29); (try clear p291); (try clear p292); (try clear p293); (try clear p294); (try clear p299); (try clear p3); (try clear p30); (try clear p307); (try clear p308); (try clear q2); (try clear q29); (try clear q291); (try clear q292); (try clear q293); (try clear q294); (try clear q299); (try clear q3); (try clear q30); (try clear q307); (try clear q308)
                     obtain ⟨kq, x89_40, rfl, HA, HJ40, HO_6, HO_9, BK290, HB⟩ := hcut
                     cases kq with
                     | zero => exact absurd HA.out (by simp [rf17_fills.j4])
                     | succ kj40 =>
                      have H := HA.out; clear HA
                      simp only [rf17_fills.j4] at H
                      by_cases c45 : x89_40 = true
                      ·subst c45
                       have H1 : (if 0 ≤ x11_4 then (if x11_4 < (t295.length : Int) then ((rf09_In.f kj40 ((rd_T27 t295 x11_4).f0) ((rd_T27 t295 x11_4).f1) ((rd_T27 t295 x11_4).f2) t309).bind fun t314 => (if t314 = (-1) then (some false) else (rf17_fills.l1 kj40 l1 x5_1 t295 t309 (wrap64 (x11_4 + 1)) l0_0 l0_1 l0_2))) else (none)) else (none)) = some r := by rw [if_pos rfl] at H; exact H
                       clear H; have H := H1; clear H1
                       by_cases c46 : 0 ≤ x11_4
                       ·rw [if_pos c46] at H
                        have c46b0 := decide_eq_true c46; clear c46
                        by_cases c47 : x11_4 < (t295.length : Int)
                        ·rw [if_pos c47] at H
                         have c47b0 := decide_eq_true c47; clear c47
                         obtain ⟨t314, A48, H⟩ := bS H
                         have HC49 := AM H
                         clear H
                         obtain ⟨Ao50, co50, eo50⟩ := Kd.R_slice HO_6.out
                         subst eo50
                         have p313 : 0 ≤ (x11_4 : Int) := pD
                         have q313 : x11_4 < (t295.length : Int) := pD
                         obtain ⟨ad313, e313, hx313_0, hx313_1, hx313_2⟩ := at_T27 (Kd.R_reads' HO_6.out).2.2 x11_4 p313 q313
                         cases e313
                         replace p313 := eq_true p313; replace q313 := eq_true q313
                         obtain ⟨Ao51, co51, eo51⟩ := Kd.R_slice HO_9.out
                         subst eo51
                         go_upto_if 98 with (first | ((with_reducible refine gate_callee (f := 36) rfl ?_); refine gL (some 97) Try.func36 #[.agg #[.int .i64 ((rd_T27 t295 x11_4).f0), .int .i64 ((rd_T27 t295 x11_4).f1), .int .i64 ((rd_T27 t295 x11_4).f2)], .slice Ao51 t309.length co51] ?_; (with_reducible refine (rf09_In.calls kj40 ((rd_T27 t295 x11_4).f0) ((rd_T27 t295 x11_4).f1) ((rd_T27 t295 x11_4).f2) _ _ t309 t314 _ ?side1 ?side2 A48.out).mono ?_); (case side1 => exact sR HO_9); (case side2 => exact (Kd.R_reads' HO_9.out).2.1); rintro e w52 ⟨rfl, hb⟩; refine ⟨_, rfl, ?_⟩; replace HO_6 := kR HO_6 hb; replace HO_9 := kR HO_9 hb; replace BK290 := kB BK290 hb; replace HB := kH HB hb; (try clear hb); (try clear hb2); (try clear hk); (try clear hi)))
                         (try simp only [Act.put, List.setIfInBounds_toArray, List.set_cons_zero, List.set_cons_succ])
                         have H := HC49.out; clear HC49
                         by_cases c53 : t314 = (-1)
                         ·rw [if_pos c53] at H
                          have c53b0 : (t314 == (-1)) = true := beq_iff_eq.mpr c53
                          have c53b1 : (t314 != (-1)) = false := bne_eq_false_iff_eq.mpr c53
                          clear c53
                          (first | rw [c53b0] | (simp only [i64_w, i32_w]; rw [c53b0]) | skip)
                          obtain rfl := Option.some.inj H
                          go_wp2
                          go_ret
                          exact ⟨rE, bH HB⟩
                         ·rw [if_neg c53] at H
                          have c53b0 : (t314 == (-1)) = false := beq_eq_false_iff_ne.mpr c53
                          have c53b1 : (t314 != (-1)) = true := bne_iff_ne.mpr c53
                          (first | rw [c53b0] | (simp only [i64_w, i32_w]; rw [c53b0]) | skip)
                          have H' := AM H
                          clear H
                          go_wp2
                          go_roundg kj40
                          case measure => have := HK1.out; have := HJ4.out; have := HJ22.out; have := HK4.out; have := HJ40.out; omega
                          case rel => exact ⟨(wrap64 (x11_4 + 1)), rS, H', ⟨by have := HK1.out; have := HJ4.out; have := HJ22.out; have := HK4.out; have := HJ40.out; omega⟩, ⟨rK HO_6⟩, ⟨rK HO_9⟩, ⟨bK BK290⟩, ⟨ bH HB⟩⟩
                        ·rw [if_neg c47] at H
                         exact absurd H (by simp)
                       ·rw [if_neg c46] at H
                        exact absurd H (by simp)
                      ·replace c45 := Bool.eq_false_iff.mpr c45
                       subst c45
                       have H1 : (rf17_fills.l0 kj40 l1 (wrap64 (x5_1 + 1)) l0_0 l0_1 l0_2) = some r := by rw [if_neg (show ¬ (false = true) by decide)] at H; exact H
                       clear H; have H := H1; clear H1
                       have H' := AM H
                       clear H
                       go_wp2
                       go_roundg kj40
                       case measure => have := HK1.out; have := HJ4.out; have := HJ22.out; have := HK4.out; have := HJ40.out; omega
                       case rel => exact ⟨(wrap64 (x5_1 + 1)), rS, H', ⟨by have := HK1.out; have := HJ4.out; have := HJ22.out; have := HK4.out; have := HJ40.out; omega⟩, ⟨bK BK290⟩, ⟨ bH HB⟩⟩
                 ·rw [if_neg c37] at H
                  exact absurd H (by simp)
                ·rw [if_neg c36] at H
                 exact absurd H (by simp)
               ·rw [if_neg c35] at H
                exact absurd H (by simp)
           ·rw [if_neg c19] at H
            have c19b0 : (t298 == 0) = false := beq_eq_false_iff_ne.mpr c19
            have c19b1 : (t298 != 0) = true := bne_iff_ne.mpr c19
            (first | rw [c19b0] | (simp only [i64_w, i32_w]; rw [c19b0]) | skip)
            obtain rfl := Option.some.inj H
            go_wp2
            go_ret
            exact ⟨rE, bH HB⟩
          ·rw [if_neg c14] at H
           exact absurd H (by simp)
         ·rw [if_neg c13] at H
          exact absurd H (by simp)
        ·rw [if_neg c12] at H
         exact absurd H (by simp)
       ·rw [if_neg c11] at H
        exact absurd H (by simp)
   ·rw [if_neg c4] at H
    have c4b0 := decide_eq_false c4; clear c4
    obtain rfl := Option.some.inj H
    go_wp2
    go_ret
    exact ⟨rE, bH HB⟩
end Go.Proofs.Ytbonkedecfjmdaa.P
