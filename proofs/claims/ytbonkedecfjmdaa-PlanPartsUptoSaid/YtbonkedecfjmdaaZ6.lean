/- Written for this claim by a program of this session (a turned copy of the print): Go functions as Lean functions, and that the Go code comes to just these answers; or a statement proved out of them. No condition. -/
import Derived.Test.YtbonkedecfjmdaaZ2
import Derived.Test.YtbonkedecfjmdaaZ5

namespace Go.Proofs.Ytbonkedecfjmdaa.P
open Go.RowKit Go.Proofs.YtbonkedecfjmdaaW.PrintWords Go.Proofs.YtbonkedecfjmdaaW.PrintLast Go.Proofs.YtbonkedecfjmdaaW.PrintMore Go.Proofs.Ytbonkedecfjmdaa.X
attribute [local go_sem] max2_int min2_int max_two min_two max_three min_three max_four min_four add64_0 add64_1 add64
set_option linter.unusedVariables false
set_option linter.unusedSimpArgs false
def rf09_Right.l0 : Nat → List (S27) → Int → Option (Bool)
 | 0, _, _ => none
 | k + 1, x0, x3 => if x3 < (x0.length : Int) then (if 0 ≤ x3 then (if ((rd_T27 x0 x3).f0) < (-2147483648) then (some false) else (if ((rd_T27 x0 x3).f0) > 2147483647 then (some false) else (if ((rd_T27 x0 x3).f1) < (-2147483648) then (some false) else (if ((rd_T27 x0 x3).f1) > 2147483647 then (some false) else (if ((rd_T27 x0 x3).f2) = 0 then (rf09_Right.l0 k x0 (wrap64 (x3 + 1))) else (some false)))))) else (none)) else (some true)
def rf09_Right.f (k : Nat) (l0 : List (S27)) : Option (Bool) := rf09_Right.l0 k l0 0
theorem rf09_Right.mono_l : ∀ k, (∀ y0 y1, LeO (rf09_Right.l0 k y0 y1) (rf09_Right.l0 (k + 1) y0 y1))
 | 0 => fun _ _ r h => by simp [rf09_Right.l0] at h
 | k + 1 => by
  have ih0 := rf09_Right.mono_l k
  ·intro y0 y1
   unfold rf09_Right.l0
   repeat' first
   | (with_reducible exact ih0 _ _)
   | (with_reducible exact LeO.refl _)
   | (with_reducible exact LeO.none _)
   | (with_reducible refine LeO.ite ?_ ?_)
   | (with_reducible refine LeO.bind ?_ (fun _ => ?_))
   | exact ih0 _ _
   | exact LeO.none _
   | refine LeO.ite ?_ ?_
   | refine LeO.bind ?_ (fun _ => ?_)
theorem rf09_Right.mono : ∀ a0 k, LeO (rf09_Right.f k a0) (rf09_Right.f (k + 1) a0) := by
 intro a0 k
 have ih0 := rf09_Right.mono_l k
 unfold rf09_Right.f
 repeat' first
   | (with_reducible exact ih0 _ _)
   | (with_reducible exact LeO.refl _)
   | (with_reducible exact LeO.none _)
   | (with_reducible refine LeO.ite ?_ ?_)
   | (with_reducible refine LeO.bind ?_ (fun _ => ?_))
   | exact ih0 _ _
   | exact LeO.none _
   | refine LeO.ite ?_ ?_
   | refine LeO.bind ?_ (fun _ => ?_)
set_option maxHeartbeats 8000000 in
set_option maxRecDepth 100000 in
theorem rf09_Right.calls (k : Nat) (A0 : Option Addr) (c0 : Nat) (l0 : List (S27)) (r : Bool) (w : World) (hr0 : Kd.C k27 w A0 l0.length l0) (hc0 : l0.length ≤ c0) (h : rf09_Right.f k l0 = some r) :
  Calls Try.prog 22 #[.slice A0 l0.length c0] w fun e w' => e = .returned (.bool r) ∧ Below w.heap.size w w' := by
 have hu27 := Try.underlying27
 have HR0 := AM hr0
 have HC0 := AM hc0
 clear hr0 hc0
 have HB := AM (Below.refl w.heap.size w)
 have H : (rf09_Right.l0 k l0 0) = some r := h
 clear h
 have H' := AM H
 clear H
 go_enter Try.func22, Try.ntmps22
 go_wp2
 go_loopg [3] k (fun kq v3 w' => ∃ (x3_1 : Int), v3 = .int .i64 x3_1 ∧ Aside0 (rf09_Right.l0 kq l0 x3_1 = some r) ∧ Aside0 (kq ≤ k) ∧ Aside0 (Below w.heap.size w w'))
 case atStart => exact ⟨(0), rS, H', ⟨Nat.le_refl _⟩, ⟨ bH HB⟩⟩
 case round =>
  clear H'
  obtain ⟨x3_1, rfl, HA, HK1, HB⟩ := hrel
  cases gk with
  | zero => exact absurd HA.out (by simp [rf09_Right.l0])
  | succ k1 =>
   have H := HA.out; clear HA
   simp only [rf09_Right.l0] at H
   by_cases c2 : x3_1 < (l0.length : Int)
   ·rw [if_pos c2] at H
    have c2b0 := decide_eq_true c2; clear c2
    by_cases c3 : 0 ≤ x3_1
    ·rw [if_pos c3] at H
     have c3b0 := decide_eq_true c3; clear c3
     by_cases c4 : ((rd_T27 l0 x3_1).f0) < (-2147483648)
     ·rw [if_pos c4] at H
      have c4b0 := decide_eq_true c4; clear c4
      obtain rfl := Option.some.inj H
      have p175 : 0 ≤ (x3_1 : Int) := pD
      have q175 : x3_1 < (l0.length : Int) := pD
      obtain ⟨ad175, e175, hx175_0, hx175_1, hx175_2⟩ := at_T27 HR0.out x3_1 p175 q175
      cases e175
      replace hx175_0 := hW HB hx175_0; replace hx175_1 := hW HB hx175_1; replace hx175_2 := hW HB hx175_2; replace p175 := eq_true p175; replace q175 := eq_true q175
      go_wp2_with (first | ((with_reducible refine gate_dst (N := 4) rfl ?_); refine bE 4 #[.int .i64 0, .int .i64 0, .int .i64 0] 27 ?_; intro gb176 hg w5 hbox hb; have BK176 := AM hbox; have GW176 := kG HB hg; replace HB := kH HB hb; have GE176 := GW176; clear hb hbox hg; obtain ⟨hcz6_0, hcz6_1, hcz6_2, hfz6_0, hfz6_1, hfz6_2⟩ := c3 BK176))
      go_ret
      exact ⟨rE, bH HB⟩
     ·rw [if_neg c4] at H
      have c4b0 := decide_eq_false c4; clear c4
      by_cases c7 : ((rd_T27 l0 x3_1).f0) > 2147483647
      ·rw [if_pos c7] at H
       have c7b0 := decide_eq_true c7; clear c7
       obtain rfl := Option.some.inj H
       have p175 : 0 ≤ (x3_1 : Int) := pD
       have q175 : x3_1 < (l0.length : Int) := pD
       obtain ⟨ad175, e175, hx175_0, hx175_1, hx175_2⟩ := at_T27 HR0.out x3_1 p175 q175
       cases e175
       replace hx175_0 := hW HB hx175_0; replace hx175_1 := hW HB hx175_1; replace hx175_2 := hW HB hx175_2; replace p175 := eq_true p175; replace q175 := eq_true q175
       go_wp2_with (first | ((with_reducible refine gate_dst (N := 4) rfl ?_); refine bE 4 #[.int .i64 0, .int .i64 0, .int .i64 0] 27 ?_; intro gb176 hg w8 hbox hb; have BK176 := AM hbox; have GW176 := kG HB hg; replace HB := kH HB hb; have GE176 := GW176; clear hb hbox hg; obtain ⟨hcz9_0, hcz9_1, hcz9_2, hfz9_0, hfz9_1, hfz9_2⟩ := c3 BK176))
       go_ret
       exact ⟨rE, bH HB⟩
      ·rw [if_neg c7] at H
       have c7b0 := decide_eq_false c7; clear c7
       by_cases c10 : ((rd_T27 l0 x3_1).f1) < (-2147483648)
       ·rw [if_pos c10] at H
        have c10b0 := decide_eq_true c10; clear c10
        obtain rfl := Option.some.inj H
        have p175 : 0 ≤ (x3_1 : Int) := pD
        have q175 : x3_1 < (l0.length : Int) := pD
        obtain ⟨ad175, e175, hx175_0, hx175_1, hx175_2⟩ := at_T27 HR0.out x3_1 p175 q175
        cases e175
        replace hx175_0 := hW HB hx175_0; replace hx175_1 := hW HB hx175_1; replace hx175_2 := hW HB hx175_2; replace p175 := eq_true p175; replace q175 := eq_true q175
        go_wp2_with (first | ((with_reducible refine gate_dst (N := 4) rfl ?_); refine bE 4 #[.int .i64 0, .int .i64 0, .int .i64 0] 27 ?_; intro gb176 hg w11 hbox hb; have BK176 := AM hbox; have GW176 := kG HB hg; replace HB := kH HB hb; have GE176 := GW176; clear hb hbox hg; obtain ⟨hcz12_0, hcz12_1, hcz12_2, hfz12_0, hfz12_1, hfz12_2⟩ := c3 BK176))
        go_ret
        exact ⟨rE, bH HB⟩
       ·rw [if_neg c10] at H
        have c10b0 := decide_eq_false c10; clear c10
        by_cases c13 : ((rd_T27 l0 x3_1).f1) > 2147483647
        ·rw [if_pos c13] at H
         have c13b0 := decide_eq_true c13; clear c13
         obtain rfl := Option.some.inj H
         have p175 : 0 ≤ (x3_1 : Int) := pD
         have q175 : x3_1 < (l0.length : Int) := pD
         obtain ⟨ad175, e175, hx175_0, hx175_1, hx175_2⟩ := at_T27 HR0.out x3_1 p175 q175
         cases e175
         replace hx175_0 := hW HB hx175_0; replace hx175_1 := hW HB hx175_1; replace hx175_2 := hW HB hx175_2; replace p175 := eq_true p175; replace q175 := eq_true q175
         go_wp2_with (first | ((with_reducible refine gate_dst (N := 4) rfl ?_); refine bE 4 #[.int .i64 0, .int .i64 0, .int .i64 0] 27 ?_; intro gb176 hg w14 hbox hb; have BK176 := AM hbox; have GW176 := kG HB hg; replace HB := kH HB hb; have GE176 := GW176; clear hb hbox hg; obtain ⟨hcz15_0, hcz15_1, hcz15_2, hfz15_0, hfz15_1, hfz15_2⟩ := c3 BK176))
         go_ret
         exact ⟨rE, bH HB⟩
        ·rw [if_neg c13] at H
         have c13b0 := decide_eq_false c13; clear c13
         have HC16 := AM H
         clear H
         have p175 : 0 ≤ (x3_1 : Int) := pD
         have q175 : x3_1 < (l0.length : Int) := pD
         obtain ⟨ad175, e175, hx175_0, hx175_1, hx175_2⟩ := at_T27 HR0.out x3_1 p175 q175
         cases e175
         replace hx175_0 := hW HB hx175_0; replace hx175_1 := hW HB hx175_1; replace hx175_2 := hW HB hx175_2; replace p175 := eq_true p175; replace q175 := eq_true q175
         go_upto_if 37 with (first | ((with_reducible refine gate_dst (N := 4) rfl ?_); refine bE 4 #[.int .i64 0, .int .i64 0, .int .i64 0] 27 ?_; intro gb176 hg w17 hbox hb; have BK176 := AM hbox; have GW176 := kG HB hg; replace HB := kH HB hb; have GE176 := GW176; clear hb hbox hg; obtain ⟨hcz18_0, hcz18_1, hcz18_2, hfz18_0, hfz18_1, hfz18_2⟩ := c3 BK176))
         (try simp only [Act.put, List.setIfInBounds_toArray, List.set_cons_zero, List.set_cons_succ])
         have H := HC16.out; clear HC16
         by_cases c19 : ((rd_T27 l0 x3_1).f2) = 0
         ·rw [if_pos c19] at H
          have c19b0 : (((rd_T27 l0 x3_1).f2) == 0) = true := beq_iff_eq.mpr c19
          have c19b1 : (((rd_T27 l0 x3_1).f2) != 0) = false := bne_eq_false_iff_eq.mpr c19
          clear c19
          (first | rw [c19b0] | (simp only [i64_w, i32_w]; rw [c19b0]) | skip)
          have H' := AM H
          clear H
          go_wp2
          go_roundg k1
          case measure => have := HK1.out; omega
          case rel => exact ⟨(wrap64 (x3_1 + 1)), rS, H', ⟨by have := HK1.out; omega⟩, ⟨ bH HB⟩⟩
         ·rw [if_neg c19] at H
          have c19b0 : (((rd_T27 l0 x3_1).f2) == 0) = false := beq_eq_false_iff_ne.mpr c19
          have c19b1 : (((rd_T27 l0 x3_1).f2) != 0) = true := bne_iff_ne.mpr c19
          (first | rw [c19b0] | (simp only [i64_w, i32_w]; rw [c19b0]) | skip)
          obtain rfl := Option.some.inj H
          go_wp2
          go_ret
          exact ⟨rE, bH HB⟩
    ·rw [if_neg c3] at H
     exact absurd H (by simp)
   ·rw [if_neg c2] at H
    have c2b0 := decide_eq_false c2; clear c2
    obtain rfl := Option.some.inj H
    go_wp2
    go_ret
    exact ⟨rE, bH HB⟩

mutual
def rf08_Mul.l0 : Nat → List Int → Int → List Int → List Int → Option (List Int)
 | 0, _, _, _, _ => none
 | k + 1, x5, x6, x178000, x179000 => if x6 < 8 then (rf08_Mul.l1 k x5 x6 0 x178000 x179000) else ((rf08_settled.f k x5).bind fun t183 => (some t183))
def rf08_Mul.l1 : Nat → List Int → Int → Int → List Int → List Int → Option (List Int)
 | 0, _, _, _, _, _ => none
 | k + 1, x5, x6, x7, x178000, x179000 => if (wrap64 (x6 + x7)) < 8 then (if 0 ≤ (wrap64 (x6 + x7)) then (if (wrap64 (x6 + x7)) < (x5.length : Int) then (if 0 ≤ x6 then (if x6 < (x178000.length : Int) then (if 0 ≤ x7 then (if x7 < (x179000.length : Int) then (rf08_Mul.l1 k (x5.set ((wrap64 (x6 + x7)) : Int).toNat (wrap64 ((rd x5 (wrap64 (x6 + x7))) + (wrap64 ((rd x178000 x6) * (rd x179000 x7)))))) x6 (wrap64 (x7 + 1)) x178000 x179000) else (none)) else (none)) else (none)) else (none)) else (none)) else (none)) else (rf08_Mul.l0 k x5 (wrap64 (x6 + 1)) x178000 x179000)
end
def rf08_Mul.f (k : Nat) (l0_0 : List Int) (l1_0 : List Int) : Option (List Int) := if 8 ≤ 35184372088832 then (rf08_Mul.l0 k (List.replicate 8 0) 0 l0_0 l1_0) else (none)
theorem rf08_Mul.mono_l : ∀ k, (∀ y0 y1 y2 y3, LeO (rf08_Mul.l0 k y0 y1 y2 y3) (rf08_Mul.l0 (k + 1) y0 y1 y2 y3)) ∧ (∀ y0 y1 y2 y3 y4, LeO (rf08_Mul.l1 k y0 y1 y2 y3 y4) (rf08_Mul.l1 (k + 1) y0 y1 y2 y3 y4))
 | 0 => ⟨fun _ _ _ _ r h => by simp [rf08_Mul.l0] at h, fun _ _ _ _ _ r h => by simp [rf08_Mul.l1] at h⟩
 | k + 1 => by
  obtain ⟨ih0, ih1⟩ := rf08_Mul.mono_l k
  refine ⟨?_, ?_⟩
  all_goals
   intros
   first | unfold rf08_Mul.l0 | unfold rf08_Mul.l1
   repeat' with_reducible first | exact ih0 _ _ _ _ | exact ih1 _ _ _ _ _ | exact rf08_settled.mono _ _ | exact LeO.refl _ | exact LeO.none _ | refine LeO.ite ?_ ?_ | refine LeO.bind ?_ (fun _ => ?_)
theorem rf08_Mul.mono : ∀ a0 a1 k, LeO (rf08_Mul.f k a0 a1) (rf08_Mul.f (k + 1) a0 a1) := by
 intro a0 a1 k
 obtain ⟨ih0, ih1⟩ := rf08_Mul.mono_l k
 unfold rf08_Mul.f
 repeat' first
   | (with_reducible exact ih0 _ _ _ _)
   | (with_reducible exact ih1 _ _ _ _ _)
   | (with_reducible exact rf08_settled.mono _ _)
   | (with_reducible exact LeO.refl _)
   | (with_reducible exact LeO.none _)
   | (with_reducible refine LeO.ite ?_ ?_)
   | (with_reducible refine LeO.bind ?_ (fun _ => ?_))
   | exact ih0 _ _ _ _
   | exact ih1 _ _ _ _ _
   | exact rf08_settled.mono _ _
   | exact LeO.none _
   | refine LeO.ite ?_ ?_
   | refine LeO.bind ?_ (fun _ => ?_)
def rf08_Mul.T8 : Bool × List (List Nat × List Nat) := (true, [([], []), ([], []), ([], []), ([1, 2], [1, 2]), ([], []), ([], []), ([], []), ([5, 6], [5, 6]), ([4, 7], [4, 7]), ([8], [8]), ([], []), ([10], [10]), ([], []), ([11, 12], [11, 12]), ([13], [13]), ([], []), ([15], [15]), ([], []), ([16, 17], [16, 17]), ([18], [18]), ([14, 19], [14, 19]), ([9, 20], [9, 20]), ([0, 3, 0, 1, 2, 3, 4, 5, 6, 7, 8, 9, 10, 11, 12, 13, 14, 15, 16, 17, 18, 19, 20, 21], [0, 3]), ([22, 21, 0, 1, 2, 3, 4, 5, 6, 7, 8, 9, 10, 11, 12, 13, 14, 15, 16, 17, 18, 19, 20, 21], [21, 22])])
def rf08_Mul.B8 : List Nat := [0, 0, 0, 6, 0, 0, 0, 96, 240, 496, 0, 1024, 0, 7168, 15360, 0, 32768, 0, 229376, 491520, 1047552, 2097136, 4194303, 8388607]
theorem rf08_Mul.tab8 : rtab .any (opsOf Try.f82 8) = rf08_Mul.T8 := by kernel_rfl
theorem rf08_Mul.bits8 : waitsOk rf08_Mul.T8.2 rf08_Mul.B8 = true := by kernel_rfl
set_option maxHeartbeats 8000000 in
set_option maxRecDepth 100000 in
theorem rf08_Mul.calls (k : Nat) (A0_0 : Option Addr) (c0_0 : Nat) (l0_0 : List Int) (A1_0 : Option Addr) (c1_0 : Nat) (l1_0 : List Int) (r : List Int) (w : World) (hr0_0 : Kd.C (Kd.int .i64) w A0_0 l0_0.length l0_0) (hc0_0 : l0_0.length ≤ c0_0) (hr1_0 : Kd.C (Kd.int .i64) w A1_0 l1_0.length l1_0) (hc1_0 : l1_0.length ≤ c1_0) (h : rf08_Mul.f k l0_0 l1_0 = some r) :
  Calls Try.prog 82 #[.agg #[.slice A0_0 l0_0.length c0_0], .agg #[.slice A1_0 l1_0.length c1_0]] w fun e w' => ∃ v0_ : Value, e = .returned (.agg #[v0_]) ∧ Kd.R (Kd.int .i64) 3 w' w.heap.size (fun _ => True) v0_ r ∧ Below w.heap.size w w' := by
 have hu43 := Try.underlying43
 have HR0_0 := AM hr0_0
 have HC0_0 := AM hc0_0
 clear hr0_0 hc0_0
 have HR1_0 := AM hr1_0
 have HC1_0 := AM hc1_0
 clear hr1_0 hc1_0
 have HB := AM (Below.refl w.heap.size w)
 have H : (if 8 ≤ 35184372088832 then (rf08_Mul.l0 k (List.replicate 8 0) 0 l0_0 l1_0) else (none)) = some r := h
 clear h
 by_cases c3 : 8 ≤ 35184372088832
 ·rw [if_pos c3] at H
  have c3b0 := eq_true c3; have c3b1 := decide_eq_true c3; clear c3
  obtain ⟨y180, hy180⟩ : ∃ y_ : List Int, y_ = (List.replicate 8 0) := ⟨_, rfl⟩
  replace H : (rf08_Mul.l0 k y180 0 l0_0 l1_0) = some r := by first | (rw [hy180]; with_reducible exact H) | (have H2_ := (Option.bind_some _ _).symm.trans H; rw [hy180]; with_reducible exact H2_) | (have H2_ := (Option.bind_some _ _).symm.trans H; with_reducible exact H2_) | with_reducible exact H | (rw [hy180]; exact H) | exact H
  have Ny180 := AM hy180
  clear hy180
  have H' := AM H
  clear H
  go_enter Try.func82, Try.ntmps82
  go_wp2_with (first | ((with_reducible refine gate_dst (N := 2) rfl ?_); refine bE 2 #[.slice A0_0 l0_0.length c0_0] 43 ?_; intro gb177 hg w4 hbox hb; have BK177 := AM hbox; have GW177 := kG HB hg; replace HB := kH HB hb; have GE177 := GW177; clear hb hbox hg) | ((with_reducible refine gate_dst (N := 3) rfl ?_); refine bE 3 #[.slice A1_0 l1_0.length c1_0] 43 ?_; intro gb178 hg w5 hbox hb; have BK178 := AM hbox; have GW178 := kG HB hg; replace HB := kH HB hb; have GE178 := GW178; have NB177_178 := kN BK177 hg; have NB178_177 := kM BK177 hg; replace BK177 := kB BK177 hb; clear hb hbox hg) | ((with_reducible refine gate_dst (N := 4) rfl ?_); refine bE 4 #[.slice none 0 0] 43 ?_; intro gb179 hg w6 hbox hb; have BK179 := AM hbox; have GW179 := kG HB hg; replace HB := kH HB hb; have GE179 := GW179; have NB177_179 := kN BK177 hg; have NB179_177 := kM BK177 hg; replace BK177 := kB BK177 hb; have NB178_179 := kN BK178 hg; have NB179_178 := kM BK178 hg; replace BK178 := kB BK178 hb; clear hb hbox hg) | ((with_reducible refine gate_dst (N := 8) rfl ?_); refine Kd.R_make (Kd.int .i64) _ 3 rfl (N := 8) rfl 32 _ _ rfl 8 rfl rfl Try.underlying32 (.int .i64 0) 8 info3 rfl (by decide) (by omega) 0 (ok := fun _ => True) (okp := fun _ => True) rfl (fun _ hk => hk) trivial (by omega) (by omega) (Below.refl _ _) (Nat.le_refl _) ?_; intro v181 w7 ho8 hb hg_ hnew_; clear hg_ hnew_; (first | rw [← Ny180.out] at ho8 | (simp only [Int.reduceToNat] at ho8; rw [← Ny180.out] at ho8)); have HO182 := AM (Kd.R_lower ho8 (below_size (bH HB))); replace BK177 := kB BK177 hb; replace BK178 := kB BK178 hb; replace BK179 := kB BK179 hb; replace HB := kH HB hb; clear hb ho8))
  go_loopg [6] k (fun kq v6 w' => ∃ (x5_1 : List Int) (x6_1 : Int), v6 = .int .i64 x6_1 ∧ Aside0 (rf08_Mul.l0 kq x5_1 x6_1 l0_0 l1_0 = some r) ∧ Aside0 (kq ≤ k) ∧ Aside0 (Kd.R (Kd.int .i64) 3 w' w.heap.size (fun _ => True) v181 x5_1) ∧ Aside0 (w'.heap[gb177]? = some (.cells #[(.slice A0_0 l0_0.length c0_0)] 43 (0, 0))) ∧ Aside0 (w'.heap[gb178]? = some (.cells #[(.slice A1_0 l1_0.length c1_0)] 43 (0, 0))) ∧ Aside0 (w'.heap[gb179]? = some (.cells #[(.slice none 0 0)] 43 (0, 0))) ∧ Aside0 (Below w.heap.size w w'))
  case atStart => exact ⟨(y180), (0), rS, H', ⟨Nat.le_refl _⟩, ⟨rK HO182⟩, ⟨bK BK177⟩, ⟨bK BK178⟩, ⟨bK BK179⟩, ⟨ bH HB⟩⟩
  case round =>
   clear H'
   (try clear c1); (try clear p2); (try clear c3); (try clear c3b0); (try clear c3b1); (try clear c8)
   obtain ⟨x5_1, x6_1, rfl, HA, HK1, HO_5, BK177, BK178, BK179, HB⟩ := hrel
   cases gk with
   | zero => exact absurd HA.out (by simp [rf08_Mul.l0])
   | succ k1 =>
    have H := HA.out; clear HA
    simp only [rf08_Mul.l0] at H
    by_cases c9 : x6_1 < 8
    ·rw [if_pos c9] at H
     have c9b0 := decide_eq_true c9; clear c9
     have H' := AM H
     clear H
     go_wp2
     go_loopg [7] k1 (fun kq v7 w' => ∃ (x5_2 : List Int) (x7_2 : Int), v7 = .int .i64 x7_2 ∧ Aside0 (rf08_Mul.l1 kq x5_2 x6_1 x7_2 l0_0 l1_0 = some r) ∧ Aside0 (kq ≤ k1) ∧ Aside0 (Kd.R (Kd.int .i64) 3 w' w.heap.size (fun _ => True) v181 x5_2) ∧ Aside0 (w'.heap[gb177]? = some (.cells #[(.slice A0_0 l0_0.length c0_0)] 43 (0, 0))) ∧ Aside0 (w'.heap[gb178]? = some (.cells #[(.slice A1_0 l1_0.length c1_0)] 43 (0, 0))) ∧ Aside0 (w'.heap[gb179]? = some (.cells #[(.slice none 0 0)] 43 (0, 0))) ∧ Aside0 (Below w.heap.size w w'))
     case atStart => exact ⟨(x5_1), (0), rS, H', ⟨Nat.le_refl _⟩, ⟨rK HO_5⟩, ⟨bK BK177⟩, ⟨bK BK178⟩, ⟨bK BK179⟩, ⟨ bH HB⟩⟩
     case round =>
      clear H'
      (try clear c1); (try clear p2); (try clear c3); (try clear c3b0); (try clear c3b1); (try clear c8); (try clear c9); (try clear c9b0); (try clear p2)
      obtain ⟨x5_2, x7_2, rfl, HA, HK2, HO_5, BK177, BK178, BK179, HB⟩ := hrel
      cases gk with
      | zero => exact absurd HA.out (by simp [rf08_Mul.l1])
      | succ k2 =>
       have H := HA.out; clear HA
       simp only [rf08_Mul.l1] at H
       by_cases c10 : (wrap64 (x6_1 + x7_2)) < 8
       ·rw [if_pos c10] at H
        have c10b0 := decide_eq_true c10; clear c10
        obtain ⟨ji11, hji11⟩ : ∃ j_ : Int, (wrap64 (x6_1 + x7_2)) = j_ := ⟨_, rfl⟩
        replace H : (if 0 ≤ (ji11) then (if (ji11) < (x5_2.length : Int) then (if 0 ≤ x6_1 then (if x6_1 < (l0_0.length : Int) then (if 0 ≤ x7_2 then (if x7_2 < (l1_0.length : Int) then (rf08_Mul.l1 k2 (x5_2.set ((ji11) : Int).toNat (wrap64 ((rd x5_2 (ji11)) + (wrap64 ((rd l0_0 x6_1) * (rd l1_0 x7_2)))))) x6_1 (wrap64 (x7_2 + 1)) l0_0 l1_0) else (none)) else (none)) else (none)) else (none)) else (none)) else (none)) = some r := by first | (rw [hji11] at H; exact H) | (simp only [hji11] at H ⊢; exact H)
        (try rw [hji11] at c10b0)
        have hji11w : (IntKind.i64.wrap (x6_1 + x7_2)) = ji11 := (i64_w _).trans hji11
        by_cases c12 : 0 ≤ (ji11)
        ·rw [if_pos c12] at H
         have c12b0 := decide_eq_true c12; clear c12
         by_cases c13 : (ji11) < (x5_2.length : Int)
         ·rw [if_pos c13] at H
          have c13b0 := decide_eq_true c13; clear c13
          by_cases c14 : 0 ≤ x6_1
          ·rw [if_pos c14] at H
           have c14b0 := decide_eq_true c14; clear c14
           by_cases c15 : x6_1 < (l0_0.length : Int)
           ·rw [if_pos c15] at H
            have c15b0 := decide_eq_true c15; clear c15
            by_cases c16 : 0 ≤ x7_2
            ·rw [if_pos c16] at H
             have c16b0 := decide_eq_true c16; clear c16
             by_cases c17 : x7_2 < (l1_0.length : Int)
             ·rw [if_pos c17] at H
              have c17b0 := decide_eq_true c17; clear c17
              obtain ⟨y189, hy189⟩ : ∃ y_ : List Int, y_ = (x5_2.set ((ji11) : Int).toNat (wrap64 ((rd x5_2 (ji11)) + (wrap64 ((rd l0_0 x6_1) * (rd l1_0 x7_2)))))) := ⟨_, rfl⟩
              replace H : (rf08_Mul.l1 k2 y189 x6_1 (wrap64 (x7_2 + 1)) l0_0 l1_0) = some r := by first | (rw [hy189]; with_reducible exact H) | (have H2_ := (Option.bind_some _ _).symm.trans H; rw [hy189]; with_reducible exact H2_) | (have H2_ := (Option.bind_some _ _).symm.trans H; with_reducible exact H2_) | with_reducible exact H | (rw [hy189]; exact H) | exact H
              have Ny189 := AM hy189
              clear hy189
              have H' := AM H
              clear H
              try go_wp2
              replace HO_5 := dR HO_5; replace BK177 := dB BK177; replace BK178 := dB BK178; replace BK179 := dB BK179; replace HB := dH HB
              obtain ⟨Ao20, co20, eo20⟩ := Kd.R_slice HO_5.out
              (first | subst eo20 | (injection eo20 with f1_ f2_ f3_; have f4_ := f1_.symm; have f5_ := f3_.symm; clear f1_ f2_ f3_; subst f4_; subst f5_))
              have p186 : 0 ≤ ((ji11) : Int) := pD
              have q186 : (ji11) < (x5_2.length : Int) := pD
              obtain ⟨ad186, e186, hx186_0⟩ := Kd.at_int (Kd.R_reads' HO_5.out).2.2 (ji11) p186 q186
              cases e186
              replace p186 := eq_true p186; replace q186 := eq_true q186
              have p187 : 0 ≤ (x6_1 : Int) := pD
              have q187 : x6_1 < (l0_0.length : Int) := pD
              obtain ⟨ad187, e187, hx187_0⟩ := Kd.at_int HR0_0.out x6_1 p187 q187
              have hw187_0 := hx187_0
              cases e187
              replace hx187_0 := hW HB hx187_0; replace p187 := eq_true p187; replace q187 := eq_true q187
              have p188 : 0 ≤ (x7_2 : Int) := pD
              have q188 : x7_2 < (l1_0.length : Int) := pD
              obtain ⟨ad188, e188, hx188_0⟩ := Kd.at_int HR1_0.out x7_2 p188 q188
              have hw188_0 := hx188_0
              cases e188
              replace hx188_0 := hW HB hx188_0; replace p188 := eq_true p188; replace q188 := eq_true q188
              have p18 : 0 ≤ ((ji11) : Int) := pD
              have q18 : ((ji11) : Int) < ((x5_2.length : Int) : Int) := pD
              obtain ⟨go18, co18, eo18, gb18, gl18, cl18, HG18⟩ := Kd.R_form HO_5.out (by omega)
              (first | cases eo18 | (injection eo18 with ea_ en_ ec_; (first | subst ea_ | (injection ea_ with ea_; subst ea_)); subst ec_; clear en_))
              have GB18 := AM gb18
              have GG18 := AM HG18
              clear gb18 gl18 HG18
              (first | simp only [add_plain] at hx186_0 | skip)
              obtain ⟨hx18_0, hf18_0⟩ := Kd.R_celln 0 HO_5.out ((ji11) : Int) p18 q18
              replace p18 := eq_true p18; replace q18 := eq_true q18
              have HP21 := Kd.R_putn HO_5.out ((ji11) : Int) (wrap64 ((rd x5_2 (ji11)) + (wrap64 ((rd l0_0 x6_1) * (rd l1_0 x7_2)))))
              rw [← Ny189.out] at HP21
              have HQ21 := AM HP21
              clear HP21
              refine sP 24 (S := fun w' => w'.cell? ⟨gb177, 0, none⟩ = some (.slice (some ad187) l0_0.length c0_0) ∧ w'.cell? ⟨gb178, 0, none⟩ = some (.slice (some ad188) l1_0.length c1_0) ∧ w'.cell? ⟨go18, ((ji11)).toNat, none⟩ = some (.int .i64 (rd x5_2 (ji11))) ∧ w'.cell? (ad187.add (x6_1).toNat) = some (.int .i64 (rd l0_0 x6_1)) ∧ w'.cell? (ad188.add (x7_2).toNat) = some (.int .i64 (rd l1_0 x7_2))) (ds := [23]) ⟨bC BK177, bC BK178, hx186_0, (hW HB hw187_0), (hW HB hw188_0)⟩ fun hHeld => ?_; refine with_tabW rf08_Mul.tab8 rf08_Mul.bits8 (fun HT_ HW_ => ?_)
              generalize wr.drew = w19 at HO_5 BK177 BK178 BK179 HB GG18 HQ21 hf18_0 hx186_0 hx187_0 hx188_0 hx18_0 hHeld ⊢
              refine pQ 0 (some 19) HT_ ?_; refine pQ 1 (some 20) HT_ ?_; refine pQ 2 (some 21) HT_ ?_; refine pQ 3 (some 22) HT_ ?_; refine pQ 4 (some 23) HT_ ?_; refine pQ 5 (some 24) HT_ ?_; refine pQ 6 (some 25) HT_ ?_; refine pQ 7 (some 26) HT_ ?_; refine pQ 8 (some 27) HT_ ?_; refine pQ 10 (some 29) HT_ ?_; refine pQ 12 (some 31) HT_ ?_; refine pQ 15 (some 34) HT_ ?_; refine pQ 17 (some 36) HT_ ?_; refine tQ 9 (some 28) HT_ HW_ hHeld ?_; refine tQ 11 (some 30) HT_ HW_ hHeld ?_; refine pQ 13 (some 32) HT_ ?_; refine tQ 14 (some 33) HT_ HW_ hHeld ?_; refine tQ 16 (some 35) HT_ HW_ hHeld ?_; refine pQ 18 (some 37) HT_ ?_; refine tQ 19 (some 38) HT_ HW_ hHeld ?_; refine pQ 20 (some 39) HT_ ?_; refine pQ 21 (some 40) HT_ ?_; refine pQ 22 (some 41) HT_ ?_
              refine last_ (i := 23) (N := none) #[true, true, true, true, true, true, true, true, true, true, true, true, true, true, true, true, true, true, true, true, true, true, true, true] rfl rfl (one_of HT_.out (by kernel_rfl)) (by decide) (fun K hK => ?_)
              refine skip_ (w1 := ?_) (by rfl) rfl ?_ ?_
              rotate_left
              ·go_simp
               rfl
              refine hK.out _ _ ?_
              clear hK K
              refine done_ (done_of HT_.out (by kernel_rfl)) ?_
              try go_wp2
              go_roundg k2
              case measure => have := HK1.out; have := HK2.out; omega
              case rel => exact ⟨(y189), (wrap64 (x7_2 + 1)), rS, H', ⟨by have := HK1.out; have := HK2.out; omega⟩, ⟨rK HQ21⟩, ⟨by (with_reducible repeat (first | refine blk_drewN ?_ _ | refine blk_drew ?_ | refine blk_alloc ?_ _)); refine blk_far ?_ (by have h_ := Kd.R_ne HO_5.out BK177.out (by decide); intro e_; exact h_ (by rw [e_]; rfl)) _; (with_reducible repeat (first | refine blk_drewN ?_ _ | refine blk_drew ?_ | refine blk_alloc ?_ _)); exact BK177.out⟩, ⟨by (with_reducible repeat (first | refine blk_drewN ?_ _ | refine blk_drew ?_ | refine blk_alloc ?_ _)); refine blk_far ?_ (by have h_ := Kd.R_ne HO_5.out BK178.out (by decide); intro e_; exact h_ (by rw [e_]; rfl)) _; (with_reducible repeat (first | refine blk_drewN ?_ _ | refine blk_drew ?_ | refine blk_alloc ?_ _)); exact BK178.out⟩, ⟨by (with_reducible repeat (first | refine blk_drewN ?_ _ | refine blk_drew ?_ | refine blk_alloc ?_ _)); refine blk_far ?_ (by have h_ := Kd.R_ne HO_5.out BK179.out (by decide); intro e_; exact h_ (by rw [e_]; rfl)) _; (with_reducible repeat (first | refine blk_drewN ?_ _ | refine blk_drew ?_ | refine blk_alloc ?_ _)); exact BK179.out⟩, ⟨by repeat (first | (with_reducible first | exact HB.out | apply below_alloc | apply pw_below_drewN | apply below_drew1 | refine below_set ?_ GB18.out | refine below_set ?_ GE177.out | refine below_set ?_ GE178.out | refine below_set ?_ GE179.out) | exact HB.out)⟩⟩
             ·rw [if_neg c17] at H
              exact absurd H (by simp)
            ·rw [if_neg c16] at H
             exact absurd H (by simp)
           ·rw [if_neg c15] at H
            exact absurd H (by simp)
          ·rw [if_neg c14] at H
           exact absurd H (by simp)
         ·rw [if_neg c13] at H
          exact absurd H (by simp)
        ·rw [if_neg c12] at H
         exact absurd H (by simp)
       ·rw [if_neg c10] at H
        have c10b0 := decide_eq_false c10; clear c10
        have H' := AM H
        clear H
        go_wp2
        go_roundg k2
        case measure => have := HK1.out; have := HK2.out; omega
        case rel => exact ⟨(x5_2), (wrap64 (x6_1 + 1)), rS, H', ⟨by have := HK1.out; have := HK2.out; omega⟩, ⟨rK HO_5⟩, ⟨bK BK177⟩, ⟨bK BK178⟩, ⟨bK BK179⟩, ⟨ bH HB⟩⟩
    ·rw [if_neg c9] at H
     have c9b0 := decide_eq_false c9; clear c9
     obtain ⟨t183, A22, H⟩ := bS H
     obtain rfl := Option.some.inj H
     obtain ⟨Ao23, co23, eo23⟩ := Kd.R_slice HO_5.out
     subst eo23
     go_wp2_with (first | ((with_reducible refine gate_callee (f := 47) rfl ?_); refine gL (some 43) Try.func47 #[.slice Ao23 x5_1.length co23] ?_; (with_reducible refine (rf08_settled.calls k1 _ _ x5_1 t183 _ ?side1 ?side2 A22.out).mono ?_); (case side1 => exact sR HO_5); (case side2 => exact (Kd.R_reads' HO_5.out).2.1); rintro e w24 ⟨v184, rfl, ho0, hb⟩; refine ⟨_, rfl, ?_⟩; have HO185 := AM (Kd.R_lower (Kd.R_new' ho0 (Kd.R_lt (rK HO_5))) (below_size (bH HB))); replace HO_5 := AM (Kd.R_elder' (rK HO_5) (Kd.R_base ho0) hb); replace BK177 := kB BK177 hb; replace BK178 := kB BK178 hb; replace BK179 := kB BK179 hb; replace HB := kH HB hb; (try clear hb); (try clear hb2); (try clear hk); (try clear hi); (try clear ho0); obtain ⟨Ao25, co25, eo25⟩ := Kd.R_slice HO185.out; subst eo25; have hnb26 := NB179_177.out; have hnc26 := NB177_179.out; have hnb27 := NB179_178.out; have hnc27 := NB178_179.out; obtain ⟨hcz28_0, hfz28_0⟩ := c1 BK179))
     refine bodyPost_ret (results_cell_row rfl _ _ gb179 43 #[.slice Ao25 t183.length co25] (0, 0) _ rfl (by (with_reducible repeat (first | refine blk_drewN ?_ _ | refine blk_drew ?_ | refine blk_alloc ?_ _)); refine blk_put (cs := #[.slice none 0 0]) ?_ 0 _ rfl; (with_reducible repeat (first | refine blk_drewN ?_ _ | refine blk_drew ?_ | refine blk_alloc ?_ _)); exact BK179.out) Try.underlying43 rfl (by kernel_rfl)) rfl ?_
     exact ⟨_, rE, by (with_reducible repeat (first | apply Kd.R_alloc | apply Kd.R_drewN | apply Kd.R_drew)); exact Kd.R_mono (Kd.R_far (p := ⟨gb179, 0, none⟩) (Kd.R_types HO185.out BK179.out (by decide)) (fun _ hk => hk.2) (.slice Ao25 t183.length co25)) (fun _ hk => trivial), bH HB⟩
 ·rw [if_neg c3] at H
  exact absurd H (by simp)

def rf09_product.f (k : Nat) (a0 : Int) (a1 : Int) : Option (List Int) := (rf08_Of.f k a0).bind fun t191 => ((rf08_Of.f k a1).bind fun t194 => ((rf08_Mul.f k t191 t194).bind fun t197 => (some t197)))
theorem rf09_product.mono : ∀ a0 a1 k, LeO (rf09_product.f k a0 a1) (rf09_product.f (k + 1) a0 a1) := by
 intro a0 a1 k
 unfold rf09_product.f
 repeat' first
   | (with_reducible exact rf08_Mul.mono _ _ _)
   | (with_reducible exact rf08_Of.mono _ _)
   | (with_reducible exact LeO.refl _)
   | (with_reducible exact LeO.none _)
   | (with_reducible refine LeO.ite ?_ ?_)
   | (with_reducible refine LeO.bind ?_ (fun _ => ?_))
   | exact rf08_Mul.mono _ _ _
   | exact rf08_Of.mono _ _
   | exact LeO.none _
   | refine LeO.ite ?_ ?_
   | refine LeO.bind ?_ (fun _ => ?_)
set_option maxHeartbeats 8000000 in
set_option maxRecDepth 100000 in
theorem rf09_product.calls (k : Nat) (a0 : Int) (a1 : Int) (r : List Int) (w : World) (h : rf09_product.f k a0 a1 = some r) :
  Calls Try.prog 70 #[.int .i64 a0, .int .i64 a1] w fun e w' => ∃ v0_ : Value, e = .returned (.agg #[v0_]) ∧ Kd.R (Kd.int .i64) 3 w' w.heap.size (fun _ => True) v0_ r ∧ Below w.heap.size w w' := by
 have hu43 := Try.underlying43
 have HB := AM (Below.refl w.heap.size w)
 have H : ((rf08_Of.f k a0).bind fun t191 => ((rf08_Of.f k a1).bind fun t194 => ((rf08_Mul.f k t191 t194).bind fun t197 => (some t197)))) = some r := h
 clear h
 obtain ⟨t191, A3, H⟩ := bS H
 obtain ⟨t194, A4, H⟩ := bS H
 obtain ⟨t197, A5, H⟩ := bS H
 obtain rfl := Option.some.inj H
 go_enter Try.func70, Try.ntmps70
 go_wp2_with (first | ((with_reducible refine gate_dst (N := 4) rfl ?_); refine bE 4 #[.slice none 0 0] 43 ?_; intro gb190 hg w6 hbox hb; have BK190 := AM hbox; have GW190 := kG HB hg; replace HB := kH HB hb; have GE190 := GW190; clear hb hbox hg) | ((with_reducible refine gate_callee (f := 18) rfl ?_); refine gL (some 6) Try.func18 #[.int .i64 a0] ?_; (with_reducible refine (rf08_Of.calls k a0 t191 _ A3.out).mono ?_); rintro e w7 ⟨v192, rfl, ho0, hb⟩; refine ⟨_, rfl, ?_⟩; have HO193 := AM (Kd.R_lower ho0 (below_size (bH HB))); replace BK190 := kB BK190 hb; replace HB := kH HB hb; (try clear hb); (try clear hb2); (try clear hk); (try clear hi); (try clear ho0)) | ((with_reducible refine gate_callee (f := 18) rfl ?_); refine gL (some 8) Try.func18 #[.int .i64 a1] ?_; (with_reducible refine (rf08_Of.calls k a1 t194 _ A4.out).mono ?_); rintro e w8 ⟨v195, rfl, ho0, hb⟩; refine ⟨_, rfl, ?_⟩; have HO196 := AM (Kd.R_lower (Kd.R_new' ho0 (Kd.R_lt (rK HO193))) (below_size (bH HB))); replace HO193 := AM (Kd.R_elder' (rK HO193) (Kd.R_base ho0) hb); replace BK190 := kB BK190 hb; replace HB := kH HB hb; (try clear hb); (try clear hb2); (try clear hk); (try clear hi); (try clear ho0); obtain ⟨Ao9, co9, eo9⟩ := Kd.R_slice HO193.out; subst eo9; obtain ⟨Ao10, co10, eo10⟩ := Kd.R_slice HO196.out; subst eo10) | ((with_reducible refine gate_callee (f := 82) rfl ?_); refine gL (some 9) Try.func82 #[.agg #[.slice Ao9 t191.length co9], .agg #[.slice Ao10 t194.length co10]] ?_; (with_reducible refine (rf08_Mul.calls k _ _ t191 _ _ t194 t197 _ ?side1 ?side2 ?side3 ?side4 A5.out).mono ?_); (case side1 => exact sR HO193); (case side2 => exact (Kd.R_reads' HO193.out).2.1); (case side3 => exact sR HO196); (case side4 => exact (Kd.R_reads' HO196.out).2.1); rintro e w11 ⟨v198, rfl, ho0, hb⟩; refine ⟨_, rfl, ?_⟩; have HO199 := AM (Kd.R_lower (Kd.R_new' (Kd.R_new' ho0 (Kd.R_lt (rK HO193))) (Kd.R_lt (rK HO196))) (below_size (bH HB))); replace HO193 := AM (Kd.R_elder' (rK HO193) (Kd.R_base ho0) hb); replace HO196 := AM (Kd.R_elder' (rK HO196) (Kd.R_base ho0) hb); replace BK190 := kB BK190 hb; replace HB := kH HB hb; (try clear hb); (try clear hb2); (try clear hk); (try clear hi); (try clear ho0); obtain ⟨Ao12, co12, eo12⟩ := Kd.R_slice HO199.out; subst eo12; obtain ⟨hcz13_0, hfz13_0⟩ := c1 BK190))
 refine bodyPost_ret (results_cell_row rfl _ _ gb190 43 #[.slice Ao12 t197.length co12] (0, 0) _ rfl (by (with_reducible repeat (first | refine blk_drewN ?_ _ | refine blk_drew ?_ | refine blk_alloc ?_ _)); refine blk_put (cs := #[.slice none 0 0]) ?_ 0 _ rfl; (with_reducible repeat (first | refine blk_drewN ?_ _ | refine blk_drew ?_ | refine blk_alloc ?_ _)); exact BK190.out) Try.underlying43 rfl (by kernel_rfl)) rfl ?_
 exact ⟨_, rE, by (with_reducible repeat (first | apply Kd.R_alloc | apply Kd.R_drewN | apply Kd.R_drew)); exact Kd.R_mono (Kd.R_far (p := ⟨gb190, 0, none⟩) (Kd.R_types HO199.out BK190.out (by decide)) (fun _ hk => hk.2) (.slice Ao12 t197.length co12)) (fun _ hk => trivial), bH HB⟩

def rf08_Neg.l0 : Nat → List Int → Int → List Int → Option (List Int)
 | 0, _, _, _ => none
 | k + 1, x3, x4, x201000 => if x4 < 8 then (if 0 ≤ x4 then (if x4 < (x201000.length : Int) then (if x3.length < 17592186044416 then (rf08_Neg.l0 k (x3 ++ [wrap64 (65535 - (rd x201000 x4))]) (wrap64 (x4 + 1)) x201000) else (none)) else (none)) else (none)) else ((rf08_Of.f k 1).bind fun t206 => ((rf08_Add.f k x3 t206).bind fun t209 => (some t209)))
def rf08_Neg.f (k : Nat) (l0_0 : List Int) : Option (List Int) := rf08_Neg.l0 k ([] : List Int) 0 l0_0
theorem rf08_Neg.mono_l : ∀ k, (∀ y0 y1 y2, LeO (rf08_Neg.l0 k y0 y1 y2) (rf08_Neg.l0 (k + 1) y0 y1 y2))
 | 0 => fun _ _ _ r h => by simp [rf08_Neg.l0] at h
 | k + 1 => by
  have ih0 := rf08_Neg.mono_l k
  ·intro y0 y1 y2
   unfold rf08_Neg.l0
   repeat' first
   | (with_reducible exact ih0 _ _ _)
   | (with_reducible exact rf08_Add.mono _ _ _)
   | (with_reducible exact rf08_Of.mono _ _)
   | (with_reducible exact LeO.refl _)
   | (with_reducible exact LeO.none _)
   | (with_reducible refine LeO.ite ?_ ?_)
   | (with_reducible refine LeO.bind ?_ (fun _ => ?_))
   | exact ih0 _ _ _
   | exact rf08_Add.mono _ _ _
   | exact rf08_Of.mono _ _
   | exact LeO.none _
   | refine LeO.ite ?_ ?_
   | refine LeO.bind ?_ (fun _ => ?_)
theorem rf08_Neg.mono : ∀ a0 k, LeO (rf08_Neg.f k a0) (rf08_Neg.f (k + 1) a0) := by
 intro a0 k
 have ih0 := rf08_Neg.mono_l k
 unfold rf08_Neg.f
 repeat' first
   | (with_reducible exact ih0 _ _ _)
   | (with_reducible exact rf08_Add.mono _ _ _)
   | (with_reducible exact rf08_Of.mono _ _)
   | (with_reducible exact LeO.refl _)
   | (with_reducible exact LeO.none _)
   | (with_reducible refine LeO.ite ?_ ?_)
   | (with_reducible refine LeO.bind ?_ (fun _ => ?_))
   | exact ih0 _ _ _
   | exact rf08_Add.mono _ _ _
   | exact rf08_Of.mono _ _
   | exact LeO.none _
   | refine LeO.ite ?_ ?_
   | refine LeO.bind ?_ (fun _ => ?_)
set_option maxHeartbeats 8000000 in
set_option maxRecDepth 100000 in
theorem rf08_Neg.calls (k : Nat) (A0_0 : Option Addr) (c0_0 : Nat) (l0_0 : List Int) (r : List Int) (w : World) (hr0_0 : Kd.C (Kd.int .i64) w A0_0 l0_0.length l0_0) (hc0_0 : l0_0.length ≤ c0_0) (h : rf08_Neg.f k l0_0 = some r) :
  Calls Try.prog 71 #[.agg #[.slice A0_0 l0_0.length c0_0]] w fun e w' => ∃ v0_ : Value, e = .returned (.agg #[v0_]) ∧ Kd.R (Kd.int .i64) 3 w' w.heap.size (fun _ => True) v0_ r ∧ Below w.heap.size w w' := by
 have hu43 := Try.underlying43
 have HR0_0 := AM hr0_0
 have HC0_0 := AM hc0_0
 clear hr0_0 hc0_0
 have HB := AM (Below.refl w.heap.size w)
 have H : (rf08_Neg.l0 k ([] : List Int) 0 l0_0) = some r := h
 clear h
 have H' := AM H
 clear H
 go_enter Try.func71, Try.ntmps71
 go_wp2_with (first | ((with_reducible refine gate_dst (N := 1) rfl ?_); refine bE 1 #[.slice A0_0 l0_0.length c0_0] 43 ?_; intro gb200 hg w2 hbox hb; have BK200 := AM hbox; have GW200 := kG HB hg; replace HB := kH HB hb; have GE200 := GW200; clear hb hbox hg) | ((with_reducible refine gate_dst (N := 2) rfl ?_); refine bE 2 #[.slice none 0 0] 43 ?_; intro gb201 hg w3 hbox hb; have BK201 := AM hbox; have GW201 := kG HB hg; replace HB := kH HB hb; have GE201 := GW201; have NB200_201 := kN BK200 hg; have NB201_200 := kM BK200 hg; replace BK200 := kB BK200 hb; clear hb hbox hg))
 go_loopg [3, 4] k (fun kq v3 v4 w' => ∃ (x3_1 : List Int) (x4_1 : Int), v4 = .int .i64 x4_1 ∧ Aside0 (rf08_Neg.l0 kq x3_1 x4_1 l0_0 = some r) ∧ Aside0 (kq ≤ k) ∧ Aside0 (Kd.R (Kd.int .i64) 3 w' w.heap.size (fun _ => True) v3 x3_1) ∧ Aside0 (w'.heap[gb200]? = some (.cells #[(.slice A0_0 l0_0.length c0_0)] 43 (0, 0))) ∧ Aside0 (w'.heap[gb201]? = some (.cells #[(.slice none 0 0)] 43 (0, 0))) ∧ Aside0 (Below w.heap.size w w'))
 case atStart => exact ⟨(([] : List Int)), (0), rS, H', ⟨Nat.le_refl _⟩, ⟨by first | exact Kd.R_nil _ _ _ _ _ | exact Kd.N_nil _ _ _ _ _ | exact Kd.V_nil _ _ _ _ _ | exact Kd.Q_nil _ _ _ _ _ | exact Kd.S_nil _ _ _ _ _⟩, ⟨bK BK200⟩, ⟨bK BK201⟩, ⟨ bH HB⟩⟩
 case round =>
  clear H'
  (try clear p2)
  obtain ⟨x3_1, x4_1, rfl, HA, HK1, HO_3, BK200, BK201, HB⟩ := hrel
  cases gk with
  | zero => exact absurd HA.out (by simp [rf08_Neg.l0])
  | succ k1 =>
   have H := HA.out; clear HA
   simp only [rf08_Neg.l0] at H
   by_cases c4 : x4_1 < 8
   ·rw [if_pos c4] at H
    have c4b0 := decide_eq_true c4; clear c4
    by_cases c5 : 0 ≤ x4_1
    ·rw [if_pos c5] at H
     have c5b0 := decide_eq_true c5; clear c5
     by_cases c6 : x4_1 < (l0_0.length : Int)
     ·rw [if_pos c6] at H
      have c6b0 := decide_eq_true c6; clear c6
      by_cases c7 : x3_1.length < 17592186044416
      ·rw [if_pos c7] at H
       have LMc7 := AM c7
       clear c7
       obtain ⟨y203, hy203⟩ : ∃ y_ : List Int, y_ = (x3_1 ++ [wrap64 (65535 - (rd l0_0 x4_1))]) := ⟨_, rfl⟩
       replace H : (rf08_Neg.l0 k1 y203 (wrap64 (x4_1 + 1)) l0_0) = some r := by first | (rw [hy203]; with_reducible exact H) | (have H2_ := (Option.bind_some _ _).symm.trans H; rw [hy203]; with_reducible exact H2_) | (have H2_ := (Option.bind_some _ _).symm.trans H; with_reducible exact H2_) | with_reducible exact H | (rw [hy203]; exact H) | exact H
       have Ny203 := AM hy203
       clear hy203
       have H' := AM H
       clear H; have hnb8 := NB200_201.out; have hnc8 := NB201_200.out; obtain ⟨hcz9_0, hfz9_0⟩ := c1 BK200
       have p202 : 0 ≤ (x4_1 : Int) := pD
       have q202 : x4_1 < (l0_0.length : Int) := pD
       obtain ⟨ad202, e202, hx202_0⟩ := Kd.at_int HR0_0.out x4_1 p202 q202
       cases e202
       replace hx202_0 := hW HB hx202_0; replace p202 := eq_true p202; replace q202 := eq_true q202
       go_wp2_with (first | ((with_reducible refine gate_builtin (b := .append) (xs := #[.tmp 9, .tmp 16]) rfl ?_); at_builtin; refine Kd.R_append (Kd.int .i64) (w0 := w) w.heap.size rfl (.tmp 9) (.tmp 16) 32 3 (.int .i64 0) 8 rfl Try.underlying32 info3 rfl (by decide) (by omega) u3 x3_1 (wrap64 (65535 - (rd l0_0 x4_1))) [.int .i64 (wrap64 (65535 - (rd l0_0 x4_1)))] (fun _ => True) (fun _ => False) rfl rfl ?aP (fun _ hk => hk.elim) ?aF ?aO ?aB ?aS ?aL ?_; (case aP => exact rfl); (case aB => exact (bH HB)); (case aF => exact (fun _ _ => trivial)); (case aO => exact (rK HO_3)); (case aS => exact (below_size (bH HB))); (case aL => have := LMc7.out; omega); intro v204 w10 ho hb hg hat; rw [← Ny203.out] at ho; replace BK200 := AM (blk_grown (g := gb200) (o := .cells #[.slice (some ad202) l0_0.length c0_0] 43 (0, 0)) (bK BK200) hg (Kd.R_ne HO_3.out BK200.out (by decide))); replace BK201 := AM (blk_grown (g := gb201) (o := .cells #[.slice none 0 0] 43 (0, 0)) (bK BK201) hg (Kd.R_ne HO_3.out BK201.out (by decide))); replace HB := AM hb; have HO205 := AM ho; clear HO_3; clear ho hb hg hat))
       go_roundg k1
       case measure => have := HK1.out; omega
       case rel => exact ⟨(y203), (wrap64 (x4_1 + 1)), rS, H', ⟨by have := HK1.out; omega⟩, ⟨rK HO205⟩, ⟨bK BK200⟩, ⟨bK BK201⟩, ⟨ bH HB⟩⟩
      ·rw [if_neg c7] at H
       exact absurd H (by simp)
     ·rw [if_neg c6] at H
      exact absurd H (by simp)
    ·rw [if_neg c5] at H
     exact absurd H (by simp)
   ·rw [if_neg c4] at H
    have c4b0 := decide_eq_false c4; clear c4
    obtain ⟨t206, A11, H⟩ := bS H
    obtain ⟨t209, A12, H⟩ := bS H
    obtain rfl := Option.some.inj H
    obtain ⟨Ao13, co13, eo13⟩ := Kd.R_slice HO_3.out
    subst eo13
    go_wp2_with (first | ((with_reducible refine gate_callee (f := 18) rfl ?_); refine gL (some 20) Try.func18 #[.int .i64 1] ?_; (with_reducible refine (rf08_Of.calls k1 1 t206 _ A11.out).mono ?_); rintro e w14 ⟨v207, rfl, ho0, hb⟩; refine ⟨_, rfl, ?_⟩; have HO208 := AM (Kd.R_lower (Kd.R_new' ho0 (Kd.R_lt (rK HO_3))) (below_size (bH HB))); replace HO_3 := AM (Kd.R_elder' (rK HO_3) (Kd.R_base ho0) hb); replace BK200 := kB BK200 hb; replace BK201 := kB BK201 hb; replace HB := kH HB hb; (try clear hb); (try clear hb2); (try clear hk); (try clear hi); (try clear ho0); obtain ⟨Ao15, co15, eo15⟩ := Kd.R_slice HO208.out; subst eo15) | ((with_reducible refine gate_callee (f := 19) rfl ?_); refine gL (some 21) Try.func19 #[.agg #[.slice Ao13 x3_1.length co13], .agg #[.slice Ao15 t206.length co15]] ?_; (with_reducible refine (rf08_Add.calls k1 _ _ x3_1 _ _ t206 t209 _ ?side1 ?side2 ?side3 ?side4 A12.out).mono ?_); (case side1 => exact sR HO_3); (case side2 => exact (Kd.R_reads' HO_3.out).2.1); (case side3 => exact sR HO208); (case side4 => exact (Kd.R_reads' HO208.out).2.1); rintro e w16 ⟨v210, rfl, ho0, hb⟩; refine ⟨_, rfl, ?_⟩; have HO211 := AM (Kd.R_lower (Kd.R_new' (Kd.R_new' ho0 (Kd.R_lt (rK HO_3))) (Kd.R_lt (rK HO208))) (below_size (bH HB))); replace HO_3 := AM (Kd.R_elder' (rK HO_3) (Kd.R_base ho0) hb); replace HO208 := AM (Kd.R_elder' (rK HO208) (Kd.R_base ho0) hb); replace BK200 := kB BK200 hb; replace BK201 := kB BK201 hb; replace HB := kH HB hb; (try clear hb); (try clear hb2); (try clear hk); (try clear hi); (try clear ho0); obtain ⟨Ao17, co17, eo17⟩ := Kd.R_slice HO211.out; subst eo17; have hnb18 := NB201_200.out; have hnc18 := NB200_201.out; obtain ⟨hcz19_0, hfz19_0⟩ := c1 BK201))
    refine bodyPost_ret (results_cell_row rfl _ _ gb201 43 #[.slice Ao17 t209.length co17] (0, 0) _ rfl (by (with_reducible repeat (first | refine blk_drewN ?_ _ | refine blk_drew ?_ | refine blk_alloc ?_ _)); refine blk_put (cs := #[.slice none 0 0]) ?_ 0 _ rfl; (with_reducible repeat (first | refine blk_drewN ?_ _ | refine blk_drew ?_ | refine blk_alloc ?_ _)); exact BK201.out) Try.underlying43 rfl (by kernel_rfl)) rfl ?_
    exact ⟨_, rE, by (with_reducible repeat (first | apply Kd.R_alloc | apply Kd.R_drewN | apply Kd.R_drew)); exact Kd.R_mono (Kd.R_far (p := ⟨gb201, 0, none⟩) (Kd.R_types HO211.out BK201.out (by decide)) (fun _ hk => hk.2) (.slice Ao17 t209.length co17)) (fun _ hk => trivial), bH HB⟩
end Go.Proofs.Ytbonkedecfjmdaa.P
