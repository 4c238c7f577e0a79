/- Written for this claim by a program of this session (a turned copy of the print): Go functions as Lean functions, and that the Go code comes to just these answers; or a statement proved out of them. No condition. -/
import Derived.Test.YtbonkedecfjmdaaZ2

namespace Go.Proofs.Ytbonkedecfjmdaa.P
open Go.RowKit Go.Proofs.YtbonkedecfjmdaaW.PrintWords Go.Proofs.YtbonkedecfjmdaaW.PrintLast Go.Proofs.YtbonkedecfjmdaaW.PrintMore Go.Proofs.Ytbonkedecfjmdaa.X
attribute [local go_sem] max2_int min2_int max_two min_two max_three min_three max_four min_four add64_0 add64_1 add64
set_option linter.unusedVariables false
set_option linter.unusedSimpArgs false
def geom_Right.l0 : Nat → List (S27) → Int → Int → Option (Bool)
 | 0, _, _, _ => none
 | k + 1, x5, x6, x7 => if x7 < x6 then (if 0 ≤ x7 then (if x7 < (x5.length : Int) then (if ((rd_T27 x5 x7).f2) = 0 then (if ((rd_T27 x5 x7).f0) < (-2147483648) then (some false) else (if ((rd_T27 x5 x7).f0) > 2147483647 then (some false) else (if ((rd_T27 x5 x7).f1) < (-2147483648) then (some false) else (if ((rd_T27 x5 x7).f1) > 2147483647 then (some false) else (geom_Right.l0 k x5 x6 (wrap64 (x7 + 1))))))) else (some false)) else (none)) else (none)) else (some true)
def geom_Right.f (k : Nat) (l0 : List (S27)) : Option (Bool) := geom_Right.l0 k l0 (l0.length : Int) 0
theorem geom_Right.mono_l : ∀ k, (∀ y0 y1 y2, LeO (geom_Right.l0 k y0 y1 y2) (geom_Right.l0 (k + 1) y0 y1 y2))
 | 0 => fun _ _ _ r h => by simp [geom_Right.l0] at h
 | k + 1 => by
  have ih0 := geom_Right.mono_l k
  ·intro y0 y1 y2
   unfold geom_Right.l0
   repeat' first
   | (with_reducible exact ih0 _ _ _)
   | (with_reducible exact LeO.refl _)
   | (with_reducible exact LeO.none _)
   | (with_reducible refine LeO.ite ?_ ?_)
   | (with_reducible refine LeO.bind ?_ (fun _ => ?_))
   | exact ih0 _ _ _
   | exact LeO.none _
   | refine LeO.ite ?_ ?_
   | refine LeO.bind ?_ (fun _ => ?_)
theorem geom_Right.mono : ∀ a0 k, LeO (geom_Right.f k a0) (geom_Right.f (k + 1) a0) := by
 intro a0 k
 have ih0 := geom_Right.mono_l k
 unfold geom_Right.f
 repeat' first
   | (with_reducible exact ih0 _ _ _)
   | (with_reducible exact LeO.refl _)
   | (with_reducible exact LeO.none _)
   | (with_reducible refine LeO.ite ?_ ?_)
   | (with_reducible refine LeO.bind ?_ (fun _ => ?_))
   | exact ih0 _ _ _
   | exact LeO.none _
   | refine LeO.ite ?_ ?_
   | refine LeO.bind ?_ (fun _ => ?_)
set_option maxHeartbeats 8000000 in
set_option maxRecDepth 100000 in
theorem geom_Right.calls (k : Nat) (A0 : Option Addr) (c0 : Nat) (l0 : List (S27)) (r : Bool) (w : World) (hr0 : Kd.C k27 w A0 l0.length l0) (hc0 : l0.length ≤ c0) (h : geom_Right.f k l0 = some r) :
  Calls Try.prog 32 #[.slice A0 l0.length c0] w fun e w' => e = .returned (.bool r) ∧ Below w.heap.size w w' := by
 have hu27 := Try.underlying27
 have HR0 := AM hr0
 have HC0 := AM hc0
 clear hr0 hc0
 have HB := AM (Below.refl w.heap.size w)
 have H : (geom_Right.l0 k l0 (l0.length : Int) 0) = some r := h
 clear h
 have H' := AM H
 clear H
 go_enter Try.func32, Try.ntmps32
 go_wp2
 go_loopg [7] k (fun kq v7 w' => ∃ (x7_1 : Int), v7 = .int .i64 x7_1 ∧ Aside0 (geom_Right.l0 kq l0 (l0.length : Int) x7_1 = some r) ∧ Aside0 (kq ≤ k) ∧ Aside0 (Below w.heap.size w w'))
 case atStart => exact ⟨(0), rS, H', ⟨Nat.le_refl _⟩, ⟨ bH HB⟩⟩
 case round =>
  clear H'
  obtain ⟨x7_1, rfl, HA, HK1, HB⟩ := hrel
  cases gk with
  | zero => exact absurd HA.out (by simp [geom_Right.l0])
  | succ k1 =>
   have H := HA.out; clear HA
   simp only [geom_Right.l0] at H
   by_cases c2 : x7_1 < (l0.length : Int)
   ·rw [if_pos c2] at H
    have c2b0 := decide_eq_true c2; clear c2
    by_cases c3 : 0 ≤ x7_1
    ·rw [if_pos c3] at H
     have c3b0 := decide_eq_true c3; clear c3
     by_cases c4 : x7_1 < (l0.length : Int)
     ·rw [if_pos c4] at H
      have c4b0 := decide_eq_true c4; clear c4
      by_cases c5 : ((rd_T27 l0 x7_1).f2) = 0
      ·rw [if_pos c5] at H
       have c5b0 : (((rd_T27 l0 x7_1).f2) == 0) = true := beq_iff_eq.mpr c5
       have c5b1 : (((rd_T27 l0 x7_1).f2) != 0) = false := bne_eq_false_iff_eq.mpr c5
       clear c5
       by_cases c6 : ((rd_T27 l0 x7_1).f0) < (-2147483648)
       ·rw [if_pos c6] at H
        have c6b0 := decide_eq_true c6; clear c6
        obtain rfl := Option.some.inj H
        have p552 : 0 ≤ (x7_1 : Int) := pD
        have q552 : x7_1 < (l0.length : Int) := pD
        obtain ⟨ad552, e552, hx552_0, hx552_1, hx552_2⟩ := at_T27 HR0.out x7_1 p552 q552
        cases e552
        replace hx552_0 := hW HB hx552_0; replace hx552_1 := hW HB hx552_1; replace hx552_2 := hW HB hx552_2; replace p552 := eq_true p552; replace q552 := eq_true q552
        go_wp2_with (first | ((with_reducible refine gate_dst (N := 4) rfl ?_); refine bE 4 #[.int .i64 0, .int .i64 0, .int .i64 0] 27 ?_; intro gb553 hg w7 hbox hb; have BK553 := AM hbox; have GW553 := kG HB hg; replace HB := kH HB hb; have GE553 := GW553; clear hb hbox hg; obtain ⟨hcz8_0, hcz8_1, hcz8_2, hfz8_0, hfz8_1, hfz8_2⟩ := c3 BK553))
        go_ret
        exact ⟨rE, bH HB⟩
       ·rw [if_neg c6] at H
        have c6b0 := decide_eq_false c6; clear c6
        by_cases c9 : ((rd_T27 l0 x7_1).f0) > 2147483647
        ·rw [if_pos c9] at H
         have c9b0 := decide_eq_true c9; clear c9
         obtain rfl := Option.some.inj H
         have p552 : 0 ≤ (x7_1 : Int) := pD
         have q552 : x7_1 < (l0.length : Int) := pD
         obtain ⟨ad552, e552, hx552_0, hx552_1, hx552_2⟩ := at_T27 HR0.out x7_1 p552 q552
         cases e552
         replace hx552_0 := hW HB hx552_0; replace hx552_1 := hW HB hx552_1; replace hx552_2 := hW HB hx552_2; replace p552 := eq_true p552; replace q552 := eq_true q552
         go_wp2_with (first | ((with_reducible refine gate_dst (N := 4) rfl ?_); refine bE 4 #[.int .i64 0, .int .i64 0, .int .i64 0] 27 ?_; intro gb553 hg w10 hbox hb; have BK553 := AM hbox; have GW553 := kG HB hg; replace HB := kH HB hb; have GE553 := GW553; clear hb hbox hg; obtain ⟨hcz11_0, hcz11_1, hcz11_2, hfz11_0, hfz11_1, hfz11_2⟩ := c3 BK553))
         go_ret
         exact ⟨rE, bH HB⟩
        ·rw [if_neg c9] at H
         have c9b0 := decide_eq_false c9; clear c9
         by_cases c12 : ((rd_T27 l0 x7_1).f1) < (-2147483648)
         ·rw [if_pos c12] at H
          have c12b0 := decide_eq_true c12; clear c12
          obtain rfl := Option.some.inj H
          have p552 : 0 ≤ (x7_1 : Int) := pD
          have q552 : x7_1 < (l0.length : Int) := pD
          obtain ⟨ad552, e552, hx552_0, hx552_1, hx552_2⟩ := at_T27 HR0.out x7_1 p552 q552
          cases e552
          replace hx552_0 := hW HB hx552_0; replace hx552_1 := hW HB hx552_1; replace hx552_2 := hW HB hx552_2; replace p552 := eq_true p552; replace q552 := eq_true q552
          go_wp2_with (first | ((with_reducible refine gate_dst (N := 4) rfl ?_); refine bE 4 #[.int .i64 0, .int .i64 0, .int .i64 0] 27 ?_; intro gb553 hg w13 hbox hb; have BK553 := AM hbox; have GW553 := kG HB hg; replace HB := kH HB hb; have GE553 := GW553; clear hb hbox hg; obtain ⟨hcz14_0, hcz14_1, hcz14_2, hfz14_0, hfz14_1, hfz14_2⟩ := c3 BK553))
          go_ret
          exact ⟨rE, bH HB⟩
         ·rw [if_neg c12] at H
          have c12b0 := decide_eq_false c12; clear c12
          have HC15 := AM H
          clear H
          have p552 : 0 ≤ (x7_1 : Int) := pD
          have q552 : x7_1 < (l0.length : Int) := pD
          obtain ⟨ad552, e552, hx552_0, hx552_1, hx552_2⟩ := at_T27 HR0.out x7_1 p552 q552
          cases e552
          replace hx552_0 := hW HB hx552_0; replace hx552_1 := hW HB hx552_1; replace hx552_2 := hW HB hx552_2; replace p552 := eq_true p552; replace q552 := eq_true q552
          go_upto_if 33 with (first | ((with_reducible refine gate_dst (N := 4) rfl ?_); refine bE 4 #[.int .i64 0, .int .i64 0, .int .i64 0] 27 ?_; intro gb553 hg w16 hbox hb; have BK553 := AM hbox; have GW553 := kG HB hg; replace HB := kH HB hb; have GE553 := GW553; clear hb hbox hg; obtain ⟨hcz17_0, hcz17_1, hcz17_2, hfz17_0, hfz17_1, hfz17_2⟩ := c3 BK553))
          (try simp only [Act.put, List.setIfInBounds_toArray, List.set_cons_zero, List.set_cons_succ])
          have H := HC15.out; clear HC15
          by_cases c18 : ((rd_T27 l0 x7_1).f1) > 2147483647
          ·rw [if_pos c18] at H
           have c18b0 := decide_eq_true c18; clear c18
           (first | rw [c18b0] | (simp only [i64_w, i32_w]; rw [c18b0]) | skip)
           obtain rfl := Option.some.inj H
           go_wp2
           go_ret
           exact ⟨rE, bH HB⟩
          ·rw [if_neg c18] at H
           have c18b0 := decide_eq_false c18; clear c18
           (first | rw [c18b0] | (simp only [i64_w, i32_w]; rw [c18b0]) | skip)
           have H' := AM H
           clear H
           go_wp2
           go_roundg k1
           case measure => have := HK1.out; omega
           case rel => exact ⟨(wrap64 (x7_1 + 1)), rS, H', ⟨by have := HK1.out; omega⟩, ⟨ bH HB⟩⟩
      ·rw [if_neg c5] at H
       have c5b0 : (((rd_T27 l0 x7_1).f2) == 0) = false := beq_eq_false_iff_ne.mpr c5
       have c5b1 : (((rd_T27 l0 x7_1).f2) != 0) = true := bne_iff_ne.mpr c5
       obtain rfl := Option.some.inj H
       have p552 : 0 ≤ (x7_1 : Int) := pD
       have q552 : x7_1 < (l0.length : Int) := pD
       obtain ⟨ad552, e552, hx552_0, hx552_1, hx552_2⟩ := at_T27 HR0.out x7_1 p552 q552
       cases e552
       replace hx552_0 := hW HB hx552_0; replace hx552_1 := hW HB hx552_1; replace hx552_2 := hW HB hx552_2; replace p552 := eq_true p552; replace q552 := eq_true q552
       go_wp2_with (first | ((with_reducible refine gate_dst (N := 4) rfl ?_); refine bE 4 #[.int .i64 0, .int .i64 0, .int .i64 0] 27 ?_; intro gb553 hg w19 hbox hb; have BK553 := AM hbox; have GW553 := kG HB hg; replace HB := kH HB hb; have GE553 := GW553; clear hb hbox hg; obtain ⟨hcz20_0, hcz20_1, hcz20_2, hfz20_0, hfz20_1, hfz20_2⟩ := c3 BK553))
       go_ret
       exact ⟨rE, bH HB⟩
     ·rw [if_neg c4] at H
      exact absurd H (by simp)
    ·rw [if_neg c3] at H
     exact absurd H (by simp)
   ·rw [if_neg c2] at H
    have c2b0 := decide_eq_false c2; clear c2
    obtain rfl := Option.some.inj H
    go_wp2
    go_ret
    exact ⟨rE, bH HB⟩

theorem eqA50 (d : Nat) (w : World) (x0 y0 : Int) (x1 y1 : Int) :
  (Op.equalIn (d + 2) 50 (.agg #[.int .i64 x0, .int .u64 x1]) (.agg #[.int .i64 y0, .int .u64 y1])).run Try.prog w = .ok (x0 == y0 && (x1 == y1)) w := by
 refine eqA_of Try.underlying50 (by kernel_rfl) ?_
 refine eqf_cons (by rfl) (by go_simp; rfl) (by go_simp; rfl) (by go_simp) ?_
 exact eqf_last (by rfl) (by go_simp; rfl) (by go_simp; rfl) (by go_simp)
end Go.Proofs.Ytbonkedecfjmdaa.P

namespace Go.Proofs.Ytbonkedecfjmdaa.P
open Go.RowKit Go.Proofs.YtbonkedecfjmdaaW.PrintWords Go.Proofs.YtbonkedecfjmdaaW.PrintLast Go.Proofs.YtbonkedecfjmdaaW.PrintMore Go.Proofs.Ytbonkedecfjmdaa.X
attribute [local go_sem] max2_int min2_int max_two min_two max_three min_three max_four min_four add64_0 add64_1 add64
set_option linter.unusedVariables false
set_option linter.unusedSimpArgs false
attribute [local go_sem high] eqA50
def wide_Cmp.f (a0_0 : Int) (a0_1 : Int) (a1_0 : Int) (a1_1 : Int) : Option (Int) := if (a0_0 == a1_0 && (a0_1 == a1_1)) = true then (some 0) else (if a0_0 < a1_0 then (some (-1)) else (if a0_0 = a1_0 then (if a0_1 < a1_1 then (some (-1)) else (some 1)) else (some 1)))
set_option maxHeartbeats 8000000 in
set_option maxRecDepth 100000 in
theorem wide_Cmp.calls (a0_0 : Int) (a0_1 : Int) (a1_0 : Int) (a1_1 : Int) (r : Int) (w : World) (h : wide_Cmp.f a0_0 a0_1 a1_0 a1_1 = some r) :
  Calls Try.prog 53 #[.agg #[.int .i64 a0_0, .int .u64 a0_1], .agg #[.int .i64 a1_0, .int .u64 a1_1]] w fun e w' => e = .returned (.int .i64 r) ∧ Below w.heap.size w w' := by
 have hu50 := Try.underlying50
 have HB := AM (Below.refl w.heap.size w)
 have H : (if (a0_0 == a1_0 && (a0_1 == a1_1)) = true then (some 0) else (if a0_0 < a1_0 then (some (-1)) else (if a0_0 = a1_0 then (if a0_1 < a1_1 then (some (-1)) else (some 1)) else (some 1)))) = some r := h
 clear h
 have HC3 := AM H
 clear H
 go_enter Try.func53, Try.ntmps53
 go_upto_if 5 with (first | ((with_reducible refine gate_dst (N := 2) rfl ?_); refine bE 2 #[.int .i64 a0_0, .int .u64 a0_1] 50 ?_; intro gb554 hg w4 hbox hb; have BK554 := AM hbox; have GW554 := kG HB hg; replace HB := kH HB hb; have GE554 := GW554; clear hb hbox hg) | ((with_reducible refine gate_dst (N := 3) rfl ?_); refine bE 3 #[.int .i64 a1_0, .int .u64 a1_1] 50 ?_; intro gb555 hg w5 hbox hb; have BK555 := AM hbox; have GW555 := kG HB hg; replace HB := kH HB hb; have GE555 := GW555; have NB554_555 := kN BK554 hg; have NB555_554 := kM BK554 hg; replace BK554 := kB BK554 hb; clear hb hbox hg; have hnb6 := NB554_555.out; have hnc6 := NB555_554.out; obtain ⟨hcz7_0, hcz7_1, hfz7_0, hfz7_1⟩ := c2 BK554; obtain ⟨hcz8_0, hcz8_1, hfz8_0, hfz8_1⟩ := c2 BK555))
 (try simp only [Act.put, List.setIfInBounds_toArray, List.set_cons_zero, List.set_cons_succ])
 have H := HC3.out; clear HC3
 by_cases c9 : (a0_0 == a1_0 && (a0_1 == a1_1)) = true
 ·rw [if_pos c9] at H
  have c9b0 : (a0_0 == a1_0 && (a0_1 == a1_1)) = true := c9
  (try (have c9b1 : decide (a0_0 = a1_0 && (a0_1 == a1_1)) = true := by simpa using c9))
  (try (have c9b2 : (a0_0 == a1_0 && (a0_1 == a1_1)) = true := by simpa using c9))
  clear c9
  (first | rw [c9b0] | (simp only [i64_w, i32_w]; rw [c9b0]) | skip)
  obtain rfl := Option.some.inj H
  go_wp2
  go_ret
  exact ⟨rE, bH HB⟩
 ·rw [if_neg c9] at H
  have c9b0 : (a0_0 == a1_0 && (a0_1 == a1_1)) = false := by simpa using c9
  (try (have c9b1 : decide (a0_0 = a1_0 && (a0_1 == a1_1)) = false := by simpa using c9))
  (try (have c9b2 : (a0_0 == a1_0 && (a0_1 == a1_1)) = false := by simpa using c9))
  (try (have c9b3 : ¬ (a0_0 = a1_0 && (a0_1 == a1_1)) := by simpa using c9))
  clear c9
  (first | rw [c9b0] | (simp only [i64_w, i32_w]; rw [c9b0]) | skip)
  by_cases c10 : a0_0 < a1_0
  ·rw [if_pos c10] at H
   have c10b0 := decide_eq_true c10; clear c10
   obtain rfl := Option.some.inj H
   have hnb11 := NB554_555.out; have hnc11 := NB555_554.out; obtain ⟨hcz12_0, hcz12_1, hfz12_0, hfz12_1⟩ := c2 BK554; obtain ⟨hcz13_0, hcz13_1, hfz13_0, hfz13_1⟩ := c2 BK555
   go_wp2
   go_ret
   exact ⟨rE, bH HB⟩
  ·rw [if_neg c10] at H
   have c10b0 := decide_eq_false c10; clear c10
   by_cases c14 : a0_0 = a1_0
   ·rw [if_pos c14] at H
    have c14b0 : (a0_0 == a1_0) = true := beq_iff_eq.mpr c14
    have c14b1 : (a0_0 != a1_0) = false := bne_eq_false_iff_eq.mpr c14
    have c14b9 : (a0_1 == a1_1) = false := by
     have h0_ := c9b0
     rw [c14b0] at h0_
     simpa using h0_
    clear c14
    by_cases c15 : a0_1 < a1_1
    ·rw [if_pos c15] at H
     have c15b0 := decide_eq_true c15; clear c15
     obtain rfl := Option.some.inj H
     have hnb16 := NB554_555.out; have hnc16 := NB555_554.out; obtain ⟨hcz17_0, hcz17_1, hfz17_0, hfz17_1⟩ := c2 BK554; obtain ⟨hcz18_0, hcz18_1, hfz18_0, hfz18_1⟩ := c2 BK555
     go_wp2
     go_ret
     exact ⟨rE, bH HB⟩
    ·rw [if_neg c15] at H
     have c15b0 := decide_eq_false c15; clear c15
     obtain rfl := Option.some.inj H
     have hnb19 := NB554_555.out; have hnc19 := NB555_554.out; obtain ⟨hcz20_0, hcz20_1, hfz20_0, hfz20_1⟩ := c2 BK554; obtain ⟨hcz21_0, hcz21_1, hfz21_0, hfz21_1⟩ := c2 BK555
     go_wp2
     go_ret
     exact ⟨rE, bH HB⟩
   ·rw [if_neg c14] at H
    have c14b0 : (a0_0 == a1_0) = false := beq_eq_false_iff_ne.mpr c14
    have c14b1 : (a0_0 != a1_0) = true := bne_iff_ne.mpr c14
    obtain rfl := Option.some.inj H
    have hnb22 := NB554_555.out; have hnc22 := NB555_554.out; obtain ⟨hcz23_0, hcz23_1, hfz23_0, hfz23_1⟩ := c2 BK554; obtain ⟨hcz24_0, hcz24_1, hfz24_0, hfz24_1⟩ := c2 BK555
    go_wp2
    go_ret
    exact ⟨rE, bH HB⟩
end Go.Proofs.Ytbonkedecfjmdaa.P

namespace Go.Proofs.Ytbonkedecfjmdaa.P
open Go.RowKit Go.Proofs.YtbonkedecfjmdaaW.PrintWords Go.Proofs.YtbonkedecfjmdaaW.PrintLast Go.Proofs.YtbonkedecfjmdaaW.PrintMore Go.Proofs.Ytbonkedecfjmdaa.X
attribute [local go_sem] max2_int min2_int max_two min_two max_three min_three max_four min_four add64_0 add64_1 add64
set_option linter.unusedVariables false
set_option linter.unusedSimpArgs false
def wide_Sign.f (a0_0 : Int) (a0_1 : Int) : Option (Int) := (wide_Cmp.f a0_0 a0_1 0 0).bind fun t557 => (some t557)
set_option maxHeartbeats 8000000 in
set_option maxRecDepth 100000 in
theorem wide_Sign.calls (a0_0 : Int) (a0_1 : Int) (r : Int) (w : World) (h : wide_Sign.f a0_0 a0_1 = some r) :
  Calls Try.prog 24 #[.agg #[.int .i64 a0_0, .int .u64 a0_1]] w fun e w' => e = .returned (.int .i64 r) ∧ Below w.heap.size w w' := by
 have hu50 := Try.underlying50
 have HB := AM (Below.refl w.heap.size w)
 have H : ((wide_Cmp.f a0_0 a0_1 0 0).bind fun t557 => (some t557)) = some r := h
 clear h
 obtain ⟨t557, A2, H⟩ := bS H
 obtain rfl := Option.some.inj H
 go_enter Try.func24, Try.ntmps24
 go_wp2_with (first | ((with_reducible refine gate_dst (N := 1) rfl ?_); refine bE 1 #[.int .i64 a0_0, .int .u64 a0_1] 50 ?_; intro gb556 hg w3 hbox hb; have BK556 := AM hbox; have GW556 := kG HB hg; replace HB := kH HB hb; have GE556 := GW556; clear hb hbox hg; obtain ⟨hcz4_0, hcz4_1, hfz4_0, hfz4_1⟩ := c2 BK556) | ((with_reducible refine gate_callee (f := 53) rfl ?_); refine gL (some 5) Try.func53 #[.agg #[.int .i64 a0_0, .int .u64 a0_1], .agg #[.int .i64 0, .int .u64 0]] ?_; (with_reducible refine (wide_Cmp.calls a0_0 a0_1 0 0 t557 _ A2.out).mono ?_); rintro e w5 ⟨rfl, hb⟩; refine ⟨_, rfl, ?_⟩; replace BK556 := kB BK556 hb; replace HB := kH HB hb; (try clear hb); (try clear hb2); (try clear hk); (try clear hi)))
 go_ret
 exact ⟨rE, bH HB⟩
end Go.Proofs.Ytbonkedecfjmdaa.P

namespace Go.Proofs.Ytbonkedecfjmdaa.P
open Go.RowKit Go.Proofs.YtbonkedecfjmdaaW.PrintWords Go.Proofs.YtbonkedecfjmdaaW.PrintLast Go.Proofs.YtbonkedecfjmdaaW.PrintMore Go.Proofs.Ytbonkedecfjmdaa.X
attribute [local go_sem] max2_int min2_int max_two min_two max_three min_three max_four min_four add64_0 add64_1 add64
set_option linter.unusedVariables false
set_option linter.unusedSimpArgs false
attribute [local go_sem high] eqA50
def wide_Add.l0 : Nat → List (S50) → Int → Int → Int → Int → Option (Int × Int)
 | 0, _, _, _, _, _ => none
 | k + 1, x11, x12, x13, x559000, x559001 => if x13 < x12 then (if 0 ≤ x13 then (if x13 < (x11.length : Int) then (if (((rd_T50 x11 x13).f0) == 0 && (((rd_T50 x11 x13).f1) == 0)) = true then (wide_Add.l0 k x11 x12 (wrap64 (x13 + 1)) x559000 x559001) else (if (a64hi x559001 ((rd_T50 x11 x13).f1) 0) ≤ 1 then (wide_Add.l0 k x11 x12 (wrap64 (x13 + 1)) (wrap64 (a64lo (IntKind.u64.wrap (x559000)) (IntKind.u64.wrap ((rd_T50 x11 x13).f0)) (a64hi x559001 ((rd_T50 x11 x13).f1) 0))) (a64lo x559001 ((rd_T50 x11 x13).f1) 0)) else (none))) else (none)) else (none)) else (some (x559000, x559001))
def wide_Add.f (k : Nat) (a0_0 : Int) (a0_1 : Int) (l1 : List (S50)) : Option (Int × Int) := wide_Add.l0 k l1 (l1.length : Int) 0 a0_0 a0_1
theorem wide_Add.mono_l : ∀ k, (∀ y0 y1 y2 y3 y4, LeO (wide_Add.l0 k y0 y1 y2 y3 y4) (wide_Add.l0 (k + 1) y0 y1 y2 y3 y4))
 | 0 => fun _ _ _ _ _ r h => by simp [wide_Add.l0] at h
 | k + 1 => by
  have ih0 := wide_Add.mono_l k
  ·intro y0 y1 y2 y3 y4
   unfold wide_Add.l0
   repeat' first
   | (with_reducible exact ih0 _ _ _ _ _)
   | (with_reducible exact LeO.refl _)
   | (with_reducible exact LeO.none _)
   | (with_reducible refine LeO.ite ?_ ?_)
   | (with_reducible refine LeO.bind ?_ (fun _ => ?_))
   | exact ih0 _ _ _ _ _
   | exact LeO.none _
   | refine LeO.ite ?_ ?_
   | refine LeO.bind ?_ (fun _ => ?_)
theorem wide_Add.mono : ∀ a0 a1 a2 k, LeO (wide_Add.f k a0 a1 a2) (wide_Add.f (k + 1) a0 a1 a2) := by
 intro a0 a1 a2 k
 have ih0 := wide_Add.mono_l k
 unfold wide_Add.f
 repeat' first
   | (with_reducible exact ih0 _ _ _ _ _)
   | (with_reducible exact LeO.refl _)
   | (with_reducible exact LeO.none _)
   | (with_reducible refine LeO.ite ?_ ?_)
   | (with_reducible refine LeO.bind ?_ (fun _ => ?_))
   | exact ih0 _ _ _ _ _
   | exact LeO.none _
   | refine LeO.ite ?_ ?_
   | refine LeO.bind ?_ (fun _ => ?_)
set_option maxHeartbeats 8000000 in
set_option maxRecDepth 100000 in
theorem wide_Add.calls (k : Nat) (a0_0 : Int) (a0_1 : Int) (A1 : Option Addr) (c1 : Nat) (l1 : List (S50)) (r1 : Int) (r2 : Int) (w : World) (hr1 : Kd.C k50 w A1 l1.length l1) (hc1 : l1.length ≤ c1) (h : wide_Add.f k a0_0 a0_1 l1 = some (r1, r2)) :
  Calls Try.prog 25 #[.agg #[.int .i64 a0_0, .int .u64 a0_1], .slice A1 l1.length c1] w fun e w' => e = .returned (.agg #[.int .i64 r1, .int .u64 r2]) ∧ Below w.heap.size w w' := by
 have hu50 := Try.underlying50
 have HR1 := AM hr1
 have HC1 := AM hc1
 clear hr1 hc1
 have HB := AM (Below.refl w.heap.size w)
 have H : (wide_Add.l0 k l1 (l1.length : Int) 0 a0_0 a0_1) = some (r1, r2) := h
 clear h
 have H' := AM H
 clear H
 go_enter Try.func25, Try.ntmps25
 go_wp2_with (first | go_step3 | ((with_reducible refine gate_dst (N := 2) rfl ?_); refine bE 2 #[.int .i64 a0_0, .int .u64 a0_1] 50 ?_; intro gb558 hg w3 hbox hb; have BK558 := AM hbox; have GW558 := kG HB hg; replace HB := kH HB hb; have GE558 := GW558; clear hb hbox hg) | ((with_reducible refine gate_dst (N := 4) rfl ?_); refine bE 4 #[.int .i64 0, .int .u64 0] 50 ?_; intro gb559 hg w4 hbox hb; have BK559 := AM hbox; have GW559 := kG HB hg; replace HB := kH HB hb; have GE559 := GW559; have NB558_559 := kN BK558 hg; have NB559_558 := kM BK558 hg; replace BK558 := kB BK558 hb; clear hb hbox hg))
 go_loopg [13] k (fun kq v13 w' => ∃ (x13_1 : Int) (x559000_1 : Int) (x559001_1 : Int), v13 = .int .i64 x13_1 ∧ Aside0 (wide_Add.l0 kq l1 (l1.length : Int) x13_1 x559000_1 x559001_1 = some (r1, r2)) ∧ Aside0 (kq ≤ k) ∧ Aside0 (w'.heap[gb558]? = some (.cells #[.int .i64 x559000_1, .int .u64 x559001_1] 50 (0, 0))) ∧ Aside0 (w'.heap[gb559]? = some (.cells #[.int .i64 0, .int .u64 0] 50 (0, 0))) ∧ Aside0 (Below w.heap.size w w'))
 case atStart => exact ⟨(0), (a0_0), (a0_1), rS, H', ⟨Nat.le_refl _⟩, ⟨bK BK558⟩, ⟨bK BK559⟩, ⟨ bH HB⟩⟩
 case round =>
  clear H'
  (try clear c1); (try clear c2); (try clear p2)
  obtain ⟨x13_1, x559000_1, x559001_1, rfl, HA, HK1, BK558, BK559, HB⟩ := hrel
  cases gk with
  | zero => exact absurd HA.out (by simp [wide_Add.l0])
  | succ k1 =>
   have H := HA.out; clear HA
   simp only [wide_Add.l0] at H
   by_cases c5 : x13_1 < (l1.length : Int)
   ·rw [if_pos c5] at H
    have c5b0 := decide_eq_true c5; clear c5
    by_cases c6 : 0 ≤ x13_1
    ·rw [if_pos c6] at H
     have c6b0 := decide_eq_true c6; clear c6
     by_cases c7 : x13_1 < (l1.length : Int)
     ·rw [if_pos c7] at H
      have c7b0 := decide_eq_true c7; clear c7
      have HC8 := AM H
      clear H
      have p560 : 0 ≤ (x13_1 : Int) := pD
      have q560 : x13_1 < (l1.length : Int) := pD
      obtain ⟨ad560, e560, hx560_0, hx560_1⟩ := at_T50 HR1.out x13_1 p560 q560
      cases e560
      replace hx560_0 := hW HB hx560_0; replace hx560_1 := hW HB hx560_1; replace p560 := eq_true p560; replace q560 := eq_true q560
      go_upto_if 19 with (first | go_step3 | ((with_reducible refine gate_dst (N := 6) rfl ?_); refine bE 6 #[.int .i64 0, .int .u64 0] 50 ?_; intro gb561 hg w9 hbox hb; have BK561 := AM hbox; have GW561 := kG HB hg; replace HB := kH HB hb; have GE561 := GW561; have NB558_561 := kN BK558 hg; have NB561_558 := kM BK558 hg; replace BK558 := kB BK558 hb; have NB559_561 := kN BK559 hg; have NB561_559 := kM BK559 hg; replace BK559 := kB BK559 hb; clear hb hbox hg; have hnb10 := NB561_558.out; have hnc10 := NB558_561.out; have hnb11 := NB561_559.out; have hnc11 := NB559_561.out; obtain ⟨hcz12_0, hcz12_1, hfz12_0, hfz12_1⟩ := c2 BK561))
      (try simp only [Act.put, List.setIfInBounds_toArray, List.set_cons_zero, List.set_cons_succ])
      have H := HC8.out; clear HC8
      by_cases c13 : (((rd_T50 l1 x13_1).f0) == 0 && (((rd_T50 l1 x13_1).f1) == 0)) = true
      ·rw [if_pos c13] at H
       have c13b0 : (((rd_T50 l1 x13_1).f0) == 0 && (((rd_T50 l1 x13_1).f1) == 0)) = true := c13
       (try (have c13b1 : decide (((rd_T50 l1 x13_1).f0) = 0 && (((rd_T50 l1 x13_1).f1) == 0)) = true := by simpa using c13))
       (try (have c13b2 : (((rd_T50 l1 x13_1).f0) == 0 && (((rd_T50 l1 x13_1).f1) == 0)) = true := by simpa using c13))
       clear c13
       (first | rw [c13b0] | (simp only [i64_w, i32_w]; rw [c13b0]) | skip)
       have H' := AM H
       clear H
       go_wp2_with (go_step3)
       go_roundg k1
       case measure => have := HK1.out; omega
       case rel => exact ⟨(wrap64 (x13_1 + 1)), (x559000_1), (x559001_1), rS, H', ⟨by have := HK1.out; omega⟩, ⟨bK BK558⟩, ⟨bK BK559⟩, ⟨ bH HB⟩⟩
      ·rw [if_neg c13] at H
       have c13b0 : (((rd_T50 l1 x13_1).f0) == 0 && (((rd_T50 l1 x13_1).f1) == 0)) = false := by simpa using c13
       (try (have c13b1 : decide (((rd_T50 l1 x13_1).f0) = 0 && (((rd_T50 l1 x13_1).f1) == 0)) = false := by simpa using c13))
       (try (have c13b2 : (((rd_T50 l1 x13_1).f0) == 0 && (((rd_T50 l1 x13_1).f1) == 0)) = false := by simpa using c13))
       (try (have c13b3 : ¬ (((rd_T50 l1 x13_1).f0) = 0 && (((rd_T50 l1 x13_1).f1) == 0)) := by simpa using c13))
       clear c13
       (first | rw [c13b0] | (simp only [i64_w, i32_w]; rw [c13b0]) | skip)
       by_cases c14 : (a64hi x559001_1 ((rd_T50 l1 x13_1).f1) 0) ≤ 1
       ·rw [if_pos c14] at H
        have c14b0 := eq_true c14; have c14b1 := decide_eq_true c14; clear c14
        have H' := AM H
        clear H; have hnb15 := NB558_559.out; have hnc15 := NB559_558.out; have hnb16 := NB558_561.out; have hnc16 := NB561_558.out; obtain ⟨hcz17_0, hcz17_1, hfz17_0, hfz17_1⟩ := c2 BK558; have hnb18 := NB561_559.out; have hnc18 := NB559_561.out; obtain ⟨hcz19_0, hcz19_1, hfz19_0, hfz19_1⟩ := c2 BK561
        go_wp2_with (go_step3)
        go_roundg k1
        case measure => have := HK1.out; omega
        case rel => exact ⟨(wrap64 (x13_1 + 1)), (wrap64 (a64lo (IntKind.u64.wrap (x559000_1)) (IntKind.u64.wrap ((rd_T50 l1 x13_1).f0)) (a64hi x559001_1 ((rd_T50 l1 x13_1).f1) 0))), (a64lo x559001_1 ((rd_T50 l1 x13_1).f1) 0), rS, H', ⟨by have := HK1.out; omega⟩, ⟨by (with_reducible repeat (first | refine blk_drewN ?_ _ | refine blk_drew ?_ | refine blk_alloc ?_ _)); refine blk_put (cs := #[.int .i64 (wrap64 (a64lo (IntKind.u64.wrap (x559000_1)) (IntKind.u64.wrap ((rd_T50 l1 x13_1).f0)) (a64hi x559001_1 ((rd_T50 l1 x13_1).f1) 0))), .int .u64 x559001_1]) ?_ 1 _ rfl; (with_reducible repeat (first | refine blk_drewN ?_ _ | refine blk_drew ?_ | refine blk_alloc ?_ _)); refine blk_put (cs := #[.int .i64 x559000_1, .int .u64 x559001_1]) ?_ 0 _ rfl; (with_reducible repeat (first | refine blk_drewN ?_ _ | refine blk_drew ?_ | refine blk_alloc ?_ _)); refine blk_far ?_ NB558_561.out _; (with_reducible repeat (first | refine blk_drewN ?_ _ | refine blk_drew ?_ | refine blk_alloc ?_ _)); refine blk_far ?_ NB558_561.out _; (with_reducible repeat (first | refine blk_drewN ?_ _ | refine blk_drew ?_ | refine blk_alloc ?_ _)); exact BK558.out⟩, ⟨bK BK559⟩, ⟨ bH HB⟩⟩
       ·rw [if_neg c14] at H
        exact absurd H (by simp)
     ·rw [if_neg c7] at H
      exact absurd H (by simp)
    ·rw [if_neg c6] at H
     exact absurd H (by simp)
   ·rw [if_neg c5] at H
    have c5b0 := decide_eq_false c5; clear c5
    simp only [Option.some.injEq, Prod.mk.injEq] at H
    obtain ⟨rfl, rfl⟩ := H
    have hnb20 := NB558_559.out; have hnc20 := NB559_558.out; obtain ⟨hcz21_0, hcz21_1, hfz21_0, hfz21_1⟩ := c2 BK558; obtain ⟨hcz22_0, hcz22_1, hfz22_0, hfz22_1⟩ := c2 BK559
    go_wp2_with (go_step3)
    (try rw [Exit.noGoto_ret])
    refine bodyPost_ret (results_cell_row rfl _ _ gb559 50 #[.int .i64 x559000_1, .int .u64 x559001_1] (0, 0) _ rfl (by (with_reducible repeat (first | refine blk_drewN ?_ _ | refine blk_drew ?_ | refine blk_alloc ?_ _)); refine blk_put (cs := #[.int .i64 x559000_1, .int .u64 0]) ?_ 1 _ rfl; (with_reducible repeat (first | refine blk_drewN ?_ _ | refine blk_drew ?_ | refine blk_alloc ?_ _)); refine blk_put (cs := #[.int .i64 0, .int .u64 0]) ?_ 0 _ rfl; (with_reducible repeat (first | refine blk_drewN ?_ _ | refine blk_drew ?_ | refine blk_alloc ?_ _)); exact BK559.out) Try.underlying50 rfl (by kernel_rfl)) rfl ?_
    exact ⟨rE, bH HB⟩
end Go.Proofs.Ytbonkedecfjmdaa.P

namespace Go.Proofs.Ytbonkedecfjmdaa.P
open Go.RowKit Go.Proofs.YtbonkedecfjmdaaW.PrintWords Go.Proofs.YtbonkedecfjmdaaW.PrintLast Go.Proofs.YtbonkedecfjmdaaW.PrintMore Go.Proofs.Ytbonkedecfjmdaa.X
attribute [local go_sem] max2_int min2_int max_two min_two max_three min_three max_four min_four add64_0 add64_1 add64
set_option linter.unusedVariables false
set_option linter.unusedSimpArgs false
def bits_Mul64.f (a0 : Int) (a1 : Int) : Option (Int × Int) := some (IntKind.u64.wrap ((IntKind.u64.wrap ((IntKind.u64.wrap ((a0 / 4294967296) * (a1 / 4294967296))) + ((IntKind.u64.wrap ((IntKind.u64.wrap ((a0 / 4294967296) * (Go.bits .and .u64 a1 4294967295))) + ((IntKind.u64.wrap ((Go.bits .and .u64 a0 4294967295) * (Go.bits .and .u64 a1 4294967295))) / 4294967296))) / 4294967296))) + ((IntKind.u64.wrap ((Go.bits .and .u64 (IntKind.u64.wrap ((IntKind.u64.wrap ((a0 / 4294967296) * (Go.bits .and .u64 a1 4294967295))) + ((IntKind.u64.wrap ((Go.bits .and .u64 a0 4294967295) * (Go.bits .and .u64 a1 4294967295))) / 4294967296))) 4294967295) + (IntKind.u64.wrap ((Go.bits .and .u64 a0 4294967295) * (a1 / 4294967296))))) / 4294967296)), IntKind.u64.wrap (a0 * a1))
set_option maxHeartbeats 8000000 in
set_option maxRecDepth 100000 in
theorem bits_Mul64.calls (a0 : Int) (a1 : Int) (r1 : Int) (r2 : Int) (w : World) (h : bits_Mul64.f a0 a1 = some (r1, r2)) :
  Calls Try.prog 86 #[.int .u64 a0, .int .u64 a1] w fun e w' => e = .returned (.tuple #[.int .u64 r1, .int .u64 r2]) ∧ Drawn0 w w' := by
 have H : (some (IntKind.u64.wrap ((IntKind.u64.wrap ((IntKind.u64.wrap ((a0 / 4294967296) * (a1 / 4294967296))) + ((IntKind.u64.wrap ((IntKind.u64.wrap ((a0 / 4294967296) * (Go.bits .and .u64 a1 4294967295))) + ((IntKind.u64.wrap ((Go.bits .and .u64 a0 4294967295) * (Go.bits .and .u64 a1 4294967295))) / 4294967296))) / 4294967296))) + ((IntKind.u64.wrap ((Go.bits .and .u64 (IntKind.u64.wrap ((IntKind.u64.wrap ((a0 / 4294967296) * (Go.bits .and .u64 a1 4294967295))) + ((IntKind.u64.wrap ((Go.bits .and .u64 a0 4294967295) * (Go.bits .and .u64 a1 4294967295))) / 4294967296))) 4294967295) + (IntKind.u64.wrap ((Go.bits .and .u64 a0 4294967295) * (a1 / 4294967296))))) / 4294967296)), IntKind.u64.wrap (a0 * a1))) = some (r1, r2) := h
 clear h
 simp only [Option.some.injEq, Prod.mk.injEq] at H
 obtain ⟨rfl, rfl⟩ := H
 go_enter Try.func86, Try.ntmps86
 go_wp2
 go_ret2
 exact ⟨by first | rfl | (simp; done) | (simp [*]; done), by repeat (first | exact Drawn0.refl _ | apply Drawn0.step)⟩

def wide_Mul.f (a0 : Int) (a1 : Int) : Option (Int × Int) := (bits_Mul64.f (IntKind.u64.wrap (a0)) (IntKind.u64.wrap (a1))).bind fun bt563 => (if a0 < 0 then (if a1 < 0 then (some (wrap64 (IntKind.u64.wrap ((IntKind.u64.wrap (bt563.1 - (IntKind.u64.wrap (a1)))) - (IntKind.u64.wrap (a0)))), bt563.2)) else (some (wrap64 (IntKind.u64.wrap (bt563.1 - (IntKind.u64.wrap (a1)))), bt563.2))) else (if a1 < 0 then (some (wrap64 (IntKind.u64.wrap (bt563.1 - (IntKind.u64.wrap (a0)))), bt563.2)) else (some (wrap64 (bt563.1), bt563.2))))
set_option maxHeartbeats 8000000 in
set_option maxRecDepth 100000 in
theorem wide_Mul.calls (a0 : Int) (a1 : Int) (r1 : Int) (r2 : Int) (w : World) (h : wide_Mul.f a0 a1 = some (r1, r2)) :
  Calls Try.prog 81 #[.int .i64 a0, .int .i64 a1] w fun e w' => e = .returned (.agg #[.int .i64 r1, .int .u64 r2]) ∧ Below w.heap.size w w' := by
 have hu50 := Try.underlying50
 have HB := AM (Below.refl w.heap.size w)
 have H : ((bits_Mul64.f (IntKind.u64.wrap (a0)) (IntKind.u64.wrap (a1))).bind fun bt563 => (if a0 < 0 then (if a1 < 0 then (some (wrap64 (IntKind.u64.wrap ((IntKind.u64.wrap (bt563.1 - (IntKind.u64.wrap (a1)))) - (IntKind.u64.wrap (a0)))), bt563.2)) else (some (wrap64 (IntKind.u64.wrap (bt563.1 - (IntKind.u64.wrap (a1)))), bt563.2))) else (if a1 < 0 then (some (wrap64 (IntKind.u64.wrap (bt563.1 - (IntKind.u64.wrap (a0)))), bt563.2)) else (some (wrap64 (bt563.1), bt563.2))))) = some (r1, r2) := h
 clear h
 obtain ⟨⟨t563, t564⟩, A3, H⟩ := bS H
 try dsimp only at H
 have HC4 := AM H
 clear H
 go_enter Try.func81, Try.ntmps81
 go_upto_if 16 with (first | ((with_reducible refine gate_dst (N := 4) rfl ?_); refine bE 4 #[.int .i64 0, .int .u64 0] 50 ?_; intro gb562 hg w5 hbox hb; have BK562 := AM hbox; have GW562 := kG HB hg; replace HB := kH HB hb; have GE562 := GW562; clear hb hbox hg) | ((with_reducible refine gate_callee (f := 86) rfl ?_); refine gL (some 12) Try.func86 #[.int .u64 (IntKind.u64.wrap (a0)), .int .u64 (IntKind.u64.wrap (a1))] ?_; (with_reducible refine (bits_Mul64.calls (IntKind.u64.wrap (a0)) (IntKind.u64.wrap (a1)) t563 t564 _ A3.out).mono ?_); rintro e w' ⟨rfl, ⟨nd, rfl⟩⟩; refine ⟨_, rfl, ?_⟩))
 (try simp only [Act.put, List.setIfInBounds_toArray, List.set_cons_zero, List.set_cons_succ])
 have H := HC4.out; clear HC4
 by_cases c6 : a0 < 0
 ·rw [if_pos c6] at H
  have c6b0 := decide_eq_true c6; clear c6
  (first | rw [c6b0] | (simp only [i64_w, i32_w]; rw [c6b0]) | skip)
  by_cases c7 : a1 < 0
  ·rw [if_pos c7] at H
   have c7b0 := decide_eq_true c7; clear c7
   simp only [Option.some.injEq, Prod.mk.injEq] at H
   obtain ⟨rfl, rfl⟩ := H
   obtain ⟨hcz8_0, hcz8_1, hfz8_0, hfz8_1⟩ := c2 BK562
   go_wp2
   refine bodyPost_ret (results_cell_row rfl _ _ gb562 50 #[.int .i64 (wrap64 (IntKind.u64.wrap ((IntKind.u64.wrap (t563 - (IntKind.u64.wrap (a1)))) - (IntKind.u64.wrap (a0))))), .int .u64 t564] (0, 0) _ rfl (by (with_reducible repeat (first | refine blk_drewN ?_ _ | refine blk_drew ?_ | refine blk_alloc ?_ _)); refine blk_put (cs := #[.int .i64 (wrap64 (IntKind.u64.wrap ((IntKind.u64.wrap (t563 - (IntKind.u64.wrap (a1)))) - (IntKind.u64.wrap (a0))))), .int .u64 0]) ?_ 1 _ rfl; (with_reducible repeat (first | refine blk_drewN ?_ _ | refine blk_drew ?_ | refine blk_alloc ?_ _)); refine blk_put (cs := #[.int .i64 0, .int .u64 0]) ?_ 0 _ rfl; (with_reducible repeat (first | refine blk_drewN ?_ _ | refine blk_drew ?_ | refine blk_alloc ?_ _)); exact BK562.out) Try.underlying50 rfl (by kernel_rfl)) rfl ?_
   exact ⟨rE, bH HB⟩
  ·rw [if_neg c7] at H
   have c7b0 := decide_eq_false c7; clear c7
   simp only [Option.some.injEq, Prod.mk.injEq] at H
   obtain ⟨rfl, rfl⟩ := H
   obtain ⟨hcz9_0, hcz9_1, hfz9_0, hfz9_1⟩ := c2 BK562
   go_wp2
   refine bodyPost_ret (results_cell_row rfl _ _ gb562 50 #[.int .i64 (wrap64 (IntKind.u64.wrap (t563 - (IntKind.u64.wrap (a1))))), .int .u64 t564] (0, 0) _ rfl (by (with_reducible repeat (first | refine blk_drewN ?_ _ | refine blk_drew ?_ | refine blk_alloc ?_ _)); refine blk_put (cs := #[.int .i64 (wrap64 (IntKind.u64.wrap (t563 - (IntKind.u64.wrap (a1))))), .int .u64 0]) ?_ 1 _ rfl; (with_reducible repeat (first | refine blk_drewN ?_ _ | refine blk_drew ?_ | refine blk_alloc ?_ _)); refine blk_put (cs := #[.int .i64 0, .int .u64 0]) ?_ 0 _ rfl; (with_reducible repeat (first | refine blk_drewN ?_ _ | refine blk_drew ?_ | refine blk_alloc ?_ _)); exact BK562.out) Try.underlying50 rfl (by kernel_rfl)) rfl ?_
   exact ⟨rE, bH HB⟩
 ·rw [if_neg c6] at H
  have c6b0 := decide_eq_false c6; clear c6
  (first | rw [c6b0] | (simp only [i64_w, i32_w]; rw [c6b0]) | skip)
  by_cases c10 : a1 < 0
  ·rw [if_pos c10] at H
   have c10b0 := decide_eq_true c10; clear c10
   simp only [Option.some.injEq, Prod.mk.injEq] at H
   obtain ⟨rfl, rfl⟩ := H
   obtain ⟨hcz11_0, hcz11_1, hfz11_0, hfz11_1⟩ := c2 BK562
   go_wp2
   refine bodyPost_ret (results_cell_row rfl _ _ gb562 50 #[.int .i64 (wrap64 (IntKind.u64.wrap (t563 - (IntKind.u64.wrap (a0))))), .int .u64 t564] (0, 0) _ rfl (by (with_reducible repeat (first | refine blk_drewN ?_ _ | refine blk_drew ?_ | refine blk_alloc ?_ _)); refine blk_put (cs := #[.int .i64 (wrap64 (IntKind.u64.wrap (t563 - (IntKind.u64.wrap (a0))))), .int .u64 0]) ?_ 1 _ rfl; (with_reducible repeat (first | refine blk_drewN ?_ _ | refine blk_drew ?_ | refine blk_alloc ?_ _)); refine blk_put (cs := #[.int .i64 0, .int .u64 0]) ?_ 0 _ rfl; (with_reducible repeat (first | refine blk_drewN ?_ _ | refine blk_drew ?_ | refine blk_alloc ?_ _)); exact BK562.out) Try.underlying50 rfl (by kernel_rfl)) rfl ?_
   exact ⟨rE, bH HB⟩
  ·rw [if_neg c10] at H
   have c10b0 := decide_eq_false c10; clear c10
   simp only [Option.some.injEq, Prod.mk.injEq] at H
   obtain ⟨rfl, rfl⟩ := H
   obtain ⟨hcz12_0, hcz12_1, hfz12_0, hfz12_1⟩ := c2 BK562
   go_wp2
   refine bodyPost_ret (results_cell_row rfl _ _ gb562 50 #[.int .i64 (wrap64 (t563)), .int .u64 t564] (0, 0) _ rfl (by (with_reducible repeat (first | refine blk_drewN ?_ _ | refine blk_drew ?_ | refine blk_alloc ?_ _)); refine blk_put (cs := #[.int .i64 (wrap64 (t563)), .int .u64 0]) ?_ 1 _ rfl; (with_reducible repeat (first | refine blk_drewN ?_ _ | refine blk_drew ?_ | refine blk_alloc ?_ _)); refine blk_put (cs := #[.int .i64 0, .int .u64 0]) ?_ 0 _ rfl; (with_reducible repeat (first | refine blk_drewN ?_ _ | refine blk_drew ?_ | refine blk_alloc ?_ _)); exact BK562.out) Try.underlying50 rfl (by kernel_rfl)) rfl ?_
   exact ⟨rE, bH HB⟩

def wide_Dot.l0 : Nat → List Int → Int → Int → Int → Option (Int × Int × Int)
 | 0, _, _, _, _ => none
 | k + 1, x0, x5, x567000, x567001 => if x5 < (x0.length : Int) then (if 0 ≤ x5 then (if 0 ≤ (wrap64 (x5 + 1)) then (if (wrap64 (x5 + 1)) < (x0.length : Int) then ((wide_Mul.f (rd x0 x5) (rd x0 (wrap64 (x5 + 1)))).bind fun bt569 => ((wide_Add.f k x567000 x567001 (([(⟨bt569.1, bt569.2⟩ : S50)] : List (S50)))).bind fun bt574 => (wide_Dot.l0 k x0 (wrap64 (x5 + 2)) bt574.1 bt574.2))) else (none)) else (none)) else (none)) else (some (x567000, x567001, 0))
def wide_Dot.f (k : Nat) (l0 : List Int) : Option (Int × Int × Int) := if ((l0.length : Int) % 2) = 0 then (wide_Dot.l0 k l0 0 0 0) else (some (0, 0, 2))
theorem wide_Dot.mono_l : ∀ k, (∀ y0 y1 y2 y3, LeO (wide_Dot.l0 k y0 y1 y2 y3) (wide_Dot.l0 (k + 1) y0 y1 y2 y3))
 | 0 => fun _ _ _ _ r h => by simp [wide_Dot.l0] at h
 | k + 1 => by
  have ih0 := wide_Dot.mono_l k
  ·intro y0 y1 y2 y3
   unfold wide_Dot.l0
   repeat' first
   | (with_reducible exact ih0 _ _ _ _)
   | (with_reducible exact wide_Add.mono _ _ _ _)
   | (with_reducible exact LeO.refl _)
   | (with_reducible exact LeO.none _)
   | (with_reducible refine LeO.ite ?_ ?_)
   | (with_reducible refine LeO.bind ?_ (fun _ => ?_))
   | exact ih0 _ _ _ _
   | exact wide_Add.mono _ _ _ _
   | exact LeO.none _
   | refine LeO.ite ?_ ?_
   | refine LeO.bind ?_ (fun _ => ?_)
theorem wide_Dot.mono : ∀ a0 k, LeO (wide_Dot.f k a0) (wide_Dot.f (k + 1) a0) := by
 intro a0 k
 have ih0 := wide_Dot.mono_l k
 unfold wide_Dot.f
 repeat' first
   | (with_reducible exact ih0 _ _ _ _)
   | (with_reducible exact wide_Add.mono _ _ _ _)
   | (with_reducible exact LeO.refl _)
   | (with_reducible exact LeO.none _)
   | (with_reducible refine LeO.ite ?_ ?_)
   | (with_reducible refine LeO.bind ?_ (fun _ => ?_))
   | exact ih0 _ _ _ _
   | exact wide_Add.mono _ _ _ _
   | exact LeO.none _
   | refine LeO.ite ?_ ?_
   | refine LeO.bind ?_ (fun _ => ?_)
def wide_Dot.T7 : Bool × List (List Nat × List Nat) := (true, [([], []), ([], []), ([], []), ([1, 2], [1, 2]), ([3], [3]), ([], []), ([], []), ([6], [6]), ([5, 7], [5, 7]), ([8], [8]), ([4, 9], [4, 9]), ([10], [10]), ([0, 11, 10], [0, 11]), ([12, 12, 0, 1, 2, 3, 4, 5, 6, 7, 8, 9, 10, 11, 12], [12])])
def wide_Dot.B7 : List Nat := [0, 0, 0, 6, 14, 0, 0, 64, 224, 480, 1022, 2046, 4095, 8191]
theorem wide_Dot.tab7 : rtab .any (opsOf Try.f69 7) = wide_Dot.T7 := by kernel_rfl
theorem wide_Dot.bits7 : waitsOk wide_Dot.T7.2 wide_Dot.B7 = true := by kernel_rfl
set_option maxHeartbeats 8000000 in
set_option maxRecDepth 100000 in
theorem wide_Dot.calls (k : Nat) (A0 : Option Addr) (c0 : Nat) (l0 : List Int) (r1 : Int) (r2 : Int) (r3 : Int) (w : World) (hr0 : Kd.C (Kd.int .i64) w A0 l0.length l0) (hc0 : l0.length ≤ c0) (h : wide_Dot.f k l0 = some (r1, r2, r3)) :
  Calls Try.prog 69 #[.slice A0 l0.length c0] w fun e w' => e = .returned (.tuple #[.agg #[.int .i64 r1, .int .u64 r2], .int .i64 r3]) ∧ Below w.heap.size w w' := by
 have hu50 := Try.underlying50
 have HR0 := AM hr0
 have HC0 := AM hc0
 clear hr0 hc0
 have HB := AM (Below.refl w.heap.size w)
 have H : (if ((l0.length : Int) % 2) = 0 then (wide_Dot.l0 k l0 0 0 0) else (some (0, 0, 2))) = some (r1, r2, r3) := h
 clear h
 have HC2 := AM H
 clear H
 go_enter Try.func69, Try.ntmps69
 go_upto_if 9 with (first | ((with_reducible refine gate_dst (N := 2) rfl ?_); refine bE 2 #[.int .i64 0, .int .u64 0] 50 ?_; intro gb565 hg w3 hbox hb; have BK565 := AM hbox; have GW565 := kG HB hg; replace HB := kH HB hb; have GE565 := GW565; clear hb hbox hg))
 (try simp only [Act.put, List.setIfInBounds_toArray, List.set_cons_zero, List.set_cons_succ])
 have H := HC2.out; clear HC2
 by_cases c4 : ((l0.length : Int) % 2) = 0
 ·rw [if_pos c4] at H
  have c4b0 : (((l0.length : Int) % 2) == 0) = true := beq_iff_eq.mpr c4
  have c4b1 : (((l0.length : Int) % 2) != 0) = false := bne_eq_false_iff_eq.mpr c4
  clear c4
  (first | rw [c4b0] | (simp only [i64_w, i32_w]; rw [c4b0]) | skip)
  have H' := AM H
  clear H
  go_wp2_with (first | ((with_reducible refine gate_dst (N := 4) rfl ?_); refine bE 4 #[.int .i64 0, .int .u64 0] 50 ?_; intro gb566 hg w5 hbox hb; have BK566 := AM hbox; have GW566 := kG HB hg; replace HB := kH HB hb; have GE566 := GW566; have NB565_566 := kN BK565 hg; have NB566_565 := kM BK565 hg; replace BK565 := kB BK565 hb; clear hb hbox hg))
  go_loopg [5] k (fun kq v5 w' => ∃ (x5_1 : Int) (x567000_1 : Int) (x567001_1 : Int), v5 = .int .i64 x5_1 ∧ Aside0 (wide_Dot.l0 kq l0 x5_1 x567000_1 x567001_1 = some (r1, r2, r3)) ∧ Aside0 (kq ≤ k) ∧ Aside0 (w'.heap[gb565]? = some (.cells #[.int .i64 0, .int .u64 0] 50 (0, 0))) ∧ Aside0 (w'.heap[gb566]? = some (.cells #[.int .i64 x567000_1, .int .u64 x567001_1] 50 (0, 0))) ∧ Aside0 (Below w.heap.size w w'))
  case atStart => exact ⟨(0), (0), (0), rS, H', ⟨Nat.le_refl _⟩, ⟨bK BK565⟩, ⟨bK BK566⟩, ⟨ bH HB⟩⟩
  case round =>
   clear H'
   (try clear p2); (try clear c4); (try clear c4b0); (try clear c4b1)
   obtain ⟨x5_1, x567000_1, x567001_1, rfl, HA, HK1, BK565, BK566, HB⟩ := hrel
   cases gk with
   | zero => exact absurd HA.out (by simp [wide_Dot.l0])
   | succ k1 =>
    have H := HA.out; clear HA
    simp only [wide_Dot.l0] at H
    by_cases c6 : x5_1 < (l0.length : Int)
    ·rw [if_pos c6] at H
     have c6b0 := decide_eq_true c6; clear c6
     by_cases c7 : 0 ≤ x5_1
     ·rw [if_pos c7] at H
      have c7b0 := decide_eq_true c7; clear c7
      obtain ⟨ji8, hji8⟩ : ∃ j_ : Int, (wrap64 (x5_1 + 1)) = j_ := ⟨_, rfl⟩
      replace H : (if 0 ≤ (ji8) then (if (ji8) < (l0.length : Int) then ((wide_Mul.f (rd l0 x5_1) (rd l0 (ji8))).bind fun bt569 => ((wide_Add.f k1 x567000_1 x567001_1 (([(⟨bt569.1, bt569.2⟩ : S50)] : List (S50)))).bind fun bt574 => (wide_Dot.l0 k1 l0 (wrap64 (x5_1 + 2)) bt574.1 bt574.2))) else (none)) else (none)) = some (r1, r2, r3) := by first | (rw [hji8] at H; exact H) | (simp only [hji8] at H ⊢; exact H)
      have hji8w : (IntKind.i64.wrap (x5_1 + 1)) = ji8 := (i64_w _).trans hji8
      by_cases c9 : 0 ≤ (ji8)
      ·rw [if_pos c9] at H
       have c9b0 := decide_eq_true c9; clear c9
       by_cases c10 : (ji8) < (l0.length : Int)
       ·rw [if_pos c10] at H
        have c10b0 := decide_eq_true c10; clear c10
        obtain ⟨⟨t569, t570⟩, A11, H⟩ := bS H
        try dsimp only at H
        obtain ⟨y571, hy571⟩ : ∃ y_ : List (S50), y_ = (([(⟨t569, t570⟩ : S50)] : List (S50))) := ⟨_, rfl⟩
        replace H : ((wide_Add.f k1 x567000_1 x567001_1 y571).bind fun bt574 => (wide_Dot.l0 k1 l0 (wrap64 (x5_1 + 2)) bt574.1 bt574.2)) = some (r1, r2, r3) := by first | (rw [hy571]; with_reducible exact H) | (have H2_ := (Option.bind_some _ _).symm.trans H; rw [hy571]; with_reducible exact H2_) | (have H2_ := (Option.bind_some _ _).symm.trans H; with_reducible exact H2_) | with_reducible exact H | (rw [hy571]; exact H) | exact H
        have Ny571 := AM hy571
        clear hy571
        obtain ⟨⟨t574, t575⟩, A12, H⟩ := bS H
        try dsimp only at H
        have H' := AM H
        clear H
        try go_wp2
        replace BK565 := dB BK565; replace BK566 := dB BK566; replace HB := dH HB
        have p567 : 0 ≤ (x5_1 : Int) := pD
        have q567 : x5_1 < (l0.length : Int) := pD
        obtain ⟨ad567, e567, hx567_0⟩ := Kd.at_int HR0.out x5_1 p567 q567
        have hw567_0 := hx567_0
        cases e567
        replace hx567_0 := hW HB hx567_0; replace p567 := eq_true p567; replace q567 := eq_true q567
        have p568 : 0 ≤ ((ji8) : Int) := pD
        have q568 : (ji8) < (l0.length : Int) := pD
        obtain ⟨ad568, e568, hx568_0⟩ := Kd.at_int HR0.out (ji8) p568 q568
        have hw568_0 := hx568_0
        obtain rfl : ad567 = ad568 := (by injection e568)
        replace hx568_0 := hW HB hx568_0; replace p568 := eq_true p568; replace q568 := eq_true q568
        refine sP 14 (S := fun w' => w'.cell? ⟨gb566, 0, none⟩ = some (.int .i64 x567000_1) ∧ w'.cell? ⟨gb566, 1, none⟩ = some (.int .u64 x567001_1) ∧ w'.cell? (ad567.add (x5_1).toNat) = some (.int .i64 (rd l0 x5_1)) ∧ w'.cell? (ad567.add ((ji8)).toNat) = some (.int .i64 (rd l0 (ji8)))) (ds := [13]) ⟨bC BK566, bC BK566, (hW HB hw567_0), (hW HB hw568_0)⟩ fun hHeld => ?_; refine with_tabW wide_Dot.tab7 wide_Dot.bits7 (fun HT_ HW_ => ?_)
        generalize wr.drew = w13 at BK565 BK566 HB hx567_0 hx568_0 hHeld ⊢
        refine pQ 1 (some 18) HT_ ?_; refine pQ 2 (some 19) HT_ ?_; refine pQ 3 (some 20) HT_ ?_; refine pQ 5 (some 22) HT_ ?_; refine pQ 6 (some 23) HT_ ?_; refine pQ 7 (some 24) HT_ ?_; refine pQ 8 (some 25) HT_ ?_; refine tQ 0 (some 17) HT_ HW_ hHeld ?_; refine tQ 4 (some 21) HT_ HW_ hHeld ?_; refine tQ 9 (some 26) HT_ HW_ hHeld ?_
        refine oQ 10 (some 27) HT_ rfl fun K hK => ?_
        refine goes_ Try.func81 (by kernel_rfl) rfl #[.int .i64 (rd l0 x5_1), .int .i64 (rd l0 (ji8))] (by rfl) rfl rfl (by (try simp only [List.map_toArray, List.map_cons, List.map_nil]); first | done | (simp only [hji8]; rfl) | rfl | (simp only [List.length_drop, List.length_take]; rfl)) ?_
        with_reducible refine (wide_Mul.calls (rd l0 x5_1) (rd l0 (ji8)) t569 t570 _ A11.out).mono ?_
        rintro e w14 ⟨rfl, hb⟩
        refine ⟨_, rfl, ?_⟩
        replace BK565 := kB BK565 hb; replace BK566 := kB BK566 hb; replace HB := kH HB hb; (try clear hb); (try clear hb2); (try clear hk); (try clear hi)
        refine hK.out _ _ ⟨bC BK566, bC BK566, (hW HB hw567_0), (hW HB hw568_0)⟩ (fun hHeld => ?_)
        clear hK K; refine nP (some 27) ?_
        refine oQ 11 (some 28) HT_ rfl fun K hK => ?_
        refine Kd.R_lit_step k50 _ 50 ?hg (N := 28) ?hd (xs := ([(⟨t569, t570⟩ : S50)] : List (S50))) (inner := [.int .i64 t569, .int .u64 t570]) (ok := fun _ => True) (okp := fun _ => True) ?hr ?hp (fun _ hk => hk) trivial (Below.refl _ _) (Nat.le_refl _) (by simp) ?_; (case hd => rfl); (case hg => rfl); (case hr => first | (go_simp; done) | (go_simp; rfl)); (case hp => exact (Reps.c2 (show Kd.M k50 _ _ _ (⟨t569, t570⟩ : S50) [.int .i64 t569, .int .u64 t570] from (k50_mkM _ _ _ (⟨t569, t570⟩ : S50) )) (Reps.none _ _)))
        intro v572 w15 ho16 hb hg_ hnew_
        clear hg_ hnew_
        (first | rw [← Ny571.out] at ho16 | (simp only [Int.reduceToNat] at ho16; rw [← Ny571.out] at ho16))
        have HO573 := AM (Kd.R_lower (Kd.R_newB (Kd.R_newB ho16 (g := gb565) (o := .cells #[.int .i64 0, .int .u64 0] 50 (0, 0)) (bK BK565)) (g := gb566) (o := .cells #[.int .i64 x567000_1, .int .u64 x567001_1] 50 (0, 0)) (bK BK566)) (below_size (bH HB)))
        replace BK565 := kB BK565 hb; replace BK566 := kB BK566 hb; replace HB := kH HB hb; clear hb ho16
        obtain ⟨Ao17, co17, eo17⟩ := Kd.R_slice HO573.out
        (first | subst eo17 | (injection eo17 with f1_ f2_ f3_; have f4_ := f1_.symm; have f5_ := f3_.symm; clear f1_ f2_ f3_; subst f4_; subst f5_))
        refine hK.out _ _ ⟨bC BK566, bC BK566, (hW HB hw567_0), (hW HB hw568_0)⟩ (fun hHeld => ?_)
        clear hK K; refine nP (some 28) ?_
        refine oQ 12 (some 29) HT_ rfl fun K hK => ?_
        refine gO Try.func25 #[.agg #[.int .i64 x567000_1, .int .u64 x567001_1], .slice Ao17 y571.length co17] ?_
        with_reducible refine (wide_Add.calls k1 x567000_1 x567001_1 _ _ y571 t574 t575 _ ?side1 ?side2 A12.out).mono ?_
        (case side1 => exact sR HO573)
        (case side2 => exact (Kd.R_reads' HO573.out).2.1)
        rintro e w18 ⟨rfl, hb⟩
        refine ⟨_, rfl, ?_⟩
        replace HO573 := kR HO573 hb; replace BK565 := kB BK565 hb; replace BK566 := kB BK566 hb; replace HB := kH HB hb; (try clear hb); (try clear hb2); (try clear hk); (try clear hi)
        refine hK.out _ _ ⟨bC BK566, bC BK566, (hW HB hw567_0), (hW HB hw568_0)⟩ (fun hHeld => ?_)
        clear hK K; refine nP (some 29) ?_
        refine last_ (i := 13) (N := none) #[true, true, true, true, true, true, true, true, true, true, true, true, true, true] rfl rfl (one_of HT_.out (by kernel_rfl)) (by decide) (fun K hK => ?_)
        have hs19 : w18.cell? ⟨gb566, 0, none⟩ = some (.int .i64 x567000_1) := bC BK566
        have hfs19 := blk_frozen BK566.out 0
        have hns19_0 := NB565_566.out; have hms19_0 := NB566_565.out
        have hs20 : w18.cell? ⟨gb566, 1, none⟩ = some (.int .u64 x567001_1) := bC BK566
        have hfs20 := blk_frozen BK566.out 1
        have hns20_0 := NB565_566.out; have hms20_0 := NB566_565.out
        refine skip_ (w1 := ?_) (by rfl) rfl ?_ ?_
        rotate_left
        ·go_simp
         rfl
        refine hK.out _ _ ?_
        clear hK K
        refine done_ (done_of HT_.out (by kernel_rfl)) ?_
        try go_wp2
        go_roundg k1
        case measure => have := HK1.out; omega
        case rel => exact ⟨(wrap64 (x5_1 + 2)), (t574), (t575), rS, H', ⟨by have := HK1.out; omega⟩, ⟨bK BK565⟩, ⟨by (with_reducible repeat (first | refine blk_drewN ?_ _ | refine blk_drew ?_ | refine blk_alloc ?_ _)); refine blk_put (cs := #[.int .i64 t574, .int .u64 x567001_1]) ?_ 1 _ rfl; (with_reducible repeat (first | refine blk_drewN ?_ _ | refine blk_drew ?_ | refine blk_alloc ?_ _)); refine blk_put (cs := #[.int .i64 x567000_1, .int .u64 x567001_1]) ?_ 0 _ rfl; (with_reducible repeat (first | refine blk_drewN ?_ _ | refine blk_drew ?_ | refine blk_alloc ?_ _)); exact BK566.out⟩, ⟨ bH HB⟩⟩
       ·rw [if_neg c10] at H
        exact absurd H (by simp)
      ·rw [if_neg c9] at H
       exact absurd H (by simp)
     ·rw [if_neg c7] at H
      exact absurd H (by simp)
    ·rw [if_neg c6] at H
     have c6b0 := decide_eq_false c6; clear c6
     simp only [Option.some.injEq, Prod.mk.injEq] at H
     obtain ⟨rfl, rfl, rfl⟩ := H
     have hnb21 := NB566_565.out; have hnc21 := NB565_566.out; obtain ⟨hcz22_0, hcz22_1, hfz22_0, hfz22_1⟩ := c2 BK566; obtain ⟨hcz23_0, hcz23_1, hfz23_0, hfz23_1⟩ := c2 BK565
     go_wp2
     refine bodyPost_ret (results_ct rfl _ _ gb565 50 #[.int .i64 x567000_1, .int .u64 x567001_1] (0, 0) _ rfl (by (with_reducible repeat (first | refine blk_drewN ?_ _ | refine blk_drew ?_ | refine blk_alloc ?_ _)); refine blk_put (cs := #[.int .i64 x567000_1, .int .u64 0]) ?_ 1 _ rfl; (with_reducible repeat (first | refine blk_drewN ?_ _ | refine blk_drew ?_ | refine blk_alloc ?_ _)); refine blk_put (cs := #[.int .i64 0, .int .u64 0]) ?_ 0 _ rfl; (with_reducible repeat (first | refine blk_drewN ?_ _ | refine blk_drew ?_ | refine blk_alloc ?_ _)); exact BK565.out) Try.underlying50 rfl (by kernel_rfl)) rfl ?_
     exact ⟨rE, bH HB⟩
 ·rw [if_neg c4] at H
  have c4b0 : (((l0.length : Int) % 2) == 0) = false := beq_eq_false_iff_ne.mpr c4
  have c4b1 : (((l0.length : Int) % 2) != 0) = true := bne_iff_ne.mpr c4
  (first | rw [c4b0] | (simp only [i64_w, i32_w]; rw [c4b0]) | skip)
  simp only [Option.some.injEq, Prod.mk.injEq] at H
  obtain ⟨rfl, rfl, rfl⟩ := H
  obtain ⟨hcz24_0, hcz24_1, hfz24_0, hfz24_1⟩ := c2 BK565
  go_wp2
  refine bodyPost_ret (results_ct rfl _ _ gb565 50 #[.int .i64 0, .int .u64 0] (0, 0) _ rfl (by (with_reducible repeat (first | refine blk_drewN ?_ _ | refine blk_drew ?_ | refine blk_alloc ?_ _)); refine blk_put (cs := #[.int .i64 0, .int .u64 0]) ?_ 1 _ rfl; (with_reducible repeat (first | refine blk_drewN ?_ _ | refine blk_drew ?_ | refine blk_alloc ?_ _)); refine blk_put (cs := #[.int .i64 0, .int .u64 0]) ?_ 0 _ rfl; (with_reducible repeat (first | refine blk_drewN ?_ _ | refine blk_drew ?_ | refine blk_alloc ?_ _)); exact BK565.out) Try.underlying50 rfl (by kernel_rfl)) rfl ?_
  exact ⟨rE, bH HB⟩
end Go.Proofs.Ytbonkedecfjmdaa.P
