/- Written for this claim by a program of this session (a turned copy of the print): Go functions as Lean functions, and that the Go code comes to just these answers; or a statement proved out of them. No condition. -/
import Derived.Test.YtbonkedecfjmdaaZ2

namespace Go.Proofs.Ytbonkedecfjmdaa.P
open Go.RowKit Go.Proofs.YtbonkedecfjmdaaW.PrintWords Go.Proofs.YtbonkedecfjmdaaW.PrintLast Go.Proofs.YtbonkedecfjmdaaW.PrintMore Go.Proofs.Ytbonkedecfjmdaa.X
attribute [local go_sem] max2_int min2_int max_two min_two max_three min_three max_four min_four add64_0 add64_1 add64
set_option linter.unusedVariables false
set_option linter.unusedSimpArgs false
mutual
def lw_long.l0 : Nat → Int → Int → List (List (S27)) → List (List Int) → List (List Int) → Option (Bool)
 | 0, _, _, _, _, _ => none
 | k + 1, x3, x4, x102000, x102001, x102002 => if x4 < (x102000.length : Int) then (if 0 ≤ x4 then (lw_long.l0 k (wrap64 ((wrap64 (x3 + 1)) + ((rd_L2 x102000 x4).length : Int))) (wrap64 (x4 + 1)) x102000 x102001 x102002) else (none)) else (lw_long.l1 k x3 0 x102000 x102001 x102002)
def lw_long.l1 : Nat → Int → Int → List (List (S27)) → List (List Int) → List (List Int) → Option (Bool)
 | 0, _, _, _, _, _ => none
 | k + 1, x3, x5, x102000, x102001, x102002 => if x5 < (x102001.length : Int) then (if 0 ≤ x5 then (lw_long.l1 k (wrap64 ((wrap64 (x3 + 1)) + ((rd_L3 x102001 x5).length : Int))) (wrap64 (x5 + 1)) x102000 x102001 x102002) else (none)) else (lw_long.l2 k x3 0 x102000 x102001 x102002)
def lw_long.l2 : Nat → Int → Int → List (List (S27)) → List (List Int) → List (List Int) → Option (Bool)
 | 0, _, _, _, _, _ => none
 | k + 1, x3, x6, x102000, x102001, x102002 => if x6 < (x102002.length : Int) then (if 0 ≤ x6 then (lw_long.l2 k (wrap64 ((wrap64 (x3 + 1)) + ((rd_L3 x102002 x6).length : Int))) (wrap64 (x6 + 1)) x102000 x102001 x102002) else (none)) else (some (decide (x3 > 80)))
end
def lw_long.f (k : Nat) (l0_0 : List (List (S27))) (l0_1 : List (List Int)) (l0_2 : List (List Int)) : Option (Bool) := lw_long.l0 k 0 0 l0_0 l0_1 l0_2
theorem lw_long.mono_l : ∀ k, (∀ y0 y1 y2 y3 y4, LeO (lw_long.l0 k y0 y1 y2 y3 y4) (lw_long.l0 (k + 1) y0 y1 y2 y3 y4)) ∧ (∀ y0 y1 y2 y3 y4, LeO (lw_long.l1 k y0 y1 y2 y3 y4) (lw_long.l1 (k + 1) y0 y1 y2 y3 y4)) ∧ (∀ y0 y1 y2 y3 y4, LeO (lw_long.l2 k y0 y1 y2 y3 y4) (lw_long.l2 (k + 1) y0 y1 y2 y3 y4))
 | 0 => ⟨fun _ _ _ _ _ r h => by simp [lw_long.l0] at h, fun _ _ _ _ _ r h => by simp [lw_long.l1] at h, fun _ _ _ _ _ r h => by simp [lw_long.l2] at h⟩
 | k + 1 => by
  obtain ⟨ih0, ih1, ih2⟩ := lw_long.mono_l k
  refine ⟨?_, ?_, ?_⟩
  all_goals
   intros
   first | unfold lw_long.l0 | unfold lw_long.l1 | unfold lw_long.l2
   repeat' with_reducible first | exact ih0 _ _ _ _ _ | exact ih1 _ _ _ _ _ | exact ih2 _ _ _ _ _ | exact LeO.refl _ | exact LeO.none _ | refine LeO.ite ?_ ?_ | refine LeO.bind ?_ (fun _ => ?_)
theorem lw_long.mono : ∀ a0 a1 a2 k, LeO (lw_long.f k a0 a1 a2) (lw_long.f (k + 1) a0 a1 a2) := by
 intro a0 a1 a2 k
 obtain ⟨ih0, ih1, ih2⟩ := lw_long.mono_l k
 unfold lw_long.f
 repeat' first
   | (with_reducible exact ih0 _ _ _ _ _)
   | (with_reducible exact ih1 _ _ _ _ _)
   | (with_reducible exact ih2 _ _ _ _ _)
   | (with_reducible exact LeO.refl _)
   | (with_reducible exact LeO.none _)
   | (with_reducible refine LeO.ite ?_ ?_)
   | (with_reducible refine LeO.bind ?_ (fun _ => ?_))
   | exact ih0 _ _ _ _ _
   | exact ih1 _ _ _ _ _
   | exact ih2 _ _ _ _ _
   | exact LeO.none _
   | refine LeO.ite ?_ ?_
   | refine LeO.bind ?_ (fun _ => ?_)
set_option maxHeartbeats 8000000 in
set_option maxRecDepth 100000 in
theorem lw_long.calls (k : Nat) (A0_0 : Option Addr) (c0_0 : Nat) (l0_0 : List (List (S27))) (A0_1 : Option Addr) (c0_1 : Nat) (l0_1 : List (List Int)) (A0_2 : Option Addr) (c0_2 : Nat) (l0_2 : List (List Int)) (r : Bool) (w : World) (hr0_0 : Kd.C (Kd.slice 27 k27) w A0_0 l0_0.length l0_0) (hc0_0 : l0_0.length ≤ c0_0) (hr0_1 : Kd.C (Kd.slice 3 (Kd.int .i64)) w A0_1 l0_1.length l0_1) (hc0_1 : l0_1.length ≤ c0_1) (hr0_2 : Kd.C (Kd.slice 3 (Kd.int .i64)) w A0_2 l0_2.length l0_2) (hc0_2 : l0_2.length ≤ c0_2) (h : lw_long.f k l0_0 l0_1 l0_2 = some r) :
  Calls Try.prog 7 #[.agg #[.slice A0_0 l0_0.length c0_0, .slice A0_1 l0_1.length c0_1, .slice A0_2 l0_2.length c0_2]] w fun e w' => e = .returned (.bool r) ∧ Below w.heap.size w w' := by
 have hu25 := Try.underlying25
 have HR0_0 := AM hr0_0
 have HC0_0 := AM hc0_0
 clear hr0_0 hc0_0
 have HR0_1 := AM hr0_1
 have HC0_1 := AM hc0_1
 clear hr0_1 hc0_1
 have HR0_2 := AM hr0_2
 have HC0_2 := AM hc0_2
 clear hr0_2 hc0_2
 have HB := AM (Below.refl w.heap.size w)
 have H : (lw_long.l0 k 0 0 l0_0 l0_1 l0_2) = some r := h
 clear h
 have H' := AM H
 clear H
 go_enter Try.func7, Try.ntmps7
 go_wp2_with (first | ((with_reducible refine gate_dst (N := 1) rfl ?_); refine bE 1 #[.slice A0_0 l0_0.length c0_0, .slice A0_1 l0_1.length c0_1, .slice A0_2 l0_2.length c0_2] 25 ?_; intro gb101 hg w2 hbox hb; have BK101 := AM hbox; have GW101 := kG HB hg; replace HB := kH HB hb; have GE101 := GW101; clear hb hbox hg))
 go_loopg [3, 4] k (fun kq v3 v4 w' => ∃ (x3_1 : Int) (x4_1 : Int), v3 = .int .i64 x3_1 ∧ v4 = .int .i64 x4_1 ∧ Aside0 (lw_long.l0 kq x3_1 x4_1 l0_0 l0_1 l0_2 = some r) ∧ Aside0 (kq ≤ k) ∧ Aside0 (w'.heap[gb101]? = some (.cells #[(.slice A0_0 l0_0.length c0_0), (.slice A0_1 l0_1.length c0_1), (.slice A0_2 l0_2.length c0_2)] 25 (0, 0))) ∧ Aside0 (Below w.heap.size w w'))
 case atStart => exact ⟨(0), (0), rS, rS, H', ⟨Nat.le_refl _⟩, ⟨bK BK101⟩, ⟨ bH HB⟩⟩
 case round =>
  clear H'
  (try clear p2)
  obtain ⟨x3_1, x4_1, rfl, rfl, HA, HK1, BK101, HB⟩ := hrel
  cases gk with
  | zero => exact absurd HA.out (by simp [lw_long.l0])
  | succ k1 =>
   have H := HA.out; clear HA
   simp only [lw_long.l0] at H
   by_cases c3 : x4_1 < (l0_0.length : Int)
   ·rw [if_pos c3] at H
    have c3b0 := decide_eq_true c3; clear c3
    by_cases c4 : 0 ≤ x4_1
    ·rw [if_pos c4] at H
     have c4b0 := decide_eq_true c4; clear c4
     have H' := AM H
     clear H; obtain ⟨hcz5_0, hcz5_1, hcz5_2, hfz5_0, hfz5_1, hfz5_2⟩ := c3 BK101
     have p102 : 0 ≤ (x4_1 : Int) := pD
     have q102 : x4_1 < (l0_0.length : Int) := pD
     obtain ⟨ad102, A102_0, c102_0, e102, hx102_0, hl102_0, hi102_0⟩ := at_L2 HR0_0.out x4_1 p102 q102
     cases e102
     replace hx102_0 := hW HB hx102_0
     have HR102_0 := AM hi102_0
     have HC102_0 := AM hl102_0
     clear hi102_0 hl102_0; replace p102 := eq_true p102; replace q102 := eq_true q102
     go_wp2
     go_roundg k1
     case measure => have := HK1.out; omega
     case rel => exact ⟨(wrap64 ((wrap64 (x3_1 + 1)) + ((rd_L2 l0_0 x4_1).length : Int))), (wrap64 (x4_1 + 1)), rS, rS, H', ⟨by have := HK1.out; omega⟩, ⟨bK BK101⟩, ⟨ bH HB⟩⟩
    ·rw [if_neg c4] at H
     exact absurd H (by simp)
   ·rw [if_neg c3] at H
    have c3b0 := decide_eq_false c3; clear c3
    have H' := AM H
    clear H; obtain ⟨hcz6_0, hcz6_1, hcz6_2, hfz6_0, hfz6_1, hfz6_2⟩ := c3 BK101
    go_wp2
    go_loopg [3, 5] k1 (fun kq v3 v5 w' => ∃ (x3_2 : Int) (x5_2 : Int), v3 = .int .i64 x3_2 ∧ v5 = .int .i64 x5_2 ∧ Aside0 (lw_long.l1 kq x3_2 x5_2 l0_0 l0_1 l0_2 = some r) ∧ Aside0 (kq ≤ k1) ∧ Aside0 (w'.heap[gb101]? = some (.cells #[(.slice A0_0 l0_0.length c0_0), (.slice A0_1 l0_1.length c0_1), (.slice A0_2 l0_2.length c0_2)] 25 (0, 0))) ∧ Aside0 (Below w.heap.size w w'))
    case atStart => exact ⟨(x3_1), (0), rS, rS, H', ⟨Nat.le_refl _⟩, ⟨bK BK101⟩, ⟨ bH HB⟩⟩
    case round =>
     clear H'
     (try clear c1); (try clear p1); (try clear q1); (try clear hx1); (try clear p2); (try clear c3); (try clear c3b0); (try clear c4); (try clear c4b0); (try clear p6); (try clear hcz5_0); (try clear hcz5_1); (try clear hcz5_2); (try clear hcz6_0); (try clear hcz6_1); (try clear hcz6_2); (try clear hfz5_0); (try clear hfz5_1); (try clear hfz5_2); (try clear hfz6_0); (try clear hfz6_1); (try clear hfz6_2); (try clear hx102_0); (try clear p102); (try clear p2); (try clear q102)
     obtain ⟨x3_2, x5_2, rfl, rfl, HA, HK2, BK101, HB⟩ := hrel
     cases gk with
     | zero => exact absurd HA.out (by simp [lw_long.l1])
     | succ k2 =>
      have H := HA.out; clear HA
      simp only [lw_long.l1] at H
      by_cases c7 : x5_2 < (l0_1.length : Int)
      ·rw [if_pos c7] at H
       have c7b0 := decide_eq_true c7; clear c7
       by_cases c8 : 0 ≤ x5_2
       ·rw [if_pos c8] at H
        have c8b0 := decide_eq_true c8; clear c8
        have H' := AM H
        clear H; obtain ⟨hcz9_0, hcz9_1, hcz9_2, hfz9_0, hfz9_1, hfz9_2⟩ := c3 BK101
        have p103 : 0 ≤ (x5_2 : Int) := pD
        have q103 : x5_2 < (l0_1.length : Int) := pD
        obtain ⟨ad103, A103_0, c103_0, e103, hx103_0, hl103_0, hi103_0⟩ := at_L3 HR0_1.out x5_2 p103 q103
        cases e103
        replace hx103_0 := hW HB hx103_0
        have HR103_0 := AM hi103_0
        have HC103_0 := AM hl103_0
        clear hi103_0 hl103_0; replace p103 := eq_true p103; replace q103 := eq_true q103
        go_wp2
        go_roundg k2
        case measure => have := HK1.out; have := HK2.out; omega
        case rel => exact ⟨(wrap64 ((wrap64 (x3_2 + 1)) + ((rd_L3 l0_1 x5_2).length : Int))), (wrap64 (x5_2 + 1)), rS, rS, H', ⟨by have := HK1.out; have := HK2.out; omega⟩, ⟨bK BK101⟩, ⟨ bH HB⟩⟩
       ·rw [if_neg c8] at H
        exact absurd H (by simp)
      ·rw [if_neg c7] at H
       have c7b0 := decide_eq_false c7; clear c7
       have H' := AM H
       clear H; obtain ⟨hcz10_0, hcz10_1, hcz10_2, hfz10_0, hfz10_1, hfz10_2⟩ := c3 BK101
       go_wp2
       go_loopg [3, 6] k2 (fun kq v3 v6 w' => ∃ (x3_3 : Int) (x6_3 : Int), v3 = .int .i64 x3_3 ∧ v6 = .int .i64 x6_3 ∧ Aside0 (lw_long.l2 kq x3_3 x6_3 l0_0 l0_1 l0_2 = some r) ∧ Aside0 (kq ≤ k2) ∧ Aside0 (w'.heap[gb101]? = some (.cells #[(.slice A0_0 l0_0.length c0_0), (.slice A0_1 l0_1.length c0_1), (.slice A0_2 l0_2.length c0_2)] 25 (0, 0))) ∧ Aside0 (Below w.heap.size w w'))
       case atStart => exact ⟨(x3_2), (0), rS, rS, H', ⟨Nat.le_refl _⟩, ⟨bK BK101⟩, ⟨ bH HB⟩⟩
       case round =>
        clear H'
        (try clear c1); (try clear p1); (try clear q1); (try clear hx1); (try clear p2); (try clear c3); (try clear c3b0); (try clear c4); (try clear c4b0); (try clear p6); (try clear c7); (try clear c7b0); (try clear c8); (try clear c8b0); (try clear c10); (try clear p10); (try clear q10); (try clear hx10); (try clear hcz10_0); (try clear hcz10_1); (try clear hcz10_2); (try clear hcz5_0); (try clear hcz5_1); (try clear hcz5_2); (try clear hcz6_0); (try clear hcz6_1); (try clear hcz6_2); (try clear hcz9_0); (try clear hcz9_1); (try clear hcz9_2); (try clear hfz10_0); (try clear hfz10_1); (try clear hfz10_2); (try clear hfz5_0); (try clear hfz5_1); (try clear hfz5_2); (try clear hfz6_0); (try clear hfz6_1); (try clear hfz6_2); (try clear hfz9_0); (try clear hfz9_1); (try clear hfz9_2); (try clear hx102_0); (try clear hx103_0); (try clear p1); (try clear p102); (try clear p103); (try clear p2); (try clear p6); (try clear q1); (try clear q102); (try clear q103)
        obtain ⟨x3_3, x6_3, rfl, rfl, HA, HK3, BK101, HB⟩ := hrel
        cases gk with
        | zero => exact absurd HA.out (by simp [lw_long.l2])
        | succ k3 =>
         have H := HA.out; clear HA
         simp only [lw_long.l2] at H
         by_cases c11 : x6_3 < (l0_2.length : Int)
         ·rw [if_pos c11] at H
          have c11b0 := decide_eq_true c11; clear c11
          by_cases c12 : 0 ≤ x6_3
          ·rw [if_pos c12] at H
           have c12b0 := decide_eq_true c12; clear c12
           have H' := AM H
           clear H; obtain ⟨hcz13_0, hcz13_1, hcz13_2, hfz13_0, hfz13_1, hfz13_2⟩ := c3 BK101
           have p104 : 0 ≤ (x6_3 : Int) := pD
           have q104 : x6_3 < (l0_2.length : Int) := pD
           obtain ⟨ad104, A104_0, c104_0, e104, hx104_0, hl104_0, hi104_0⟩ := at_L3 HR0_2.out x6_3 p104 q104
           cases e104
           replace hx104_0 := hW HB hx104_0
           have HR104_0 := AM hi104_0
           have HC104_0 := AM hl104_0
           clear hi104_0 hl104_0; replace p104 := eq_true p104; replace q104 := eq_true q104
           go_wp2
           go_roundg k3
           case measure => have := HK1.out; have := HK2.out; have := HK3.out; omega
           case rel => exact ⟨(wrap64 ((wrap64 (x3_3 + 1)) + ((rd_L3 l0_2 x6_3).length : Int))), (wrap64 (x6_3 + 1)), rS, rS, H', ⟨by have := HK1.out; have := HK2.out; have := HK3.out; omega⟩, ⟨bK BK101⟩, ⟨ bH HB⟩⟩
          ·rw [if_neg c12] at H
           exact absurd H (by simp)
         ·rw [if_neg c11] at H
          have c11b0 := decide_eq_false c11; clear c11
          obtain rfl := Option.some.inj H
          obtain ⟨hcz14_0, hcz14_1, hcz14_2, hfz14_0, hfz14_1, hfz14_2⟩ := c3 BK101
          go_wp2
          go_ret
          exact ⟨rE, bH HB⟩

theorem eqA27 (d : Nat) (w : World) (x0 y0 : Int) (x1 y1 : Int) (x2 y2 : Int) :
  (Op.equalIn (d + 2) 27 (.agg #[.int .i64 x0, .int .i64 x1, .int .i64 x2]) (.agg #[.int .i64 y0, .int .i64 y1, .int .i64 y2])).run Try.prog w = .ok (x0 == y0 && (x1 == y1 && (x2 == y2))) w := by
 refine eqA_of Try.underlying27 (by kernel_rfl) ?_
 refine eqf_cons (by rfl) (by go_simp; rfl) (by go_simp; rfl) (by go_simp) ?_
 refine eqf_cons (by rfl) (by go_simp; rfl) (by go_simp; rfl) (by go_simp) ?_
 exact eqf_last (by rfl) (by go_simp; rfl) (by go_simp; rfl) (by go_simp)

mutual
def rf16_Arc.j0 : Nat → Int → List (S27) → Int → List (List (S27)) → List (List Int) → List (List Int) → Option ((List (S27)) × Int)
 | 0, _, _, _, _, _, _ => none
 | k + 1, x1, x6, x7, x106000, x106001, x106002 => if x7 < 0 then (rf16_Arc.j1 k x1 x6 x7 true x106000 x106001 x106002) else (rf16_Arc.j1 k x1 x6 x7 (decide (x7 ≥ (x106000.length : Int))) x106000 x106001 x106002)
def rf16_Arc.j1 : Nat → Int → List (S27) → Int → Bool → List (List (S27)) → List (List Int) → List (List Int) → Option ((List (S27)) × Int)
 | 0, _, _, _, _, _, _, _ => none
 | k + 1, x1, x6, x7, x23, x106000, x106001, x106002 => if x23 = true then (some (([] : List (S27)), 2)) else (if 0 ≤ x7 then (if x7 < (x106000.length : Int) then (rf16_Arc.l0 k x1 x6 (rd_L2 x106000 x7) 0) else (none)) else (none))
def rf16_Arc.l0 : Nat → Int → List (S27) → List (S27) → Int → Option ((List (S27)) × Int)
 | 0, _, _, _, _ => none
 | k + 1, x1, x6, x8, x9 => if x9 < (x8.length : Int) then (if x1 < 0 then (if 0 ≤ (wrap64 ((wrap64 ((x8.length : Int) - 1)) - x9)) then (if (wrap64 ((wrap64 ((x8.length : Int) - 1)) - x9)) < (x8.length : Int) then (if x6.length < 5864062014805 then (rf16_Arc.l0 k x1 (x6 ++ [(⟨(rd_T27 x8 (wrap64 ((wrap64 ((x8.length : Int) - 1)) - x9))).f0, (rd_T27 x8 (wrap64 ((wrap64 ((x8.length : Int) - 1)) - x9))).f1, (rd_T27 x8 (wrap64 ((wrap64 ((x8.length : Int) - 1)) - x9))).f2⟩ : S27)]) x8 (wrap64 (x9 + 1))) else (none)) else (none)) else (none)) else (if 0 ≤ x9 then (if x6.length < 5864062014805 then (rf16_Arc.l0 k x1 (x6 ++ [(⟨(rd_T27 x8 x9).f0, (rd_T27 x8 x9).f1, (rd_T27 x8 x9).f2⟩ : S27)]) x8 (wrap64 (x9 + 1))) else (none)) else (none))) else (some (x6, 0))
end
def rf16_Arc.f (k : Nat) (l0_0 : List (List (S27))) (l0_1 : List (List Int)) (l0_2 : List (List Int)) (a1 : Int) : Option ((List (S27)) × Int) := if a1 < 0 then (rf16_Arc.j0 k a1 ([] : List (S27)) (wrap64 ((-1) - a1)) l0_0 l0_1 l0_2) else (rf16_Arc.j0 k a1 ([] : List (S27)) a1 l0_0 l0_1 l0_2)
theorem rf16_Arc.mono_l : ∀ k, (∀ y0 y1 y2 y3 y4 y5, LeO (rf16_Arc.j0 k y0 y1 y2 y3 y4 y5) (rf16_Arc.j0 (k + 1) y0 y1 y2 y3 y4 y5)) ∧ (∀ y0 y1 y2 y3 y4 y5 y6, LeO (rf16_Arc.j1 k y0 y1 y2 y3 y4 y5 y6) (rf16_Arc.j1 (k + 1) y0 y1 y2 y3 y4 y5 y6)) ∧ (∀ y0 y1 y2 y3, LeO (rf16_Arc.l0 k y0 y1 y2 y3) (rf16_Arc.l0 (k + 1) y0 y1 y2 y3))
 | 0 => ⟨fun _ _ _ _ _ _ r h => by simp [rf16_Arc.j0] at h, fun _ _ _ _ _ _ _ r h => by simp [rf16_Arc.j1] at h, fun _ _ _ _ r h => by simp [rf16_Arc.l0] at h⟩
 | k + 1 => by
  obtain ⟨ih0, ih1, ih2⟩ := rf16_Arc.mono_l k
  refine ⟨?_, ?_, ?_⟩
  all_goals
   intros
   first | unfold rf16_Arc.j0 | unfold rf16_Arc.j1 | unfold rf16_Arc.l0
   repeat' with_reducible first | exact ih0 _ _ _ _ _ _ | exact ih1 _ _ _ _ _ _ _ | exact ih2 _ _ _ _ | exact LeO.refl _ | exact LeO.none _ | refine LeO.ite ?_ ?_ | refine LeO.bind ?_ (fun _ => ?_)
theorem rf16_Arc.mono : ∀ a0 a1 a2 a3 k, LeO (rf16_Arc.f k a0 a1 a2 a3) (rf16_Arc.f (k + 1) a0 a1 a2 a3) := by
 intro a0 a1 a2 a3 k
 obtain ⟨ih0, ih1, ih2⟩ := rf16_Arc.mono_l k
 unfold rf16_Arc.f
 repeat' first
   | (with_reducible exact ih0 _ _ _ _ _ _)
   | (with_reducible exact ih1 _ _ _ _ _ _ _)
   | (with_reducible exact ih2 _ _ _ _)
   | (with_reducible exact LeO.refl _)
   | (with_reducible exact LeO.none _)
   | (with_reducible refine LeO.ite ?_ ?_)
   | (with_reducible refine LeO.bind ?_ (fun _ => ?_))
   | exact ih0 _ _ _ _ _ _
   | exact ih1 _ _ _ _ _ _ _
   | exact ih2 _ _ _ _
   | exact LeO.none _
   | refine LeO.ite ?_ ?_
   | refine LeO.bind ?_ (fun _ => ?_)
set_option maxHeartbeats 8000000 in
set_option maxRecDepth 100000 in
theorem rf16_Arc.calls (k : Nat) (A0_0 : Option Addr) (c0_0 : Nat) (l0_0 : List (List (S27))) (A0_1 : Option Addr) (c0_1 : Nat) (l0_1 : List (List Int)) (A0_2 : Option Addr) (c0_2 : Nat) (l0_2 : List (List Int)) (a1 : Int) (r1 : List (S27)) (r2 : Int) (w : World) (hr0_0 : Kd.C (Kd.slice 27 k27) w A0_0 l0_0.length l0_0) (hc0_0 : l0_0.length ≤ c0_0) (hr0_1 : Kd.C (Kd.slice 3 (Kd.int .i64)) w A0_1 l0_1.length l0_1) (hc0_1 : l0_1.length ≤ c0_1) (hr0_2 : Kd.C (Kd.slice 3 (Kd.int .i64)) w A0_2 l0_2.length l0_2) (hc0_2 : l0_2.length ≤ c0_2) (h : rf16_Arc.f k l0_0 l0_1 l0_2 a1 = some (r1, r2)) :
  Calls Try.prog 61 #[.agg #[.slice A0_0 l0_0.length c0_0, .slice A0_1 l0_1.length c0_1, .slice A0_2 l0_2.length c0_2], .int .i64 a1] w fun e w' => ∃ v0_ : Value, e = .returned (.tuple #[v0_, .int .i64 r2]) ∧ Kd.R k27 27 w' w.heap.size (fun _ => True) v0_ r1 ∧ Below w.heap.size w w' := by
 have hu25 := Try.underlying25
 have hu27 := Try.underlying27
 have HR0_0 := AM hr0_0
 have HC0_0 := AM hc0_0
 clear hr0_0 hc0_0
 have HR0_1 := AM hr0_1
 have HC0_1 := AM hc0_1
 clear hr0_1 hc0_1
 have HR0_2 := AM hr0_2
 have HC0_2 := AM hc0_2
 clear hr0_2 hc0_2
 have HB := AM (Below.refl w.heap.size w)
 have H : (if a1 < 0 then (rf16_Arc.j0 k a1 ([] : List (S27)) (wrap64 ((-1) - a1)) l0_0 l0_1 l0_2) else (rf16_Arc.j0 k a1 ([] : List (S27)) a1 l0_0 l0_1 l0_2)) = some (r1, r2) := h
 clear h
 have HC3 := AM H
 clear H
 go_enter Try.func61, Try.ntmps61
 go_upto_if 12 with (first | ((with_reducible refine gate_dst (N := 2) rfl ?_); (try (refine gate_guard (by rfl) ?_; dsimp only)); refine bE 2 #[.slice A0_0 l0_0.length c0_0, .slice A0_1 l0_1.length c0_1, .slice A0_2 l0_2.length c0_2] 25 ?_; intro gb105 hg w4 hbox hb; have BK105 := AM hbox; have GW105 := kG HB hg; replace HB := kH HB hb; have GE105 := GW105; clear hb hbox hg))
 (try simp only [Act.put, List.setIfInBounds_toArray, List.set_cons_zero, List.set_cons_succ])
 go_cut [7] (fun v7 wc => ∃ (kq : Nat) (x7_2 : Int), v7 = .int .i64 x7_2 ∧ Aside0 (rf16_Arc.j0 kq a1 ([] : List (S27)) x7_2 l0_0 l0_1 l0_2 = some (r1, r2)) ∧ Aside0 (kq ≤ k) ∧ Aside0 (Kd.R k27 27 wc w.heap.size (fun _ => True) (.slice none 0 0) ([] : List (S27))) ∧ Aside0 (wc.heap[gb105]? = some (.cells #[(.slice A0_0 l0_0.length c0_0), (.slice A0_1 l0_1.length c0_1), (.slice A0_2 l0_2.length c0_2)] 25 (0, 0))) ∧ Aside0 (Below w.heap.size w wc))
 case first =>
  have H := HC3.out; clear HC3
  by_cases c5 : a1 < 0
  ·rw [if_pos c5] at H
   have c5b0 := decide_eq_true c5; clear c5
   (first | rw [c5b0] | (simp only [i64_w, i32_w]; rw [c5b0]) | skip)
   have H' := AM H
   clear H
   go_wp2
   go_meet
   case rel => exact ⟨_, (wrap64 ((-1) - a1)), rS, H', ⟨by first | omega | exact Nat.le_refl _⟩, ⟨by first | exact Kd.R_nil _ _ _ _ _ | exact Kd.N_nil _ _ _ _ _ | exact Kd.V_nil _ _ _ _ _ | exact Kd.Q_nil _ _ _ _ _ | exact Kd.S_nil _ _ _ _ _⟩, ⟨bK BK105⟩, ⟨ bH HB⟩⟩
  ·rw [if_neg c5] at H
   have c5b0 := decide_eq_false c5; clear c5
   (first | rw [c5b0] | (simp only [i64_w, i32_w]; rw [c5b0]) | skip)
   have H' := AM H
   clear H
   go_wp2
   go_meet
   case rel => exact ⟨_, (a1), rS, H', ⟨by first | omega | exact Nat.le_refl _⟩, ⟨by first | exact Kd.R_nil _ _ _ _ _ | exact Kd.N_nil _ _ _ _ _ | exact Kd.V_nil _ _ _ _ _ | exact Kd.Q_nil _ _ _ _ _ | exact Kd.S_nil _ _ _ _ _⟩, ⟨bK BK105⟩, ⟨ bH HB⟩⟩
 case rest =>
  clear HC3; (try clear p2); (try clear c5); (try clear c5b0)
  obtain ⟨kq, x7_2, rfl, HA, HJ2, HO_6, BK105, HB⟩ := hcut
  cases kq with
  | zero => exact absurd HA.out (by simp [rf16_Arc.j0])
  | succ kj2 =>
   have H := HA.out; clear HA
   simp only [rf16_Arc.j0] at H
   have HC6 := AM H
   clear H
   go_upto_region 5 with (fail)
   go_cut [23] (fun v23 wc => ∃ (kq : Nat) (x23_5 : Bool), v23 = .bool x23_5 ∧ Aside0 (rf16_Arc.j1 kq a1 ([] : List (S27)) x7_2 x23_5 l0_0 l0_1 l0_2 = some (r1, r2)) ∧ Aside0 (kq ≤ kj2) ∧ Aside0 (Kd.R k27 27 wc w.heap.size (fun _ => True) (.slice none 0 0) ([] : List (S27))) ∧ Aside0 (wc.heap[gb105]? = some (.cells #[(.slice A0_0 l0_0.length c0_0), (.slice A0_1 l0_1.length c0_1), (.slice A0_2 l0_2.length c0_2)] 25 (0, 0))) ∧ Aside0 (Below w.heap.size w wc))
   case first =>
    have H := HC6.out; clear HC6
    by_cases c7 : x7_2 < 0
    ·rw [if_pos c7] at H
     have c7b0 := decide_eq_true c7; clear c7
     (first | rw [c7b0] | (simp only [i64_w, i32_w]; rw [c7b0]) | skip)
     have H' := AM H
     clear H
     go_wp2
     go_meet
     case rel => exact ⟨_, (true), rS, H', ⟨by have := HJ2.out; first | omega | exact Nat.le_refl _⟩, ⟨rK HO_6⟩, ⟨bK BK105⟩, ⟨ bH HB⟩⟩
    ·rw [if_neg c7] at H
     have c7b0 := decide_eq_false c7; clear c7
     (first | rw [c7b0] | (simp only [i64_w, i32_w]; rw [c7b0]) | skip)
     have H' := AM H
     clear H; obtain ⟨hcz8_0, hcz8_1, hcz8_2, hfz8_0, hfz8_1, hfz8_2⟩ := c3 BK105
     go_wp2
     go_meet
     case rel => exact ⟨_, (decide (x7_2 ≥ (l0_0.length : Int))), rS, H', ⟨by have := HJ2.out; first | omega | exact Nat.le_refl _⟩, ⟨rK HO_6⟩, ⟨bK BK105⟩, ⟨ bH HB⟩⟩
   case rest =>
    clear HC6; (try clear p2); (try clear c5); (try clear c5b0); (try clear c6); (try clear p6); (try clear c7); (try clear c7b0); (try clear hcz8_0); (try clear hcz8_1); (try clear hcz8_2); (try clear hfz8_0); (try clear hfz8_1); (try clear hfz8_2); (try clear p2)
    obtain ⟨kq, x23_5, rfl, HA, HJ5, HO_6, BK105, HB⟩ := hcut
    cases kq with
    | zero => exact absurd HA.out (by simp [rf16_Arc.j1])
    | succ kj5 =>
     have H := HA.out; clear HA
     simp only [rf16_Arc.j1] at H
     by_cases c9 : x23_5 = true
     ·subst c9
      have H1 : (some (([] : List (S27)), 2)) = some (r1, r2) := by rw [if_pos rfl] at H; exact H
      clear H; have H := H1; clear H1
      simp only [Option.some.injEq, Prod.mk.injEq] at H
      obtain ⟨rfl, rfl⟩ := H
      go_wp2
      go_ret2
      exact ⟨_, rE, by first | exact Kd.R_nil _ _ _ _ _ | exact Kd.N_nil _ _ _ _ _ | exact Kd.V_nil _ _ _ _ _ | exact Kd.Q_nil _ _ _ _ _ | exact Kd.S_nil _ _ _ _ _, bH HB⟩
     ·replace c9 := Bool.eq_false_iff.mpr c9
      subst c9
      have H1 : (if 0 ≤ x7_2 then (if x7_2 < (l0_0.length : Int) then (rf16_Arc.l0 kj5 a1 ([] : List (S27)) (rd_L2 l0_0 x7_2) 0) else (none)) else (none)) = some (r1, r2) := by rw [if_neg (show ¬ (false = true) by decide)] at H; exact H
      clear H; have H := H1; clear H1
      by_cases c10 : 0 ≤ x7_2
      ·rw [if_pos c10] at H
       have c10b0 := decide_eq_true c10; clear c10
       by_cases c11 : x7_2 < (l0_0.length : Int)
       ·rw [if_pos c11] at H
        have c11b0 := decide_eq_true c11; clear c11
        have H' := AM H
        clear H; obtain ⟨hcz12_0, hcz12_1, hcz12_2, hfz12_0, hfz12_1, hfz12_2⟩ := c3 BK105
        have p106 : 0 ≤ (x7_2 : Int) := pD
        have q106 : x7_2 < (l0_0.length : Int) := pD
        obtain ⟨ad106, A106_0, c106_0, e106, hx106_0, hl106_0, hi106_0⟩ := at_L2 HR0_0.out x7_2 p106 q106
        cases e106
        replace hx106_0 := hW HB hx106_0
        have HR106_0 := AM hi106_0
        have HC106_0 := AM hl106_0
        clear hi106_0 hl106_0; replace p106 := eq_true p106; replace q106 := eq_true q106
        go_wp2
        go_loopg [6, 9] kj5 (fun kq v6 v9 w' => ∃ (x6_3 : List (S27)) (x9_3 : Int), v9 = .int .i64 x9_3 ∧ Aside0 (rf16_Arc.l0 kq a1 x6_3 (rd_L2 l0_0 x7_2) x9_3 = some (r1, r2)) ∧ Aside0 (kq ≤ kj5) ∧ Aside0 (Kd.R k27 27 w' w.heap.size (fun _ => True) v6 x6_3) ∧ Aside0 (w'.heap[gb105]? = some (.cells #[(.slice (some ad106) l0_0.length c0_0), (.slice A0_1 l0_1.length c0_1), (.slice A0_2 l0_2.length c0_2)] 25 (0, 0))) ∧ Aside0 (Below w.heap.size w w'))
        case atStart => exact ⟨(([] : List (S27))), (0), rS, H', ⟨Nat.le_refl _⟩, ⟨rK HO_6⟩, ⟨bK BK105⟩, ⟨ bH HB⟩⟩
        case round =>
         clear H'
         (try clear c1); (try clear p1); (try clear q1); (try clear hx1); (try clear p2); (try clear c5); (try clear c5b0); (try clear c6); (try clear p6); (try clear c7); (try clear c7b0); (try clear c9); (try clear c10); (try clear c10b0); (try clear p10); (try clear q10); (try clear hx10); (try clear c11); (try clear c11b0); (try clear hcz12_0); (try clear hcz12_1); (try clear hcz12_2); (try clear hcz8_0); (try clear hcz8_1); (try clear hcz8_2); (try clear hfz12_0); (try clear hfz12_1); (try clear hfz12_2); (try clear hfz8_0); (try clear hfz8_1); (try clear hfz8_2); (try clear hx106_0); (try clear p106); (try clear p2); (try clear p6); (try clear q106)
         obtain ⟨x6_3, x9_3, rfl, HA, HK3, HO_6, BK105, HB⟩ := hrel
         cases gk with
         | zero => exact absurd HA.out (by simp [rf16_Arc.l0])
         | succ k3 =>
          have H := HA.out; clear HA
          simp only [rf16_Arc.l0] at H
          by_cases c13 : x9_3 < ((rd_L2 l0_0 x7_2).length : Int)
          ·rw [if_pos c13] at H
           have c13b0 := decide_eq_true c13; clear c13
           by_cases c14 : a1 < 0
           ·rw [if_pos c14] at H
            have c14b0 := decide_eq_true c14; clear c14
            obtain ⟨ji15, hji15⟩ : ∃ j_ : Int, (wrap64 ((wrap64 (((rd_L2 l0_0 x7_2).length : Int) - 1)) - x9_3)) = j_ := ⟨_, rfl⟩
            replace H : (if 0 ≤ (ji15) then (if (ji15) < ((rd_L2 l0_0 x7_2).length : Int) then (if x6_3.length < 5864062014805 then (rf16_Arc.l0 k3 a1 (x6_3 ++ [(⟨(rd_T27 (rd_L2 l0_0 x7_2) (ji15)).f0, (rd_T27 (rd_L2 l0_0 x7_2) (ji15)).f1, (rd_T27 (rd_L2 l0_0 x7_2) (ji15)).f2⟩ : S27)]) (rd_L2 l0_0 x7_2) (wrap64 (x9_3 + 1))) else (none)) else (none)) else (none)) = some (r1, r2) := by first | (rw [hji15] at H; exact H) | (simp only [hji15] at H ⊢; exact H)
            have hji15w : (IntKind.i64.wrap ((wrap64 (((rd_L2 l0_0 x7_2).length : Int) - 1)) - x9_3)) = ji15 := (i64_w _).trans hji15
            by_cases c16 : 0 ≤ (ji15)
            ·rw [if_pos c16] at H
             have c16b0 := decide_eq_true c16; clear c16
             by_cases c17 : (ji15) < ((rd_L2 l0_0 x7_2).length : Int)
             ·rw [if_pos c17] at H
              have c17b0 := decide_eq_true c17; clear c17
              by_cases c18 : x6_3.length < 5864062014805
              ·rw [if_pos c18] at H
               have LMc18 := AM c18
               clear c18
               obtain ⟨y108, hy108⟩ : ∃ y_ : List (S27), y_ = (x6_3 ++ [(⟨(rd_T27 (rd_L2 l0_0 x7_2) (ji15)).f0, (rd_T27 (rd_L2 l0_0 x7_2) (ji15)).f1, (rd_T27 (rd_L2 l0_0 x7_2) (ji15)).f2⟩ : S27)]) := ⟨_, rfl⟩
               replace H : (rf16_Arc.l0 k3 a1 y108 (rd_L2 l0_0 x7_2) (wrap64 (x9_3 + 1))) = some (r1, r2) := by first | (rw [hy108]; with_reducible exact H) | (have H2_ := (Option.bind_some _ _).symm.trans H; rw [hy108]; with_reducible exact H2_) | (have H2_ := (Option.bind_some _ _).symm.trans H; with_reducible exact H2_) | with_reducible exact H | (rw [hy108]; exact H) | exact H
               have Ny108 := AM hy108
               clear hy108
               have H' := AM H
               clear H
               have p107 : 0 ≤ ((ji15) : Int) := pD
               have q107 : (ji15) < ((rd_L2 l0_0 x7_2).length : Int) := pD
               obtain ⟨ad107, e107, hx107_0, hx107_1, hx107_2⟩ := at_T27 HR106_0.out (ji15) p107 q107
               cases e107
               replace hx107_0 := hW HB hx107_0; replace hx107_1 := hW HB hx107_1; replace hx107_2 := hW HB hx107_2; replace p107 := eq_true p107; replace q107 := eq_true q107
               go_wp2_with (first | ((with_reducible refine gate_builtin (b := .append) (xs := #[.tmp 37, .tmp 46]) rfl ?_); (try (refine gate_guard (by rfl) ?_; dsimp only)); at_builtin; refine Kd.R_append k27 (w0 := w) w.heap.size rfl (.tmp 37) (.tmp 46) 31 27 (.agg #[(.int .i64 0), (.int .i64 0), (.int .i64 0)]) 24 rfl Try.underlying31 info27 rfl (by decide) (by omega) u6 x6_3 (⟨(rd_T27 (rd_L2 l0_0 x7_2) (ji15)).f0, (rd_T27 (rd_L2 l0_0 x7_2) (ji15)).f1, (rd_T27 (rd_L2 l0_0 x7_2) (ji15)).f2⟩ : S27) [.int .i64 ((rd_T27 (rd_L2 l0_0 x7_2) (ji15)).f0), .int .i64 ((rd_T27 (rd_L2 l0_0 x7_2) (ji15)).f1), .int .i64 ((rd_T27 (rd_L2 l0_0 x7_2) (ji15)).f2)] (fun _ => True) (fun _ => False) rfl rfl ?aP (fun _ hk => hk.elim) ?aF ?aO ?aB ?aS ?aL ?_; (case aP => exact k27_mkM _ _ _ (⟨(rd_T27 (rd_L2 l0_0 x7_2) (ji15)).f0, (rd_T27 (rd_L2 l0_0 x7_2) (ji15)).f1, (rd_T27 (rd_L2 l0_0 x7_2) (ji15)).f2⟩ : S27)); (case aB => exact (bH HB)); (case aF => exact (fun _ _ => trivial)); (case aO => exact (rK HO_6)); (case aS => exact (below_size (bH HB))); (case aL => have := LMc18.out; omega); intro v109 w19 ho hb hg hat; rw [← Ny108.out] at ho; replace BK105 := AM (blk_grown (g := gb105) (o := .cells #[.slice (some ad106) l0_0.length c0_0, .slice A0_1 l0_1.length c0_1, .slice A0_2 l0_2.length c0_2] 25 (0, 0)) (bK BK105) hg (Kd.R_ne HO_6.out BK105.out (by decide))); replace HB := AM hb; have HO110 := AM ho; clear HO_6; clear ho hb hg hat))
               go_roundg k3
               case measure => have := HJ2.out; have := HJ5.out; have := HK3.out; omega
               case rel => exact ⟨(y108), (wrap64 (x9_3 + 1)), rS, H', ⟨by have := HJ2.out; have := HJ5.out; have := HK3.out; omega⟩, ⟨rK HO110⟩, ⟨bK BK105⟩, ⟨ bH HB⟩⟩
              ·rw [if_neg c18] at H
               exact absurd H (by simp)
             ·rw [if_neg c17] at H
              exact absurd H (by simp)
            ·rw [if_neg c16] at H
             exact absurd H (by simp)
           ·rw [if_neg c14] at H
            have c14b0 := decide_eq_false c14; clear c14
            by_cases c20 : 0 ≤ x9_3
            ·rw [if_pos c20] at H
             have c20b0 := decide_eq_true c20; clear c20
             by_cases c21 : x6_3.length < 5864062014805
             ·rw [if_pos c21] at H
              have LMc21 := AM c21
              clear c21
              obtain ⟨y112, hy112⟩ : ∃ y_ : List (S27), y_ = (x6_3 ++ [(⟨(rd_T27 (rd_L2 l0_0 x7_2) x9_3).f0, (rd_T27 (rd_L2 l0_0 x7_2) x9_3).f1, (rd_T27 (rd_L2 l0_0 x7_2) x9_3).f2⟩ : S27)]) := ⟨_, rfl⟩
              replace H : (rf16_Arc.l0 k3 a1 y112 (rd_L2 l0_0 x7_2) (wrap64 (x9_3 + 1))) = some (r1, r2) := by first | (rw [hy112]; with_reducible exact H) | (have H2_ := (Option.bind_some _ _).symm.trans H; rw [hy112]; with_reducible exact H2_) | (have H2_ := (Option.bind_some _ _).symm.trans H; with_reducible exact H2_) | with_reducible exact H | (rw [hy112]; exact H) | exact H
              have Ny112 := AM hy112
              clear hy112
              have H' := AM H
              clear H
              have p111 : 0 ≤ (x9_3 : Int) := pD
              have q111 : x9_3 < ((rd_L2 l0_0 x7_2).length : Int) := pD
              obtain ⟨ad111, e111, hx111_0, hx111_1, hx111_2⟩ := at_T27 HR106_0.out x9_3 p111 q111
              cases e111
              replace hx111_0 := hW HB hx111_0; replace hx111_1 := hW HB hx111_1; replace hx111_2 := hW HB hx111_2; replace p111 := eq_true p111; replace q111 := eq_true q111
              go_wp2_with (first | ((with_reducible refine gate_builtin (b := .append) (xs := #[.tmp 48, .tmp 53]) rfl ?_); (try (refine gate_guard (by rfl) ?_; dsimp only)); at_builtin; refine Kd.R_append k27 (w0 := w) w.heap.size rfl (.tmp 48) (.tmp 53) 31 27 (.agg #[(.int .i64 0), (.int .i64 0), (.int .i64 0)]) 24 rfl Try.underlying31 info27 rfl (by decide) (by omega) u6 x6_3 (⟨(rd_T27 (rd_L2 l0_0 x7_2) x9_3).f0, (rd_T27 (rd_L2 l0_0 x7_2) x9_3).f1, (rd_T27 (rd_L2 l0_0 x7_2) x9_3).f2⟩ : S27) [.int .i64 ((rd_T27 (rd_L2 l0_0 x7_2) x9_3).f0), .int .i64 ((rd_T27 (rd_L2 l0_0 x7_2) x9_3).f1), .int .i64 ((rd_T27 (rd_L2 l0_0 x7_2) x9_3).f2)] (fun _ => True) (fun _ => False) rfl rfl ?aP (fun _ hk => hk.elim) ?aF ?aO ?aB ?aS ?aL ?_; (case aP => exact k27_mkM _ _ _ (⟨(rd_T27 (rd_L2 l0_0 x7_2) x9_3).f0, (rd_T27 (rd_L2 l0_0 x7_2) x9_3).f1, (rd_T27 (rd_L2 l0_0 x7_2) x9_3).f2⟩ : S27)); (case aB => exact (bH HB)); (case aF => exact (fun _ _ => trivial)); (case aO => exact (rK HO_6)); (case aS => exact (below_size (bH HB))); (case aL => have := LMc21.out; omega); intro v113 w22 ho hb hg hat; rw [← Ny112.out] at ho; replace BK105 := AM (blk_grown (g := gb105) (o := .cells #[.slice (some ad106) l0_0.length c0_0, .slice A0_1 l0_1.length c0_1, .slice A0_2 l0_2.length c0_2] 25 (0, 0)) (bK BK105) hg (Kd.R_ne HO_6.out BK105.out (by decide))); replace HB := AM hb; have HO114 := AM ho; clear HO_6; clear ho hb hg hat))
              go_roundg k3
              case measure => have := HJ2.out; have := HJ5.out; have := HK3.out; omega
              case rel => exact ⟨(y112), (wrap64 (x9_3 + 1)), rS, H', ⟨by have := HJ2.out; have := HJ5.out; have := HK3.out; omega⟩, ⟨rK HO114⟩, ⟨bK BK105⟩, ⟨ bH HB⟩⟩
             ·rw [if_neg c21] at H
              exact absurd H (by simp)
            ·rw [if_neg c20] at H
             exact absurd H (by simp)
          ·rw [if_neg c13] at H
           have c13b0 := decide_eq_false c13; clear c13
           simp only [Option.some.injEq, Prod.mk.injEq] at H
           obtain ⟨rfl, rfl⟩ := H
           go_wp2
           go_ret2
           exact ⟨_, rE, rK HO_6, bH HB⟩
       ·rw [if_neg c11] at H
        exact absurd H (by simp)
      ·rw [if_neg c10] at H
       exact absurd H (by simp)
end Go.Proofs.Ytbonkedecfjmdaa.P
