/- Written for this claim by a program of this session (a turned copy of the print): Go functions as Lean functions, and that the Go code comes to just these answers; or a statement proved out of them. No condition. -/
import Derived.Test.YtbonkedecfjmdaaZ2
import Derived.Test.YtbonkedecfjmdaaZ10

namespace Go.Proofs.Ytbonkedecfjmdaa.P
open Go.RowKit Go.Proofs.YtbonkedecfjmdaaW.PrintWords Go.Proofs.YtbonkedecfjmdaaW.PrintLast Go.Proofs.YtbonkedecfjmdaaW.PrintMore Go.Proofs.Ytbonkedecfjmdaa.X
attribute [local go_sem] max2_int min2_int max_two min_two max_three min_three max_four min_four add64_0 add64_1 add64
set_option linter.unusedVariables false
set_option linter.unusedSimpArgs false
mutual
def rf17_Fills.l0 : Nat → Int → List (List (S27)) → List (List Int) → List (List Int) → Option (Bool)
 | 0, _, _, _, _ => none
 | k + 1, x3, x316000, x316001, x316002 => if x3 < (x316001.length : Int) then (rf17_Fills.l1 k x3 0 0 x316000 x316001 x316002) else (rf17_Fills.l3 k 0 x316000 x316001 x316002)
def rf17_Fills.l1 : Nat → Int → Int → Int → List (List (S27)) → List (List Int) → List (List Int) → Option (Bool)
 | 0, _, _, _, _, _, _ => none
 | k + 1, x3, x4, x5, x316000, x316001, x316002 => if x5 < (x316002.length : Int) then (rf17_Fills.l2 k x3 x4 x5 0 x316000 x316001 x316002) else (if x4 = 1 then (rf17_Fills.l0 k (wrap64 (x3 + 1)) x316000 x316001 x316002) else (some false))
def rf17_Fills.l2 : Nat → Int → Int → Int → Int → List (List (S27)) → List (List Int) → List (List Int) → Option (Bool)
 | 0, _, _, _, _, _, _, _ => none
 | k + 1, x3, x4, x5, x6, x316000, x316001, x316002 => if 0 ≤ x5 then (if x5 < (x316002.length : Int) then (if x6 < ((rd_L3 x316002 x5).length : Int) then (if 0 ≤ x6 then (if (rd (rd_L3 x316002 x5) x6) = x3 then (rf17_Fills.l2 k x3 (wrap64 (x4 + 1)) x5 (wrap64 (x6 + 1)) x316000 x316001 x316002) else (rf17_Fills.l2 k x3 x4 x5 (wrap64 (x6 + 1)) x316000 x316001 x316002)) else (none)) else (rf17_Fills.l1 k x3 x4 (wrap64 (x5 + 1)) x316000 x316001 x316002)) else (none)) else (none)
def rf17_Fills.l3 : Nat → Int → List (List (S27)) → List (List Int) → List (List Int) → Option (Bool)
 | 0, _, _, _, _ => none
 | k + 1, x7, x316000, x316001, x316002 => if x7 < (x316002.length : Int) then (if 0 ≤ x7 then ((rf17_fills.f k x316000 x316001 x316002 (rd_L3 x316002 x7)).bind fun t320 => (if t320 = true then (rf17_Fills.l3 k (wrap64 (x7 + 1)) x316000 x316001 x316002) else (some false))) else (none)) else (some true)
end
def rf17_Fills.f (k : Nat) (l0_0 : List (List (S27))) (l0_1 : List (List Int)) (l0_2 : List (List Int)) : Option (Bool) := rf17_Fills.l0 k 0 l0_0 l0_1 l0_2
theorem rf17_Fills.mono_l : ∀ k, (∀ y0 y1 y2 y3, LeO (rf17_Fills.l0 k y0 y1 y2 y3) (rf17_Fills.l0 (k + 1) y0 y1 y2 y3)) ∧ (∀ y0 y1 y2 y3 y4 y5, LeO (rf17_Fills.l1 k y0 y1 y2 y3 y4 y5) (rf17_Fills.l1 (k + 1) y0 y1 y2 y3 y4 y5)) ∧ (∀ y0 y1 y2 y3 y4 y5 y6, LeO (rf17_Fills.l2 k y0 y1 y2 y3 y4 y5 y6) (rf17_Fills.l2 (k + 1) y0 y1 y2 y3 y4 y5 y6)) ∧ (∀ y0 y1 y2 y3, LeO (rf17_Fills.l3 k y0 y1 y2 y3) (rf17_Fills.l3 (k + 1) y0 y1 y2 y3))
 | 0 => ⟨fun _ _ _ _ r h => by simp [rf17_Fills.l0] at h, fun _ _ _ _ _ _ r h => by simp [rf17_Fills.l1] at h, fun _ _ _ _ _ _ _ r h => by simp [rf17_Fills.l2] at h, fun _ _ _ _ r h => by simp [rf17_Fills.l3] at h⟩
 | k + 1 => by
  obtain ⟨ih0, ih1, ih2, ih3⟩ := rf17_Fills.mono_l k
  refine ⟨?_, ?_, ?_, ?_⟩
  all_goals
   intros
   first | unfold rf17_Fills.l0 | unfold rf17_Fills.l1 | unfold rf17_Fills.l2 | unfold rf17_Fills.l3
   repeat' with_reducible first | exact ih0 _ _ _ _ | exact ih1 _ _ _ _ _ _ | exact ih2 _ _ _ _ _ _ _ | exact ih3 _ _ _ _ | exact rf17_fills.mono _ _ _ _ _ | exact LeO.refl _ | exact LeO.none _ | refine LeO.ite ?_ ?_ | refine LeO.bind ?_ (fun _ => ?_)
theorem rf17_Fills.mono : ∀ a0 a1 a2 k, LeO (rf17_Fills.f k a0 a1 a2) (rf17_Fills.f (k + 1) a0 a1 a2) := by
 intro a0 a1 a2 k
 obtain ⟨ih0, ih1, ih2, ih3⟩ := rf17_Fills.mono_l k
 unfold rf17_Fills.f
 repeat' first
   | (with_reducible exact ih0 _ _ _ _)
   | (with_reducible exact ih1 _ _ _ _ _ _)
   | (with_reducible exact ih2 _ _ _ _ _ _ _)
   | (with_reducible exact ih3 _ _ _ _)
   | (with_reducible exact rf17_fills.mono _ _ _ _ _)
   | (with_reducible exact LeO.refl _)
   | (with_reducible exact LeO.none _)
   | (with_reducible refine LeO.ite ?_ ?_)
   | (with_reducible refine LeO.bind ?_ (fun _ => ?_))
   | exact ih0 _ _ _ _
   | exact ih1 _ _ _ _ _ _
   | exact ih2 _ _ _ _ _ _ _
   | exact ih3 _ _ _ _
   | exact rf17_fills.mono _ _ _ _ _
   | exact LeO.none _
   | refine LeO.ite ?_ ?_
   | refine LeO.bind ?_ (fun _ => ?_)
def rf17_Fills.T18 : Bool × List (List Nat × List Nat) := (true, [([], []), ([], []), ([1], [1]), ([], []), ([2, 3], [2, 3]), ([4], [4]), ([0, 5], [0, 5]), ([6], [6])])
def rf17_Fills.B18 : List Nat := [0, 0, 2, 0, 14, 30, 63, 127]
theorem rf17_Fills.tab18 : rtab .any (opsOf Try.f16 18) = rf17_Fills.T18 := by kernel_rfl
theorem rf17_Fills.bits18 : waitsOk rf17_Fills.T18.2 rf17_Fills.B18 = true := by kernel_rfl
set_option maxHeartbeats 8000000 in
set_option maxRecDepth 100000 in
theorem rf17_Fills.calls (k : Nat) (A0_0 : Option Addr) (c0_0 : Nat) (l0_0 : List (List (S27))) (A0_1 : Option Addr) (c0_1 : Nat) (l0_1 : List (List Int)) (A0_2 : Option Addr) (c0_2 : Nat) (l0_2 : List (List Int)) (r : Bool) (w : World) (hr0_0 : Kd.C (Kd.slice 27 k27) w A0_0 l0_0.length l0_0) (hc0_0 : l0_0.length ≤ c0_0) (hr0_1 : Kd.C (Kd.slice 3 (Kd.int .i64)) w A0_1 l0_1.length l0_1) (hc0_1 : l0_1.length ≤ c0_1) (hr0_2 : Kd.C (Kd.slice 3 (Kd.int .i64)) w A0_2 l0_2.length l0_2) (hc0_2 : l0_2.length ≤ c0_2) (h : rf17_Fills.f k l0_0 l0_1 l0_2 = some r) :
  Calls Try.prog 16 #[.agg #[.slice A0_0 l0_0.length c0_0, .slice A0_1 l0_1.length c0_1, .slice A0_2 l0_2.length c0_2]] w fun e w' => e = .returned (.bool r) ∧ Below w.heap.size w w' := by
 have hu25 := Try.underlying25
 have HR0_0 := AM hr0_0
 have HC0_0 := AM hc0_0
 clear hr0_0 hc0_0
 have HR0_1 := AM hr0_1
 have HC0_1 := AM hc0_1
 clear hr0_1 hc0_1
 have HR0_2 := AM hr0_2
 have HC0_2 := AM hc0_2
 clear hr0_2 hc0_2
 have HB := AM (Below.refl w.heap.size w)
 have H : (rf17_Fills.l0 k 0 l0_0 l0_1 l0_2) = some r := h
 clear h
 have H' := AM H
 clear H
 go_enter Try.func16, Try.ntmps16
 go_wp2_with (first | ((with_reducible refine gate_dst (N := 1) rfl ?_); refine bE 1 #[.slice A0_0 l0_0.length c0_0, .slice A0_1 l0_1.length c0_1, .slice A0_2 l0_2.length c0_2] 25 ?_; intro gb315 hg w2 hbox hb; have BK315 := AM hbox; have GW315 := kG HB hg; replace HB := kH HB hb; have GE315 := GW315; clear hb hbox hg))
 go_loopg [3] k (fun kq v3 w' => ∃ (x3_1 : Int), v3 = .int .i64 x3_1 ∧ Aside0 (rf17_Fills.l0 kq x3_1 l0_0 l0_1 l0_2 = some r) ∧ Aside0 (kq ≤ k) ∧ Aside0 (w'.heap[gb315]? = some (.cells #[(.slice A0_0 l0_0.length c0_0), (.slice A0_1 l0_1.length c0_1), (.slice A0_2 l0_2.length c0_2)] 25 (0, 0))) ∧ Aside0 (Below w.heap.size w w'))
 case atStart => exact ⟨(0), rS, H', ⟨Nat.le_refl _⟩, ⟨bK BK315⟩, ⟨ bH HB⟩⟩
 case round =>
  clear H'
  (try clear c1); (try clear p2)
  obtain ⟨x3_1, rfl, HA, HK1, BK315, HB⟩ := hrel
  cases gk with
  | zero => exact absurd HA.out (by simp [rf17_Fills.l0])
  | succ k1 =>
   have H := HA.out; clear HA
   simp only [rf17_Fills.l0] at H
   by_cases c3 : x3_1 < (l0_1.length : Int)
   ·rw [if_pos c3] at H
    have c3b0 := decide_eq_true c3; clear c3
    have H' := AM H
    clear H; obtain ⟨hcz4_0, hcz4_1, hcz4_2, hfz4_0, hfz4_1, hfz4_2⟩ := c3 BK315
    go_wp2
    go_loopg [4, 5] k1 (fun kq v4 v5 w' => ∃ (x4_2 : Int) (x5_2 : Int), v4 = .int .i64 x4_2 ∧ v5 = .int .i64 x5_2 ∧ Aside0 (rf17_Fills.l1 kq x3_1 x4_2 x5_2 l0_0 l0_1 l0_2 = some r) ∧ Aside0 (kq ≤ k1) ∧ Aside0 (w'.heap[gb315]? = some (.cells #[(.slice A0_0 l0_0.length c0_0), (.slice A0_1 l0_1.length c0_1), (.slice A0_2 l0_2.length c0_2)] 25 (0, 0))) ∧ Aside0 (Below w.heap.size w w'))
    case atStart => exact ⟨(0), (0), rS, rS, H', ⟨Nat.le_refl _⟩, ⟨bK BK315⟩, ⟨ bH HB⟩⟩
    case round =>
     clear H'
     (try clear c1); (try clear p2); (try clear c3); (try clear c3b0); (try clear hcz4_0); (try clear hcz4_1); (try clear hcz4_2); (try clear hfz4_0); (try clear hfz4_1); (try clear hfz4_2); (try clear p2)
     obtain ⟨x4_2, x5_2, rfl, rfl, HA, HK2, BK315, HB⟩ := hrel
     cases gk with
     | zero => exact absurd HA.out (by simp [rf17_Fills.l1])
     | succ k2 =>
      have H := HA.out; clear HA
      simp only [rf17_Fills.l1] at H
      by_cases c5 : x5_2 < (l0_2.length : Int)
      ·rw [if_pos c5] at H
       have c5b0 := decide_eq_true c5; clear c5
       have H' := AM H
       clear H; obtain ⟨hcz6_0, hcz6_1, hcz6_2, hfz6_0, hfz6_1, hfz6_2⟩ := c3 BK315
       go_wp2
       go_loopg [4, 6] k2 (fun kq v4 v6 w' => ∃ (x4_3 : Int) (x6_3 : Int), v4 = .int .i64 x4_3 ∧ v6 = .int .i64 x6_3 ∧ Aside0 (rf17_Fills.l2 kq x3_1 x4_3 x5_2 x6_3 l0_0 l0_1 l0_2 = some r) ∧ Aside0 (kq ≤ k2) ∧ Aside0 (w'.heap[gb315]? = some (.cells #[(.slice A0_0 l0_0.length c0_0), (.slice A0_1 l0_1.length c0_1), (.slice A0_2 l0_2.length c0_2)] 25 (0, 0))) ∧ Aside0 (Below w.heap.size w w'))
       case atStart => exact ⟨(x4_2), (0), rS, rS, H', ⟨Nat.le_refl _⟩, ⟨bK BK315⟩, ⟨ bH HB⟩⟩
       case round =>
        clear H'
        (try clear c1); (try clear p2); (try clear c3); (try clear c3b0); (try clear c5); (try clear c5b0); (try clear hcz4_0); (try clear hcz4_1); (try clear hcz4_2); (try clear hcz6_0); (try clear hcz6_1); (try clear hcz6_2); (try clear hfz4_0); (try clear hfz4_1); (try clear hfz4_2); (try clear hfz6_0); (try clear hfz6_1); (try clear hfz6_2); (try clear p2)
        obtain ⟨x4_3, x6_3, rfl, rfl, HA, HK3, BK315, HB⟩ := hrel
        cases gk with
        | zero => exact absurd HA.out (by simp [rf17_Fills.l2])
        | succ k3 =>
         have H := HA.out; clear HA
         simp only [rf17_Fills.l2] at H
         by_cases c7 : 0 ≤ x5_2
         ·rw [if_pos c7] at H
          have c7b0 := decide_eq_true c7; clear c7
          by_cases c8 : x5_2 < (l0_2.length : Int)
          ·rw [if_pos c8] at H
           have c8b0 := decide_eq_true c8; clear c8
           by_cases c9 : x6_3 < ((rd_L3 l0_2 x5_2).length : Int)
           ·rw [if_pos c9] at H
            have c9b0 := decide_eq_true c9; clear c9
            by_cases c10 : 0 ≤ x6_3
            ·rw [if_pos c10] at H
             have c10b0 := decide_eq_true c10; clear c10
             by_cases c11 : (rd (rd_L3 l0_2 x5_2) x6_3) = x3_1
             ·rw [if_pos c11] at H
              have c11b0 : ((rd (rd_L3 l0_2 x5_2) x6_3) == x3_1) = true := beq_iff_eq.mpr c11
              have c11b1 : ((rd (rd_L3 l0_2 x5_2) x6_3) != x3_1) = false := bne_eq_false_iff_eq.mpr c11
              clear c11
              have H' := AM H
              clear H; obtain ⟨hcz12_0, hcz12_1, hcz12_2, hfz12_0, hfz12_1, hfz12_2⟩ := c3 BK315
              have p316 : 0 ≤ (x5_2 : Int) := pD
              have q316 : x5_2 < (l0_2.length : Int) := pD
              obtain ⟨ad316, A316_0, c316_0, e316, hx316_0, hl316_0, hi316_0⟩ := at_L3 HR0_2.out x5_2 p316 q316
              cases e316
              replace hx316_0 := hW HB hx316_0
              have HR316_0 := AM hi316_0
              have HC316_0 := AM hl316_0
              clear hi316_0 hl316_0; replace p316 := eq_true p316; replace q316 := eq_true q316
              have p317 : 0 ≤ (x5_2 : Int) := pD
              have q317 : x5_2 < (l0_2.length : Int) := pD
              obtain ⟨ad317, A317_0, c317_0, e317, hx317_0, hl317_0, hi317_0⟩ := at_L3 HR0_2.out x5_2 p317 q317
              obtain rfl : ad316 = ad317 := (by injection e317)
              replace hx317_0 := hW HB hx317_0
              have HR317_0 := AM hi317_0
              have HC317_0 := AM hl317_0
              clear hi317_0 hl317_0; replace p317 := eq_true p317; replace q317 := eq_true q317
              have ea_ := Option.some.inj (hx316_0.symm.trans hx317_0)
              injection ea_ with ea_ en_ ec_
              subst ea_
              subst ec_
              clear en_
              have p318 : 0 ≤ (x6_3 : Int) := pD
              have q318 : x6_3 < ((rd_L3 l0_2 x5_2).length : Int) := pD
              obtain ⟨ad318, e318, hx318_0⟩ := Kd.at_int HR317_0.out x6_3 p318 q318
              cases e318
              replace hx318_0 := hW HB hx318_0; replace p318 := eq_true p318; replace q318 := eq_true q318
              go_wp2
              go_roundg k3
              case measure => have := HK1.out; have := HK2.out; have := HK3.out; omega
              case rel => exact ⟨(wrap64 (x4_3 + 1)), (wrap64 (x6_3 + 1)), rS, rS, H', ⟨by have := HK1.out; have := HK2.out; have := HK3.out; omega⟩, ⟨bK BK315⟩, ⟨ bH HB⟩⟩
             ·rw [if_neg c11] at H
              have c11b0 : ((rd (rd_L3 l0_2 x5_2) x6_3) == x3_1) = false := beq_eq_false_iff_ne.mpr c11
              have c11b1 : ((rd (rd_L3 l0_2 x5_2) x6_3) != x3_1) = true := bne_iff_ne.mpr c11
              have H' := AM H
              clear H; obtain ⟨hcz13_0, hcz13_1, hcz13_2, hfz13_0, hfz13_1, hfz13_2⟩ := c3 BK315
              have p316 : 0 ≤ (x5_2 : Int) := pD
              have q316 : x5_2 < (l0_2.length : Int) := pD
              obtain ⟨ad316, A316_0, c316_0, e316, hx316_0, hl316_0, hi316_0⟩ := at_L3 HR0_2.out x5_2 p316 q316
              cases e316
              replace hx316_0 := hW HB hx316_0
              have HR316_0 := AM hi316_0
              have HC316_0 := AM hl316_0
              clear hi316_0 hl316_0; replace p316 := eq_true p316; replace q316 := eq_true q316
              have p317 : 0 ≤ (x5_2 : Int) := pD
              have q317 : x5_2 < (l0_2.length : Int) := pD
              obtain ⟨ad317, A317_0, c317_0, e317, hx317_0, hl317_0, hi317_0⟩ := at_L3 HR0_2.out x5_2 p317 q317
              obtain rfl : ad316 = ad317 := (by injection e317)
              replace hx317_0 := hW HB hx317_0
              have HR317_0 := AM hi317_0
              have HC317_0 := AM hl317_0
              clear hi317_0 hl317_0; replace p317 := eq_true p317; replace q317 := eq_true q317
              have ea_ := Option.some.inj (hx316_0.symm.trans hx317_0)
              injection ea_ with ea_ en_ ec_
              subst ea_
              subst ec_
              clear en_
              have p318 : 0 ≤ (x6_3 : Int) := pD
              have q318 : x6_3 < ((rd_L3 l0_2 x5_2).length : Int) := pD
              obtain ⟨ad318, e318, hx318_0⟩ := Kd.at_int HR317_0.out x6_3 p318 q318
              cases e318
              replace hx318_0 := hW HB hx318_0; replace p318 := eq_true p318; replace q318 := eq_true q318
              go_wp2
              go_roundg k3
              case measure => have := HK1.out; have := HK2.out; have := HK3.out; omega
              case rel => exact ⟨(x4_3), (wrap64 (x6_3 + 1)), rS, rS, H', ⟨by have := HK1.out; have := HK2.out; have := HK3.out; omega⟩, ⟨bK BK315⟩, ⟨ bH HB⟩⟩
            ·rw [if_neg c10] at H
             exact absurd H (by simp)
           ·rw [if_neg c9] at H
            have c9b0 := decide_eq_false c9; clear c9
            have H' := AM H
            clear H; obtain ⟨hcz14_0, hcz14_1, hcz14_2, hfz14_0, hfz14_1, hfz14_2⟩ := c3 BK315
            have p316 : 0 ≤ (x5_2 : Int) := pD
            have q316 : x5_2 < (l0_2.length : Int) := pD
            obtain ⟨ad316, A316_0, c316_0, e316, hx316_0, hl316_0, hi316_0⟩ := at_L3 HR0_2.out x5_2 p316 q316
            cases e316
            replace hx316_0 := hW HB hx316_0
            have HR316_0 := AM hi316_0
            have HC316_0 := AM hl316_0
            clear hi316_0 hl316_0; replace p316 := eq_true p316; replace q316 := eq_true q316
            go_wp2
            go_roundg k3
            case measure => have := HK1.out; have := HK2.out; have := HK3.out; omega
            case rel => exact ⟨(x4_3), (wrap64 (x5_2 + 1)), rS, rS, H', ⟨by have := HK1.out; have := HK2.out; have := HK3.out; omega⟩, ⟨bK BK315⟩, ⟨ bH HB⟩⟩
          ·rw [if_neg c8] at H
           exact absurd H (by simp)
         ·rw [if_neg c7] at H
          exact absurd H (by simp)
      ·rw [if_neg c5] at H
       have c5b0 := decide_eq_false c5; clear c5
       by_cases c15 : x4_2 = 1
       ·rw [if_pos c15] at H
        have c15b0 : (x4_2 == 1) = true := beq_iff_eq.mpr c15
        have c15b1 : (x4_2 != 1) = false := bne_eq_false_iff_eq.mpr c15
        clear c15
        have H' := AM H
        clear H; obtain ⟨hcz16_0, hcz16_1, hcz16_2, hfz16_0, hfz16_1, hfz16_2⟩ := c3 BK315
        go_wp2
        go_roundg k2
        case measure => have := HK1.out; have := HK2.out; omega
        case rel => exact ⟨(wrap64 (x3_1 + 1)), rS, H', ⟨by have := HK1.out; have := HK2.out; omega⟩, ⟨bK BK315⟩, ⟨ bH HB⟩⟩
       ·rw [if_neg c15] at H
        have c15b0 : (x4_2 == 1) = false := beq_eq_false_iff_ne.mpr c15
        have c15b1 : (x4_2 != 1) = true := bne_iff_ne.mpr c15
        obtain rfl := Option.some.inj H
        obtain ⟨hcz17_0, hcz17_1, hcz17_2, hfz17_0, hfz17_1, hfz17_2⟩ := c3 BK315
        go_wp2
        go_ret
        exact ⟨rE, bH HB⟩
   ·rw [if_neg c3] at H
    have c3b0 := decide_eq_false c3; clear c3
    have H' := AM H
    clear H; obtain ⟨hcz18_0, hcz18_1, hcz18_2, hfz18_0, hfz18_1, hfz18_2⟩ := c3 BK315
    go_wp2
    go_loopg [7] k1 (fun kq v7 w' => ∃ (x7_2 : Int), v7 = .int .i64 x7_2 ∧ Aside0 (rf17_Fills.l3 kq x7_2 l0_0 l0_1 l0_2 = some r) ∧ Aside0 (kq ≤ k1) ∧ Aside0 (w'.heap[gb315]? = some (.cells #[(.slice A0_0 l0_0.length c0_0), (.slice A0_1 l0_1.length c0_1), (.slice A0_2 l0_2.length c0_2)] 25 (0, 0))) ∧ Aside0 (Below w.heap.size w w'))
    case atStart => exact ⟨(0), rS, H', ⟨Nat.le_refl _⟩, ⟨bK BK315⟩, ⟨ bH HB⟩⟩
    case round =>
     clear H'
     (try clear c1); (try clear p2); (try clear c3); (try clear c3b0); (try clear p3); (try clear q3); (try clear hx3); (try clear c5); (try clear c5b0); (try clear p6); (try clear c7); (try clear c7b0); (try clear c8); (try clear c8b0); (try clear c9); (try clear c9b0); (try clear c10); (try clear c10b0); (try clear c11); (try clear c11b0); (try clear c11b1); (try clear c15); (try clear c15b0); (try clear c15b1); (try clear c16); (try clear hcz12_0); (try clear hcz12_1); (try clear hcz12_2); (try clear hcz13_0); (try clear hcz13_1); (try clear hcz13_2); (try clear hcz14_0); (try clear hcz14_1); (try clear hcz14_2); (try clear hcz16_0); (try clear hcz16_1); (try clear hcz16_2); (try clear hcz17_0); (try clear hcz17_1); (try clear hcz17_2); (try clear hcz18_0); (try clear hcz18_1); (try clear hcz18_2); (try clear hcz4_0); (try clear hcz4_1); (try clear hcz4_2); (try clear hcz6_0); (try clear hcz6_1); (try clear hcz6_2); (try clear hfz12_0); (try clear hfz12_1); (try clear hfz12_2); (try clear hfz13_0)
     (try clear hfz13_1); (try clear hfz13_2); (try clear hfz14_0); (try clear hfz14_1); (try clear hfz14_2); (try clear hfz16_0); (try clear hfz16_1); (try clear hfz16_2); (try clear hfz17_0); (try clear hfz17_1); (try clear hfz17_2); (try clear hfz18_0); (try clear hfz18_1); (try clear hfz18_2); (try clear hfz4_0); (try clear hfz4_1); (try clear hfz4_2); (try clear hfz6_0); (try clear hfz6_1); (try clear hfz6_2); (try clear hx316_0); (try clear hx317_0); (try clear hx318_0); (try clear p2); (try clear p316); (try clear p317); (try clear p318); (try clear q316); (try clear q317); (try clear q318)
     obtain ⟨x7_2, rfl, HA, HK2, BK315, HB⟩ := hrel
     cases gk with
     | zero => exact absurd HA.out (by simp [rf17_Fills.l3])
     | succ k2 =>
      have H := HA.out; clear HA
      simp only [rf17_Fills.l3] at H
      by_cases c19 : x7_2 < (l0_2.length : Int)
      ·rw [if_pos c19] at H
       have c19b0 := decide_eq_true c19; clear c19
       by_cases c20 : 0 ≤ x7_2
       ·rw [if_pos c20] at H
        have c20b0 := decide_eq_true c20; clear c20
        obtain ⟨t320, A21, H⟩ := bS H
        have HC22 := AM H
        clear H; obtain ⟨hcz23_0, hcz23_1, hcz23_2, hfz23_0, hfz23_1, hfz23_2⟩ := c3 BK315
        try go_wp2
        replace BK315 := dB BK315; replace HB := dH HB
        have p319 : 0 ≤ (x7_2 : Int) := pD
        have q319 : x7_2 < (l0_2.length : Int) := pD
        obtain ⟨ad319, A319_0, c319_0, e319, hx319_0, hl319_0, hi319_0⟩ := at_L3 HR0_2.out x7_2 p319 q319
        have hw319_0 := hx319_0
        cases e319
        replace hx319_0 := hW HB hx319_0
        have HR319_0 := AM hi319_0
        have HC319_0 := AM hl319_0
        clear hi319_0 hl319_0; replace p319 := eq_true p319; replace q319 := eq_true q319
        refine sP 8 (S := fun w' => w'.cell? ⟨gb315, 0, none⟩ = some (.slice A0_0 l0_0.length c0_0) ∧ w'.cell? ⟨gb315, 1, none⟩ = some (.slice A0_1 l0_1.length c0_1) ∧ w'.cell? ⟨gb315, 2, none⟩ = some (.slice (some ad319) l0_2.length c0_2) ∧ w'.cell? (ad319.add (x7_2).toNat) = some (.slice A319_0 (rd_L3 l0_2 x7_2).length c319_0)) (ds := []) ⟨bC BK315, bC BK315, bC BK315, (hW HB hw319_0)⟩ fun hHeld => ?_; refine with_tabW rf17_Fills.tab18 rf17_Fills.bits18 (fun HT_ HW_ => ?_)
        generalize wr.drew = w24 at BK315 HB HR319_0 hx319_0 hHeld ⊢
        refine pQ 1 (some 54) HT_ ?_; refine pQ 3 (some 56) HT_ ?_; refine tQ 0 (some 53) HT_ HW_ hHeld ?_; refine tQ 2 (some 55) HT_ HW_ hHeld ?_; refine pQ 4 (some 57) HT_ ?_; refine tQ 5 (some 58) HT_ HW_ hHeld ?_
        refine oQ 6 (some 59) HT_ rfl fun K hK => ?_
        refine gO Try.func45 #[.agg #[.slice A0_0 l0_0.length c0_0, .slice A0_1 l0_1.length c0_1, .slice (some ad319) l0_2.length c0_2], .slice A319_0 (rd_L3 l0_2 x7_2).length c319_0] ?_
        with_reducible refine (rf17_fills.calls k2 _ _ l0_0 _ _ l0_1 _ _ l0_2 _ _ (rd_L3 l0_2 x7_2) t320 _ ?side1 ?side2 ?side3 ?side4 ?side5 ?side6 ?side7 ?side8 A21.out).mono ?_
        (case side1 => exact sC HR0_0 HB)
        (case side2 => exact HC0_0.out)
        (case side3 => exact sC HR0_1 HB)
        (case side4 => exact HC0_1.out)
        (case side5 => exact sC HR0_2 HB)
        (case side6 => exact HC0_2.out)
        (case side7 => exact sC HR319_0 HB)
        (case side8 => exact HC319_0.out)
        rintro e w25 ⟨rfl, hb⟩
        refine ⟨_, rfl, ?_⟩
        replace BK315 := kB BK315 hb; replace HB := kH HB hb; (try clear hb); (try clear hb2); (try clear hk); (try clear hi)
        refine hK.out _ _ ⟨bC BK315, bC BK315, bC BK315, (hW HB hw319_0)⟩ (fun hHeld => ?_)
        clear hK K; refine nP (some 59) ?_; refine pQ 7 (some 60) HT_ ?_
        refine done_ (done_of HT_.out (by kernel_rfl)) ?_
        go_upto_if 60 with (fail)
        have H := HC22.out; clear HC22
        by_cases c26 : t320 = true
        ·subst c26
         have H1 : (rf17_Fills.l3 k2 (wrap64 (x7_2 + 1)) l0_0 l0_1 l0_2) = some r := by rw [if_pos rfl] at H; exact H
         clear H; have H := H1; clear H1
         have H' := AM H
         clear H
         go_wp2
         go_roundg k2
         case measure => have := HK1.out; have := HK2.out; omega
         case rel => exact ⟨(wrap64 (x7_2 + 1)), rS, H', ⟨by have := HK1.out; have := HK2.out; omega⟩, ⟨bK BK315⟩, ⟨ bH HB⟩⟩
        ·replace c26 := Bool.eq_false_iff.mpr c26
         subst c26
         have H1 : (some false) = some r := by rw [if_neg (show ¬ (false = true) by decide)] at H; exact H
         clear H; have H := H1; clear H1
         obtain rfl := Option.some.inj H
         go_wp2
         go_ret
         exact ⟨rE, bH HB⟩
       ·rw [if_neg c20] at H
        exact absurd H (by simp)
      ·rw [if_neg c19] at H
       have c19b0 := decide_eq_false c19; clear c19
       obtain rfl := Option.some.inj H
       obtain ⟨hcz27_0, hcz27_1, hcz27_2, hfz27_0, hfz27_1, hfz27_2⟩ := c3 BK315
       go_wp2
       go_ret
       exact ⟨rE, bH HB⟩

def arc_right.f (a0_0 : Int) (a0_1 : Int) (a0_2 : Int) : Option (Bool) := if a0_2 = 0 then (if a0_0 ≥ (-2147483648) then (if a0_0 ≤ 2147483647 then (if a0_1 ≥ (-2147483648) then (some (decide (a0_1 ≤ 2147483647))) else (some false)) else (some false)) else (some false)) else (some false)
set_option maxHeartbeats 8000000 in
set_option maxRecDepth 100000 in
theorem arc_right.calls (a0_0 : Int) (a0_1 : Int) (a0_2 : Int) (r : Bool) (w : World) (h : arc_right.f a0_0 a0_1 a0_2 = some r) :
  Calls Try.prog 75 #[.agg #[.int .i64 a0_0, .int .i64 a0_1, .int .i64 a0_2]] w fun e w' => e = .returned (.bool r) ∧ Below w.heap.size w w' := by
 have hu27 := Try.underlying27
 have HB := AM (Below.refl w.heap.size w)
 have H : (if a0_2 = 0 then (if a0_0 ≥ (-2147483648) then (if a0_0 ≤ 2147483647 then (if a0_1 ≥ (-2147483648) then (some (decide (a0_1 ≤ 2147483647))) else (some false)) else (some false)) else (some false)) else (some false)) = some r := h
 clear h
 by_cases c2 : a0_2 = 0
 ·rw [if_pos c2] at H
  have c2b0 : (a0_2 == 0) = true := beq_iff_eq.mpr c2
  have c2b1 : (a0_2 != 0) = false := bne_eq_false_iff_eq.mpr c2
  clear c2
  by_cases c3 : a0_0 ≥ (-2147483648)
  ·rw [if_pos c3] at H
   have c3b0 := decide_eq_true c3; clear c3
   by_cases c4 : a0_0 ≤ 2147483647
   ·rw [if_pos c4] at H
    have c4b0 := decide_eq_true c4; clear c4
    by_cases c5 : a0_1 ≥ (-2147483648)
    ·rw [if_pos c5] at H
     have c5b0 := decide_eq_true c5; clear c5
     obtain rfl := Option.some.inj H
     go_enter Try.func75, Try.ntmps75
     go_wp2_with (first | ((with_reducible refine gate_dst (N := 1) rfl ?_); refine bE 1 #[.int .i64 a0_0, .int .i64 a0_1, .int .i64 a0_2] 27 ?_; intro gb538 hg w6 hbox hb; have BK538 := AM hbox; have GW538 := kG HB hg; replace HB := kH HB hb; have GE538 := GW538; clear hb hbox hg; obtain ⟨hcz7_0, hcz7_1, hcz7_2, hfz7_0, hfz7_1, hfz7_2⟩ := c3 BK538))
     go_ret
     exact ⟨rE, bH HB⟩
    ·rw [if_neg c5] at H
     have c5b0 := decide_eq_false c5; clear c5
     obtain rfl := Option.some.inj H
     go_enter Try.func75, Try.ntmps75
     go_wp2_with (first | ((with_reducible refine gate_dst (N := 1) rfl ?_); refine bE 1 #[.int .i64 a0_0, .int .i64 a0_1, .int .i64 a0_2] 27 ?_; intro gb538 hg w8 hbox hb; have BK538 := AM hbox; have GW538 := kG HB hg; replace HB := kH HB hb; have GE538 := GW538; clear hb hbox hg; obtain ⟨hcz9_0, hcz9_1, hcz9_2, hfz9_0, hfz9_1, hfz9_2⟩ := c3 BK538))
     go_ret
     exact ⟨rE, bH HB⟩
   ·rw [if_neg c4] at H
    have c4b0 := decide_eq_false c4; clear c4
    obtain rfl := Option.some.inj H
    go_enter Try.func75, Try.ntmps75
    go_wp2_with (first | ((with_reducible refine gate_dst (N := 1) rfl ?_); refine bE 1 #[.int .i64 a0_0, .int .i64 a0_1, .int .i64 a0_2] 27 ?_; intro gb538 hg w10 hbox hb; have BK538 := AM hbox; have GW538 := kG HB hg; replace HB := kH HB hb; have GE538 := GW538; clear hb hbox hg; obtain ⟨hcz11_0, hcz11_1, hcz11_2, hfz11_0, hfz11_1, hfz11_2⟩ := c3 BK538))
    go_ret
    exact ⟨rE, bH HB⟩
  ·rw [if_neg c3] at H
   have c3b0 := decide_eq_false c3; clear c3
   obtain rfl := Option.some.inj H
   go_enter Try.func75, Try.ntmps75
   go_wp2_with (first | ((with_reducible refine gate_dst (N := 1) rfl ?_); refine bE 1 #[.int .i64 a0_0, .int .i64 a0_1, .int .i64 a0_2] 27 ?_; intro gb538 hg w12 hbox hb; have BK538 := AM hbox; have GW538 := kG HB hg; replace HB := kH HB hb; have GE538 := GW538; clear hb hbox hg; obtain ⟨hcz13_0, hcz13_1, hcz13_2, hfz13_0, hfz13_1, hfz13_2⟩ := c3 BK538))
   go_ret
   exact ⟨rE, bH HB⟩
 ·rw [if_neg c2] at H
  have c2b0 : (a0_2 == 0) = false := beq_eq_false_iff_ne.mpr c2
  have c2b1 : (a0_2 != 0) = true := bne_iff_ne.mpr c2
  obtain rfl := Option.some.inj H
  go_enter Try.func75, Try.ntmps75
  go_wp2_with (first | ((with_reducible refine gate_dst (N := 1) rfl ?_); refine bE 1 #[.int .i64 a0_0, .int .i64 a0_1, .int .i64 a0_2] 27 ?_; intro gb538 hg w14 hbox hb; have BK538 := AM hbox; have GW538 := kG HB hg; replace HB := kH HB hb; have GE538 := GW538; clear hb hbox hg; obtain ⟨hcz15_0, hcz15_1, hcz15_2, hfz15_0, hfz15_1, hfz15_2⟩ := c3 BK538))
  go_ret
  exact ⟨rE, bH HB⟩
end Go.Proofs.Ytbonkedecfjmdaa.P
