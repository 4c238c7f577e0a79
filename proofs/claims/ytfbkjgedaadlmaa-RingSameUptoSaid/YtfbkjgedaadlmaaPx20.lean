/- Written for this claim by a program of this session (a turned copy of the print): Go functions as Lean functions, and that the Go code comes to just these answers; or a statement proved out of them. No condition. -/
import Derived.Test.YtfbkjgedaadlmaaPx0
import Derived.Test.YtfbkjgedaadlmaaPx1
namespace Go.Proofs.Ytfbkjgedaadlmaa.P
open Go.RowKit Go.Proofs.YtfbkjgedaadlmaaW.PrintWords Go.Proofs.YtfbkjgedaadlmaaW.PrintLast Go.Proofs.YtfbkjgedaadlmaaW.PrintMore Go.Proofs.Ytfbkjgedaadlmaa.X
attribute [local go_sem] max2_int min2_int max_two min_two max_three min_three max_four min_four   -- for this text's walks alone
set_option linter.unusedVariables false
set_option linter.unusedSimpArgs false

attribute [local go_sem high] eqA42
/-! ### lapidaryref15_Same: function 29 -/
mutual
def lapidaryref15_Same.l0 : Nat → List (List (S42)) → List (List (S42)) → Int → Option (Bool)
 | 0, _, _, _ => none
 | k + 1, x0, x1, x5 => if x5 < (x0.length : Int) then (if 0 ≤ x5 then (if x5 < (x1.length : Int) then (if ((rd_L2 x0 x5).length : Int) = ((rd_L2 x1 x5).length : Int) then (lapidaryref15_Same.l1 k x0 x1 x5 0) else (some false)) else (none)) else (none)) else (some true)
def lapidaryref15_Same.l1 : Nat → List (List (S42)) → List (List (S42)) → Int → Int → Option (Bool)
 | 0, _, _, _, _ => none
 | k + 1, x0, x1, x5, x6 => if 0 ≤ x5 then (if x5 < (x0.length : Int) then (if x6 < ((rd_L2 x0 x5).length : Int) then (if 0 ≤ x6 then (if x5 < (x1.length : Int) then (if x6 < ((rd_L2 x1 x5).length : Int) then (if (!(((rd_T42 (rd_L2 x0 x5) x6).f0) == ((rd_T42 (rd_L2 x1 x5) x6).f0)) || (!(((rd_T42 (rd_L2 x0 x5) x6).f1) == ((rd_T42 (rd_L2 x1 x5) x6).f1)) || (!(((rd_T42 (rd_L2 x0 x5) x6).f2) == ((rd_T42 (rd_L2 x1 x5) x6).f2))))) = true then (some false) else (lapidaryref15_Same.l1 k x0 x1 x5 (wrap64 (x6 + 1)))) else (none)) else (none)) else (none)) else (lapidaryref15_Same.l0 k x0 x1 (wrap64 (x5 + 1)))) else (none)) else (none)
end
def lapidaryref15_Same.f (k : Nat) (l0 : List (List (S42))) (l1 : List (List (S42))) : Option (Bool) := if (l0.length : Int) = (l1.length : Int) then (lapidaryref15_Same.l0 k l0 l1 0) else (some false)
theorem lapidaryref15_Same.mono_l : ∀ k, (∀ y0 y1 y2, LeO (lapidaryref15_Same.l0 k y0 y1 y2) (lapidaryref15_Same.l0 (k + 1) y0 y1 y2)) ∧ (∀ y0 y1 y2 y3, LeO (lapidaryref15_Same.l1 k y0 y1 y2 y3) (lapidaryref15_Same.l1 (k + 1) y0 y1 y2 y3))
 | 0 => ⟨fun _ _ _ r h => by simp [lapidaryref15_Same.l0] at h, fun _ _ _ _ r h => by simp [lapidaryref15_Same.l1] at h⟩
 | k + 1 => by
  obtain ⟨ih0, ih1⟩ := lapidaryref15_Same.mono_l k
  refine ⟨?_, ?_⟩
  ·intro y0 y1 y2
   unfold lapidaryref15_Same.l0
   repeat' first
   | (with_reducible exact ih0 _ _ _)
   | (with_reducible exact ih1 _ _ _ _)
   | (with_reducible exact LeO.refl _)
   | (with_reducible exact LeO.none _)
   | (with_reducible refine LeO.ite ?_ ?_)
   | (with_reducible refine LeO.bind ?_ (fun _ => ?_))
   | exact ih0 _ _ _
   | exact ih1 _ _ _ _
   | exact LeO.none _
   | refine LeO.ite ?_ ?_
   | refine LeO.bind ?_ (fun _ => ?_)
  ·intro y0 y1 y2 y3
   unfold lapidaryref15_Same.l1
   repeat' first
   | (with_reducible exact ih0 _ _ _)
   | (with_reducible exact ih1 _ _ _ _)
   | (with_reducible exact LeO.refl _)
   | (with_reducible exact LeO.none _)
   | (with_reducible refine LeO.ite ?_ ?_)
   | (with_reducible refine LeO.bind ?_ (fun _ => ?_))
   | exact ih0 _ _ _
   | exact ih1 _ _ _ _
   | exact LeO.none _
   | refine LeO.ite ?_ ?_
   | refine LeO.bind ?_ (fun _ => ?_)
theorem lapidaryref15_Same.mono : ∀ a0 a1 k, LeO (lapidaryref15_Same.f k a0 a1) (lapidaryref15_Same.f (k + 1) a0 a1) := by
 intro a0 a1 k
 obtain ⟨ih0, ih1⟩ := lapidaryref15_Same.mono_l k
 unfold lapidaryref15_Same.f
 repeat' first
   | (with_reducible exact ih0 _ _ _)
   | (with_reducible exact ih1 _ _ _ _)
   | (with_reducible exact LeO.refl _)
   | (with_reducible exact LeO.none _)
   | (with_reducible refine LeO.ite ?_ ?_)
   | (with_reducible refine LeO.bind ?_ (fun _ => ?_))
   | exact ih0 _ _ _
   | exact ih1 _ _ _ _
   | exact LeO.none _
   | refine LeO.ite ?_ ?_
   | refine LeO.bind ?_ (fun _ => ?_)
set_option maxHeartbeats 8000000 in
set_option maxRecDepth 100000 in
theorem lapidaryref15_Same.calls (k : Nat) (A0 : Option Addr) (c0 : Nat) (l0 : List (List (S42))) (A1 : Option Addr) (c1 : Nat) (l1 : List (List (S42))) (r : Bool) (w : World) (hr0 : Kd.C (Kd.slice 42 k42) w A0 l0.length l0) (hc0 : l0.length ≤ c0) (hr1 : Kd.C (Kd.slice 42 k42) w A1 l1.length l1) (hc1 : l1.length ≤ c1) (h : lapidaryref15_Same.f k l0 l1 = some r) :
  Calls Try.prog 29 #[.slice A0 l0.length c0, .slice A1 l1.length c1] w fun e w' => e = .returned (.bool r) ∧ Drawn0 w w' := by
 have hu42 := Try.underlying42
 have HR0 := Aside0.mk hr0
 have HC0 := Aside0.mk hc0
 clear hr0 hc0
 have HR1 := Aside0.mk hr1
 have HC1 := Aside0.mk hc1
 clear hr1 hc1
 have H : (if (l0.length : Int) = (l1.length : Int) then (lapidaryref15_Same.l0 k l0 l1 0) else (some false)) = some r := h
 clear h
 by_cases c3 : (l0.length : Int) = (l1.length : Int)
 ·rw [if_pos c3] at H
  have c3b0 : ((l0.length : Int) == (l1.length : Int)) = true := beq_iff_eq.mpr c3
  have c3b1 : ((l0.length : Int) != (l1.length : Int)) = false := bne_eq_false_iff_eq.mpr c3
  have c3b2 : (l0.length == l1.length) = true := by first | simpa using c3 | (simp at c3 ⊢; omega)
  clear c3
  have H' := Aside0.mk H
  clear H
  go_enter Try.func29, Try.ntmps29
  go_wp2
  repeat (go_quiet (fail); try go_wp2)
  go_loopg [5] k (fun kq v5 w' => ∃ (x5_1 : Int), v5 = .int .i64 x5_1 ∧ Aside0 (lapidaryref15_Same.l0 kq l0 l1 x5_1 = some r) ∧ Aside0 (kq ≤ k) ∧ Drawn0 w w')
  case atStart => exact ⟨(0), (by first | rfl | (simp; done) | (simp [*]; done)), H', ⟨Nat.le_refl _⟩, by repeat (first | exact Drawn0.refl _ | apply Drawn0.step)⟩
  case round =>
   clear H'
   try clear c1
   try clear c2
   try clear p2
   try clear c3
   try clear c3b0
   try clear c3b1
   try clear c3b2
   obtain ⟨x5_1, rfl, HA, HK1, ⟨m1, rfl⟩⟩ := hrel
   cases gk with
   | zero => exact absurd HA.out (by simp [lapidaryref15_Same.l0])
   | succ k1 =>
    have H := HA.out
    clear HA
    simp only [lapidaryref15_Same.l0] at H
    by_cases c4 : x5_1 < (l0.length : Int)
    ·rw [if_pos c4] at H
     have c4b0 : decide (x5_1 < (l0.length : Int)) = true := decide_eq_true c4
     clear c4
     by_cases c5 : 0 ≤ x5_1
     ·rw [if_pos c5] at H
      have c5b0 : decide (0 ≤ x5_1) = true := decide_eq_true c5
      clear c5
      by_cases c6 : x5_1 < (l1.length : Int)
      ·rw [if_pos c6] at H
       have c6b0 : decide (x5_1 < (l1.length : Int)) = true := decide_eq_true c6
       clear c6
       by_cases c7 : ((rd_L2 l0 x5_1).length : Int) = ((rd_L2 l1 x5_1).length : Int)
       ·rw [if_pos c7] at H
        have c7b0 : (((rd_L2 l0 x5_1).length : Int) == ((rd_L2 l1 x5_1).length : Int)) = true := beq_iff_eq.mpr c7
        have c7b1 : (((rd_L2 l0 x5_1).length : Int) != ((rd_L2 l1 x5_1).length : Int)) = false := bne_eq_false_iff_eq.mpr c7
        have c7b2 : ((rd_L2 l0 x5_1).length == (rd_L2 l1 x5_1).length) = true := by first | simpa using c7 | (simp at c7 ⊢; omega)
        clear c7
        have H' := Aside0.mk H
        clear H
        have p207 : 0 ≤ (x5_1 : Int) := of_decide_eq_true (by first | (with_reducible assumption) | assumption)
        have q207 : x5_1 < (l0.length : Int) := of_decide_eq_true (by first | (with_reducible assumption) | assumption)
        obtain ⟨ad207, A207_0, c207_0, e207, hx207_0, hl207_0, hi207_0⟩ := at_L2 HR0.out x5_1 p207 q207
        cases e207
        have HR207_0 := Aside0.mk hi207_0
        have HC207_0 := Aside0.mk hl207_0
        clear hi207_0 hl207_0
        replace p207 := eq_true p207
        replace q207 := eq_true q207
        have p208 : 0 ≤ (x5_1 : Int) := of_decide_eq_true (by first | (with_reducible assumption) | assumption)
        have q208 : x5_1 < (l1.length : Int) := of_decide_eq_true (by first | (with_reducible assumption) | assumption)
        obtain ⟨ad208, A208_0, c208_0, e208, hx208_0, hl208_0, hi208_0⟩ := at_L2 HR1.out x5_1 p208 q208
        cases e208
        have HR208_0 := Aside0.mk hi208_0
        have HC208_0 := Aside0.mk hl208_0
        clear hi208_0 hl208_0
        replace p208 := eq_true p208
        replace q208 := eq_true q208
        go_wp2
        repeat (go_quiet (fail); try go_wp2)
        go_loopg [6] k1 (fun kq v6 w' => ∃ (x6_2 : Int), v6 = .int .i64 x6_2 ∧ Aside0 (lapidaryref15_Same.l1 kq l0 l1 x5_1 x6_2 = some r) ∧ Aside0 (kq ≤ k1) ∧ Drawn0 w w')
        case atStart => exact ⟨(0), (by first | rfl | (simp; done) | (simp [*]; done)), H', ⟨Nat.le_refl _⟩, by repeat (first | exact Drawn0.refl _ | apply Drawn0.step)⟩
        case round =>
         clear H'
         try clear c1
         try clear c2
         try clear p2
         try clear q2
         try clear hx2
         try clear c3
         try clear c3b0
         try clear c3b1
         try clear c3b2
         try clear c4
         try clear c4b0
         try clear c5
         try clear c5b0
         try clear c6
         try clear c6b0
         try clear c7
         try clear c7b0
         try clear c7b1
         try clear c7b2
         try clear hx207_0
         try clear hx208_0
         try clear p2
         try clear p207
         try clear p208
         try clear q207
         try clear q208
         obtain ⟨x6_2, rfl, HA, HK2, ⟨m2, rfl⟩⟩ := hrel
         cases gk with
         | zero => exact absurd HA.out (by simp [lapidaryref15_Same.l1])
         | succ k2 =>
          have H := HA.out
          clear HA
          simp only [lapidaryref15_Same.l1] at H
          by_cases c8 : 0 ≤ x5_1
          ·rw [if_pos c8] at H
           have c8b0 : decide (0 ≤ x5_1) = true := decide_eq_true c8
           clear c8
           by_cases c9 : x5_1 < (l0.length : Int)
           ·rw [if_pos c9] at H
            have c9b0 : decide (x5_1 < (l0.length : Int)) = true := decide_eq_true c9
            clear c9
            by_cases c10 : x6_2 < ((rd_L2 l0 x5_1).length : Int)
            ·rw [if_pos c10] at H
             have c10b0 : decide (x6_2 < ((rd_L2 l0 x5_1).length : Int)) = true := decide_eq_true c10
             clear c10
             by_cases c11 : 0 ≤ x6_2
             ·rw [if_pos c11] at H
              have c11b0 : decide (0 ≤ x6_2) = true := decide_eq_true c11
              clear c11
              by_cases c12 : x5_1 < (l1.length : Int)
              ·rw [if_pos c12] at H
               have c12b0 : decide (x5_1 < (l1.length : Int)) = true := decide_eq_true c12
               clear c12
               by_cases c13 : x6_2 < ((rd_L2 l1 x5_1).length : Int)
               ·rw [if_pos c13] at H
                have c13b0 : decide (x6_2 < ((rd_L2 l1 x5_1).length : Int)) = true := decide_eq_true c13
                clear c13
                by_cases c14 : (!(((rd_T42 (rd_L2 l0 x5_1) x6_2).f0) == ((rd_T42 (rd_L2 l1 x5_1) x6_2).f0)) || (!(((rd_T42 (rd_L2 l0 x5_1) x6_2).f1) == ((rd_T42 (rd_L2 l1 x5_1) x6_2).f1)) || (!(((rd_T42 (rd_L2 l0 x5_1) x6_2).f2) == ((rd_T42 (rd_L2 l1 x5_1) x6_2).f2))))) = true
                ·rw [if_pos c14] at H
                 have c14b0 : (!(((rd_T42 (rd_L2 l0 x5_1) x6_2).f0) == ((rd_T42 (rd_L2 l1 x5_1) x6_2).f0)) || (!(((rd_T42 (rd_L2 l0 x5_1) x6_2).f1) == ((rd_T42 (rd_L2 l1 x5_1) x6_2).f1)) || (!(((rd_T42 (rd_L2 l0 x5_1) x6_2).f2) == ((rd_T42 (rd_L2 l1 x5_1) x6_2).f2))))) = true := c14
                 clear c14
                 obtain rfl := Option.some.inj H
                 have p209 : 0 ≤ (x5_1 : Int) := of_decide_eq_true (by first | (with_reducible assumption) | assumption)
                 have q209 : x5_1 < (l0.length : Int) := of_decide_eq_true (by first | (with_reducible assumption) | assumption)
                 obtain ⟨ad209, A209_0, c209_0, e209, hx209_0, hl209_0, hi209_0⟩ := at_L2 HR0.out x5_1 p209 q209
                 obtain rfl : ad207 = ad209 := (by injection e209)
                 have HR209_0 := Aside0.mk hi209_0
                 have HC209_0 := Aside0.mk hl209_0
                 clear hi209_0 hl209_0
                 replace p209 := eq_true p209
                 replace q209 := eq_true q209
                 have p210 : 0 ≤ (x5_1 : Int) := of_decide_eq_true (by first | (with_reducible assumption) | assumption)
                 have q210 : x5_1 < (l0.length : Int) := of_decide_eq_true (by first | (with_reducible assumption) | assumption)
                 obtain ⟨ad210, A210_0, c210_0, e210, hx210_0, hl210_0, hi210_0⟩ := at_L2 HR0.out x5_1 p210 q210
                 obtain rfl : ad207 = ad210 := (by injection e210)
                 have HR210_0 := Aside0.mk hi210_0
                 have HC210_0 := Aside0.mk hl210_0
                 clear hi210_0 hl210_0
                 replace p210 := eq_true p210
                 replace q210 := eq_true q210
                 have ea_ := Option.some.inj (hx209_0.symm.trans hx210_0)
                 injection ea_ with ea_ en_ ec_
                 subst ea_
                 subst ec_
                 clear en_
                 have p211 : 0 ≤ (x6_2 : Int) := of_decide_eq_true (by first | (with_reducible assumption) | assumption)
                 have q211 : x6_2 < ((rd_L2 l0 x5_1).length : Int) := of_decide_eq_true (by first | (with_reducible assumption) | assumption)
                 obtain ⟨ad211, e211, hx211_0, hx211_1, hx211_2⟩ := at_T42 HR210_0.out x6_2 p211 q211
                 cases e211
                 replace p211 := eq_true p211
                 replace q211 := eq_true q211
                 have p212 : 0 ≤ (x5_1 : Int) := of_decide_eq_true (by first | (with_reducible assumption) | assumption)
                 have q212 : x5_1 < (l1.length : Int) := of_decide_eq_true (by first | (with_reducible assumption) | assumption)
                 obtain ⟨ad212, A212_0, c212_0, e212, hx212_0, hl212_0, hi212_0⟩ := at_L2 HR1.out x5_1 p212 q212
                 obtain rfl : ad208 = ad212 := (by injection e212)
                 have HR212_0 := Aside0.mk hi212_0
                 have HC212_0 := Aside0.mk hl212_0
                 clear hi212_0 hl212_0
                 replace p212 := eq_true p212
                 replace q212 := eq_true q212
                 have p213 : 0 ≤ (x6_2 : Int) := of_decide_eq_true (by first | (with_reducible assumption) | assumption)
                 have q213 : x6_2 < ((rd_L2 l1 x5_1).length : Int) := of_decide_eq_true (by first | (with_reducible assumption) | assumption)
                 obtain ⟨ad213, e213, hx213_0, hx213_1, hx213_2⟩ := at_T42 HR212_0.out x6_2 p213 q213
                 cases e213
                 replace p213 := eq_true p213
                 replace q213 := eq_true q213
                 go_wp2
                 repeat (go_quiet (fail); try go_wp2)
                 go_ret
                 exact ⟨by first | rfl | (simp; done) | (simp [*]; done), by repeat (first | exact Drawn0.refl _ | apply Drawn0.step)⟩
                ·rw [if_neg c14] at H
                 have c14b0 : (!(((rd_T42 (rd_L2 l0 x5_1) x6_2).f0) == ((rd_T42 (rd_L2 l1 x5_1) x6_2).f0)) || (!(((rd_T42 (rd_L2 l0 x5_1) x6_2).f1) == ((rd_T42 (rd_L2 l1 x5_1) x6_2).f1)) || (!(((rd_T42 (rd_L2 l0 x5_1) x6_2).f2) == ((rd_T42 (rd_L2 l1 x5_1) x6_2).f2))))) = false := by simpa using c14
                 clear c14
                 have H' := Aside0.mk H
                 clear H
                 have p209 : 0 ≤ (x5_1 : Int) := of_decide_eq_true (by first | (with_reducible assumption) | assumption)
                 have q209 : x5_1 < (l0.length : Int) := of_decide_eq_true (by first | (with_reducible assumption) | assumption)
                 obtain ⟨ad209, A209_0, c209_0, e209, hx209_0, hl209_0, hi209_0⟩ := at_L2 HR0.out x5_1 p209 q209
                 obtain rfl : ad207 = ad209 := (by injection e209)
                 have HR209_0 := Aside0.mk hi209_0
                 have HC209_0 := Aside0.mk hl209_0
                 clear hi209_0 hl209_0
                 replace p209 := eq_true p209
                 replace q209 := eq_true q209
                 have p210 : 0 ≤ (x5_1 : Int) := of_decide_eq_true (by first | (with_reducible assumption) | assumption)
                 have q210 : x5_1 < (l0.length : Int) := of_decide_eq_true (by first | (with_reducible assumption) | assumption)
                 obtain ⟨ad210, A210_0, c210_0, e210, hx210_0, hl210_0, hi210_0⟩ := at_L2 HR0.out x5_1 p210 q210
                 obtain rfl : ad207 = ad210 := (by injection e210)
                 have HR210_0 := Aside0.mk hi210_0
                 have HC210_0 := Aside0.mk hl210_0
                 clear hi210_0 hl210_0
                 replace p210 := eq_true p210
                 replace q210 := eq_true q210
                 have ea_ := Option.some.inj (hx209_0.symm.trans hx210_0)
                 injection ea_ with ea_ en_ ec_
                 subst ea_
                 subst ec_
                 clear en_
                 have p211 : 0 ≤ (x6_2 : Int) := of_decide_eq_true (by first | (with_reducible assumption) | assumption)
                 have q211 : x6_2 < ((rd_L2 l0 x5_1).length : Int) := of_decide_eq_true (by first | (with_reducible assumption) | assumption)
                 obtain ⟨ad211, e211, hx211_0, hx211_1, hx211_2⟩ := at_T42 HR210_0.out x6_2 p211 q211
                 cases e211
                 replace p211 := eq_true p211
                 replace q211 := eq_true q211
                 have p212 : 0 ≤ (x5_1 : Int) := of_decide_eq_true (by first | (with_reducible assumption) | assumption)
                 have q212 : x5_1 < (l1.length : Int) := of_decide_eq_true (by first | (with_reducible assumption) | assumption)
                 obtain ⟨ad212, A212_0, c212_0, e212, hx212_0, hl212_0, hi212_0⟩ := at_L2 HR1.out x5_1 p212 q212
                 obtain rfl : ad208 = ad212 := (by injection e212)
                 have HR212_0 := Aside0.mk hi212_0
                 have HC212_0 := Aside0.mk hl212_0
                 clear hi212_0 hl212_0
                 replace p212 := eq_true p212
                 replace q212 := eq_true q212
                 have p213 : 0 ≤ (x6_2 : Int) := of_decide_eq_true (by first | (with_reducible assumption) | assumption)
                 have q213 : x6_2 < ((rd_L2 l1 x5_1).length : Int) := of_decide_eq_true (by first | (with_reducible assumption) | assumption)
                 obtain ⟨ad213, e213, hx213_0, hx213_1, hx213_2⟩ := at_T42 HR212_0.out x6_2 p213 q213
                 cases e213
                 replace p213 := eq_true p213
                 replace q213 := eq_true q213
                 go_wp2
                 repeat (go_quiet (fail); try go_wp2)
                 go_roundg k2
                 case measure => have := HK1.out; have := HK2.out; omega
                 case rel => exact ⟨(wrap64 (x6_2 + 1)), (by first | rfl | (simp; done) | (simp [*]; done)), H', ⟨by have := HK1.out; have := HK2.out; omega⟩, by repeat (first | exact Drawn0.refl _ | apply Drawn0.step)⟩
               ·rw [if_neg c13] at H
                exact absurd H (by simp)
              ·rw [if_neg c12] at H
               exact absurd H (by simp)
             ·rw [if_neg c11] at H
              exact absurd H (by simp)
            ·rw [if_neg c10] at H
             have c10b0 : decide (x6_2 < ((rd_L2 l0 x5_1).length : Int)) = false := decide_eq_false c10
             clear c10
             have H' := Aside0.mk H
             clear H
             have p209 : 0 ≤ (x5_1 : Int) := of_decide_eq_true (by first | (with_reducible assumption) | assumption)
             have q209 : x5_1 < (l0.length : Int) := of_decide_eq_true (by first | (with_reducible assumption) | assumption)
             obtain ⟨ad209, A209_0, c209_0, e209, hx209_0, hl209_0, hi209_0⟩ := at_L2 HR0.out x5_1 p209 q209
             obtain rfl : ad207 = ad209 := (by injection e209)
             have HR209_0 := Aside0.mk hi209_0
             have HC209_0 := Aside0.mk hl209_0
             clear hi209_0 hl209_0
             replace p209 := eq_true p209
             replace q209 := eq_true q209
             go_wp2
             repeat (go_quiet (fail); try go_wp2)
             go_roundg k2
             case measure => have := HK1.out; have := HK2.out; omega
             case rel => exact ⟨(wrap64 (x5_1 + 1)), (by first | rfl | (simp; done) | (simp [*]; done)), H', ⟨by have := HK1.out; have := HK2.out; omega⟩, by repeat (first | exact Drawn0.refl _ | apply Drawn0.step)⟩
           ·rw [if_neg c9] at H
            exact absurd H (by simp)
          ·rw [if_neg c8] at H
           exact absurd H (by simp)
       ·rw [if_neg c7] at H
        have c7b0 : (((rd_L2 l0 x5_1).length : Int) == ((rd_L2 l1 x5_1).length : Int)) = false := beq_eq_false_iff_ne.mpr c7
        have c7b1 : (((rd_L2 l0 x5_1).length : Int) != ((rd_L2 l1 x5_1).length : Int)) = true := bne_iff_ne.mpr c7
        have c7b2 : ((rd_L2 l0 x5_1).length == (rd_L2 l1 x5_1).length) = false := by first | simpa using c7 | (simp at c7 ⊢; omega)
        obtain rfl := Option.some.inj H
        have p207 : 0 ≤ (x5_1 : Int) := of_decide_eq_true (by first | (with_reducible assumption) | assumption)
        have q207 : x5_1 < (l0.length : Int) := of_decide_eq_true (by first | (with_reducible assumption) | assumption)
        obtain ⟨ad207, A207_0, c207_0, e207, hx207_0, hl207_0, hi207_0⟩ := at_L2 HR0.out x5_1 p207 q207
        cases e207
        have HR207_0 := Aside0.mk hi207_0
        have HC207_0 := Aside0.mk hl207_0
        clear hi207_0 hl207_0
        replace p207 := eq_true p207
        replace q207 := eq_true q207
        have p208 : 0 ≤ (x5_1 : Int) := of_decide_eq_true (by first | (with_reducible assumption) | assumption)
        have q208 : x5_1 < (l1.length : Int) := of_decide_eq_true (by first | (with_reducible assumption) | assumption)
        obtain ⟨ad208, A208_0, c208_0, e208, hx208_0, hl208_0, hi208_0⟩ := at_L2 HR1.out x5_1 p208 q208
        cases e208
        have HR208_0 := Aside0.mk hi208_0
        have HC208_0 := Aside0.mk hl208_0
        clear hi208_0 hl208_0
        replace p208 := eq_true p208
        replace q208 := eq_true q208
        go_wp2
        repeat (go_quiet (fail); try go_wp2)
        go_ret
        exact ⟨by first | rfl | (simp; done) | (simp [*]; done), by repeat (first | exact Drawn0.refl _ | apply Drawn0.step)⟩
      ·rw [if_neg c6] at H
       exact absurd H (by simp)
     ·rw [if_neg c5] at H
      exact absurd H (by simp)
    ·rw [if_neg c4] at H
     have c4b0 : decide (x5_1 < (l0.length : Int)) = false := decide_eq_false c4
     clear c4
     obtain rfl := Option.some.inj H
     go_wp2
     repeat (go_quiet (fail); try go_wp2)
     go_ret
     exact ⟨by first | rfl | (simp; done) | (simp [*]; done), by repeat (first | exact Drawn0.refl _ | apply Drawn0.step)⟩
 ·rw [if_neg c3] at H
  have c3b0 : ((l0.length : Int) == (l1.length : Int)) = false := beq_eq_false_iff_ne.mpr c3
  have c3b1 : ((l0.length : Int) != (l1.length : Int)) = true := bne_iff_ne.mpr c3
  have c3b2 : (l0.length == l1.length) = false := by first | simpa using c3 | (simp at c3 ⊢; omega)
  obtain rfl := Option.some.inj H
  go_enter Try.func29, Try.ntmps29
  go_wp2
  repeat (go_quiet (fail); try go_wp2)
  go_ret
  exact ⟨by first | rfl | (simp; done) | (simp [*]; done), by repeat (first | exact Drawn0.refl _ | apply Drawn0.step)⟩

end Go.Proofs.Ytfbkjgedaadlmaa.P
