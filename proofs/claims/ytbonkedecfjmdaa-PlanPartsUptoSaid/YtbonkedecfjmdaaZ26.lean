/- Written for this claim by a program of this session (a turned copy of the print): Go functions as Lean functions, and that the Go code comes to just these answers; or a statement proved out of them. No condition. -/
import Derived.Test.YtbonkedecfjmdaaZ25
import Derived.Test.YtbonkedecfjmdaaZ2
import Derived.Test.YtbonkedecfjmdaaZ23
import Derived.Test.YtbonkedecfjmdaaZ24
import Derived.Test.YtbonkedecfjmdaaZ12

namespace Go.Proofs.Ytbonkedecfjmdaa.P
open Go.RowKit Go.Proofs.YtbonkedecfjmdaaW.PrintWords Go.Proofs.YtbonkedecfjmdaaW.PrintLast Go.Proofs.YtbonkedecfjmdaaW.PrintMore Go.Proofs.Ytbonkedecfjmdaa.X
attribute [local go_sem] max2_int min2_int max_two min_two max_three min_three max_four min_four add64_0 add64_1 add64
set_option linter.unusedVariables false
set_option linter.unusedSimpArgs false
def plan_Meets.f (l0_0 : List (List (S27))) (l0_1 : List (List Int)) (l0_2 : List (List Int)) : Option (Bool) := if l0_0.length ≤ 1048576 ∧ ∀ x ∈ l0_0, x.length ≤ 1048576 then (some (Pl.meetsV l0_0)) else (none)
set_option maxHeartbeats 8000000 in
set_option maxRecDepth 100000 in
theorem plan_Meets.calls (A0_0 : Option Addr) (c0_0 : Nat) (l0_0 : List (List (S27))) (A0_1 : Option Addr) (c0_1 : Nat) (l0_1 : List (List Int)) (A0_2 : Option Addr) (c0_2 : Nat) (l0_2 : List (List Int)) (r : Bool) (w : World) (hr0_0 : Kd.C (Kd.slice 27 k27) w A0_0 l0_0.length l0_0) (hc0_0 : l0_0.length ≤ c0_0) (hr0_1 : Kd.C (Kd.slice 3 (Kd.int .i64)) w A0_1 l0_1.length l0_1) (hc0_1 : l0_1.length ≤ c0_1) (hr0_2 : Kd.C (Kd.slice 3 (Kd.int .i64)) w A0_2 l0_2.length l0_2) (hc0_2 : l0_2.length ≤ c0_2) (h : plan_Meets.f l0_0 l0_1 l0_2 = some r) :
  Calls Try.prog 57 #[.agg #[.slice A0_0 l0_0.length c0_0, .slice A0_1 l0_1.length c0_1, .slice A0_2 l0_2.length c0_2]] w fun e w' => e = .returned (.bool r) ∧ Below w.heap.size w w' := by
 unfold plan_Meets.f at h
 by_cases hl : l0_0.length ≤ 1048576 ∧ ∀ x ∈ l0_0, x.length ≤ 1048576
 ·rw [if_pos hl] at h
  obtain rfl := Option.some.inj h
  exact Pl.meets_calls A0_0 A0_1 A0_2 c0_0 c0_1 c0_2 l0_0 l0_1 l0_2 w hr0_0 hc0_0 hr0_1 hc0_1 hr0_2 hc0_2 hl.1 hl.2
 ·rw [if_neg hl] at h; cases h

mutual
def plan_Check.j0 : Nat → Int → Bool → List (List (S27)) → List (List Int) → List (List Int) → Option (Int)
 | 0, _, _, _, _, _ => none
 | k + 1, x3, x4, x652000, x652001, x652002 => if x3 = 3 then (plan_Check.j1 k x3 true x652000 x652001 x652002) else (plan_Check.j1 k x3 x4 x652000 x652001 x652002)
def plan_Check.j1 : Nat → Int → Bool → List (List (S27)) → List (List Int) → List (List Int) → Option (Int)
 | 0, _, _, _, _, _ => none
 | k + 1, x3, x32, x652000, x652001, x652002 => if x32 = true then (some 3) else (if x3 = 0 then ((plan_Meets.f x652000 x652001 x652002).bind fun t659 => (if t659 = true then (some 91) else ((plan_Closes.f x652000 x652001 x652002).bind fun t660 => (if t660 = true then ((plan_Fills.f x652000 x652001 x652002).bind fun t661 => (if t661 = true then (some 0) else (some 92))) else (some 90))))) else (some x3))
end
def plan_Check.f (k : Nat) (l0_0 : List (List (S27))) (l0_1 : List (List Int)) (l0_2 : List (List Int)) : Option (Int) := (arc_Check.f k l0_0).bind fun t652 => (if (l0_1.length : Int) > 1000 then (plan_Check.j0 k t652 true l0_0 l0_1 l0_2) else (if (l0_2.length : Int) > 1000 then (plan_Check.j0 k t652 true l0_0 l0_1 l0_2) else ((slices_Concat_int_int.f l0_1).bind fun t653 => (if (t653.length : Int) > 20000 then (plan_Check.j0 k t652 true l0_0 l0_1 l0_2) else ((slices_Concat_int_int.f l0_2).bind fun t656 => (plan_Check.j0 k t652 (decide ((t656.length : Int) > 20000)) l0_0 l0_1 l0_2))))))
theorem plan_Check.mono_l : ∀ k, (∀ y0 y1 y2 y3 y4, LeO (plan_Check.j0 k y0 y1 y2 y3 y4) (plan_Check.j0 (k + 1) y0 y1 y2 y3 y4)) ∧ (∀ y0 y1 y2 y3 y4, LeO (plan_Check.j1 k y0 y1 y2 y3 y4) (plan_Check.j1 (k + 1) y0 y1 y2 y3 y4))
 | 0 => ⟨fun _ _ _ _ _ r h => by simp [plan_Check.j0] at h, fun _ _ _ _ _ r h => by simp [plan_Check.j1] at h⟩
 | k + 1 => by
  obtain ⟨ih0, ih1⟩ := plan_Check.mono_l k
  refine ⟨?_, ?_⟩
  all_goals
   intros
   first | unfold plan_Check.j0 | unfold plan_Check.j1
   repeat' with_reducible first | exact ih0 _ _ _ _ _ | exact ih1 _ _ _ _ _ | exact arc_Check.mono _ _ | exact LeO.refl _ | exact LeO.none _ | refine LeO.ite ?_ ?_ | refine LeO.bind ?_ (fun _ => ?_)
theorem plan_Check.mono : ∀ a0 a1 a2 k, LeO (plan_Check.f k a0 a1 a2) (plan_Check.f (k + 1) a0 a1 a2) := by
 intro a0 a1 a2 k
 obtain ⟨ih0, ih1⟩ := plan_Check.mono_l k
 unfold plan_Check.f
 repeat' first
   | (with_reducible exact ih0 _ _ _ _ _)
   | (with_reducible exact ih1 _ _ _ _ _)
   | (with_reducible exact arc_Check.mono _ _)
   | (with_reducible exact LeO.refl _)
   | (with_reducible exact LeO.none _)
   | (with_reducible refine LeO.ite ?_ ?_)
   | (with_reducible refine LeO.bind ?_ (fun _ => ?_))
   | exact ih0 _ _ _ _ _
   | exact ih1 _ _ _ _ _
   | exact arc_Check.mono _ _
   | exact LeO.none _
   | refine LeO.ite ?_ ?_
   | refine LeO.bind ?_ (fun _ => ?_)
set_option maxHeartbeats 8000000 in
set_option maxRecDepth 100000 in
theorem plan_Check.calls (k : Nat) (A0_0 : Option Addr) (c0_0 : Nat) (l0_0 : List (List (S27))) (A0_1 : Option Addr) (c0_1 : Nat) (l0_1 : List (List Int)) (A0_2 : Option Addr) (c0_2 : Nat) (l0_2 : List (List Int)) (r : Int) (w : World) (hr0_0 : Kd.C (Kd.slice 27 k27) w A0_0 l0_0.length l0_0) (hc0_0 : l0_0.length ≤ c0_0) (hr0_1 : Kd.C (Kd.slice 3 (Kd.int .i64)) w A0_1 l0_1.length l0_1) (hc0_1 : l0_1.length ≤ c0_1) (hr0_2 : Kd.C (Kd.slice 3 (Kd.int .i64)) w A0_2 l0_2.length l0_2) (hc0_2 : l0_2.length ≤ c0_2) (h : plan_Check.f k l0_0 l0_1 l0_2 = some r) :
  Calls Try.prog 31 #[.agg #[.slice A0_0 l0_0.length c0_0, .slice A0_1 l0_1.length c0_1, .slice A0_2 l0_2.length c0_2]] w fun e w' => e = .returned (.int .i64 r) ∧ Below w.heap.size w w' := by
 have hu25 := Try.underlying25
 have HR0_0 := AM hr0_0
 have HC0_0 := AM hc0_0
 clear hr0_0 hc0_0
 have HR0_1 := AM hr0_1
 have HC0_1 := AM hc0_1
 clear hr0_1 hc0_1
 have HR0_2 := AM hr0_2
 have HC0_2 := AM hc0_2
 clear hr0_2 hc0_2
 have HB := AM (Below.refl w.heap.size w)
 have H : ((arc_Check.f k l0_0).bind fun t652 => (if (l0_1.length : Int) > 1000 then (plan_Check.j0 k t652 true l0_0 l0_1 l0_2) else (if (l0_2.length : Int) > 1000 then (plan_Check.j0 k t652 true l0_0 l0_1 l0_2) else ((slices_Concat_int_int.f l0_1).bind fun t653 => (if (t653.length : Int) > 20000 then (plan_Check.j0 k t652 true l0_0 l0_1 l0_2) else ((slices_Concat_int_int.f l0_2).bind fun t656 => (plan_Check.j0 k t652 (decide ((t656.length : Int) > 20000)) l0_0 l0_1 l0_2))))))) = some r := h
 clear h
 obtain ⟨t652, A2, H⟩ := bS H
 have HC3 := AM H
 clear H
 go_enter Try.func31, Try.ntmps31
 go_upto_region 2 with (first | ((with_reducible refine gate_dst (N := 1) rfl ?_); (try (refine gate_guard (by rfl) ?_; dsimp only)); refine bE 1 #[.slice A0_0 l0_0.length c0_0, .slice A0_1 l0_1.length c0_1, .slice A0_2 l0_2.length c0_2] 25 ?_; intro gb651 hg w4 hbox hb; have BK651 := AM hbox; have GW651 := kG HB hg; replace HB := kH HB hb; have GE651 := GW651; clear hb hbox hg; obtain ⟨hcz5_0, hcz5_1, hcz5_2, hfz5_0, hfz5_1, hfz5_2⟩ := c3 BK651) | ((with_reducible refine gate_callee (f := 56) rfl ?_); refine gL (some 7) Try.func56 #[.slice A0_0 l0_0.length c0_0] ?_; (with_reducible refine (arc_Check.calls k _ _ l0_0 t652 _ ?side1 ?side2 A2.out).mono ?_); (case side1 => exact sC HR0_0 HB); (case side2 => exact HC0_0.out); rintro e w6 ⟨rfl, hb⟩; refine ⟨_, rfl, ?_⟩; replace BK651 := kB BK651 hb; replace HB := kH HB hb; (try clear hb); (try clear hb2); (try clear hk); (try clear hi)))
 (try simp only [Act.put, List.setIfInBounds_toArray, List.set_cons_zero, List.set_cons_succ])
 go_cut [4] (fun v4 wc => ∃ (kq : Nat) (x4_2 : Bool), v4 = .bool x4_2 ∧ Aside0 (plan_Check.j0 kq t652 x4_2 l0_0 l0_1 l0_2 = some r) ∧ Aside0 (kq ≤ k) ∧ Aside0 (wc.heap[gb651]? = some (.cells #[(.slice A0_0 l0_0.length c0_0), (.slice A0_1 l0_1.length c0_1), (.slice A0_2 l0_2.length c0_2)] 25 (0, 0))) ∧ Aside0 (Below w.heap.size w wc))
 case first =>
  have H := HC3.out; clear HC3
  by_cases c7 : (l0_1.length : Int) > 1000
  ·rw [if_pos c7] at H
   have c7b0 := decide_eq_true c7
   have c7b1 : decide (1000 < l0_1.length) = true := decide_eq_true (by omega)
   clear c7
   (first | rw [c7b0] | (simp only [i64_w, i32_w]; rw [c7b0]) | skip)
   have H' := AM H
   clear H; obtain ⟨hcz8_0, hcz8_1, hcz8_2, hfz8_0, hfz8_1, hfz8_2⟩ := c3 BK651
   go_wp2
   go_meet
   case rel => exact ⟨_, (true), rS, H', ⟨by first | omega | exact Nat.le_refl _⟩, ⟨bK BK651⟩, ⟨ bH HB⟩⟩
  ·rw [if_neg c7] at H
   have c7b0 := decide_eq_false c7
   have c7b1 : decide (1000 < l0_1.length) = false := decide_eq_false (by omega)
   clear c7
   (first | rw [c7b0] | (simp only [i64_w, i32_w]; rw [c7b0]) | skip)
   by_cases c9 : (l0_2.length : Int) > 1000
   ·rw [if_pos c9] at H
    have c9b0 := decide_eq_true c9
    have c9b1 : decide (1000 < l0_2.length) = true := decide_eq_true (by omega)
    clear c9
    have H' := AM H
    clear H; obtain ⟨hcz10_0, hcz10_1, hcz10_2, hfz10_0, hfz10_1, hfz10_2⟩ := c3 BK651
    go_wp2
    go_meet
    case rel => exact ⟨_, (true), rS, H', ⟨by first | omega | exact Nat.le_refl _⟩, ⟨bK BK651⟩, ⟨ bH HB⟩⟩
   ·rw [if_neg c9] at H
    have c9b0 := decide_eq_false c9
    have c9b1 : decide (1000 < l0_2.length) = false := decide_eq_false (by omega)
    clear c9
    obtain ⟨t653, A11, H⟩ := bS H
    by_cases c12 : (t653.length : Int) > 20000
    ·rw [if_pos c12] at H
     have c12b0 := decide_eq_true c12
     have c12b1 : decide (20000 < t653.length) = true := decide_eq_true (by omega)
     clear c12
     have H' := AM H
     clear H; obtain ⟨hcz13_0, hcz13_1, hcz13_2, hfz13_0, hfz13_1, hfz13_2⟩ := c3 BK651
     go_wp2_with (first | (go_at_call 39; (with_reducible refine (slices_Concat_int_int.calls _ _ l0_1 t653 _ ?side1 ?side2 A11.out).mono ?_); (case side1 => exact sC HR0_1 HB); (case side2 => exact HC0_1.out); rintro e w14 ⟨v654, rfl, ho0, hb⟩; have HO655 := AM (Kd.R_lower ho0 (below_size (bH HB))); replace BK651 := kB BK651 hb; replace HB := kH HB hb; (try clear hb); (try clear hb2); (try clear hk); (try clear hi); (try clear ho0); obtain ⟨Ao15, co15, eo15⟩ := Kd.R_slice HO655.out; subst eo15))
     go_meet
     case rel => exact ⟨_, (true), rS, H', ⟨by first | omega | exact Nat.le_refl _⟩, ⟨bK BK651⟩, ⟨ bH HB⟩⟩
    ·rw [if_neg c12] at H
     have c12b0 := decide_eq_false c12
     have c12b1 : decide (20000 < t653.length) = false := decide_eq_false (by omega)
     clear c12
     obtain ⟨t656, A16, H⟩ := bS H
     have H' := AM H
     clear H; obtain ⟨hcz17_0, hcz17_1, hcz17_2, hfz17_0, hfz17_1, hfz17_2⟩ := c3 BK651
     go_wp2_with (first | (go_at_call 39; (with_reducible refine (slices_Concat_int_int.calls _ _ l0_1 t653 _ ?side1 ?side2 A11.out).mono ?_); (case side1 => exact sC HR0_1 HB); (case side2 => exact HC0_1.out); rintro e w18 ⟨v654, rfl, ho0, hb⟩; have HO655 := AM (Kd.R_lower ho0 (below_size (bH HB))); replace BK651 := kB BK651 hb; replace HB := kH HB hb; (try clear hb); (try clear hb2); (try clear hk); (try clear hi); (try clear ho0); obtain ⟨Ao19, co19, eo19⟩ := Kd.R_slice HO655.out; subst eo19; obtain ⟨hcz20_0, hcz20_1, hcz20_2, hfz20_0, hfz20_1, hfz20_2⟩ := c3 BK651) | (go_at_call 39; (with_reducible refine (slices_Concat_int_int.calls _ _ l0_2 t656 _ ?side1 ?side2 A16.out).mono ?_); (case side1 => exact sC HR0_2 HB); (case side2 => exact HC0_2.out); rintro e w21 ⟨v657, rfl, ho0, hb⟩; have HO658 := AM (Kd.R_lower (Kd.R_new' ho0 (Kd.R_lt (rK HO655))) (below_size (bH HB))); replace HO655 := AM (Kd.R_elder' (rK HO655) (Kd.R_base ho0) hb); replace BK651 := kB BK651 hb; replace HB := kH HB hb; (try clear hb); (try clear hb2); (try clear hk); (try clear hi); (try clear ho0); obtain ⟨Ao22, co22, eo22⟩ := Kd.R_slice HO658.out; subst eo22))
     go_meet
     case rel => exact ⟨_, (decide ((t656.length : Int) > 20000)), rS, H', ⟨by first | omega | exact Nat.le_refl _⟩, ⟨bK BK651⟩, ⟨ bH HB⟩⟩
 case rest =>
  clear HC3; (try clear c1); (try clear p2); (try clear c3); (try clear c5); (try clear c7); (try clear c7b0); (try clear c7b1); (try clear c9); (try clear c9b0); (try clear c9b1); (try clear c12); (try clear c12b0); (try clear c12b1); (try clear hcz10_0); (try clear hcz10_1); (try clear hcz10_2); (try clear hcz13_0); (try clear hcz13_1); (try clear hcz13_2); (try clear hcz17_0); (try clear hcz17_1); (try clear hcz17_2); (try clear hcz20_0); (try clear hcz20_1); (try clear hcz20_2); (try clear hcz5_0); (try clear hcz5_1); (try clear hcz5_2); (try clear hcz8_0); (try clear hcz8_1); (try clear hcz8_2); (try clear hfz10_0); (try clear hfz10_1); (try clear hfz10_2); (try clear hfz13_0); (try clear hfz13_1); (try clear hfz13_2); (try clear hfz17_0); (try clear hfz17_1); (try clear hfz17_2); (try clear hfz20_0); (try clear hfz20_1); (try clear hfz20_2); (try clear hfz5_0); (try clear hfz5_1); (try clear hfz5_2); (try clear hfz8_0); (try clear hfz8_1); (try clear hfz8_2)
  obtain ⟨kq, x4_2, rfl, HA, HJ2, BK651, HB⟩ := hcut
  cases kq with
  | zero => exact absurd HA.out (by simp [plan_Check.j0])
  | succ kj2 =>
   have H := HA.out; clear HA
   simp only [plan_Check.j0] at H
   have HC23 := AM H
   clear H
   go_upto_region 3 with (fail)
   go_cut [32] (fun v32 wc => ∃ (kq : Nat) (x32_22 : Bool), v32 = .bool x32_22 ∧ Aside0 (plan_Check.j1 kq t652 x32_22 l0_0 l0_1 l0_2 = some r) ∧ Aside0 (kq ≤ kj2) ∧ Aside0 (wc.heap[gb651]? = some (.cells #[(.slice A0_0 l0_0.length c0_0), (.slice A0_1 l0_1.length c0_1), (.slice A0_2 l0_2.length c0_2)] 25 (0, 0))) ∧ Aside0 (Below w.heap.size w wc))
   case first =>
    have H := HC23.out; clear HC23
    by_cases c24 : t652 = 3
    ·rw [if_pos c24] at H
     have c24b0 : (t652 == 3) = true := beq_iff_eq.mpr c24
     have c24b1 : (t652 != 3) = false := bne_eq_false_iff_eq.mpr c24
     clear c24
     (first | rw [c24b0] | (simp only [i64_w, i32_w]; rw [c24b0]) | skip)
     have H' := AM H
     clear H
     go_wp2
     go_meet
     case rel => exact ⟨_, (true), rS, H', ⟨by have := HJ2.out; first | omega | exact Nat.le_refl _⟩, ⟨bK BK651⟩, ⟨ bH HB⟩⟩
    ·rw [if_neg c24] at H
     have c24b0 : (t652 == 3) = false := beq_eq_false_iff_ne.mpr c24
     have c24b1 : (t652 != 3) = true := bne_iff_ne.mpr c24
     (first | rw [c24b0] | (simp only [i64_w, i32_w]; rw [c24b0]) | skip)
     have H' := AM H
     clear H
     go_wp2
     go_meet
     case rel => exact ⟨_, (x4_2), rS, H', ⟨by have := HJ2.out; first | omega | exact Nat.le_refl _⟩, ⟨bK BK651⟩, ⟨ bH HB⟩⟩
   case rest =>
    clear HC23; (try clear c1); (try clear c2); (try clear p2); (try clear c3); (try clear c5); (try clear c7); (try clear c7b0); (try clear c7b1); (try clear c9); (try clear c9b0); (try clear c9b1); (try clear c12); (try clear c12b0); (try clear c12b1); (try clear c24); (try clear c24b0); (try clear c24b1); (try clear hcz10_0); (try clear hcz10_1); (try clear hcz10_2); (try clear hcz13_0); (try clear hcz13_1); (try clear hcz13_2); (try clear hcz17_0); (try clear hcz17_1); (try clear hcz17_2); (try clear hcz20_0); (try clear hcz20_1); (try clear hcz20_2); (try clear hcz5_0); (try clear hcz5_1); (try clear hcz5_2); (try clear hcz8_0); (try clear hcz8_1); (try clear hcz8_2); (try clear hfz10_0); (try clear hfz10_1); (try clear hfz10_2); (try clear hfz13_0); (try clear hfz13_1); (try clear hfz13_2); (try clear hfz17_0); (try clear hfz17_1); (try clear hfz17_2); (try clear hfz20_0); (try clear hfz20_1); (try clear hfz20_2); (try clear hfz5_0); (try clear hfz5_1); (try clear hfz5_2); (try clear hfz8_0)
    (try clear hfz8_1); (try clear hfz8_2); (try clear p2)
    obtain ⟨kq, x32_22, rfl, HA, HJ22, BK651, HB⟩ := hcut
    cases kq with
    | zero => exact absurd HA.out (by simp [plan_Check.j1])
    | succ kj22 =>
     have H := HA.out; clear HA
     simp only [plan_Check.j1] at H
     by_cases c25 : x32_22 = true
     ·subst c25
      have H1 : (some 3) = some r := by rw [if_pos rfl] at H; exact H
      clear H; have H := H1; clear H1
      obtain rfl := Option.some.inj H
      go_wp2
      go_ret
      exact ⟨rE, bH HB⟩
     ·replace c25 := Bool.eq_false_iff.mpr c25
      subst c25
      have H1 : (if t652 = 0 then ((plan_Meets.f l0_0 l0_1 l0_2).bind fun t659 => (if t659 = true then (some 91) else ((plan_Closes.f l0_0 l0_1 l0_2).bind fun t660 => (if t660 = true then ((plan_Fills.f l0_0 l0_1 l0_2).bind fun t661 => (if t661 = true then (some 0) else (some 92))) else (some 90))))) else (some t652)) = some r := by rw [if_neg (show ¬ (false = true) by decide)] at H; exact H
      clear H; have H := H1; clear H1
      by_cases c26 : t652 = 0
      ·rw [if_pos c26] at H
       have c26b0 : (t652 == 0) = true := beq_iff_eq.mpr c26
       have c26b1 : (t652 != 0) = false := bne_eq_false_iff_eq.mpr c26
       clear c26
       obtain ⟨t659, A27, H⟩ := bS H
       have HC28 := AM H
       clear H; obtain ⟨hcz29_0, hcz29_1, hcz29_2, hfz29_0, hfz29_1, hfz29_2⟩ := c3 BK651
       go_upto_if 42 with (first | ((with_reducible refine gate_callee (f := 57) rfl ?_); refine gL (some 44) Try.func57 #[.agg #[.slice A0_0 l0_0.length c0_0, .slice A0_1 l0_1.length c0_1, .slice A0_2 l0_2.length c0_2]] ?_; (with_reducible refine (plan_Meets.calls _ _ l0_0 _ _ l0_1 _ _ l0_2 t659 _ ?side1 ?side2 ?side3 ?side4 ?side5 ?side6 A27.out).mono ?_); (case side1 => exact sC HR0_0 HB); (case side2 => exact HC0_0.out); (case side3 => exact sC HR0_1 HB); (case side4 => exact HC0_1.out); (case side5 => exact sC HR0_2 HB); (case side6 => exact HC0_2.out); rintro e w30 ⟨rfl, hb⟩; refine ⟨_, rfl, ?_⟩; replace BK651 := kB BK651 hb; replace HB := kH HB hb; (try clear hb); (try clear hb2); (try clear hk); (try clear hi)))
       (try simp only [Act.put, List.setIfInBounds_toArray, List.set_cons_zero, List.set_cons_succ])
       have H := HC28.out; clear HC28
       by_cases c31 : t659 = true
       ·subst c31
        have H1 : (some 91) = some r := by rw [if_pos rfl] at H; exact H
        clear H; have H := H1; clear H1
        obtain rfl := Option.some.inj H
        go_wp2
        go_ret
        exact ⟨rE, bH HB⟩
       ·replace c31 := Bool.eq_false_iff.mpr c31
        subst c31
        have H1 : ((plan_Closes.f l0_0 l0_1 l0_2).bind fun t660 => (if t660 = true then ((plan_Fills.f l0_0 l0_1 l0_2).bind fun t661 => (if t661 = true then (some 0) else (some 92))) else (some 90))) = some r := by rw [if_neg (show ¬ (false = true) by decide)] at H; exact H
        clear H; have H := H1; clear H1
        obtain ⟨t660, A32, H⟩ := bS H
        have HC33 := AM H
        clear H; obtain ⟨hcz34_0, hcz34_1, hcz34_2, hfz34_0, hfz34_1, hfz34_2⟩ := c3 BK651
        go_upto_if 45 with (first | ((with_reducible refine gate_callee (f := 13) rfl ?_); refine gL (some 47) Try.func13 #[.agg #[.slice A0_0 l0_0.length c0_0, .slice A0_1 l0_1.length c0_1, .slice A0_2 l0_2.length c0_2]] ?_; (with_reducible refine (plan_Closes.calls _ _ l0_0 _ _ l0_1 _ _ l0_2 t660 _ ?side1 ?side2 ?side3 ?side4 ?side5 ?side6 A32.out).mono ?_); (case side1 => exact sC HR0_0 HB); (case side2 => exact HC0_0.out); (case side3 => exact sC HR0_1 HB); (case side4 => exact HC0_1.out); (case side5 => exact sC HR0_2 HB); (case side6 => exact HC0_2.out); rintro e w35 ⟨rfl, hb⟩; refine ⟨_, rfl, ?_⟩; replace BK651 := kB BK651 hb; replace HB := kH HB hb; (try clear hb); (try clear hb2); (try clear hk); (try clear hi)))
        (try simp only [Act.put, List.setIfInBounds_toArray, List.set_cons_zero, List.set_cons_succ])
        have H := HC33.out; clear HC33
        by_cases c36 : t660 = true
        ·subst c36
         have H1 : ((plan_Fills.f l0_0 l0_1 l0_2).bind fun t661 => (if t661 = true then (some 0) else (some 92))) = some r := by rw [if_pos rfl] at H; exact H
         clear H; have H := H1; clear H1
         obtain ⟨t661, A37, H⟩ := bS H
         have HC38 := AM H
         clear H; obtain ⟨hcz39_0, hcz39_1, hcz39_2, hfz39_0, hfz39_1, hfz39_2⟩ := c3 BK651
         go_upto_if 49 with (first | ((with_reducible refine gate_callee (f := 15) rfl ?_); refine gL (some 51) Try.func15 #[.agg #[.slice A0_0 l0_0.length c0_0, .slice A0_1 l0_1.length c0_1, .slice A0_2 l0_2.length c0_2]] ?_; (with_reducible refine (plan_Fills.calls _ _ l0_0 _ _ l0_1 _ _ l0_2 t661 _ ?side1 ?side2 ?side3 ?side4 ?side5 ?side6 A37.out).mono ?_); (case side1 => exact sC HR0_0 HB); (case side2 => exact HC0_0.out); (case side3 => exact sC HR0_1 HB); (case side4 => exact HC0_1.out); (case side5 => exact sC HR0_2 HB); (case side6 => exact HC0_2.out); rintro e w40 ⟨rfl, hb⟩; refine ⟨_, rfl, ?_⟩; replace BK651 := kB BK651 hb; replace HB := kH HB hb; (try clear hb); (try clear hb2); (try clear hk); (try clear hi)))
         (try simp only [Act.put, List.setIfInBounds_toArray, List.set_cons_zero, List.set_cons_succ])
         have H := HC38.out; clear HC38
         by_cases c41 : t661 = true
         ·subst c41
          have H1 : (some 0) = some r := by rw [if_pos rfl] at H; exact H
          clear H; have H := H1; clear H1
          obtain rfl := Option.some.inj H
          go_wp2
          go_ret
          exact ⟨rE, bH HB⟩
         ·replace c41 := Bool.eq_false_iff.mpr c41
          subst c41
          have H1 : (some 92) = some r := by rw [if_neg (show ¬ (false = true) by decide)] at H; exact H
          clear H; have H := H1; clear H1
          obtain rfl := Option.some.inj H
          go_wp2
          go_ret
          exact ⟨rE, bH HB⟩
        ·replace c36 := Bool.eq_false_iff.mpr c36
         subst c36
         have H1 : (some 90) = some r := by rw [if_neg (show ¬ (false = true) by decide)] at H; exact H
         clear H; have H := H1; clear H1
         obtain rfl := Option.some.inj H
         go_wp2
         go_ret
         exact ⟨rE, bH HB⟩
      ·rw [if_neg c26] at H
       have c26b0 : (t652 == 0) = false := beq_eq_false_iff_ne.mpr c26
       have c26b1 : (t652 != 0) = true := bne_iff_ne.mpr c26
       obtain rfl := Option.some.inj H
       go_wp2
       go_ret
       exact ⟨rE, bH HB⟩
end Go.Proofs.Ytbonkedecfjmdaa.P
