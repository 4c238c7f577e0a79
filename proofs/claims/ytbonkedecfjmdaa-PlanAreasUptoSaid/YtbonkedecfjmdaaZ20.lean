/- Written for this claim by a program of this session (a turned copy of the print): Go functions as Lean functions, and that the Go code comes to just these answers; or a statement proved out of them. No condition. plan.Check's value. -/
import Derived.Test.YtbonkedecfjmdaaZ2
import Derived.Test.YtbonkedecfjmdaaZ17
import Derived.Test.YtbonkedecfjmdaaZ19
import Derived.Test.YtbonkedecfjmdaaZ3

namespace Go.Proofs.Ytbonkedecfjmdaa.P
open Go.RowKit Go.Proofs.YtbonkedecfjmdaaW.PrintWords Go.Proofs.YtbonkedecfjmdaaW.PrintLast Go.Proofs.YtbonkedecfjmdaaW.PrintMore Go.Proofs.Ytbonkedecfjmdaa.X
attribute [local go_sem] max2_int min2_int max_two min_two max_three min_three max_four min_four add64_0 add64_1 add64   -- for this text's walks alone
set_option linter.unusedVariables false
set_option linter.unusedSimpArgs false

/-! ### plan_Check: function 31 -/
mutual
def plan_Check.j0 : Nat → Int → Bool → List (List (S27)) → List (List Int) → List (List Int) → Option (Int)
 | 0, _, _, _, _, _ => none
 | k + 1, x3, x4, x652000, x652001, x652002 => if x3 = 3 then (plan_Check.j1 k x3 true x652000 x652001 x652002) else (plan_Check.j1 k x3 x4 x652000 x652001 x652002)
def plan_Check.j1 : Nat → Int → Bool → List (List (S27)) → List (List Int) → List (List Int) → Option (Int)
 | 0, _, _, _, _, _ => none
 | k + 1, x3, x32, x652000, x652001, x652002 => if x32 = true then (some 3) else (if x3 = 0 then ((plan_Meets.f x652000 x652001 x652002).bind fun t659 => (if t659 = true then (some 91) else ((plan_Closes.f x652000 x652001 x652002).bind fun t660 => (if t660 = true then ((plan_Fills.f x652000 x652001 x652002).bind fun t661 => (if t661 = true then (some 0) else (some 92))) else (some 90))))) else (some x3))
end
def plan_Check.f (k : Nat) (l0_0 : List (List (S27))) (l0_1 : List (List Int)) (l0_2 : List (List Int)) : Option (Int) := (arc_Check.f k l0_0).bind fun t652 => (if (l0_1.length : Int) > 1000 then (plan_Check.j0 k t652 true l0_0 l0_1 l0_2) else (if (l0_2.length : Int) > 1000 then (plan_Check.j0 k t652 true l0_0 l0_1 l0_2) else ((slices_Concat_int_int.f l0_1).bind fun t653 => (if (t653.length : Int) > 20000 then (plan_Check.j0 k t652 true l0_0 l0_1 l0_2) else ((slices_Concat_int_int.f l0_2).bind fun t656 => (plan_Check.j0 k t652 (decide ((t656.length : Int) > 20000)) l0_0 l0_1 l0_2))))))
theorem plan_Check.mono_l : ∀ k, (∀ y0 y1 y2 y3 y4, LeO (plan_Check.j0 k y0 y1 y2 y3 y4) (plan_Check.j0 (k + 1) y0 y1 y2 y3 y4)) ∧ (∀ y0 y1 y2 y3 y4, LeO (plan_Check.j1 k y0 y1 y2 y3 y4) (plan_Check.j1 (k + 1) y0 y1 y2 y3 y4))
 | 0 => ⟨fun _ _ _ _ _ r h => by simp [plan_Check.j0] at h, fun _ _ _ _ _ r h => by simp [plan_Check.j1] at h⟩
 | k + 1 => by
  obtain ⟨ih0, ih1⟩ := plan_Check.mono_l k
  refine ⟨?_, ?_⟩
  ·intro y0 y1 y2 y3 y4
   unfold plan_Check.j0
   repeat' first
   | (with_reducible exact ih0 _ _ _ _ _)
   | (with_reducible exact ih1 _ _ _ _ _)
   | (with_reducible exact arc_Check.mono _ _)
   | (with_reducible exact LeO.refl _)
   | (with_reducible exact LeO.none _)
   | (with_reducible refine LeO.ite ?_ ?_)
   | (with_reducible refine LeO.bind ?_ (fun _ => ?_))
   | exact ih0 _ _ _ _ _
   | exact ih1 _ _ _ _ _
   | exact arc_Check.mono _ _
   | exact LeO.none _
   | refine LeO.ite ?_ ?_
   | refine LeO.bind ?_ (fun _ => ?_)
  ·intro y0 y1 y2 y3 y4
   unfold plan_Check.j1
   repeat' first
   | (with_reducible exact ih0 _ _ _ _ _)
   | (with_reducible exact ih1 _ _ _ _ _)
   | (with_reducible exact arc_Check.mono _ _)
   | (with_reducible exact LeO.refl _)
   | (with_reducible exact LeO.none _)
   | (with_reducible refine LeO.ite ?_ ?_)
   | (with_reducible refine LeO.bind ?_ (fun _ => ?_))
   | exact ih0 _ _ _ _ _
   | exact ih1 _ _ _ _ _
   | exact arc_Check.mono _ _
   | exact LeO.none _
   | refine LeO.ite ?_ ?_
   | refine LeO.bind ?_ (fun _ => ?_)
theorem plan_Check.mono : ∀ a0 a1 a2 k, LeO (plan_Check.f k a0 a1 a2) (plan_Check.f (k + 1) a0 a1 a2) := by
 intro a0 a1 a2 k
 obtain ⟨ih0, ih1⟩ := plan_Check.mono_l k
 unfold plan_Check.f
 repeat' first
   | (with_reducible exact ih0 _ _ _ _ _)
   | (with_reducible exact ih1 _ _ _ _ _)
   | (with_reducible exact arc_Check.mono _ _)
   | (with_reducible exact LeO.refl _)
   | (with_reducible exact LeO.none _)
   | (with_reducible refine LeO.ite ?_ ?_)
   | (with_reducible refine LeO.bind ?_ (fun _ => ?_))
   | exact ih0 _ _ _ _ _
   | exact ih1 _ _ _ _ _
   | exact arc_Check.mono _ _
   | exact LeO.none _
   | refine LeO.ite ?_ ?_
   | refine LeO.bind ?_ (fun _ => ?_)
set_option maxHeartbeats 8000000 in
set_option maxRecDepth 100000 in
theorem plan_Check.calls (k : Nat) (A0_0 : Option Addr) (c0_0 : Nat) (l0_0 : List (List (S27))) (A0_1 : Option Addr) (c0_1 : Nat) (l0_1 : List (List Int)) (A0_2 : Option Addr) (c0_2 : Nat) (l0_2 : List (List Int)) (r : Int) (w : World) (hr0_0 : Kd.C (Kd.slice 27 k27) w A0_0 l0_0.length l0_0) (hc0_0 : l0_0.length ≤ c0_0) (hr0_1 : Kd.C (Kd.slice 3 (Kd.int .i64)) w A0_1 l0_1.length l0_1) (hc0_1 : l0_1.length ≤ c0_1) (hr0_2 : Kd.C (Kd.slice 3 (Kd.int .i64)) w A0_2 l0_2.length l0_2) (hc0_2 : l0_2.length ≤ c0_2) (h : plan_Check.f k l0_0 l0_1 l0_2 = some r) :
  Calls Try.prog 31 #[.agg #[.slice A0_0 l0_0.length c0_0, .slice A0_1 l0_1.length c0_1, .slice A0_2 l0_2.length c0_2]] w fun e w' => e = .returned (.int .i64 r) ∧ Below w.heap.size w w' := by
 have hu25 := Try.underlying25
 have HR0_0 := Aside0.mk hr0_0
 have HC0_0 := Aside0.mk hc0_0
 clear hr0_0 hc0_0
 have HR0_1 := Aside0.mk hr0_1
 have HC0_1 := Aside0.mk hc0_1
 clear hr0_1 hc0_1
 have HR0_2 := Aside0.mk hr0_2
 have HC0_2 := Aside0.mk hc0_2
 clear hr0_2 hc0_2
 have HB := Aside0.mk (Below.refl w.heap.size w)
 have H : ((arc_Check.f k l0_0).bind fun t652 => (if (l0_1.length : Int) > 1000 then (plan_Check.j0 k t652 true l0_0 l0_1 l0_2) else (if (l0_2.length : Int) > 1000 then (plan_Check.j0 k t652 true l0_0 l0_1 l0_2) else ((slices_Concat_int_int.f l0_1).bind fun t653 => (if (t653.length : Int) > 20000 then (plan_Check.j0 k t652 true l0_0 l0_1 l0_2) else ((slices_Concat_int_int.f l0_2).bind fun t656 => (plan_Check.j0 k t652 (decide ((t656.length : Int) > 20000)) l0_0 l0_1 l0_2))))))) = some r := h
 clear h
 replace H := Option.bind_eq_some_iff.mp H
 obtain ⟨t652, A20, H⟩ := H
 replace H : (if (l0_1.length : Int) > 1000 then (plan_Check.j0 k t652 true l0_0 l0_1 l0_2) else (if (l0_2.length : Int) > 1000 then (plan_Check.j0 k t652 true l0_0 l0_1 l0_2) else ((slices_Concat_int_int.f l0_1).bind fun t653 => (if (t653.length : Int) > 20000 then (plan_Check.j0 k t652 true l0_0 l0_1 l0_2) else ((slices_Concat_int_int.f l0_2).bind fun t656 => (plan_Check.j0 k t652 (decide ((t656.length : Int) > 20000)) l0_0 l0_1 l0_2)))))) = some r := H
 have A2 := Aside0.mk A20
 clear A20
 have HC3 := Aside0.mk H
 clear H
 go_enter Try.func31, Try.ntmps31
 go_upto_region 2 with (first | ((with_reducible refine gate_dst (N := 1) rfl ?_); (try (refine gate_guard (by rfl) ?_; dsimp only)); refine box_event ?hg (N := 1) ?hd (cs := #[.slice A0_0 l0_0.length c0_0, .slice A0_1 l0_1.length c0_1, .slice A0_2 l0_2.length c0_2]) (t := 25) ?hr ?_; (case hd => rfl); (case hg => rfl); (case hr => first | (go_simp; done) | (go_simp; rfl)); intro gb651 hg w4 hbox hb; have n0_ := Aside0.mk (below_step (bH HB) hb); have n1_ := Aside0.mk (hbox); have n2_ := Aside0.mk ((by rw [hg]; exact (below_size (bH HB)) : w.heap.size ≤ gb651)); have n3_ := n2_; clear HB; have HB := n0_; have BK651 := n1_; have GW651 := n2_; have GE651 := n3_; clear n0_ n1_ n2_ n3_; clear hb hbox hg; have hcz5_0 : w4.cell? ⟨gb651, 0, none⟩ = some (.slice A0_0 l0_0.length c0_0) := (blk_cell BK651.out 0).trans rfl; have hcz5_1 : w4.cell? ⟨gb651, 1, none⟩ = some (.slice A0_1 l0_1.length c0_1) := (blk_cell BK651.out 1).trans rfl; have hcz5_2 : w4.cell? ⟨gb651, 2, none⟩ = some (.slice A0_2 l0_2.length c0_2) := (blk_cell BK651.out 2).trans rfl; have hfz5_0 := blk_frozen BK651.out 0; have hfz5_1 := blk_frozen BK651.out 1; have hfz5_2 := blk_frozen BK651.out 2) | ((with_reducible refine gate_callee (f := 56) rfl ?_); refine goesL_ (some 7) rfl rfl Try.func56 (by kernel_rfl) rfl #[.slice A0_0 l0_0.length c0_0] rfl (by (try simp only [List.map_toArray, List.map_cons, List.map_nil]); first | done | rfl | (simp only [List.length_drop, List.length_take]; rfl)) ?_; (with_reducible refine (arc_Check.calls k _ _ l0_0 t652 _ ?side1 ?side2 A2.out).mono ?_); (case side1 => repeat (first | exact (Kd.C_below HR0_0.out HB.out) | (with_reducible refine Kd.C_alloc ?_ _) | (with_reducible refine Kd.C_drewN ?_ _) | (with_reducible refine Kd.C_drew ?_))); (case side2 => exact HC0_0.out); rintro e w6 ⟨rfl, hb⟩; refine ⟨_, rfl, ?_⟩; have n0_ := Aside0.mk (blk_below (g := gb651) (o := .cells #[.slice A0_0 l0_0.length c0_0, .slice A0_1 l0_1.length c0_1, .slice A0_2 l0_2.length c0_2] 25 (0, 0)) (bK BK651) hb); have n1_ := Aside0.mk (below_step (bH HB) hb); clear BK651; clear HB; have BK651 := n0_; have HB := n1_; clear n0_ n1_; (try clear hb); (try clear hb2); (try clear hk); (try clear hi)))
 (try simp only [Act.put, List.setIfInBounds_toArray, List.set_cons_zero, List.set_cons_succ])
 go_cut [4] (fun v4 wc => ∃ (kq : Nat) (x4_2 : Bool), v4 = .bool x4_2 ∧ Aside0 (plan_Check.j0 kq t652 x4_2 l0_0 l0_1 l0_2 = some r) ∧ Aside0 (kq ≤ k) ∧ Aside0 (wc.heap[gb651]? = some (.cells #[(.slice A0_0 l0_0.length c0_0), (.slice A0_1 l0_1.length c0_1), (.slice A0_2 l0_2.length c0_2)] 25 (0, 0))) ∧ Aside0 (Below w.heap.size w wc))
 case first =>
  have H := HC3.out
  clear HC3
  by_cases c7 : (l0_1.length : Int) > 1000
  ·rw [if_pos c7] at H
   have c7b0 : decide (1000 < (l0_1.length : Int)) = true := decide_eq_true c7
   have c7b1 : decide (1000 < l0_1.length) = true := decide_eq_true (by omega)
   clear c7
   (first | rw [c7b0] | (simp only [i64_w, i32_w]; rw [c7b0]) | skip)
   have H' := Aside0.mk H
   clear H
   have hcz8_0 : w6.cell? ⟨gb651, 0, none⟩ = some (.slice A0_0 l0_0.length c0_0) := (blk_cell BK651.out 0).trans rfl
   have hcz8_1 : w6.cell? ⟨gb651, 1, none⟩ = some (.slice A0_1 l0_1.length c0_1) := (blk_cell BK651.out 1).trans rfl
   have hcz8_2 : w6.cell? ⟨gb651, 2, none⟩ = some (.slice A0_2 l0_2.length c0_2) := (blk_cell BK651.out 2).trans rfl
   have hfz8_0 := blk_frozen BK651.out 0
   have hfz8_1 := blk_frozen BK651.out 1
   have hfz8_2 := blk_frozen BK651.out 2
   go_wp2
   go_meet
   case rel => exact ⟨_, (true), (by first | rfl | (simp; done) | (simp [*]; done)), H', ⟨by first | omega | exact Nat.le_refl _⟩, ⟨bK BK651⟩, ⟨ bH HB⟩⟩
  ·rw [if_neg c7] at H
   have c7b0 : decide (1000 < (l0_1.length : Int)) = false := decide_eq_false c7
   have c7b1 : decide (1000 < l0_1.length) = false := decide_eq_false (by omega)
   clear c7
   (first | rw [c7b0] | (simp only [i64_w, i32_w]; rw [c7b0]) | skip)
   by_cases c9 : (l0_2.length : Int) > 1000
   ·rw [if_pos c9] at H
    have c9b0 : decide (1000 < (l0_2.length : Int)) = true := decide_eq_true c9
    have c9b1 : decide (1000 < l0_2.length) = true := decide_eq_true (by omega)
    clear c9
    have H' := Aside0.mk H
    clear H
    have hcz10_0 : w6.cell? ⟨gb651, 0, none⟩ = some (.slice A0_0 l0_0.length c0_0) := (blk_cell BK651.out 0).trans rfl
    have hcz10_1 : w6.cell? ⟨gb651, 1, none⟩ = some (.slice A0_1 l0_1.length c0_1) := (blk_cell BK651.out 1).trans rfl
    have hcz10_2 : w6.cell? ⟨gb651, 2, none⟩ = some (.slice A0_2 l0_2.length c0_2) := (blk_cell BK651.out 2).trans rfl
    have hfz10_0 := blk_frozen BK651.out 0
    have hfz10_1 := blk_frozen BK651.out 1
    have hfz10_2 := blk_frozen BK651.out 2
    go_wp2
    go_meet
    case rel => exact ⟨_, (true), (by first | rfl | (simp; done) | (simp [*]; done)), H', ⟨by first | omega | exact Nat.le_refl _⟩, ⟨bK BK651⟩, ⟨ bH HB⟩⟩
   ·rw [if_neg c9] at H
    have c9b0 : decide (1000 < (l0_2.length : Int)) = false := decide_eq_false c9
    have c9b1 : decide (1000 < l0_2.length) = false := decide_eq_false (by omega)
    clear c9
    replace H := Option.bind_eq_some_iff.mp H
    obtain ⟨t653, A110, H⟩ := H
    replace H : (if (t653.length : Int) > 20000 then (plan_Check.j0 k t652 true l0_0 l0_1 l0_2) else ((slices_Concat_int_int.f l0_2).bind fun t656 => (plan_Check.j0 k t652 (decide ((t656.length : Int) > 20000)) l0_0 l0_1 l0_2))) = some r := H
    have A11 := Aside0.mk A110
    clear A110
    by_cases c12 : (t653.length : Int) > 20000
    ·rw [if_pos c12] at H
     have c12b0 : decide (20000 < (t653.length : Int)) = true := decide_eq_true c12
     have c12b1 : decide (20000 < t653.length) = true := decide_eq_true (by omega)
     clear c12
     have H' := Aside0.mk H
     clear H
     have hcz13_0 : w6.cell? ⟨gb651, 0, none⟩ = some (.slice A0_0 l0_0.length c0_0) := (blk_cell BK651.out 0).trans rfl
     have hcz13_1 : w6.cell? ⟨gb651, 1, none⟩ = some (.slice A0_1 l0_1.length c0_1) := (blk_cell BK651.out 1).trans rfl
     have hcz13_2 : w6.cell? ⟨gb651, 2, none⟩ = some (.slice A0_2 l0_2.length c0_2) := (blk_cell BK651.out 2).trans rfl
     have hfz13_0 := blk_frozen BK651.out 0
     have hfz13_1 := blk_frozen BK651.out 1
     have hfz13_2 := blk_frozen BK651.out 2
     go_wp2_with (first | (go_at_call 39; (with_reducible refine (slices_Concat_int_int.calls _ _ l0_1 t653 _ ?side1 ?side2 A11.out).mono ?_); (case side1 => repeat (first | exact (Kd.C_below HR0_1.out HB.out) | (with_reducible refine Kd.C_alloc ?_ _) | (with_reducible refine Kd.C_drewN ?_ _) | (with_reducible refine Kd.C_drew ?_))); (case side2 => exact HC0_1.out); rintro e w14 ⟨v654, rfl, ho0, hb⟩; have n0_ := Aside0.mk (Kd.R_lower ho0 (below_size (bH HB))); have n1_ := Aside0.mk (blk_below (g := gb651) (o := .cells #[.slice A0_0 l0_0.length c0_0, .slice A0_1 l0_1.length c0_1, .slice A0_2 l0_2.length c0_2] 25 (0, 0)) (bK BK651) hb); have n2_ := Aside0.mk (below_step (bH HB) hb); clear BK651; clear HB; have HO655 := n0_; have BK651 := n1_; have HB := n2_; clear n0_ n1_ n2_; (try clear hb); (try clear hb2); (try clear hk); (try clear hi); (try clear ho0); obtain ⟨Ao15, co15, eo15⟩ := Kd.R_slice HO655.out; subst eo15))
     go_meet
     case rel => exact ⟨_, (true), (by first | rfl | (simp; done) | (simp [*]; done)), H', ⟨by first | omega | exact Nat.le_refl _⟩, ⟨bK BK651⟩, ⟨ bH HB⟩⟩
    ·rw [if_neg c12] at H
     have c12b0 : decide (20000 < (t653.length : Int)) = false := decide_eq_false c12
     have c12b1 : decide (20000 < t653.length) = false := decide_eq_false (by omega)
     clear c12
     replace H := Option.bind_eq_some_iff.mp H
     obtain ⟨t656, A160, H⟩ := H
     replace H : (plan_Check.j0 k t652 (decide ((t656.length : Int) > 20000)) l0_0 l0_1 l0_2) = some r := H
     have A16 := Aside0.mk A160
     clear A160
     have H' := Aside0.mk H
     clear H
     have hcz17_0 : w6.cell? ⟨gb651, 0, none⟩ = some (.slice A0_0 l0_0.length c0_0) := (blk_cell BK651.out 0).trans rfl
     have hcz17_1 : w6.cell? ⟨gb651, 1, none⟩ = some (.slice A0_1 l0_1.length c0_1) := (blk_cell BK651.out 1).trans rfl
     have hcz17_2 : w6.cell? ⟨gb651, 2, none⟩ = some (.slice A0_2 l0_2.length c0_2) := (blk_cell BK651.out 2).trans rfl
     have hfz17_0 := blk_frozen BK651.out 0
     have hfz17_1 := blk_frozen BK651.out 1
     have hfz17_2 := blk_frozen BK651.out 2
     go_wp2_with (first | (go_at_call 39; (with_reducible refine (slices_Concat_int_int.calls _ _ l0_1 t653 _ ?side1 ?side2 A11.out).mono ?_); (case side1 => repeat (first | exact (Kd.C_below HR0_1.out HB.out) | (with_reducible refine Kd.C_alloc ?_ _) | (with_reducible refine Kd.C_drewN ?_ _) | (with_reducible refine Kd.C_drew ?_))); (case side2 => exact HC0_1.out); rintro e w18 ⟨v654, rfl, ho0, hb⟩; have n0_ := Aside0.mk (Kd.R_lower ho0 (below_size (bH HB))); have n1_ := Aside0.mk (blk_below (g := gb651) (o := .cells #[.slice A0_0 l0_0.length c0_0, .slice A0_1 l0_1.length c0_1, .slice A0_2 l0_2.length c0_2] 25 (0, 0)) (bK BK651) hb); have n2_ := Aside0.mk (below_step (bH HB) hb); clear BK651; clear HB; have HO655 := n0_; have BK651 := n1_; have HB := n2_; clear n0_ n1_ n2_; (try clear hb); (try clear hb2); (try clear hk); (try clear hi); (try clear ho0); obtain ⟨Ao19, co19, eo19⟩ := Kd.R_slice HO655.out; subst eo19; have hcz20_0 : w18.cell? ⟨gb651, 0, none⟩ = some (.slice A0_0 l0_0.length c0_0) := (blk_cell BK651.out 0).trans rfl; have hcz20_1 : w18.cell? ⟨gb651, 1, none⟩ = some (.slice A0_1 l0_1.length c0_1) := (blk_cell BK651.out 1).trans rfl; have hcz20_2 : w18.cell? ⟨gb651, 2, none⟩ = some (.slice A0_2 l0_2.length c0_2) := (blk_cell BK651.out 2).trans rfl; have hfz20_0 := blk_frozen BK651.out 0; have hfz20_1 := blk_frozen BK651.out 1; have hfz20_2 := blk_frozen BK651.out 2) | (go_at_call 39; (with_reducible refine (slices_Concat_int_int.calls _ _ l0_2 t656 _ ?side1 ?side2 A16.out).mono ?_); (case side1 => repeat (first | exact (Kd.C_below HR0_2.out HB.out) | (with_reducible refine Kd.C_alloc ?_ _) | (with_reducible refine Kd.C_drewN ?_ _) | (with_reducible refine Kd.C_drew ?_))); (case side2 => exact HC0_2.out); rintro e w21 ⟨v657, rfl, ho0, hb⟩; have n0_ := Aside0.mk (Kd.R_elder' (rK HO655) (Kd.R_base ho0) hb); have n1_ := Aside0.mk (Kd.R_lower (Kd.R_new' ho0 (Kd.R_lt (rK HO655))) (below_size (bH HB))); have n2_ := Aside0.mk (blk_below (g := gb651) (o := .cells #[.slice A0_0 l0_0.length c0_0, .slice A0_1 l0_1.length c0_1, .slice A0_2 l0_2.length c0_2] 25 (0, 0)) (bK BK651) hb); have n3_ := Aside0.mk (below_step (bH HB) hb); clear HO655; clear BK651; clear HB; have HO655 := n0_; have HO658 := n1_; have BK651 := n2_; have HB := n3_; clear n0_ n1_ n2_ n3_; (try clear hb); (try clear hb2); (try clear hk); (try clear hi); (try clear ho0); obtain ⟨Ao22, co22, eo22⟩ := Kd.R_slice HO658.out; subst eo22))
     go_meet
     case rel => exact ⟨_, (decide ((t656.length : Int) > 20000)), (by first | rfl | (simp; done) | (simp [*]; done)), H', ⟨by first | omega | exact Nat.le_refl _⟩, ⟨bK BK651⟩, ⟨ bH HB⟩⟩
 case rest =>
  clear HC3
  try clear c1
  try clear p2
  try clear c3
  try clear c5
  try clear c7
  try clear c7b0
  try clear c7b1
  try clear c9
  try clear c9b0
  try clear c9b1
  try clear c12
  try clear c12b0
  try clear c12b1
  try clear hcz10_0
  try clear hcz10_1
  try clear hcz10_2
  try clear hcz13_0
  try clear hcz13_1
  try clear hcz13_2
  try clear hcz17_0
  try clear hcz17_1
  try clear hcz17_2
  try clear hcz20_0
  try clear hcz20_1
  try clear hcz20_2
  try clear hcz5_0
  try clear hcz5_1
  try clear hcz5_2
  try clear hcz8_0
  try clear hcz8_1
  try clear hcz8_2
  try clear hfz10_0
  try clear hfz10_1
  try clear hfz10_2
  try clear hfz13_0
  try clear hfz13_1
  try clear hfz13_2
  try clear hfz17_0
  try clear hfz17_1
  try clear hfz17_2
  try clear hfz20_0
  try clear hfz20_1
  try clear hfz20_2
  try clear hfz5_0
  try clear hfz5_1
  try clear hfz5_2
  try clear hfz8_0
  try clear hfz8_1
  try clear hfz8_2
  obtain ⟨kq, x4_2, rfl, HA, HJ2, BK651, HB⟩ := hcut
  cases kq with
  | zero => exact absurd HA.out (by simp [plan_Check.j0])
  | succ kj2 =>
   have H := HA.out
   clear HA
   simp only [plan_Check.j0] at H
   have HC23 := Aside0.mk H
   clear H
   go_upto_region 3 with (fail)
   go_cut [32] (fun v32 wc => ∃ (kq : Nat) (x32_22 : Bool), v32 = .bool x32_22 ∧ Aside0 (plan_Check.j1 kq t652 x32_22 l0_0 l0_1 l0_2 = some r) ∧ Aside0 (kq ≤ kj2) ∧ Aside0 (wc.heap[gb651]? = some (.cells #[(.slice A0_0 l0_0.length c0_0), (.slice A0_1 l0_1.length c0_1), (.slice A0_2 l0_2.length c0_2)] 25 (0, 0))) ∧ Aside0 (Below w.heap.size w wc))
   case first =>
    have H := HC23.out
    clear HC23
    by_cases c24 : t652 = 3
    ·rw [if_pos c24] at H
     have c24b0 : (t652 == 3) = true := beq_iff_eq.mpr c24
     have c24b1 : (t652 != 3) = false := bne_eq_false_iff_eq.mpr c24
     clear c24
     (first | rw [c24b0] | (simp only [i64_w, i32_w]; rw [c24b0]) | skip)
     have H' := Aside0.mk H
     clear H
     go_wp2
     go_meet
     case rel => exact ⟨_, (true), (by first | rfl | (simp; done) | (simp [*]; done)), H', ⟨by have := HJ2.out; first | omega | exact Nat.le_refl _⟩, ⟨bK BK651⟩, ⟨ bH HB⟩⟩
    ·rw [if_neg c24] at H
     have c24b0 : (t652 == 3) = false := beq_eq_false_iff_ne.mpr c24
     have c24b1 : (t652 != 3) = true := bne_iff_ne.mpr c24
     (first | rw [c24b0] | (simp only [i64_w, i32_w]; rw [c24b0]) | skip)
     have H' := Aside0.mk H
     clear H
     go_wp2
     go_meet
     case rel => exact ⟨_, (x4_2), (by first | rfl | (simp; done) | (simp [*]; done)), H', ⟨by have := HJ2.out; first | omega | exact Nat.le_refl _⟩, ⟨bK BK651⟩, ⟨ bH HB⟩⟩
   case rest =>
    clear HC23
    try clear c1
    try clear c2
    try clear p2
    try clear c3
    try clear c5
    try clear c7
    try clear c7b0
    try clear c7b1
    try clear c9
    try clear c9b0
    try clear c9b1
    try clear c12
    try clear c12b0
    try clear c12b1
    try clear c24
    try clear c24b0
    try clear c24b1
    try clear hcz10_0
    try clear hcz10_1
    try clear hcz10_2
    try clear hcz13_0
    try clear hcz13_1
    try clear hcz13_2
    try clear hcz17_0
    try clear hcz17_1
    try clear hcz17_2
    try clear hcz20_0
    try clear hcz20_1
    try clear hcz20_2
    try clear hcz5_0
    try clear hcz5_1
    try clear hcz5_2
    try clear hcz8_0
    try clear hcz8_1
    try clear hcz8_2
    try clear hfz10_0
    try clear hfz10_1
    try clear hfz10_2
    try clear hfz13_0
    try clear hfz13_1
    try clear hfz13_2
    try clear hfz17_0
    try clear hfz17_1
    try clear hfz17_2
    try clear hfz20_0
    try clear hfz20_1
    try clear hfz20_2
    try clear hfz5_0
    try clear hfz5_1
    try clear hfz5_2
    try clear hfz8_0
    try clear hfz8_1
    try clear hfz8_2
    try clear p2
    obtain ⟨kq, x32_22, rfl, HA, HJ22, BK651, HB⟩ := hcut
    cases kq with
    | zero => exact absurd HA.out (by simp [plan_Check.j1])
    | succ kj22 =>
     have H := HA.out
     clear HA
     simp only [plan_Check.j1] at H
     by_cases c25 : x32_22 = true
     ·subst c25
      have H1 : (some 3) = some r := by rw [if_pos rfl] at H; exact H
      clear H
      have H := H1
      clear H1
      obtain rfl := Option.some.inj H
      go_wp2
      go_ret
      exact ⟨by first | rfl | (simp [errW_none, errW_some] <;> rfl) | (simp [*, errW_none, errW_some] <;> rfl), bH HB⟩
     ·replace c25 := Bool.eq_false_iff.mpr c25
      subst c25
      have H1 : (if t652 = 0 then ((plan_Meets.f l0_0 l0_1 l0_2).bind fun t659 => (if t659 = true then (some 91) else ((plan_Closes.f l0_0 l0_1 l0_2).bind fun t660 => (if t660 = true then ((plan_Fills.f l0_0 l0_1 l0_2).bind fun t661 => (if t661 = true then (some 0) else (some 92))) else (some 90))))) else (some t652)) = some r := by rw [if_neg (show ¬ (false = true) by decide)] at H; exact H
      clear H
      have H := H1
      clear H1
      by_cases c26 : t652 = 0
      ·rw [if_pos c26] at H
       have c26b0 : (t652 == 0) = true := beq_iff_eq.mpr c26
       have c26b1 : (t652 != 0) = false := bne_eq_false_iff_eq.mpr c26
       clear c26
       replace H := Option.bind_eq_some_iff.mp H
       obtain ⟨t659, A270, H⟩ := H
       replace H : (if t659 = true then (some 91) else ((plan_Closes.f l0_0 l0_1 l0_2).bind fun t660 => (if t660 = true then ((plan_Fills.f l0_0 l0_1 l0_2).bind fun t661 => (if t661 = true then (some 0) else (some 92))) else (some 90)))) = some r := H
       have A27 := Aside0.mk A270
       clear A270
       have HC28 := Aside0.mk H
       clear H
       have hcz29_0 : wc.cell? ⟨gb651, 0, none⟩ = some (.slice A0_0 l0_0.length c0_0) := (blk_cell BK651.out 0).trans rfl
       have hcz29_1 : wc.cell? ⟨gb651, 1, none⟩ = some (.slice A0_1 l0_1.length c0_1) := (blk_cell BK651.out 1).trans rfl
       have hcz29_2 : wc.cell? ⟨gb651, 2, none⟩ = some (.slice A0_2 l0_2.length c0_2) := (blk_cell BK651.out 2).trans rfl
       have hfz29_0 := blk_frozen BK651.out 0
       have hfz29_1 := blk_frozen BK651.out 1
       have hfz29_2 := blk_frozen BK651.out 2
       go_upto_if 42 with (first | ((with_reducible refine gate_callee (f := 57) rfl ?_); refine goesL_ (some 44) rfl rfl Try.func57 (by kernel_rfl) rfl #[.agg #[.slice A0_0 l0_0.length c0_0, .slice A0_1 l0_1.length c0_1, .slice A0_2 l0_2.length c0_2]] rfl (by (try simp only [List.map_toArray, List.map_cons, List.map_nil]); first | done | rfl | (simp only [List.length_drop, List.length_take]; rfl)) ?_; (with_reducible refine (plan_Meets.calls _ _ l0_0 _ _ l0_1 _ _ l0_2 t659 _ ?side1 ?side2 ?side3 ?side4 ?side5 ?side6 A27.out).mono ?_); (case side1 => repeat (first | exact (Kd.C_below HR0_0.out HB.out) | (with_reducible refine Kd.C_alloc ?_ _) | (with_reducible refine Kd.C_drewN ?_ _) | (with_reducible refine Kd.C_drew ?_))); (case side2 => exact HC0_0.out); (case side3 => repeat (first | exact (Kd.C_below HR0_1.out HB.out) | (with_reducible refine Kd.C_alloc ?_ _) | (with_reducible refine Kd.C_drewN ?_ _) | (with_reducible refine Kd.C_drew ?_))); (case side4 => exact HC0_1.out); (case side5 => repeat (first | exact (Kd.C_below HR0_2.out HB.out) | (with_reducible refine Kd.C_alloc ?_ _) | (with_reducible refine Kd.C_drewN ?_ _) | (with_reducible refine Kd.C_drew ?_))); (case side6 => exact HC0_2.out); rintro e w30 ⟨rfl, hb⟩; refine ⟨_, rfl, ?_⟩; have n0_ := Aside0.mk (blk_below (g := gb651) (o := .cells #[.slice A0_0 l0_0.length c0_0, .slice A0_1 l0_1.length c0_1, .slice A0_2 l0_2.length c0_2] 25 (0, 0)) (bK BK651) hb); have n1_ := Aside0.mk (below_step (bH HB) hb); clear BK651; clear HB; have BK651 := n0_; have HB := n1_; clear n0_ n1_; (try clear hb); (try clear hb2); (try clear hk); (try clear hi)))
       (try simp only [Act.put, List.setIfInBounds_toArray, List.set_cons_zero, List.set_cons_succ])
       have H := HC28.out
       clear HC28
       by_cases c31 : t659 = true
       ·subst c31
        have H1 : (some 91) = some r := by rw [if_pos rfl] at H; exact H
        clear H
        have H := H1
        clear H1
        obtain rfl := Option.some.inj H
        go_wp2
        go_ret
        exact ⟨by first | rfl | (simp [errW_none, errW_some] <;> rfl) | (simp [*, errW_none, errW_some] <;> rfl), bH HB⟩
       ·replace c31 := Bool.eq_false_iff.mpr c31
        subst c31
        have H1 : ((plan_Closes.f l0_0 l0_1 l0_2).bind fun t660 => (if t660 = true then ((plan_Fills.f l0_0 l0_1 l0_2).bind fun t661 => (if t661 = true then (some 0) else (some 92))) else (some 90))) = some r := by rw [if_neg (show ¬ (false = true) by decide)] at H; exact H
        clear H
        have H := H1
        clear H1
        replace H := Option.bind_eq_some_iff.mp H
        obtain ⟨t660, A320, H⟩ := H
        replace H : (if t660 = true then ((plan_Fills.f l0_0 l0_1 l0_2).bind fun t661 => (if t661 = true then (some 0) else (some 92))) else (some 90)) = some r := H
        have A32 := Aside0.mk A320
        clear A320
        have HC33 := Aside0.mk H
        clear H
        have hcz34_0 : w30.cell? ⟨gb651, 0, none⟩ = some (.slice A0_0 l0_0.length c0_0) := (blk_cell BK651.out 0).trans rfl
        have hcz34_1 : w30.cell? ⟨gb651, 1, none⟩ = some (.slice A0_1 l0_1.length c0_1) := (blk_cell BK651.out 1).trans rfl
        have hcz34_2 : w30.cell? ⟨gb651, 2, none⟩ = some (.slice A0_2 l0_2.length c0_2) := (blk_cell BK651.out 2).trans rfl
        have hfz34_0 := blk_frozen BK651.out 0
        have hfz34_1 := blk_frozen BK651.out 1
        have hfz34_2 := blk_frozen BK651.out 2
        go_upto_if 45 with (first | ((with_reducible refine gate_callee (f := 13) rfl ?_); refine goesL_ (some 47) rfl rfl Try.func13 (by kernel_rfl) rfl #[.agg #[.slice A0_0 l0_0.length c0_0, .slice A0_1 l0_1.length c0_1, .slice A0_2 l0_2.length c0_2]] rfl (by (try simp only [List.map_toArray, List.map_cons, List.map_nil]); first | done | rfl | (simp only [List.length_drop, List.length_take]; rfl)) ?_; (with_reducible refine (plan_Closes.calls _ _ l0_0 _ _ l0_1 _ _ l0_2 t660 _ ?side1 ?side2 ?side3 ?side4 ?side5 ?side6 A32.out).mono ?_); (case side1 => repeat (first | exact (Kd.C_below HR0_0.out HB.out) | (with_reducible refine Kd.C_alloc ?_ _) | (with_reducible refine Kd.C_drewN ?_ _) | (with_reducible refine Kd.C_drew ?_))); (case side2 => exact HC0_0.out); (case side3 => repeat (first | exact (Kd.C_below HR0_1.out HB.out) | (with_reducible refine Kd.C_alloc ?_ _) | (with_reducible refine Kd.C_drewN ?_ _) | (with_reducible refine Kd.C_drew ?_))); (case side4 => exact HC0_1.out); (case side5 => repeat (first | exact (Kd.C_below HR0_2.out HB.out) | (with_reducible refine Kd.C_alloc ?_ _) | (with_reducible refine Kd.C_drewN ?_ _) | (with_reducible refine Kd.C_drew ?_))); (case side6 => exact HC0_2.out); rintro e w35 ⟨rfl, hb⟩; refine ⟨_, rfl, ?_⟩; have n0_ := Aside0.mk (blk_below (g := gb651) (o := .cells #[.slice A0_0 l0_0.length c0_0, .slice A0_1 l0_1.length c0_1, .slice A0_2 l0_2.length c0_2] 25 (0, 0)) (bK BK651) hb); have n1_ := Aside0.mk (below_step (bH HB) hb); clear BK651; clear HB; have BK651 := n0_; have HB := n1_; clear n0_ n1_; (try clear hb); (try clear hb2); (try clear hk); (try clear hi)))
        (try simp only [Act.put, List.setIfInBounds_toArray, List.set_cons_zero, List.set_cons_succ])
        have H := HC33.out
        clear HC33
        by_cases c36 : t660 = true
        ·subst c36
         have H1 : ((plan_Fills.f l0_0 l0_1 l0_2).bind fun t661 => (if t661 = true then (some 0) else (some 92))) = some r := by rw [if_pos rfl] at H; exact H
         clear H
         have H := H1
         clear H1
         replace H := Option.bind_eq_some_iff.mp H
         obtain ⟨t661, A370, H⟩ := H
         replace H : (if t661 = true then (some 0) else (some 92)) = some r := H
         have A37 := Aside0.mk A370
         clear A370
         have HC38 := Aside0.mk H
         clear H
         have hcz39_0 : w35.cell? ⟨gb651, 0, none⟩ = some (.slice A0_0 l0_0.length c0_0) := (blk_cell BK651.out 0).trans rfl
         have hcz39_1 : w35.cell? ⟨gb651, 1, none⟩ = some (.slice A0_1 l0_1.length c0_1) := (blk_cell BK651.out 1).trans rfl
         have hcz39_2 : w35.cell? ⟨gb651, 2, none⟩ = some (.slice A0_2 l0_2.length c0_2) := (blk_cell BK651.out 2).trans rfl
         have hfz39_0 := blk_frozen BK651.out 0
         have hfz39_1 := blk_frozen BK651.out 1
         have hfz39_2 := blk_frozen BK651.out 2
         go_upto_if 49 with (first | ((with_reducible refine gate_callee (f := 15) rfl ?_); refine goesL_ (some 51) rfl rfl Try.func15 (by kernel_rfl) rfl #[.agg #[.slice A0_0 l0_0.length c0_0, .slice A0_1 l0_1.length c0_1, .slice A0_2 l0_2.length c0_2]] rfl (by (try simp only [List.map_toArray, List.map_cons, List.map_nil]); first | done | rfl | (simp only [List.length_drop, List.length_take]; rfl)) ?_; (with_reducible refine (plan_Fills.calls _ _ l0_0 _ _ l0_1 _ _ l0_2 t661 _ ?side1 ?side2 ?side3 ?side4 ?side5 ?side6 A37.out).mono ?_); (case side1 => repeat (first | exact (Kd.C_below HR0_0.out HB.out) | (with_reducible refine Kd.C_alloc ?_ _) | (with_reducible refine Kd.C_drewN ?_ _) | (with_reducible refine Kd.C_drew ?_))); (case side2 => exact HC0_0.out); (case side3 => repeat (first | exact (Kd.C_below HR0_1.out HB.out) | (with_reducible refine Kd.C_alloc ?_ _) | (with_reducible refine Kd.C_drewN ?_ _) | (with_reducible refine Kd.C_drew ?_))); (case side4 => exact HC0_1.out); (case side5 => repeat (first | exact (Kd.C_below HR0_2.out HB.out) | (with_reducible refine Kd.C_alloc ?_ _) | (with_reducible refine Kd.C_drewN ?_ _) | (with_reducible refine Kd.C_drew ?_))); (case side6 => exact HC0_2.out); rintro e w40 ⟨rfl, hb⟩; refine ⟨_, rfl, ?_⟩; have n0_ := Aside0.mk (blk_below (g := gb651) (o := .cells #[.slice A0_0 l0_0.length c0_0, .slice A0_1 l0_1.length c0_1, .slice A0_2 l0_2.length c0_2] 25 (0, 0)) (bK BK651) hb); have n1_ := Aside0.mk (below_step (bH HB) hb); clear BK651; clear HB; have BK651 := n0_; have HB := n1_; clear n0_ n1_; (try clear hb); (try clear hb2); (try clear hk); (try clear hi)))
         (try simp only [Act.put, List.setIfInBounds_toArray, List.set_cons_zero, List.set_cons_succ])
         have H := HC38.out
         clear HC38
         by_cases c41 : t661 = true
         ·subst c41
          have H1 : (some 0) = some r := by rw [if_pos rfl] at H; exact H
          clear H
          have H := H1
          clear H1
          obtain rfl := Option.some.inj H
          go_wp2
          go_ret
          exact ⟨by first | rfl | (simp [errW_none, errW_some] <;> rfl) | (simp [*, errW_none, errW_some] <;> rfl), bH HB⟩
         ·replace c41 := Bool.eq_false_iff.mpr c41
          subst c41
          have H1 : (some 92) = some r := by rw [if_neg (show ¬ (false = true) by decide)] at H; exact H
          clear H
          have H := H1
          clear H1
          obtain rfl := Option.some.inj H
          go_wp2
          go_ret
          exact ⟨by first | rfl | (simp [errW_none, errW_some] <;> rfl) | (simp [*, errW_none, errW_some] <;> rfl), bH HB⟩
        ·replace c36 := Bool.eq_false_iff.mpr c36
         subst c36
         have H1 : (some 90) = some r := by rw [if_neg (show ¬ (false = true) by decide)] at H; exact H
         clear H
         have H := H1
         clear H1
         obtain rfl := Option.some.inj H
         go_wp2
         go_ret
         exact ⟨by first | rfl | (simp [errW_none, errW_some] <;> rfl) | (simp [*, errW_none, errW_some] <;> rfl), bH HB⟩
      ·rw [if_neg c26] at H
       have c26b0 : (t652 == 0) = false := beq_eq_false_iff_ne.mpr c26
       have c26b1 : (t652 != 0) = true := bne_iff_ne.mpr c26
       obtain rfl := Option.some.inj H
       go_wp2
       go_ret
       exact ⟨by first | rfl | (simp [errW_none, errW_some] <;> rfl) | (simp [*, errW_none, errW_some] <;> rfl), bH HB⟩

end Go.Proofs.Ytbonkedecfjmdaa.P

namespace Go.Proofs.Ytbonkedecfjmdaa.Pl
set_option linter.unusedVariables false
set_option linter.unusedSimpArgs false
open Go Go.RowKit Go.Proofs.Ytbonkedecfjmdaa.P Go.Proofs.Ytbonkedecfjmdaa.G Go.Proofs.Ytbonkedecfjmdaa.WL Go.Proofs.YtbonkedecfjmdaaW.PrintWords Go.Proofs.YtbonkedecfjmdaaW.PrintLast Go.Proofs.YtbonkedecfjmdaaW.PrintMore

def longV (m : List (List Pt)) (r p : List (List Int)) : Bool := decide (r.length > 1000) || (decide (p.length > 1000) || (decide (r.flatten.length > 20000) || decide (p.flatten.length > 20000)))
def checkV (m : List (List Pt)) (r p : List (List Int)) : Int :=
  if arcsV m = 3 ∨ longV m r p = true then 3 else if arcsV m ≠ 0 then arcsV m else if meetsV m = true then 91 else if closesV m r = true then (if FillsV m r p = true then 0 else 92) else 90
theorem checkV_turn (m : List (List Pt)) (r p : List (List Int)) (k : Nat) : checkV m r (turnL p k) = checkV m r p := by
  unfold checkV longV
  rw [turnL_len, turnL_flat_len, FillsV_turn]
theorem arcs_small {m : List (List Pt)} (h : arcsV m = 0) : m.length ≤ 2000 ∧ ∀ x ∈ m, x.length ≤ 20000 := by
  unfold arcsV at h
  split at h
  · cases h
  · rename_i hn
    refine ⟨by omega, fun x hx => ?_⟩
    have : x.length ≤ (m.map List.length).sum := by
      clear hn h
      induction m with
      | nil => simp at hx
      | cons y m ih =>
        rw [List.map_cons, List.sum_cons]
        rcases List.mem_cons.1 hx with rfl | hx
        · omega
        · have := ih hx; omega
    omega
theorem check_j1 (m : List (List Pt)) (r p : List (List Int)) (e : Int) (b : Bool) (he : e = arcsV m) (hb : b = false → longV m r p = false) (hwf : ∀ x ∈ r, ∀ n ∈ x, wf64 n) : Ev (fun k => plan_Check.j1 k e b m r p) (if b = true then 3 else if e ≠ 0 then e else if meetsV m = true then 91 else if closesV m r = true then (if FillsV m r p = true then 0 else 92) else 90) := by
  subst he
  cases b with
  | true => exact Ev.step (f := fun _ => some 3) (fun k => by simp only [plan_Check.j1, if_true]) (Ev.now _)
  | false =>
    have hl := hb rfl
    simp only [Bool.false_eq_true, if_false]
    by_cases h0 : arcsV m = 0
    · obtain ⟨hm, hx⟩ := arcs_small h0
      unfold longV at hl
      simp only [Bool.or_eq_false_iff, decide_eq_false_iff_not] at hl
      obtain ⟨l1, l2, l3, l4⟩ := hl
      have c1 : m.length ≤ 1048576 ∧ ∀ x ∈ m, x.length ≤ 1048576 := ⟨by omega, fun x h => Nat.le_trans (hx x h) (by omega)⟩
      have c2 : (∀ x ∈ m, x.length ≤ 20000) ∧ r.length ≤ 20000 ∧ r.flatten.length ≤ 20000 ∧ (∀ x ∈ r, ∀ n ∈ x, -9223372036854775808 ≤ n ∧ n ≤ 9223372036854775807) ∧ m.length ≤ 1000000 := ⟨hx, by omega, by omega, hwf, by omega⟩
      have c3 : (∀ x ∈ m, x.length ≤ 20000) ∧ r.length ≤ 20000 ∧ r.flatten.length ≤ 20000 ∧ (∀ x ∈ r, ∀ n ∈ x, -9223372036854775808 ≤ n ∧ n ≤ 9223372036854775807) ∧ p.length ≤ 20000 ∧ p.flatten.length ≤ 20000 := ⟨hx, by omega, by omega, hwf, by omega, by omega⟩
      rw [if_neg (by simpa using h0)]
      refine Ev.step (f := fun _ => some (if meetsV m = true then 91 else if closesV m r = true then (if FillsV m r p = true then 0 else 92) else 90)) (fun k => ?_) (Ev.now _)
      simp only [plan_Check.j1, Bool.false_eq_true, if_false, if_pos h0, plan_Meets.f, plan_Closes.f, plan_Fills.f, if_pos c1, if_pos c2, if_pos c3, Option.bind_some]
      cases meetsV m <;> cases closesV m r <;> cases FillsV m r p <;> rfl
    · rw [if_pos h0]
      exact Ev.step (f := fun _ => some (arcsV m)) (fun k => by simp only [plan_Check.j1, Bool.false_eq_true, if_false, if_neg h0]) (Ev.now _)
theorem check_j0 (m : List (List Pt)) (r p : List (List Int)) (b : Bool) (hb : b = longV m r p) (hwf : ∀ x ∈ r, ∀ n ∈ x, wf64 n) : Ev (fun k => plan_Check.j0 k (arcsV m) b m r p) (checkV m r p) := by
  subst hb
  by_cases h3 : arcsV m = 3
  · have := check_j1 m r p (arcsV m) true rfl (by simp) hwf
    rw [if_pos rfl] at this
    unfold checkV
    rw [if_pos (.inl h3)]
    exact Ev.step (fun k => by simp only [plan_Check.j0, if_pos h3]) this
  · have := check_j1 m r p (arcsV m) (longV m r p) rfl id hwf
    unfold checkV
    have e : (arcsV m = 3 ∨ longV m r p = true) ↔ longV m r p = true := ⟨fun h => h.resolve_left h3, .inr⟩
    simp only [e]
    exact Ev.step (fun k => by simp only [plan_Check.j0, if_neg h3]) this
theorem check_ev (m : List (List Pt)) (r p : List (List Int)) (hm : m.length ≤ 1048576) (hx : ∀ a ∈ m, a.length ≤ 1048576) (hr : r.length ≤ 1048576) (hrf : r.flatten.length ≤ 1048576) (hp : p.length ≤ 1048576) (hpf : p.flatten.length ≤ 1048576) (hwf : ∀ x ∈ r, ∀ n ∈ x, wf64 n) : Ev (fun k => plan_Check.f k m r p) (checkV m r p) := by
  unfold plan_Check.f
  refine Ev.bind (arcs_ev m hm hx) ?_
  have L := fun b (h : b = longV m r p) => check_j0 m r p b h hwf
  by_cases h1 : r.length > 1000
  · simp only [if_pos (show (r.length : Int) > 1000 by omega)]
    exact L true (by simp [longV, h1])
  · simp only [if_neg (show ¬ (r.length : Int) > 1000 by omega)]
    by_cases h2 : p.length > 1000
    · simp only [if_pos (show (p.length : Int) > 1000 by omega)]
      exact L true (by simp [longV, h2])
    · simp only [if_neg (show ¬ (p.length : Int) > 1000 by omega)]
      have e1 : slices_Concat_int_int.f r = some r.flatten := by unfold slices_Concat_int_int.f; rw [if_pos ⟨by omega, by omega⟩]
      have e2 : slices_Concat_int_int.f p = some p.flatten := by unfold slices_Concat_int_int.f; rw [if_pos ⟨by omega, by omega⟩]
      simp only [e1, e2, Option.bind_some]
      have hl : longV m r p = (decide (r.flatten.length > 20000) || decide (p.flatten.length > 20000)) := by simp [longV, h1, h2]
      by_cases h3 : r.flatten.length > 20000
      · simp only [if_pos (show (r.flatten.length : Int) > 20000 by omega)]
        exact L true (by rw [hl]; simp only [h3, decide_true, Bool.true_or])
      · simp only [if_neg (show ¬ (r.flatten.length : Int) > 20000 by omega)]
        refine L _ ?_
        rw [hl, decide_eq_false h3, Bool.false_or]
        by_cases h4 : p.flatten.length > 20000
        · rw [decide_eq_true h4, decide_eq_true (by omega)]
        · rw [decide_eq_false h4, decide_eq_false (by omega)]
end Go.Proofs.Ytbonkedecfjmdaa.Pl
