/- Written for this claim by a program of this session (a turned copy of the print): Go functions as Lean functions, and that the Go code comes to just these answers; or a statement proved out of them. No condition. plan.Areas' value. -/
import Derived.Test.YtbonkedecfjmdaaZ2
import Derived.Test.YtbonkedecfjmdaaZ16
import Derived.Test.YtbonkedecfjmdaaZ8
import Derived.Test.YtbonkedecfjmdaaZ20
import Derived.Test.YtbonkedecfjmdaaZ13

namespace Go.Proofs.Ytbonkedecfjmdaa.P
open Go.RowKit Go.Proofs.YtbonkedecfjmdaaW.PrintWords Go.Proofs.YtbonkedecfjmdaaW.PrintLast Go.Proofs.YtbonkedecfjmdaaW.PrintMore Go.Proofs.Ytbonkedecfjmdaa.X
attribute [local go_sem] max2_int min2_int max_two min_two max_three min_three max_four min_four add64_0 add64_1 add64   -- for this text's walks alone
set_option linter.unusedVariables false
set_option linter.unusedSimpArgs false

/-! ### plan_Areas: function 17 -/
mutual
def plan_Areas.l0 : Nat → List (S50) → List (List Int) → Int → Int → List (List (S27)) → List (List Int) → List (List Int) → Option ((List (S50)) × Int)
 | 0, _, _, _, _, _, _, _ => none
 | k + 1, x5, x19, x20, x21, x802000, x802001, x802002 => if x21 < x20 then (if 0 ≤ x21 then (if x21 < (x19.length : Int) then (plan_Areas.l1 k x5 x19 x20 x21 (rd_L3 x19 x21) ((rd_L3 x19 x21).length : Int) 0 x802000 x802001 x802002 0 0) else (none)) else (none)) else (some (x5, 0))
def plan_Areas.l1 : Nat → List (S50) → List (List Int) → Int → Int → List Int → Int → Int → List (List (S27)) → List (List Int) → List (List Int) → Int → Int → Option ((List (S50)) × Int)
 | 0, _, _, _, _, _, _, _, _, _, _, _, _ => none
 | k + 1, x5, x19, x20, x21, x25, x26, x27, x802000, x802001, x802002, x805000, x805001 => if x27 < x26 then (if 0 ≤ x27 then (if x27 < (x25.length : Int) then ((ring_Ring.f k x802000 x802001 x802002 (rd x25 x27)).bind fun bt806 => ((geom_Area.f k bt806.1).bind fun bt810 => ((wide_Add.f k x805000 x805001 (([(⟨bt810.1, bt810.2⟩ : S50)] : List (S50)))).bind fun bt815 => (plan_Areas.l1 k x5 x19 x20 x21 x25 x26 (wrap64 (x27 + 1)) x802000 x802001 x802002 bt815.1 bt815.2)))) else (none)) else (none)) else (if x5.length < 8796093022208 then (plan_Areas.l0 k (x5 ++ [(⟨x805000, x805001⟩ : S50)]) x19 x20 (wrap64 (x21 + 1)) x802000 x802001 x802002) else (none))
end
def plan_Areas.f (k : Nat) (l0_0 : List (List (S27))) (l0_1 : List (List Int)) (l0_2 : List (List Int)) : Option ((List (S50)) × Int) := (plan_Check.f k l0_0 l0_1 l0_2).bind fun t802 => (if t802 = 0 then (plan_Areas.l0 k ([] : List (S50)) l0_2 (l0_2.length : Int) 0 l0_0 l0_1 l0_2) else (some (([] : List (S50)), t802)))
theorem plan_Areas.mono_l : ∀ k, (∀ y0 y1 y2 y3 y4 y5 y6, LeO (plan_Areas.l0 k y0 y1 y2 y3 y4 y5 y6) (plan_Areas.l0 (k + 1) y0 y1 y2 y3 y4 y5 y6)) ∧ (∀ y0 y1 y2 y3 y4 y5 y6 y7 y8 y9 y10 y11, LeO (plan_Areas.l1 k y0 y1 y2 y3 y4 y5 y6 y7 y8 y9 y10 y11) (plan_Areas.l1 (k + 1) y0 y1 y2 y3 y4 y5 y6 y7 y8 y9 y10 y11))
 | 0 => ⟨fun _ _ _ _ _ _ _ r h => by simp [plan_Areas.l0] at h, fun _ _ _ _ _ _ _ _ _ _ _ _ r h => by simp [plan_Areas.l1] at h⟩
 | k + 1 => by
  obtain ⟨ih0, ih1⟩ := plan_Areas.mono_l k
  refine ⟨?_, ?_⟩
  ·intro y0 y1 y2 y3 y4 y5 y6
   unfold plan_Areas.l0
   repeat' first
   | (with_reducible exact ih0 _ _ _ _ _ _ _)
   | (with_reducible exact ih1 _ _ _ _ _ _ _ _ _ _ _ _)
   | (with_reducible exact geom_Area.mono _ _)
   | (with_reducible exact plan_Check.mono _ _ _ _)
   | (with_reducible exact ring_Ring.mono _ _ _ _ _)
   | (with_reducible exact wide_Add.mono _ _ _ _)
   | (with_reducible exact LeO.refl _)
   | (with_reducible exact LeO.none _)
   | (with_reducible refine LeO.ite ?_ ?_)
   | (with_reducible refine LeO.bind ?_ (fun _ => ?_))
   | exact ih0 _ _ _ _ _ _ _
   | exact ih1 _ _ _ _ _ _ _ _ _ _ _ _
   | exact geom_Area.mono _ _
   | exact plan_Check.mono _ _ _ _
   | exact ring_Ring.mono _ _ _ _ _
   | exact wide_Add.mono _ _ _ _
   | exact LeO.none _
   | refine LeO.ite ?_ ?_
   | refine LeO.bind ?_ (fun _ => ?_)
  ·intro y0 y1 y2 y3 y4 y5 y6 y7 y8 y9 y10 y11
   unfold plan_Areas.l1
   repeat' first
   | (with_reducible exact ih0 _ _ _ _ _ _ _)
   | (with_reducible exact ih1 _ _ _ _ _ _ _ _ _ _ _ _)
   | (with_reducible exact geom_Area.mono _ _)
   | (with_reducible exact plan_Check.mono _ _ _ _)
   | (with_reducible exact ring_Ring.mono _ _ _ _ _)
   | (with_reducible exact wide_Add.mono _ _ _ _)
   | (with_reducible exact LeO.refl _)
   | (with_reducible exact LeO.none _)
   | (with_reducible refine LeO.ite ?_ ?_)
   | (with_reducible refine LeO.bind ?_ (fun _ => ?_))
   | exact ih0 _ _ _ _ _ _ _
   | exact ih1 _ _ _ _ _ _ _ _ _ _ _ _
   | exact geom_Area.mono _ _
   | exact plan_Check.mono _ _ _ _
   | exact ring_Ring.mono _ _ _ _ _
   | exact wide_Add.mono _ _ _ _
   | exact LeO.none _
   | refine LeO.ite ?_ ?_
   | refine LeO.bind ?_ (fun _ => ?_)
theorem plan_Areas.mono : ∀ a0 a1 a2 k, LeO (plan_Areas.f k a0 a1 a2) (plan_Areas.f (k + 1) a0 a1 a2) := by
 intro a0 a1 a2 k
 obtain ⟨ih0, ih1⟩ := plan_Areas.mono_l k
 unfold plan_Areas.f
 repeat' first
   | (with_reducible exact ih0 _ _ _ _ _ _ _)
   | (with_reducible exact ih1 _ _ _ _ _ _ _ _ _ _ _ _)
   | (with_reducible exact geom_Area.mono _ _)
   | (with_reducible exact plan_Check.mono _ _ _ _)
   | (with_reducible exact ring_Ring.mono _ _ _ _ _)
   | (with_reducible exact wide_Add.mono _ _ _ _)
   | (with_reducible exact LeO.refl _)
   | (with_reducible exact LeO.none _)
   | (with_reducible refine LeO.ite ?_ ?_)
   | (with_reducible refine LeO.bind ?_ (fun _ => ?_))
   | exact ih0 _ _ _ _ _ _ _
   | exact ih1 _ _ _ _ _ _ _ _ _ _ _ _
   | exact geom_Area.mono _ _
   | exact plan_Check.mono _ _ _ _
   | exact ring_Ring.mono _ _ _ _ _
   | exact wide_Add.mono _ _ _ _
   | exact LeO.none _
   | refine LeO.ite ?_ ?_
   | refine LeO.bind ?_ (fun _ => ?_)
set_option maxHeartbeats 8000000 in
set_option maxRecDepth 100000 in
theorem plan_Areas.calls (k : Nat) (A0_0 : Option Addr) (c0_0 : Nat) (l0_0 : List (List (S27))) (A0_1 : Option Addr) (c0_1 : Nat) (l0_1 : List (List Int)) (A0_2 : Option Addr) (c0_2 : Nat) (l0_2 : List (List Int)) (r1 : List (S50)) (r2 : Int) (w : World) (hr0_0 : Kd.C (Kd.slice 27 k27) w A0_0 l0_0.length l0_0) (hc0_0 : l0_0.length ≤ c0_0) (hr0_1 : Kd.C (Kd.slice 3 (Kd.int .i64)) w A0_1 l0_1.length l0_1) (hc0_1 : l0_1.length ≤ c0_1) (hr0_2 : Kd.C (Kd.slice 3 (Kd.int .i64)) w A0_2 l0_2.length l0_2) (hc0_2 : l0_2.length ≤ c0_2) (h : plan_Areas.f k l0_0 l0_1 l0_2 = some (r1, r2)) :
  Calls Try.prog 17 #[.agg #[.slice A0_0 l0_0.length c0_0, .slice A0_1 l0_1.length c0_1, .slice A0_2 l0_2.length c0_2]] w fun e w' => ∃ v0_ : Value, e = .returned (.tuple #[v0_, .int .i64 r2]) ∧ Kd.R k50 50 w' w.heap.size (fun _ => True) v0_ r1 ∧ Below w.heap.size w w' := by
 have hu25 := Try.underlying25
 have hu50 := Try.underlying50
 have HR0_0 := Aside0.mk hr0_0
 have HC0_0 := Aside0.mk hc0_0
 clear hr0_0 hc0_0
 have HR0_1 := Aside0.mk hr0_1
 have HC0_1 := Aside0.mk hc0_1
 clear hr0_1 hc0_1
 have HR0_2 := Aside0.mk hr0_2
 have HC0_2 := Aside0.mk hc0_2
 clear hr0_2 hc0_2
 have HB := Aside0.mk (Below.refl w.heap.size w)
 have H : ((plan_Check.f k l0_0 l0_1 l0_2).bind fun t802 => (if t802 = 0 then (plan_Areas.l0 k ([] : List (S50)) l0_2 (l0_2.length : Int) 0 l0_0 l0_1 l0_2) else (some (([] : List (S50)), t802)))) = some (r1, r2) := h
 clear h
 replace H := Option.bind_eq_some_iff.mp H
 obtain ⟨t802, A20, H⟩ := H
 replace H : (if t802 = 0 then (plan_Areas.l0 k ([] : List (S50)) l0_2 (l0_2.length : Int) 0 l0_0 l0_1 l0_2) else (some (([] : List (S50)), t802))) = some (r1, r2) := H
 have A2 := Aside0.mk A20
 clear A20
 have HC3 := Aside0.mk H
 clear H
 go_enter Try.func17, Try.ntmps17
 go_upto_if 16 with (first | ((with_reducible refine gate_dst (N := 1) rfl ?_); refine box_event ?hg (N := 1) ?hd (cs := #[.slice A0_0 l0_0.length c0_0, .slice A0_1 l0_1.length c0_1, .slice A0_2 l0_2.length c0_2]) (t := 25) ?hr ?_; (case hd => rfl); (case hg => rfl); (case hr => first | (go_simp; done) | (go_simp; rfl)); intro gb801 hg w4 hbox hb; have n0_ := Aside0.mk (below_step (bH HB) hb); have n1_ := Aside0.mk (hbox); have n2_ := Aside0.mk ((by rw [hg]; exact (below_size (bH HB)) : w.heap.size ≤ gb801)); have n3_ := n2_; clear HB; have HB := n0_; have BK801 := n1_; have GW801 := n2_; have GE801 := n3_; clear n0_ n1_ n2_ n3_; clear hb hbox hg; have hcz5_0 : w4.cell? ⟨gb801, 0, none⟩ = some (.slice A0_0 l0_0.length c0_0) := (blk_cell BK801.out 0).trans rfl; have hcz5_1 : w4.cell? ⟨gb801, 1, none⟩ = some (.slice A0_1 l0_1.length c0_1) := (blk_cell BK801.out 1).trans rfl; have hcz5_2 : w4.cell? ⟨gb801, 2, none⟩ = some (.slice A0_2 l0_2.length c0_2) := (blk_cell BK801.out 2).trans rfl; have hfz5_0 := blk_frozen BK801.out 0; have hfz5_1 := blk_frozen BK801.out 1; have hfz5_2 := blk_frozen BK801.out 2) | ((with_reducible refine gate_callee (f := 31) rfl ?_); refine goesL_ (some 14) rfl rfl Try.func31 (by kernel_rfl) rfl #[.agg #[.slice A0_0 l0_0.length c0_0, .slice A0_1 l0_1.length c0_1, .slice A0_2 l0_2.length c0_2]] rfl (by (try simp only [List.map_toArray, List.map_cons, List.map_nil]); first | done | rfl | (simp only [List.length_drop, List.length_take]; rfl)) ?_; (with_reducible refine (plan_Check.calls k _ _ l0_0 _ _ l0_1 _ _ l0_2 t802 _ ?side1 ?side2 ?side3 ?side4 ?side5 ?side6 A2.out).mono ?_); (case side1 => repeat (first | exact (Kd.C_below HR0_0.out HB.out) | (with_reducible refine Kd.C_alloc ?_ _) | (with_reducible refine Kd.C_drewN ?_ _) | (with_reducible refine Kd.C_drew ?_))); (case side2 => exact HC0_0.out); (case side3 => repeat (first | exact (Kd.C_below HR0_1.out HB.out) | (with_reducible refine Kd.C_alloc ?_ _) | (with_reducible refine Kd.C_drewN ?_ _) | (with_reducible refine Kd.C_drew ?_))); (case side4 => exact HC0_1.out); (case side5 => repeat (first | exact (Kd.C_below HR0_2.out HB.out) | (with_reducible refine Kd.C_alloc ?_ _) | (with_reducible refine Kd.C_drewN ?_ _) | (with_reducible refine Kd.C_drew ?_))); (case side6 => exact HC0_2.out); rintro e w6 ⟨rfl, hb⟩; refine ⟨_, rfl, ?_⟩; have n0_ := Aside0.mk (blk_below (g := gb801) (o := .cells #[.slice A0_0 l0_0.length c0_0, .slice A0_1 l0_1.length c0_1, .slice A0_2 l0_2.length c0_2] 25 (0, 0)) (bK BK801) hb); have n1_ := Aside0.mk (below_step (bH HB) hb); clear BK801; clear HB; have BK801 := n0_; have HB := n1_; clear n0_ n1_; (try clear hb); (try clear hb2); (try clear hk); (try clear hi)))
 (try simp only [Act.put, List.setIfInBounds_toArray, List.set_cons_zero, List.set_cons_succ])
 have H := HC3.out
 clear HC3
 by_cases c7 : t802 = 0
 ·rw [if_pos c7] at H
  have c7b0 : (t802 == 0) = true := beq_iff_eq.mpr c7
  have c7b1 : (t802 != 0) = false := bne_eq_false_iff_eq.mpr c7
  clear c7
  (first | rw [c7b0] | (simp only [i64_w, i32_w]; rw [c7b0]) | skip)
  (try rw [c7b1])
  have H' := Aside0.mk H
  clear H
  have hcz8_0 : w6.cell? ⟨gb801, 0, none⟩ = some (.slice A0_0 l0_0.length c0_0) := (blk_cell BK801.out 0).trans rfl
  have hcz8_1 : w6.cell? ⟨gb801, 1, none⟩ = some (.slice A0_1 l0_1.length c0_1) := (blk_cell BK801.out 1).trans rfl
  have hcz8_2 : w6.cell? ⟨gb801, 2, none⟩ = some (.slice A0_2 l0_2.length c0_2) := (blk_cell BK801.out 2).trans rfl
  have hfz8_0 := blk_frozen BK801.out 0
  have hfz8_1 := blk_frozen BK801.out 1
  have hfz8_2 := blk_frozen BK801.out 2
  go_wp2
  go_loopg [5, 21] k (fun kq v5 v21 w' => ∃ (x5_1 : List (S50)) (x21_1 : Int), v21 = .int .i64 x21_1 ∧ Aside0 (plan_Areas.l0 kq x5_1 l0_2 (l0_2.length : Int) x21_1 l0_0 l0_1 l0_2 = some (r1, r2)) ∧ Aside0 (kq ≤ k) ∧ Aside0 (Kd.R k50 50 w' w.heap.size (fun _ => True) v5 x5_1) ∧ Aside0 (w'.heap[gb801]? = some (.cells #[(.slice A0_0 l0_0.length c0_0), (.slice A0_1 l0_1.length c0_1), (.slice A0_2 l0_2.length c0_2)] 25 (0, 0))) ∧ Aside0 (Below w.heap.size w w'))
  case atStart => exact ⟨(([] : List (S50))), (0), (by first | rfl | (simp; done) | (simp [*]; done)), H', ⟨Nat.le_refl _⟩, ⟨by first | exact Kd.R_nil _ _ _ _ _ | exact Kd.N_nil _ _ _ _ _ | exact Kd.V_nil _ _ _ _ _ | exact Kd.Q_nil _ _ _ _ _ | exact Kd.S_nil _ _ _ _ _⟩, ⟨bK BK801⟩, ⟨ bH HB⟩⟩
  case round =>
   clear H'
   try clear c1
   try clear p2
   try clear c3
   try clear c7
   try clear c7b0
   try clear c7b1
   try clear hcz5_0
   try clear hcz5_1
   try clear hcz5_2
   try clear hcz8_0
   try clear hcz8_1
   try clear hcz8_2
   try clear hfz5_0
   try clear hfz5_1
   try clear hfz5_2
   try clear hfz8_0
   try clear hfz8_1
   try clear hfz8_2
   obtain ⟨x5_1, x21_1, rfl, HA, HK1, HO_5, BK801, HB⟩ := hrel
   cases gk with
   | zero => exact absurd HA.out (by simp [plan_Areas.l0])
   | succ k1 =>
    have H := HA.out
    clear HA
    simp only [plan_Areas.l0] at H
    by_cases c9 : x21_1 < (l0_2.length : Int)
    ·rw [if_pos c9] at H
     have c9b0 : decide (x21_1 < (l0_2.length : Int)) = true := decide_eq_true c9
     clear c9
     by_cases c10 : 0 ≤ x21_1
     ·rw [if_pos c10] at H
      have c10b0 : decide (0 ≤ x21_1) = true := decide_eq_true c10
      clear c10
      by_cases c11 : x21_1 < (l0_2.length : Int)
      ·rw [if_pos c11] at H
       have c11b0 : decide (x21_1 < (l0_2.length : Int)) = true := decide_eq_true c11
       clear c11
       have H' := Aside0.mk H
       clear H
       have p803 : 0 ≤ (x21_1 : Int) := of_decide_eq_true (by first | (with_reducible assumption) | assumption)
       have q803 : x21_1 < (l0_2.length : Int) := of_decide_eq_true (by first | (with_reducible assumption) | assumption)
       obtain ⟨ad803, A803_0, c803_0, e803, hx803_0, hl803_0, hi803_0⟩ := at_L3 HR0_2.out x21_1 p803 q803
       cases e803
       replace hx803_0 := (HB.out.cell (World.block_lt_of_cell? w _ hx803_0)).trans hx803_0
       have HR803_0 := Aside0.mk hi803_0
       have HC803_0 := Aside0.mk hl803_0
       clear hi803_0 hl803_0
       replace p803 := eq_true p803
       replace q803 := eq_true q803
       go_wp2_with (first | ((with_reducible refine gate_dst (N := 8) rfl ?_); refine box_event ?hg (N := 8) ?hd (cs := #[.int .i64 0, .int .u64 0]) (t := 50) ?hr ?_; (case hd => rfl); (case hg => rfl); (case hr => first | (go_simp; done) | (go_simp; rfl)); intro gb804 hg w12 hbox hb; have n0_ := Aside0.mk (Kd.R_below (Kd.R_elderB (rK HO_5) gb804 (Nat.le_of_eq hg.symm)) hb); have n1_ := Aside0.mk (blk_below (g := gb801) (o := .cells #[.slice A0_0 l0_0.length c0_0, .slice A0_1 l0_1.length c0_1, .slice (some ad803) l0_2.length c0_2] 25 (0, 0)) (bK BK801) hb); have n2_ := Aside0.mk (below_step (bH HB) hb); have n3_ := Aside0.mk (hbox); have n4_ := Aside0.mk ((by rw [hg]; exact (below_size (bH HB)) : w.heap.size ≤ gb804)); have n5_ := n4_; have n6_ := Aside0.mk ((by rw [hg]; exact Nat.ne_of_lt (blk_lt (bK BK801)) : gb801 ≠ gb804)); have n7_ := Aside0.mk ((by rw [hg]; exact Nat.ne_of_gt (blk_lt (bK BK801)) : gb804 ≠ gb801)); clear HO_5; clear BK801; clear HB; have HO_5 := n0_; have BK801 := n1_; have HB := n2_; have BK804 := n3_; have GW804 := n4_; have GE804 := n5_; have NB801_804 := n6_; have NB804_801 := n7_; clear n0_ n1_ n2_ n3_ n4_ n5_ n6_ n7_; clear hb hbox hg))
       go_loopg [27] k1 (fun kq v27 w' => ∃ (x27_2 : Int) (x805000_2 : Int) (x805001_2 : Int), v27 = .int .i64 x27_2 ∧ Aside0 (plan_Areas.l1 kq x5_1 l0_2 (l0_2.length : Int) x21_1 (rd_L3 l0_2 x21_1) ((rd_L3 l0_2 x21_1).length : Int) x27_2 l0_0 l0_1 l0_2 x805000_2 x805001_2 = some (r1, r2)) ∧ Aside0 (kq ≤ k1) ∧ Aside0 (Kd.R k50 50 w' w.heap.size (fun k_ => k_ ≠ gb804) u5 x5_1) ∧ Aside0 (w'.heap[gb801]? = some (.cells #[(.slice A0_0 l0_0.length c0_0), (.slice A0_1 l0_1.length c0_1), (.slice (some ad803) l0_2.length c0_2)] 25 (0, 0))) ∧ Aside0 (w'.heap[gb804]? = some (.cells #[.int .i64 x805000_2, .int .u64 x805001_2] 50 (0, 0))) ∧ Aside0 (Below w.heap.size w w'))
       case atStart => exact ⟨(0), (0), (0), (by first | rfl | (simp; done) | (simp [*]; done)), H', ⟨Nat.le_refl _⟩, ⟨by (with_reducible repeat (first | apply Kd.R_alloc | apply Kd.R_drewN | apply Kd.R_drew)); exact Kd.R_mono HO_5.out (fun _ hk => hk.2)⟩, ⟨bK BK801⟩, ⟨bK BK804⟩, ⟨ bH HB⟩⟩
       case round =>
        clear H'
        try clear c1
        try clear p2
        try clear c3
        try clear c7
        try clear c7b0
        try clear c7b1
        try clear c8
        try clear p8
        try clear q8
        try clear hx8
        try clear c9
        try clear c9b0
        try clear c10
        try clear c10b0
        try clear c11
        try clear c11b0
        try clear hcz5_0
        try clear hcz5_1
        try clear hcz5_2
        try clear hcz8_0
        try clear hcz8_1
        try clear hcz8_2
        try clear hfz5_0
        try clear hfz5_1
        try clear hfz5_2
        try clear hfz8_0
        try clear hfz8_1
        try clear hfz8_2
        try clear hx803_0
        try clear p2
        try clear p803
        try clear q803
        obtain ⟨x27_2, x805000_2, x805001_2, rfl, HA, HK2, HO_5, BK801, BK804, HB⟩ := hrel
        cases gk with
        | zero => exact absurd HA.out (by simp [plan_Areas.l1])
        | succ k2 =>
         have H := HA.out
         clear HA
         simp only [plan_Areas.l1] at H
         by_cases c13 : x27_2 < ((rd_L3 l0_2 x21_1).length : Int)
         ·rw [if_pos c13] at H
          have c13b0 : decide (x27_2 < ((rd_L3 l0_2 x21_1).length : Int)) = true := decide_eq_true c13
          clear c13
          by_cases c14 : 0 ≤ x27_2
          ·rw [if_pos c14] at H
           have c14b0 : decide (0 ≤ x27_2) = true := decide_eq_true c14
           clear c14
           by_cases c15 : x27_2 < ((rd_L3 l0_2 x21_1).length : Int)
           ·rw [if_pos c15] at H
            have c15b0 : decide (x27_2 < ((rd_L3 l0_2 x21_1).length : Int)) = true := decide_eq_true c15
            clear c15
            replace H := Option.bind_eq_some_iff.mp H
            obtain ⟨⟨t806, t809⟩, A160, H⟩ := H
            replace H : ((geom_Area.f k2 t806).bind fun bt810 => ((wide_Add.f k2 x805000_2 x805001_2 (([(⟨bt810.1, bt810.2⟩ : S50)] : List (S50)))).bind fun bt815 => (plan_Areas.l1 k2 x5_1 l0_2 (l0_2.length : Int) x21_1 (rd_L3 l0_2 x21_1) ((rd_L3 l0_2 x21_1).length : Int) (wrap64 (x27_2 + 1)) l0_0 l0_1 l0_2 bt815.1 bt815.2))) = some (r1, r2) := H
            have A16 := Aside0.mk A160
            clear A160
            replace H := Option.bind_eq_some_iff.mp H
            obtain ⟨⟨t810, t811⟩, A170, H⟩ := H
            replace H : ((wide_Add.f k2 x805000_2 x805001_2 (([(⟨t810, t811⟩ : S50)] : List (S50)))).bind fun bt815 => (plan_Areas.l1 k2 x5_1 l0_2 (l0_2.length : Int) x21_1 (rd_L3 l0_2 x21_1) ((rd_L3 l0_2 x21_1).length : Int) (wrap64 (x27_2 + 1)) l0_0 l0_1 l0_2 bt815.1 bt815.2)) = some (r1, r2) := H
            have A17 := Aside0.mk A170
            clear A170
            obtain ⟨y812, hy812⟩ : ∃ y_ : List (S50), y_ = (([(⟨t810, t811⟩ : S50)] : List (S50))) := ⟨_, rfl⟩
            replace H : ((wide_Add.f k2 x805000_2 x805001_2 y812).bind fun bt815 => (plan_Areas.l1 k2 x5_1 l0_2 (l0_2.length : Int) x21_1 (rd_L3 l0_2 x21_1) ((rd_L3 l0_2 x21_1).length : Int) (wrap64 (x27_2 + 1)) l0_0 l0_1 l0_2 bt815.1 bt815.2)) = some (r1, r2) := by first | (rw [hy812]; with_reducible exact H) | (have H2_ := (Option.bind_some _ _).symm.trans H; rw [hy812]; with_reducible exact H2_) | (have H2_ := (Option.bind_some _ _).symm.trans H; with_reducible exact H2_) | with_reducible exact H | (rw [hy812]; exact H) | exact H
            have Ny812 := Aside0.mk hy812
            clear hy812
            replace H := Option.bind_eq_some_iff.mp H
            obtain ⟨⟨t815, t816⟩, A180, H⟩ := H
            replace H : (plan_Areas.l1 k2 x5_1 l0_2 (l0_2.length : Int) x21_1 (rd_L3 l0_2 x21_1) ((rd_L3 l0_2 x21_1).length : Int) (wrap64 (x27_2 + 1)) l0_0 l0_1 l0_2 t815 t816) = some (r1, r2) := H
            have A18 := Aside0.mk A180
            clear A180
            have H' := Aside0.mk H
            clear H
            have p805 : 0 ≤ (x27_2 : Int) := of_decide_eq_true (by first | (with_reducible assumption) | assumption)
            have q805 : x27_2 < ((rd_L3 l0_2 x21_1).length : Int) := of_decide_eq_true (by first | (with_reducible assumption) | assumption)
            obtain ⟨ad805, e805, hx805_0⟩ := Kd.at_int HR803_0.out x27_2 p805 q805
            cases e805
            replace hx805_0 := (HB.out.cell (World.block_lt_of_cell? w _ hx805_0)).trans hx805_0
            replace p805 := eq_true p805
            replace q805 := eq_true q805
            have hnb19 := NB801_804.out
            have hnc19 := NB804_801.out
            have hcz20_0 : wr.cell? ⟨gb801, 0, none⟩ = some (.slice A0_0 l0_0.length c0_0) := (blk_cell BK801.out 0).trans rfl
            have hcz20_1 : wr.cell? ⟨gb801, 1, none⟩ = some (.slice A0_1 l0_1.length c0_1) := (blk_cell BK801.out 1).trans rfl
            have hcz20_2 : wr.cell? ⟨gb801, 2, none⟩ = some (.slice (some ad803) l0_2.length c0_2) := (blk_cell BK801.out 2).trans rfl
            have hfz20_0 := blk_frozen BK801.out 0
            have hfz20_1 := blk_frozen BK801.out 1
            have hfz20_2 := blk_frozen BK801.out 2
            try go_wp2_with (first | ((with_reducible refine gate_callee (f := 33) rfl ?_); refine goesL_ (some 34) rfl rfl Try.func33 (by kernel_rfl) rfl #[.agg #[.slice A0_0 l0_0.length c0_0, .slice A0_1 l0_1.length c0_1, .slice (some ad803) l0_2.length c0_2], .int .i64 (rd (rd_L3 l0_2 x21_1) x27_2)] rfl (by (try simp only [List.map_toArray, List.map_cons, List.map_nil]); first | done | rfl | (simp only [List.length_drop, List.length_take]; rfl)) ?_; (with_reducible refine (ring_Ring.calls k2 _ _ l0_0 _ _ l0_1 _ _ l0_2 (rd (rd_L3 l0_2 x21_1) x27_2) t806 t809 _ ?side1 ?side2 ?side3 ?side4 ?side5 ?side6 A16.out).mono ?_); (case side1 => repeat (first | exact (Kd.C_below HR0_0.out HB.out) | (with_reducible refine Kd.C_alloc ?_ _) | (with_reducible refine Kd.C_drewN ?_ _) | (with_reducible refine Kd.C_drew ?_))); (case side2 => exact HC0_0.out); (case side3 => repeat (first | exact (Kd.C_below HR0_1.out HB.out) | (with_reducible refine Kd.C_alloc ?_ _) | (with_reducible refine Kd.C_drewN ?_ _) | (with_reducible refine Kd.C_drew ?_))); (case side4 => exact HC0_1.out); (case side5 => repeat (first | exact (Kd.C_below HR0_2.out HB.out) | (with_reducible refine Kd.C_alloc ?_ _) | (with_reducible refine Kd.C_drewN ?_ _) | (with_reducible refine Kd.C_drew ?_))); (case side6 => exact HC0_2.out); rintro e w21 ⟨v807, rfl, ho0, hb⟩; refine ⟨_, rfl, ?_⟩; have n0_ := Aside0.mk (Kd.R_below (rK HO_5) hb); have n1_ := Aside0.mk (Kd.R_lower ho0 (below_size (bH HB))); have n2_ := Aside0.mk (blk_below (g := gb801) (o := .cells #[.slice A0_0 l0_0.length c0_0, .slice A0_1 l0_1.length c0_1, .slice (some ad803) l0_2.length c0_2] 25 (0, 0)) (bK BK801) hb); have n3_ := Aside0.mk (blk_below (g := gb804) (o := .cells #[.int .i64 x805000_2, .int .u64 x805001_2] 50 (0, 0)) (bK BK804) hb); have n4_ := Aside0.mk (below_step (bH HB) hb); clear HO_5; clear BK801; clear BK804; clear HB; have HO_5 := n0_; have HO808 := n1_; have BK801 := n2_; have BK804 := n3_; have HB := n4_; clear n0_ n1_ n2_ n3_ n4_; (try clear hb); (try clear hb2); (try clear hk); (try clear hi); (try clear ho0)))
            have n0_ := Aside0.mk (Kd.R_drew HO_5.out)
            have n1_ := Aside0.mk (Kd.R_drew HO808.out)
            have n2_ := Aside0.mk (blk_drew BK801.out)
            have n3_ := Aside0.mk (blk_drew BK804.out)
            have n4_ := Aside0.mk (below_drew1 HB.out)
            clear HO_5
            clear HO808
            clear BK801
            clear BK804
            clear HB
            have HO_5 := n0_
            have HO808 := n1_
            have BK801 := n2_
            have BK804 := n3_
            have HB := n4_
            clear n0_ n1_ n2_ n3_ n4_
            obtain ⟨Ao23, co23, eo23⟩ := Kd.R_slice HO808.out
            (first | subst eo23 | (injection eo23 with f1_ f2_ f3_; have f4_ := f1_.symm; have f5_ := f3_.symm; clear f1_ f2_ f3_; subst f4_; subst f5_))
            refine start_ (n := 6) (S := fun w' => w'.cell? ⟨gb804, 0, none⟩ = some (.int .i64 x805000_2) ∧ w'.cell? ⟨gb804, 1, none⟩ = some (.int .u64 x805001_2)) (ds := [5]) #[false, false, false, false, false, false] (by kernel_rfl) rfl rfl ⟨(blk_cell BK804.out 0).trans rfl, (blk_cell BK804.out 1).trans rfl⟩ (fun hHeld => ?_)
            generalize w21.drew = w22 at HO_5 HO808 BK801 BK804 HB hHeld ⊢
            refine pure_ (i := 1) (N := some 38) (v := ?_) (a' := ?_) #[false, true, false, false, false, false] rfl rfl (by kernel_rfl) (fun _ _ _ h => h) (Or.inl ⟨by rfl, ?_⟩) ?_ ?_
            rotate_left
            ·intro w'
             go_simp
             with_reducible rfl
            rotate_left
            ·simp only [Act.put, List.setIfInBounds_toArray, List.set_cons_zero, List.set_cons_succ, i64_w, i32_w]
             rfl
            refine take_ (i := 0) (N := some 37) (v := ?_) (a' := ?_) #[true, true, false, false, false, false] rfl rfl (by kernel_rfl) (fun _ _ _ h => h) (Or.inl ⟨by rfl, ?_⟩) hHeld ?_ ?_
            rotate_left
            ·rintro w' ⟨s0, s1⟩
             go_simp
             with_reducible rfl
            rotate_left
            ·simp only [Act.put, List.setIfInBounds_toArray, List.set_cons_zero, List.set_cons_succ, i64_w, i32_w]
             rfl
            refine one_ (i := 2) (N := some 39) #[true, true, true, false, false, false] rfl rfl (by kernel_rfl) (by decide) (fun K hK => ?_)
            refine goes_ Try.func46 (by kernel_rfl) rfl #[.slice Ao23 t806.length co23] (by rfl) rfl rfl (by (try simp only [List.map_toArray, List.map_cons, List.map_nil]); first | done | rfl | (simp only [List.length_drop, List.length_take]; rfl)) ?_
            with_reducible refine (geom_Area.calls k2 _ _ t806 t810 t811 _ ?side1 ?side2 A17.out).mono ?_
            (case side1 => repeat (first | exact (Kd.R_reads' HO808.out).2.2 | (with_reducible refine Kd.C_alloc ?_ _) | (with_reducible refine Kd.C_drewN ?_ _) | (with_reducible refine Kd.C_drew ?_)))
            (case side2 => exact (Kd.R_reads' HO808.out).2.1)
            rintro e w24 ⟨rfl, hb⟩
            refine ⟨_, rfl, ?_⟩
            have n0_ := Aside0.mk (Kd.R_below (rK HO_5) hb)
            have n1_ := Aside0.mk (Kd.R_below (rK HO808) hb)
            have n2_ := Aside0.mk (blk_below (g := gb801) (o := .cells #[.slice A0_0 l0_0.length c0_0, .slice A0_1 l0_1.length c0_1, .slice (some ad803) l0_2.length c0_2] 25 (0, 0)) (bK BK801) hb)
            have n3_ := Aside0.mk (blk_below (g := gb804) (o := .cells #[.int .i64 x805000_2, .int .u64 x805001_2] 50 (0, 0)) (bK BK804) hb)
            have n4_ := Aside0.mk (below_step (bH HB) hb)
            clear HO_5
            clear HO808
            clear BK801
            clear BK804
            clear HB
            have HO_5 := n0_
            have HO808 := n1_
            have BK801 := n2_
            have BK804 := n3_
            have HB := n4_
            clear n0_ n1_ n2_ n3_ n4_
            (try clear hb)
            (try clear hb2)
            (try clear hk)
            (try clear hi)
            refine hK.out _ _ ⟨(blk_cell BK804.out 0).trans rfl, (blk_cell BK804.out 1).trans rfl⟩ (fun hHeld => ?_)
            clear hK K
            refine norm_ (a' := ?_) ?_ ?_
            rotate_left
            ·show Act.put _ (some 39) _ = _
             simp only [Act.put, List.setIfInBounds_toArray, List.set_cons_zero, List.set_cons_succ, i64_w, i32_w]
             rfl
            refine one_ (i := 3) (N := some 40) #[true, true, true, true, false, false] rfl rfl (by kernel_rfl) (by decide) (fun K hK => ?_)
            refine Kd.R_lit_step k50 _ 50 ?hg (N := 40) ?hd (xs := ([(⟨t810, t811⟩ : S50)] : List (S50))) (inner := [.int .i64 t810, .int .u64 t811]) (ok := fun _ => True) (okp := fun _ => True) ?hr ?hp (fun _ hk => hk) trivial (Below.refl _ _) (Nat.le_refl _) (by simp) ?_; (case hd => rfl); (case hg => rfl); (case hr => first | (go_simp; done) | (go_simp; rfl)); (case hp => exact (Reps.c2 (show Kd.M k50 _ _ _ (⟨t810, t811⟩ : S50) [.int .i64 t810, .int .u64 t811] from (k50_mkM _ _ _ (⟨t810, t811⟩ : S50) )) (Reps.none _ _)))
            intro v813 w25 ho26 hb hg_ hnew_
            clear hg_ hnew_
            (first | rw [← Ny812.out] at ho26 | (simp only [Int.reduceToNat] at ho26; rw [← Ny812.out] at ho26))
            have n0_ := Aside0.mk (Kd.R_elder' (rK HO_5) (Kd.R_base ho26) hb)
            have n1_ := Aside0.mk (Kd.R_below (rK HO808) hb)
            have n2_ := Aside0.mk (Kd.R_lower (Kd.R_newB (Kd.R_new' ho26 (Kd.R_lt (rK HO_5))) (g := gb804) (o := .cells #[.int .i64 x805000_2, .int .u64 x805001_2] 50 (0, 0)) (bK BK804)) (below_size (bH HB)))
            have n3_ := Aside0.mk (blk_below (g := gb801) (o := .cells #[.slice A0_0 l0_0.length c0_0, .slice A0_1 l0_1.length c0_1, .slice (some ad803) l0_2.length c0_2] 25 (0, 0)) (bK BK801) hb)
            have n4_ := Aside0.mk (blk_below (g := gb804) (o := .cells #[.int .i64 x805000_2, .int .u64 x805001_2] 50 (0, 0)) (bK BK804) hb)
            have n5_ := Aside0.mk (below_step (bH HB) hb)
            clear HO_5
            clear HO808
            clear BK801
            clear BK804
            clear HB
            have HO_5 := n0_
            have HO808 := n1_
            have HO814 := n2_
            have BK801 := n3_
            have BK804 := n4_
            have HB := n5_
            clear n0_ n1_ n2_ n3_ n4_ n5_
            clear hb ho26
            obtain ⟨Ao27, co27, eo27⟩ := Kd.R_slice HO814.out
            (first | subst eo27 | (injection eo27 with f1_ f2_ f3_; have f4_ := f1_.symm; have f5_ := f3_.symm; clear f1_ f2_ f3_; subst f4_; subst f5_))
            refine hK.out _ _ ⟨(blk_cell BK804.out 0).trans rfl, (blk_cell BK804.out 1).trans rfl⟩ (fun hHeld => ?_)
            clear hK K
            refine norm_ (a' := ?_) ?_ ?_
            rotate_left
            ·show Act.put _ (some 40) _ = _
             simp only [Act.put, List.setIfInBounds_toArray, List.set_cons_zero, List.set_cons_succ, i64_w, i32_w]
             rfl
            refine one_ (i := 4) (N := some 41) #[true, true, true, true, true, false] rfl rfl (by kernel_rfl) (by decide) (fun K hK => ?_)
            refine goes_ Try.func25 (by kernel_rfl) rfl #[.agg #[.int .i64 x805000_2, .int .u64 x805001_2], .slice Ao27 y812.length co27] (by rfl) rfl rfl (by (try simp only [List.map_toArray, List.map_cons, List.map_nil]); first | done | rfl | (simp only [List.length_drop, List.length_take]; rfl)) ?_
            with_reducible refine (wide_Add.calls k2 x805000_2 x805001_2 _ _ y812 t815 t816 _ ?side1 ?side2 A18.out).mono ?_
            (case side1 => repeat (first | exact (Kd.R_reads' HO814.out).2.2 | (with_reducible refine Kd.C_alloc ?_ _) | (with_reducible refine Kd.C_drewN ?_ _) | (with_reducible refine Kd.C_drew ?_)))
            (case side2 => exact (Kd.R_reads' HO814.out).2.1)
            rintro e w28 ⟨rfl, hb⟩
            refine ⟨_, rfl, ?_⟩
            have n0_ := Aside0.mk (Kd.R_below (rK HO_5) hb)
            have n1_ := Aside0.mk (Kd.R_below (rK HO808) hb)
            have n2_ := Aside0.mk (Kd.R_below (rK HO814) hb)
            have n3_ := Aside0.mk (blk_below (g := gb801) (o := .cells #[.slice A0_0 l0_0.length c0_0, .slice A0_1 l0_1.length c0_1, .slice (some ad803) l0_2.length c0_2] 25 (0, 0)) (bK BK801) hb)
            have n4_ := Aside0.mk (blk_below (g := gb804) (o := .cells #[.int .i64 x805000_2, .int .u64 x805001_2] 50 (0, 0)) (bK BK804) hb)
            have n5_ := Aside0.mk (below_step (bH HB) hb)
            clear HO_5
            clear HO808
            clear HO814
            clear BK801
            clear BK804
            clear HB
            have HO_5 := n0_
            have HO808 := n1_
            have HO814 := n2_
            have BK801 := n3_
            have BK804 := n4_
            have HB := n5_
            clear n0_ n1_ n2_ n3_ n4_ n5_
            (try clear hb)
            (try clear hb2)
            (try clear hk)
            (try clear hi)
            refine hK.out _ _ ⟨(blk_cell BK804.out 0).trans rfl, (blk_cell BK804.out 1).trans rfl⟩ (fun hHeld => ?_)
            clear hK K
            refine norm_ (a' := ?_) ?_ ?_
            rotate_left
            ·show Act.put _ (some 41) _ = _
             simp only [Act.put, List.setIfInBounds_toArray, List.set_cons_zero, List.set_cons_succ, i64_w, i32_w]
             rfl
            refine last_ (i := 5) (N := none) #[true, true, true, true, true, true] rfl rfl (by kernel_rfl) (by decide) (fun K hK => ?_)
            have hs29 : w28.cell? ⟨gb804, 0, none⟩ = some (.int .i64 x805000_2) := (blk_cell BK804.out 0).trans rfl
            have hfs29 := blk_frozen BK804.out 0
            have hns29_0 := NB801_804.out
            have hms29_0 := NB804_801.out
            have hs30 : w28.cell? ⟨gb804, 1, none⟩ = some (.int .u64 x805001_2) := (blk_cell BK804.out 1).trans rfl
            have hfs30 := blk_frozen BK804.out 1
            have hns30_0 := NB801_804.out
            have hms30_0 := NB804_801.out
            refine skip_ (w1 := ?_) (by rfl) rfl ?_ ?_
            rotate_left
            ·go_simp
             rfl
            refine hK.out _ _ ?_
            clear hK K
            refine done_ (by kernel_rfl) ?_
            try go_wp2
            go_roundg k2
            case measure => have := HK1.out; have := HK2.out; omega
            case rel => exact ⟨(wrap64 (x27_2 + 1)), (t815), (t816), (by first | rfl | (simp; done) | (simp [*]; done)), H', ⟨by have := HK1.out; have := HK2.out; omega⟩, ⟨by (with_reducible repeat (first | apply Kd.R_alloc | apply Kd.R_drewN | apply Kd.R_drew)); exact Kd.R_mono (Kd.R_far (p := ⟨gb804, 1, none⟩) (Kd.R_far (p := ⟨gb804, 0, none⟩) (Kd.R_mono HO_5.out (fun k_ hk => (⟨hk, hk.1⟩ : _ ∧ k_ ≠ gb804))) (fun _ hk => hk.2) (.int .i64 t815)) (fun _ hk => hk.2) (.int .u64 t816)) (fun _ hk => hk.1.1)⟩, ⟨bK BK801⟩, ⟨by (with_reducible repeat (first | refine blk_drewN ?_ _ | refine blk_drew ?_ | refine blk_alloc ?_ _)); refine blk_put (cs := #[.int .i64 t815, .int .u64 x805001_2]) ?_ 1 _ rfl; (with_reducible repeat (first | refine blk_drewN ?_ _ | refine blk_drew ?_ | refine blk_alloc ?_ _)); refine blk_put (cs := #[.int .i64 x805000_2, .int .u64 x805001_2]) ?_ 0 _ rfl; (with_reducible repeat (first | refine blk_drewN ?_ _ | refine blk_drew ?_ | refine blk_alloc ?_ _)); exact BK804.out⟩, ⟨ bH HB⟩⟩
           ·rw [if_neg c15] at H
            exact absurd H (by simp)
          ·rw [if_neg c14] at H
           exact absurd H (by simp)
         ·rw [if_neg c13] at H
          have c13b0 : decide (x27_2 < ((rd_L3 l0_2 x21_1).length : Int)) = false := decide_eq_false c13
          clear c13
          by_cases c31 : x5_1.length < 8796093022208
          ·rw [if_pos c31] at H
           have LMc31 := Aside0.mk c31
           clear c31
           obtain ⟨y817, hy817⟩ : ∃ y_ : List (S50), y_ = (x5_1 ++ [(⟨x805000_2, x805001_2⟩ : S50)]) := ⟨_, rfl⟩
           replace H : (plan_Areas.l0 k2 y817 l0_2 (l0_2.length : Int) (wrap64 (x21_1 + 1)) l0_0 l0_1 l0_2) = some (r1, r2) := by first | (rw [hy817]; with_reducible exact H) | (have H2_ := (Option.bind_some _ _).symm.trans H; rw [hy817]; with_reducible exact H2_) | (have H2_ := (Option.bind_some _ _).symm.trans H; with_reducible exact H2_) | with_reducible exact H | (rw [hy817]; exact H) | exact H
           have Ny817 := Aside0.mk hy817
           clear hy817
           have H' := Aside0.mk H
           clear H
           have hnb32 := NB804_801.out
           have hnc32 := NB801_804.out
           have hcz33_0 : wr.cell? ⟨gb804, 0, none⟩ = some (.int .i64 x805000_2) := (blk_cell BK804.out 0).trans rfl
           have hcz33_1 : wr.cell? ⟨gb804, 1, none⟩ = some (.int .u64 x805001_2) := (blk_cell BK804.out 1).trans rfl
           have hfz33_0 := blk_frozen BK804.out 0
           have hfz33_1 := blk_frozen BK804.out 1
           go_wp2_with (first | ((with_reducible refine gate_builtin (b := .append) (xs := #[.tmp 43, .tmp 45]) rfl ?_); at_builtin; refine Kd.R_append k50 (w0 := w) w.heap.size rfl (.tmp 43) (.tmp 45) 39 50 (.agg #[(.int .i64 0), (.int .u64 0)]) 16 rfl Try.underlying39 info50 rfl (by decide) (by omega) u5 x5_1 (⟨x805000_2, x805001_2⟩ : S50) [.int .i64 x805000_2, .int .u64 x805001_2] (fun k_ => k_ ≠ gb804) (fun _ => False) rfl rfl ?aP (fun _ hk => hk.elim) ?aF ?aO ?aB ?aS ?aL ?_; (case aP => exact k50_mkM _ _ _ (⟨x805000_2, x805001_2⟩ : S50)); (case aB => exact (bH HB)); (case aF => exact (fun k_ hk => Kd.freshB (g := gb804) (o := .cells #[.int .i64 x805000_2, .int .u64 x805001_2] 50 (0, 0)) (bK BK804) k_ hk)); (case aO => exact (rK HO_5)); (case aS => exact (below_size (bH HB))); (case aL => have := LMc31.out; omega); intro v818 w34 ho hb hg hat; rw [← Ny817.out] at ho; have n0_ := Aside0.mk (blk_grown (g := gb801) (o := .cells #[.slice A0_0 l0_0.length c0_0, .slice A0_1 l0_1.length c0_1, .slice (some ad803) l0_2.length c0_2] 25 (0, 0)) (bK BK801) hg (Kd.R_ne HO_5.out BK801.out (by decide))); have n1_ := Aside0.mk (blk_grown (g := gb804) (o := .cells #[.int .i64 x805000_2, .int .u64 x805001_2] 50 (0, 0)) (bK BK804) hg (Kd.R_away HO_5.out (fun _ hk => hk))); have n2_ := Aside0.mk (hb); have n3_ := Aside0.mk (ho); clear BK801; clear BK804; clear HB; clear HO_5; have BK801 := n0_; have BK804 := n1_; have HB := n2_; have HO819 := n3_; clear n0_ n1_ n2_ n3_; clear ho hb hg hat))
           go_roundg k2
           case measure => have := HK1.out; have := HK2.out; omega
           case rel => exact ⟨(y817), (wrap64 (x21_1 + 1)), (by first | rfl | (simp; done) | (simp [*]; done)), H', ⟨by have := HK1.out; have := HK2.out; omega⟩, ⟨by (with_reducible repeat (first | apply Kd.R_alloc | apply Kd.R_drewN | apply Kd.R_drew)); exact Kd.R_mono HO819.out (fun _ hk => trivial)⟩, ⟨bK BK801⟩, ⟨ bH HB⟩⟩
          ·rw [if_neg c31] at H
           exact absurd H (by simp)
      ·rw [if_neg c11] at H
       exact absurd H (by simp)
     ·rw [if_neg c10] at H
      exact absurd H (by simp)
    ·rw [if_neg c9] at H
     have c9b0 : decide (x21_1 < (l0_2.length : Int)) = false := decide_eq_false c9
     clear c9
     simp only [Option.some.injEq, Prod.mk.injEq] at H
     obtain ⟨rfl, rfl⟩ := H
     go_wp2
     go_ret2
     exact ⟨_, by first | rfl | (simp [errW_none, errW_some] <;> rfl) | (simp [*, errW_none, errW_some] <;> rfl), by (with_reducible repeat (first | apply Kd.R_alloc | apply Kd.R_drewN | apply Kd.R_drew)); exact HO_5.out, bH HB⟩
 ·rw [if_neg c7] at H
  have c7b0 : (t802 == 0) = false := beq_eq_false_iff_ne.mpr c7
  have c7b1 : (t802 != 0) = true := bne_iff_ne.mpr c7
  (first | rw [c7b0] | (simp only [i64_w, i32_w]; rw [c7b0]) | skip)
  (try rw [c7b1])
  simp only [Option.some.injEq, Prod.mk.injEq] at H
  obtain ⟨rfl, rfl⟩ := H
  go_wp2
  go_ret2
  exact ⟨_, by first | rfl | (simp [errW_none, errW_some] <;> rfl) | (simp [*, errW_none, errW_some] <;> rfl), by first | exact Kd.R_nil _ _ _ _ _ | exact Kd.N_nil _ _ _ _ _ | exact Kd.V_nil _ _ _ _ _ | exact Kd.Q_nil _ _ _ _ _ | exact Kd.S_nil _ _ _ _ _, bH HB⟩

end Go.Proofs.Ytbonkedecfjmdaa.P

namespace Go.Proofs.Ytbonkedecfjmdaa.Pl
set_option linter.unusedVariables false
set_option linter.unusedSimpArgs false
open Go Go.RowKit Go.Proofs.Ytbonkedecfjmdaa.P Go.Proofs.Ytbonkedecfjmdaa.G Go.Proofs.Ytbonkedecfjmdaa.WL Go.Proofs.YtbonkedecfjmdaaW.PrintWords Go.Proofs.YtbonkedecfjmdaaW.PrintLast Go.Proofs.YtbonkedecfjmdaaW.PrintMore

def polyA (m : List (List Pt)) (r : List (List Int)) (l : List Int) : Int := (l.map fun k => areaV (ringAt m r k).1).sum
theorem areas_l1 {m : List (List Pt)} {r : List (List Int)} (hs : Small m r) (p : List (List Int)) (x5 : List S50) (h5 : x5.length < 8796093022208) (x19 : List (List Int)) (x20 x21 : Int) (poly : List Int) (hpl : poly.length ≤ 100000000) (R : List S50 × Int) : ∀ (n i : Nat) (x : Int), i + n = poly.length →
    Ev (fun k => plan_Areas.l0 k (x5 ++ [num (x + polyA m r (poly.drop i))]) x19 x20 (wrap64 (x21 + 1)) m r p) R → Ev (fun k => plan_Areas.l1 k x5 x19 x20 x21 poly (poly.length : Int) (i : Int) m r p (hiw x) (low x)) R := by
  intro n
  induction n with
  | zero =>
    intro i x hi h
    rw [List.drop_of_length_le (by omega)] at h
    refine Ev.step (fun k => ?_) h
    conv => lhs; unfold plan_Areas.l1
    rw [if_neg (by omega), if_pos h5]
    simp [polyA, num]
  | succ n ih =>
    intro i x hi h
    have hlt : i < poly.length := by omega
    have hd : polyA m r (poly.drop i) = areaV (ringAt m r poly[i]).1 + polyA m r (poly.drop (i + 1)) := by unfold polyA; rw [List.drop_eq_getElem_cons hlt, List.map_cons, List.sum_cons]
    rw [hd, ← Int.add_assoc] at h
    have nx := ih (i + 1) (x + areaV (ringAt m r poly[i]).1) (by omega) h
    refine Ev.step (f := fun k => (ring_Ring.f k m r p poly[i]).bind fun bt806 => ((geom_Area.f k bt806.1).bind fun bt810 => ((wide_Add.f k (hiw x) (low x) (([(⟨bt810.1, bt810.2⟩ : S50)] : List (S50)))).bind fun bt815 => (plan_Areas.l1 k x5 x19 x20 x21 poly (poly.length : Int) ((i + 1 : Nat) : Int) m r p bt815.1 bt815.2)))) (fun k => ?_) ?_
    · conv => lhs; unfold plan_Areas.l1
      rw [if_pos (by omega), if_pos (by omega), if_pos (by omega), nxt i (by omega), show rd poly (i : Int) = poly[i] by simp [rd, List.getD, List.getElem?_eq_getElem hlt]]
    · refine Ev.bind (ringAt_ev hs p poly[i]) ?_
      refine Ev.bind (gArea_val _ (by have := ringAt_len hs poly[i]; omega)) ?_
      refine Ev.bind (wAdd_ev x (areaV (ringAt m r poly[i]).1)) ?_
      exact nx
def outA (m : List (List Pt)) (r p : List (List Int)) : List S50 := (p.map (polyA m r)).map num
theorem outA_len (m : List (List Pt)) (r p : List (List Int)) : (outA m r p).length = p.length := by simp [outA]
theorem areas_l0 {m : List (List Pt)} {r : List (List Int)} (hs : Small m r) (p : List (List Int)) (hp : p.length ≤ 100000000) (hpx : ∀ x ∈ p, x.length ≤ 100000000) : ∀ (n i : Nat), i + n = p.length →
    Ev (fun k => plan_Areas.l0 k (outA m r (p.take i)) p (p.length : Int) (i : Int) m r p) (outA m r p, 0) := by
  intro n
  induction n with
  | zero =>
    intro i hi
    refine Ev.step (f := fun _ => some (outA m r p, 0)) (fun k => ?_) (Ev.now _)
    conv => lhs; unfold plan_Areas.l0
    rw [if_neg (by omega), List.take_of_length_le (by omega)]
  | succ n ih =>
    intro i hi
    have hlt : i < p.length := by omega
    have hx := hpx _ (List.getElem_mem hlt)
    refine Ev.step (f := fun k => plan_Areas.l1 k (outA m r (p.take i)) p (p.length : Int) (i : Int) p[i] (p[i].length : Int) ((0 : Nat) : Int) m r p (hiw 0) (low 0)) (fun k => ?_) ?_
    · conv => lhs; unfold plan_Areas.l0
      rw [if_pos (by omega), if_pos (by omega), if_pos (by omega), show rd_L3 p (i : Int) = p[i] by simp [rd_L3, List.getD, List.getElem?_eq_getElem hlt]]
      rfl
    · refine areas_l1 hs p _ (by rw [outA_len, List.length_take]; omega) p (p.length : Int) (i : Int) p[i] hx _ p[i].length 0 0 (by omega) ?_
      rw [nxt i (by omega), List.drop_zero, Int.zero_add]
      have e : outA m r (p.take i) ++ [num (polyA m r p[i])] = outA m r (p.take (i + 1)) := by
        have e2 : p.take (i + 1) = p.take i ++ [p[i]] := by rw [List.take_add_one, List.getElem?_eq_getElem hlt]; rfl
        unfold outA
        rw [e2, List.map_append, List.map_append]
        rfl
      rw [e]
      exact ih (i + 1) (by omega)
def areasO (m : List (List Pt)) (r p : List (List Int)) : List S50 := if checkV m r p = 0 then outA m r p else []
theorem checkV_long {m : List (List Pt)} {r p : List (List Int)} (h : checkV m r p = 0) : arcsV m = 0 ∧ longV m r p = false := by
  unfold checkV at h
  split at h
  · cases h
  · rename_i hn
    split at h
    · rename_i h0
      exact absurd h h0
    · rename_i h0
      refine ⟨by simpa using h0, ?_⟩
      cases hl : longV m r p with
      | false => rfl
      | true => exact absurd (.inr hl) hn
theorem checkV_sizes {m : List (List Pt)} {r p : List (List Int)} (h : checkV m r p = 0) : (m.length ≤ 2000 ∧ ∀ x ∈ m, x.length ≤ 20000) ∧ r.length ≤ 1000 ∧ p.length ≤ 1000 ∧ r.flatten.length ≤ 20000 ∧ p.flatten.length ≤ 20000 := by
  obtain ⟨h1, h2⟩ := checkV_long h
  unfold longV at h2
  simp only [Bool.or_eq_false_iff, decide_eq_false_iff_not] at h2
  obtain ⟨l1, l2, l3, l4⟩ := h2
  exact ⟨arcs_small h1, by omega, by omega, by omega, by omega⟩
theorem areas_ev (m : List (List Pt)) (r p : List (List Int)) (hm : m.length ≤ 1048576) (hx : ∀ a ∈ m, a.length ≤ 1048576) (hr : r.length ≤ 1048576) (hrf : r.flatten.length ≤ 1048576) (hp : p.length ≤ 1048576) (hpf : p.flatten.length ≤ 1048576) (hwf : ∀ x ∈ r, ∀ n ∈ x, wf64 n) : Ev (fun k => plan_Areas.f k m r p) (areasO m r p, checkV m r p) := by
  unfold plan_Areas.f
  refine Ev.bind (check_ev m r p hm hx hr hrf hp hpf hwf) ?_
  unfold areasO
  by_cases h : checkV m r p = 0
  · obtain ⟨⟨s1, s2⟩, s3, s4, s5, s6⟩ := checkV_sizes h
    have hs : Small m r := ⟨s2, by omega, s5, hwf⟩
    simp only [if_pos h, h]
    have := areas_l0 hs p (by omega) (fun x hx => Nat.le_trans (flat_mem_len p x hx) (by omega)) p.length 0 (by omega)
    exact this
  · simp only [if_neg h]
    exact Ev.now _
end Go.Proofs.Ytbonkedecfjmdaa.Pl
