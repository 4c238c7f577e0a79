/- Written for this claim by a program of this session (a turned copy of the print): Go functions as Lean functions, and that the Go code comes to just these answers; or a statement proved out of them. No condition. -/
import Derived.Test.YtbonkedecfjmdaaZ2
import Derived.Test.YtbonkedecfjmdaaZ16
import Derived.Test.YtbonkedecfjmdaaZ8
import Derived.Test.YtbonkedecfjmdaaZ20
import Derived.Test.YtbonkedecfjmdaaZ12

namespace Go.Proofs.Ytbonkedecfjmdaa.P
open Go.RowKit Go.Proofs.YtbonkedecfjmdaaW.PrintWords Go.Proofs.YtbonkedecfjmdaaW.PrintLast Go.Proofs.YtbonkedecfjmdaaW.PrintMore Go.Proofs.Ytbonkedecfjmdaa.X
attribute [local go_sem] max2_int min2_int max_two min_two max_three min_three max_four min_four add64_0 add64_1 add64   -- for this text's walks alone
set_option linter.unusedVariables false
set_option linter.unusedSimpArgs false

/-! ### plan_Where: function 10 -/
mutual
def plan_Where.l0 : Nat → List Int → List (List Int) → Int → Int → List (List (S27)) → List (List Int) → List (List Int) → Int → Int → Int → Option (List Int × Int)
 | 0, _, _, _, _, _, _, _, _, _, _ => none
 | k + 1, x7, x26, x27, x28, x676000, x676001, x676002, x677000, x677001, x677002 => if x28 < x27 then (if 0 ≤ x28 then (if x28 < (x26.length : Int) then (plan_Where.l1 k x7 x28 true x26 x27 x28 (rd_L3 x26 x28) ((rd_L3 x26 x28).length : Int) 0 x676000 x676001 x676002 x677000 x677001 x677002) else (none)) else (none)) else (some (x7, 0))
def plan_Where.l1 : Nat → List Int → Int → Bool → List (List Int) → Int → Int → List Int → Int → Int → List (List (S27)) → List (List Int) → List (List Int) → Int → Int → Int → Option (List Int × Int)
 | 0, _, _, _, _, _, _, _, _, _, _, _, _, _, _, _ => none
 | k + 1, x7, x8, x10, x26, x27, x28, x33, x34, x35, x676000, x676001, x676002, x677000, x677001, x677002 => if x35 < x34 then (if 0 ≤ x35 then (if x35 < (x33.length : Int) then ((ring_Ring.f k x676000 x676001 x676002 (rd x33 x35)).bind fun bt684 => ((geom_In.f k x677000 x677001 x677002 bt684.1).bind fun t688 => (if x10 = true then (if x35 = 0 then (if t688 ≥ 0 then (plan_Where.l1 k x7 x8 true x26 x27 x28 x33 x34 (wrap64 (x35 + 1)) x676000 x676001 x676002 x677000 x677001 x677002) else (if x35 > 0 then (plan_Where.l1 k x7 x8 (decide (t688 < 1)) x26 x27 x28 x33 x34 (wrap64 (x35 + 1)) x676000 x676001 x676002 x677000 x677001 x677002) else (plan_Where.l1 k x7 x8 false x26 x27 x28 x33 x34 (wrap64 (x35 + 1)) x676000 x676001 x676002 x677000 x677001 x677002))) else (if x35 > 0 then (plan_Where.l1 k x7 x8 (decide (t688 < 1)) x26 x27 x28 x33 x34 (wrap64 (x35 + 1)) x676000 x676001 x676002 x677000 x677001 x677002) else (plan_Where.l1 k x7 x8 false x26 x27 x28 x33 x34 (wrap64 (x35 + 1)) x676000 x676001 x676002 x677000 x677001 x677002))) else (plan_Where.l1 k x7 x8 false x26 x27 x28 x33 x34 (wrap64 (x35 + 1)) x676000 x676001 x676002 x677000 x677001 x677002)))) else (none)) else (none)) else (if x10 = true then (if x7.length < 17592186044416 then (plan_Where.l0 k (x7 ++ [x8]) x26 x27 (wrap64 (x28 + 1)) x676000 x676001 x676002 x677000 x677001 x677002) else (none)) else (plan_Where.l0 k x7 x26 x27 (wrap64 (x28 + 1)) x676000 x676001 x676002 x677000 x677001 x677002))
end
def plan_Where.f (k : Nat) (l0_0 : List (List (S27))) (l0_1 : List (List Int)) (l0_2 : List (List Int)) (a1_0 : Int) (a1_1 : Int) (a1_2 : Int) : Option (List Int × Int) := (plan_Check.f k l0_0 l0_1 l0_2).bind fun t677 => (if t677 = 0 then ((geom_Right.f k (([(⟨a1_0, a1_1, a1_2⟩ : S27)] : List (S27)))).bind fun t681 => (if t681 = true then (plan_Where.l0 k ([] : List Int) l0_2 (l0_2.length : Int) 0 l0_0 l0_1 l0_2 a1_0 a1_1 a1_2) else (some (([] : List Int), 2)))) else (some (([] : List Int), t677)))
theorem plan_Where.mono_l : ∀ k, (∀ y0 y1 y2 y3 y4 y5 y6 y7 y8 y9, LeO (plan_Where.l0 k y0 y1 y2 y3 y4 y5 y6 y7 y8 y9) (plan_Where.l0 (k + 1) y0 y1 y2 y3 y4 y5 y6 y7 y8 y9)) ∧ (∀ y0 y1 y2 y3 y4 y5 y6 y7 y8 y9 y10 y11 y12 y13 y14, LeO (plan_Where.l1 k y0 y1 y2 y3 y4 y5 y6 y7 y8 y9 y10 y11 y12 y13 y14) (plan_Where.l1 (k + 1) y0 y1 y2 y3 y4 y5 y6 y7 y8 y9 y10 y11 y12 y13 y14))
 | 0 => ⟨fun _ _ _ _ _ _ _ _ _ _ r h => by simp [plan_Where.l0] at h, fun _ _ _ _ _ _ _ _ _ _ _ _ _ _ _ r h => by simp [plan_Where.l1] at h⟩
 | k + 1 => by
  obtain ⟨ih0, ih1⟩ := plan_Where.mono_l k
  refine ⟨?_, ?_⟩
  ·intro y0 y1 y2 y3 y4 y5 y6 y7 y8 y9
   unfold plan_Where.l0
   repeat' first
   | (with_reducible exact ih0 _ _ _ _ _ _ _ _ _ _)
   | (with_reducible exact ih1 _ _ _ _ _ _ _ _ _ _ _ _ _ _ _)
   | (with_reducible exact geom_In.mono _ _ _ _ _)
   | (with_reducible exact geom_Right.mono _ _)
   | (with_reducible exact plan_Check.mono _ _ _ _)
   | (with_reducible exact ring_Ring.mono _ _ _ _ _)
   | (with_reducible exact LeO.refl _)
   | (with_reducible exact LeO.none _)
   | (with_reducible refine LeO.ite ?_ ?_)
   | (with_reducible refine LeO.bind ?_ (fun _ => ?_))
   | exact ih0 _ _ _ _ _ _ _ _ _ _
   | exact ih1 _ _ _ _ _ _ _ _ _ _ _ _ _ _ _
   | exact geom_In.mono _ _ _ _ _
   | exact geom_Right.mono _ _
   | exact plan_Check.mono _ _ _ _
   | exact ring_Ring.mono _ _ _ _ _
   | exact LeO.none _
   | refine LeO.ite ?_ ?_
   | refine LeO.bind ?_ (fun _ => ?_)
  ·intro y0 y1 y2 y3 y4 y5 y6 y7 y8 y9 y10 y11 y12 y13 y14
   unfold plan_Where.l1
   repeat' first
   | (with_reducible exact ih0 _ _ _ _ _ _ _ _ _ _)
   | (with_reducible exact ih1 _ _ _ _ _ _ _ _ _ _ _ _ _ _ _)
   | (with_reducible exact geom_In.mono _ _ _ _ _)
   | (with_reducible exact geom_Right.mono _ _)
   | (with_reducible exact plan_Check.mono _ _ _ _)
   | (with_reducible exact ring_Ring.mono _ _ _ _ _)
   | (with_reducible exact LeO.refl _)
   | (with_reducible exact LeO.none _)
   | (with_reducible refine LeO.ite ?_ ?_)
   | (with_reducible refine LeO.bind ?_ (fun _ => ?_))
   | exact ih0 _ _ _ _ _ _ _ _ _ _
   | exact ih1 _ _ _ _ _ _ _ _ _ _ _ _ _ _ _
   | exact geom_In.mono _ _ _ _ _
   | exact geom_Right.mono _ _
   | exact plan_Check.mono _ _ _ _
   | exact ring_Ring.mono _ _ _ _ _
   | exact LeO.none _
   | refine LeO.ite ?_ ?_
   | refine LeO.bind ?_ (fun _ => ?_)
theorem plan_Where.mono : ∀ a0 a1 a2 a3 a4 a5 k, LeO (plan_Where.f k a0 a1 a2 a3 a4 a5) (plan_Where.f (k + 1) a0 a1 a2 a3 a4 a5) := by
 intro a0 a1 a2 a3 a4 a5 k
 obtain ⟨ih0, ih1⟩ := plan_Where.mono_l k
 unfold plan_Where.f
 repeat' first
   | (with_reducible exact ih0 _ _ _ _ _ _ _ _ _ _)
   | (with_reducible exact ih1 _ _ _ _ _ _ _ _ _ _ _ _ _ _ _)
   | (with_reducible exact geom_In.mono _ _ _ _ _)
   | (with_reducible exact geom_Right.mono _ _)
   | (with_reducible exact plan_Check.mono _ _ _ _)
   | (with_reducible exact ring_Ring.mono _ _ _ _ _)
   | (with_reducible exact LeO.refl _)
   | (with_reducible exact LeO.none _)
   | (with_reducible refine LeO.ite ?_ ?_)
   | (with_reducible refine LeO.bind ?_ (fun _ => ?_))
   | exact ih0 _ _ _ _ _ _ _ _ _ _
   | exact ih1 _ _ _ _ _ _ _ _ _ _ _ _ _ _ _
   | exact geom_In.mono _ _ _ _ _
   | exact geom_Right.mono _ _
   | exact plan_Check.mono _ _ _ _
   | exact ring_Ring.mono _ _ _ _ _
   | exact LeO.none _
   | refine LeO.ite ?_ ?_
   | refine LeO.bind ?_ (fun _ => ?_)
set_option maxHeartbeats 8000000 in
set_option maxRecDepth 100000 in
theorem plan_Where.calls (k : Nat) (A0_0 : Option Addr) (c0_0 : Nat) (l0_0 : List (List (S27))) (A0_1 : Option Addr) (c0_1 : Nat) (l0_1 : List (List Int)) (A0_2 : Option Addr) (c0_2 : Nat) (l0_2 : List (List Int)) (a1_0 : Int) (a1_1 : Int) (a1_2 : Int) (r1 : List Int) (r2 : Int) (w : World) (hr0_0 : Kd.C (Kd.slice 27 k27) w A0_0 l0_0.length l0_0) (hc0_0 : l0_0.length ≤ c0_0) (hr0_1 : Kd.C (Kd.slice 3 (Kd.int .i64)) w A0_1 l0_1.length l0_1) (hc0_1 : l0_1.length ≤ c0_1) (hr0_2 : Kd.C (Kd.slice 3 (Kd.int .i64)) w A0_2 l0_2.length l0_2) (hc0_2 : l0_2.length ≤ c0_2) (h : plan_Where.f k l0_0 l0_1 l0_2 a1_0 a1_1 a1_2 = some (r1, r2)) :
  Calls Try.prog 10 #[.agg #[.slice A0_0 l0_0.length c0_0, .slice A0_1 l0_1.length c0_1, .slice A0_2 l0_2.length c0_2], .agg #[.int .i64 a1_0, .int .i64 a1_1, .int .i64 a1_2]] w fun e w' => ∃ v0_ : Value, e = .returned (.tuple #[v0_, .int .i64 r2]) ∧ Kd.R (Kd.int .i64) 3 w' w.heap.size (fun _ => True) v0_ r1 ∧ Below w.heap.size w w' := by
 have hu25 := Try.underlying25
 have hu27 := Try.underlying27
 have HR0_0 := Aside0.mk hr0_0
 have HC0_0 := Aside0.mk hc0_0
 clear hr0_0 hc0_0
 have HR0_1 := Aside0.mk hr0_1
 have HC0_1 := Aside0.mk hc0_1
 clear hr0_1 hc0_1
 have HR0_2 := Aside0.mk hr0_2
 have HC0_2 := Aside0.mk hc0_2
 clear hr0_2 hc0_2
 have HB := Aside0.mk (Below.refl w.heap.size w)
 have H : ((plan_Check.f k l0_0 l0_1 l0_2).bind fun t677 => (if t677 = 0 then ((geom_Right.f k (([(⟨a1_0, a1_1, a1_2⟩ : S27)] : List (S27)))).bind fun t681 => (if t681 = true then (plan_Where.l0 k ([] : List Int) l0_2 (l0_2.length : Int) 0 l0_0 l0_1 l0_2 a1_0 a1_1 a1_2) else (some (([] : List Int), 2)))) else (some (([] : List Int), t677)))) = some (r1, r2) := h
 clear h
 replace H := Option.bind_eq_some_iff.mp H
 obtain ⟨t677, A30, H⟩ := H
 replace H : (if t677 = 0 then ((geom_Right.f k (([(⟨a1_0, a1_1, a1_2⟩ : S27)] : List (S27)))).bind fun t681 => (if t681 = true then (plan_Where.l0 k ([] : List Int) l0_2 (l0_2.length : Int) 0 l0_0 l0_1 l0_2 a1_0 a1_1 a1_2) else (some (([] : List Int), 2)))) else (some (([] : List Int), t677))) = some (r1, r2) := H
 have A3 := Aside0.mk A30
 clear A30
 have HC4 := Aside0.mk H
 clear H
 go_enter Try.func10, Try.ntmps10
 go_upto_if 19 with (first | ((with_reducible refine gate_dst (N := 2) rfl ?_); refine box_event ?hg (N := 2) ?hd (cs := #[.slice A0_0 l0_0.length c0_0, .slice A0_1 l0_1.length c0_1, .slice A0_2 l0_2.length c0_2]) (t := 25) ?hr ?_; (case hd => rfl); (case hg => rfl); (case hr => first | (go_simp; done) | (go_simp; rfl)); intro gb675 hg w5 hbox hb; have n0_ := Aside0.mk (below_step (bH HB) hb); have n1_ := Aside0.mk (hbox); have n2_ := Aside0.mk ((by rw [hg]; exact (below_size (bH HB)) : w.heap.size ≤ gb675)); have n3_ := n2_; clear HB; have HB := n0_; have BK675 := n1_; have GW675 := n2_; have GE675 := n3_; clear n0_ n1_ n2_ n3_; clear hb hbox hg) | ((with_reducible refine gate_dst (N := 3) rfl ?_); refine box_event ?hg (N := 3) ?hd (cs := #[.int .i64 a1_0, .int .i64 a1_1, .int .i64 a1_2]) (t := 27) ?hr ?_; (case hd => rfl); (case hg => rfl); (case hr => first | (go_simp; done) | (go_simp; rfl)); intro gb676 hg w6 hbox hb; have n0_ := Aside0.mk (blk_below (g := gb675) (o := .cells #[.slice A0_0 l0_0.length c0_0, .slice A0_1 l0_1.length c0_1, .slice A0_2 l0_2.length c0_2] 25 (0, 0)) (bK BK675) hb); have n1_ := Aside0.mk (below_step (bH HB) hb); have n2_ := Aside0.mk (hbox); have n3_ := Aside0.mk ((by rw [hg]; exact (below_size (bH HB)) : w.heap.size ≤ gb676)); have n4_ := n3_; have n5_ := Aside0.mk ((by rw [hg]; exact Nat.ne_of_lt (blk_lt (bK BK675)) : gb675 ≠ gb676)); have n6_ := Aside0.mk ((by rw [hg]; exact Nat.ne_of_gt (blk_lt (bK BK675)) : gb676 ≠ gb675)); clear BK675; clear HB; have BK675 := n0_; have HB := n1_; have BK676 := n2_; have GW676 := n3_; have GE676 := n4_; have NB675_676 := n5_; have NB676_675 := n6_; clear n0_ n1_ n2_ n3_ n4_ n5_ n6_; clear hb hbox hg; have hnb7 := NB675_676.out; have hnc7 := NB676_675.out; have hcz8_0 : w6.cell? ⟨gb675, 0, none⟩ = some (.slice A0_0 l0_0.length c0_0) := (blk_cell BK675.out 0).trans rfl; have hcz8_1 : w6.cell? ⟨gb675, 1, none⟩ = some (.slice A0_1 l0_1.length c0_1) := (blk_cell BK675.out 1).trans rfl; have hcz8_2 : w6.cell? ⟨gb675, 2, none⟩ = some (.slice A0_2 l0_2.length c0_2) := (blk_cell BK675.out 2).trans rfl; have hfz8_0 := blk_frozen BK675.out 0; have hfz8_1 := blk_frozen BK675.out 1; have hfz8_2 := blk_frozen BK675.out 2) | ((with_reducible refine gate_callee (f := 31) rfl ?_); refine goesL_ (some 17) rfl rfl Try.func31 (by kernel_rfl) rfl #[.agg #[.slice A0_0 l0_0.length c0_0, .slice A0_1 l0_1.length c0_1, .slice A0_2 l0_2.length c0_2]] rfl (by (try simp only [List.map_toArray, List.map_cons, List.map_nil]); first | done | rfl | (simp only [List.length_drop, List.length_take]; rfl)) ?_; (with_reducible refine (plan_Check.calls k _ _ l0_0 _ _ l0_1 _ _ l0_2 t677 _ ?side1 ?side2 ?side3 ?side4 ?side5 ?side6 A3.out).mono ?_); (case side1 => repeat (first | exact (Kd.C_below HR0_0.out HB.out) | (with_reducible refine Kd.C_alloc ?_ _) | (with_reducible refine Kd.C_drewN ?_ _) | (with_reducible refine Kd.C_drew ?_))); (case side2 => exact HC0_0.out); (case side3 => repeat (first | exact (Kd.C_below HR0_1.out HB.out) | (with_reducible refine Kd.C_alloc ?_ _) | (with_reducible refine Kd.C_drewN ?_ _) | (with_reducible refine Kd.C_drew ?_))); (case side4 => exact HC0_1.out); (case side5 => repeat (first | exact (Kd.C_below HR0_2.out HB.out) | (with_reducible refine Kd.C_alloc ?_ _) | (with_reducible refine Kd.C_drewN ?_ _) | (with_reducible refine Kd.C_drew ?_))); (case side6 => exact HC0_2.out); rintro e w9 ⟨rfl, hb⟩; refine ⟨_, rfl, ?_⟩; have n0_ := Aside0.mk (blk_below (g := gb675) (o := .cells #[.slice A0_0 l0_0.length c0_0, .slice A0_1 l0_1.length c0_1, .slice A0_2 l0_2.length c0_2] 25 (0, 0)) (bK BK675) hb); have n1_ := Aside0.mk (blk_below (g := gb676) (o := .cells #[.int .i64 a1_0, .int .i64 a1_1, .int .i64 a1_2] 27 (0, 0)) (bK BK676) hb); have n2_ := Aside0.mk (below_step (bH HB) hb); clear BK675; clear BK676; clear HB; have BK675 := n0_; have BK676 := n1_; have HB := n2_; clear n0_ n1_ n2_; (try clear hb); (try clear hb2); (try clear hk); (try clear hi)))
 (try simp only [Act.put, List.setIfInBounds_toArray, List.set_cons_zero, List.set_cons_succ])
 have H := HC4.out
 clear HC4
 by_cases c10 : t677 = 0
 ·rw [if_pos c10] at H
  have c10b0 : (t677 == 0) = true := beq_iff_eq.mpr c10
  have c10b1 : (t677 != 0) = false := bne_eq_false_iff_eq.mpr c10
  clear c10
  (first | rw [c10b0] | (simp only [i64_w, i32_w]; rw [c10b0]) | skip)
  obtain ⟨y678, hy678⟩ : ∃ y_ : List (S27), y_ = (([(⟨a1_0, a1_1, a1_2⟩ : S27)] : List (S27))) := ⟨_, rfl⟩
  replace H : ((geom_Right.f k y678).bind fun t681 => (if t681 = true then (plan_Where.l0 k ([] : List Int) l0_2 (l0_2.length : Int) 0 l0_0 l0_1 l0_2 a1_0 a1_1 a1_2) else (some (([] : List Int), 2)))) = some (r1, r2) := by first | (rw [hy678]; with_reducible exact H) | (have H2_ := (Option.bind_some _ _).symm.trans H; rw [hy678]; with_reducible exact H2_) | (have H2_ := (Option.bind_some _ _).symm.trans H; with_reducible exact H2_) | with_reducible exact H | (rw [hy678]; exact H) | exact H
  have Ny678 := Aside0.mk hy678
  clear hy678
  replace H := Option.bind_eq_some_iff.mp H
  obtain ⟨t681, A110, H⟩ := H
  replace H : (if t681 = true then (plan_Where.l0 k ([] : List Int) l0_2 (l0_2.length : Int) 0 l0_0 l0_1 l0_2 a1_0 a1_1 a1_2) else (some (([] : List Int), 2))) = some (r1, r2) := H
  have A11 := Aside0.mk A110
  clear A110
  have HC12 := Aside0.mk H
  clear H
  have hnb13 := NB676_675.out
  have hnc13 := NB675_676.out
  have hcz14_0 : w9.cell? ⟨gb676, 0, none⟩ = some (.int .i64 a1_0) := (blk_cell BK676.out 0).trans rfl
  have hcz14_1 : w9.cell? ⟨gb676, 1, none⟩ = some (.int .i64 a1_1) := (blk_cell BK676.out 1).trans rfl
  have hcz14_2 : w9.cell? ⟨gb676, 2, none⟩ = some (.int .i64 a1_2) := (blk_cell BK676.out 2).trans rfl
  have hfz14_0 := blk_frozen BK676.out 0
  have hfz14_1 := blk_frozen BK676.out 1
  have hfz14_2 := blk_frozen BK676.out 2
  go_upto_if 24 with (first | ((with_reducible refine gate_dst (N := 22) rfl ?_); refine Kd.R_lit k27 _ 27 ?hg (N := 22) ?hd (xs := ([(⟨a1_0, a1_1, a1_2⟩ : S27)] : List (S27))) (inner := [.int .i64 a1_0, .int .i64 a1_1, .int .i64 a1_2]) (ok := fun _ => True) (okp := fun _ => True) ?hr ?hp (fun _ hk => hk) trivial (Below.refl _ _) (Nat.le_refl _) (by simp) ?_; (case hd => rfl); (case hg => rfl); (case hr => first | (go_simp; done) | (go_simp; rfl)); (case hp => exact (Reps.c3 (show Kd.M k27 _ _ _ (⟨a1_0, a1_1, a1_2⟩ : S27) [.int .i64 a1_0, .int .i64 a1_1, .int .i64 a1_2] from (k27_mkM _ _ _ (⟨a1_0, a1_1, a1_2⟩ : S27) )) (Reps.none _ _))); intro v679 w15 ho16 hb hg_ hnew_; clear hg_ hnew_; (first | rw [← Ny678.out] at ho16 | (simp only [Int.reduceToNat] at ho16; rw [← Ny678.out] at ho16)); have n0_ := Aside0.mk (Kd.R_lower (Kd.R_newB ho16 (g := gb676) (o := .cells #[.int .i64 a1_0, .int .i64 a1_1, .int .i64 a1_2] 27 (0, 0)) (bK BK676)) (below_size (bH HB))); have n1_ := Aside0.mk (blk_below (g := gb675) (o := .cells #[.slice A0_0 l0_0.length c0_0, .slice A0_1 l0_1.length c0_1, .slice A0_2 l0_2.length c0_2] 25 (0, 0)) (bK BK675) hb); have n2_ := Aside0.mk (blk_below (g := gb676) (o := .cells #[.int .i64 a1_0, .int .i64 a1_1, .int .i64 a1_2] 27 (0, 0)) (bK BK676) hb); have n3_ := Aside0.mk (below_step (bH HB) hb); clear BK675; clear BK676; clear HB; have HO680 := n0_; have BK675 := n1_; have BK676 := n2_; have HB := n3_; clear n0_ n1_ n2_ n3_; clear hb ho16; obtain ⟨Ao17, co17, eo17⟩ := Kd.R_slice HO680.out; subst eo17) | ((with_reducible refine gate_callee (f := 32) rfl ?_); refine goesL_ (some 23) rfl rfl Try.func32 (by kernel_rfl) rfl #[.slice Ao17 y678.length co17] rfl (by (try simp only [List.map_toArray, List.map_cons, List.map_nil]); first | done | rfl | (simp only [List.length_drop, List.length_take]; rfl)) ?_; (with_reducible refine (geom_Right.calls k _ _ y678 t681 _ ?side1 ?side2 A11.out).mono ?_); (case side1 => repeat (first | exact (Kd.R_reads' HO680.out).2.2 | (with_reducible refine Kd.C_alloc ?_ _) | (with_reducible refine Kd.C_drewN ?_ _) | (with_reducible refine Kd.C_drew ?_))); (case side2 => exact (Kd.R_reads' HO680.out).2.1); rintro e w18 ⟨rfl, hb⟩; refine ⟨_, rfl, ?_⟩; have n0_ := Aside0.mk (Kd.R_below (rK HO680) hb); have n1_ := Aside0.mk (blk_below (g := gb675) (o := .cells #[.slice A0_0 l0_0.length c0_0, .slice A0_1 l0_1.length c0_1, .slice A0_2 l0_2.length c0_2] 25 (0, 0)) (bK BK675) hb); have n2_ := Aside0.mk (blk_below (g := gb676) (o := .cells #[.int .i64 a1_0, .int .i64 a1_1, .int .i64 a1_2] 27 (0, 0)) (bK BK676) hb); have n3_ := Aside0.mk (below_step (bH HB) hb); clear HO680; clear BK675; clear BK676; clear HB; have HO680 := n0_; have BK675 := n1_; have BK676 := n2_; have HB := n3_; clear n0_ n1_ n2_ n3_; (try clear hb); (try clear hb2); (try clear hk); (try clear hi)))
  (try simp only [Act.put, List.setIfInBounds_toArray, List.set_cons_zero, List.set_cons_succ])
  have H := HC12.out
  clear HC12
  by_cases c19 : t681 = true
  ·subst c19
   have H1 : (plan_Where.l0 k ([] : List Int) l0_2 (l0_2.length : Int) 0 l0_0 l0_1 l0_2 a1_0 a1_1 a1_2) = some (r1, r2) := by rw [if_pos rfl] at H; exact H
   clear H
   have H := H1
   clear H1
   have H' := Aside0.mk H
   clear H
   have hnb20 := NB675_676.out
   have hnc20 := NB676_675.out
   have hcz21_0 : w18.cell? ⟨gb675, 0, none⟩ = some (.slice A0_0 l0_0.length c0_0) := (blk_cell BK675.out 0).trans rfl
   have hcz21_1 : w18.cell? ⟨gb675, 1, none⟩ = some (.slice A0_1 l0_1.length c0_1) := (blk_cell BK675.out 1).trans rfl
   have hcz21_2 : w18.cell? ⟨gb675, 2, none⟩ = some (.slice A0_2 l0_2.length c0_2) := (blk_cell BK675.out 2).trans rfl
   have hfz21_0 := blk_frozen BK675.out 0
   have hfz21_1 := blk_frozen BK675.out 1
   have hfz21_2 := blk_frozen BK675.out 2
   go_wp2
   go_loopg [7, 28] k (fun kq v7 v28 w' => ∃ (x7_1 : List Int) (x28_1 : Int), v28 = .int .i64 x28_1 ∧ Aside0 (plan_Where.l0 kq x7_1 l0_2 (l0_2.length : Int) x28_1 l0_0 l0_1 l0_2 a1_0 a1_1 a1_2 = some (r1, r2)) ∧ Aside0 (kq ≤ k) ∧ Aside0 (Kd.R (Kd.int .i64) 3 w' w.heap.size (fun _ => True) v7 x7_1) ∧ Aside0 (w'.heap[gb675]? = some (.cells #[(.slice A0_0 l0_0.length c0_0), (.slice A0_1 l0_1.length c0_1), (.slice A0_2 l0_2.length c0_2)] 25 (0, 0))) ∧ Aside0 (w'.heap[gb676]? = some (.cells #[.int .i64 a1_0, .int .i64 a1_1, .int .i64 a1_2] 27 (0, 0))) ∧ Aside0 (Below w.heap.size w w'))
   case atStart => exact ⟨(([] : List Int)), (0), (by first | rfl | (simp; done) | (simp [*]; done)), H', ⟨Nat.le_refl _⟩, ⟨by first | exact Kd.R_nil _ _ _ _ _ | exact Kd.N_nil _ _ _ _ _ | exact Kd.V_nil _ _ _ _ _ | exact Kd.Q_nil _ _ _ _ _ | exact Kd.S_nil _ _ _ _ _⟩, ⟨bK BK675⟩, ⟨bK BK676⟩, ⟨ bH HB⟩⟩
   case round =>
    clear H'
    try clear c1
    try clear c2
    try clear p2
    try clear c3
    try clear c7
    try clear c10
    try clear c10b0
    try clear c10b1
    try clear c13
    try clear c19
    try clear c20
    try clear hcz14_0
    try clear hcz14_1
    try clear hcz14_2
    try clear hcz21_0
    try clear hcz21_1
    try clear hcz21_2
    try clear hcz8_0
    try clear hcz8_1
    try clear hcz8_2
    try clear hfz14_0
    try clear hfz14_1
    try clear hfz14_2
    try clear hfz21_0
    try clear hfz21_1
    try clear hfz21_2
    try clear hfz8_0
    try clear hfz8_1
    try clear hfz8_2
    obtain ⟨x7_1, x28_1, rfl, HA, HK1, HO_7, BK675, BK676, HB⟩ := hrel
    cases gk with
    | zero => exact absurd HA.out (by simp [plan_Where.l0])
    | succ k1 =>
     have H := HA.out
     clear HA
     simp only [plan_Where.l0] at H
     by_cases c22 : x28_1 < (l0_2.length : Int)
     ·rw [if_pos c22] at H
      have c22b0 : decide (x28_1 < (l0_2.length : Int)) = true := decide_eq_true c22
      clear c22
      (first | rw [c22b0] | (simp only [i64_w, i32_w]; rw [c22b0]) | skip)
      by_cases c23 : 0 ≤ x28_1
      ·rw [if_pos c23] at H
       have c23b0 : decide (0 ≤ x28_1) = true := decide_eq_true c23
       clear c23
       by_cases c24 : x28_1 < (l0_2.length : Int)
       ·rw [if_pos c24] at H
        have c24b0 : decide (x28_1 < (l0_2.length : Int)) = true := decide_eq_true c24
        clear c24
        have H' := Aside0.mk H
        clear H
        have p682 : 0 ≤ (x28_1 : Int) := of_decide_eq_true (by first | (with_reducible assumption) | assumption)
        have q682 : x28_1 < (l0_2.length : Int) := of_decide_eq_true (by first | (with_reducible assumption) | assumption)
        obtain ⟨ad682, A682_0, c682_0, e682, hx682_0, hl682_0, hi682_0⟩ := at_L3 HR0_2.out x28_1 p682 q682
        cases e682
        replace hx682_0 := (HB.out.cell (World.block_lt_of_cell? w _ hx682_0)).trans hx682_0
        have HR682_0 := Aside0.mk hi682_0
        have HC682_0 := Aside0.mk hl682_0
        clear hi682_0 hl682_0
        replace p682 := eq_true p682
        replace q682 := eq_true q682
        go_wp2
        go_loopg [10, 35] k1 (fun kq v10 v35 w' => ∃ (x10_2 : Bool) (x35_2 : Int), v10 = .bool x10_2 ∧ v35 = .int .i64 x35_2 ∧ Aside0 (plan_Where.l1 kq x7_1 x28_1 x10_2 l0_2 (l0_2.length : Int) x28_1 (rd_L3 l0_2 x28_1) ((rd_L3 l0_2 x28_1).length : Int) x35_2 l0_0 l0_1 l0_2 a1_0 a1_1 a1_2 = some (r1, r2)) ∧ Aside0 (kq ≤ k1) ∧ Aside0 (Kd.R (Kd.int .i64) 3 w' w.heap.size (fun _ => True) u7 x7_1) ∧ Aside0 (w'.heap[gb675]? = some (.cells #[(.slice A0_0 l0_0.length c0_0), (.slice A0_1 l0_1.length c0_1), (.slice (some ad682) l0_2.length c0_2)] 25 (0, 0))) ∧ Aside0 (w'.heap[gb676]? = some (.cells #[.int .i64 a1_0, .int .i64 a1_1, .int .i64 a1_2] 27 (0, 0))) ∧ Aside0 (Below w.heap.size w w'))
        case atStart => exact ⟨(true), (0), (by first | rfl | (simp; done) | (simp [*]; done)), (by first | rfl | (simp; done) | (simp [*]; done)), H', ⟨Nat.le_refl _⟩, ⟨by (with_reducible repeat (first | apply Kd.R_alloc | apply Kd.R_drewN | apply Kd.R_drew)); exact HO_7.out⟩, ⟨bK BK675⟩, ⟨bK BK676⟩, ⟨ bH HB⟩⟩
        case round =>
         clear H'
         try clear c1
         try clear c2
         try clear p2
         try clear c3
         try clear c6
         try clear p6
         try clear q6
         try clear hx6
         try clear c7
         try clear c10
         try clear c10b0
         try clear c10b1
         try clear c13
         try clear c19
         try clear c20
         try clear c22
         try clear c22b0
         try clear c23
         try clear c23b0
         try clear c24
         try clear c24b0
         try clear hcz14_0
         try clear hcz14_1
         try clear hcz14_2
         try clear hcz21_0
         try clear hcz21_1
         try clear hcz21_2
         try clear hcz8_0
         try clear hcz8_1
         try clear hcz8_2
         try clear hfz14_0
         try clear hfz14_1
         try clear hfz14_2
         try clear hfz21_0
         try clear hfz21_1
         try clear hfz21_2
         try clear hfz8_0
         try clear hfz8_1
         try clear hfz8_2
         try clear hx682_0
         try clear p2
         try clear p682
         try clear q682
         obtain ⟨x10_2, x35_2, rfl, rfl, HA, HK2, HO_7, BK675, BK676, HB⟩ := hrel
         cases gk with
         | zero => exact absurd HA.out (by simp [plan_Where.l1])
         | succ k2 =>
          have H := HA.out
          clear HA
          simp only [plan_Where.l1] at H
          by_cases c25 : x35_2 < ((rd_L3 l0_2 x28_1).length : Int)
          ·rw [if_pos c25] at H
           have c25b0 : decide (x35_2 < ((rd_L3 l0_2 x28_1).length : Int)) = true := decide_eq_true c25
           clear c25
           by_cases c26 : 0 ≤ x35_2
           ·rw [if_pos c26] at H
            have c26b0 : decide (0 ≤ x35_2) = true := decide_eq_true c26
            clear c26
            by_cases c27 : x35_2 < ((rd_L3 l0_2 x28_1).length : Int)
            ·rw [if_pos c27] at H
             have c27b0 : decide (x35_2 < ((rd_L3 l0_2 x28_1).length : Int)) = true := decide_eq_true c27
             clear c27
             replace H := Option.bind_eq_some_iff.mp H
             obtain ⟨⟨t684, t687⟩, A280, H⟩ := H
             replace H : ((geom_In.f k2 a1_0 a1_1 a1_2 t684).bind fun t688 => (if x10_2 = true then (if x35_2 = 0 then (if t688 ≥ 0 then (plan_Where.l1 k2 x7_1 x28_1 true l0_2 (l0_2.length : Int) x28_1 (rd_L3 l0_2 x28_1) ((rd_L3 l0_2 x28_1).length : Int) (wrap64 (x35_2 + 1)) l0_0 l0_1 l0_2 a1_0 a1_1 a1_2) else (if x35_2 > 0 then (plan_Where.l1 k2 x7_1 x28_1 (decide (t688 < 1)) l0_2 (l0_2.length : Int) x28_1 (rd_L3 l0_2 x28_1) ((rd_L3 l0_2 x28_1).length : Int) (wrap64 (x35_2 + 1)) l0_0 l0_1 l0_2 a1_0 a1_1 a1_2) else (plan_Where.l1 k2 x7_1 x28_1 false l0_2 (l0_2.length : Int) x28_1 (rd_L3 l0_2 x28_1) ((rd_L3 l0_2 x28_1).length : Int) (wrap64 (x35_2 + 1)) l0_0 l0_1 l0_2 a1_0 a1_1 a1_2))) else (if x35_2 > 0 then (plan_Where.l1 k2 x7_1 x28_1 (decide (t688 < 1)) l0_2 (l0_2.length : Int) x28_1 (rd_L3 l0_2 x28_1) ((rd_L3 l0_2 x28_1).length : Int) (wrap64 (x35_2 + 1)) l0_0 l0_1 l0_2 a1_0 a1_1 a1_2) else (plan_Where.l1 k2 x7_1 x28_1 false l0_2 (l0_2.length : Int) x28_1 (rd_L3 l0_2 x28_1) ((rd_L3 l0_2 x28_1).length : Int) (wrap64 (x35_2 + 1)) l0_0 l0_1 l0_2 a1_0 a1_1 a1_2))) else (plan_Where.l1 k2 x7_1 x28_1 false l0_2 (l0_2.length : Int) x28_1 (rd_L3 l0_2 x28_1) ((rd_L3 l0_2 x28_1).length : Int) (wrap64 (x35_2 + 1)) l0_0 l0_1 l0_2 a1_0 a1_1 a1_2))) = some (r1, r2) := H
             have A28 := Aside0.mk A280
             clear A280
             replace H := Option.bind_eq_some_iff.mp H
             obtain ⟨t688, A290, H⟩ := H
             replace H : (if x10_2 = true then (if x35_2 = 0 then (if t688 ≥ 0 then (plan_Where.l1 k2 x7_1 x28_1 true l0_2 (l0_2.length : Int) x28_1 (rd_L3 l0_2 x28_1) ((rd_L3 l0_2 x28_1).length : Int) (wrap64 (x35_2 + 1)) l0_0 l0_1 l0_2 a1_0 a1_1 a1_2) else (if x35_2 > 0 then (plan_Where.l1 k2 x7_1 x28_1 (decide (t688 < 1)) l0_2 (l0_2.length : Int) x28_1 (rd_L3 l0_2 x28_1) ((rd_L3 l0_2 x28_1).length : Int) (wrap64 (x35_2 + 1)) l0_0 l0_1 l0_2 a1_0 a1_1 a1_2) else (plan_Where.l1 k2 x7_1 x28_1 false l0_2 (l0_2.length : Int) x28_1 (rd_L3 l0_2 x28_1) ((rd_L3 l0_2 x28_1).length : Int) (wrap64 (x35_2 + 1)) l0_0 l0_1 l0_2 a1_0 a1_1 a1_2))) else (if x35_2 > 0 then (plan_Where.l1 k2 x7_1 x28_1 (decide (t688 < 1)) l0_2 (l0_2.length : Int) x28_1 (rd_L3 l0_2 x28_1) ((rd_L3 l0_2 x28_1).length : Int) (wrap64 (x35_2 + 1)) l0_0 l0_1 l0_2 a1_0 a1_1 a1_2) else (plan_Where.l1 k2 x7_1 x28_1 false l0_2 (l0_2.length : Int) x28_1 (rd_L3 l0_2 x28_1) ((rd_L3 l0_2 x28_1).length : Int) (wrap64 (x35_2 + 1)) l0_0 l0_1 l0_2 a1_0 a1_1 a1_2))) else (plan_Where.l1 k2 x7_1 x28_1 false l0_2 (l0_2.length : Int) x28_1 (rd_L3 l0_2 x28_1) ((rd_L3 l0_2 x28_1).length : Int) (wrap64 (x35_2 + 1)) l0_0 l0_1 l0_2 a1_0 a1_1 a1_2)) = some (r1, r2) := H
             have A29 := Aside0.mk A290
             clear A290
             by_cases c30 : x10_2 = true
             ·subst c30
              have H1 : (if x35_2 = 0 then (if t688 ≥ 0 then (plan_Where.l1 k2 x7_1 x28_1 true l0_2 (l0_2.length : Int) x28_1 (rd_L3 l0_2 x28_1) ((rd_L3 l0_2 x28_1).length : Int) (wrap64 (x35_2 + 1)) l0_0 l0_1 l0_2 a1_0 a1_1 a1_2) else (if x35_2 > 0 then (plan_Where.l1 k2 x7_1 x28_1 (decide (t688 < 1)) l0_2 (l0_2.length : Int) x28_1 (rd_L3 l0_2 x28_1) ((rd_L3 l0_2 x28_1).length : Int) (wrap64 (x35_2 + 1)) l0_0 l0_1 l0_2 a1_0 a1_1 a1_2) else (plan_Where.l1 k2 x7_1 x28_1 false l0_2 (l0_2.length : Int) x28_1 (rd_L3 l0_2 x28_1) ((rd_L3 l0_2 x28_1).length : Int) (wrap64 (x35_2 + 1)) l0_0 l0_1 l0_2 a1_0 a1_1 a1_2))) else (if x35_2 > 0 then (plan_Where.l1 k2 x7_1 x28_1 (decide (t688 < 1)) l0_2 (l0_2.length : Int) x28_1 (rd_L3 l0_2 x28_1) ((rd_L3 l0_2 x28_1).length : Int) (wrap64 (x35_2 + 1)) l0_0 l0_1 l0_2 a1_0 a1_1 a1_2) else (plan_Where.l1 k2 x7_1 x28_1 false l0_2 (l0_2.length : Int) x28_1 (rd_L3 l0_2 x28_1) ((rd_L3 l0_2 x28_1).length : Int) (wrap64 (x35_2 + 1)) l0_0 l0_1 l0_2 a1_0 a1_1 a1_2))) = some (r1, r2) := by rw [if_pos rfl] at H; exact H
              clear H
              have H := H1
              clear H1
              by_cases c31 : x35_2 = 0
              ·rw [if_pos c31] at H
               have c31b0 : (x35_2 == 0) = true := beq_iff_eq.mpr c31
               have c31b1 : (x35_2 != 0) = false := bne_eq_false_iff_eq.mpr c31
               clear c31
               by_cases c32 : t688 ≥ 0
               ·rw [if_pos c32] at H
                have c32b0 : decide (0 ≤ t688) = true := decide_eq_true c32
                clear c32
                have H' := Aside0.mk H
                clear H
                have p683 : 0 ≤ (x35_2 : Int) := of_decide_eq_true (by first | (with_reducible assumption) | assumption)
                have q683 : x35_2 < ((rd_L3 l0_2 x28_1).length : Int) := of_decide_eq_true (by first | (with_reducible assumption) | assumption)
                obtain ⟨ad683, e683, hx683_0⟩ := Kd.at_int HR682_0.out x35_2 p683 q683
                cases e683
                replace hx683_0 := (HB.out.cell (World.block_lt_of_cell? w _ hx683_0)).trans hx683_0
                replace p683 := eq_true p683
                replace q683 := eq_true q683
                have hnb33 := NB675_676.out
                have hnc33 := NB676_675.out
                have hcz34_0 : wr.cell? ⟨gb675, 0, none⟩ = some (.slice A0_0 l0_0.length c0_0) := (blk_cell BK675.out 0).trans rfl
                have hcz34_1 : wr.cell? ⟨gb675, 1, none⟩ = some (.slice A0_1 l0_1.length c0_1) := (blk_cell BK675.out 1).trans rfl
                have hcz34_2 : wr.cell? ⟨gb675, 2, none⟩ = some (.slice (some ad682) l0_2.length c0_2) := (blk_cell BK675.out 2).trans rfl
                have hfz34_0 := blk_frozen BK675.out 0
                have hfz34_1 := blk_frozen BK675.out 1
                have hfz34_2 := blk_frozen BK675.out 2
                go_wp2_with (first | ((with_reducible refine gate_callee (f := 33) rfl ?_); refine goesL_ (some 43) rfl rfl Try.func33 (by kernel_rfl) rfl #[.agg #[.slice A0_0 l0_0.length c0_0, .slice A0_1 l0_1.length c0_1, .slice (some ad682) l0_2.length c0_2], .int .i64 (rd (rd_L3 l0_2 x28_1) x35_2)] rfl (by (try simp only [List.map_toArray, List.map_cons, List.map_nil]); first | done | rfl | (simp only [List.length_drop, List.length_take]; rfl)) ?_; (with_reducible refine (ring_Ring.calls k2 _ _ l0_0 _ _ l0_1 _ _ l0_2 (rd (rd_L3 l0_2 x28_1) x35_2) t684 t687 _ ?side1 ?side2 ?side3 ?side4 ?side5 ?side6 A28.out).mono ?_); (case side1 => repeat (first | exact (Kd.C_below HR0_0.out HB.out) | (with_reducible refine Kd.C_alloc ?_ _) | (with_reducible refine Kd.C_drewN ?_ _) | (with_reducible refine Kd.C_drew ?_))); (case side2 => exact HC0_0.out); (case side3 => repeat (first | exact (Kd.C_below HR0_1.out HB.out) | (with_reducible refine Kd.C_alloc ?_ _) | (with_reducible refine Kd.C_drewN ?_ _) | (with_reducible refine Kd.C_drew ?_))); (case side4 => exact HC0_1.out); (case side5 => repeat (first | exact (Kd.C_below HR0_2.out HB.out) | (with_reducible refine Kd.C_alloc ?_ _) | (with_reducible refine Kd.C_drewN ?_ _) | (with_reducible refine Kd.C_drew ?_))); (case side6 => exact HC0_2.out); rintro e w35 ⟨v685, rfl, ho0, hb⟩; refine ⟨_, rfl, ?_⟩; have n0_ := Aside0.mk (Kd.R_below (rK HO_7) hb); have n1_ := Aside0.mk (Kd.R_lower (Kd.R_newB ho0 (g := gb676) (o := .cells #[.int .i64 a1_0, .int .i64 a1_1, .int .i64 a1_2] 27 (0, 0)) (bK BK676)) (below_size (bH HB))); have n2_ := Aside0.mk (blk_below (g := gb675) (o := .cells #[.slice A0_0 l0_0.length c0_0, .slice A0_1 l0_1.length c0_1, .slice (some ad682) l0_2.length c0_2] 25 (0, 0)) (bK BK675) hb); have n3_ := Aside0.mk (blk_below (g := gb676) (o := .cells #[.int .i64 a1_0, .int .i64 a1_1, .int .i64 a1_2] 27 (0, 0)) (bK BK676) hb); have n4_ := Aside0.mk (below_step (bH HB) hb); clear HO_7; clear BK675; clear BK676; clear HB; have HO_7 := n0_; have HO686 := n1_; have BK675 := n2_; have BK676 := n3_; have HB := n4_; clear n0_ n1_ n2_ n3_ n4_; (try clear hb); (try clear hb2); (try clear hk); (try clear hi); (try clear ho0); have hcz36_0 : w35.cell? ⟨gb676, 0, none⟩ = some (.int .i64 a1_0) := (blk_cell BK676.out 0).trans rfl; have hcz36_1 : w35.cell? ⟨gb676, 1, none⟩ = some (.int .i64 a1_1) := (blk_cell BK676.out 1).trans rfl; have hcz36_2 : w35.cell? ⟨gb676, 2, none⟩ = some (.int .i64 a1_2) := (blk_cell BK676.out 2).trans rfl; have hfz36_0 := blk_frozen BK676.out 0; have hfz36_1 := blk_frozen BK676.out 1; have hfz36_2 := blk_frozen BK676.out 2; obtain ⟨Ao37, co37, eo37⟩ := Kd.R_slice HO686.out; subst eo37) | ((with_reducible refine gate_callee (f := 34) rfl ?_); refine goesL_ (some 48) rfl rfl Try.func34 (by kernel_rfl) rfl #[.agg #[.int .i64 a1_0, .int .i64 a1_1, .int .i64 a1_2], .slice Ao37 t684.length co37] rfl (by (try simp only [List.map_toArray, List.map_cons, List.map_nil]); first | done | rfl | (simp only [List.length_drop, List.length_take]; rfl)) ?_; (with_reducible refine (geom_In.calls k2 a1_0 a1_1 a1_2 _ _ t684 t688 _ ?side1 ?side2 A29.out).mono ?_); (case side1 => repeat (first | exact (Kd.R_reads' HO686.out).2.2 | (with_reducible refine Kd.C_alloc ?_ _) | (with_reducible refine Kd.C_drewN ?_ _) | (with_reducible refine Kd.C_drew ?_))); (case side2 => exact (Kd.R_reads' HO686.out).2.1); rintro e w38 ⟨rfl, hb⟩; refine ⟨_, rfl, ?_⟩; have n0_ := Aside0.mk (Kd.R_below (rK HO_7) hb); have n1_ := Aside0.mk (Kd.R_below (rK HO686) hb); have n2_ := Aside0.mk (blk_below (g := gb675) (o := .cells #[.slice A0_0 l0_0.length c0_0, .slice A0_1 l0_1.length c0_1, .slice (some ad682) l0_2.length c0_2] 25 (0, 0)) (bK BK675) hb); have n3_ := Aside0.mk (blk_below (g := gb676) (o := .cells #[.int .i64 a1_0, .int .i64 a1_1, .int .i64 a1_2] 27 (0, 0)) (bK BK676) hb); have n4_ := Aside0.mk (below_step (bH HB) hb); clear HO_7; clear HO686; clear BK675; clear BK676; clear HB; have HO_7 := n0_; have HO686 := n1_; have BK675 := n2_; have BK676 := n3_; have HB := n4_; clear n0_ n1_ n2_ n3_ n4_; (try clear hb); (try clear hb2); (try clear hk); (try clear hi)))
                go_roundg k2
                case measure => have := HK1.out; have := HK2.out; omega
                case rel => exact ⟨(true), (wrap64 (x35_2 + 1)), (by first | rfl | (simp; done) | (simp [*]; done)), (by first | rfl | (simp; done) | (simp [*]; done)), H', ⟨by have := HK1.out; have := HK2.out; omega⟩, ⟨by (with_reducible repeat (first | apply Kd.R_alloc | apply Kd.R_drewN | apply Kd.R_drew)); exact HO_7.out⟩, ⟨bK BK675⟩, ⟨bK BK676⟩, ⟨ bH HB⟩⟩
               ·rw [if_neg c32] at H
                have c32b0 : decide (0 ≤ t688) = false := decide_eq_false c32
                clear c32
                by_cases c39 : x35_2 > 0
                ·rw [if_pos c39] at H
                 have c39b0 : decide (0 < x35_2) = true := decide_eq_true c39
                 clear c39
                 have H' := Aside0.mk H
                 clear H
                 have p683 : 0 ≤ (x35_2 : Int) := of_decide_eq_true (by first | (with_reducible assumption) | assumption)
                 have q683 : x35_2 < ((rd_L3 l0_2 x28_1).length : Int) := of_decide_eq_true (by first | (with_reducible assumption) | assumption)
                 obtain ⟨ad683, e683, hx683_0⟩ := Kd.at_int HR682_0.out x35_2 p683 q683
                 cases e683
                 replace hx683_0 := (HB.out.cell (World.block_lt_of_cell? w _ hx683_0)).trans hx683_0
                 replace p683 := eq_true p683
                 replace q683 := eq_true q683
                 have hnb40 := NB675_676.out
                 have hnc40 := NB676_675.out
                 have hcz41_0 : wr.cell? ⟨gb675, 0, none⟩ = some (.slice A0_0 l0_0.length c0_0) := (blk_cell BK675.out 0).trans rfl
                 have hcz41_1 : wr.cell? ⟨gb675, 1, none⟩ = some (.slice A0_1 l0_1.length c0_1) := (blk_cell BK675.out 1).trans rfl
                 have hcz41_2 : wr.cell? ⟨gb675, 2, none⟩ = some (.slice (some ad682) l0_2.length c0_2) := (blk_cell BK675.out 2).trans rfl
                 have hfz41_0 := blk_frozen BK675.out 0
                 have hfz41_1 := blk_frozen BK675.out 1
                 have hfz41_2 := blk_frozen BK675.out 2
                 go_wp2_with (first | ((with_reducible refine gate_callee (f := 33) rfl ?_); refine goesL_ (some 43) rfl rfl Try.func33 (by kernel_rfl) rfl #[.agg #[.slice A0_0 l0_0.length c0_0, .slice A0_1 l0_1.length c0_1, .slice (some ad682) l0_2.length c0_2], .int .i64 (rd (rd_L3 l0_2 x28_1) x35_2)] rfl (by (try simp only [List.map_toArray, List.map_cons, List.map_nil]); first | done | rfl | (simp only [List.length_drop, List.length_take]; rfl)) ?_; (with_reducible refine (ring_Ring.calls k2 _ _ l0_0 _ _ l0_1 _ _ l0_2 (rd (rd_L3 l0_2 x28_1) x35_2) t684 t687 _ ?side1 ?side2 ?side3 ?side4 ?side5 ?side6 A28.out).mono ?_); (case side1 => repeat (first | exact (Kd.C_below HR0_0.out HB.out) | (with_reducible refine Kd.C_alloc ?_ _) | (with_reducible refine Kd.C_drewN ?_ _) | (with_reducible refine Kd.C_drew ?_))); (case side2 => exact HC0_0.out); (case side3 => repeat (first | exact (Kd.C_below HR0_1.out HB.out) | (with_reducible refine Kd.C_alloc ?_ _) | (with_reducible refine Kd.C_drewN ?_ _) | (with_reducible refine Kd.C_drew ?_))); (case side4 => exact HC0_1.out); (case side5 => repeat (first | exact (Kd.C_below HR0_2.out HB.out) | (with_reducible refine Kd.C_alloc ?_ _) | (with_reducible refine Kd.C_drewN ?_ _) | (with_reducible refine Kd.C_drew ?_))); (case side6 => exact HC0_2.out); rintro e w42 ⟨v685, rfl, ho0, hb⟩; refine ⟨_, rfl, ?_⟩; have n0_ := Aside0.mk (Kd.R_below (rK HO_7) hb); have n1_ := Aside0.mk (Kd.R_lower (Kd.R_newB ho0 (g := gb676) (o := .cells #[.int .i64 a1_0, .int .i64 a1_1, .int .i64 a1_2] 27 (0, 0)) (bK BK676)) (below_size (bH HB))); have n2_ := Aside0.mk (blk_below (g := gb675) (o := .cells #[.slice A0_0 l0_0.length c0_0, .slice A0_1 l0_1.length c0_1, .slice (some ad682) l0_2.length c0_2] 25 (0, 0)) (bK BK675) hb); have n3_ := Aside0.mk (blk_below (g := gb676) (o := .cells #[.int .i64 a1_0, .int .i64 a1_1, .int .i64 a1_2] 27 (0, 0)) (bK BK676) hb); have n4_ := Aside0.mk (below_step (bH HB) hb); clear HO_7; clear BK675; clear BK676; clear HB; have HO_7 := n0_; have HO686 := n1_; have BK675 := n2_; have BK676 := n3_; have HB := n4_; clear n0_ n1_ n2_ n3_ n4_; (try clear hb); (try clear hb2); (try clear hk); (try clear hi); (try clear ho0); have hcz43_0 : w42.cell? ⟨gb676, 0, none⟩ = some (.int .i64 a1_0) := (blk_cell BK676.out 0).trans rfl; have hcz43_1 : w42.cell? ⟨gb676, 1, none⟩ = some (.int .i64 a1_1) := (blk_cell BK676.out 1).trans rfl; have hcz43_2 : w42.cell? ⟨gb676, 2, none⟩ = some (.int .i64 a1_2) := (blk_cell BK676.out 2).trans rfl; have hfz43_0 := blk_frozen BK676.out 0; have hfz43_1 := blk_frozen BK676.out 1; have hfz43_2 := blk_frozen BK676.out 2; obtain ⟨Ao44, co44, eo44⟩ := Kd.R_slice HO686.out; subst eo44) | ((with_reducible refine gate_callee (f := 34) rfl ?_); refine goesL_ (some 48) rfl rfl Try.func34 (by kernel_rfl) rfl #[.agg #[.int .i64 a1_0, .int .i64 a1_1, .int .i64 a1_2], .slice Ao44 t684.length co44] rfl (by (try simp only [List.map_toArray, List.map_cons, List.map_nil]); first | done | rfl | (simp only [List.length_drop, List.length_take]; rfl)) ?_; (with_reducible refine (geom_In.calls k2 a1_0 a1_1 a1_2 _ _ t684 t688 _ ?side1 ?side2 A29.out).mono ?_); (case side1 => repeat (first | exact (Kd.R_reads' HO686.out).2.2 | (with_reducible refine Kd.C_alloc ?_ _) | (with_reducible refine Kd.C_drewN ?_ _) | (with_reducible refine Kd.C_drew ?_))); (case side2 => exact (Kd.R_reads' HO686.out).2.1); rintro e w45 ⟨rfl, hb⟩; refine ⟨_, rfl, ?_⟩; have n0_ := Aside0.mk (Kd.R_below (rK HO_7) hb); have n1_ := Aside0.mk (Kd.R_below (rK HO686) hb); have n2_ := Aside0.mk (blk_below (g := gb675) (o := .cells #[.slice A0_0 l0_0.length c0_0, .slice A0_1 l0_1.length c0_1, .slice (some ad682) l0_2.length c0_2] 25 (0, 0)) (bK BK675) hb); have n3_ := Aside0.mk (blk_below (g := gb676) (o := .cells #[.int .i64 a1_0, .int .i64 a1_1, .int .i64 a1_2] 27 (0, 0)) (bK BK676) hb); have n4_ := Aside0.mk (below_step (bH HB) hb); clear HO_7; clear HO686; clear BK675; clear BK676; clear HB; have HO_7 := n0_; have HO686 := n1_; have BK675 := n2_; have BK676 := n3_; have HB := n4_; clear n0_ n1_ n2_ n3_ n4_; (try clear hb); (try clear hb2); (try clear hk); (try clear hi)))
                 go_roundg k2
                 case measure => have := HK1.out; have := HK2.out; omega
                 case rel => exact ⟨(decide (t688 < 1)), (wrap64 (x35_2 + 1)), (by first | rfl | (simp; done) | (simp [*]; done)), (by first | rfl | (simp; done) | (simp [*]; done)), H', ⟨by have := HK1.out; have := HK2.out; omega⟩, ⟨by (with_reducible repeat (first | apply Kd.R_alloc | apply Kd.R_drewN | apply Kd.R_drew)); exact HO_7.out⟩, ⟨bK BK675⟩, ⟨bK BK676⟩, ⟨ bH HB⟩⟩
                ·rw [if_neg c39] at H
                 have c39b0 : decide (0 < x35_2) = false := decide_eq_false c39
                 clear c39
                 have H' := Aside0.mk H
                 clear H
                 have p683 : 0 ≤ (x35_2 : Int) := of_decide_eq_true (by first | (with_reducible assumption) | assumption)
                 have q683 : x35_2 < ((rd_L3 l0_2 x28_1).length : Int) := of_decide_eq_true (by first | (with_reducible assumption) | assumption)
                 obtain ⟨ad683, e683, hx683_0⟩ := Kd.at_int HR682_0.out x35_2 p683 q683
                 cases e683
                 replace hx683_0 := (HB.out.cell (World.block_lt_of_cell? w _ hx683_0)).trans hx683_0
                 replace p683 := eq_true p683
                 replace q683 := eq_true q683
                 have hnb46 := NB675_676.out
                 have hnc46 := NB676_675.out
                 have hcz47_0 : wr.cell? ⟨gb675, 0, none⟩ = some (.slice A0_0 l0_0.length c0_0) := (blk_cell BK675.out 0).trans rfl
                 have hcz47_1 : wr.cell? ⟨gb675, 1, none⟩ = some (.slice A0_1 l0_1.length c0_1) := (blk_cell BK675.out 1).trans rfl
                 have hcz47_2 : wr.cell? ⟨gb675, 2, none⟩ = some (.slice (some ad682) l0_2.length c0_2) := (blk_cell BK675.out 2).trans rfl
                 have hfz47_0 := blk_frozen BK675.out 0
                 have hfz47_1 := blk_frozen BK675.out 1
                 have hfz47_2 := blk_frozen BK675.out 2
                 go_wp2_with (first | ((with_reducible refine gate_callee (f := 33) rfl ?_); refine goesL_ (some 43) rfl rfl Try.func33 (by kernel_rfl) rfl #[.agg #[.slice A0_0 l0_0.length c0_0, .slice A0_1 l0_1.length c0_1, .slice (some ad682) l0_2.length c0_2], .int .i64 (rd (rd_L3 l0_2 x28_1) x35_2)] rfl (by (try simp only [List.map_toArray, List.map_cons, List.map_nil]); first | done | rfl | (simp only [List.length_drop, List.length_take]; rfl)) ?_; (with_reducible refine (ring_Ring.calls k2 _ _ l0_0 _ _ l0_1 _ _ l0_2 (rd (rd_L3 l0_2 x28_1) x35_2) t684 t687 _ ?side1 ?side2 ?side3 ?side4 ?side5 ?side6 A28.out).mono ?_); (case side1 => repeat (first | exact (Kd.C_below HR0_0.out HB.out) | (with_reducible refine Kd.C_alloc ?_ _) | (with_reducible refine Kd.C_drewN ?_ _) | (with_reducible refine Kd.C_drew ?_))); (case side2 => exact HC0_0.out); (case side3 => repeat (first | exact (Kd.C_below HR0_1.out HB.out) | (with_reducible refine Kd.C_alloc ?_ _) | (with_reducible refine Kd.C_drewN ?_ _) | (with_reducible refine Kd.C_drew ?_))); (case side4 => exact HC0_1.out); (case side5 => repeat (first | exact (Kd.C_below HR0_2.out HB.out) | (with_reducible refine Kd.C_alloc ?_ _) | (with_reducible refine Kd.C_drewN ?_ _) | (with_reducible refine Kd.C_drew ?_))); (case side6 => exact HC0_2.out); rintro e w48 ⟨v685, rfl, ho0, hb⟩; refine ⟨_, rfl, ?_⟩; have n0_ := Aside0.mk (Kd.R_below (rK HO_7) hb); have n1_ := Aside0.mk (Kd.R_lower (Kd.R_newB ho0 (g := gb676) (o := .cells #[.int .i64 a1_0, .int .i64 a1_1, .int .i64 a1_2] 27 (0, 0)) (bK BK676)) (below_size (bH HB))); have n2_ := Aside0.mk (blk_below (g := gb675) (o := .cells #[.slice A0_0 l0_0.length c0_0, .slice A0_1 l0_1.length c0_1, .slice (some ad682) l0_2.length c0_2] 25 (0, 0)) (bK BK675) hb); have n3_ := Aside0.mk (blk_below (g := gb676) (o := .cells #[.int .i64 a1_0, .int .i64 a1_1, .int .i64 a1_2] 27 (0, 0)) (bK BK676) hb); have n4_ := Aside0.mk (below_step (bH HB) hb); clear HO_7; clear BK675; clear BK676; clear HB; have HO_7 := n0_; have HO686 := n1_; have BK675 := n2_; have BK676 := n3_; have HB := n4_; clear n0_ n1_ n2_ n3_ n4_; (try clear hb); (try clear hb2); (try clear hk); (try clear hi); (try clear ho0); have hcz49_0 : w48.cell? ⟨gb676, 0, none⟩ = some (.int .i64 a1_0) := (blk_cell BK676.out 0).trans rfl; have hcz49_1 : w48.cell? ⟨gb676, 1, none⟩ = some (.int .i64 a1_1) := (blk_cell BK676.out 1).trans rfl; have hcz49_2 : w48.cell? ⟨gb676, 2, none⟩ = some (.int .i64 a1_2) := (blk_cell BK676.out 2).trans rfl; have hfz49_0 := blk_frozen BK676.out 0; have hfz49_1 := blk_frozen BK676.out 1; have hfz49_2 := blk_frozen BK676.out 2; obtain ⟨Ao50, co50, eo50⟩ := Kd.R_slice HO686.out; subst eo50) | ((with_reducible refine gate_callee (f := 34) rfl ?_); refine goesL_ (some 48) rfl rfl Try.func34 (by kernel_rfl) rfl #[.agg #[.int .i64 a1_0, .int .i64 a1_1, .int .i64 a1_2], .slice Ao50 t684.length co50] rfl (by (try simp only [List.map_toArray, List.map_cons, List.map_nil]); first | done | rfl | (simp only [List.length_drop, List.length_take]; rfl)) ?_; (with_reducible refine (geom_In.calls k2 a1_0 a1_1 a1_2 _ _ t684 t688 _ ?side1 ?side2 A29.out).mono ?_); (case side1 => repeat (first | exact (Kd.R_reads' HO686.out).2.2 | (with_reducible refine Kd.C_alloc ?_ _) | (with_reducible refine Kd.C_drewN ?_ _) | (with_reducible refine Kd.C_drew ?_))); (case side2 => exact (Kd.R_reads' HO686.out).2.1); rintro e w51 ⟨rfl, hb⟩; refine ⟨_, rfl, ?_⟩; have n0_ := Aside0.mk (Kd.R_below (rK HO_7) hb); have n1_ := Aside0.mk (Kd.R_below (rK HO686) hb); have n2_ := Aside0.mk (blk_below (g := gb675) (o := .cells #[.slice A0_0 l0_0.length c0_0, .slice A0_1 l0_1.length c0_1, .slice (some ad682) l0_2.length c0_2] 25 (0, 0)) (bK BK675) hb); have n3_ := Aside0.mk (blk_below (g := gb676) (o := .cells #[.int .i64 a1_0, .int .i64 a1_1, .int .i64 a1_2] 27 (0, 0)) (bK BK676) hb); have n4_ := Aside0.mk (below_step (bH HB) hb); clear HO_7; clear HO686; clear BK675; clear BK676; clear HB; have HO_7 := n0_; have HO686 := n1_; have BK675 := n2_; have BK676 := n3_; have HB := n4_; clear n0_ n1_ n2_ n3_ n4_; (try clear hb); (try clear hb2); (try clear hk); (try clear hi)))
                 go_roundg k2
                 case measure => have := HK1.out; have := HK2.out; omega
                 case rel => exact ⟨(false), (wrap64 (x35_2 + 1)), (by first | rfl | (simp; done) | (simp [*]; done)), (by first | rfl | (simp; done) | (simp [*]; done)), H', ⟨by have := HK1.out; have := HK2.out; omega⟩, ⟨by (with_reducible repeat (first | apply Kd.R_alloc | apply Kd.R_drewN | apply Kd.R_drew)); exact HO_7.out⟩, ⟨bK BK675⟩, ⟨bK BK676⟩, ⟨ bH HB⟩⟩
              ·rw [if_neg c31] at H
               have c31b0 : (x35_2 == 0) = false := beq_eq_false_iff_ne.mpr c31
               have c31b1 : (x35_2 != 0) = true := bne_iff_ne.mpr c31
               by_cases c52 : x35_2 > 0
               ·rw [if_pos c52] at H
                have c52b0 : decide (0 < x35_2) = true := decide_eq_true c52
                clear c52
                have H' := Aside0.mk H
                clear H
                have p683 : 0 ≤ (x35_2 : Int) := of_decide_eq_true (by first | (with_reducible assumption) | assumption)
                have q683 : x35_2 < ((rd_L3 l0_2 x28_1).length : Int) := of_decide_eq_true (by first | (with_reducible assumption) | assumption)
                obtain ⟨ad683, e683, hx683_0⟩ := Kd.at_int HR682_0.out x35_2 p683 q683
                cases e683
                replace hx683_0 := (HB.out.cell (World.block_lt_of_cell? w _ hx683_0)).trans hx683_0
                replace p683 := eq_true p683
                replace q683 := eq_true q683
                have hnb53 := NB675_676.out
                have hnc53 := NB676_675.out
                have hcz54_0 : wr.cell? ⟨gb675, 0, none⟩ = some (.slice A0_0 l0_0.length c0_0) := (blk_cell BK675.out 0).trans rfl
                have hcz54_1 : wr.cell? ⟨gb675, 1, none⟩ = some (.slice A0_1 l0_1.length c0_1) := (blk_cell BK675.out 1).trans rfl
                have hcz54_2 : wr.cell? ⟨gb675, 2, none⟩ = some (.slice (some ad682) l0_2.length c0_2) := (blk_cell BK675.out 2).trans rfl
                have hfz54_0 := blk_frozen BK675.out 0
                have hfz54_1 := blk_frozen BK675.out 1
                have hfz54_2 := blk_frozen BK675.out 2
                go_wp2_with (first | ((with_reducible refine gate_callee (f := 33) rfl ?_); refine goesL_ (some 43) rfl rfl Try.func33 (by kernel_rfl) rfl #[.agg #[.slice A0_0 l0_0.length c0_0, .slice A0_1 l0_1.length c0_1, .slice (some ad682) l0_2.length c0_2], .int .i64 (rd (rd_L3 l0_2 x28_1) x35_2)] rfl (by (try simp only [List.map_toArray, List.map_cons, List.map_nil]); first | done | rfl | (simp only [List.length_drop, List.length_take]; rfl)) ?_; (with_reducible refine (ring_Ring.calls k2 _ _ l0_0 _ _ l0_1 _ _ l0_2 (rd (rd_L3 l0_2 x28_1) x35_2) t684 t687 _ ?side1 ?side2 ?side3 ?side4 ?side5 ?side6 A28.out).mono ?_); (case side1 => repeat (first | exact (Kd.C_below HR0_0.out HB.out) | (with_reducible refine Kd.C_alloc ?_ _) | (with_reducible refine Kd.C_drewN ?_ _) | (with_reducible refine Kd.C_drew ?_))); (case side2 => exact HC0_0.out); (case side3 => repeat (first | exact (Kd.C_below HR0_1.out HB.out) | (with_reducible refine Kd.C_alloc ?_ _) | (with_reducible refine Kd.C_drewN ?_ _) | (with_reducible refine Kd.C_drew ?_))); (case side4 => exact HC0_1.out); (case side5 => repeat (first | exact (Kd.C_below HR0_2.out HB.out) | (with_reducible refine Kd.C_alloc ?_ _) | (with_reducible refine Kd.C_drewN ?_ _) | (with_reducible refine Kd.C_drew ?_))); (case side6 => exact HC0_2.out); rintro e w55 ⟨v685, rfl, ho0, hb⟩; refine ⟨_, rfl, ?_⟩; have n0_ := Aside0.mk (Kd.R_below (rK HO_7) hb); have n1_ := Aside0.mk (Kd.R_lower (Kd.R_newB ho0 (g := gb676) (o := .cells #[.int .i64 a1_0, .int .i64 a1_1, .int .i64 a1_2] 27 (0, 0)) (bK BK676)) (below_size (bH HB))); have n2_ := Aside0.mk (blk_below (g := gb675) (o := .cells #[.slice A0_0 l0_0.length c0_0, .slice A0_1 l0_1.length c0_1, .slice (some ad682) l0_2.length c0_2] 25 (0, 0)) (bK BK675) hb); have n3_ := Aside0.mk (blk_below (g := gb676) (o := .cells #[.int .i64 a1_0, .int .i64 a1_1, .int .i64 a1_2] 27 (0, 0)) (bK BK676) hb); have n4_ := Aside0.mk (below_step (bH HB) hb); clear HO_7; clear BK675; clear BK676; clear HB; have HO_7 := n0_; have HO686 := n1_; have BK675 := n2_; have BK676 := n3_; have HB := n4_; clear n0_ n1_ n2_ n3_ n4_; (try clear hb); (try clear hb2); (try clear hk); (try clear hi); (try clear ho0); have hcz56_0 : w55.cell? ⟨gb676, 0, none⟩ = some (.int .i64 a1_0) := (blk_cell BK676.out 0).trans rfl; have hcz56_1 : w55.cell? ⟨gb676, 1, none⟩ = some (.int .i64 a1_1) := (blk_cell BK676.out 1).trans rfl; have hcz56_2 : w55.cell? ⟨gb676, 2, none⟩ = some (.int .i64 a1_2) := (blk_cell BK676.out 2).trans rfl; have hfz56_0 := blk_frozen BK676.out 0; have hfz56_1 := blk_frozen BK676.out 1; have hfz56_2 := blk_frozen BK676.out 2; obtain ⟨Ao57, co57, eo57⟩ := Kd.R_slice HO686.out; subst eo57) | ((with_reducible refine gate_callee (f := 34) rfl ?_); refine goesL_ (some 48) rfl rfl Try.func34 (by kernel_rfl) rfl #[.agg #[.int .i64 a1_0, .int .i64 a1_1, .int .i64 a1_2], .slice Ao57 t684.length co57] rfl (by (try simp only [List.map_toArray, List.map_cons, List.map_nil]); first | done | rfl | (simp only [List.length_drop, List.length_take]; rfl)) ?_; (with_reducible refine (geom_In.calls k2 a1_0 a1_1 a1_2 _ _ t684 t688 _ ?side1 ?side2 A29.out).mono ?_); (case side1 => repeat (first | exact (Kd.R_reads' HO686.out).2.2 | (with_reducible refine Kd.C_alloc ?_ _) | (with_reducible refine Kd.C_drewN ?_ _) | (with_reducible refine Kd.C_drew ?_))); (case side2 => exact (Kd.R_reads' HO686.out).2.1); rintro e w58 ⟨rfl, hb⟩; refine ⟨_, rfl, ?_⟩; have n0_ := Aside0.mk (Kd.R_below (rK HO_7) hb); have n1_ := Aside0.mk (Kd.R_below (rK HO686) hb); have n2_ := Aside0.mk (blk_below (g := gb675) (o := .cells #[.slice A0_0 l0_0.length c0_0, .slice A0_1 l0_1.length c0_1, .slice (some ad682) l0_2.length c0_2] 25 (0, 0)) (bK BK675) hb); have n3_ := Aside0.mk (blk_below (g := gb676) (o := .cells #[.int .i64 a1_0, .int .i64 a1_1, .int .i64 a1_2] 27 (0, 0)) (bK BK676) hb); have n4_ := Aside0.mk (below_step (bH HB) hb); clear HO_7; clear HO686; clear BK675; clear BK676; clear HB; have HO_7 := n0_; have HO686 := n1_; have BK675 := n2_; have BK676 := n3_; have HB := n4_; clear n0_ n1_ n2_ n3_ n4_; (try clear hb); (try clear hb2); (try clear hk); (try clear hi)))
                go_roundg k2
                case measure => have := HK1.out; have := HK2.out; omega
                case rel => exact ⟨(decide (t688 < 1)), (wrap64 (x35_2 + 1)), (by first | rfl | (simp; done) | (simp [*]; done)), (by first | rfl | (simp; done) | (simp [*]; done)), H', ⟨by have := HK1.out; have := HK2.out; omega⟩, ⟨by (with_reducible repeat (first | apply Kd.R_alloc | apply Kd.R_drewN | apply Kd.R_drew)); exact HO_7.out⟩, ⟨bK BK675⟩, ⟨bK BK676⟩, ⟨ bH HB⟩⟩
               ·rw [if_neg c52] at H
                have c52b0 : decide (0 < x35_2) = false := decide_eq_false c52
                clear c52
                have H' := Aside0.mk H
                clear H
                have p683 : 0 ≤ (x35_2 : Int) := of_decide_eq_true (by first | (with_reducible assumption) | assumption)
                have q683 : x35_2 < ((rd_L3 l0_2 x28_1).length : Int) := of_decide_eq_true (by first | (with_reducible assumption) | assumption)
                obtain ⟨ad683, e683, hx683_0⟩ := Kd.at_int HR682_0.out x35_2 p683 q683
                cases e683
                replace hx683_0 := (HB.out.cell (World.block_lt_of_cell? w _ hx683_0)).trans hx683_0
                replace p683 := eq_true p683
                replace q683 := eq_true q683
                have hnb59 := NB675_676.out
                have hnc59 := NB676_675.out
                have hcz60_0 : wr.cell? ⟨gb675, 0, none⟩ = some (.slice A0_0 l0_0.length c0_0) := (blk_cell BK675.out 0).trans rfl
                have hcz60_1 : wr.cell? ⟨gb675, 1, none⟩ = some (.slice A0_1 l0_1.length c0_1) := (blk_cell BK675.out 1).trans rfl
                have hcz60_2 : wr.cell? ⟨gb675, 2, none⟩ = some (.slice (some ad682) l0_2.length c0_2) := (blk_cell BK675.out 2).trans rfl
                have hfz60_0 := blk_frozen BK675.out 0
                have hfz60_1 := blk_frozen BK675.out 1
                have hfz60_2 := blk_frozen BK675.out 2
                go_wp2_with (first | ((with_reducible refine gate_callee (f := 33) rfl ?_); refine goesL_ (some 43) rfl rfl Try.func33 (by kernel_rfl) rfl #[.agg #[.slice A0_0 l0_0.length c0_0, .slice A0_1 l0_1.length c0_1, .slice (some ad682) l0_2.length c0_2], .int .i64 (rd (rd_L3 l0_2 x28_1) x35_2)] rfl (by (try simp only [List.map_toArray, List.map_cons, List.map_nil]); first | done | rfl | (simp only [List.length_drop, List.length_take]; rfl)) ?_; (with_reducible refine (ring_Ring.calls k2 _ _ l0_0 _ _ l0_1 _ _ l0_2 (rd (rd_L3 l0_2 x28_1) x35_2) t684 t687 _ ?side1 ?side2 ?side3 ?side4 ?side5 ?side6 A28.out).mono ?_); (case side1 => repeat (first | exact (Kd.C_below HR0_0.out HB.out) | (with_reducible refine Kd.C_alloc ?_ _) | (with_reducible refine Kd.C_drewN ?_ _) | (with_reducible refine Kd.C_drew ?_))); (case side2 => exact HC0_0.out); (case side3 => repeat (first | exact (Kd.C_below HR0_1.out HB.out) | (with_reducible refine Kd.C_alloc ?_ _) | (with_reducible refine Kd.C_drewN ?_ _) | (with_reducible refine Kd.C_drew ?_))); (case side4 => exact HC0_1.out); (case side5 => repeat (first | exact (Kd.C_below HR0_2.out HB.out) | (with_reducible refine Kd.C_alloc ?_ _) | (with_reducible refine Kd.C_drewN ?_ _) | (with_reducible refine Kd.C_drew ?_))); (case side6 => exact HC0_2.out); rintro e w61 ⟨v685, rfl, ho0, hb⟩; refine ⟨_, rfl, ?_⟩; have n0_ := Aside0.mk (Kd.R_below (rK HO_7) hb); have n1_ := Aside0.mk (Kd.R_lower (Kd.R_newB ho0 (g := gb676) (o := .cells #[.int .i64 a1_0, .int .i64 a1_1, .int .i64 a1_2] 27 (0, 0)) (bK BK676)) (below_size (bH HB))); have n2_ := Aside0.mk (blk_below (g := gb675) (o := .cells #[.slice A0_0 l0_0.length c0_0, .slice A0_1 l0_1.length c0_1, .slice (some ad682) l0_2.length c0_2] 25 (0, 0)) (bK BK675) hb); have n3_ := Aside0.mk (blk_below (g := gb676) (o := .cells #[.int .i64 a1_0, .int .i64 a1_1, .int .i64 a1_2] 27 (0, 0)) (bK BK676) hb); have n4_ := Aside0.mk (below_step (bH HB) hb); clear HO_7; clear BK675; clear BK676; clear HB; have HO_7 := n0_; have HO686 := n1_; have BK675 := n2_; have BK676 := n3_; have HB := n4_; clear n0_ n1_ n2_ n3_ n4_; (try clear hb); (try clear hb2); (try clear hk); (try clear hi); (try clear ho0); have hcz62_0 : w61.cell? ⟨gb676, 0, none⟩ = some (.int .i64 a1_0) := (blk_cell BK676.out 0).trans rfl; have hcz62_1 : w61.cell? ⟨gb676, 1, none⟩ = some (.int .i64 a1_1) := (blk_cell BK676.out 1).trans rfl; have hcz62_2 : w61.cell? ⟨gb676, 2, none⟩ = some (.int .i64 a1_2) := (blk_cell BK676.out 2).trans rfl; have hfz62_0 := blk_frozen BK676.out 0; have hfz62_1 := blk_frozen BK676.out 1; have hfz62_2 := blk_frozen BK676.out 2; obtain ⟨Ao63, co63, eo63⟩ := Kd.R_slice HO686.out; subst eo63) | ((with_reducible refine gate_callee (f := 34) rfl ?_); refine goesL_ (some 48) rfl rfl Try.func34 (by kernel_rfl) rfl #[.agg #[.int .i64 a1_0, .int .i64 a1_1, .int .i64 a1_2], .slice Ao63 t684.length co63] rfl (by (try simp only [List.map_toArray, List.map_cons, List.map_nil]); first | done | rfl | (simp only [List.length_drop, List.length_take]; rfl)) ?_; (with_reducible refine (geom_In.calls k2 a1_0 a1_1 a1_2 _ _ t684 t688 _ ?side1 ?side2 A29.out).mono ?_); (case side1 => repeat (first | exact (Kd.R_reads' HO686.out).2.2 | (with_reducible refine Kd.C_alloc ?_ _) | (with_reducible refine Kd.C_drewN ?_ _) | (with_reducible refine Kd.C_drew ?_))); (case side2 => exact (Kd.R_reads' HO686.out).2.1); rintro e w64 ⟨rfl, hb⟩; refine ⟨_, rfl, ?_⟩; have n0_ := Aside0.mk (Kd.R_below (rK HO_7) hb); have n1_ := Aside0.mk (Kd.R_below (rK HO686) hb); have n2_ := Aside0.mk (blk_below (g := gb675) (o := .cells #[.slice A0_0 l0_0.length c0_0, .slice A0_1 l0_1.length c0_1, .slice (some ad682) l0_2.length c0_2] 25 (0, 0)) (bK BK675) hb); have n3_ := Aside0.mk (blk_below (g := gb676) (o := .cells #[.int .i64 a1_0, .int .i64 a1_1, .int .i64 a1_2] 27 (0, 0)) (bK BK676) hb); have n4_ := Aside0.mk (below_step (bH HB) hb); clear HO_7; clear HO686; clear BK675; clear BK676; clear HB; have HO_7 := n0_; have HO686 := n1_; have BK675 := n2_; have BK676 := n3_; have HB := n4_; clear n0_ n1_ n2_ n3_ n4_; (try clear hb); (try clear hb2); (try clear hk); (try clear hi)))
                go_roundg k2
                case measure => have := HK1.out; have := HK2.out; omega
                case rel => exact ⟨(false), (wrap64 (x35_2 + 1)), (by first | rfl | (simp; done) | (simp [*]; done)), (by first | rfl | (simp; done) | (simp [*]; done)), H', ⟨by have := HK1.out; have := HK2.out; omega⟩, ⟨by (with_reducible repeat (first | apply Kd.R_alloc | apply Kd.R_drewN | apply Kd.R_drew)); exact HO_7.out⟩, ⟨bK BK675⟩, ⟨bK BK676⟩, ⟨ bH HB⟩⟩
             ·replace c30 := Bool.eq_false_iff.mpr c30
              subst c30
              have H1 : (plan_Where.l1 k2 x7_1 x28_1 false l0_2 (l0_2.length : Int) x28_1 (rd_L3 l0_2 x28_1) ((rd_L3 l0_2 x28_1).length : Int) (wrap64 (x35_2 + 1)) l0_0 l0_1 l0_2 a1_0 a1_1 a1_2) = some (r1, r2) := by rw [if_neg (show ¬ (false = true) by decide)] at H; exact H
              clear H
              have H := H1
              clear H1
              have H' := Aside0.mk H
              clear H
              have p683 : 0 ≤ (x35_2 : Int) := of_decide_eq_true (by first | (with_reducible assumption) | assumption)
              have q683 : x35_2 < ((rd_L3 l0_2 x28_1).length : Int) := of_decide_eq_true (by first | (with_reducible assumption) | assumption)
              obtain ⟨ad683, e683, hx683_0⟩ := Kd.at_int HR682_0.out x35_2 p683 q683
              cases e683
              replace hx683_0 := (HB.out.cell (World.block_lt_of_cell? w _ hx683_0)).trans hx683_0
              replace p683 := eq_true p683
              replace q683 := eq_true q683
              have hnb65 := NB675_676.out
              have hnc65 := NB676_675.out
              have hcz66_0 : wr.cell? ⟨gb675, 0, none⟩ = some (.slice A0_0 l0_0.length c0_0) := (blk_cell BK675.out 0).trans rfl
              have hcz66_1 : wr.cell? ⟨gb675, 1, none⟩ = some (.slice A0_1 l0_1.length c0_1) := (blk_cell BK675.out 1).trans rfl
              have hcz66_2 : wr.cell? ⟨gb675, 2, none⟩ = some (.slice (some ad682) l0_2.length c0_2) := (blk_cell BK675.out 2).trans rfl
              have hfz66_0 := blk_frozen BK675.out 0
              have hfz66_1 := blk_frozen BK675.out 1
              have hfz66_2 := blk_frozen BK675.out 2
              go_wp2_with (first | ((with_reducible refine gate_callee (f := 33) rfl ?_); refine goesL_ (some 43) rfl rfl Try.func33 (by kernel_rfl) rfl #[.agg #[.slice A0_0 l0_0.length c0_0, .slice A0_1 l0_1.length c0_1, .slice (some ad682) l0_2.length c0_2], .int .i64 (rd (rd_L3 l0_2 x28_1) x35_2)] rfl (by (try simp only [List.map_toArray, List.map_cons, List.map_nil]); first | done | rfl | (simp only [List.length_drop, List.length_take]; rfl)) ?_; (with_reducible refine (ring_Ring.calls k2 _ _ l0_0 _ _ l0_1 _ _ l0_2 (rd (rd_L3 l0_2 x28_1) x35_2) t684 t687 _ ?side1 ?side2 ?side3 ?side4 ?side5 ?side6 A28.out).mono ?_); (case side1 => repeat (first | exact (Kd.C_below HR0_0.out HB.out) | (with_reducible refine Kd.C_alloc ?_ _) | (with_reducible refine Kd.C_drewN ?_ _) | (with_reducible refine Kd.C_drew ?_))); (case side2 => exact HC0_0.out); (case side3 => repeat (first | exact (Kd.C_below HR0_1.out HB.out) | (with_reducible refine Kd.C_alloc ?_ _) | (with_reducible refine Kd.C_drewN ?_ _) | (with_reducible refine Kd.C_drew ?_))); (case side4 => exact HC0_1.out); (case side5 => repeat (first | exact (Kd.C_below HR0_2.out HB.out) | (with_reducible refine Kd.C_alloc ?_ _) | (with_reducible refine Kd.C_drewN ?_ _) | (with_reducible refine Kd.C_drew ?_))); (case side6 => exact HC0_2.out); rintro e w67 ⟨v685, rfl, ho0, hb⟩; refine ⟨_, rfl, ?_⟩; have n0_ := Aside0.mk (Kd.R_below (rK HO_7) hb); have n1_ := Aside0.mk (Kd.R_lower (Kd.R_newB ho0 (g := gb676) (o := .cells #[.int .i64 a1_0, .int .i64 a1_1, .int .i64 a1_2] 27 (0, 0)) (bK BK676)) (below_size (bH HB))); have n2_ := Aside0.mk (blk_below (g := gb675) (o := .cells #[.slice A0_0 l0_0.length c0_0, .slice A0_1 l0_1.length c0_1, .slice (some ad682) l0_2.length c0_2] 25 (0, 0)) (bK BK675) hb); have n3_ := Aside0.mk (blk_below (g := gb676) (o := .cells #[.int .i64 a1_0, .int .i64 a1_1, .int .i64 a1_2] 27 (0, 0)) (bK BK676) hb); have n4_ := Aside0.mk (below_step (bH HB) hb); clear HO_7; clear BK675; clear BK676; clear HB; have HO_7 := n0_; have HO686 := n1_; have BK675 := n2_; have BK676 := n3_; have HB := n4_; clear n0_ n1_ n2_ n3_ n4_; (try clear hb); (try clear hb2); (try clear hk); (try clear hi); (try clear ho0); have hcz68_0 : w67.cell? ⟨gb676, 0, none⟩ = some (.int .i64 a1_0) := (blk_cell BK676.out 0).trans rfl; have hcz68_1 : w67.cell? ⟨gb676, 1, none⟩ = some (.int .i64 a1_1) := (blk_cell BK676.out 1).trans rfl; have hcz68_2 : w67.cell? ⟨gb676, 2, none⟩ = some (.int .i64 a1_2) := (blk_cell BK676.out 2).trans rfl; have hfz68_0 := blk_frozen BK676.out 0; have hfz68_1 := blk_frozen BK676.out 1; have hfz68_2 := blk_frozen BK676.out 2; obtain ⟨Ao69, co69, eo69⟩ := Kd.R_slice HO686.out; subst eo69) | ((with_reducible refine gate_callee (f := 34) rfl ?_); refine goesL_ (some 48) rfl rfl Try.func34 (by kernel_rfl) rfl #[.agg #[.int .i64 a1_0, .int .i64 a1_1, .int .i64 a1_2], .slice Ao69 t684.length co69] rfl (by (try simp only [List.map_toArray, List.map_cons, List.map_nil]); first | done | rfl | (simp only [List.length_drop, List.length_take]; rfl)) ?_; (with_reducible refine (geom_In.calls k2 a1_0 a1_1 a1_2 _ _ t684 t688 _ ?side1 ?side2 A29.out).mono ?_); (case side1 => repeat (first | exact (Kd.R_reads' HO686.out).2.2 | (with_reducible refine Kd.C_alloc ?_ _) | (with_reducible refine Kd.C_drewN ?_ _) | (with_reducible refine Kd.C_drew ?_))); (case side2 => exact (Kd.R_reads' HO686.out).2.1); rintro e w70 ⟨rfl, hb⟩; refine ⟨_, rfl, ?_⟩; have n0_ := Aside0.mk (Kd.R_below (rK HO_7) hb); have n1_ := Aside0.mk (Kd.R_below (rK HO686) hb); have n2_ := Aside0.mk (blk_below (g := gb675) (o := .cells #[.slice A0_0 l0_0.length c0_0, .slice A0_1 l0_1.length c0_1, .slice (some ad682) l0_2.length c0_2] 25 (0, 0)) (bK BK675) hb); have n3_ := Aside0.mk (blk_below (g := gb676) (o := .cells #[.int .i64 a1_0, .int .i64 a1_1, .int .i64 a1_2] 27 (0, 0)) (bK BK676) hb); have n4_ := Aside0.mk (below_step (bH HB) hb); clear HO_7; clear HO686; clear BK675; clear BK676; clear HB; have HO_7 := n0_; have HO686 := n1_; have BK675 := n2_; have BK676 := n3_; have HB := n4_; clear n0_ n1_ n2_ n3_ n4_; (try clear hb); (try clear hb2); (try clear hk); (try clear hi)))
              go_roundg k2
              case measure => have := HK1.out; have := HK2.out; omega
              case rel => exact ⟨(false), (wrap64 (x35_2 + 1)), (by first | rfl | (simp; done) | (simp [*]; done)), (by first | rfl | (simp; done) | (simp [*]; done)), H', ⟨by have := HK1.out; have := HK2.out; omega⟩, ⟨by (with_reducible repeat (first | apply Kd.R_alloc | apply Kd.R_drewN | apply Kd.R_drew)); exact HO_7.out⟩, ⟨bK BK675⟩, ⟨bK BK676⟩, ⟨ bH HB⟩⟩
            ·rw [if_neg c27] at H
             exact absurd H (by simp)
           ·rw [if_neg c26] at H
            exact absurd H (by simp)
          ·rw [if_neg c25] at H
           have c25b0 : decide (x35_2 < ((rd_L3 l0_2 x28_1).length : Int)) = false := decide_eq_false c25
           clear c25
           by_cases c71 : x10_2 = true
           ·subst c71
            have H1 : (if x7_1.length < 17592186044416 then (plan_Where.l0 k2 (x7_1 ++ [x28_1]) l0_2 (l0_2.length : Int) (wrap64 (x28_1 + 1)) l0_0 l0_1 l0_2 a1_0 a1_1 a1_2) else (none)) = some (r1, r2) := by rw [if_pos rfl] at H; exact H
            clear H
            have H := H1
            clear H1
            by_cases c72 : x7_1.length < 17592186044416
            ·rw [if_pos c72] at H
             have LMc72 := Aside0.mk c72
             clear c72
             obtain ⟨y689, hy689⟩ : ∃ y_ : List Int, y_ = (x7_1 ++ [x28_1]) := ⟨_, rfl⟩
             replace H : (plan_Where.l0 k2 y689 l0_2 (l0_2.length : Int) (wrap64 (x28_1 + 1)) l0_0 l0_1 l0_2 a1_0 a1_1 a1_2) = some (r1, r2) := by first | (rw [hy689]; with_reducible exact H) | (have H2_ := (Option.bind_some _ _).symm.trans H; rw [hy689]; with_reducible exact H2_) | (have H2_ := (Option.bind_some _ _).symm.trans H; with_reducible exact H2_) | with_reducible exact H | (rw [hy689]; exact H) | exact H
             have Ny689 := Aside0.mk hy689
             clear hy689
             have H' := Aside0.mk H
             clear H
             go_wp2_with (first | ((with_reducible refine gate_builtin (b := .append) (xs := #[.tmp 68, .tmp 70]) rfl ?_); at_builtin; refine Kd.R_append (Kd.int .i64) (w0 := w) w.heap.size rfl (.tmp 68) (.tmp 70) 32 3 (.int .i64 0) 8 rfl Try.underlying32 info3 rfl (by decide) (by omega) u7 x7_1 x28_1 [.int .i64 x28_1] (fun _ => True) (fun _ => False) rfl rfl ?aP (fun _ hk => hk.elim) ?aF ?aO ?aB ?aS ?aL ?_; (case aP => exact rfl); (case aB => exact (bH HB)); (case aF => exact (fun _ _ => trivial)); (case aO => exact (rK HO_7)); (case aS => exact (below_size (bH HB))); (case aL => have := LMc72.out; omega); intro v690 w73 ho hb hg hat; rw [← Ny689.out] at ho; have n0_ := Aside0.mk (blk_grown (g := gb675) (o := .cells #[.slice A0_0 l0_0.length c0_0, .slice A0_1 l0_1.length c0_1, .slice (some ad682) l0_2.length c0_2] 25 (0, 0)) (bK BK675) hg (Kd.R_ne HO_7.out BK675.out (by decide))); have n1_ := Aside0.mk (blk_grown (g := gb676) (o := .cells #[.int .i64 a1_0, .int .i64 a1_1, .int .i64 a1_2] 27 (0, 0)) (bK BK676) hg (Kd.R_ne HO_7.out BK676.out (by decide))); have n2_ := Aside0.mk (hb); have n3_ := Aside0.mk (ho); clear BK675; clear BK676; clear HB; clear HO_7; have BK675 := n0_; have BK676 := n1_; have HB := n2_; have HO691 := n3_; clear n0_ n1_ n2_ n3_; clear ho hb hg hat))
             go_roundg k2
             case measure => have := HK1.out; have := HK2.out; omega
             case rel => exact ⟨(y689), (wrap64 (x28_1 + 1)), (by first | rfl | (simp; done) | (simp [*]; done)), H', ⟨by have := HK1.out; have := HK2.out; omega⟩, ⟨by (with_reducible repeat (first | apply Kd.R_alloc | apply Kd.R_drewN | apply Kd.R_drew)); exact HO691.out⟩, ⟨bK BK675⟩, ⟨bK BK676⟩, ⟨ bH HB⟩⟩
            ·rw [if_neg c72] at H
             exact absurd H (by simp)
           ·replace c71 := Bool.eq_false_iff.mpr c71
            subst c71
            have H1 : (plan_Where.l0 k2 x7_1 l0_2 (l0_2.length : Int) (wrap64 (x28_1 + 1)) l0_0 l0_1 l0_2 a1_0 a1_1 a1_2) = some (r1, r2) := by rw [if_neg (show ¬ (false = true) by decide)] at H; exact H
            clear H
            have H := H1
            clear H1
            have H' := Aside0.mk H
            clear H
            go_wp2
            go_roundg k2
            case measure => have := HK1.out; have := HK2.out; omega
            case rel => exact ⟨(x7_1), (wrap64 (x28_1 + 1)), (by first | rfl | (simp; done) | (simp [*]; done)), H', ⟨by have := HK1.out; have := HK2.out; omega⟩, ⟨by (with_reducible repeat (first | apply Kd.R_alloc | apply Kd.R_drewN | apply Kd.R_drew)); exact HO_7.out⟩, ⟨bK BK675⟩, ⟨bK BK676⟩, ⟨ bH HB⟩⟩
       ·rw [if_neg c24] at H
        exact absurd H (by simp)
      ·rw [if_neg c23] at H
       exact absurd H (by simp)
     ·rw [if_neg c22] at H
      have c22b0 : decide (x28_1 < (l0_2.length : Int)) = false := decide_eq_false c22
      clear c22
      (first | rw [c22b0] | (simp only [i64_w, i32_w]; rw [c22b0]) | skip)
      simp only [Option.some.injEq, Prod.mk.injEq] at H
      obtain ⟨rfl, rfl⟩ := H
      go_wp2
      go_ret2
      exact ⟨_, by first | rfl | (simp [errW_none, errW_some] <;> rfl) | (simp [*, errW_none, errW_some] <;> rfl), by (with_reducible repeat (first | apply Kd.R_alloc | apply Kd.R_drewN | apply Kd.R_drew)); exact HO_7.out, bH HB⟩
  ·replace c19 := Bool.eq_false_iff.mpr c19
   subst c19
   have H1 : (some (([] : List Int), 2)) = some (r1, r2) := by rw [if_neg (show ¬ (false = true) by decide)] at H; exact H
   clear H
   have H := H1
   clear H1
   simp only [Option.some.injEq, Prod.mk.injEq] at H
   obtain ⟨rfl, rfl⟩ := H
   go_wp2
   go_ret2
   exact ⟨_, by first | rfl | (simp [errW_none, errW_some] <;> rfl) | (simp [*, errW_none, errW_some] <;> rfl), by first | exact Kd.R_nil _ _ _ _ _ | exact Kd.N_nil _ _ _ _ _ | exact Kd.V_nil _ _ _ _ _ | exact Kd.Q_nil _ _ _ _ _ | exact Kd.S_nil _ _ _ _ _, bH HB⟩
 ·rw [if_neg c10] at H
  have c10b0 : (t677 == 0) = false := beq_eq_false_iff_ne.mpr c10
  have c10b1 : (t677 != 0) = true := bne_iff_ne.mpr c10
  (first | rw [c10b0] | (simp only [i64_w, i32_w]; rw [c10b0]) | skip)
  simp only [Option.some.injEq, Prod.mk.injEq] at H
  obtain ⟨rfl, rfl⟩ := H
  go_wp2
  go_ret2
  exact ⟨_, by first | rfl | (simp [errW_none, errW_some] <;> rfl) | (simp [*, errW_none, errW_some] <;> rfl), by first | exact Kd.R_nil _ _ _ _ _ | exact Kd.N_nil _ _ _ _ _ | exact Kd.V_nil _ _ _ _ _ | exact Kd.Q_nil _ _ _ _ _ | exact Kd.S_nil _ _ _ _ _, bH HB⟩

end Go.Proofs.Ytbonkedecfjmdaa.P
