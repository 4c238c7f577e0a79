/- Written for this claim by a program of this session (a turned copy of the print): Go functions as Lean functions, and that the Go code comes to just these answers; or a statement proved out of them. No condition. -/
import Derived.Test.YtlnjbpapbifjfaaPx0
import Derived.Test.YtlnjbpapbifjfaaPx1
import Derived.Test.YtlnjbpapbifjfaaPx13
import Derived.Test.YtlnjbpapbifjfaaPx14
namespace Go.Proofs.Ytlnjbpapbifjfaa.P
open Go.RowKit Go.Proofs.YtlnjbpapbifjfaaW.PrintWords Go.Proofs.YtlnjbpapbifjfaaW.PrintLast Go.Proofs.YtlnjbpapbifjfaaW.PrintMore Go.Proofs.Ytlnjbpapbifjfaa.X
attribute [local go_sem] max2_int min2_int max_two min_two max_three min_three max_four min_four add64_0 add64_1 add64   -- for this text's walks alone
set_option linter.unusedVariables false
set_option linter.unusedSimpArgs false

attribute [local go_sem high] eqA23
/-! ### geom_along: function 28 -/
mutual
def geom_along.j0 : Nat → Int → Int → Int → Int → Int → Int → Int → Int → Int → Option (Int)
 | 0, _, _, _, _, _, _, _, _, _ => none
 | k + 1, x155000, x155001, x155002, x168000, x168001, x168002, x169000, x169001, x169002 => (geom_less.f x155000 x155001 x155002 x169000 x169001 x169002).bind fun t170 => (if t170 = true then (geom_along.j1 k x168000 x168001 x168002 x155000 x155001 x155002) else (geom_along.j1 k x168000 x168001 x168002 x169000 x169001 x169002))
def geom_along.j1 : Nat → Int → Int → Int → Int → Int → Int → Option (Int)
 | 0, _, _, _, _, _, _ => none
 | k + 1, x168000, x168001, x168002, x169000, x169001, x169002 => if (x168000 == x169000 && (x168001 == x169001 && (x168002 == x169002))) = true then (some 1) else ((geom_less.f x168000 x168001 x168002 x169000 x169001 x169002).bind fun t171 => (if t171 = true then (some 3) else (some 0)))
end
def geom_along.f (k : Nat) (a0_0 : Int) (a0_1 : Int) (a0_2 : Int) (a1_0 : Int) (a1_1 : Int) (a1_2 : Int) (a2_0 : Int) (a2_1 : Int) (a2_2 : Int) (a3_0 : Int) (a3_1 : Int) (a3_2 : Int) : Option (Int) := (geom_rising.f a0_0 a0_1 a0_2 a1_0 a1_1 a1_2).bind fun bt155 => ((geom_rising.f a2_0 a2_1 a2_2 a3_0 a3_1 a3_2).bind fun bt161 => ((geom_less.f bt155.1 bt155.2.1 bt155.2.2.1 bt161.1 bt161.2.1 bt161.2.2.1).bind fun t169 => (if t169 = true then (geom_along.j0 k bt161.2.2.2.1 bt161.2.2.2.2.1 bt161.2.2.2.2.2 bt161.1 bt161.2.1 bt161.2.2.1 bt155.2.2.2.1 bt155.2.2.2.2.1 bt155.2.2.2.2.2) else (geom_along.j0 k bt161.2.2.2.1 bt161.2.2.2.2.1 bt161.2.2.2.2.2 bt155.1 bt155.2.1 bt155.2.2.1 bt155.2.2.2.1 bt155.2.2.2.2.1 bt155.2.2.2.2.2))))
theorem geom_along.mono_l : ∀ k, (∀ y0 y1 y2 y3 y4 y5 y6 y7 y8, LeO (geom_along.j0 k y0 y1 y2 y3 y4 y5 y6 y7 y8) (geom_along.j0 (k + 1) y0 y1 y2 y3 y4 y5 y6 y7 y8)) ∧ (∀ y0 y1 y2 y3 y4 y5, LeO (geom_along.j1 k y0 y1 y2 y3 y4 y5) (geom_along.j1 (k + 1) y0 y1 y2 y3 y4 y5))
 | 0 => ⟨fun _ _ _ _ _ _ _ _ _ r h => by simp [geom_along.j0] at h, fun _ _ _ _ _ _ r h => by simp [geom_along.j1] at h⟩
 | k + 1 => by
  obtain ⟨ih0, ih1⟩ := geom_along.mono_l k
  refine ⟨?_, ?_⟩
  ·intro y0 y1 y2 y3 y4 y5 y6 y7 y8
   unfold geom_along.j0
   repeat' first
   | (with_reducible exact ih0 _ _ _ _ _ _ _ _ _)
   | (with_reducible exact ih1 _ _ _ _ _ _)
   | (with_reducible exact LeO.refl _)
   | (with_reducible exact LeO.none _)
   | (with_reducible refine LeO.ite ?_ ?_)
   | (with_reducible refine LeO.bind ?_ (fun _ => ?_))
   | exact ih0 _ _ _ _ _ _ _ _ _
   | exact ih1 _ _ _ _ _ _
   | exact LeO.none _
   | refine LeO.ite ?_ ?_
   | refine LeO.bind ?_ (fun _ => ?_)
  ·intro y0 y1 y2 y3 y4 y5
   unfold geom_along.j1
   repeat' first
   | (with_reducible exact ih0 _ _ _ _ _ _ _ _ _)
   | (with_reducible exact ih1 _ _ _ _ _ _)
   | (with_reducible exact LeO.refl _)
   | (with_reducible exact LeO.none _)
   | (with_reducible refine LeO.ite ?_ ?_)
   | (with_reducible refine LeO.bind ?_ (fun _ => ?_))
   | exact ih0 _ _ _ _ _ _ _ _ _
   | exact ih1 _ _ _ _ _ _
   | exact LeO.none _
   | refine LeO.ite ?_ ?_
   | refine LeO.bind ?_ (fun _ => ?_)
theorem geom_along.mono : ∀ a0 a1 a2 a3 a4 a5 a6 a7 a8 a9 a10 a11 k, LeO (geom_along.f k a0 a1 a2 a3 a4 a5 a6 a7 a8 a9 a10 a11) (geom_along.f (k + 1) a0 a1 a2 a3 a4 a5 a6 a7 a8 a9 a10 a11) := by
 intro a0 a1 a2 a3 a4 a5 a6 a7 a8 a9 a10 a11 k
 obtain ⟨ih0, ih1⟩ := geom_along.mono_l k
 unfold geom_along.f
 repeat' first
   | (with_reducible exact ih0 _ _ _ _ _ _ _ _ _)
   | (with_reducible exact ih1 _ _ _ _ _ _)
   | (with_reducible exact LeO.refl _)
   | (with_reducible exact LeO.none _)
   | (with_reducible refine LeO.ite ?_ ?_)
   | (with_reducible refine LeO.bind ?_ (fun _ => ?_))
   | exact ih0 _ _ _ _ _ _ _ _ _
   | exact ih1 _ _ _ _ _ _
   | exact LeO.none _
   | refine LeO.ite ?_ ?_
   | refine LeO.bind ?_ (fun _ => ?_)
set_option maxHeartbeats 8000000 in
set_option maxRecDepth 100000 in
theorem geom_along.calls (k : Nat) (a0_0 : Int) (a0_1 : Int) (a0_2 : Int) (a1_0 : Int) (a1_1 : Int) (a1_2 : Int) (a2_0 : Int) (a2_1 : Int) (a2_2 : Int) (a3_0 : Int) (a3_1 : Int) (a3_2 : Int) (r : Int) (w : World) (h : geom_along.f k a0_0 a0_1 a0_2 a1_0 a1_1 a1_2 a2_0 a2_1 a2_2 a3_0 a3_1 a3_2 = some r) :
  Calls Try.prog 28 #[.agg #[.int .i64 a0_0, .int .i64 a0_1, .int .i64 a0_2], .agg #[.int .i64 a1_0, .int .i64 a1_1, .int .i64 a1_2], .agg #[.int .i64 a2_0, .int .i64 a2_1, .int .i64 a2_2], .agg #[.int .i64 a3_0, .int .i64 a3_1, .int .i64 a3_2]] w fun e w' => e = .returned (.int .i64 r) ∧ Below w.heap.size w w' := by
 have hu23 := Try.underlying23
 have HB := Aside0.mk (Below.refl w.heap.size w)
 have H : ((geom_rising.f a0_0 a0_1 a0_2 a1_0 a1_1 a1_2).bind fun bt155 => ((geom_rising.f a2_0 a2_1 a2_2 a3_0 a3_1 a3_2).bind fun bt161 => ((geom_less.f bt155.1 bt155.2.1 bt155.2.2.1 bt161.1 bt161.2.1 bt161.2.2.1).bind fun t169 => (if t169 = true then (geom_along.j0 k bt161.2.2.2.1 bt161.2.2.2.2.1 bt161.2.2.2.2.2 bt161.1 bt161.2.1 bt161.2.2.1 bt155.2.2.2.1 bt155.2.2.2.2.1 bt155.2.2.2.2.2) else (geom_along.j0 k bt161.2.2.2.1 bt161.2.2.2.2.1 bt161.2.2.2.2.2 bt155.1 bt155.2.1 bt155.2.2.1 bt155.2.2.2.1 bt155.2.2.2.2.1 bt155.2.2.2.2.2))))) = some r := h
 clear h
 replace H := Option.bind_eq_some_iff.mp H
 obtain ⟨⟨t155, t156, t157, t158, t159, t160⟩, A50, H⟩ := H
 replace H : ((geom_rising.f a2_0 a2_1 a2_2 a3_0 a3_1 a3_2).bind fun bt161 => ((geom_less.f t155 t156 t157 bt161.1 bt161.2.1 bt161.2.2.1).bind fun t169 => (if t169 = true then (geom_along.j0 k bt161.2.2.2.1 bt161.2.2.2.2.1 bt161.2.2.2.2.2 bt161.1 bt161.2.1 bt161.2.2.1 t158 t159 t160) else (geom_along.j0 k bt161.2.2.2.1 bt161.2.2.2.2.1 bt161.2.2.2.2.2 t155 t156 t157 t158 t159 t160)))) = some r := H
 have A5 := Aside0.mk A50
 clear A50
 replace H := Option.bind_eq_some_iff.mp H
 obtain ⟨⟨t161, t162, t163, t164, t165, t166⟩, A60, H⟩ := H
 replace H : ((geom_less.f t155 t156 t157 t161 t162 t163).bind fun t169 => (if t169 = true then (geom_along.j0 k t164 t165 t166 t161 t162 t163 t158 t159 t160) else (geom_along.j0 k t164 t165 t166 t155 t156 t157 t158 t159 t160))) = some r := H
 have A6 := Aside0.mk A60
 clear A60
 replace H := Option.bind_eq_some_iff.mp H
 obtain ⟨t169, A70, H⟩ := H
 replace H : (if t169 = true then (geom_along.j0 k t164 t165 t166 t161 t162 t163 t158 t159 t160) else (geom_along.j0 k t164 t165 t166 t155 t156 t157 t158 t159 t160)) = some r := H
 have A7 := Aside0.mk A70
 clear A70
 have HC8 := Aside0.mk H
 clear H
 go_enter Try.func28, Try.ntmps28
 try go_wp2_with (first | ((with_reducible refine gate_dst (N := 4) rfl ?_); refine box_event ?hg (N := 4) ?hd (cs := #[.int .i64 a0_0, .int .i64 a0_1, .int .i64 a0_2]) (t := 23) ?hr ?_; (case hd => rfl); (case hg => rfl); (case hr => first | (go_simp; done) | (go_simp; rfl)); intro gb151 hg w9 hbox hb; have n0_ := Aside0.mk (below_step (bH HB) hb); have n1_ := Aside0.mk (hbox); have n2_ := Aside0.mk ((by rw [hg]; exact (below_size (bH HB)) : w.heap.size ≤ gb151)); have n3_ := n2_; clear HB; have HB := n0_; have BK151 := n1_; have GW151 := n2_; have GE151 := n3_; clear n0_ n1_ n2_ n3_; clear hb hbox hg) | ((with_reducible refine gate_dst (N := 5) rfl ?_); refine box_event ?hg (N := 5) ?hd (cs := #[.int .i64 a1_0, .int .i64 a1_1, .int .i64 a1_2]) (t := 23) ?hr ?_; (case hd => rfl); (case hg => rfl); (case hr => first | (go_simp; done) | (go_simp; rfl)); intro gb152 hg w10 hbox hb; have n0_ := Aside0.mk (blk_below (g := gb151) (o := .cells #[.int .i64 a0_0, .int .i64 a0_1, .int .i64 a0_2] 23 (0, 0)) (bK BK151) hb); have n1_ := Aside0.mk (below_step (bH HB) hb); have n2_ := Aside0.mk (hbox); have n3_ := Aside0.mk ((by rw [hg]; exact (below_size (bH HB)) : w.heap.size ≤ gb152)); have n4_ := n3_; have n5_ := Aside0.mk ((by rw [hg]; exact Nat.ne_of_lt (blk_lt (bK BK151)) : gb151 ≠ gb152)); have n6_ := Aside0.mk ((by rw [hg]; exact Nat.ne_of_gt (blk_lt (bK BK151)) : gb152 ≠ gb151)); clear BK151; clear HB; have BK151 := n0_; have HB := n1_; have BK152 := n2_; have GW152 := n3_; have GE152 := n4_; have NB151_152 := n5_; have NB152_151 := n6_; clear n0_ n1_ n2_ n3_ n4_ n5_ n6_; clear hb hbox hg) | ((with_reducible refine gate_dst (N := 6) rfl ?_); refine box_event ?hg (N := 6) ?hd (cs := #[.int .i64 a2_0, .int .i64 a2_1, .int .i64 a2_2]) (t := 23) ?hr ?_; (case hd => rfl); (case hg => rfl); (case hr => first | (go_simp; done) | (go_simp; rfl)); intro gb153 hg w11 hbox hb; have n0_ := Aside0.mk (blk_below (g := gb151) (o := .cells #[.int .i64 a0_0, .int .i64 a0_1, .int .i64 a0_2] 23 (0, 0)) (bK BK151) hb); have n1_ := Aside0.mk (blk_below (g := gb152) (o := .cells #[.int .i64 a1_0, .int .i64 a1_1, .int .i64 a1_2] 23 (0, 0)) (bK BK152) hb); have n2_ := Aside0.mk (below_step (bH HB) hb); have n3_ := Aside0.mk (hbox); have n4_ := Aside0.mk ((by rw [hg]; exact (below_size (bH HB)) : w.heap.size ≤ gb153)); have n5_ := n4_; have n6_ := Aside0.mk ((by rw [hg]; exact Nat.ne_of_lt (blk_lt (bK BK151)) : gb151 ≠ gb153)); have n7_ := Aside0.mk ((by rw [hg]; exact Nat.ne_of_gt (blk_lt (bK BK151)) : gb153 ≠ gb151)); have n8_ := Aside0.mk ((by rw [hg]; exact Nat.ne_of_lt (blk_lt (bK BK152)) : gb152 ≠ gb153)); have n9_ := Aside0.mk ((by rw [hg]; exact Nat.ne_of_gt (blk_lt (bK BK152)) : gb153 ≠ gb152)); clear BK151; clear BK152; clear HB; have BK151 := n0_; have BK152 := n1_; have HB := n2_; have BK153 := n3_; have GW153 := n4_; have GE153 := n5_; have NB151_153 := n6_; have NB153_151 := n7_; have NB152_153 := n8_; have NB153_152 := n9_; clear n0_ n1_ n2_ n3_ n4_ n5_ n6_ n7_ n8_ n9_; clear hb hbox hg) | ((with_reducible refine gate_dst (N := 7) rfl ?_); refine box_event ?hg (N := 7) ?hd (cs := #[.int .i64 a3_0, .int .i64 a3_1, .int .i64 a3_2]) (t := 23) ?hr ?_; (case hd => rfl); (case hg => rfl); (case hr => first | (go_simp; done) | (go_simp; rfl)); intro gb154 hg w12 hbox hb; have n0_ := Aside0.mk (blk_below (g := gb151) (o := .cells #[.int .i64 a0_0, .int .i64 a0_1, .int .i64 a0_2] 23 (0, 0)) (bK BK151) hb); have n1_ := Aside0.mk (blk_below (g := gb152) (o := .cells #[.int .i64 a1_0, .int .i64 a1_1, .int .i64 a1_2] 23 (0, 0)) (bK BK152) hb); have n2_ := Aside0.mk (blk_below (g := gb153) (o := .cells #[.int .i64 a2_0, .int .i64 a2_1, .int .i64 a2_2] 23 (0, 0)) (bK BK153) hb); have n3_ := Aside0.mk (below_step (bH HB) hb); have n4_ := Aside0.mk (hbox); have n5_ := Aside0.mk ((by rw [hg]; exact (below_size (bH HB)) : w.heap.size ≤ gb154)); have n6_ := n5_; have n7_ := Aside0.mk ((by rw [hg]; exact Nat.ne_of_lt (blk_lt (bK BK151)) : gb151 ≠ gb154)); have n8_ := Aside0.mk ((by rw [hg]; exact Nat.ne_of_gt (blk_lt (bK BK151)) : gb154 ≠ gb151)); have n9_ := Aside0.mk ((by rw [hg]; exact Nat.ne_of_lt (blk_lt (bK BK152)) : gb152 ≠ gb154)); have n10_ := Aside0.mk ((by rw [hg]; exact Nat.ne_of_gt (blk_lt (bK BK152)) : gb154 ≠ gb152)); have n11_ := Aside0.mk ((by rw [hg]; exact Nat.ne_of_lt (blk_lt (bK BK153)) : gb153 ≠ gb154)); have n12_ := Aside0.mk ((by rw [hg]; exact Nat.ne_of_gt (blk_lt (bK BK153)) : gb154 ≠ gb153)); clear BK151; clear BK152; clear BK153; clear HB; have BK151 := n0_; have BK152 := n1_; have BK153 := n2_; have HB := n3_; have BK154 := n4_; have GW154 := n5_; have GE154 := n6_; have NB151_154 := n7_; have NB154_151 := n8_; have NB152_154 := n9_; have NB154_152 := n10_; have NB153_154 := n11_; have NB154_153 := n12_; clear n0_ n1_ n2_ n3_ n4_ n5_ n6_ n7_ n8_ n9_ n10_ n11_ n12_; clear hb hbox hg; have hnb13 := NB151_152.out; have hnc13 := NB152_151.out; have hnb14 := NB151_153.out; have hnc14 := NB153_151.out; have hnb15 := NB151_154.out; have hnc15 := NB154_151.out; have hcz16_0 : w12.cell? ⟨gb151, 0, none⟩ = some (.int .i64 a0_0) := (blk_cell BK151.out 0).trans rfl; have hcz16_1 : w12.cell? ⟨gb151, 1, none⟩ = some (.int .i64 a0_1) := (blk_cell BK151.out 1).trans rfl; have hcz16_2 : w12.cell? ⟨gb151, 2, none⟩ = some (.int .i64 a0_2) := (blk_cell BK151.out 2).trans rfl; have hfz16_0 := blk_frozen BK151.out 0; have hfz16_1 := blk_frozen BK151.out 1; have hfz16_2 := blk_frozen BK151.out 2; have hnb17 := NB152_153.out; have hnc17 := NB153_152.out; have hnb18 := NB152_154.out; have hnc18 := NB154_152.out; have hcz19_0 : w12.cell? ⟨gb152, 0, none⟩ = some (.int .i64 a1_0) := (blk_cell BK152.out 0).trans rfl; have hcz19_1 : w12.cell? ⟨gb152, 1, none⟩ = some (.int .i64 a1_1) := (blk_cell BK152.out 1).trans rfl; have hcz19_2 : w12.cell? ⟨gb152, 2, none⟩ = some (.int .i64 a1_2) := (blk_cell BK152.out 2).trans rfl; have hfz19_0 := blk_frozen BK152.out 0; have hfz19_1 := blk_frozen BK152.out 1; have hfz19_2 := blk_frozen BK152.out 2) | ((with_reducible refine gate_callee (f := 41) rfl ?_); refine goesL_ (some 14) rfl rfl Try.func41 (by kernel_rfl) rfl #[.agg #[.int .i64 a0_0, .int .i64 a0_1, .int .i64 a0_2], .agg #[.int .i64 a1_0, .int .i64 a1_1, .int .i64 a1_2]] rfl (by (try simp only [List.map_toArray, List.map_cons, List.map_nil]); first | done | rfl | (simp only [List.length_drop, List.length_take]; rfl)) ?_; (with_reducible refine (geom_rising.calls a0_0 a0_1 a0_2 a1_0 a1_1 a1_2 t155 t156 t157 t158 t159 t160 _ A5.out).mono ?_); rintro e w20 ⟨rfl, hb⟩; refine ⟨_, rfl, ?_⟩; have n0_ := Aside0.mk (blk_below (g := gb151) (o := .cells #[.int .i64 a0_0, .int .i64 a0_1, .int .i64 a0_2] 23 (0, 0)) (bK BK151) hb); have n1_ := Aside0.mk (blk_below (g := gb152) (o := .cells #[.int .i64 a1_0, .int .i64 a1_1, .int .i64 a1_2] 23 (0, 0)) (bK BK152) hb); have n2_ := Aside0.mk (blk_below (g := gb153) (o := .cells #[.int .i64 a2_0, .int .i64 a2_1, .int .i64 a2_2] 23 (0, 0)) (bK BK153) hb); have n3_ := Aside0.mk (blk_below (g := gb154) (o := .cells #[.int .i64 a3_0, .int .i64 a3_1, .int .i64 a3_2] 23 (0, 0)) (bK BK154) hb); have n4_ := Aside0.mk (below_step (bH HB) hb); clear BK151; clear BK152; clear BK153; clear BK154; clear HB; have BK151 := n0_; have BK152 := n1_; have BK153 := n2_; have BK154 := n3_; have HB := n4_; clear n0_ n1_ n2_ n3_ n4_; (try clear hb); (try clear hb2); (try clear hk); (try clear hi); have hcz21_0 : w20.cell? ⟨gb151, 0, none⟩ = some (.int .i64 a0_0) := (blk_cell BK151.out 0).trans rfl; have hcz21_1 : w20.cell? ⟨gb151, 1, none⟩ = some (.int .i64 a0_1) := (blk_cell BK151.out 1).trans rfl; have hcz21_2 : w20.cell? ⟨gb151, 2, none⟩ = some (.int .i64 a0_2) := (blk_cell BK151.out 2).trans rfl; have hfz21_0 := blk_frozen BK151.out 0; have hfz21_1 := blk_frozen BK151.out 1; have hfz21_2 := blk_frozen BK151.out 2; have hcz22_0 : w20.cell? ⟨gb152, 0, none⟩ = some (.int .i64 a1_0) := (blk_cell BK152.out 0).trans rfl; have hcz22_1 : w20.cell? ⟨gb152, 1, none⟩ = some (.int .i64 a1_1) := (blk_cell BK152.out 1).trans rfl; have hcz22_2 : w20.cell? ⟨gb152, 2, none⟩ = some (.int .i64 a1_2) := (blk_cell BK152.out 2).trans rfl; have hfz22_0 := blk_frozen BK152.out 0; have hfz22_1 := blk_frozen BK152.out 1; have hfz22_2 := blk_frozen BK152.out 2; have hnb23 := NB153_154.out; have hnc23 := NB154_153.out; have hcz24_0 : w20.cell? ⟨gb153, 0, none⟩ = some (.int .i64 a2_0) := (blk_cell BK153.out 0).trans rfl; have hcz24_1 : w20.cell? ⟨gb153, 1, none⟩ = some (.int .i64 a2_1) := (blk_cell BK153.out 1).trans rfl; have hcz24_2 : w20.cell? ⟨gb153, 2, none⟩ = some (.int .i64 a2_2) := (blk_cell BK153.out 2).trans rfl; have hfz24_0 := blk_frozen BK153.out 0; have hfz24_1 := blk_frozen BK153.out 1; have hfz24_2 := blk_frozen BK153.out 2; have hcz25_0 : w20.cell? ⟨gb154, 0, none⟩ = some (.int .i64 a3_0) := (blk_cell BK154.out 0).trans rfl; have hcz25_1 : w20.cell? ⟨gb154, 1, none⟩ = some (.int .i64 a3_1) := (blk_cell BK154.out 1).trans rfl; have hcz25_2 : w20.cell? ⟨gb154, 2, none⟩ = some (.int .i64 a3_2) := (blk_cell BK154.out 2).trans rfl; have hfz25_0 := blk_frozen BK154.out 0; have hfz25_1 := blk_frozen BK154.out 1; have hfz25_2 := blk_frozen BK154.out 2) | ((with_reducible refine gate_callee (f := 41) rfl ?_); refine goesL_ (some 20) rfl rfl Try.func41 (by kernel_rfl) rfl #[.agg #[.int .i64 a2_0, .int .i64 a2_1, .int .i64 a2_2], .agg #[.int .i64 a3_0, .int .i64 a3_1, .int .i64 a3_2]] rfl (by (try simp only [List.map_toArray, List.map_cons, List.map_nil]); first | done | rfl | (simp only [List.length_drop, List.length_take]; rfl)) ?_; (with_reducible refine (geom_rising.calls a2_0 a2_1 a2_2 a3_0 a3_1 a3_2 t161 t162 t163 t164 t165 t166 _ A6.out).mono ?_); rintro e w26 ⟨rfl, hb⟩; refine ⟨_, rfl, ?_⟩; have n0_ := Aside0.mk (blk_below (g := gb151) (o := .cells #[.int .i64 t155, .int .i64 t156, .int .i64 t157] 23 (0, 0)) (by (with_reducible repeat (first | refine blk_drewN ?_ _ | refine blk_drew ?_ | refine blk_alloc ?_ _)); refine blk_far ?_ NB151_152.out _; (with_reducible repeat (first | refine blk_drewN ?_ _ | refine blk_drew ?_ | refine blk_alloc ?_ _)); refine blk_far ?_ NB151_152.out _; (with_reducible repeat (first | refine blk_drewN ?_ _ | refine blk_drew ?_ | refine blk_alloc ?_ _)); refine blk_far ?_ NB151_152.out _; (with_reducible repeat (first | refine blk_drewN ?_ _ | refine blk_drew ?_ | refine blk_alloc ?_ _)); refine blk_put (cs := #[.int .i64 t155, .int .i64 t156, .int .i64 a0_2]) ?_ 2 _ rfl; (with_reducible repeat (first | refine blk_drewN ?_ _ | refine blk_drew ?_ | refine blk_alloc ?_ _)); refine blk_put (cs := #[.int .i64 t155, .int .i64 a0_1, .int .i64 a0_2]) ?_ 1 _ rfl; (with_reducible repeat (first | refine blk_drewN ?_ _ | refine blk_drew ?_ | refine blk_alloc ?_ _)); refine blk_put (cs := #[.int .i64 a0_0, .int .i64 a0_1, .int .i64 a0_2]) ?_ 0 _ rfl; (with_reducible repeat (first | refine blk_drewN ?_ _ | refine blk_drew ?_ | refine blk_alloc ?_ _)); exact BK151.out) hb); have n1_ := Aside0.mk (blk_below (g := gb152) (o := .cells #[.int .i64 t158, .int .i64 t159, .int .i64 t160] 23 (0, 0)) (by (with_reducible repeat (first | refine blk_drewN ?_ _ | refine blk_drew ?_ | refine blk_alloc ?_ _)); refine blk_put (cs := #[.int .i64 t158, .int .i64 t159, .int .i64 a1_2]) ?_ 2 _ rfl; (with_reducible repeat (first | refine blk_drewN ?_ _ | refine blk_drew ?_ | refine blk_alloc ?_ _)); refine blk_put (cs := #[.int .i64 t158, .int .i64 a1_1, .int .i64 a1_2]) ?_ 1 _ rfl; (with_reducible repeat (first | refine blk_drewN ?_ _ | refine blk_drew ?_ | refine blk_alloc ?_ _)); refine blk_put (cs := #[.int .i64 a1_0, .int .i64 a1_1, .int .i64 a1_2]) ?_ 0 _ rfl; (with_reducible repeat (first | refine blk_drewN ?_ _ | refine blk_drew ?_ | refine blk_alloc ?_ _)); refine blk_far ?_ NB152_151.out _; (with_reducible repeat (first | refine blk_drewN ?_ _ | refine blk_drew ?_ | refine blk_alloc ?_ _)); refine blk_far ?_ NB152_151.out _; (with_reducible repeat (first | refine blk_drewN ?_ _ | refine blk_drew ?_ | refine blk_alloc ?_ _)); refine blk_far ?_ NB152_151.out _; (with_reducible repeat (first | refine blk_drewN ?_ _ | refine blk_drew ?_ | refine blk_alloc ?_ _)); exact BK152.out) hb); have n2_ := Aside0.mk (blk_below (g := gb153) (o := .cells #[.int .i64 a2_0, .int .i64 a2_1, .int .i64 a2_2] 23 (0, 0)) (bK BK153) hb); have n3_ := Aside0.mk (blk_below (g := gb154) (o := .cells #[.int .i64 a3_0, .int .i64 a3_1, .int .i64 a3_2] 23 (0, 0)) (bK BK154) hb); have n4_ := Aside0.mk (below_step (bH HB) hb); clear BK151; clear BK152; clear BK153; clear BK154; clear HB; have BK151 := n0_; have BK152 := n1_; have BK153 := n2_; have BK154 := n3_; have HB := n4_; clear n0_ n1_ n2_ n3_ n4_; (try clear hb); (try clear hb2); (try clear hk); (try clear hi); have hcz27_0 : w26.cell? ⟨gb153, 0, none⟩ = some (.int .i64 a2_0) := (blk_cell BK153.out 0).trans rfl; have hcz27_1 : w26.cell? ⟨gb153, 1, none⟩ = some (.int .i64 a2_1) := (blk_cell BK153.out 1).trans rfl; have hcz27_2 : w26.cell? ⟨gb153, 2, none⟩ = some (.int .i64 a2_2) := (blk_cell BK153.out 2).trans rfl; have hfz27_0 := blk_frozen BK153.out 0; have hfz27_1 := blk_frozen BK153.out 1; have hfz27_2 := blk_frozen BK153.out 2; have hcz28_0 : w26.cell? ⟨gb154, 0, none⟩ = some (.int .i64 a3_0) := (blk_cell BK154.out 0).trans rfl; have hcz28_1 : w26.cell? ⟨gb154, 1, none⟩ = some (.int .i64 a3_1) := (blk_cell BK154.out 1).trans rfl; have hcz28_2 : w26.cell? ⟨gb154, 2, none⟩ = some (.int .i64 a3_2) := (blk_cell BK154.out 2).trans rfl; have hfz28_0 := blk_frozen BK154.out 0; have hfz28_1 := blk_frozen BK154.out 1; have hfz28_2 := blk_frozen BK154.out 2))
 have n0_ : Aside0 (((((((w26.setCell ⟨gb153, 0, none⟩ (.int .i64 t161)).setCell ⟨gb153, 1, none⟩ (.int .i64 t162)).setCell ⟨gb153, 2, none⟩ (.int .i64 t163)).setCell ⟨gb154, 0, none⟩ (.int .i64 t164)).setCell ⟨gb154, 1, none⟩ (.int .i64 t165)).setCell ⟨gb154, 2, none⟩ (.int .i64 t166)).heap[gb151]? = some (.cells #[.int .i64 t155, .int .i64 t156, .int .i64 t157] 23 (0, 0))) := ⟨bK BK151⟩
 have n1_ : Aside0 (((((((w26.setCell ⟨gb153, 0, none⟩ (.int .i64 t161)).setCell ⟨gb153, 1, none⟩ (.int .i64 t162)).setCell ⟨gb153, 2, none⟩ (.int .i64 t163)).setCell ⟨gb154, 0, none⟩ (.int .i64 t164)).setCell ⟨gb154, 1, none⟩ (.int .i64 t165)).setCell ⟨gb154, 2, none⟩ (.int .i64 t166)).heap[gb152]? = some (.cells #[.int .i64 t158, .int .i64 t159, .int .i64 t160] 23 (0, 0))) := ⟨bK BK152⟩
 have n2_ : Aside0 (((((((w26.setCell ⟨gb153, 0, none⟩ (.int .i64 t161)).setCell ⟨gb153, 1, none⟩ (.int .i64 t162)).setCell ⟨gb153, 2, none⟩ (.int .i64 t163)).setCell ⟨gb154, 0, none⟩ (.int .i64 t164)).setCell ⟨gb154, 1, none⟩ (.int .i64 t165)).setCell ⟨gb154, 2, none⟩ (.int .i64 t166)).heap[gb153]? = some (.cells #[.int .i64 t161, .int .i64 t162, .int .i64 t163] 23 (0, 0))) := ⟨by (with_reducible repeat (first | refine blk_drewN ?_ _ | refine blk_drew ?_ | refine blk_alloc ?_ _)); refine blk_far ?_ NB153_154.out _; (with_reducible repeat (first | refine blk_drewN ?_ _ | refine blk_drew ?_ | refine blk_alloc ?_ _)); refine blk_far ?_ NB153_154.out _; (with_reducible repeat (first | refine blk_drewN ?_ _ | refine blk_drew ?_ | refine blk_alloc ?_ _)); refine blk_far ?_ NB153_154.out _; (with_reducible repeat (first | refine blk_drewN ?_ _ | refine blk_drew ?_ | refine blk_alloc ?_ _)); refine blk_put (cs := #[.int .i64 t161, .int .i64 t162, .int .i64 a2_2]) ?_ 2 _ rfl; (with_reducible repeat (first | refine blk_drewN ?_ _ | refine blk_drew ?_ | refine blk_alloc ?_ _)); refine blk_put (cs := #[.int .i64 t161, .int .i64 a2_1, .int .i64 a2_2]) ?_ 1 _ rfl; (with_reducible repeat (first | refine blk_drewN ?_ _ | refine blk_drew ?_ | refine blk_alloc ?_ _)); refine blk_put (cs := #[.int .i64 a2_0, .int .i64 a2_1, .int .i64 a2_2]) ?_ 0 _ rfl; (with_reducible repeat (first | refine blk_drewN ?_ _ | refine blk_drew ?_ | refine blk_alloc ?_ _)); exact BK153.out⟩
 have n3_ : Aside0 (((((((w26.setCell ⟨gb153, 0, none⟩ (.int .i64 t161)).setCell ⟨gb153, 1, none⟩ (.int .i64 t162)).setCell ⟨gb153, 2, none⟩ (.int .i64 t163)).setCell ⟨gb154, 0, none⟩ (.int .i64 t164)).setCell ⟨gb154, 1, none⟩ (.int .i64 t165)).setCell ⟨gb154, 2, none⟩ (.int .i64 t166)).heap[gb154]? = some (.cells #[.int .i64 t164, .int .i64 t165, .int .i64 t166] 23 (0, 0))) := ⟨by (with_reducible repeat (first | refine blk_drewN ?_ _ | refine blk_drew ?_ | refine blk_alloc ?_ _)); refine blk_put (cs := #[.int .i64 t164, .int .i64 t165, .int .i64 a3_2]) ?_ 2 _ rfl; (with_reducible repeat (first | refine blk_drewN ?_ _ | refine blk_drew ?_ | refine blk_alloc ?_ _)); refine blk_put (cs := #[.int .i64 t164, .int .i64 a3_1, .int .i64 a3_2]) ?_ 1 _ rfl; (with_reducible repeat (first | refine blk_drewN ?_ _ | refine blk_drew ?_ | refine blk_alloc ?_ _)); refine blk_put (cs := #[.int .i64 a3_0, .int .i64 a3_1, .int .i64 a3_2]) ?_ 0 _ rfl; (with_reducible repeat (first | refine blk_drewN ?_ _ | refine blk_drew ?_ | refine blk_alloc ?_ _)); refine blk_far ?_ NB154_153.out _; (with_reducible repeat (first | refine blk_drewN ?_ _ | refine blk_drew ?_ | refine blk_alloc ?_ _)); refine blk_far ?_ NB154_153.out _; (with_reducible repeat (first | refine blk_drewN ?_ _ | refine blk_drew ?_ | refine blk_alloc ?_ _)); refine blk_far ?_ NB154_153.out _; (with_reducible repeat (first | refine blk_drewN ?_ _ | refine blk_drew ?_ | refine blk_alloc ?_ _)); exact BK154.out⟩
 have n4_ : Aside0 (Below w.heap.size w ((((((w26.setCell ⟨gb153, 0, none⟩ (.int .i64 t161)).setCell ⟨gb153, 1, none⟩ (.int .i64 t162)).setCell ⟨gb153, 2, none⟩ (.int .i64 t163)).setCell ⟨gb154, 0, none⟩ (.int .i64 t164)).setCell ⟨gb154, 1, none⟩ (.int .i64 t165)).setCell ⟨gb154, 2, none⟩ (.int .i64 t166))) := ⟨ bH HB⟩
 (try clear BK151)
 (try clear BK152)
 (try clear BK153)
 (try clear BK154)
 (try clear HB)
 generalize ((((((w26.setCell ⟨gb153, 0, none⟩ (.int .i64 t161)).setCell ⟨gb153, 1, none⟩ (.int .i64 t162)).setCell ⟨gb153, 2, none⟩ (.int .i64 t163)).setCell ⟨gb154, 0, none⟩ (.int .i64 t164)).setCell ⟨gb154, 1, none⟩ (.int .i64 t165)).setCell ⟨gb154, 2, none⟩ (.int .i64 t166)) = w29 at n0_ n1_ n2_ n3_ n4_ ⊢
 have BK151 := n0_
 have BK152 := n1_
 have BK153 := n2_
 have BK154 := n3_
 have HB := n4_
 clear n0_ n1_ n2_ n3_ n4_
 have n0_ := Aside0.mk (blk_drew BK151.out)
 have n1_ := Aside0.mk (blk_drew BK152.out)
 have n2_ := Aside0.mk (blk_drew BK153.out)
 have n3_ := Aside0.mk (blk_drew BK154.out)
 have n4_ := Aside0.mk (below_drew1 HB.out)
 clear BK151
 clear BK152
 clear BK153
 clear BK154
 clear HB
 have BK151 := n0_
 have BK152 := n1_
 have BK153 := n2_
 have BK154 := n3_
 have HB := n4_
 clear n0_ n1_ n2_ n3_ n4_
 refine start_ (n := 6) (S := fun w' => w'.cell? ⟨gb151, 0, none⟩ = some (.int .i64 t155) ∧ w'.cell? ⟨gb151, 1, none⟩ = some (.int .i64 t156) ∧ w'.cell? ⟨gb151, 2, none⟩ = some (.int .i64 t157) ∧ w'.cell? ⟨gb152, 0, none⟩ = some (.int .i64 t158) ∧ w'.cell? ⟨gb152, 1, none⟩ = some (.int .i64 t159) ∧ w'.cell? ⟨gb152, 2, none⟩ = some (.int .i64 t160)) (ds := []) #[false, false, false, false, false, false] (by kernel_rfl) rfl rfl ⟨(blk_cell BK151.out 0).trans rfl, (blk_cell BK151.out 1).trans rfl, (blk_cell BK151.out 2).trans rfl, (blk_cell BK152.out 0).trans rfl, (blk_cell BK152.out 1).trans rfl, (blk_cell BK152.out 2).trans rfl⟩ (fun hHeld => ?_)
 generalize w29.drew = w30 at BK151 BK152 BK153 BK154 HB hHeld ⊢
 refine take_ (i := 0) (N := some 23) (v := ?_) (a' := ?_) #[true, false, false, false, false, false] rfl rfl (by kernel_rfl) (fun _ _ _ h => h) (Or.inl ⟨by rfl, ?_⟩) hHeld ?_ ?_
 rotate_left
 ·rintro w' ⟨s0, s1, s2, s3, s4, s5⟩
  go_simp
  with_reducible rfl
 rotate_left
 ·simp only [Act.put, List.setIfInBounds_toArray, List.set_cons_zero, List.set_cons_succ, i64_w, i32_w]
  rfl
 refine take_ (i := 1) (N := some 24) (v := ?_) (a' := ?_) #[true, true, false, false, false, false] rfl rfl (by kernel_rfl) (fun _ _ _ h => h) (Or.inl ⟨by rfl, ?_⟩) hHeld ?_ ?_
 rotate_left
 ·rintro w' ⟨s0, s1, s2, s3, s4, s5⟩
  go_simp
  with_reducible rfl
 rotate_left
 ·simp only [Act.put, List.setIfInBounds_toArray, List.set_cons_zero, List.set_cons_succ, i64_w, i32_w]
  rfl
 refine join_ (σ := Nat × Nat) 2 #[true, true, true, true, false, false] (fun s_ => [(9, .pointer (some ⟨s_.1, 0, none⟩)), (10, .pointer (some ⟨s_.2, 0, none⟩))]) (fun s_ w' => (w'.cell? ⟨gb151, 0, none⟩ = some (.int .i64 t155) ∧ w'.cell? ⟨gb151, 1, none⟩ = some (.int .i64 t156) ∧ w'.cell? ⟨gb151, 2, none⟩ = some (.int .i64 t157) ∧ w'.cell? ⟨gb152, 0, none⟩ = some (.int .i64 t158) ∧ w'.cell? ⟨gb152, 1, none⟩ = some (.int .i64 t159) ∧ w'.cell? ⟨gb152, 2, none⟩ = some (.int .i64 t160)) ∧ (w'.heap[gb151]? = some (.cells #[.int .i64 t155, .int .i64 t156, .int .i64 t157] 23 (0, 0))) ∧ (w'.heap[gb152]? = some (.cells #[.int .i64 t158, .int .i64 t159, .int .i64 t160] 23 (0, 0))) ∧ (w'.heap[gb153]? = some (.cells #[.int .i64 t161, .int .i64 t162, .int .i64 t163] 23 (0, 0))) ∧ (w'.heap[gb154]? = some (.cells #[.int .i64 t164, .int .i64 t165, .int .i64 t166] 23 (0, 0))) ∧ (w'.heap[s_.1]? = some (.cells #[.int .i64 0, .int .i64 0, .int .i64 0] 23 (0, 0))) ∧ (w'.heap[s_.2]? = some (.cells #[.int .i64 0, .int .i64 0, .int .i64 0] 23 (0, 0))) ∧ (w.heap.size ≤ s_.1) ∧ (w.heap.size ≤ s_.1) ∧ (gb151 ≠ s_.1) ∧ (s_.1 ≠ gb151) ∧ (gb152 ≠ s_.1) ∧ (s_.1 ≠ gb152) ∧ (gb153 ≠ s_.1) ∧ (s_.1 ≠ gb153) ∧ (gb154 ≠ s_.1) ∧ (s_.1 ≠ gb154) ∧ (s_.2 ≠ s_.1) ∧ (s_.1 ≠ s_.2) ∧ (w.heap.size ≤ s_.2) ∧ (w.heap.size ≤ s_.2) ∧ (gb151 ≠ s_.2) ∧ (s_.2 ≠ gb151) ∧ (gb152 ≠ s_.2) ∧ (s_.2 ≠ gb152) ∧ (gb153 ≠ s_.2) ∧ (s_.2 ≠ gb153) ∧ (gb154 ≠ s_.2) ∧ (s_.2 ≠ gb154) ∧ (Below w.heap.size w w')) ?_ ?_
 rotate_left
 ·intro hCont
  refine two_ (i := 2) (j := 3) (Ni := some 9) (Nj := some 10) #[true, true, true, false, false, false] #[true, true, false, true, false, false] rfl rfl rfl rfl (by kernel_rfl) (by decide) (by decide) (fun K hK => ?_) (fun K hK => ?_)
  ·skip
   refine box_step ?hg (N := 9) ?hd (cs := #[.int .i64 0, .int .i64 0, .int .i64 0]) (t := 23) ?hr ?_; (case hd => rfl); (case hg => rfl); (case hr => first | (go_simp; done) | (go_simp; rfl))
   intro gb167 hg w31 hbox hb
   have n0_ := Aside0.mk (blk_below (g := gb151) (o := .cells #[.int .i64 t155, .int .i64 t156, .int .i64 t157] 23 (0, 0)) (bK BK151) hb)
   have n1_ := Aside0.mk (blk_below (g := gb152) (o := .cells #[.int .i64 t158, .int .i64 t159, .int .i64 t160] 23 (0, 0)) (bK BK152) hb)
   have n2_ := Aside0.mk (blk_below (g := gb153) (o := .cells #[.int .i64 t161, .int .i64 t162, .int .i64 t163] 23 (0, 0)) (bK BK153) hb)
   have n3_ := Aside0.mk (blk_below (g := gb154) (o := .cells #[.int .i64 t164, .int .i64 t165, .int .i64 t166] 23 (0, 0)) (bK BK154) hb)
   have n4_ := Aside0.mk (below_step (bH HB) hb)
   have n5_ := Aside0.mk (hbox)
   have n6_ := Aside0.mk ((by rw [hg]; exact (below_size (bH HB)) : w.heap.size ≤ gb167))
   have n7_ := Aside0.mk ((by rw [hg]; exact (below_size (bH HB)) : w.heap.size ≤ gb167))
   have n8_ := Aside0.mk ((by rw [hg]; exact Nat.ne_of_lt (blk_lt (bK BK151)) : gb151 ≠ gb167))
   have n9_ := Aside0.mk ((by rw [hg]; exact Nat.ne_of_gt (blk_lt (bK BK151)) : gb167 ≠ gb151))
   have n10_ := Aside0.mk ((by rw [hg]; exact Nat.ne_of_lt (blk_lt (bK BK152)) : gb152 ≠ gb167))
   have n11_ := Aside0.mk ((by rw [hg]; exact Nat.ne_of_gt (blk_lt (bK BK152)) : gb167 ≠ gb152))
   have n12_ := Aside0.mk ((by rw [hg]; exact Nat.ne_of_lt (blk_lt (bK BK153)) : gb153 ≠ gb167))
   have n13_ := Aside0.mk ((by rw [hg]; exact Nat.ne_of_gt (blk_lt (bK BK153)) : gb167 ≠ gb153))
   have n14_ := Aside0.mk ((by rw [hg]; exact Nat.ne_of_lt (blk_lt (bK BK154)) : gb154 ≠ gb167))
   have n15_ := Aside0.mk ((by rw [hg]; exact Nat.ne_of_gt (blk_lt (bK BK154)) : gb167 ≠ gb154))
   clear BK151
   clear BK152
   clear BK153
   clear BK154
   clear HB
   have BK151 := n0_
   have BK152 := n1_
   have BK153 := n2_
   have BK154 := n3_
   have HB := n4_
   have BK167 := n5_
   have GW167 := n6_
   have GE167 := n7_
   have NB151_167 := n8_
   have NB167_151 := n9_
   have NB152_167 := n10_
   have NB167_152 := n11_
   have NB153_167 := n12_
   have NB167_153 := n13_
   have NB154_167 := n14_
   have NB167_154 := n15_
   clear n0_ n1_ n2_ n3_ n4_ n5_ n6_ n7_ n8_ n9_ n10_ n11_ n12_ n13_ n14_ n15_
   clear hb hbox hg
   refine hK.out _ _ ⟨(blk_cell BK151.out 0).trans rfl, (blk_cell BK151.out 1).trans rfl, (blk_cell BK151.out 2).trans rfl, (blk_cell BK152.out 0).trans rfl, (blk_cell BK152.out 1).trans rfl, (blk_cell BK152.out 2).trans rfl⟩ (fun hHeld => ?_)
   clear hK K
   refine norm_ (a' := ?_) ?_ ?_
   rotate_left
   ·show Act.put _ (some 9) _ = _
    simp only [Act.put, List.setIfInBounds_toArray, List.set_cons_zero, List.set_cons_succ, i64_w, i32_w]
    rfl
   refine one_ (i := 3) (N := some 10) #[true, true, true, true, false, false] rfl rfl (by kernel_rfl) (by decide) (fun K hK => ?_)
   refine box_step ?hg (N := 10) ?hd (cs := #[.int .i64 0, .int .i64 0, .int .i64 0]) (t := 23) ?hr ?_; (case hd => rfl); (case hg => rfl); (case hr => first | (go_simp; done) | (go_simp; rfl))
   intro gb168 hg w32 hbox hb
   have n0_ := Aside0.mk (blk_below (g := gb151) (o := .cells #[.int .i64 t155, .int .i64 t156, .int .i64 t157] 23 (0, 0)) (bK BK151) hb)
   have n1_ := Aside0.mk (blk_below (g := gb152) (o := .cells #[.int .i64 t158, .int .i64 t159, .int .i64 t160] 23 (0, 0)) (bK BK152) hb)
   have n2_ := Aside0.mk (blk_below (g := gb153) (o := .cells #[.int .i64 t161, .int .i64 t162, .int .i64 t163] 23 (0, 0)) (bK BK153) hb)
   have n3_ := Aside0.mk (blk_below (g := gb154) (o := .cells #[.int .i64 t164, .int .i64 t165, .int .i64 t166] 23 (0, 0)) (bK BK154) hb)
   have n4_ := Aside0.mk (blk_below (g := gb167) (o := .cells #[.int .i64 0, .int .i64 0, .int .i64 0] 23 (0, 0)) (bK BK167) hb)
   have n5_ := Aside0.mk (below_step (bH HB) hb)
   have n6_ := Aside0.mk (hbox)
   have n7_ := Aside0.mk ((by rw [hg]; exact (below_size (bH HB)) : w.heap.size ≤ gb168))
   have n8_ := Aside0.mk ((by rw [hg]; exact (below_size (bH HB)) : w.heap.size ≤ gb168))
   have n9_ := Aside0.mk ((by rw [hg]; exact Nat.ne_of_lt (blk_lt (bK BK151)) : gb151 ≠ gb168))
   have n10_ := Aside0.mk ((by rw [hg]; exact Nat.ne_of_gt (blk_lt (bK BK151)) : gb168 ≠ gb151))
   have n11_ := Aside0.mk ((by rw [hg]; exact Nat.ne_of_lt (blk_lt (bK BK152)) : gb152 ≠ gb168))
   have n12_ := Aside0.mk ((by rw [hg]; exact Nat.ne_of_gt (blk_lt (bK BK152)) : gb168 ≠ gb152))
   have n13_ := Aside0.mk ((by rw [hg]; exact Nat.ne_of_lt (blk_lt (bK BK153)) : gb153 ≠ gb168))
   have n14_ := Aside0.mk ((by rw [hg]; exact Nat.ne_of_gt (blk_lt (bK BK153)) : gb168 ≠ gb153))
   have n15_ := Aside0.mk ((by rw [hg]; exact Nat.ne_of_lt (blk_lt (bK BK154)) : gb154 ≠ gb168))
   have n16_ := Aside0.mk ((by rw [hg]; exact Nat.ne_of_gt (blk_lt (bK BK154)) : gb168 ≠ gb154))
   have n17_ := Aside0.mk ((by rw [hg]; exact Nat.ne_of_lt (blk_lt (bK BK167)) : gb167 ≠ gb168))
   have n18_ := Aside0.mk ((by rw [hg]; exact Nat.ne_of_gt (blk_lt (bK BK167)) : gb168 ≠ gb167))
   clear BK151
   clear BK152
   clear BK153
   clear BK154
   clear BK167
   clear HB
   have BK151 := n0_
   have BK152 := n1_
   have BK153 := n2_
   have BK154 := n3_
   have BK167 := n4_
   have HB := n5_
   have BK168 := n6_
   have GW168 := n7_
   have GE168 := n8_
   have NB151_168 := n9_
   have NB168_151 := n10_
   have NB152_168 := n11_
   have NB168_152 := n12_
   have NB153_168 := n13_
   have NB168_153 := n14_
   have NB154_168 := n15_
   have NB168_154 := n16_
   have NB167_168 := n17_
   have NB168_167 := n18_
   clear n0_ n1_ n2_ n3_ n4_ n5_ n6_ n7_ n8_ n9_ n10_ n11_ n12_ n13_ n14_ n15_ n16_ n17_ n18_
   clear hb hbox hg
   refine hK.out _ _ ⟨(blk_cell BK151.out 0).trans rfl, (blk_cell BK151.out 1).trans rfl, (blk_cell BK151.out 2).trans rfl, (blk_cell BK152.out 0).trans rfl, (blk_cell BK152.out 1).trans rfl, (blk_cell BK152.out 2).trans rfl⟩ (fun hHeld => ?_)
   clear hK K
   refine norm_ (a' := ?_) ?_ ?_
   rotate_left
   ·show Act.put _ (some 10) _ = _
    simp only [Act.put, List.setIfInBounds_toArray, List.set_cons_zero, List.set_cons_succ, i64_w, i32_w]
    rfl
   exact norm_ (by simp only [putAll, Act.put, List.setIfInBounds_toArray, List.set_cons_zero, List.set_cons_succ]) (hCont (gb167, gb168) _ ⟨hHeld, (bK BK151), (bK BK152), (bK BK153), (bK BK154), (bK BK167), (bK BK168), GW167.out, GE167.out, NB151_167.out, NB167_151.out, NB152_167.out, NB167_152.out, NB153_167.out, NB167_153.out, NB154_167.out, NB167_154.out, NB168_167.out, NB167_168.out, GW168.out, GE168.out, NB151_168.out, NB168_151.out, NB152_168.out, NB168_152.out, NB153_168.out, NB168_153.out, NB154_168.out, NB168_154.out, (bH HB)⟩)
  ·skip
   refine box_step ?hg (N := 10) ?hd (cs := #[.int .i64 0, .int .i64 0, .int .i64 0]) (t := 23) ?hr ?_; (case hd => rfl); (case hg => rfl); (case hr => first | (go_simp; done) | (go_simp; rfl))
   intro gb168 hg w31 hbox hb
   have n0_ := Aside0.mk (blk_below (g := gb151) (o := .cells #[.int .i64 t155, .int .i64 t156, .int .i64 t157] 23 (0, 0)) (bK BK151) hb)
   have n1_ := Aside0.mk (blk_below (g := gb152) (o := .cells #[.int .i64 t158, .int .i64 t159, .int .i64 t160] 23 (0, 0)) (bK BK152) hb)
   have n2_ := Aside0.mk (blk_below (g := gb153) (o := .cells #[.int .i64 t161, .int .i64 t162, .int .i64 t163] 23 (0, 0)) (bK BK153) hb)
   have n3_ := Aside0.mk (blk_below (g := gb154) (o := .cells #[.int .i64 t164, .int .i64 t165, .int .i64 t166] 23 (0, 0)) (bK BK154) hb)
   have n4_ := Aside0.mk (below_step (bH HB) hb)
   have n5_ := Aside0.mk (hbox)
   have n6_ := Aside0.mk ((by rw [hg]; exact (below_size (bH HB)) : w.heap.size ≤ gb168))
   have n7_ := Aside0.mk ((by rw [hg]; exact (below_size (bH HB)) : w.heap.size ≤ gb168))
   have n8_ := Aside0.mk ((by rw [hg]; exact Nat.ne_of_lt (blk_lt (bK BK151)) : gb151 ≠ gb168))
   have n9_ := Aside0.mk ((by rw [hg]; exact Nat.ne_of_gt (blk_lt (bK BK151)) : gb168 ≠ gb151))
   have n10_ := Aside0.mk ((by rw [hg]; exact Nat.ne_of_lt (blk_lt (bK BK152)) : gb152 ≠ gb168))
   have n11_ := Aside0.mk ((by rw [hg]; exact Nat.ne_of_gt (blk_lt (bK BK152)) : gb168 ≠ gb152))
   have n12_ := Aside0.mk ((by rw [hg]; exact Nat.ne_of_lt (blk_lt (bK BK153)) : gb153 ≠ gb168))
   have n13_ := Aside0.mk ((by rw [hg]; exact Nat.ne_of_gt (blk_lt (bK BK153)) : gb168 ≠ gb153))
   have n14_ := Aside0.mk ((by rw [hg]; exact Nat.ne_of_lt (blk_lt (bK BK154)) : gb154 ≠ gb168))
   have n15_ := Aside0.mk ((by rw [hg]; exact Nat.ne_of_gt (blk_lt (bK BK154)) : gb168 ≠ gb154))
   clear BK151
   clear BK152
   clear BK153
   clear BK154
   clear HB
   have BK151 := n0_
   have BK152 := n1_
   have BK153 := n2_
   have BK154 := n3_
   have HB := n4_
   have BK168 := n5_
   have GW168 := n6_
   have GE168 := n7_
   have NB151_168 := n8_
   have NB168_151 := n9_
   have NB152_168 := n10_
   have NB168_152 := n11_
   have NB153_168 := n12_
   have NB168_153 := n13_
   have NB154_168 := n14_
   have NB168_154 := n15_
   clear n0_ n1_ n2_ n3_ n4_ n5_ n6_ n7_ n8_ n9_ n10_ n11_ n12_ n13_ n14_ n15_
   clear hb hbox hg
   refine hK.out _ _ ⟨(blk_cell BK151.out 0).trans rfl, (blk_cell BK151.out 1).trans rfl, (blk_cell BK151.out 2).trans rfl, (blk_cell BK152.out 0).trans rfl, (blk_cell BK152.out 1).trans rfl, (blk_cell BK152.out 2).trans rfl⟩ (fun hHeld => ?_)
   clear hK K
   refine norm_ (a' := ?_) ?_ ?_
   rotate_left
   ·show Act.put _ (some 10) _ = _
    simp only [Act.put, List.setIfInBounds_toArray, List.set_cons_zero, List.set_cons_succ, i64_w, i32_w]
    rfl
   refine one_ (i := 2) (N := some 9) #[true, true, true, true, false, false] rfl rfl (by kernel_rfl) (by decide) (fun K hK => ?_)
   refine box_step ?hg (N := 9) ?hd (cs := #[.int .i64 0, .int .i64 0, .int .i64 0]) (t := 23) ?hr ?_; (case hd => rfl); (case hg => rfl); (case hr => first | (go_simp; done) | (go_simp; rfl))
   intro gb167 hg w32 hbox hb
   have n0_ := Aside0.mk (blk_below (g := gb151) (o := .cells #[.int .i64 t155, .int .i64 t156, .int .i64 t157] 23 (0, 0)) (bK BK151) hb)
   have n1_ := Aside0.mk (blk_below (g := gb152) (o := .cells #[.int .i64 t158, .int .i64 t159, .int .i64 t160] 23 (0, 0)) (bK BK152) hb)
   have n2_ := Aside0.mk (blk_below (g := gb153) (o := .cells #[.int .i64 t161, .int .i64 t162, .int .i64 t163] 23 (0, 0)) (bK BK153) hb)
   have n3_ := Aside0.mk (blk_below (g := gb154) (o := .cells #[.int .i64 t164, .int .i64 t165, .int .i64 t166] 23 (0, 0)) (bK BK154) hb)
   have n4_ := Aside0.mk (blk_below (g := gb168) (o := .cells #[.int .i64 0, .int .i64 0, .int .i64 0] 23 (0, 0)) (bK BK168) hb)
   have n5_ := Aside0.mk (below_step (bH HB) hb)
   have n6_ := Aside0.mk (hbox)
   have n7_ := Aside0.mk ((by rw [hg]; exact (below_size (bH HB)) : w.heap.size ≤ gb167))
   have n8_ := Aside0.mk ((by rw [hg]; exact (below_size (bH HB)) : w.heap.size ≤ gb167))
   have n9_ := Aside0.mk ((by rw [hg]; exact Nat.ne_of_lt (blk_lt (bK BK151)) : gb151 ≠ gb167))
   have n10_ := Aside0.mk ((by rw [hg]; exact Nat.ne_of_gt (blk_lt (bK BK151)) : gb167 ≠ gb151))
   have n11_ := Aside0.mk ((by rw [hg]; exact Nat.ne_of_lt (blk_lt (bK BK152)) : gb152 ≠ gb167))
   have n12_ := Aside0.mk ((by rw [hg]; exact Nat.ne_of_gt (blk_lt (bK BK152)) : gb167 ≠ gb152))
   have n13_ := Aside0.mk ((by rw [hg]; exact Nat.ne_of_lt (blk_lt (bK BK153)) : gb153 ≠ gb167))
   have n14_ := Aside0.mk ((by rw [hg]; exact Nat.ne_of_gt (blk_lt (bK BK153)) : gb167 ≠ gb153))
   have n15_ := Aside0.mk ((by rw [hg]; exact Nat.ne_of_lt (blk_lt (bK BK154)) : gb154 ≠ gb167))
   have n16_ := Aside0.mk ((by rw [hg]; exact Nat.ne_of_gt (blk_lt (bK BK154)) : gb167 ≠ gb154))
   have n17_ := Aside0.mk ((by rw [hg]; exact Nat.ne_of_lt (blk_lt (bK BK168)) : gb168 ≠ gb167))
   have n18_ := Aside0.mk ((by rw [hg]; exact Nat.ne_of_gt (blk_lt (bK BK168)) : gb167 ≠ gb168))
   clear BK151
   clear BK152
   clear BK153
   clear BK154
   clear BK168
   clear HB
   have BK151 := n0_
   have BK152 := n1_
   have BK153 := n2_
   have BK154 := n3_
   have BK168 := n4_
   have HB := n5_
   have BK167 := n6_
   have GW167 := n7_
   have GE167 := n8_
   have NB151_167 := n9_
   have NB167_151 := n10_
   have NB152_167 := n11_
   have NB167_152 := n12_
   have NB153_167 := n13_
   have NB167_153 := n14_
   have NB154_167 := n15_
   have NB167_154 := n16_
   have NB168_167 := n17_
   have NB167_168 := n18_
   clear n0_ n1_ n2_ n3_ n4_ n5_ n6_ n7_ n8_ n9_ n10_ n11_ n12_ n13_ n14_ n15_ n16_ n17_ n18_
   clear hb hbox hg
   refine hK.out _ _ ⟨(blk_cell BK151.out 0).trans rfl, (blk_cell BK151.out 1).trans rfl, (blk_cell BK151.out 2).trans rfl, (blk_cell BK152.out 0).trans rfl, (blk_cell BK152.out 1).trans rfl, (blk_cell BK152.out 2).trans rfl⟩ (fun hHeld => ?_)
   clear hK K
   refine norm_ (a' := ?_) ?_ ?_
   rotate_left
   ·show Act.put _ (some 9) _ = _
    simp only [Act.put, List.setIfInBounds_toArray, List.set_cons_zero, List.set_cons_succ, i64_w, i32_w]
    rfl
   exact norm_ (by simp only [putAll, Act.put, List.setIfInBounds_toArray, List.set_cons_zero, List.set_cons_succ]) (hCont (gb167, gb168) _ ⟨hHeld, (bK BK151), (bK BK152), (bK BK153), (bK BK154), (bK BK167), (bK BK168), GW167.out, GE167.out, NB151_167.out, NB167_151.out, NB152_167.out, NB167_152.out, NB153_167.out, NB167_153.out, NB154_167.out, NB167_154.out, NB168_167.out, NB167_168.out, GW168.out, GE168.out, NB151_168.out, NB168_151.out, NB152_168.out, NB168_152.out, NB153_168.out, NB168_153.out, NB154_168.out, NB168_154.out, (bH HB)⟩)
 rintro ⟨gb167, gb168⟩ w33 ⟨hS_, h0_, h1_, h2_, h3_, h4_, h5_, h6_, h7_, h8_, h9_, h10_, h11_, h12_, h13_, h14_, h15_, h16_, h17_, h18_, h19_, h20_, h21_, h22_, h23_, h24_, h25_, h26_, h27_, h28_⟩
 have n0_ : Aside0 (w33.heap[gb151]? = some (.cells #[.int .i64 t155, .int .i64 t156, .int .i64 t157] 23 (0, 0))) := ⟨h0_⟩
 have n1_ : Aside0 (w33.heap[gb152]? = some (.cells #[.int .i64 t158, .int .i64 t159, .int .i64 t160] 23 (0, 0))) := ⟨h1_⟩
 have n2_ : Aside0 (w33.heap[gb153]? = some (.cells #[.int .i64 t161, .int .i64 t162, .int .i64 t163] 23 (0, 0))) := ⟨h2_⟩
 have n3_ : Aside0 (w33.heap[gb154]? = some (.cells #[.int .i64 t164, .int .i64 t165, .int .i64 t166] 23 (0, 0))) := ⟨h3_⟩
 have n4_ : Aside0 (w33.heap[gb167]? = some (.cells #[.int .i64 0, .int .i64 0, .int .i64 0] 23 (0, 0))) := ⟨h4_⟩
 have n5_ : Aside0 (w33.heap[gb168]? = some (.cells #[.int .i64 0, .int .i64 0, .int .i64 0] 23 (0, 0))) := ⟨h5_⟩
 have n6_ : Aside0 (w.heap.size ≤ gb167) := ⟨h6_⟩
 have n7_ : Aside0 (w.heap.size ≤ gb167) := ⟨h7_⟩
 have n8_ : Aside0 (gb151 ≠ gb167) := ⟨h8_⟩
 have n9_ : Aside0 (gb167 ≠ gb151) := ⟨h9_⟩
 have n10_ : Aside0 (gb152 ≠ gb167) := ⟨h10_⟩
 have n11_ : Aside0 (gb167 ≠ gb152) := ⟨h11_⟩
 have n12_ : Aside0 (gb153 ≠ gb167) := ⟨h12_⟩
 have n13_ : Aside0 (gb167 ≠ gb153) := ⟨h13_⟩
 have n14_ : Aside0 (gb154 ≠ gb167) := ⟨h14_⟩
 have n15_ : Aside0 (gb167 ≠ gb154) := ⟨h15_⟩
 have n16_ : Aside0 (gb168 ≠ gb167) := ⟨h16_⟩
 have n17_ : Aside0 (gb167 ≠ gb168) := ⟨h17_⟩
 have n18_ : Aside0 (w.heap.size ≤ gb168) := ⟨h18_⟩
 have n19_ : Aside0 (w.heap.size ≤ gb168) := ⟨h19_⟩
 have n20_ : Aside0 (gb151 ≠ gb168) := ⟨h20_⟩
 have n21_ : Aside0 (gb168 ≠ gb151) := ⟨h21_⟩
 have n22_ : Aside0 (gb152 ≠ gb168) := ⟨h22_⟩
 have n23_ : Aside0 (gb168 ≠ gb152) := ⟨h23_⟩
 have n24_ : Aside0 (gb153 ≠ gb168) := ⟨h24_⟩
 have n25_ : Aside0 (gb168 ≠ gb153) := ⟨h25_⟩
 have n26_ : Aside0 (gb154 ≠ gb168) := ⟨h26_⟩
 have n27_ : Aside0 (gb168 ≠ gb154) := ⟨h27_⟩
 have n28_ : Aside0 (Below w.heap.size w w33) := ⟨h28_⟩
 clear BK151
 clear BK152
 clear BK153
 clear BK154
 clear HB
 clear h0_ h1_ h2_ h3_ h4_ h5_ h6_ h7_ h8_ h9_ h10_ h11_ h12_ h13_ h14_ h15_ h16_ h17_ h18_ h19_ h20_ h21_ h22_ h23_ h24_ h25_ h26_ h27_ h28_
 have BK151 := n0_
 have BK152 := n1_
 have BK153 := n2_
 have BK154 := n3_
 have BK167 := n4_
 have BK168 := n5_
 have GW167 := n6_
 have GE167 := n7_
 have NB151_167 := n8_
 have NB167_151 := n9_
 have NB152_167 := n10_
 have NB167_152 := n11_
 have NB153_167 := n12_
 have NB167_153 := n13_
 have NB154_167 := n14_
 have NB167_154 := n15_
 have NB168_167 := n16_
 have NB167_168 := n17_
 have GW168 := n18_
 have GE168 := n19_
 have NB151_168 := n20_
 have NB168_151 := n21_
 have NB152_168 := n22_
 have NB168_152 := n23_
 have NB153_168 := n24_
 have NB168_153 := n25_
 have NB154_168 := n26_
 have NB168_154 := n27_
 have HB := n28_
 clear n0_ n1_ n2_ n3_ n4_ n5_ n6_ n7_ n8_ n9_ n10_ n11_ n12_ n13_ n14_ n15_ n16_ n17_ n18_ n19_ n20_ n21_ n22_ n23_ n24_ n25_ n26_ n27_ n28_
 have hHeld : w33.cell? ⟨gb151, 0, none⟩ = some (.int .i64 t155) ∧ w33.cell? ⟨gb151, 1, none⟩ = some (.int .i64 t156) ∧ w33.cell? ⟨gb151, 2, none⟩ = some (.int .i64 t157) ∧ w33.cell? ⟨gb152, 0, none⟩ = some (.int .i64 t158) ∧ w33.cell? ⟨gb152, 1, none⟩ = some (.int .i64 t159) ∧ w33.cell? ⟨gb152, 2, none⟩ = some (.int .i64 t160) := hS_
 refine norm_ (a' := ?_) ?_ ?_
 rotate_left
 ·simp only [putAll, Act.put, List.setIfInBounds_toArray, List.set_cons_zero, List.set_cons_succ]
  rfl
 refine one_ (i := 4) (N := none) #[true, true, true, true, true, false] rfl rfl (by kernel_rfl) (by decide) (fun K hK => ?_)
 have hs34 : w33.cell? ⟨gb167, 0, none⟩ = some (.int .i64 0) := (blk_cell BK167.out 0).trans rfl
 have hfs34 := blk_frozen BK167.out 0
 have hns34_0 := NB151_167.out
 have hns34_1 := NB152_167.out
 have hns34_2 := NB153_167.out
 have hns34_3 := NB154_167.out
 have hns34_5 := NB168_167.out
 have hms34_0 := NB167_151.out
 have hms34_1 := NB167_152.out
 have hms34_2 := NB167_153.out
 have hms34_3 := NB167_154.out
 have hms34_5 := NB167_168.out
 have hs35 : w33.cell? ⟨gb167, 1, none⟩ = some (.int .i64 0) := (blk_cell BK167.out 1).trans rfl
 have hfs35 := blk_frozen BK167.out 1
 have hns35_0 := NB151_167.out
 have hns35_1 := NB152_167.out
 have hns35_2 := NB153_167.out
 have hns35_3 := NB154_167.out
 have hns35_5 := NB168_167.out
 have hms35_0 := NB167_151.out
 have hms35_1 := NB167_152.out
 have hms35_2 := NB167_153.out
 have hms35_3 := NB167_154.out
 have hms35_5 := NB167_168.out
 have hs36 : w33.cell? ⟨gb167, 2, none⟩ = some (.int .i64 0) := (blk_cell BK167.out 2).trans rfl
 have hfs36 := blk_frozen BK167.out 2
 have hns36_0 := NB151_167.out
 have hns36_1 := NB152_167.out
 have hns36_2 := NB153_167.out
 have hns36_3 := NB154_167.out
 have hns36_5 := NB168_167.out
 have hms36_0 := NB167_151.out
 have hms36_1 := NB167_152.out
 have hms36_2 := NB167_153.out
 have hms36_3 := NB167_154.out
 have hms36_5 := NB167_168.out
 refine skip_ (w1 := ?_) (by rfl) rfl ?_ ?_
 rotate_left
 ·go_simp
  rfl
 refine hK.out _ _ ⟨((cell_far (p := ⟨gb167, _, none⟩) NB151_167.out _).trans (((cell_far (p := ⟨gb167, _, none⟩) NB151_167.out _).trans (((cell_far (p := ⟨gb167, _, none⟩) NB151_167.out _).trans (hHeld.1)))))), ((cell_far (p := ⟨gb167, _, none⟩) NB151_167.out _).trans (((cell_far (p := ⟨gb167, _, none⟩) NB151_167.out _).trans (((cell_far (p := ⟨gb167, _, none⟩) NB151_167.out _).trans (hHeld.2.1)))))), ((cell_far (p := ⟨gb167, _, none⟩) NB151_167.out _).trans (((cell_far (p := ⟨gb167, _, none⟩) NB151_167.out _).trans (((cell_far (p := ⟨gb167, _, none⟩) NB151_167.out _).trans (hHeld.2.2.1)))))), ((cell_far (p := ⟨gb167, _, none⟩) NB152_167.out _).trans (((cell_far (p := ⟨gb167, _, none⟩) NB152_167.out _).trans (((cell_far (p := ⟨gb167, _, none⟩) NB152_167.out _).trans (hHeld.2.2.2.1)))))), ((cell_far (p := ⟨gb167, _, none⟩) NB152_167.out _).trans (((cell_far (p := ⟨gb167, _, none⟩) NB152_167.out _).trans (((cell_far (p := ⟨gb167, _, none⟩) NB152_167.out _).trans (hHeld.2.2.2.2.1)))))), ((cell_far (p := ⟨gb167, _, none⟩) NB152_167.out _).trans (((cell_far (p := ⟨gb167, _, none⟩) NB152_167.out _).trans (((cell_far (p := ⟨gb167, _, none⟩) NB152_167.out _).trans (hHeld.2.2.2.2.2))))))⟩ (fun hHeld => ?_)
 clear hK K
 refine one_ (i := 5) (N := none) #[true, true, true, true, true, true] rfl rfl (by kernel_rfl) (by decide) (fun K hK => ?_)
 have hs37 : w33.cell? ⟨gb168, 0, none⟩ = some (.int .i64 0) := (blk_cell BK168.out 0).trans rfl
 have hfs37 := blk_frozen BK168.out 0
 have hns37_0 := NB151_168.out
 have hns37_1 := NB152_168.out
 have hns37_2 := NB153_168.out
 have hns37_3 := NB154_168.out
 have hns37_4 := NB167_168.out
 have hms37_0 := NB168_151.out
 have hms37_1 := NB168_152.out
 have hms37_2 := NB168_153.out
 have hms37_3 := NB168_154.out
 have hms37_4 := NB168_167.out
 have hs38 : w33.cell? ⟨gb168, 1, none⟩ = some (.int .i64 0) := (blk_cell BK168.out 1).trans rfl
 have hfs38 := blk_frozen BK168.out 1
 have hns38_0 := NB151_168.out
 have hns38_1 := NB152_168.out
 have hns38_2 := NB153_168.out
 have hns38_3 := NB154_168.out
 have hns38_4 := NB167_168.out
 have hms38_0 := NB168_151.out
 have hms38_1 := NB168_152.out
 have hms38_2 := NB168_153.out
 have hms38_3 := NB168_154.out
 have hms38_4 := NB168_167.out
 have hs39 : w33.cell? ⟨gb168, 2, none⟩ = some (.int .i64 0) := (blk_cell BK168.out 2).trans rfl
 have hfs39 := blk_frozen BK168.out 2
 have hns39_0 := NB151_168.out
 have hns39_1 := NB152_168.out
 have hns39_2 := NB153_168.out
 have hns39_3 := NB154_168.out
 have hns39_4 := NB167_168.out
 have hms39_0 := NB168_151.out
 have hms39_1 := NB168_152.out
 have hms39_2 := NB168_153.out
 have hms39_3 := NB168_154.out
 have hms39_4 := NB168_167.out
 refine skip_ (w1 := ?_) (by rfl) rfl ?_ ?_
 rotate_left
 ·go_simp
  rfl
 refine hK.out _ _ ⟨((cell_far (p := ⟨gb168, _, none⟩) NB151_168.out _).trans (((cell_far (p := ⟨gb168, _, none⟩) NB151_168.out _).trans (((cell_far (p := ⟨gb168, _, none⟩) NB151_168.out _).trans (hHeld.1)))))), ((cell_far (p := ⟨gb168, _, none⟩) NB151_168.out _).trans (((cell_far (p := ⟨gb168, _, none⟩) NB151_168.out _).trans (((cell_far (p := ⟨gb168, _, none⟩) NB151_168.out _).trans (hHeld.2.1)))))), ((cell_far (p := ⟨gb168, _, none⟩) NB151_168.out _).trans (((cell_far (p := ⟨gb168, _, none⟩) NB151_168.out _).trans (((cell_far (p := ⟨gb168, _, none⟩) NB151_168.out _).trans (hHeld.2.2.1)))))), ((cell_far (p := ⟨gb168, _, none⟩) NB152_168.out _).trans (((cell_far (p := ⟨gb168, _, none⟩) NB152_168.out _).trans (((cell_far (p := ⟨gb168, _, none⟩) NB152_168.out _).trans (hHeld.2.2.2.1)))))), ((cell_far (p := ⟨gb168, _, none⟩) NB152_168.out _).trans (((cell_far (p := ⟨gb168, _, none⟩) NB152_168.out _).trans (((cell_far (p := ⟨gb168, _, none⟩) NB152_168.out _).trans (hHeld.2.2.2.2.1)))))), ((cell_far (p := ⟨gb168, _, none⟩) NB152_168.out _).trans (((cell_far (p := ⟨gb168, _, none⟩) NB152_168.out _).trans (((cell_far (p := ⟨gb168, _, none⟩) NB152_168.out _).trans (hHeld.2.2.2.2.2))))))⟩ (fun hHeld => ?_)
 clear hK K
 refine done_ (by kernel_rfl) ?_
 have hnb40 := NB167_151.out
 have hnc40 := NB151_167.out
 have hnb41 := NB167_152.out
 have hnc41 := NB152_167.out
 have hnb42 := NB167_153.out
 have hnc42 := NB153_167.out
 have hnb43 := NB167_154.out
 have hnc43 := NB154_167.out
 have hnb44 := NB167_168.out
 have hnc44 := NB168_167.out
 have hcz45_0 : w33.cell? ⟨gb167, 0, none⟩ = some (.int .i64 0) := (blk_cell BK167.out 0).trans rfl
 have hcz45_1 : w33.cell? ⟨gb167, 1, none⟩ = some (.int .i64 0) := (blk_cell BK167.out 1).trans rfl
 have hcz45_2 : w33.cell? ⟨gb167, 2, none⟩ = some (.int .i64 0) := (blk_cell BK167.out 2).trans rfl
 have hfz45_0 := blk_frozen BK167.out 0
 have hfz45_1 := blk_frozen BK167.out 1
 have hfz45_2 := blk_frozen BK167.out 2
 have hnb46 := NB153_168.out
 have hnc46 := NB168_153.out
 have hcz47_0 : w33.cell? ⟨gb153, 0, none⟩ = some (.int .i64 t161) := (blk_cell BK153.out 0).trans rfl
 have hcz47_1 : w33.cell? ⟨gb153, 1, none⟩ = some (.int .i64 t162) := (blk_cell BK153.out 1).trans rfl
 have hcz47_2 : w33.cell? ⟨gb153, 2, none⟩ = some (.int .i64 t163) := (blk_cell BK153.out 2).trans rfl
 have hfz47_0 := blk_frozen BK153.out 0
 have hfz47_1 := blk_frozen BK153.out 1
 have hfz47_2 := blk_frozen BK153.out 2
 go_upto_if 27 with (first | ((with_reducible refine gate_callee (f := 42) rfl ?_); refine goesL_ (some 27) rfl rfl Try.func42 (by kernel_rfl) rfl #[.agg #[.int .i64 t155, .int .i64 t156, .int .i64 t157], .agg #[.int .i64 t161, .int .i64 t162, .int .i64 t163]] rfl (by (try simp only [List.map_toArray, List.map_cons, List.map_nil]); first | done | rfl | (simp only [List.length_drop, List.length_take]; rfl)) ?_; (with_reducible refine (geom_less.calls t155 t156 t157 t161 t162 t163 t169 _ A7.out).mono ?_); rintro e w48 ⟨rfl, hb⟩; refine ⟨_, rfl, ?_⟩; have n0_ := Aside0.mk (blk_below (g := gb151) (o := .cells #[.int .i64 t155, .int .i64 t156, .int .i64 t157] 23 (0, 0)) (bK BK151) hb); have n1_ := Aside0.mk (blk_below (g := gb152) (o := .cells #[.int .i64 t158, .int .i64 t159, .int .i64 t160] 23 (0, 0)) (bK BK152) hb); have n2_ := Aside0.mk (blk_below (g := gb153) (o := .cells #[.int .i64 t161, .int .i64 t162, .int .i64 t163] 23 (0, 0)) (bK BK153) hb); have n3_ := Aside0.mk (blk_below (g := gb154) (o := .cells #[.int .i64 t164, .int .i64 t165, .int .i64 t166] 23 (0, 0)) (bK BK154) hb); have n4_ := Aside0.mk (blk_below (g := gb167) (o := .cells #[.int .i64 t155, .int .i64 t156, .int .i64 t157] 23 (0, 0)) (by (with_reducible repeat (first | refine blk_drewN ?_ _ | refine blk_drew ?_ | refine blk_alloc ?_ _)); refine blk_far ?_ NB167_168.out _; (with_reducible repeat (first | refine blk_drewN ?_ _ | refine blk_drew ?_ | refine blk_alloc ?_ _)); refine blk_far ?_ NB167_168.out _; (with_reducible repeat (first | refine blk_drewN ?_ _ | refine blk_drew ?_ | refine blk_alloc ?_ _)); refine blk_far ?_ NB167_168.out _; (with_reducible repeat (first | refine blk_drewN ?_ _ | refine blk_drew ?_ | refine blk_alloc ?_ _)); refine blk_put (cs := #[.int .i64 t155, .int .i64 t156, .int .i64 0]) ?_ 2 _ rfl; (with_reducible repeat (first | refine blk_drewN ?_ _ | refine blk_drew ?_ | refine blk_alloc ?_ _)); refine blk_put (cs := #[.int .i64 t155, .int .i64 0, .int .i64 0]) ?_ 1 _ rfl; (with_reducible repeat (first | refine blk_drewN ?_ _ | refine blk_drew ?_ | refine blk_alloc ?_ _)); refine blk_put (cs := #[.int .i64 0, .int .i64 0, .int .i64 0]) ?_ 0 _ rfl; (with_reducible repeat (first | refine blk_drewN ?_ _ | refine blk_drew ?_ | refine blk_alloc ?_ _)); exact BK167.out) hb); have n5_ := Aside0.mk (blk_below (g := gb168) (o := .cells #[.int .i64 t158, .int .i64 t159, .int .i64 t160] 23 (0, 0)) (by (with_reducible repeat (first | refine blk_drewN ?_ _ | refine blk_drew ?_ | refine blk_alloc ?_ _)); refine blk_put (cs := #[.int .i64 t158, .int .i64 t159, .int .i64 0]) ?_ 2 _ rfl; (with_reducible repeat (first | refine blk_drewN ?_ _ | refine blk_drew ?_ | refine blk_alloc ?_ _)); refine blk_put (cs := #[.int .i64 t158, .int .i64 0, .int .i64 0]) ?_ 1 _ rfl; (with_reducible repeat (first | refine blk_drewN ?_ _ | refine blk_drew ?_ | refine blk_alloc ?_ _)); refine blk_put (cs := #[.int .i64 0, .int .i64 0, .int .i64 0]) ?_ 0 _ rfl; (with_reducible repeat (first | refine blk_drewN ?_ _ | refine blk_drew ?_ | refine blk_alloc ?_ _)); refine blk_far ?_ NB168_167.out _; (with_reducible repeat (first | refine blk_drewN ?_ _ | refine blk_drew ?_ | refine blk_alloc ?_ _)); refine blk_far ?_ NB168_167.out _; (with_reducible repeat (first | refine blk_drewN ?_ _ | refine blk_drew ?_ | refine blk_alloc ?_ _)); refine blk_far ?_ NB168_167.out _; (with_reducible repeat (first | refine blk_drewN ?_ _ | refine blk_drew ?_ | refine blk_alloc ?_ _)); exact BK168.out) hb); have n6_ := Aside0.mk (below_step (bH HB) hb); clear BK151; clear BK152; clear BK153; clear BK154; clear BK167; clear BK168; clear HB; have BK151 := n0_; have BK152 := n1_; have BK153 := n2_; have BK154 := n3_; have BK167 := n4_; have BK168 := n5_; have HB := n6_; clear n0_ n1_ n2_ n3_ n4_ n5_ n6_; (try clear hb); (try clear hb2); (try clear hk); (try clear hi)))
 (try simp only [Act.put, List.setIfInBounds_toArray, List.set_cons_zero, List.set_cons_succ])
 go_cut [] (fun wc => ∃ (kq : Nat) (x168000_7 : Int) (x168001_7 : Int) (x168002_7 : Int), Aside0 (geom_along.j0 kq t164 t165 t166 x168000_7 x168001_7 x168002_7 t158 t159 t160 = some r) ∧ Aside0 (kq ≤ k) ∧ Aside0 (wc.heap[gb151]? = some (.cells #[.int .i64 t155, .int .i64 t156, .int .i64 t157] 23 (0, 0))) ∧ Aside0 (wc.heap[gb152]? = some (.cells #[.int .i64 t158, .int .i64 t159, .int .i64 t160] 23 (0, 0))) ∧ Aside0 (wc.heap[gb153]? = some (.cells #[.int .i64 t161, .int .i64 t162, .int .i64 t163] 23 (0, 0))) ∧ Aside0 (wc.heap[gb154]? = some (.cells #[.int .i64 t164, .int .i64 t165, .int .i64 t166] 23 (0, 0))) ∧ Aside0 (wc.heap[gb167]? = some (.cells #[.int .i64 x168000_7, .int .i64 x168001_7, .int .i64 x168002_7] 23 (0, 0))) ∧ Aside0 (wc.heap[gb168]? = some (.cells #[.int .i64 t158, .int .i64 t159, .int .i64 t160] 23 (0, 0))) ∧ Aside0 (Below w.heap.size w wc))
 case first =>
  have H := HC8.out
  clear HC8
  by_cases c49 : t169 = true
  ·subst c49
   have H1 : (geom_along.j0 k t164 t165 t166 t161 t162 t163 t158 t159 t160) = some r := by rw [if_pos rfl] at H; exact H
   clear H
   have H := H1
   clear H1
   have H' := Aside0.mk H
   clear H
   have hnb50 := NB153_151.out
   have hnc50 := NB151_153.out
   have hnb51 := NB153_152.out
   have hnc51 := NB152_153.out
   have hnb52 := NB153_154.out
   have hnc52 := NB154_153.out
   have hnb53 := NB153_167.out
   have hnc53 := NB167_153.out
   have hnb54 := NB153_168.out
   have hnc54 := NB168_153.out
   have hcz55_0 : w48.cell? ⟨gb153, 0, none⟩ = some (.int .i64 t161) := (blk_cell BK153.out 0).trans rfl
   have hcz55_1 : w48.cell? ⟨gb153, 1, none⟩ = some (.int .i64 t162) := (blk_cell BK153.out 1).trans rfl
   have hcz55_2 : w48.cell? ⟨gb153, 2, none⟩ = some (.int .i64 t163) := (blk_cell BK153.out 2).trans rfl
   have hfz55_0 := blk_frozen BK153.out 0
   have hfz55_1 := blk_frozen BK153.out 1
   have hfz55_2 := blk_frozen BK153.out 2
   have hnb56 := NB167_151.out
   have hnc56 := NB151_167.out
   have hnb57 := NB167_152.out
   have hnc57 := NB152_167.out
   have hnb58 := NB167_154.out
   have hnc58 := NB154_167.out
   have hnb59 := NB167_168.out
   have hnc59 := NB168_167.out
   have hcz60_0 : w48.cell? ⟨gb167, 0, none⟩ = some (.int .i64 t155) := (blk_cell BK167.out 0).trans rfl
   have hcz60_1 : w48.cell? ⟨gb167, 1, none⟩ = some (.int .i64 t156) := (blk_cell BK167.out 1).trans rfl
   have hcz60_2 : w48.cell? ⟨gb167, 2, none⟩ = some (.int .i64 t157) := (blk_cell BK167.out 2).trans rfl
   have hfz60_0 := blk_frozen BK167.out 0
   have hfz60_1 := blk_frozen BK167.out 1
   have hfz60_2 := blk_frozen BK167.out 2
   go_wp2
   go_meet
   case rel => exact ⟨_, (t161), (t162), (t163), H', ⟨by first | omega | exact Nat.le_refl _⟩, ⟨bK BK151⟩, ⟨bK BK152⟩, ⟨bK BK153⟩, ⟨bK BK154⟩, ⟨by (with_reducible repeat (first | refine blk_drewN ?_ _ | refine blk_drew ?_ | refine blk_alloc ?_ _)); refine blk_put (cs := #[.int .i64 t161, .int .i64 t162, .int .i64 t157]) ?_ 2 _ rfl; (with_reducible repeat (first | refine blk_drewN ?_ _ | refine blk_drew ?_ | refine blk_alloc ?_ _)); refine blk_put (cs := #[.int .i64 t161, .int .i64 t156, .int .i64 t157]) ?_ 1 _ rfl; (with_reducible repeat (first | refine blk_drewN ?_ _ | refine blk_drew ?_ | refine blk_alloc ?_ _)); refine blk_put (cs := #[.int .i64 t155, .int .i64 t156, .int .i64 t157]) ?_ 0 _ rfl; (with_reducible repeat (first | refine blk_drewN ?_ _ | refine blk_drew ?_ | refine blk_alloc ?_ _)); exact BK167.out⟩, ⟨bK BK168⟩, ⟨ bH HB⟩⟩
  ·replace c49 := Bool.eq_false_iff.mpr c49
   subst c49
   have H1 : (geom_along.j0 k t164 t165 t166 t155 t156 t157 t158 t159 t160) = some r := by rw [if_neg (show ¬ (false = true) by decide)] at H; exact H
   clear H
   have H := H1
   clear H1
   have H' := Aside0.mk H
   clear H
   go_wp2
   go_meet
   case rel => exact ⟨_, (t155), (t156), (t157), H', ⟨by first | omega | exact Nat.le_refl _⟩, ⟨bK BK151⟩, ⟨bK BK152⟩, ⟨bK BK153⟩, ⟨bK BK154⟩, ⟨bK BK167⟩, ⟨bK BK168⟩, ⟨ bH HB⟩⟩
 case rest =>
  clear HC8
  try clear c1
  try clear c2
  try clear p2
  try clear c4
  try clear c5
  try clear c13
  try clear c14
  try clear c15
  try clear c17
  try clear c18
  try clear c23
  try clear c28
  try clear c40
  try clear c41
  try clear c42
  try clear c43
  try clear c44
  try clear c46
  try clear c49
  try clear c50
  try clear c51
  try clear c52
  try clear c53
  try clear c54
  try clear c56
  try clear c57
  try clear c58
  try clear c59
  try clear hcz16_0
  try clear hcz16_1
  try clear hcz16_2
  try clear hcz19_0
  try clear hcz19_1
  try clear hcz19_2
  try clear hcz21_0
  try clear hcz21_1
  try clear hcz21_2
  try clear hcz22_0
  try clear hcz22_1
  try clear hcz22_2
  try clear hcz24_0
  try clear hcz24_1
  try clear hcz24_2
  try clear hcz25_0
  try clear hcz25_1
  try clear hcz25_2
  try clear hcz27_0
  try clear hcz27_1
  try clear hcz27_2
  try clear hcz28_0
  try clear hcz28_1
  try clear hcz28_2
  try clear hcz45_0
  try clear hcz45_1
  try clear hcz45_2
  try clear hcz47_0
  try clear hcz47_1
  try clear hcz47_2
  try clear hcz55_0
  try clear hcz55_1
  try clear hcz55_2
  try clear hcz60_0
  try clear hcz60_1
  try clear hcz60_2
  try clear hfz16_0
  try clear hfz16_1
  try clear hfz16_2
  try clear hfz19_0
  try clear hfz19_1
  try clear hfz19_2
  try clear hfz21_0
  try clear hfz21_1
  try clear hfz21_2
  try clear hfz22_0
  try clear hfz22_1
  try clear hfz22_2
  try clear hfz24_0
  try clear hfz24_1
  try clear hfz24_2
  try clear hfz25_0
  try clear hfz25_1
  try clear hfz25_2
  try clear hfz27_0
  try clear hfz27_1
  try clear hfz27_2
  try clear hfz28_0
  try clear hfz28_1
  try clear hfz28_2
  try clear hfz45_0
  try clear hfz45_1
  try clear hfz45_2
  try clear hfz47_0
  try clear hfz47_1
  try clear hfz47_2
  try clear hfz55_0
  try clear hfz55_1
  try clear hfz55_2
  try clear hfz60_0
  try clear hfz60_1
  try clear hfz60_2
  obtain ⟨kq, x168000_7, x168001_7, x168002_7, HA, HJ7, BK151, BK152, BK153, BK154, BK167, BK168, HB⟩ := hcut
  cases kq with
  | zero => exact absurd HA.out (by simp [geom_along.j0])
  | succ kj7 =>
   have H := HA.out
   clear HA
   simp only [geom_along.j0] at H
   replace H := Option.bind_eq_some_iff.mp H
   obtain ⟨t170, A610, H⟩ := H
   replace H : (if t170 = true then (geom_along.j1 kj7 x168000_7 x168001_7 x168002_7 t164 t165 t166) else (geom_along.j1 kj7 x168000_7 x168001_7 x168002_7 t158 t159 t160)) = some r := H
   have A61 := Aside0.mk A610
   clear A610
   have HC62 := Aside0.mk H
   clear H
   have hnb63 := NB154_151.out
   have hnc63 := NB151_154.out
   have hnb64 := NB154_152.out
   have hnc64 := NB152_154.out
   have hnb65 := NB154_153.out
   have hnc65 := NB153_154.out
   have hnb66 := NB154_167.out
   have hnc66 := NB167_154.out
   have hnb67 := NB154_168.out
   have hnc67 := NB168_154.out
   have hcz68_0 : wc.cell? ⟨gb154, 0, none⟩ = some (.int .i64 t164) := (blk_cell BK154.out 0).trans rfl
   have hcz68_1 : wc.cell? ⟨gb154, 1, none⟩ = some (.int .i64 t165) := (blk_cell BK154.out 1).trans rfl
   have hcz68_2 : wc.cell? ⟨gb154, 2, none⟩ = some (.int .i64 t166) := (blk_cell BK154.out 2).trans rfl
   have hfz68_0 := blk_frozen BK154.out 0
   have hfz68_1 := blk_frozen BK154.out 1
   have hfz68_2 := blk_frozen BK154.out 2
   have hnb69 := NB168_151.out
   have hnc69 := NB151_168.out
   have hnb70 := NB168_152.out
   have hnc70 := NB152_168.out
   have hnb71 := NB168_153.out
   have hnc71 := NB153_168.out
   have hnb72 := NB168_167.out
   have hnc72 := NB167_168.out
   have hcz73_0 : wc.cell? ⟨gb168, 0, none⟩ = some (.int .i64 t158) := (blk_cell BK168.out 0).trans rfl
   have hcz73_1 : wc.cell? ⟨gb168, 1, none⟩ = some (.int .i64 t159) := (blk_cell BK168.out 1).trans rfl
   have hcz73_2 : wc.cell? ⟨gb168, 2, none⟩ = some (.int .i64 t160) := (blk_cell BK168.out 2).trans rfl
   have hfz73_0 := blk_frozen BK168.out 0
   have hfz73_1 := blk_frozen BK168.out 1
   have hfz73_2 := blk_frozen BK168.out 2
   go_upto_if 31 with (first | ((with_reducible refine gate_callee (f := 42) rfl ?_); refine goesL_ (some 31) rfl rfl Try.func42 (by kernel_rfl) rfl #[.agg #[.int .i64 t164, .int .i64 t165, .int .i64 t166], .agg #[.int .i64 t158, .int .i64 t159, .int .i64 t160]] rfl (by (try simp only [List.map_toArray, List.map_cons, List.map_nil]); first | done | rfl | (simp only [List.length_drop, List.length_take]; rfl)) ?_; (with_reducible refine (geom_less.calls t164 t165 t166 t158 t159 t160 t170 _ A61.out).mono ?_); rintro e w74 ⟨rfl, hb⟩; refine ⟨_, rfl, ?_⟩; have n0_ := Aside0.mk (blk_below (g := gb151) (o := .cells #[.int .i64 t155, .int .i64 t156, .int .i64 t157] 23 (0, 0)) (bK BK151) hb); have n1_ := Aside0.mk (blk_below (g := gb152) (o := .cells #[.int .i64 t158, .int .i64 t159, .int .i64 t160] 23 (0, 0)) (bK BK152) hb); have n2_ := Aside0.mk (blk_below (g := gb153) (o := .cells #[.int .i64 t161, .int .i64 t162, .int .i64 t163] 23 (0, 0)) (bK BK153) hb); have n3_ := Aside0.mk (blk_below (g := gb154) (o := .cells #[.int .i64 t164, .int .i64 t165, .int .i64 t166] 23 (0, 0)) (bK BK154) hb); have n4_ := Aside0.mk (blk_below (g := gb167) (o := .cells #[.int .i64 x168000_7, .int .i64 x168001_7, .int .i64 x168002_7] 23 (0, 0)) (bK BK167) hb); have n5_ := Aside0.mk (blk_below (g := gb168) (o := .cells #[.int .i64 t158, .int .i64 t159, .int .i64 t160] 23 (0, 0)) (bK BK168) hb); have n6_ := Aside0.mk (below_step (bH HB) hb); clear BK151; clear BK152; clear BK153; clear BK154; clear BK167; clear BK168; clear HB; have BK151 := n0_; have BK152 := n1_; have BK153 := n2_; have BK154 := n3_; have BK167 := n4_; have BK168 := n5_; have HB := n6_; clear n0_ n1_ n2_ n3_ n4_ n5_ n6_; (try clear hb); (try clear hb2); (try clear hk); (try clear hi)))
   (try simp only [Act.put, List.setIfInBounds_toArray, List.set_cons_zero, List.set_cons_succ])
   go_cut [] (fun wc => ∃ (kq : Nat) (x169000_61 : Int) (x169001_61 : Int) (x169002_61 : Int), Aside0 (geom_along.j1 kq x168000_7 x168001_7 x168002_7 x169000_61 x169001_61 x169002_61 = some r) ∧ Aside0 (kq ≤ kj7) ∧ Aside0 (wc.heap[gb151]? = some (.cells #[.int .i64 t155, .int .i64 t156, .int .i64 t157] 23 (0, 0))) ∧ Aside0 (wc.heap[gb152]? = some (.cells #[.int .i64 t158, .int .i64 t159, .int .i64 t160] 23 (0, 0))) ∧ Aside0 (wc.heap[gb153]? = some (.cells #[.int .i64 t161, .int .i64 t162, .int .i64 t163] 23 (0, 0))) ∧ Aside0 (wc.heap[gb154]? = some (.cells #[.int .i64 t164, .int .i64 t165, .int .i64 t166] 23 (0, 0))) ∧ Aside0 (wc.heap[gb167]? = some (.cells #[.int .i64 x168000_7, .int .i64 x168001_7, .int .i64 x168002_7] 23 (0, 0))) ∧ Aside0 (wc.heap[gb168]? = some (.cells #[.int .i64 x169000_61, .int .i64 x169001_61, .int .i64 x169002_61] 23 (0, 0))) ∧ Aside0 (Below w.heap.size w wc))
   case first =>
    have H := HC62.out
    clear HC62
    by_cases c75 : t170 = true
    ·subst c75
     have H1 : (geom_along.j1 kj7 x168000_7 x168001_7 x168002_7 t164 t165 t166) = some r := by rw [if_pos rfl] at H; exact H
     clear H
     have H := H1
     clear H1
     have H' := Aside0.mk H
     clear H
     have hnb76 := NB154_151.out
     have hnc76 := NB151_154.out
     have hnb77 := NB154_152.out
     have hnc77 := NB152_154.out
     have hnb78 := NB154_153.out
     have hnc78 := NB153_154.out
     have hnb79 := NB154_167.out
     have hnc79 := NB167_154.out
     have hnb80 := NB154_168.out
     have hnc80 := NB168_154.out
     have hcz81_0 : w74.cell? ⟨gb154, 0, none⟩ = some (.int .i64 t164) := (blk_cell BK154.out 0).trans rfl
     have hcz81_1 : w74.cell? ⟨gb154, 1, none⟩ = some (.int .i64 t165) := (blk_cell BK154.out 1).trans rfl
     have hcz81_2 : w74.cell? ⟨gb154, 2, none⟩ = some (.int .i64 t166) := (blk_cell BK154.out 2).trans rfl
     have hfz81_0 := blk_frozen BK154.out 0
     have hfz81_1 := blk_frozen BK154.out 1
     have hfz81_2 := blk_frozen BK154.out 2
     have hnb82 := NB168_151.out
     have hnc82 := NB151_168.out
     have hnb83 := NB168_152.out
     have hnc83 := NB152_168.out
     have hnb84 := NB168_153.out
     have hnc84 := NB153_168.out
     have hnb85 := NB168_167.out
     have hnc85 := NB167_168.out
     have hcz86_0 : w74.cell? ⟨gb168, 0, none⟩ = some (.int .i64 t158) := (blk_cell BK168.out 0).trans rfl
     have hcz86_1 : w74.cell? ⟨gb168, 1, none⟩ = some (.int .i64 t159) := (blk_cell BK168.out 1).trans rfl
     have hcz86_2 : w74.cell? ⟨gb168, 2, none⟩ = some (.int .i64 t160) := (blk_cell BK168.out 2).trans rfl
     have hfz86_0 := blk_frozen BK168.out 0
     have hfz86_1 := blk_frozen BK168.out 1
     have hfz86_2 := blk_frozen BK168.out 2
     go_wp2
     go_meet
     case rel => exact ⟨_, (t164), (t165), (t166), H', ⟨by have := HJ7.out; first | omega | exact Nat.le_refl _⟩, ⟨bK BK151⟩, ⟨bK BK152⟩, ⟨bK BK153⟩, ⟨bK BK154⟩, ⟨bK BK167⟩, ⟨by (with_reducible repeat (first | refine blk_drewN ?_ _ | refine blk_drew ?_ | refine blk_alloc ?_ _)); refine blk_put (cs := #[.int .i64 t164, .int .i64 t165, .int .i64 t160]) ?_ 2 _ rfl; (with_reducible repeat (first | refine blk_drewN ?_ _ | refine blk_drew ?_ | refine blk_alloc ?_ _)); refine blk_put (cs := #[.int .i64 t164, .int .i64 t159, .int .i64 t160]) ?_ 1 _ rfl; (with_reducible repeat (first | refine blk_drewN ?_ _ | refine blk_drew ?_ | refine blk_alloc ?_ _)); refine blk_put (cs := #[.int .i64 t158, .int .i64 t159, .int .i64 t160]) ?_ 0 _ rfl; (with_reducible repeat (first | refine blk_drewN ?_ _ | refine blk_drew ?_ | refine blk_alloc ?_ _)); exact BK168.out⟩, ⟨ bH HB⟩⟩
    ·replace c75 := Bool.eq_false_iff.mpr c75
     subst c75
     have H1 : (geom_along.j1 kj7 x168000_7 x168001_7 x168002_7 t158 t159 t160) = some r := by rw [if_neg (show ¬ (false = true) by decide)] at H; exact H
     clear H
     have H := H1
     clear H1
     have H' := Aside0.mk H
     clear H
     go_wp2
     go_meet
     case rel => exact ⟨_, (t158), (t159), (t160), H', ⟨by have := HJ7.out; first | omega | exact Nat.le_refl _⟩, ⟨bK BK151⟩, ⟨bK BK152⟩, ⟨bK BK153⟩, ⟨bK BK154⟩, ⟨bK BK167⟩, ⟨bK BK168⟩, ⟨ bH HB⟩⟩
   case rest =>
    clear HC62
    try clear c1
    try clear c2
    try clear p2
    try clear c4
    try clear c5
    try clear c6
    try clear c7
    try clear c8
    try clear c13
    try clear c14
    try clear c15
    try clear c17
    try clear c18
    try clear c23
    try clear c28
    try clear c40
    try clear c41
    try clear c42
    try clear c43
    try clear c44
    try clear c46
    try clear c49
    try clear c50
    try clear c51
    try clear c52
    try clear c53
    try clear c54
    try clear c56
    try clear c57
    try clear c58
    try clear c59
    try clear c63
    try clear c64
    try clear c65
    try clear c66
    try clear c67
    try clear c69
    try clear c70
    try clear c71
    try clear c72
    try clear c75
    try clear c76
    try clear c77
    try clear c78
    try clear c79
    try clear c80
    try clear c82
    try clear c83
    try clear c84
    try clear c85
    try clear hcz16_0
    try clear hcz16_1
    try clear hcz16_2
    try clear hcz19_0
    try clear hcz19_1
    try clear hcz19_2
    try clear hcz21_0
    try clear hcz21_1
    try clear hcz21_2
    try clear hcz22_0
    try clear hcz22_1
    try clear hcz22_2
    try clear hcz24_0
    try clear hcz24_1
    try clear hcz24_2
    try clear hcz25_0
    try clear hcz25_1
    try clear hcz25_2
    try clear hcz27_0
    try clear hcz27_1
    try clear hcz27_2
    try clear hcz28_0
    try clear hcz28_1
    try clear hcz28_2
    try clear hcz45_0
    try clear hcz45_1
    try clear hcz45_2
    try clear hcz47_0
    try clear hcz47_1
    try clear hcz47_2
    try clear hcz55_0
    try clear hcz55_1
    try clear hcz55_2
    try clear hcz60_0
    try clear hcz60_1
    try clear hcz60_2
    try clear hcz68_0
    try clear hcz68_1
    try clear hcz68_2
    try clear hcz73_0
    try clear hcz73_1
    try clear hcz73_2
    try clear hcz81_0
    try clear hcz81_1
    try clear hcz81_2
    try clear hcz86_0
    try clear hcz86_1
    try clear hcz86_2
    try clear hfz16_0
    try clear hfz16_1
    try clear hfz16_2
    try clear hfz19_0
    try clear hfz19_1
    try clear hfz19_2
    try clear hfz21_0
    try clear hfz21_1
    try clear hfz21_2
    try clear hfz22_0
    try clear hfz22_1
    try clear hfz22_2
    try clear hfz24_0
    try clear hfz24_1
    try clear hfz24_2
    try clear hfz25_0
    try clear hfz25_1
    try clear hfz25_2
    try clear hfz27_0
    try clear hfz27_1
    try clear hfz27_2
    try clear hfz28_0
    try clear hfz28_1
    try clear hfz28_2
    try clear hfz45_0
    try clear hfz45_1
    try clear hfz45_2
    try clear hfz47_0
    try clear hfz47_1
    try clear hfz47_2
    try clear hfz55_0
    try clear hfz55_1
    try clear hfz55_2
    try clear hfz60_0
    try clear hfz60_1
    try clear hfz60_2
    try clear hfz68_0
    try clear hfz68_1
    try clear hfz68_2
    try clear hfz73_0
    try clear hfz73_1
    try clear hfz73_2
    try clear hfz81_0
    try clear hfz81_1
    try clear hfz81_2
    try clear hfz86_0
    try clear hfz86_1
    try clear hfz86_2
    try clear p2
    obtain ⟨kq, x169000_61, x169001_61, x169002_61, HA, HJ61, BK151, BK152, BK153, BK154, BK167, BK168, HB⟩ := hcut
    cases kq with
    | zero => exact absurd HA.out (by simp [geom_along.j1])
    | succ kj61 =>
     have H := HA.out
     clear HA
     simp only [geom_along.j1] at H
     by_cases c87 : (x168000_7 == x169000_61 && (x168001_7 == x169001_61 && (x168002_7 == x169002_61))) = true
     ·rw [if_pos c87] at H
      have c87b0 : (x168000_7 == x169000_61 && (x168001_7 == x169001_61 && (x168002_7 == x169002_61))) = true := c87
      (try (have c87b1 : decide (x168000_7 = x169000_61 && (x168001_7 == x169001_61 && (x168002_7 == x169002_61))) = true := by simpa using c87))
      (try (have c87b2 : (x168000_7 == x169000_61 && (x168001_7 == x169001_61 && (x168002_7 == x169002_61))) = true := by simpa using c87))
      clear c87
      obtain rfl := Option.some.inj H
      have hnb88 := NB167_151.out
      have hnc88 := NB151_167.out
      have hnb89 := NB167_152.out
      have hnc89 := NB152_167.out
      have hnb90 := NB167_153.out
      have hnc90 := NB153_167.out
      have hnb91 := NB167_154.out
      have hnc91 := NB154_167.out
      have hnb92 := NB167_168.out
      have hnc92 := NB168_167.out
      have hcz93_0 : wc.cell? ⟨gb167, 0, none⟩ = some (.int .i64 x168000_7) := (blk_cell BK167.out 0).trans rfl
      have hcz93_1 : wc.cell? ⟨gb167, 1, none⟩ = some (.int .i64 x168001_7) := (blk_cell BK167.out 1).trans rfl
      have hcz93_2 : wc.cell? ⟨gb167, 2, none⟩ = some (.int .i64 x168002_7) := (blk_cell BK167.out 2).trans rfl
      have hfz93_0 := blk_frozen BK167.out 0
      have hfz93_1 := blk_frozen BK167.out 1
      have hfz93_2 := blk_frozen BK167.out 2
      have hnb94 := NB168_151.out
      have hnc94 := NB151_168.out
      have hnb95 := NB168_152.out
      have hnc95 := NB152_168.out
      have hnb96 := NB168_153.out
      have hnc96 := NB153_168.out
      have hnb97 := NB168_154.out
      have hnc97 := NB154_168.out
      have hcz98_0 : wc.cell? ⟨gb168, 0, none⟩ = some (.int .i64 x169000_61) := (blk_cell BK168.out 0).trans rfl
      have hcz98_1 : wc.cell? ⟨gb168, 1, none⟩ = some (.int .i64 x169001_61) := (blk_cell BK168.out 1).trans rfl
      have hcz98_2 : wc.cell? ⟨gb168, 2, none⟩ = some (.int .i64 x169002_61) := (blk_cell BK168.out 2).trans rfl
      have hfz98_0 := blk_frozen BK168.out 0
      have hfz98_1 := blk_frozen BK168.out 1
      have hfz98_2 := blk_frozen BK168.out 2
      go_wp2
      go_ret
      exact ⟨by first | rfl | (simp [errW_none, errW_some] <;> rfl) | (simp [*, errW_none, errW_some] <;> rfl), bH HB⟩
     ·rw [if_neg c87] at H
      have c87b0 : (x168000_7 == x169000_61 && (x168001_7 == x169001_61 && (x168002_7 == x169002_61))) = false := by simpa using c87
      (try (have c87b1 : decide (x168000_7 = x169000_61 && (x168001_7 == x169001_61 && (x168002_7 == x169002_61))) = false := by simpa using c87))
      (try (have c87b2 : (x168000_7 == x169000_61 && (x168001_7 == x169001_61 && (x168002_7 == x169002_61))) = false := by simpa using c87))
      (try (have c87b3 : ¬ (x168000_7 = x169000_61 && (x168001_7 == x169001_61 && (x168002_7 == x169002_61))) := by simpa using c87))
      clear c87
      replace H := Option.bind_eq_some_iff.mp H
      obtain ⟨t171, A990, H⟩ := H
      replace H : (if t171 = true then (some 3) else (some 0)) = some r := H
      have A99 := Aside0.mk A990
      clear A990
      have HC100 := Aside0.mk H
      clear H
      have hnb101 := NB167_151.out
      have hnc101 := NB151_167.out
      have hnb102 := NB167_152.out
      have hnc102 := NB152_167.out
      have hnb103 := NB167_153.out
      have hnc103 := NB153_167.out
      have hnb104 := NB167_154.out
      have hnc104 := NB154_167.out
      have hnb105 := NB167_168.out
      have hnc105 := NB168_167.out
      have hcz106_0 : wc.cell? ⟨gb167, 0, none⟩ = some (.int .i64 x168000_7) := (blk_cell BK167.out 0).trans rfl
      have hcz106_1 : wc.cell? ⟨gb167, 1, none⟩ = some (.int .i64 x168001_7) := (blk_cell BK167.out 1).trans rfl
      have hcz106_2 : wc.cell? ⟨gb167, 2, none⟩ = some (.int .i64 x168002_7) := (blk_cell BK167.out 2).trans rfl
      have hfz106_0 := blk_frozen BK167.out 0
      have hfz106_1 := blk_frozen BK167.out 1
      have hfz106_2 := blk_frozen BK167.out 2
      have hnb107 := NB168_151.out
      have hnc107 := NB151_168.out
      have hnb108 := NB168_152.out
      have hnc108 := NB152_168.out
      have hnb109 := NB168_153.out
      have hnc109 := NB153_168.out
      have hnb110 := NB168_154.out
      have hnc110 := NB154_168.out
      have hcz111_0 : wc.cell? ⟨gb168, 0, none⟩ = some (.int .i64 x169000_61) := (blk_cell BK168.out 0).trans rfl
      have hcz111_1 : wc.cell? ⟨gb168, 1, none⟩ = some (.int .i64 x169001_61) := (blk_cell BK168.out 1).trans rfl
      have hcz111_2 : wc.cell? ⟨gb168, 2, none⟩ = some (.int .i64 x169002_61) := (blk_cell BK168.out 2).trans rfl
      have hfz111_0 := blk_frozen BK168.out 0
      have hfz111_1 := blk_frozen BK168.out 1
      have hfz111_2 := blk_frozen BK168.out 2
      go_upto_if 37 with (first | ((with_reducible refine gate_callee (f := 42) rfl ?_); refine goesL_ (some 40) rfl rfl Try.func42 (by kernel_rfl) rfl #[.agg #[.int .i64 x168000_7, .int .i64 x168001_7, .int .i64 x168002_7], .agg #[.int .i64 x169000_61, .int .i64 x169001_61, .int .i64 x169002_61]] rfl (by (try simp only [List.map_toArray, List.map_cons, List.map_nil]); first | done | rfl | (simp only [List.length_drop, List.length_take]; rfl)) ?_; (with_reducible refine (geom_less.calls x168000_7 x168001_7 x168002_7 x169000_61 x169001_61 x169002_61 t171 _ A99.out).mono ?_); rintro e w112 ⟨rfl, hb⟩; refine ⟨_, rfl, ?_⟩; have n0_ := Aside0.mk (blk_below (g := gb151) (o := .cells #[.int .i64 t155, .int .i64 t156, .int .i64 t157] 23 (0, 0)) (bK BK151) hb); have n1_ := Aside0.mk (blk_below (g := gb152) (o := .cells #[.int .i64 t158, .int .i64 t159, .int .i64 t160] 23 (0, 0)) (bK BK152) hb); have n2_ := Aside0.mk (blk_below (g := gb153) (o := .cells #[.int .i64 t161, .int .i64 t162, .int .i64 t163] 23 (0, 0)) (bK BK153) hb); have n3_ := Aside0.mk (blk_below (g := gb154) (o := .cells #[.int .i64 t164, .int .i64 t165, .int .i64 t166] 23 (0, 0)) (bK BK154) hb); have n4_ := Aside0.mk (blk_below (g := gb167) (o := .cells #[.int .i64 x168000_7, .int .i64 x168001_7, .int .i64 x168002_7] 23 (0, 0)) (bK BK167) hb); have n5_ := Aside0.mk (blk_below (g := gb168) (o := .cells #[.int .i64 x169000_61, .int .i64 x169001_61, .int .i64 x169002_61] 23 (0, 0)) (bK BK168) hb); have n6_ := Aside0.mk (below_step (bH HB) hb); clear BK151; clear BK152; clear BK153; clear BK154; clear BK167; clear BK168; clear HB; have BK151 := n0_; have BK152 := n1_; have BK153 := n2_; have BK154 := n3_; have BK167 := n4_; have BK168 := n5_; have HB := n6_; clear n0_ n1_ n2_ n3_ n4_ n5_ n6_; (try clear hb); (try clear hb2); (try clear hk); (try clear hi)))
      (try simp only [Act.put, List.setIfInBounds_toArray, List.set_cons_zero, List.set_cons_succ])
      have H := HC100.out
      clear HC100
      by_cases c113 : t171 = true
      ·subst c113
       have H1 : (some 3) = some r := by rw [if_pos rfl] at H; exact H
       clear H
       have H := H1
       clear H1
       obtain rfl := Option.some.inj H
       go_wp2
       go_ret
       exact ⟨by first | rfl | (simp [errW_none, errW_some] <;> rfl) | (simp [*, errW_none, errW_some] <;> rfl), bH HB⟩
      ·replace c113 := Bool.eq_false_iff.mpr c113
       subst c113
       have H1 : (some 0) = some r := by rw [if_neg (show ¬ (false = true) by decide)] at H; exact H
       clear H
       have H := H1
       clear H1
       obtain rfl := Option.some.inj H
       go_wp2
       go_ret
       exact ⟨by first | rfl | (simp [errW_none, errW_some] <;> rfl) | (simp [*, errW_none, errW_some] <;> rfl), bH HB⟩

end Go.Proofs.Ytlnjbpapbifjfaa.P
