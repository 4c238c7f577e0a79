/- Written for this claim by a program of this session (a turned copy of the print): Go functions as Lean functions, and that the Go code comes to just these answers; or a statement proved out of them. No condition. -/
import Derived.Test.YtbonkedecfjmdaaZ2
import Derived.Test.YtbonkedecfjmdaaZ5

namespace Go.Proofs.Ytbonkedecfjmdaa.P
open Go.RowKit Go.Proofs.YtbonkedecfjmdaaW.PrintWords Go.Proofs.YtbonkedecfjmdaaW.PrintLast Go.Proofs.YtbonkedecfjmdaaW.PrintMore Go.Proofs.Ytbonkedecfjmdaa.X
attribute [local go_sem] max2_int min2_int max_two min_two max_three min_three max_four min_four add64_0 add64_1 add64   -- for this text's walks alone
set_option linter.unusedVariables false
set_option linter.unusedSimpArgs false

/-! ### geom_rising: function 88 -/
def geom_rising.f (a0_0 : Int) (a0_1 : Int) (a0_2 : Int) (a1_0 : Int) (a1_1 : Int) (a1_2 : Int) : Option (Int × Int × Int × Int × Int × Int) := (geom_less.f a1_0 a1_1 a1_2 a0_0 a0_1 a0_2).bind fun t593 => (if t593 = true then (some (a1_0, a1_1, a1_2, a0_0, a0_1, a0_2)) else (some (a0_0, a0_1, a0_2, a1_0, a1_1, a1_2)))
set_option maxHeartbeats 8000000 in
set_option maxRecDepth 100000 in
theorem geom_rising.calls (a0_0 : Int) (a0_1 : Int) (a0_2 : Int) (a1_0 : Int) (a1_1 : Int) (a1_2 : Int) (r1 : Int) (r2 : Int) (r3 : Int) (r4 : Int) (r5 : Int) (r6 : Int) (w : World) (h : geom_rising.f a0_0 a0_1 a0_2 a1_0 a1_1 a1_2 = some (r1, r2, r3, r4, r5, r6)) :
  Calls Try.prog 88 #[.agg #[.int .i64 a0_0, .int .i64 a0_1, .int .i64 a0_2], .agg #[.int .i64 a1_0, .int .i64 a1_1, .int .i64 a1_2]] w fun e w' => e = .returned (.tuple #[.agg #[.int .i64 r1, .int .i64 r2, .int .i64 r3], .agg #[.int .i64 r4, .int .i64 r5, .int .i64 r6]]) ∧ Below w.heap.size w w' := by
 have hu27 := Try.underlying27
 have HB := Aside0.mk (Below.refl w.heap.size w)
 have H : ((geom_less.f a1_0 a1_1 a1_2 a0_0 a0_1 a0_2).bind fun t593 => (if t593 = true then (some (a1_0, a1_1, a1_2, a0_0, a0_1, a0_2)) else (some (a0_0, a0_1, a0_2, a1_0, a1_1, a1_2)))) = some (r1, r2, r3, r4, r5, r6) := h
 clear h
 replace H := Option.bind_eq_some_iff.mp H
 obtain ⟨t593, A30, H⟩ := H
 replace H : (if t593 = true then (some (a1_0, a1_1, a1_2, a0_0, a0_1, a0_2)) else (some (a0_0, a0_1, a0_2, a1_0, a1_1, a1_2))) = some (r1, r2, r3, r4, r5, r6) := H
 have A3 := Aside0.mk A30
 clear A30
 have HC4 := Aside0.mk H
 clear H
 go_enter Try.func88, Try.ntmps88
 go_upto_if 8 with (first | ((with_reducible refine gate_dst (N := 2) rfl ?_); refine box_event ?hg (N := 2) ?hd (cs := #[.int .i64 a0_0, .int .i64 a0_1, .int .i64 a0_2]) (t := 27) ?hr ?_; (case hd => rfl); (case hg => rfl); (case hr => first | (go_simp; done) | (go_simp; rfl)); intro gb589 hg w5 hbox hb; have n0_ := Aside0.mk (below_step (bH HB) hb); have n1_ := Aside0.mk (hbox); have n2_ := Aside0.mk ((by rw [hg]; exact (below_size (bH HB)) : w.heap.size ≤ gb589)); have n3_ := n2_; clear HB; have HB := n0_; have BK589 := n1_; have GW589 := n2_; have GE589 := n3_; clear n0_ n1_ n2_ n3_; clear hb hbox hg) | ((with_reducible refine gate_dst (N := 3) rfl ?_); refine box_event ?hg (N := 3) ?hd (cs := #[.int .i64 a1_0, .int .i64 a1_1, .int .i64 a1_2]) (t := 27) ?hr ?_; (case hd => rfl); (case hg => rfl); (case hr => first | (go_simp; done) | (go_simp; rfl)); intro gb590 hg w6 hbox hb; have n0_ := Aside0.mk (blk_below (g := gb589) (o := .cells #[.int .i64 a0_0, .int .i64 a0_1, .int .i64 a0_2] 27 (0, 0)) (bK BK589) hb); have n1_ := Aside0.mk (below_step (bH HB) hb); have n2_ := Aside0.mk (hbox); have n3_ := Aside0.mk ((by rw [hg]; exact (below_size (bH HB)) : w.heap.size ≤ gb590)); have n4_ := n3_; have n5_ := Aside0.mk ((by rw [hg]; exact Nat.ne_of_lt (blk_lt (bK BK589)) : gb589 ≠ gb590)); have n6_ := Aside0.mk ((by rw [hg]; exact Nat.ne_of_gt (blk_lt (bK BK589)) : gb590 ≠ gb589)); clear BK589; clear HB; have BK589 := n0_; have HB := n1_; have BK590 := n2_; have GW590 := n3_; have GE590 := n4_; have NB589_590 := n5_; have NB590_589 := n6_; clear n0_ n1_ n2_ n3_ n4_ n5_ n6_; clear hb hbox hg) | ((with_reducible refine gate_dst (N := 4) rfl ?_); refine box_event ?hg (N := 4) ?hd (cs := #[.int .i64 0, .int .i64 0, .int .i64 0]) (t := 27) ?hr ?_; (case hd => rfl); (case hg => rfl); (case hr => first | (go_simp; done) | (go_simp; rfl)); intro gb591 hg w7 hbox hb; have n0_ := Aside0.mk (blk_below (g := gb589) (o := .cells #[.int .i64 a0_0, .int .i64 a0_1, .int .i64 a0_2] 27 (0, 0)) (bK BK589) hb); have n1_ := Aside0.mk (blk_below (g := gb590) (o := .cells #[.int .i64 a1_0, .int .i64 a1_1, .int .i64 a1_2] 27 (0, 0)) (bK BK590) hb); have n2_ := Aside0.mk (below_step (bH HB) hb); have n3_ := Aside0.mk (hbox); have n4_ := Aside0.mk ((by rw [hg]; exact (below_size (bH HB)) : w.heap.size ≤ gb591)); have n5_ := n4_; have n6_ := Aside0.mk ((by rw [hg]; exact Nat.ne_of_lt (blk_lt (bK BK589)) : gb589 ≠ gb591)); have n7_ := Aside0.mk ((by rw [hg]; exact Nat.ne_of_gt (blk_lt (bK BK589)) : gb591 ≠ gb589)); have n8_ := Aside0.mk ((by rw [hg]; exact Nat.ne_of_lt (blk_lt (bK BK590)) : gb590 ≠ gb591)); have n9_ := Aside0.mk ((by rw [hg]; exact Nat.ne_of_gt (blk_lt (bK BK590)) : gb591 ≠ gb590)); clear BK589; clear BK590; clear HB; have BK589 := n0_; have BK590 := n1_; have HB := n2_; have BK591 := n3_; have GW591 := n4_; have GE591 := n5_; have NB589_591 := n6_; have NB591_589 := n7_; have NB590_591 := n8_; have NB591_590 := n9_; clear n0_ n1_ n2_ n3_ n4_ n5_ n6_ n7_ n8_ n9_; clear hb hbox hg) | ((with_reducible refine gate_dst (N := 5) rfl ?_); refine box_event ?hg (N := 5) ?hd (cs := #[.int .i64 0, .int .i64 0, .int .i64 0]) (t := 27) ?hr ?_; (case hd => rfl); (case hg => rfl); (case hr => first | (go_simp; done) | (go_simp; rfl)); intro gb592 hg w8 hbox hb; have n0_ := Aside0.mk (blk_below (g := gb589) (o := .cells #[.int .i64 a0_0, .int .i64 a0_1, .int .i64 a0_2] 27 (0, 0)) (bK BK589) hb); have n1_ := Aside0.mk (blk_below (g := gb590) (o := .cells #[.int .i64 a1_0, .int .i64 a1_1, .int .i64 a1_2] 27 (0, 0)) (bK BK590) hb); have n2_ := Aside0.mk (blk_below (g := gb591) (o := .cells #[.int .i64 0, .int .i64 0, .int .i64 0] 27 (0, 0)) (bK BK591) hb); have n3_ := Aside0.mk (below_step (bH HB) hb); have n4_ := Aside0.mk (hbox); have n5_ := Aside0.mk ((by rw [hg]; exact (below_size (bH HB)) : w.heap.size ≤ gb592)); have n6_ := n5_; have n7_ := Aside0.mk ((by rw [hg]; exact Nat.ne_of_lt (blk_lt (bK BK589)) : gb589 ≠ gb592)); have n8_ := Aside0.mk ((by rw [hg]; exact Nat.ne_of_gt (blk_lt (bK BK589)) : gb592 ≠ gb589)); have n9_ := Aside0.mk ((by rw [hg]; exact Nat.ne_of_lt (blk_lt (bK BK590)) : gb590 ≠ gb592)); have n10_ := Aside0.mk ((by rw [hg]; exact Nat.ne_of_gt (blk_lt (bK BK590)) : gb592 ≠ gb590)); have n11_ := Aside0.mk ((by rw [hg]; exact Nat.ne_of_lt (blk_lt (bK BK591)) : gb591 ≠ gb592)); have n12_ := Aside0.mk ((by rw [hg]; exact Nat.ne_of_gt (blk_lt (bK BK591)) : gb592 ≠ gb591)); clear BK589; clear BK590; clear BK591; clear HB; have BK589 := n0_; have BK590 := n1_; have BK591 := n2_; have HB := n3_; have BK592 := n4_; have GW592 := n5_; have GE592 := n6_; have NB589_592 := n7_; have NB592_589 := n8_; have NB590_592 := n9_; have NB592_590 := n10_; have NB591_592 := n11_; have NB592_591 := n12_; clear n0_ n1_ n2_ n3_ n4_ n5_ n6_ n7_ n8_ n9_ n10_ n11_ n12_; clear hb hbox hg; have hnb9 := NB590_589.out; have hnc9 := NB589_590.out; have hnb10 := NB590_591.out; have hnc10 := NB591_590.out; have hnb11 := NB590_592.out; have hnc11 := NB592_590.out; have hcz12_0 : w8.cell? ⟨gb590, 0, none⟩ = some (.int .i64 a1_0) := (blk_cell BK590.out 0).trans rfl; have hcz12_1 : w8.cell? ⟨gb590, 1, none⟩ = some (.int .i64 a1_1) := (blk_cell BK590.out 1).trans rfl; have hcz12_2 : w8.cell? ⟨gb590, 2, none⟩ = some (.int .i64 a1_2) := (blk_cell BK590.out 2).trans rfl; have hfz12_0 := blk_frozen BK590.out 0; have hfz12_1 := blk_frozen BK590.out 1; have hfz12_2 := blk_frozen BK590.out 2; have hnb13 := NB589_591.out; have hnc13 := NB591_589.out; have hnb14 := NB589_592.out; have hnc14 := NB592_589.out; have hcz15_0 : w8.cell? ⟨gb589, 0, none⟩ = some (.int .i64 a0_0) := (blk_cell BK589.out 0).trans rfl; have hcz15_1 : w8.cell? ⟨gb589, 1, none⟩ = some (.int .i64 a0_1) := (blk_cell BK589.out 1).trans rfl; have hcz15_2 : w8.cell? ⟨gb589, 2, none⟩ = some (.int .i64 a0_2) := (blk_cell BK589.out 2).trans rfl; have hfz15_0 := blk_frozen BK589.out 0; have hfz15_1 := blk_frozen BK589.out 1; have hfz15_2 := blk_frozen BK589.out 2) | ((with_reducible refine gate_callee (f := 89) rfl ?_); refine goesL_ (some 8) rfl rfl Try.func89 (by kernel_rfl) rfl #[.agg #[.int .i64 a1_0, .int .i64 a1_1, .int .i64 a1_2], .agg #[.int .i64 a0_0, .int .i64 a0_1, .int .i64 a0_2]] rfl (by (try simp only [List.map_toArray, List.map_cons, List.map_nil]); first | done | rfl | (simp only [List.length_drop, List.length_take]; rfl)) ?_; (with_reducible refine (geom_less.calls a1_0 a1_1 a1_2 a0_0 a0_1 a0_2 t593 _ A3.out).mono ?_); rintro e w16 ⟨rfl, hb⟩; refine ⟨_, rfl, ?_⟩; have n0_ := Aside0.mk (blk_below (g := gb589) (o := .cells #[.int .i64 a0_0, .int .i64 a0_1, .int .i64 a0_2] 27 (0, 0)) (bK BK589) hb); have n1_ := Aside0.mk (blk_below (g := gb590) (o := .cells #[.int .i64 a1_0, .int .i64 a1_1, .int .i64 a1_2] 27 (0, 0)) (bK BK590) hb); have n2_ := Aside0.mk (blk_below (g := gb591) (o := .cells #[.int .i64 0, .int .i64 0, .int .i64 0] 27 (0, 0)) (bK BK591) hb); have n3_ := Aside0.mk (blk_below (g := gb592) (o := .cells #[.int .i64 0, .int .i64 0, .int .i64 0] 27 (0, 0)) (bK BK592) hb); have n4_ := Aside0.mk (below_step (bH HB) hb); clear BK589; clear BK590; clear BK591; clear BK592; clear HB; have BK589 := n0_; have BK590 := n1_; have BK591 := n2_; have BK592 := n3_; have HB := n4_; clear n0_ n1_ n2_ n3_ n4_; (try clear hb); (try clear hb2); (try clear hk); (try clear hi)))
 (try simp only [Act.put, List.setIfInBounds_toArray, List.set_cons_zero, List.set_cons_succ])
 have H := HC4.out
 clear HC4
 by_cases c17 : t593 = true
 ·subst c17
  have H1 : (some (a1_0, a1_1, a1_2, a0_0, a0_1, a0_2)) = some (r1, r2, r3, r4, r5, r6) := by rw [if_pos rfl] at H; exact H
  clear H
  have H := H1
  clear H1
  simp only [Option.some.injEq, Prod.mk.injEq] at H
  obtain ⟨rfl, rfl, rfl, rfl, rfl, rfl⟩ := H
  try go_wp2
  have n0_ := Aside0.mk (blk_drew BK589.out)
  have n1_ := Aside0.mk (blk_drew BK590.out)
  have n2_ := Aside0.mk (blk_drew BK591.out)
  have n3_ := Aside0.mk (blk_drew BK592.out)
  have n4_ := Aside0.mk (below_drew1 HB.out)
  clear BK589
  clear BK590
  clear BK591
  clear BK592
  clear HB
  have BK589 := n0_
  have BK590 := n1_
  have BK591 := n2_
  have BK592 := n3_
  have HB := n4_
  clear n0_ n1_ n2_ n3_ n4_
  refine start_ (n := 4) (S := fun w' => w'.cell? ⟨gb590, 0, none⟩ = some (.int .i64 a1_0) ∧ w'.cell? ⟨gb590, 1, none⟩ = some (.int .i64 a1_1) ∧ w'.cell? ⟨gb590, 2, none⟩ = some (.int .i64 a1_2) ∧ w'.cell? ⟨gb589, 0, none⟩ = some (.int .i64 a0_0) ∧ w'.cell? ⟨gb589, 1, none⟩ = some (.int .i64 a0_1) ∧ w'.cell? ⟨gb589, 2, none⟩ = some (.int .i64 a0_2)) (ds := []) #[false, false, false, false] (by kernel_rfl) rfl rfl ⟨(blk_cell BK590.out 0).trans rfl, (blk_cell BK590.out 1).trans rfl, (blk_cell BK590.out 2).trans rfl, (blk_cell BK589.out 0).trans rfl, (blk_cell BK589.out 1).trans rfl, (blk_cell BK589.out 2).trans rfl⟩ (fun hHeld => ?_)
  generalize w16.drew = w18 at BK589 BK590 BK591 BK592 HB hHeld ⊢
  refine take_ (i := 0) (N := some 9) (v := ?_) (a' := ?_) #[true, false, false, false] rfl rfl (by kernel_rfl) (fun _ _ _ h => h) (Or.inl ⟨by rfl, ?_⟩) hHeld ?_ ?_
  rotate_left
  ·rintro w' ⟨s0, s1, s2, s3, s4, s5⟩
   go_simp
   with_reducible rfl
  rotate_left
  ·simp only [Act.put, List.setIfInBounds_toArray, List.set_cons_zero, List.set_cons_succ, i64_w, i32_w]
   rfl
  refine take_ (i := 1) (N := some 10) (v := ?_) (a' := ?_) #[true, true, false, false] rfl rfl (by kernel_rfl) (fun _ _ _ h => h) (Or.inl ⟨by rfl, ?_⟩) hHeld ?_ ?_
  rotate_left
  ·rintro w' ⟨s0, s1, s2, s3, s4, s5⟩
   go_simp
   with_reducible rfl
  rotate_left
  ·simp only [Act.put, List.setIfInBounds_toArray, List.set_cons_zero, List.set_cons_succ, i64_w, i32_w]
   rfl
  refine one_ (i := 2) (N := none) #[true, true, true, false] rfl rfl (by kernel_rfl) (by decide) (fun K hK => ?_)
  have hs19 : w18.cell? ⟨gb591, 0, none⟩ = some (.int .i64 0) := (blk_cell BK591.out 0).trans rfl
  have hfs19 := blk_frozen BK591.out 0
  have hns19_0 := NB589_591.out
  have hns19_1 := NB590_591.out
  have hns19_3 := NB592_591.out
  have hms19_0 := NB591_589.out
  have hms19_1 := NB591_590.out
  have hms19_3 := NB591_592.out
  have hs20 : w18.cell? ⟨gb591, 1, none⟩ = some (.int .i64 0) := (blk_cell BK591.out 1).trans rfl
  have hfs20 := blk_frozen BK591.out 1
  have hns20_0 := NB589_591.out
  have hns20_1 := NB590_591.out
  have hns20_3 := NB592_591.out
  have hms20_0 := NB591_589.out
  have hms20_1 := NB591_590.out
  have hms20_3 := NB591_592.out
  have hs21 : w18.cell? ⟨gb591, 2, none⟩ = some (.int .i64 0) := (blk_cell BK591.out 2).trans rfl
  have hfs21 := blk_frozen BK591.out 2
  have hns21_0 := NB589_591.out
  have hns21_1 := NB590_591.out
  have hns21_3 := NB592_591.out
  have hms21_0 := NB591_589.out
  have hms21_1 := NB591_590.out
  have hms21_3 := NB591_592.out
  refine skip_ (w1 := ?_) (by rfl) rfl ?_ ?_
  rotate_left
  ·go_simp
   rfl
  refine hK.out _ _ ⟨((cell_far (p := ⟨gb591, _, none⟩) NB590_591.out _).trans (((cell_far (p := ⟨gb591, _, none⟩) NB590_591.out _).trans (((cell_far (p := ⟨gb591, _, none⟩) NB590_591.out _).trans (hHeld.1)))))), ((cell_far (p := ⟨gb591, _, none⟩) NB590_591.out _).trans (((cell_far (p := ⟨gb591, _, none⟩) NB590_591.out _).trans (((cell_far (p := ⟨gb591, _, none⟩) NB590_591.out _).trans (hHeld.2.1)))))), ((cell_far (p := ⟨gb591, _, none⟩) NB590_591.out _).trans (((cell_far (p := ⟨gb591, _, none⟩) NB590_591.out _).trans (((cell_far (p := ⟨gb591, _, none⟩) NB590_591.out _).trans (hHeld.2.2.1)))))), ((cell_far (p := ⟨gb591, _, none⟩) NB589_591.out _).trans (((cell_far (p := ⟨gb591, _, none⟩) NB589_591.out _).trans (((cell_far (p := ⟨gb591, _, none⟩) NB589_591.out _).trans (hHeld.2.2.2.1)))))), ((cell_far (p := ⟨gb591, _, none⟩) NB589_591.out _).trans (((cell_far (p := ⟨gb591, _, none⟩) NB589_591.out _).trans (((cell_far (p := ⟨gb591, _, none⟩) NB589_591.out _).trans (hHeld.2.2.2.2.1)))))), ((cell_far (p := ⟨gb591, _, none⟩) NB589_591.out _).trans (((cell_far (p := ⟨gb591, _, none⟩) NB589_591.out _).trans (((cell_far (p := ⟨gb591, _, none⟩) NB589_591.out _).trans (hHeld.2.2.2.2.2))))))⟩ (fun hHeld => ?_)
  clear hK K
  refine one_ (i := 3) (N := none) #[true, true, true, true] rfl rfl (by kernel_rfl) (by decide) (fun K hK => ?_)
  have hs22 : w18.cell? ⟨gb592, 0, none⟩ = some (.int .i64 0) := (blk_cell BK592.out 0).trans rfl
  have hfs22 := blk_frozen BK592.out 0
  have hns22_0 := NB589_592.out
  have hns22_1 := NB590_592.out
  have hns22_2 := NB591_592.out
  have hms22_0 := NB592_589.out
  have hms22_1 := NB592_590.out
  have hms22_2 := NB592_591.out
  have hs23 : w18.cell? ⟨gb592, 1, none⟩ = some (.int .i64 0) := (blk_cell BK592.out 1).trans rfl
  have hfs23 := blk_frozen BK592.out 1
  have hns23_0 := NB589_592.out
  have hns23_1 := NB590_592.out
  have hns23_2 := NB591_592.out
  have hms23_0 := NB592_589.out
  have hms23_1 := NB592_590.out
  have hms23_2 := NB592_591.out
  have hs24 : w18.cell? ⟨gb592, 2, none⟩ = some (.int .i64 0) := (blk_cell BK592.out 2).trans rfl
  have hfs24 := blk_frozen BK592.out 2
  have hns24_0 := NB589_592.out
  have hns24_1 := NB590_592.out
  have hns24_2 := NB591_592.out
  have hms24_0 := NB592_589.out
  have hms24_1 := NB592_590.out
  have hms24_2 := NB592_591.out
  refine skip_ (w1 := ?_) (by rfl) rfl ?_ ?_
  rotate_left
  ·go_simp
   rfl
  refine hK.out _ _ ⟨((cell_far (p := ⟨gb592, _, none⟩) NB590_592.out _).trans (((cell_far (p := ⟨gb592, _, none⟩) NB590_592.out _).trans (((cell_far (p := ⟨gb592, _, none⟩) NB590_592.out _).trans (hHeld.1)))))), ((cell_far (p := ⟨gb592, _, none⟩) NB590_592.out _).trans (((cell_far (p := ⟨gb592, _, none⟩) NB590_592.out _).trans (((cell_far (p := ⟨gb592, _, none⟩) NB590_592.out _).trans (hHeld.2.1)))))), ((cell_far (p := ⟨gb592, _, none⟩) NB590_592.out _).trans (((cell_far (p := ⟨gb592, _, none⟩) NB590_592.out _).trans (((cell_far (p := ⟨gb592, _, none⟩) NB590_592.out _).trans (hHeld.2.2.1)))))), ((cell_far (p := ⟨gb592, _, none⟩) NB589_592.out _).trans (((cell_far (p := ⟨gb592, _, none⟩) NB589_592.out _).trans (((cell_far (p := ⟨gb592, _, none⟩) NB589_592.out _).trans (hHeld.2.2.2.1)))))), ((cell_far (p := ⟨gb592, _, none⟩) NB589_592.out _).trans (((cell_far (p := ⟨gb592, _, none⟩) NB589_592.out _).trans (((cell_far (p := ⟨gb592, _, none⟩) NB589_592.out _).trans (hHeld.2.2.2.2.1)))))), ((cell_far (p := ⟨gb592, _, none⟩) NB589_592.out _).trans (((cell_far (p := ⟨gb592, _, none⟩) NB589_592.out _).trans (((cell_far (p := ⟨gb592, _, none⟩) NB589_592.out _).trans (hHeld.2.2.2.2.2))))))⟩ (fun hHeld => ?_)
  clear hK K
  refine done_ (by kernel_rfl) ?_
  try go_wp2
  refine bodyPost_ret (results_cc rfl _ _ gb591 gb592 27 27 #[.int .i64 a1_0, .int .i64 a1_1, .int .i64 a1_2] #[.int .i64 a0_0, .int .i64 a0_1, .int .i64 a0_2] (0, 0) (0, 0) _ _ rfl (by (with_reducible repeat (first | refine blk_drewN ?_ _ | refine blk_drew ?_ | refine blk_alloc ?_ _)); refine blk_far ?_ NB591_592.out _; (with_reducible repeat (first | refine blk_drewN ?_ _ | refine blk_drew ?_ | refine blk_alloc ?_ _)); refine blk_far ?_ NB591_592.out _; (with_reducible repeat (first | refine blk_drewN ?_ _ | refine blk_drew ?_ | refine blk_alloc ?_ _)); refine blk_far ?_ NB591_592.out _; (with_reducible repeat (first | refine blk_drewN ?_ _ | refine blk_drew ?_ | refine blk_alloc ?_ _)); refine blk_put (cs := #[.int .i64 a1_0, .int .i64 a1_1, .int .i64 0]) ?_ 2 _ rfl; (with_reducible repeat (first | refine blk_drewN ?_ _ | refine blk_drew ?_ | refine blk_alloc ?_ _)); refine blk_put (cs := #[.int .i64 a1_0, .int .i64 0, .int .i64 0]) ?_ 1 _ rfl; (with_reducible repeat (first | refine blk_drewN ?_ _ | refine blk_drew ?_ | refine blk_alloc ?_ _)); refine blk_put (cs := #[.int .i64 0, .int .i64 0, .int .i64 0]) ?_ 0 _ rfl; (with_reducible repeat (first | refine blk_drewN ?_ _ | refine blk_drew ?_ | refine blk_alloc ?_ _)); exact BK591.out) Try.underlying27 rfl (by kernel_rfl) rfl (by (with_reducible repeat (first | refine blk_drewN ?_ _ | refine blk_drew ?_ | refine blk_alloc ?_ _)); refine blk_put (cs := #[.int .i64 a0_0, .int .i64 a0_1, .int .i64 0]) ?_ 2 _ rfl; (with_reducible repeat (first | refine blk_drewN ?_ _ | refine blk_drew ?_ | refine blk_alloc ?_ _)); refine blk_put (cs := #[.int .i64 a0_0, .int .i64 0, .int .i64 0]) ?_ 1 _ rfl; (with_reducible repeat (first | refine blk_drewN ?_ _ | refine blk_drew ?_ | refine blk_alloc ?_ _)); refine blk_put (cs := #[.int .i64 0, .int .i64 0, .int .i64 0]) ?_ 0 _ rfl; (with_reducible repeat (first | refine blk_drewN ?_ _ | refine blk_drew ?_ | refine blk_alloc ?_ _)); refine blk_far ?_ NB592_591.out _; (with_reducible repeat (first | refine blk_drewN ?_ _ | refine blk_drew ?_ | refine blk_alloc ?_ _)); refine blk_far ?_ NB592_591.out _; (with_reducible repeat (first | refine blk_drewN ?_ _ | refine blk_drew ?_ | refine blk_alloc ?_ _)); refine blk_far ?_ NB592_591.out _; (with_reducible repeat (first | refine blk_drewN ?_ _ | refine blk_drew ?_ | refine blk_alloc ?_ _)); exact BK592.out) Try.underlying27 rfl (by kernel_rfl)) rfl ?_
  exact ⟨by first | rfl | (simp [errW_none, errW_some] <;> rfl) | (simp [*, errW_none, errW_some] <;> rfl), bH HB⟩
 ·replace c17 := Bool.eq_false_iff.mpr c17
  subst c17
  have H1 : (some (a0_0, a0_1, a0_2, a1_0, a1_1, a1_2)) = some (r1, r2, r3, r4, r5, r6) := by rw [if_neg (show ¬ (false = true) by decide)] at H; exact H
  clear H
  have H := H1
  clear H1
  simp only [Option.some.injEq, Prod.mk.injEq] at H
  obtain ⟨rfl, rfl, rfl, rfl, rfl, rfl⟩ := H
  try go_wp2
  have n0_ := Aside0.mk (blk_drew BK589.out)
  have n1_ := Aside0.mk (blk_drew BK590.out)
  have n2_ := Aside0.mk (blk_drew BK591.out)
  have n3_ := Aside0.mk (blk_drew BK592.out)
  have n4_ := Aside0.mk (below_drew1 HB.out)
  clear BK589
  clear BK590
  clear BK591
  clear BK592
  clear HB
  have BK589 := n0_
  have BK590 := n1_
  have BK591 := n2_
  have BK592 := n3_
  have HB := n4_
  clear n0_ n1_ n2_ n3_ n4_
  refine start_ (n := 4) (S := fun w' => w'.cell? ⟨gb589, 0, none⟩ = some (.int .i64 a0_0) ∧ w'.cell? ⟨gb589, 1, none⟩ = some (.int .i64 a0_1) ∧ w'.cell? ⟨gb589, 2, none⟩ = some (.int .i64 a0_2) ∧ w'.cell? ⟨gb590, 0, none⟩ = some (.int .i64 a1_0) ∧ w'.cell? ⟨gb590, 1, none⟩ = some (.int .i64 a1_1) ∧ w'.cell? ⟨gb590, 2, none⟩ = some (.int .i64 a1_2)) (ds := []) #[false, false, false, false] (by kernel_rfl) rfl rfl ⟨(blk_cell BK589.out 0).trans rfl, (blk_cell BK589.out 1).trans rfl, (blk_cell BK589.out 2).trans rfl, (blk_cell BK590.out 0).trans rfl, (blk_cell BK590.out 1).trans rfl, (blk_cell BK590.out 2).trans rfl⟩ (fun hHeld => ?_)
  generalize w16.drew = w25 at BK589 BK590 BK591 BK592 HB hHeld ⊢
  refine take_ (i := 0) (N := some 11) (v := ?_) (a' := ?_) #[true, false, false, false] rfl rfl (by kernel_rfl) (fun _ _ _ h => h) (Or.inl ⟨by rfl, ?_⟩) hHeld ?_ ?_
  rotate_left
  ·rintro w' ⟨s0, s1, s2, s3, s4, s5⟩
   go_simp
   with_reducible rfl
  rotate_left
  ·simp only [Act.put, List.setIfInBounds_toArray, List.set_cons_zero, List.set_cons_succ, i64_w, i32_w]
   rfl
  refine take_ (i := 1) (N := some 12) (v := ?_) (a' := ?_) #[true, true, false, false] rfl rfl (by kernel_rfl) (fun _ _ _ h => h) (Or.inl ⟨by rfl, ?_⟩) hHeld ?_ ?_
  rotate_left
  ·rintro w' ⟨s0, s1, s2, s3, s4, s5⟩
   go_simp
   with_reducible rfl
  rotate_left
  ·simp only [Act.put, List.setIfInBounds_toArray, List.set_cons_zero, List.set_cons_succ, i64_w, i32_w]
   rfl
  refine one_ (i := 2) (N := none) #[true, true, true, false] rfl rfl (by kernel_rfl) (by decide) (fun K hK => ?_)
  have hs26 : w25.cell? ⟨gb591, 0, none⟩ = some (.int .i64 0) := (blk_cell BK591.out 0).trans rfl
  have hfs26 := blk_frozen BK591.out 0
  have hns26_0 := NB589_591.out
  have hns26_1 := NB590_591.out
  have hns26_3 := NB592_591.out
  have hms26_0 := NB591_589.out
  have hms26_1 := NB591_590.out
  have hms26_3 := NB591_592.out
  have hs27 : w25.cell? ⟨gb591, 1, none⟩ = some (.int .i64 0) := (blk_cell BK591.out 1).trans rfl
  have hfs27 := blk_frozen BK591.out 1
  have hns27_0 := NB589_591.out
  have hns27_1 := NB590_591.out
  have hns27_3 := NB592_591.out
  have hms27_0 := NB591_589.out
  have hms27_1 := NB591_590.out
  have hms27_3 := NB591_592.out
  have hs28 : w25.cell? ⟨gb591, 2, none⟩ = some (.int .i64 0) := (blk_cell BK591.out 2).trans rfl
  have hfs28 := blk_frozen BK591.out 2
  have hns28_0 := NB589_591.out
  have hns28_1 := NB590_591.out
  have hns28_3 := NB592_591.out
  have hms28_0 := NB591_589.out
  have hms28_1 := NB591_590.out
  have hms28_3 := NB591_592.out
  refine skip_ (w1 := ?_) (by rfl) rfl ?_ ?_
  rotate_left
  ·go_simp
   rfl
  refine hK.out _ _ ⟨((cell_far (p := ⟨gb591, _, none⟩) NB589_591.out _).trans (((cell_far (p := ⟨gb591, _, none⟩) NB589_591.out _).trans (((cell_far (p := ⟨gb591, _, none⟩) NB589_591.out _).trans (hHeld.1)))))), ((cell_far (p := ⟨gb591, _, none⟩) NB589_591.out _).trans (((cell_far (p := ⟨gb591, _, none⟩) NB589_591.out _).trans (((cell_far (p := ⟨gb591, _, none⟩) NB589_591.out _).trans (hHeld.2.1)))))), ((cell_far (p := ⟨gb591, _, none⟩) NB589_591.out _).trans (((cell_far (p := ⟨gb591, _, none⟩) NB589_591.out _).trans (((cell_far (p := ⟨gb591, _, none⟩) NB589_591.out _).trans (hHeld.2.2.1)))))), ((cell_far (p := ⟨gb591, _, none⟩) NB590_591.out _).trans (((cell_far (p := ⟨gb591, _, none⟩) NB590_591.out _).trans (((cell_far (p := ⟨gb591, _, none⟩) NB590_591.out _).trans (hHeld.2.2.2.1)))))), ((cell_far (p := ⟨gb591, _, none⟩) NB590_591.out _).trans (((cell_far (p := ⟨gb591, _, none⟩) NB590_591.out _).trans (((cell_far (p := ⟨gb591, _, none⟩) NB590_591.out _).trans (hHeld.2.2.2.2.1)))))), ((cell_far (p := ⟨gb591, _, none⟩) NB590_591.out _).trans (((cell_far (p := ⟨gb591, _, none⟩) NB590_591.out _).trans (((cell_far (p := ⟨gb591, _, none⟩) NB590_591.out _).trans (hHeld.2.2.2.2.2))))))⟩ (fun hHeld => ?_)
  clear hK K
  refine one_ (i := 3) (N := none) #[true, true, true, true] rfl rfl (by kernel_rfl) (by decide) (fun K hK => ?_)
  have hs29 : w25.cell? ⟨gb592, 0, none⟩ = some (.int .i64 0) := (blk_cell BK592.out 0).trans rfl
  have hfs29 := blk_frozen BK592.out 0
  have hns29_0 := NB589_592.out
  have hns29_1 := NB590_592.out
  have hns29_2 := NB591_592.out
  have hms29_0 := NB592_589.out
  have hms29_1 := NB592_590.out
  have hms29_2 := NB592_591.out
  have hs30 : w25.cell? ⟨gb592, 1, none⟩ = some (.int .i64 0) := (blk_cell BK592.out 1).trans rfl
  have hfs30 := blk_frozen BK592.out 1
  have hns30_0 := NB589_592.out
  have hns30_1 := NB590_592.out
  have hns30_2 := NB591_592.out
  have hms30_0 := NB592_589.out
  have hms30_1 := NB592_590.out
  have hms30_2 := NB592_591.out
  have hs31 : w25.cell? ⟨gb592, 2, none⟩ = some (.int .i64 0) := (blk_cell BK592.out 2).trans rfl
  have hfs31 := blk_frozen BK592.out 2
  have hns31_0 := NB589_592.out
  have hns31_1 := NB590_592.out
  have hns31_2 := NB591_592.out
  have hms31_0 := NB592_589.out
  have hms31_1 := NB592_590.out
  have hms31_2 := NB592_591.out
  refine skip_ (w1 := ?_) (by rfl) rfl ?_ ?_
  rotate_left
  ·go_simp
   rfl
  refine hK.out _ _ ⟨((cell_far (p := ⟨gb592, _, none⟩) NB589_592.out _).trans (((cell_far (p := ⟨gb592, _, none⟩) NB589_592.out _).trans (((cell_far (p := ⟨gb592, _, none⟩) NB589_592.out _).trans (hHeld.1)))))), ((cell_far (p := ⟨gb592, _, none⟩) NB589_592.out _).trans (((cell_far (p := ⟨gb592, _, none⟩) NB589_592.out _).trans (((cell_far (p := ⟨gb592, _, none⟩) NB589_592.out _).trans (hHeld.2.1)))))), ((cell_far (p := ⟨gb592, _, none⟩) NB589_592.out _).trans (((cell_far (p := ⟨gb592, _, none⟩) NB589_592.out _).trans (((cell_far (p := ⟨gb592, _, none⟩) NB589_592.out _).trans (hHeld.2.2.1)))))), ((cell_far (p := ⟨gb592, _, none⟩) NB590_592.out _).trans (((cell_far (p := ⟨gb592, _, none⟩) NB590_592.out _).trans (((cell_far (p := ⟨gb592, _, none⟩) NB590_592.out _).trans (hHeld.2.2.2.1)))))), ((cell_far (p := ⟨gb592, _, none⟩) NB590_592.out _).trans (((cell_far (p := ⟨gb592, _, none⟩) NB590_592.out _).trans (((cell_far (p := ⟨gb592, _, none⟩) NB590_592.out _).trans (hHeld.2.2.2.2.1)))))), ((cell_far (p := ⟨gb592, _, none⟩) NB590_592.out _).trans (((cell_far (p := ⟨gb592, _, none⟩) NB590_592.out _).trans (((cell_far (p := ⟨gb592, _, none⟩) NB590_592.out _).trans (hHeld.2.2.2.2.2))))))⟩ (fun hHeld => ?_)
  clear hK K
  refine done_ (by kernel_rfl) ?_
  try go_wp2
  refine bodyPost_ret (results_cc rfl _ _ gb591 gb592 27 27 #[.int .i64 a0_0, .int .i64 a0_1, .int .i64 a0_2] #[.int .i64 a1_0, .int .i64 a1_1, .int .i64 a1_2] (0, 0) (0, 0) _ _ rfl (by (with_reducible repeat (first | refine blk_drewN ?_ _ | refine blk_drew ?_ | refine blk_alloc ?_ _)); refine blk_far ?_ NB591_592.out _; (with_reducible repeat (first | refine blk_drewN ?_ _ | refine blk_drew ?_ | refine blk_alloc ?_ _)); refine blk_far ?_ NB591_592.out _; (with_reducible repeat (first | refine blk_drewN ?_ _ | refine blk_drew ?_ | refine blk_alloc ?_ _)); refine blk_far ?_ NB591_592.out _; (with_reducible repeat (first | refine blk_drewN ?_ _ | refine blk_drew ?_ | refine blk_alloc ?_ _)); refine blk_put (cs := #[.int .i64 a0_0, .int .i64 a0_1, .int .i64 0]) ?_ 2 _ rfl; (with_reducible repeat (first | refine blk_drewN ?_ _ | refine blk_drew ?_ | refine blk_alloc ?_ _)); refine blk_put (cs := #[.int .i64 a0_0, .int .i64 0, .int .i64 0]) ?_ 1 _ rfl; (with_reducible repeat (first | refine blk_drewN ?_ _ | refine blk_drew ?_ | refine blk_alloc ?_ _)); refine blk_put (cs := #[.int .i64 0, .int .i64 0, .int .i64 0]) ?_ 0 _ rfl; (with_reducible repeat (first | refine blk_drewN ?_ _ | refine blk_drew ?_ | refine blk_alloc ?_ _)); exact BK591.out) Try.underlying27 rfl (by kernel_rfl) rfl (by (with_reducible repeat (first | refine blk_drewN ?_ _ | refine blk_drew ?_ | refine blk_alloc ?_ _)); refine blk_put (cs := #[.int .i64 a1_0, .int .i64 a1_1, .int .i64 0]) ?_ 2 _ rfl; (with_reducible repeat (first | refine blk_drewN ?_ _ | refine blk_drew ?_ | refine blk_alloc ?_ _)); refine blk_put (cs := #[.int .i64 a1_0, .int .i64 0, .int .i64 0]) ?_ 1 _ rfl; (with_reducible repeat (first | refine blk_drewN ?_ _ | refine blk_drew ?_ | refine blk_alloc ?_ _)); refine blk_put (cs := #[.int .i64 0, .int .i64 0, .int .i64 0]) ?_ 0 _ rfl; (with_reducible repeat (first | refine blk_drewN ?_ _ | refine blk_drew ?_ | refine blk_alloc ?_ _)); refine blk_far ?_ NB592_591.out _; (with_reducible repeat (first | refine blk_drewN ?_ _ | refine blk_drew ?_ | refine blk_alloc ?_ _)); refine blk_far ?_ NB592_591.out _; (with_reducible repeat (first | refine blk_drewN ?_ _ | refine blk_drew ?_ | refine blk_alloc ?_ _)); refine blk_far ?_ NB592_591.out _; (with_reducible repeat (first | refine blk_drewN ?_ _ | refine blk_drew ?_ | refine blk_alloc ?_ _)); exact BK592.out) Try.underlying27 rfl (by kernel_rfl)) rfl ?_
  exact ⟨by first | rfl | (simp [errW_none, errW_some] <;> rfl) | (simp [*, errW_none, errW_some] <;> rfl), bH HB⟩

end Go.Proofs.Ytbonkedecfjmdaa.P
