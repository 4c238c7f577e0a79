/- Written for this claim by a program of this session (a turned copy of the print): Go functions as Lean functions, and that the Go code comes to just these answers; or a statement proved out of them. No condition. -/
import Derived.Test.YtlnjbpapbifjfaaPx0
import Derived.Test.YtlnjbpapbifjfaaPx3
import Derived.Test.YtlnjbpapbifjfaaPx11
namespace Go.Proofs.Ytlnjbpapbifjfaa.P
open Go.RowKit Go.Proofs.YtlnjbpapbifjfaaW.PrintWords Go.Proofs.YtlnjbpapbifjfaaW.PrintLast Go.Proofs.YtlnjbpapbifjfaaW.PrintMore Go.Proofs.Ytlnjbpapbifjfaa.X
attribute [local go_sem] max2_int min2_int max_two min_two max_three min_three max_four min_four add64_0 add64_1 add64   -- for this text's walks alone
set_option linter.unusedVariables false
set_option linter.unusedSimpArgs false

/-! ### geom_Turn: function 20 -/
def geom_Turn.f (k : Nat) (a0_0 : Int) (a0_1 : Int) (a0_2 : Int) (a1_0 : Int) (a1_1 : Int) (a1_2 : Int) (a2_0 : Int) (a2_1 : Int) (a2_2 : Int) : Option (Int) := (geom_Right.f k (([(⟨a0_0, a0_1, a0_2⟩ : S23), (⟨a1_0, a1_1, a1_2⟩ : S23), (⟨a2_0, a2_1, a2_2⟩ : S23)] : List (S23)))).bind fun t473 => (if t473 = true then ((geom_turn.f k a0_0 a0_1 a0_2 a1_0 a1_1 a1_2 a2_0 a2_1 a2_2).bind fun t474 => (some t474)) else (some 0))
theorem geom_Turn.mono : ∀ a0 a1 a2 a3 a4 a5 a6 a7 a8 k, LeO (geom_Turn.f k a0 a1 a2 a3 a4 a5 a6 a7 a8) (geom_Turn.f (k + 1) a0 a1 a2 a3 a4 a5 a6 a7 a8) := by
 intro a0 a1 a2 a3 a4 a5 a6 a7 a8 k
 unfold geom_Turn.f
 repeat' first
   | (with_reducible exact geom_Right.mono _ _)
   | (with_reducible exact geom_turn.mono _ _ _ _ _ _ _ _ _ _)
   | (with_reducible exact LeO.refl _)
   | (with_reducible exact LeO.none _)
   | (with_reducible refine LeO.ite ?_ ?_)
   | (with_reducible refine LeO.bind ?_ (fun _ => ?_))
   | exact geom_Right.mono _ _
   | exact geom_turn.mono _ _ _ _ _ _ _ _ _ _
   | exact LeO.none _
   | refine LeO.ite ?_ ?_
   | refine LeO.bind ?_ (fun _ => ?_)
set_option maxHeartbeats 8000000 in
set_option maxRecDepth 100000 in
theorem geom_Turn.calls (k : Nat) (a0_0 : Int) (a0_1 : Int) (a0_2 : Int) (a1_0 : Int) (a1_1 : Int) (a1_2 : Int) (a2_0 : Int) (a2_1 : Int) (a2_2 : Int) (r : Int) (w : World) (h : geom_Turn.f k a0_0 a0_1 a0_2 a1_0 a1_1 a1_2 a2_0 a2_1 a2_2 = some r) :
  Calls Try.prog 20 #[.agg #[.int .i64 a0_0, .int .i64 a0_1, .int .i64 a0_2], .agg #[.int .i64 a1_0, .int .i64 a1_1, .int .i64 a1_2], .agg #[.int .i64 a2_0, .int .i64 a2_1, .int .i64 a2_2]] w fun e w' => e = .returned (.int .i64 r) ∧ Below w.heap.size w w' := by
 have hu23 := Try.underlying23
 have HB := Aside0.mk (Below.refl w.heap.size w)
 have H : ((geom_Right.f k (([(⟨a0_0, a0_1, a0_2⟩ : S23), (⟨a1_0, a1_1, a1_2⟩ : S23), (⟨a2_0, a2_1, a2_2⟩ : S23)] : List (S23)))).bind fun t473 => (if t473 = true then ((geom_turn.f k a0_0 a0_1 a0_2 a1_0 a1_1 a1_2 a2_0 a2_1 a2_2).bind fun t474 => (some t474)) else (some 0))) = some r := h
 clear h
 obtain ⟨y470, hy470⟩ : ∃ y_ : List (S23), y_ = (([(⟨a0_0, a0_1, a0_2⟩ : S23), (⟨a1_0, a1_1, a1_2⟩ : S23), (⟨a2_0, a2_1, a2_2⟩ : S23)] : List (S23))) := ⟨_, rfl⟩
 replace H : ((geom_Right.f k y470).bind fun t473 => (if t473 = true then ((geom_turn.f k a0_0 a0_1 a0_2 a1_0 a1_1 a1_2 a2_0 a2_1 a2_2).bind fun t474 => (some t474)) else (some 0))) = some r := by first | (rw [hy470]; with_reducible exact H) | (have H2_ := (Option.bind_some _ _).symm.trans H; rw [hy470]; with_reducible exact H2_) | (have H2_ := (Option.bind_some _ _).symm.trans H; with_reducible exact H2_) | with_reducible exact H | (rw [hy470]; exact H) | exact H
 have Ny470 := Aside0.mk hy470
 clear hy470
 replace H := Option.bind_eq_some_iff.mp H
 obtain ⟨t473, A40, H⟩ := H
 replace H : (if t473 = true then ((geom_turn.f k a0_0 a0_1 a0_2 a1_0 a1_1 a1_2 a2_0 a2_1 a2_2).bind fun t474 => (some t474)) else (some 0)) = some r := H
 have A4 := Aside0.mk A40
 clear A40
 have HC5 := Aside0.mk H
 clear H
 go_enter Try.func20, Try.ntmps20
 go_upto_if 12 with (first | ((with_reducible refine gate_dst (N := 3) rfl ?_); refine box_event ?hg (N := 3) ?hd (cs := #[.int .i64 a0_0, .int .i64 a0_1, .int .i64 a0_2]) (t := 23) ?hr ?_; (case hd => rfl); (case hg => rfl); (case hr => first | (go_simp; done) | (go_simp; rfl)); intro gb467 hg w6 hbox hb; have n0_ := Aside0.mk (below_step (bH HB) hb); have n1_ := Aside0.mk (hbox); have n2_ := Aside0.mk ((by rw [hg]; exact (below_size (bH HB)) : w.heap.size ≤ gb467)); have n3_ := n2_; clear HB; have HB := n0_; have BK467 := n1_; have GW467 := n2_; have GE467 := n3_; clear n0_ n1_ n2_ n3_; clear hb hbox hg) | ((with_reducible refine gate_dst (N := 4) rfl ?_); refine box_event ?hg (N := 4) ?hd (cs := #[.int .i64 a1_0, .int .i64 a1_1, .int .i64 a1_2]) (t := 23) ?hr ?_; (case hd => rfl); (case hg => rfl); (case hr => first | (go_simp; done) | (go_simp; rfl)); intro gb468 hg w7 hbox hb; have n0_ := Aside0.mk (blk_below (g := gb467) (o := .cells #[.int .i64 a0_0, .int .i64 a0_1, .int .i64 a0_2] 23 (0, 0)) (bK BK467) hb); have n1_ := Aside0.mk (below_step (bH HB) hb); have n2_ := Aside0.mk (hbox); have n3_ := Aside0.mk ((by rw [hg]; exact (below_size (bH HB)) : w.heap.size ≤ gb468)); have n4_ := n3_; have n5_ := Aside0.mk ((by rw [hg]; exact Nat.ne_of_lt (blk_lt (bK BK467)) : gb467 ≠ gb468)); have n6_ := Aside0.mk ((by rw [hg]; exact Nat.ne_of_gt (blk_lt (bK BK467)) : gb468 ≠ gb467)); clear BK467; clear HB; have BK467 := n0_; have HB := n1_; have BK468 := n2_; have GW468 := n3_; have GE468 := n4_; have NB467_468 := n5_; have NB468_467 := n6_; clear n0_ n1_ n2_ n3_ n4_ n5_ n6_; clear hb hbox hg) | ((with_reducible refine gate_dst (N := 5) rfl ?_); refine box_event ?hg (N := 5) ?hd (cs := #[.int .i64 a2_0, .int .i64 a2_1, .int .i64 a2_2]) (t := 23) ?hr ?_; (case hd => rfl); (case hg => rfl); (case hr => first | (go_simp; done) | (go_simp; rfl)); intro gb469 hg w8 hbox hb; have n0_ := Aside0.mk (blk_below (g := gb467) (o := .cells #[.int .i64 a0_0, .int .i64 a0_1, .int .i64 a0_2] 23 (0, 0)) (bK BK467) hb); have n1_ := Aside0.mk (blk_below (g := gb468) (o := .cells #[.int .i64 a1_0, .int .i64 a1_1, .int .i64 a1_2] 23 (0, 0)) (bK BK468) hb); have n2_ := Aside0.mk (below_step (bH HB) hb); have n3_ := Aside0.mk (hbox); have n4_ := Aside0.mk ((by rw [hg]; exact (below_size (bH HB)) : w.heap.size ≤ gb469)); have n5_ := n4_; have n6_ := Aside0.mk ((by rw [hg]; exact Nat.ne_of_lt (blk_lt (bK BK467)) : gb467 ≠ gb469)); have n7_ := Aside0.mk ((by rw [hg]; exact Nat.ne_of_gt (blk_lt (bK BK467)) : gb469 ≠ gb467)); have n8_ := Aside0.mk ((by rw [hg]; exact Nat.ne_of_lt (blk_lt (bK BK468)) : gb468 ≠ gb469)); have n9_ := Aside0.mk ((by rw [hg]; exact Nat.ne_of_gt (blk_lt (bK BK468)) : gb469 ≠ gb468)); clear BK467; clear BK468; clear HB; have BK467 := n0_; have BK468 := n1_; have HB := n2_; have BK469 := n3_; have GW469 := n4_; have GE469 := n5_; have NB467_469 := n6_; have NB469_467 := n7_; have NB468_469 := n8_; have NB469_468 := n9_; clear n0_ n1_ n2_ n3_ n4_ n5_ n6_ n7_ n8_ n9_; clear hb hbox hg; have hnb9 := NB467_468.out; have hnc9 := NB468_467.out; have hnb10 := NB467_469.out; have hnc10 := NB469_467.out; have hcz11_0 : w8.cell? ⟨gb467, 0, none⟩ = some (.int .i64 a0_0) := (blk_cell BK467.out 0).trans rfl; have hcz11_1 : w8.cell? ⟨gb467, 1, none⟩ = some (.int .i64 a0_1) := (blk_cell BK467.out 1).trans rfl; have hcz11_2 : w8.cell? ⟨gb467, 2, none⟩ = some (.int .i64 a0_2) := (blk_cell BK467.out 2).trans rfl; have hfz11_0 := blk_frozen BK467.out 0; have hfz11_1 := blk_frozen BK467.out 1; have hfz11_2 := blk_frozen BK467.out 2; have hnb12 := NB468_469.out; have hnc12 := NB469_468.out; have hcz13_0 : w8.cell? ⟨gb468, 0, none⟩ = some (.int .i64 a1_0) := (blk_cell BK468.out 0).trans rfl; have hcz13_1 : w8.cell? ⟨gb468, 1, none⟩ = some (.int .i64 a1_1) := (blk_cell BK468.out 1).trans rfl; have hcz13_2 : w8.cell? ⟨gb468, 2, none⟩ = some (.int .i64 a1_2) := (blk_cell BK468.out 2).trans rfl; have hfz13_0 := blk_frozen BK468.out 0; have hfz13_1 := blk_frozen BK468.out 1; have hfz13_2 := blk_frozen BK468.out 2; have hcz14_0 : w8.cell? ⟨gb469, 0, none⟩ = some (.int .i64 a2_0) := (blk_cell BK469.out 0).trans rfl; have hcz14_1 : w8.cell? ⟨gb469, 1, none⟩ = some (.int .i64 a2_1) := (blk_cell BK469.out 1).trans rfl; have hcz14_2 : w8.cell? ⟨gb469, 2, none⟩ = some (.int .i64 a2_2) := (blk_cell BK469.out 2).trans rfl; have hfz14_0 := blk_frozen BK469.out 0; have hfz14_1 := blk_frozen BK469.out 1; have hfz14_2 := blk_frozen BK469.out 2) | ((with_reducible refine gate_dst (N := 10) rfl ?_); refine Kd.R_lit k23 _ 23 ?hg (N := 10) ?hd (xs := ([(⟨a0_0, a0_1, a0_2⟩ : S23), (⟨a1_0, a1_1, a1_2⟩ : S23), (⟨a2_0, a2_1, a2_2⟩ : S23)] : List (S23))) (inner := [.int .i64 a0_0, .int .i64 a0_1, .int .i64 a0_2, .int .i64 a1_0, .int .i64 a1_1, .int .i64 a1_2, .int .i64 a2_0, .int .i64 a2_1, .int .i64 a2_2]) (ok := fun _ => True) (okp := fun _ => True) ?hr ?hp (fun _ hk => hk) trivial (Below.refl _ _) (Nat.le_refl _) (by simp) ?_; (case hd => rfl); (case hg => rfl); (case hr => first | (go_simp; done) | (go_simp; rfl)); (case hp => exact (Reps.c3 (show Kd.M k23 _ _ _ (⟨a0_0, a0_1, a0_2⟩ : S23) [.int .i64 a0_0, .int .i64 a0_1, .int .i64 a0_2] from (k23_mkM _ _ _ (⟨a0_0, a0_1, a0_2⟩ : S23) )) (Reps.c3 (show Kd.M k23 _ _ _ (⟨a1_0, a1_1, a1_2⟩ : S23) [.int .i64 a1_0, .int .i64 a1_1, .int .i64 a1_2] from (k23_mkM _ _ _ (⟨a1_0, a1_1, a1_2⟩ : S23) )) (Reps.c3 (show Kd.M k23 _ _ _ (⟨a2_0, a2_1, a2_2⟩ : S23) [.int .i64 a2_0, .int .i64 a2_1, .int .i64 a2_2] from (k23_mkM _ _ _ (⟨a2_0, a2_1, a2_2⟩ : S23) )) (Reps.none _ _))))); intro v471 w15 ho16 hb hg_ hnew_; clear hg_ hnew_; (first | rw [← Ny470.out] at ho16 | (simp only [Int.reduceToNat] at ho16; rw [← Ny470.out] at ho16)); have n0_ := Aside0.mk (Kd.R_lower (Kd.R_newB (Kd.R_newB (Kd.R_newB ho16 (g := gb467) (o := .cells #[.int .i64 a0_0, .int .i64 a0_1, .int .i64 a0_2] 23 (0, 0)) (bK BK467)) (g := gb468) (o := .cells #[.int .i64 a1_0, .int .i64 a1_1, .int .i64 a1_2] 23 (0, 0)) (bK BK468)) (g := gb469) (o := .cells #[.int .i64 a2_0, .int .i64 a2_1, .int .i64 a2_2] 23 (0, 0)) (bK BK469)) (below_size (bH HB))); have n1_ := Aside0.mk (blk_below (g := gb467) (o := .cells #[.int .i64 a0_0, .int .i64 a0_1, .int .i64 a0_2] 23 (0, 0)) (bK BK467) hb); have n2_ := Aside0.mk (blk_below (g := gb468) (o := .cells #[.int .i64 a1_0, .int .i64 a1_1, .int .i64 a1_2] 23 (0, 0)) (bK BK468) hb); have n3_ := Aside0.mk (blk_below (g := gb469) (o := .cells #[.int .i64 a2_0, .int .i64 a2_1, .int .i64 a2_2] 23 (0, 0)) (bK BK469) hb); have n4_ := Aside0.mk (below_step (bH HB) hb); clear BK467; clear BK468; clear BK469; clear HB; have HO472 := n0_; have BK467 := n1_; have BK468 := n2_; have BK469 := n3_; have HB := n4_; clear n0_ n1_ n2_ n3_ n4_; clear hb ho16; obtain ⟨Ao17, co17, eo17⟩ := Kd.R_slice HO472.out; subst eo17) | ((with_reducible refine gate_callee (f := 22) rfl ?_); refine goesL_ (some 11) rfl rfl Try.func22 (by kernel_rfl) rfl #[.slice Ao17 y470.length co17] rfl (by (try simp only [List.map_toArray, List.map_cons, List.map_nil]); first | done | rfl | (simp only [List.length_drop, List.length_take]; rfl)) ?_; (with_reducible refine (geom_Right.calls k _ _ y470 t473 _ ?side1 ?side2 A4.out).mono ?_); (case side1 => repeat (first | exact (Kd.R_reads' HO472.out).2.2 | (with_reducible refine Kd.C_alloc ?_ _) | (with_reducible refine Kd.C_drewN ?_ _) | (with_reducible refine Kd.C_drew ?_))); (case side2 => exact (Kd.R_reads' HO472.out).2.1); rintro e w18 ⟨rfl, hb⟩; refine ⟨_, rfl, ?_⟩; have n0_ := Aside0.mk (Kd.R_below (rK HO472) hb); have n1_ := Aside0.mk (blk_below (g := gb467) (o := .cells #[.int .i64 a0_0, .int .i64 a0_1, .int .i64 a0_2] 23 (0, 0)) (bK BK467) hb); have n2_ := Aside0.mk (blk_below (g := gb468) (o := .cells #[.int .i64 a1_0, .int .i64 a1_1, .int .i64 a1_2] 23 (0, 0)) (bK BK468) hb); have n3_ := Aside0.mk (blk_below (g := gb469) (o := .cells #[.int .i64 a2_0, .int .i64 a2_1, .int .i64 a2_2] 23 (0, 0)) (bK BK469) hb); have n4_ := Aside0.mk (below_step (bH HB) hb); clear HO472; clear BK467; clear BK468; clear BK469; clear HB; have HO472 := n0_; have BK467 := n1_; have BK468 := n2_; have BK469 := n3_; have HB := n4_; clear n0_ n1_ n2_ n3_ n4_; (try clear hb); (try clear hb2); (try clear hk); (try clear hi)))
 (try simp only [Act.put, List.setIfInBounds_toArray, List.set_cons_zero, List.set_cons_succ])
 have H := HC5.out
 clear HC5
 by_cases c19 : t473 = true
 ·subst c19
  have H1 : ((geom_turn.f k a0_0 a0_1 a0_2 a1_0 a1_1 a1_2 a2_0 a2_1 a2_2).bind fun t474 => (some t474)) = some r := by rw [if_pos rfl] at H; exact H
  clear H
  have H := H1
  clear H1
  replace H := Option.bind_eq_some_iff.mp H
  obtain ⟨t474, A200, H⟩ := H
  replace H : (some t474) = some r := H
  have A20 := Aside0.mk A200
  clear A200
  obtain rfl := Option.some.inj H
  have hnb21 := NB467_468.out
  have hnc21 := NB468_467.out
  have hnb22 := NB467_469.out
  have hnc22 := NB469_467.out
  have hcz23_0 : w18.cell? ⟨gb467, 0, none⟩ = some (.int .i64 a0_0) := (blk_cell BK467.out 0).trans rfl
  have hcz23_1 : w18.cell? ⟨gb467, 1, none⟩ = some (.int .i64 a0_1) := (blk_cell BK467.out 1).trans rfl
  have hcz23_2 : w18.cell? ⟨gb467, 2, none⟩ = some (.int .i64 a0_2) := (blk_cell BK467.out 2).trans rfl
  have hfz23_0 := blk_frozen BK467.out 0
  have hfz23_1 := blk_frozen BK467.out 1
  have hfz23_2 := blk_frozen BK467.out 2
  have hnb24 := NB468_469.out
  have hnc24 := NB469_468.out
  have hcz25_0 : w18.cell? ⟨gb468, 0, none⟩ = some (.int .i64 a1_0) := (blk_cell BK468.out 0).trans rfl
  have hcz25_1 : w18.cell? ⟨gb468, 1, none⟩ = some (.int .i64 a1_1) := (blk_cell BK468.out 1).trans rfl
  have hcz25_2 : w18.cell? ⟨gb468, 2, none⟩ = some (.int .i64 a1_2) := (blk_cell BK468.out 2).trans rfl
  have hfz25_0 := blk_frozen BK468.out 0
  have hfz25_1 := blk_frozen BK468.out 1
  have hfz25_2 := blk_frozen BK468.out 2
  have hcz26_0 : w18.cell? ⟨gb469, 0, none⟩ = some (.int .i64 a2_0) := (blk_cell BK469.out 0).trans rfl
  have hcz26_1 : w18.cell? ⟨gb469, 1, none⟩ = some (.int .i64 a2_1) := (blk_cell BK469.out 1).trans rfl
  have hcz26_2 : w18.cell? ⟨gb469, 2, none⟩ = some (.int .i64 a2_2) := (blk_cell BK469.out 2).trans rfl
  have hfz26_0 := blk_frozen BK469.out 0
  have hfz26_1 := blk_frozen BK469.out 1
  have hfz26_2 := blk_frozen BK469.out 2
  go_wp2_with (first | ((with_reducible refine gate_callee (f := 27) rfl ?_); refine goesL_ (some 16) rfl rfl Try.func27 (by kernel_rfl) rfl #[.agg #[.int .i64 a0_0, .int .i64 a0_1, .int .i64 a0_2], .agg #[.int .i64 a1_0, .int .i64 a1_1, .int .i64 a1_2], .agg #[.int .i64 a2_0, .int .i64 a2_1, .int .i64 a2_2]] rfl (by (try simp only [List.map_toArray, List.map_cons, List.map_nil]); first | done | rfl | (simp only [List.length_drop, List.length_take]; rfl)) ?_; (with_reducible refine (geom_turn.calls k a0_0 a0_1 a0_2 a1_0 a1_1 a1_2 a2_0 a2_1 a2_2 t474 _ A20.out).mono ?_); rintro e w27 ⟨rfl, hb⟩; refine ⟨_, rfl, ?_⟩; have n0_ := Aside0.mk (Kd.R_below (rK HO472) hb); have n1_ := Aside0.mk (blk_below (g := gb467) (o := .cells #[.int .i64 a0_0, .int .i64 a0_1, .int .i64 a0_2] 23 (0, 0)) (bK BK467) hb); have n2_ := Aside0.mk (blk_below (g := gb468) (o := .cells #[.int .i64 a1_0, .int .i64 a1_1, .int .i64 a1_2] 23 (0, 0)) (bK BK468) hb); have n3_ := Aside0.mk (blk_below (g := gb469) (o := .cells #[.int .i64 a2_0, .int .i64 a2_1, .int .i64 a2_2] 23 (0, 0)) (bK BK469) hb); have n4_ := Aside0.mk (below_step (bH HB) hb); clear HO472; clear BK467; clear BK468; clear BK469; clear HB; have HO472 := n0_; have BK467 := n1_; have BK468 := n2_; have BK469 := n3_; have HB := n4_; clear n0_ n1_ n2_ n3_ n4_; (try clear hb); (try clear hb2); (try clear hk); (try clear hi)))
  go_ret
  exact ⟨by first | rfl | (simp [errW_none, errW_some] <;> rfl) | (simp [*, errW_none, errW_some] <;> rfl), bH HB⟩
 ·replace c19 := Bool.eq_false_iff.mpr c19
  subst c19
  have H1 : (some 0) = some r := by rw [if_neg (show ¬ (false = true) by decide)] at H; exact H
  clear H
  have H := H1
  clear H1
  obtain rfl := Option.some.inj H
  go_wp2
  go_ret
  exact ⟨by first | rfl | (simp [errW_none, errW_some] <;> rfl) | (simp [*, errW_none, errW_some] <;> rfl), bH HB⟩

end Go.Proofs.Ytlnjbpapbifjfaa.P
