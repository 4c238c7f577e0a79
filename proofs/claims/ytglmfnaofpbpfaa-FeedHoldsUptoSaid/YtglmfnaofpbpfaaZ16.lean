/- Written for this claim by a program of this session (a turned copy of the print): Go functions as Lean functions, and that the Go code comes to just these answers; or a statement proved out of them. No condition. -/
import Derived.Test.YtglmfnaofpbpfaaZ2
import Derived.Test.YtglmfnaofpbpfaaZ9
import Derived.Test.YtglmfnaofpbpfaaZ11

namespace Go.Proofs.Ytglmfnaofpbpfaa.P
open Go.RowKit Go.Proofs.YtglmfnaofpbpfaaW.PrintWords Go.Proofs.YtglmfnaofpbpfaaW.PrintLast Go.Proofs.YtglmfnaofpbpfaaW.PrintMore Go.Proofs.Ytglmfnaofpbpfaa.X
attribute [local go_sem] max2_int min2_int max_two min_two max_three min_three max_four min_four   -- for this text's walks alone
set_option linter.unusedVariables false
set_option linter.unusedSimpArgs false

/-! ### lapidaryref03_Step: function 22 -/
def lapidaryref03_Step.f (k : Nat) (l0_0 : List Int) (a0_1 : Int) (a0_2 : Bool) (a0_3 : Int) (l0_4 : List (S48)) (a0_5 : Int) (a1 : Int) : Option (List Int × Int × Bool × Int × (List (S48)) × Int) := if a0_5 = 0 then (if a0_2 = true then (some (l0_0, a0_1, a0_2, wrap64 (a0_3 + 1), l0_4, 11)) else (if (wrap64 (a0_3 + 1)) ≤ 5 then ((some (([76, 80, 68, 89, 1] : List Int) : List Int)).bind fun y198 => (if 0 ≤ (wrap64 ((wrap64 (a0_3 + 1)) - 1)) then (if (wrap64 ((wrap64 (a0_3 + 1)) - 1)) < (y198.length : Int) then (if a1 = (rd y198 (wrap64 ((wrap64 (a0_3 + 1)) - 1))) then (some (l0_0, a0_1, a0_2, wrap64 (a0_3 + 1), l0_4, a0_5)) else (some (l0_0, a0_1, a0_2, wrap64 (a0_3 + 1), l0_4, 11))) else (none)) else (none))) else (if ([] : List Int).length + l0_0.length < 140737488355328 then ((some (([] : List Int) ++ l0_0 : List Int)).bind fun y202 => (if y202.length < 140737488355328 then ((some (y202 ++ [a1] : List Int)).bind fun y205 => (if (y205.length : Int) = 1 then (if a1 = 0 then (some (y205, a0_1, true, wrap64 (a0_3 + 1), l0_4, a0_5)) else (if (wrap64 (a1)) ≤ a0_1 then (some (y205, a0_1, a0_2, wrap64 (a0_3 + 1), l0_4, 11)) else (if a1 > 9 then (some (y205, a0_1, a0_2, wrap64 (a0_3 + 1), l0_4, 11)) else (some (y205, a0_1, a0_2, wrap64 (a0_3 + 1), l0_4, a0_5))))) else ((lapidaryref01_Get.f k y205 1).bind fun bt208 => (if bt208.2.2 = 10 then (some (y205, a0_1, a0_2, wrap64 (a0_3 + 1), l0_4, a0_5)) else (if bt208.2.2 = 0 then (if bt208.1 > 1048576 then (some (y205, a0_1, a0_2, wrap64 (a0_3 + 1), l0_4, 3)) else (if (y205.length : Int) < (wrap64 ((wrap64 (bt208.2.1 + (wrap64 (bt208.1)))) + 4)) then (some (y205, a0_1, a0_2, wrap64 (a0_3 + 1), l0_4, a0_5)) else ((lapidaryref02_Check.f k y205).bind fun bt211 => (if bt211.2 = 0 then (if ([] : List (S48)).length + l0_4.length < 4398046511104 then ((some (([] : List (S48)) ++ l0_4 : List (S48))).bind fun y215 => (if 0 < (y205.length : Int) then (if 0 ≤ bt208.2.1 then (if bt208.2.1 ≤ (bt211.1.length : Int) then ((lapidaryref00_Copy.f (bt211.1.drop (bt208.2.1 : Int).toNat)).bind fun t224 => (if y215.length < 4398046511104 then (some (([] : List Int), wrap64 (rd y205 0), a0_2, wrap64 (a0_3 + 1), (y215 ++ [(⟨wrap64 (rd y205 0), t224⟩ : S48)]), a0_5)) else (none))) else (none)) else (none)) else (none))) else (none)) else (some (y205, a0_1, a0_2, wrap64 (a0_3 + 1), l0_4, bt211.2)))))) else (some (y205, a0_1, a0_2, wrap64 (a0_3 + 1), l0_4, bt208.2.2))))))) else (none))) else (none)))) else (some (l0_0, a0_1, a0_2, a0_3, l0_4, a0_5))
theorem lapidaryref03_Step.mono : ∀ a0 a1 a2 a3 a4 a5 a6 k, LeO (lapidaryref03_Step.f k a0 a1 a2 a3 a4 a5 a6) (lapidaryref03_Step.f (k + 1) a0 a1 a2 a3 a4 a5 a6) := by
 intro a0 a1 a2 a3 a4 a5 a6 k
 unfold lapidaryref03_Step.f
 repeat' first
   | (with_reducible exact lapidaryref01_Get.mono _ _ _)
   | (with_reducible exact lapidaryref02_Check.mono _ _)
   | (with_reducible exact LeO.refl _)
   | (with_reducible exact LeO.none _)
   | (with_reducible refine LeO.ite ?_ ?_)
   | (with_reducible refine LeO.bind ?_ (fun _ => ?_))
   | exact lapidaryref01_Get.mono _ _ _
   | exact lapidaryref02_Check.mono _ _
   | exact LeO.none _
   | refine LeO.ite ?_ ?_
   | refine LeO.bind ?_ (fun _ => ?_)
def lapidaryref03_Step.T38 : Bool × List (List Nat × List Nat) := (true, [([], []), ([], []), ([1], [1]), ([2], [2]), ([3], [3]), ([], []), ([], []), ([5, 6], [5, 6]), ([7], [7]), ([4, 8], [4, 8]), ([9], [9]), ([0, 10, 8], [0, 10]), ([11, 11, 0, 1, 2, 3, 4, 5, 6, 7, 8, 9, 10, 11], [0, 11])])
def lapidaryref03_Step.B38 : List Nat := [0, 0, 2, 6, 14, 0, 0, 96, 224, 510, 1022, 2047, 4095]
theorem lapidaryref03_Step.tab38 : rtab .any (opsOf Try.f22 38) = lapidaryref03_Step.T38 := by kernel_rfl
theorem lapidaryref03_Step.bits38 : waitsOk lapidaryref03_Step.T38.2 lapidaryref03_Step.B38 = true := by kernel_rfl
set_option maxHeartbeats 8000000 in
set_option maxRecDepth 100000 in
theorem lapidaryref03_Step.calls (k : Nat) (P0_0_ : Nat → Prop) (u9000_ : Value) (l0_0 : List Int) (a0_1 : Int) (a0_2 : Bool) (a0_3 : Int) (P0_4_ : Nat → Prop) (A0_4 : Option Addr) (c0_4 : Nat) (l0_4 : List (S48)) (a0_5 : Int) (a1 : Int) (r1 : List Int) (r2 : Int) (r3 : Bool) (r4 : Int) (r5 : List (S48)) (r6 : Int) (w0 w : World) (hB : Below w0.heap.size w0 w) (ho0_0 : Kd.R (Kd.int .u8) 5 w w0.heap.size P0_0_ u9000_ l0_0) (hs0_4 : Kd.V k48 48 w w0.heap.size (fun k_ => P0_4_ k_ ∧ some k_ ≠ (u9000_ : Value).ownBlock) (.slice A0_4 l0_4.length c0_4) l0_4) (h : lapidaryref03_Step.f k l0_0 a0_1 a0_2 a0_3 l0_4 a0_5 a1 = some (r1, r2, r3, r4, r5, r6)) :
  Calls Try.prog 22 #[.agg #[u9000_, .int .i64 a0_1, .bool a0_2, .int .i64 a0_3, .slice A0_4 l0_4.length c0_4, .int .i64 a0_5], .int .u8 a1] w fun e w' => ∃ v0_ v4_ : Value, e = .returned (.agg #[v0_, .int .i64 r2, .bool r3, .int .i64 r4, v4_, .int .i64 r6]) ∧ Kd.R (Kd.int .u8) 5 w' w0.heap.size (fun k_ => (P0_0_ k_ ∨ w.heap.size ≤ k_)) v0_ r1 ∧ Kd.V k48 48 w' w0.heap.size (fun k_ => ((P0_0_ k_ ∨ P0_4_ k_) ∨ w.heap.size ≤ k_) ∧ some k_ ≠ (v0_ : Value).ownBlock) v4_ r5 ∧ Below w0.heap.size w0 w' ∧ Kept w w' (fun k_ => P0_0_ k_) := by
 have hu28 := Try.underlying28
 have hu48 := Try.underlying48
 have HO0_0 := Aside0.mk (show Kd.R (Kd.int .u8) 5 w w0.heap.size (fun k_ => (P0_0_ k_ ∨ w.heap.size ≤ k_)) u9000_ l0_0 from Kd.R_mono ho0_0 (fun k_ hk => (.inl hk)))
 have HO0_4 := Aside0.mk (show Kd.V k48 48 w w0.heap.size (fun k_ => ((P0_0_ k_ ∨ P0_4_ k_) ∨ w.heap.size ≤ k_) ∧ some k_ ≠ (u9000_ : Value).ownBlock) (.slice A0_4 l0_4.length c0_4) l0_4 from Kd.V_mono hs0_4 (fun k_ hk => ⟨.inl (.inr hk.1), hk.2⟩))
 have HK := Aside0.mk (Kept.refl w (fun k_ => P0_0_ k_))
 have HW0 := Aside0.mk hB.size
 have HB := Aside0.mk hB
 clear hB
 have H : (if a0_5 = 0 then (if a0_2 = true then (some (l0_0, a0_1, a0_2, wrap64 (a0_3 + 1), l0_4, 11)) else (if (wrap64 (a0_3 + 1)) ≤ 5 then ((some (([76, 80, 68, 89, 1] : List Int) : List Int)).bind fun y198 => (if 0 ≤ (wrap64 ((wrap64 (a0_3 + 1)) - 1)) then (if (wrap64 ((wrap64 (a0_3 + 1)) - 1)) < (y198.length : Int) then (if a1 = (rd y198 (wrap64 ((wrap64 (a0_3 + 1)) - 1))) then (some (l0_0, a0_1, a0_2, wrap64 (a0_3 + 1), l0_4, a0_5)) else (some (l0_0, a0_1, a0_2, wrap64 (a0_3 + 1), l0_4, 11))) else (none)) else (none))) else (if ([] : List Int).length + l0_0.length < 140737488355328 then ((some (([] : List Int) ++ l0_0 : List Int)).bind fun y202 => (if y202.length < 140737488355328 then ((some (y202 ++ [a1] : List Int)).bind fun y205 => (if (y205.length : Int) = 1 then (if a1 = 0 then (some (y205, a0_1, true, wrap64 (a0_3 + 1), l0_4, a0_5)) else (if (wrap64 (a1)) ≤ a0_1 then (some (y205, a0_1, a0_2, wrap64 (a0_3 + 1), l0_4, 11)) else (if a1 > 9 then (some (y205, a0_1, a0_2, wrap64 (a0_3 + 1), l0_4, 11)) else (some (y205, a0_1, a0_2, wrap64 (a0_3 + 1), l0_4, a0_5))))) else ((lapidaryref01_Get.f k y205 1).bind fun bt208 => (if bt208.2.2 = 10 then (some (y205, a0_1, a0_2, wrap64 (a0_3 + 1), l0_4, a0_5)) else (if bt208.2.2 = 0 then (if bt208.1 > 1048576 then (some (y205, a0_1, a0_2, wrap64 (a0_3 + 1), l0_4, 3)) else (if (y205.length : Int) < (wrap64 ((wrap64 (bt208.2.1 + (wrap64 (bt208.1)))) + 4)) then (some (y205, a0_1, a0_2, wrap64 (a0_3 + 1), l0_4, a0_5)) else ((lapidaryref02_Check.f k y205).bind fun bt211 => (if bt211.2 = 0 then (if ([] : List (S48)).length + l0_4.length < 4398046511104 then ((some (([] : List (S48)) ++ l0_4 : List (S48))).bind fun y215 => (if 0 < (y205.length : Int) then (if 0 ≤ bt208.2.1 then (if bt208.2.1 ≤ (bt211.1.length : Int) then ((lapidaryref00_Copy.f (bt211.1.drop (bt208.2.1 : Int).toNat)).bind fun t224 => (if y215.length < 4398046511104 then (some (([] : List Int), wrap64 (rd y205 0), a0_2, wrap64 (a0_3 + 1), (y215 ++ [(⟨wrap64 (rd y205 0), t224⟩ : S48)]), a0_5)) else (none))) else (none)) else (none)) else (none))) else (none)) else (some (y205, a0_1, a0_2, wrap64 (a0_3 + 1), l0_4, bt211.2)))))) else (some (y205, a0_1, a0_2, wrap64 (a0_3 + 1), l0_4, bt208.2.2))))))) else (none))) else (none)))) else (some (l0_0, a0_1, a0_2, a0_3, l0_4, a0_5))) = some (r1, r2, r3, r4, r5, r6) := h
 clear h
 have HC3 := Aside0.mk H
 clear H
 obtain ⟨Ao4, co4, eo4⟩ := Kd.R_slice HO0_0.out
 subst eo4
 go_enter Try.func22, Try.ntmps22
 go_upto_if 14 with (first | ((with_reducible refine gate_dst (N := 2) rfl ?_); refine box_event ?hg (N := 2) ?hd (cs := #[.slice Ao4 l0_0.length co4, .int .i64 a0_1, .bool a0_2, .int .i64 a0_3, .slice A0_4 l0_4.length c0_4, .int .i64 a0_5]) (t := 28) ?hr ?_; (case hd => rfl); (case hg => rfl); (case hr => first | (go_simp; done) | (go_simp; rfl)); intro gb196 hg w5 hbox hb; have n0_ := Aside0.mk (Kd.R_below (rK HO0_0) hb); have n1_ := Aside0.mk (Kd.V_below (Kd.V_elderB (by (with_reducible repeat (first | apply Kd.V_alloc | apply Kd.V_drewN | apply Kd.V_drew)); exact HO0_4.out) gb196 (Nat.le_of_eq hg.symm)) hb); have n2_ := Aside0.mk (Kept.below (S := (fun k_ => P0_0_ k_)) (by repeat (first | (with_reducible first | exact HK.out | apply Kept.alloc | apply Kept.drewN | apply Kept.drew) | exact HK.out)) hb); have n3_ := Aside0.mk (below_step (bH HB) hb); have n4_ := Aside0.mk (hbox); have n5_ := Aside0.mk ((by rw [hg]; exact (by first | exact HK.out.1 | exact (show Kept w _ (fun k_ => P0_0_ k_) from by repeat (first | (with_reducible first | exact HK.out | apply Kept.alloc | apply Kept.drewN | apply Kept.drew) | exact HK.out)).1) : w.heap.size ≤ gb196)); have n6_ := Aside0.mk ((by rw [hg]; exact (below_size (bH HB)) : w0.heap.size ≤ gb196)); clear HO0_0; clear HO0_4; clear HK; clear HB; have HO0_0 := n0_; have HO0_4 := n1_; have HK := n2_; have HB := n3_; have BK196 := n4_; have GW196 := n5_; have GE196 := n6_; clear n0_ n1_ n2_ n3_ n4_ n5_ n6_; clear hb hbox hg) | ((with_reducible refine gate_dst (N := 4) rfl ?_); refine box_event ?hg (N := 4) ?hd (cs := #[.slice none 0 0, .int .i64 0, .bool false, .int .i64 0, .slice none 0 0, .int .i64 0]) (t := 28) ?hr ?_; (case hd => rfl); (case hg => rfl); (case hr => first | (go_simp; done) | (go_simp; rfl)); intro gb197 hg w6 hbox hb; have n0_ := Aside0.mk (Kd.R_below (rK HO0_0) hb); have n1_ := Aside0.mk (Kd.V_below (Kd.V_elderB (by (with_reducible repeat (first | apply Kd.V_alloc | apply Kd.V_drewN | apply Kd.V_drew)); exact HO0_4.out) gb197 (Nat.le_of_eq hg.symm)) hb); have n2_ := Aside0.mk (blk_below (g := gb196) (o := .cells #[.slice Ao4 l0_0.length co4, .int .i64 a0_1, .bool a0_2, .int .i64 a0_3, .slice A0_4 l0_4.length c0_4, .int .i64 a0_5] 28 (0, 0)) (bK BK196) hb); have n3_ := Aside0.mk (Kept.below (S := (fun k_ => P0_0_ k_)) (by repeat (first | (with_reducible first | exact HK.out | apply Kept.alloc | apply Kept.drewN | apply Kept.drew | refine Kept.setCell ?_ (.inr GW196.out) _) | exact HK.out)) hb); have n4_ := Aside0.mk (below_step (bH HB) hb); have n5_ := Aside0.mk (hbox); have n6_ := Aside0.mk ((by rw [hg]; exact (by first | exact HK.out.1 | exact (show Kept w _ (fun k_ => P0_0_ k_) from by repeat (first | (with_reducible first | exact HK.out | apply Kept.alloc | apply Kept.drewN | apply Kept.drew | refine Kept.setCell ?_ (.inr GW196.out) _) | exact HK.out)).1) : w.heap.size ≤ gb197)); have n7_ := Aside0.mk ((by rw [hg]; exact (below_size (bH HB)) : w0.heap.size ≤ gb197)); have n8_ := Aside0.mk ((by rw [hg]; exact Nat.ne_of_lt (blk_lt (bK BK196)) : gb196 ≠ gb197)); have n9_ := Aside0.mk ((by rw [hg]; exact Nat.ne_of_gt (blk_lt (bK BK196)) : gb197 ≠ gb196)); clear HO0_0; clear HO0_4; clear BK196; clear HK; clear HB; have HO0_0 := n0_; have HO0_4 := n1_; have BK196 := n2_; have HK := n3_; have HB := n4_; have BK197 := n5_; have GW197 := n6_; have GE197 := n7_; have NB196_197 := n8_; have NB197_196 := n9_; clear n0_ n1_ n2_ n3_ n4_ n5_ n6_ n7_ n8_ n9_; clear hb hbox hg; have hnb7 := NB196_197.out; have hnc7 := NB197_196.out; have hcz8_0 : w6.cell? ⟨gb196, 0, none⟩ = some (.slice Ao4 l0_0.length co4) := (blk_cell BK196.out 0).trans rfl; have hcz8_1 : w6.cell? ⟨gb196, 1, none⟩ = some (.int .i64 a0_1) := (blk_cell BK196.out 1).trans rfl; have hcz8_2 : w6.cell? ⟨gb196, 2, none⟩ = some (.bool a0_2) := (blk_cell BK196.out 2).trans rfl; have hcz8_3 : w6.cell? ⟨gb196, 3, none⟩ = some (.int .i64 a0_3) := (blk_cell BK196.out 3).trans rfl; have hcz8_4 : w6.cell? ⟨gb196, 4, none⟩ = some (.slice A0_4 l0_4.length c0_4) := (blk_cell BK196.out 4).trans rfl; have hcz8_5 : w6.cell? ⟨gb196, 5, none⟩ = some (.int .i64 a0_5) := (blk_cell BK196.out 5).trans rfl; have hfz8_0 := blk_frozen BK196.out 0; have hfz8_1 := blk_frozen BK196.out 1; have hfz8_2 := blk_frozen BK196.out 2; have hfz8_3 := blk_frozen BK196.out 3; have hfz8_4 := blk_frozen BK196.out 4; have hfz8_5 := blk_frozen BK196.out 5))
 (try simp only [Act.put, List.setIfInBounds_toArray, List.set_cons_zero, List.set_cons_succ])
 have H := HC3.out
 clear HC3
 by_cases c9 : a0_5 = 0
 ·rw [if_pos c9] at H
  have c9b0 : (a0_5 == 0) = true := beq_iff_eq.mpr c9
  have c9b1 : (a0_5 != 0) = false := bne_eq_false_iff_eq.mpr c9
  clear c9
  (first | rw [c9b0] | (simp only [i64_w, i32_w]; rw [c9b0]) | skip)
  have HC10 := Aside0.mk H
  clear H
  have hnb11 := NB196_197.out
  have hnc11 := NB197_196.out
  have hcz12_0 : w6.cell? ⟨gb196, 0, none⟩ = some (.slice Ao4 l0_0.length co4) := (blk_cell BK196.out 0).trans rfl
  have hcz12_1 : w6.cell? ⟨gb196, 1, none⟩ = some (.int .i64 a0_1) := (blk_cell BK196.out 1).trans rfl
  have hcz12_2 : w6.cell? ⟨gb196, 2, none⟩ = some (.bool a0_2) := (blk_cell BK196.out 2).trans rfl
  have hcz12_3 : w6.cell? ⟨gb196, 3, none⟩ = some (.int .i64 a0_3) := (blk_cell BK196.out 3).trans rfl
  have hcz12_4 : w6.cell? ⟨gb196, 4, none⟩ = some (.slice A0_4 l0_4.length c0_4) := (blk_cell BK196.out 4).trans rfl
  have hcz12_5 : w6.cell? ⟨gb196, 5, none⟩ = some (.int .i64 a0_5) := (blk_cell BK196.out 5).trans rfl
  have hfz12_0 := blk_frozen BK196.out 0
  have hfz12_1 := blk_frozen BK196.out 1
  have hfz12_2 := blk_frozen BK196.out 2
  have hfz12_3 := blk_frozen BK196.out 3
  have hfz12_4 := blk_frozen BK196.out 4
  have hfz12_5 := blk_frozen BK196.out 5
  go_upto_if 21 with (fail)
  have H := HC10.out
  clear HC10
  by_cases c13 : a0_2 = true
  ·subst c13
   have H1 : (some (l0_0, a0_1, true, wrap64 (a0_3 + 1), l0_4, 11)) = some (r1, r2, r3, r4, r5, r6) := by rw [if_pos rfl] at H; exact H
   clear H
   have H := H1
   clear H1
   simp only [Option.some.injEq, Prod.mk.injEq] at H
   obtain ⟨rfl, rfl, rfl, rfl, rfl, rfl⟩ := H
   have hnb14 := NB196_197.out
   have hnc14 := NB197_196.out
   have hcz15_0 : w6.cell? ⟨gb196, 0, none⟩ = some (.slice Ao4 l0_0.length co4) := (blk_cell BK196.out 0).trans rfl
   have hcz15_1 : w6.cell? ⟨gb196, 1, none⟩ = some (.int .i64 a0_1) := (blk_cell BK196.out 1).trans rfl
   have hcz15_2 : w6.cell? ⟨gb196, 2, none⟩ = some (.bool true) := (blk_cell BK196.out 2).trans rfl
   have hcz15_3 : w6.cell? ⟨gb196, 3, none⟩ = some (.int .i64 a0_3) := (blk_cell BK196.out 3).trans rfl
   have hcz15_4 : w6.cell? ⟨gb196, 4, none⟩ = some (.slice A0_4 l0_4.length c0_4) := (blk_cell BK196.out 4).trans rfl
   have hcz15_5 : w6.cell? ⟨gb196, 5, none⟩ = some (.int .i64 a0_5) := (blk_cell BK196.out 5).trans rfl
   have hfz15_0 := blk_frozen BK196.out 0
   have hfz15_1 := blk_frozen BK196.out 1
   have hfz15_2 := blk_frozen BK196.out 2
   have hfz15_3 := blk_frozen BK196.out 3
   have hfz15_4 := blk_frozen BK196.out 4
   have hfz15_5 := blk_frozen BK196.out 5
   have hcz16_0 : w6.cell? ⟨gb197, 0, none⟩ = some (.slice none 0 0) := (blk_cell BK197.out 0).trans rfl
   have hcz16_1 : w6.cell? ⟨gb197, 1, none⟩ = some (.int .i64 0) := (blk_cell BK197.out 1).trans rfl
   have hcz16_2 : w6.cell? ⟨gb197, 2, none⟩ = some (.bool false) := (blk_cell BK197.out 2).trans rfl
   have hcz16_3 : w6.cell? ⟨gb197, 3, none⟩ = some (.int .i64 0) := (blk_cell BK197.out 3).trans rfl
   have hcz16_4 : w6.cell? ⟨gb197, 4, none⟩ = some (.slice none 0 0) := (blk_cell BK197.out 4).trans rfl
   have hcz16_5 : w6.cell? ⟨gb197, 5, none⟩ = some (.int .i64 0) := (blk_cell BK197.out 5).trans rfl
   have hfz16_0 := blk_frozen BK197.out 0
   have hfz16_1 := blk_frozen BK197.out 1
   have hfz16_2 := blk_frozen BK197.out 2
   have hfz16_3 := blk_frozen BK197.out 3
   have hfz16_4 := blk_frozen BK197.out 4
   have hfz16_5 := blk_frozen BK197.out 5
   go_wp2
   refine bodyPost_ret (results_cell_row rfl _ _ gb197 28 #[.slice Ao4 l0_0.length co4, .int .i64 a0_1, .bool true, .int .i64 (wrap64 (a0_3 + 1)), .slice A0_4 l0_4.length c0_4, .int .i64 11] (0, 0) _ rfl (by (with_reducible repeat (first | refine blk_drewN ?_ _ | refine blk_drew ?_ | refine blk_alloc ?_ _)); refine blk_put (cs := #[.slice Ao4 l0_0.length co4, .int .i64 a0_1, .bool true, .int .i64 (wrap64 (a0_3 + 1)), .slice A0_4 l0_4.length c0_4, .int .i64 0]) ?_ 5 _ rfl; (with_reducible repeat (first | refine blk_drewN ?_ _ | refine blk_drew ?_ | refine blk_alloc ?_ _)); refine blk_put (cs := #[.slice Ao4 l0_0.length co4, .int .i64 a0_1, .bool true, .int .i64 (wrap64 (a0_3 + 1)), .slice none 0 0, .int .i64 0]) ?_ 4 _ rfl; (with_reducible repeat (first | refine blk_drewN ?_ _ | refine blk_drew ?_ | refine blk_alloc ?_ _)); refine blk_put (cs := #[.slice Ao4 l0_0.length co4, .int .i64 a0_1, .bool true, .int .i64 0, .slice none 0 0, .int .i64 0]) ?_ 3 _ rfl; (with_reducible repeat (first | refine blk_drewN ?_ _ | refine blk_drew ?_ | refine blk_alloc ?_ _)); refine blk_put (cs := #[.slice Ao4 l0_0.length co4, .int .i64 a0_1, .bool false, .int .i64 0, .slice none 0 0, .int .i64 0]) ?_ 2 _ rfl; (with_reducible repeat (first | refine blk_drewN ?_ _ | refine blk_drew ?_ | refine blk_alloc ?_ _)); refine blk_put (cs := #[.slice Ao4 l0_0.length co4, .int .i64 0, .bool false, .int .i64 0, .slice none 0 0, .int .i64 0]) ?_ 1 _ rfl; (with_reducible repeat (first | refine blk_drewN ?_ _ | refine blk_drew ?_ | refine blk_alloc ?_ _)); refine blk_put (cs := #[.slice none 0 0, .int .i64 0, .bool false, .int .i64 0, .slice none 0 0, .int .i64 0]) ?_ 0 _ rfl; (with_reducible repeat (first | refine blk_drewN ?_ _ | refine blk_drew ?_ | refine blk_alloc ?_ _)); refine blk_far ?_ NB197_196.out _; (with_reducible repeat (first | refine blk_drewN ?_ _ | refine blk_drew ?_ | refine blk_alloc ?_ _)); refine blk_far ?_ NB197_196.out _; (with_reducible repeat (first | refine blk_drewN ?_ _ | refine blk_drew ?_ | refine blk_alloc ?_ _)); exact BK197.out) Try.underlying28 rfl (by kernel_rfl)) rfl ?_
   exact ⟨_, _, by first | rfl | (simp [errW_none, errW_some] <;> rfl) | (simp [*, errW_none, errW_some] <;> rfl), by (with_reducible repeat (first | apply Kd.R_alloc | apply Kd.R_drewN | apply Kd.R_drew)); exact Kd.R_mono (Kd.R_far (p := ⟨gb197, 5, none⟩) (Kd.R_far (p := ⟨gb197, 4, none⟩) (Kd.R_far (p := ⟨gb197, 3, none⟩) (Kd.R_far (p := ⟨gb197, 2, none⟩) (Kd.R_far (p := ⟨gb197, 1, none⟩) (Kd.R_far (p := ⟨gb197, 0, none⟩) (Kd.R_far (p := ⟨gb196, 5, none⟩) (Kd.R_far (p := ⟨gb196, 3, none⟩) (Kd.R_types (Kd.R_types HO0_0.out BK196.out (by decide)) BK197.out (by decide)) (fun _ hk => hk.1.2) (.int .i64 (wrap64 (a0_3 + 1)))) (fun _ hk => hk.1.2) (.int .i64 11)) (fun _ hk => hk.2) (.slice Ao4 l0_0.length co4)) (fun _ hk => hk.2) (.int .i64 a0_1)) (fun _ hk => hk.2) (.bool true)) (fun _ hk => hk.2) (.int .i64 (wrap64 (a0_3 + 1)))) (fun _ hk => hk.2) (.slice A0_4 l0_4.length c0_4)) (fun _ hk => hk.2) (.int .i64 11)) (fun _ hk => hk.1.1), by (with_reducible repeat (first | apply Kd.V_alloc | apply Kd.V_drewN | apply Kd.V_drew)); exact Kd.V_mono (Kd.V_far (p := ⟨gb197, 5, none⟩) (Kd.V_far (p := ⟨gb197, 4, none⟩) (Kd.V_far (p := ⟨gb197, 3, none⟩) (Kd.V_far (p := ⟨gb197, 2, none⟩) (Kd.V_far (p := ⟨gb197, 1, none⟩) (Kd.V_far (p := ⟨gb197, 0, none⟩) (Kd.V_far (p := ⟨gb196, 5, none⟩) (Kd.V_far (p := ⟨gb196, 3, none⟩) (Kd.V_mono (Kd.V_mono HO0_4.out (fun k_ hk => (⟨hk, hk.1.2⟩ : _ ∧ k_ ≠ gb196))) (fun k_ hk => (⟨hk, hk.1.2⟩ : _ ∧ k_ ≠ gb197))) (fun _ hk => hk.1.2) (.int .i64 (wrap64 (a0_3 + 1)))) (fun _ hk => hk.1.2) (.int .i64 11)) (fun _ hk => hk.2) (.slice Ao4 l0_0.length co4)) (fun _ hk => hk.2) (.int .i64 a0_1)) (fun _ hk => hk.2) (.bool true)) (fun _ hk => hk.2) (.int .i64 (wrap64 (a0_3 + 1)))) (fun _ hk => hk.2) (.slice A0_4 l0_4.length c0_4)) (fun _ hk => hk.2) (.int .i64 11)) (fun _ hk => ⟨hk.1.1.1.1.1, hk.1.1.1.1.2⟩), bH HB, by repeat (first | (with_reducible first | exact HK.out | apply Kept.alloc | apply Kept.drewN | apply Kept.drew | refine Kept.setCell ?_ (.inr GW196.out) _ | refine Kept.setCell ?_ (.inr GW197.out) _) | exact HK.out)⟩
  ·replace c13 := Bool.eq_false_iff.mpr c13
   subst c13
   have H1 : (if (wrap64 (a0_3 + 1)) ≤ 5 then ((some (([76, 80, 68, 89, 1] : List Int) : List Int)).bind fun y198 => (if 0 ≤ (wrap64 ((wrap64 (a0_3 + 1)) - 1)) then (if (wrap64 ((wrap64 (a0_3 + 1)) - 1)) < (y198.length : Int) then (if a1 = (rd y198 (wrap64 ((wrap64 (a0_3 + 1)) - 1))) then (some (l0_0, a0_1, false, wrap64 (a0_3 + 1), l0_4, a0_5)) else (some (l0_0, a0_1, false, wrap64 (a0_3 + 1), l0_4, 11))) else (none)) else (none))) else (if ([] : List Int).length + l0_0.length < 140737488355328 then ((some (([] : List Int) ++ l0_0 : List Int)).bind fun y202 => (if y202.length < 140737488355328 then ((some (y202 ++ [a1] : List Int)).bind fun y205 => (if (y205.length : Int) = 1 then (if a1 = 0 then (some (y205, a0_1, true, wrap64 (a0_3 + 1), l0_4, a0_5)) else (if (wrap64 (a1)) ≤ a0_1 then (some (y205, a0_1, false, wrap64 (a0_3 + 1), l0_4, 11)) else (if a1 > 9 then (some (y205, a0_1, false, wrap64 (a0_3 + 1), l0_4, 11)) else (some (y205, a0_1, false, wrap64 (a0_3 + 1), l0_4, a0_5))))) else ((lapidaryref01_Get.f k y205 1).bind fun bt208 => (if bt208.2.2 = 10 then (some (y205, a0_1, false, wrap64 (a0_3 + 1), l0_4, a0_5)) else (if bt208.2.2 = 0 then (if bt208.1 > 1048576 then (some (y205, a0_1, false, wrap64 (a0_3 + 1), l0_4, 3)) else (if (y205.length : Int) < (wrap64 ((wrap64 (bt208.2.1 + (wrap64 (bt208.1)))) + 4)) then (some (y205, a0_1, false, wrap64 (a0_3 + 1), l0_4, a0_5)) else ((lapidaryref02_Check.f k y205).bind fun bt211 => (if bt211.2 = 0 then (if ([] : List (S48)).length + l0_4.length < 4398046511104 then ((some (([] : List (S48)) ++ l0_4 : List (S48))).bind fun y215 => (if 0 < (y205.length : Int) then (if 0 ≤ bt208.2.1 then (if bt208.2.1 ≤ (bt211.1.length : Int) then ((lapidaryref00_Copy.f (bt211.1.drop (bt208.2.1 : Int).toNat)).bind fun t224 => (if y215.length < 4398046511104 then (some (([] : List Int), wrap64 (rd y205 0), false, wrap64 (a0_3 + 1), (y215 ++ [(⟨wrap64 (rd y205 0), t224⟩ : S48)]), a0_5)) else (none))) else (none)) else (none)) else (none))) else (none)) else (some (y205, a0_1, false, wrap64 (a0_3 + 1), l0_4, bt211.2)))))) else (some (y205, a0_1, false, wrap64 (a0_3 + 1), l0_4, bt208.2.2))))))) else (none))) else (none))) = some (r1, r2, r3, r4, r5, r6) := by rw [if_neg (show ¬ (false = true) by decide)] at H; exact H
   clear H
   have H := H1
   clear H1
   by_cases c17 : (wrap64 (a0_3 + 1)) ≤ 5
   ·rw [if_pos c17] at H
    have c17b0 : decide ((wrap64 (a0_3 + 1)) ≤ 5) = true := decide_eq_true c17
    clear c17
    (first | rw [c17b0] | (simp only [i64_w, i32_w]; rw [c17b0]) | skip)
    obtain ⟨y198, hy198⟩ : ∃ y_ : List Int, y_ = (([76, 80, 68, 89, 1] : List Int)) := ⟨_, rfl⟩
    replace H : (if 0 ≤ (wrap64 ((wrap64 (a0_3 + 1)) - 1)) then (if (wrap64 ((wrap64 (a0_3 + 1)) - 1)) < (y198.length : Int) then (if a1 = (rd y198 (wrap64 ((wrap64 (a0_3 + 1)) - 1))) then (some (l0_0, a0_1, false, wrap64 (a0_3 + 1), l0_4, a0_5)) else (some (l0_0, a0_1, false, wrap64 (a0_3 + 1), l0_4, 11))) else (none)) else (none)) = some (r1, r2, r3, r4, r5, r6) := by first | (rw [hy198]; with_reducible exact H) | (have H2_ := (Option.bind_some _ _).symm.trans H; rw [hy198]; with_reducible exact H2_) | (have H2_ := (Option.bind_some _ _).symm.trans H; with_reducible exact H2_) | with_reducible exact H | (rw [hy198]; exact H) | exact H
    have Ny198 := Aside0.mk hy198
    clear hy198
    obtain ⟨ji18, hji18⟩ : ∃ j_ : Int, (wrap64 ((wrap64 (a0_3 + 1)) - 1)) = j_ := ⟨_, rfl⟩
    replace H : (if 0 ≤ (ji18) then (if (ji18) < (y198.length : Int) then (if a1 = (rd y198 (ji18)) then (some (l0_0, a0_1, false, wrap64 (a0_3 + 1), l0_4, a0_5)) else (some (l0_0, a0_1, false, wrap64 (a0_3 + 1), l0_4, 11))) else (none)) else (none)) = some (r1, r2, r3, r4, r5, r6) := by first | (rw [hji18] at H; exact H) | (simp only [hji18] at H ⊢; exact H)
    have hji18w : (IntKind.i64.wrap ((wrap64 (a0_3 + 1)) - 1)) = ji18 := (i64_w _).trans hji18
    by_cases c19 : 0 ≤ (ji18)
    ·rw [if_pos c19] at H
     have c19b0 : decide (0 ≤ (ji18)) = true := decide_eq_true c19
     clear c19
     by_cases c20 : (ji18) < (y198.length : Int)
     ·rw [if_pos c20] at H
      have c20b0 : decide ((ji18) < (y198.length : Int)) = true := decide_eq_true c20
      clear c20
      have HC21 := Aside0.mk H
      clear H
      have hnb22 := NB196_197.out
      have hnc22 := NB197_196.out
      have hcz23_0 : w6.cell? ⟨gb196, 0, none⟩ = some (.slice Ao4 l0_0.length co4) := (blk_cell BK196.out 0).trans rfl
      have hcz23_1 : w6.cell? ⟨gb196, 1, none⟩ = some (.int .i64 a0_1) := (blk_cell BK196.out 1).trans rfl
      have hcz23_2 : w6.cell? ⟨gb196, 2, none⟩ = some (.bool false) := (blk_cell BK196.out 2).trans rfl
      have hcz23_3 : w6.cell? ⟨gb196, 3, none⟩ = some (.int .i64 a0_3) := (blk_cell BK196.out 3).trans rfl
      have hcz23_4 : w6.cell? ⟨gb196, 4, none⟩ = some (.slice A0_4 l0_4.length c0_4) := (blk_cell BK196.out 4).trans rfl
      have hcz23_5 : w6.cell? ⟨gb196, 5, none⟩ = some (.int .i64 a0_5) := (blk_cell BK196.out 5).trans rfl
      have hfz23_0 := blk_frozen BK196.out 0
      have hfz23_1 := blk_frozen BK196.out 1
      have hfz23_2 := blk_frozen BK196.out 2
      have hfz23_3 := blk_frozen BK196.out 3
      have hfz23_4 := blk_frozen BK196.out 4
      have hfz23_5 := blk_frozen BK196.out 5
      go_upto_if 34 with (first | ((with_reducible refine gate_dst (N := 28) rfl ?_); refine Kd.R_lit (Kd.int .u8) _ 5 ?hg (N := 28) ?hd (xs := ([76, 80, 68, 89, 1] : List Int)) (inner := [.int .u8 76, .int .u8 80, .int .u8 68, .int .u8 89, .int .u8 1]) (ok := fun _ => True) (okp := fun _ => True) ?hr ?hp (fun _ hk => hk) trivial (Below.refl _ _) (Nat.le_refl _) (by simp) ?_; (case hd => rfl); (case hg => rfl); (case hr => first | (go_simp; done) | (go_simp; rfl)); (case hp => exact (Reps.one (show Kd.M (Kd.int .u8) _ _ _ 76 [.int .u8 76] from rfl) (Reps.one (show Kd.M (Kd.int .u8) _ _ _ 80 [.int .u8 80] from rfl) (Reps.one (show Kd.M (Kd.int .u8) _ _ _ 68 [.int .u8 68] from rfl) (Reps.one (show Kd.M (Kd.int .u8) _ _ _ 89 [.int .u8 89] from rfl) (Reps.one (show Kd.M (Kd.int .u8) _ _ _ 1 [.int .u8 1] from rfl) (Reps.none _ _))))))); intro v199 w24 ho25 hb hg_ hnew_; clear hg_ hnew_; (first | rw [← Ny198.out] at ho25 | (simp only [Int.reduceToNat] at ho25; rw [← Ny198.out] at ho25)); have n0_ := Aside0.mk (Kd.R_elder' (by (with_reducible repeat (first | apply Kd.R_alloc | apply Kd.R_drewN | apply Kd.R_drew)); exact (Kd.R_mono (Kd.R_far (p := ⟨gb196, 3, none⟩) (Kd.R_types HO0_0.out BK196.out (by decide)) (fun _ hk => hk.2) (.int .i64 (wrap64 (a0_3 + 1)))) (fun _ h_ => h_.1))) (Kd.R_base ho25) hb); have n1_ := Aside0.mk (Kd.V_elder' (by (with_reducible repeat (first | apply Kd.V_alloc | apply Kd.V_drewN | apply Kd.V_drew)); exact (Kd.V_mono (Kd.V_far (p := ⟨gb196, 3, none⟩) (Kd.V_mono HO0_4.out (fun k_ hk => (⟨hk, hk.1.2⟩ : _ ∧ k_ ≠ gb196))) (fun _ hk => hk.2) (.int .i64 (wrap64 (a0_3 + 1)))) (fun _ h_ => h_.1))) (Kd.R_base ho25) hb); have n2_ := Aside0.mk (Kd.R_lower (Kd.R_new' (Kd.R_newM (M := fun k_ => (P0_0_ k_ ∨ w.heap.size ≤ k_)) ho25 (show Kept w _ (fun k_ => P0_0_ k_) from by repeat (first | (with_reducible first | exact HK.out | apply Kept.alloc | apply Kept.drewN | apply Kept.drew | refine Kept.setCell ?_ (.inr GW196.out) _ | refine Kept.setCell ?_ (.inr GW197.out) _) | exact HK.out)).1 (fun k_ h_ => .inr h_)) (Kd.R_lt (by (with_reducible repeat (first | apply Kd.R_alloc | apply Kd.R_drewN | apply Kd.R_drew)); exact (Kd.R_mono (Kd.R_far (p := ⟨gb196, 3, none⟩) (Kd.R_types HO0_0.out BK196.out (by decide)) (fun _ hk => hk.2) (.int .i64 (wrap64 (a0_3 + 1)))) (fun _ h_ => h_.1))))) (below_size (bH HB))); have n3_ := Aside0.mk (blk_below (g := gb196) (o := .cells #[.slice Ao4 l0_0.length co4, .int .i64 a0_1, .bool false, .int .i64 (wrap64 (a0_3 + 1)), .slice A0_4 l0_4.length c0_4, .int .i64 a0_5] 28 (0, 0)) (by (with_reducible repeat (first | refine blk_drewN ?_ _ | refine blk_drew ?_ | refine blk_alloc ?_ _)); refine blk_put (cs := #[.slice Ao4 l0_0.length co4, .int .i64 a0_1, .bool false, .int .i64 a0_3, .slice A0_4 l0_4.length c0_4, .int .i64 a0_5]) ?_ 3 _ rfl; (with_reducible repeat (first | refine blk_drewN ?_ _ | refine blk_drew ?_ | refine blk_alloc ?_ _)); exact BK196.out) hb); have n4_ := Aside0.mk (blk_below (g := gb197) (o := .cells #[.slice none 0 0, .int .i64 0, .bool false, .int .i64 0, .slice none 0 0, .int .i64 0] 28 (0, 0)) (bK BK197) hb); have n5_ := Aside0.mk (Kept.below (S := (fun k_ => P0_0_ k_)) (by repeat (first | (with_reducible first | exact HK.out | apply Kept.alloc | apply Kept.drewN | apply Kept.drew | refine Kept.setCell ?_ (.inr GW196.out) _ | refine Kept.setCell ?_ (.inr GW197.out) _) | exact HK.out)) hb); have n6_ := Aside0.mk (below_step (bH HB) hb); clear HO0_0; clear HO0_4; clear BK196; clear BK197; clear HK; clear HB; have HO0_0 := n0_; have HO0_4 := n1_; have HO200 := n2_; have BK196 := n3_; have BK197 := n4_; have HK := n5_; have HB := n6_; clear n0_ n1_ n2_ n3_ n4_ n5_ n6_; clear hb ho25; have hcz26_0 : w24.cell? ⟨gb196, 0, none⟩ = some (.slice Ao4 l0_0.length co4) := (blk_cell BK196.out 0).trans rfl; have hcz26_1 : w24.cell? ⟨gb196, 1, none⟩ = some (.int .i64 a0_1) := (blk_cell BK196.out 1).trans rfl; have hcz26_2 : w24.cell? ⟨gb196, 2, none⟩ = some (.bool false) := (blk_cell BK196.out 2).trans rfl; have hcz26_3 : w24.cell? ⟨gb196, 3, none⟩ = some (.int .i64 (wrap64 (a0_3 + 1))) := (blk_cell BK196.out 3).trans rfl; have hcz26_4 : w24.cell? ⟨gb196, 4, none⟩ = some (.slice A0_4 l0_4.length c0_4) := (blk_cell BK196.out 4).trans rfl; have hcz26_5 : w24.cell? ⟨gb196, 5, none⟩ = some (.int .i64 a0_5) := (blk_cell BK196.out 5).trans rfl; have hfz26_0 := blk_frozen BK196.out 0; have hfz26_1 := blk_frozen BK196.out 1; have hfz26_2 := blk_frozen BK196.out 2; have hfz26_3 := blk_frozen BK196.out 3; have hfz26_4 := blk_frozen BK196.out 4; have hfz26_5 := blk_frozen BK196.out 5; obtain ⟨Ao27, co27, eo27⟩ := Kd.R_slice HO200.out; subst eo27; have p201 : 0 ≤ ((ji18) : Int) := of_decide_eq_true (by first | (with_reducible assumption) | assumption); have q201 : (ji18) < (y198.length : Int) := of_decide_eq_true (by first | (with_reducible assumption) | assumption); obtain ⟨ad201, e201, hx201_0⟩ := Kd.at_int (Kd.R_reads' HO200.out).2.2 (ji18) p201 q201; cases e201; replace p201 := eq_true p201; replace q201 := eq_true q201))
      (try simp only [Act.put, List.setIfInBounds_toArray, List.set_cons_zero, List.set_cons_succ])
      have H := HC21.out
      clear HC21
      by_cases c28 : a1 = (rd y198 (ji18))
      ·rw [if_pos c28] at H
       have c28b0 : (a1 == (rd y198 (ji18))) = true := beq_iff_eq.mpr c28
       have c28b1 : (a1 != (rd y198 (ji18))) = false := bne_eq_false_iff_eq.mpr c28
       clear c28
       (first | rw [c28b0] | (simp only [i64_w, i32_w]; rw [c28b0]) | skip)
       simp only [Option.some.injEq, Prod.mk.injEq] at H
       obtain ⟨rfl, rfl, rfl, rfl, rfl, rfl⟩ := H
       have hnb29 := NB196_197.out
       have hnc29 := NB197_196.out
       have hcz30_0 : w24.cell? ⟨gb196, 0, none⟩ = some (.slice Ao4 l0_0.length co4) := (blk_cell BK196.out 0).trans rfl
       have hcz30_1 : w24.cell? ⟨gb196, 1, none⟩ = some (.int .i64 a0_1) := (blk_cell BK196.out 1).trans rfl
       have hcz30_2 : w24.cell? ⟨gb196, 2, none⟩ = some (.bool false) := (blk_cell BK196.out 2).trans rfl
       have hcz30_3 : w24.cell? ⟨gb196, 3, none⟩ = some (.int .i64 (wrap64 (a0_3 + 1))) := (blk_cell BK196.out 3).trans rfl
       have hcz30_4 : w24.cell? ⟨gb196, 4, none⟩ = some (.slice A0_4 l0_4.length c0_4) := (blk_cell BK196.out 4).trans rfl
       have hcz30_5 : w24.cell? ⟨gb196, 5, none⟩ = some (.int .i64 a0_5) := (blk_cell BK196.out 5).trans rfl
       have hfz30_0 := blk_frozen BK196.out 0
       have hfz30_1 := blk_frozen BK196.out 1
       have hfz30_2 := blk_frozen BK196.out 2
       have hfz30_3 := blk_frozen BK196.out 3
       have hfz30_4 := blk_frozen BK196.out 4
       have hfz30_5 := blk_frozen BK196.out 5
       have hcz31_0 : w24.cell? ⟨gb197, 0, none⟩ = some (.slice none 0 0) := (blk_cell BK197.out 0).trans rfl
       have hcz31_1 : w24.cell? ⟨gb197, 1, none⟩ = some (.int .i64 0) := (blk_cell BK197.out 1).trans rfl
       have hcz31_2 : w24.cell? ⟨gb197, 2, none⟩ = some (.bool false) := (blk_cell BK197.out 2).trans rfl
       have hcz31_3 : w24.cell? ⟨gb197, 3, none⟩ = some (.int .i64 0) := (blk_cell BK197.out 3).trans rfl
       have hcz31_4 : w24.cell? ⟨gb197, 4, none⟩ = some (.slice none 0 0) := (blk_cell BK197.out 4).trans rfl
       have hcz31_5 : w24.cell? ⟨gb197, 5, none⟩ = some (.int .i64 0) := (blk_cell BK197.out 5).trans rfl
       have hfz31_0 := blk_frozen BK197.out 0
       have hfz31_1 := blk_frozen BK197.out 1
       have hfz31_2 := blk_frozen BK197.out 2
       have hfz31_3 := blk_frozen BK197.out 3
       have hfz31_4 := blk_frozen BK197.out 4
       have hfz31_5 := blk_frozen BK197.out 5
       go_wp2
       refine bodyPost_ret (results_cell_row rfl _ _ gb197 28 #[.slice Ao4 l0_0.length co4, .int .i64 a0_1, .bool false, .int .i64 (wrap64 (a0_3 + 1)), .slice A0_4 l0_4.length c0_4, .int .i64 a0_5] (0, 0) _ rfl (by (with_reducible repeat (first | refine blk_drewN ?_ _ | refine blk_drew ?_ | refine blk_alloc ?_ _)); refine blk_put (cs := #[.slice Ao4 l0_0.length co4, .int .i64 a0_1, .bool false, .int .i64 (wrap64 (a0_3 + 1)), .slice A0_4 l0_4.length c0_4, .int .i64 0]) ?_ 5 _ rfl; (with_reducible repeat (first | refine blk_drewN ?_ _ | refine blk_drew ?_ | refine blk_alloc ?_ _)); refine blk_put (cs := #[.slice Ao4 l0_0.length co4, .int .i64 a0_1, .bool false, .int .i64 (wrap64 (a0_3 + 1)), .slice none 0 0, .int .i64 0]) ?_ 4 _ rfl; (with_reducible repeat (first | refine blk_drewN ?_ _ | refine blk_drew ?_ | refine blk_alloc ?_ _)); refine blk_put (cs := #[.slice Ao4 l0_0.length co4, .int .i64 a0_1, .bool false, .int .i64 0, .slice none 0 0, .int .i64 0]) ?_ 3 _ rfl; (with_reducible repeat (first | refine blk_drewN ?_ _ | refine blk_drew ?_ | refine blk_alloc ?_ _)); refine blk_put (cs := #[.slice Ao4 l0_0.length co4, .int .i64 a0_1, .bool false, .int .i64 0, .slice none 0 0, .int .i64 0]) ?_ 2 _ rfl; (with_reducible repeat (first | refine blk_drewN ?_ _ | refine blk_drew ?_ | refine blk_alloc ?_ _)); refine blk_put (cs := #[.slice Ao4 l0_0.length co4, .int .i64 0, .bool false, .int .i64 0, .slice none 0 0, .int .i64 0]) ?_ 1 _ rfl; (with_reducible repeat (first | refine blk_drewN ?_ _ | refine blk_drew ?_ | refine blk_alloc ?_ _)); refine blk_put (cs := #[.slice none 0 0, .int .i64 0, .bool false, .int .i64 0, .slice none 0 0, .int .i64 0]) ?_ 0 _ rfl; (with_reducible repeat (first | refine blk_drewN ?_ _ | refine blk_drew ?_ | refine blk_alloc ?_ _)); exact BK197.out) Try.underlying28 rfl (by kernel_rfl)) rfl ?_
       exact ⟨_, _, by first | rfl | (simp [errW_none, errW_some] <;> rfl) | (simp only [← hji18]; first | rfl | (simp [errW_none, errW_some] <;> rfl)) | (simp [*, errW_none, errW_some] <;> rfl), by (with_reducible repeat (first | apply Kd.R_alloc | apply Kd.R_drewN | apply Kd.R_drew)); exact Kd.R_mono (Kd.R_far (p := ⟨gb197, 5, none⟩) (Kd.R_far (p := ⟨gb197, 4, none⟩) (Kd.R_far (p := ⟨gb197, 3, none⟩) (Kd.R_far (p := ⟨gb197, 2, none⟩) (Kd.R_far (p := ⟨gb197, 1, none⟩) (Kd.R_far (p := ⟨gb197, 0, none⟩) (Kd.R_types HO0_0.out BK197.out (by decide)) (fun _ hk => hk.2) (.slice Ao4 l0_0.length co4)) (fun _ hk => hk.2) (.int .i64 a0_1)) (fun _ hk => hk.2) (.bool false)) (fun _ hk => hk.2) (.int .i64 (wrap64 (a0_3 + 1)))) (fun _ hk => hk.2) (.slice A0_4 l0_4.length c0_4)) (fun _ hk => hk.2) (.int .i64 a0_5)) (fun _ hk => hk.1.1), by (with_reducible repeat (first | apply Kd.V_alloc | apply Kd.V_drewN | apply Kd.V_drew)); exact Kd.V_mono (Kd.V_far (p := ⟨gb197, 5, none⟩) (Kd.V_far (p := ⟨gb197, 4, none⟩) (Kd.V_far (p := ⟨gb197, 3, none⟩) (Kd.V_far (p := ⟨gb197, 2, none⟩) (Kd.V_far (p := ⟨gb197, 1, none⟩) (Kd.V_far (p := ⟨gb197, 0, none⟩) (Kd.V_mono HO0_4.out (fun k_ hk => (⟨hk, hk.1.2⟩ : _ ∧ k_ ≠ gb197))) (fun _ hk => hk.2) (.slice Ao4 l0_0.length co4)) (fun _ hk => hk.2) (.int .i64 a0_1)) (fun _ hk => hk.2) (.bool false)) (fun _ hk => hk.2) (.int .i64 (wrap64 (a0_3 + 1)))) (fun _ hk => hk.2) (.slice A0_4 l0_4.length c0_4)) (fun _ hk => hk.2) (.int .i64 a0_5)) (fun _ hk => ⟨hk.1.1.1.1.1, hk.1.1.1.1.2⟩), bH HB, by repeat (first | (with_reducible first | exact HK.out | apply Kept.alloc | apply Kept.drewN | apply Kept.drew | refine Kept.setCell ?_ (.inr GW196.out) _ | refine Kept.setCell ?_ (.inr GW197.out) _) | exact HK.out)⟩
      ·rw [if_neg c28] at H
       have c28b0 : (a1 == (rd y198 (ji18))) = false := beq_eq_false_iff_ne.mpr c28
       have c28b1 : (a1 != (rd y198 (ji18))) = true := bne_iff_ne.mpr c28
       (first | rw [c28b0] | (simp only [i64_w, i32_w]; rw [c28b0]) | skip)
       simp only [Option.some.injEq, Prod.mk.injEq] at H
       obtain ⟨rfl, rfl, rfl, rfl, rfl, rfl⟩ := H
       have hnb32 := NB196_197.out
       have hnc32 := NB197_196.out
       have hcz33_0 : w24.cell? ⟨gb196, 0, none⟩ = some (.slice Ao4 l0_0.length co4) := (blk_cell BK196.out 0).trans rfl
       have hcz33_1 : w24.cell? ⟨gb196, 1, none⟩ = some (.int .i64 a0_1) := (blk_cell BK196.out 1).trans rfl
       have hcz33_2 : w24.cell? ⟨gb196, 2, none⟩ = some (.bool false) := (blk_cell BK196.out 2).trans rfl
       have hcz33_3 : w24.cell? ⟨gb196, 3, none⟩ = some (.int .i64 (wrap64 (a0_3 + 1))) := (blk_cell BK196.out 3).trans rfl
       have hcz33_4 : w24.cell? ⟨gb196, 4, none⟩ = some (.slice A0_4 l0_4.length c0_4) := (blk_cell BK196.out 4).trans rfl
       have hcz33_5 : w24.cell? ⟨gb196, 5, none⟩ = some (.int .i64 a0_5) := (blk_cell BK196.out 5).trans rfl
       have hfz33_0 := blk_frozen BK196.out 0
       have hfz33_1 := blk_frozen BK196.out 1
       have hfz33_2 := blk_frozen BK196.out 2
       have hfz33_3 := blk_frozen BK196.out 3
       have hfz33_4 := blk_frozen BK196.out 4
       have hfz33_5 := blk_frozen BK196.out 5
       have hcz34_0 : w24.cell? ⟨gb197, 0, none⟩ = some (.slice none 0 0) := (blk_cell BK197.out 0).trans rfl
       have hcz34_1 : w24.cell? ⟨gb197, 1, none⟩ = some (.int .i64 0) := (blk_cell BK197.out 1).trans rfl
       have hcz34_2 : w24.cell? ⟨gb197, 2, none⟩ = some (.bool false) := (blk_cell BK197.out 2).trans rfl
       have hcz34_3 : w24.cell? ⟨gb197, 3, none⟩ = some (.int .i64 0) := (blk_cell BK197.out 3).trans rfl
       have hcz34_4 : w24.cell? ⟨gb197, 4, none⟩ = some (.slice none 0 0) := (blk_cell BK197.out 4).trans rfl
       have hcz34_5 : w24.cell? ⟨gb197, 5, none⟩ = some (.int .i64 0) := (blk_cell BK197.out 5).trans rfl
       have hfz34_0 := blk_frozen BK197.out 0
       have hfz34_1 := blk_frozen BK197.out 1
       have hfz34_2 := blk_frozen BK197.out 2
       have hfz34_3 := blk_frozen BK197.out 3
       have hfz34_4 := blk_frozen BK197.out 4
       have hfz34_5 := blk_frozen BK197.out 5
       go_wp2
       refine bodyPost_ret (results_cell_row rfl _ _ gb197 28 #[.slice Ao4 l0_0.length co4, .int .i64 a0_1, .bool false, .int .i64 (wrap64 (a0_3 + 1)), .slice A0_4 l0_4.length c0_4, .int .i64 11] (0, 0) _ rfl (by (with_reducible repeat (first | refine blk_drewN ?_ _ | refine blk_drew ?_ | refine blk_alloc ?_ _)); refine blk_put (cs := #[.slice Ao4 l0_0.length co4, .int .i64 a0_1, .bool false, .int .i64 (wrap64 (a0_3 + 1)), .slice A0_4 l0_4.length c0_4, .int .i64 0]) ?_ 5 _ rfl; (with_reducible repeat (first | refine blk_drewN ?_ _ | refine blk_drew ?_ | refine blk_alloc ?_ _)); refine blk_put (cs := #[.slice Ao4 l0_0.length co4, .int .i64 a0_1, .bool false, .int .i64 (wrap64 (a0_3 + 1)), .slice none 0 0, .int .i64 0]) ?_ 4 _ rfl; (with_reducible repeat (first | refine blk_drewN ?_ _ | refine blk_drew ?_ | refine blk_alloc ?_ _)); refine blk_put (cs := #[.slice Ao4 l0_0.length co4, .int .i64 a0_1, .bool false, .int .i64 0, .slice none 0 0, .int .i64 0]) ?_ 3 _ rfl; (with_reducible repeat (first | refine blk_drewN ?_ _ | refine blk_drew ?_ | refine blk_alloc ?_ _)); refine blk_put (cs := #[.slice Ao4 l0_0.length co4, .int .i64 a0_1, .bool false, .int .i64 0, .slice none 0 0, .int .i64 0]) ?_ 2 _ rfl; (with_reducible repeat (first | refine blk_drewN ?_ _ | refine blk_drew ?_ | refine blk_alloc ?_ _)); refine blk_put (cs := #[.slice Ao4 l0_0.length co4, .int .i64 0, .bool false, .int .i64 0, .slice none 0 0, .int .i64 0]) ?_ 1 _ rfl; (with_reducible repeat (first | refine blk_drewN ?_ _ | refine blk_drew ?_ | refine blk_alloc ?_ _)); refine blk_put (cs := #[.slice none 0 0, .int .i64 0, .bool false, .int .i64 0, .slice none 0 0, .int .i64 0]) ?_ 0 _ rfl; (with_reducible repeat (first | refine blk_drewN ?_ _ | refine blk_drew ?_ | refine blk_alloc ?_ _)); refine blk_far ?_ NB197_196.out _; (with_reducible repeat (first | refine blk_drewN ?_ _ | refine blk_drew ?_ | refine blk_alloc ?_ _)); exact BK197.out) Try.underlying28 rfl (by kernel_rfl)) rfl ?_
       exact ⟨_, _, by first | rfl | (simp [errW_none, errW_some] <;> rfl) | (simp only [← hji18]; first | rfl | (simp [errW_none, errW_some] <;> rfl)) | (simp [*, errW_none, errW_some] <;> rfl), by (with_reducible repeat (first | apply Kd.R_alloc | apply Kd.R_drewN | apply Kd.R_drew)); exact Kd.R_mono (Kd.R_far (p := ⟨gb197, 5, none⟩) (Kd.R_far (p := ⟨gb197, 4, none⟩) (Kd.R_far (p := ⟨gb197, 3, none⟩) (Kd.R_far (p := ⟨gb197, 2, none⟩) (Kd.R_far (p := ⟨gb197, 1, none⟩) (Kd.R_far (p := ⟨gb197, 0, none⟩) (Kd.R_far (p := ⟨gb196, 5, none⟩) (Kd.R_types (Kd.R_types HO0_0.out BK196.out (by decide)) BK197.out (by decide)) (fun _ hk => hk.1.2) (.int .i64 11)) (fun _ hk => hk.2) (.slice Ao4 l0_0.length co4)) (fun _ hk => hk.2) (.int .i64 a0_1)) (fun _ hk => hk.2) (.bool false)) (fun _ hk => hk.2) (.int .i64 (wrap64 (a0_3 + 1)))) (fun _ hk => hk.2) (.slice A0_4 l0_4.length c0_4)) (fun _ hk => hk.2) (.int .i64 11)) (fun _ hk => hk.1.1.1), by (with_reducible repeat (first | apply Kd.V_alloc | apply Kd.V_drewN | apply Kd.V_drew)); exact Kd.V_mono (Kd.V_far (p := ⟨gb197, 5, none⟩) (Kd.V_far (p := ⟨gb197, 4, none⟩) (Kd.V_far (p := ⟨gb197, 3, none⟩) (Kd.V_far (p := ⟨gb197, 2, none⟩) (Kd.V_far (p := ⟨gb197, 1, none⟩) (Kd.V_far (p := ⟨gb197, 0, none⟩) (Kd.V_far (p := ⟨gb196, 5, none⟩) (Kd.V_mono (Kd.V_mono HO0_4.out (fun k_ hk => (⟨hk, hk.1.1.2⟩ : _ ∧ k_ ≠ gb196))) (fun k_ hk => (⟨hk, hk.1.1.2⟩ : _ ∧ k_ ≠ gb197))) (fun _ hk => hk.1.2) (.int .i64 11)) (fun _ hk => hk.2) (.slice Ao4 l0_0.length co4)) (fun _ hk => hk.2) (.int .i64 a0_1)) (fun _ hk => hk.2) (.bool false)) (fun _ hk => hk.2) (.int .i64 (wrap64 (a0_3 + 1)))) (fun _ hk => hk.2) (.slice A0_4 l0_4.length c0_4)) (fun _ hk => hk.2) (.int .i64 11)) (fun _ hk => ⟨hk.1.1.1.1.1.1, hk.1.1.1.1.1.2⟩), bH HB, by repeat (first | (with_reducible first | exact HK.out | apply Kept.alloc | apply Kept.drewN | apply Kept.drew | refine Kept.setCell ?_ (.inr GW196.out) _ | refine Kept.setCell ?_ (.inr GW197.out) _) | exact HK.out)⟩
     ·rw [if_neg c20] at H
      exact absurd H (by simp)
    ·rw [if_neg c19] at H
     exact absurd H (by simp)
   ·rw [if_neg c17] at H
    have c17b0 : decide ((wrap64 (a0_3 + 1)) ≤ 5) = false := decide_eq_false c17
    clear c17
    (first | rw [c17b0] | (simp only [i64_w, i32_w]; rw [c17b0]) | skip)
    by_cases c35 : ([] : List Int).length + l0_0.length < 140737488355328
    ·rw [if_pos c35] at H
     have LMc35 := Aside0.mk c35
     clear c35
     obtain ⟨y202, hy202⟩ : ∃ y_ : List Int, y_ = (([] : List Int) ++ l0_0) := ⟨_, rfl⟩
     replace H : (if y202.length < 140737488355328 then ((some (y202 ++ [a1] : List Int)).bind fun y205 => (if (y205.length : Int) = 1 then (if a1 = 0 then (some (y205, a0_1, true, wrap64 (a0_3 + 1), l0_4, a0_5)) else (if (wrap64 (a1)) ≤ a0_1 then (some (y205, a0_1, false, wrap64 (a0_3 + 1), l0_4, 11)) else (if a1 > 9 then (some (y205, a0_1, false, wrap64 (a0_3 + 1), l0_4, 11)) else (some (y205, a0_1, false, wrap64 (a0_3 + 1), l0_4, a0_5))))) else ((lapidaryref01_Get.f k y205 1).bind fun bt208 => (if bt208.2.2 = 10 then (some (y205, a0_1, false, wrap64 (a0_3 + 1), l0_4, a0_5)) else (if bt208.2.2 = 0 then (if bt208.1 > 1048576 then (some (y205, a0_1, false, wrap64 (a0_3 + 1), l0_4, 3)) else (if (y205.length : Int) < (wrap64 ((wrap64 (bt208.2.1 + (wrap64 (bt208.1)))) + 4)) then (some (y205, a0_1, false, wrap64 (a0_3 + 1), l0_4, a0_5)) else ((lapidaryref02_Check.f k y205).bind fun bt211 => (if bt211.2 = 0 then (if ([] : List (S48)).length + l0_4.length < 4398046511104 then ((some (([] : List (S48)) ++ l0_4 : List (S48))).bind fun y215 => (if 0 < (y205.length : Int) then (if 0 ≤ bt208.2.1 then (if bt208.2.1 ≤ (bt211.1.length : Int) then ((lapidaryref00_Copy.f (bt211.1.drop (bt208.2.1 : Int).toNat)).bind fun t224 => (if y215.length < 4398046511104 then (some (([] : List Int), wrap64 (rd y205 0), false, wrap64 (a0_3 + 1), (y215 ++ [(⟨wrap64 (rd y205 0), t224⟩ : S48)]), a0_5)) else (none))) else (none)) else (none)) else (none))) else (none)) else (some (y205, a0_1, false, wrap64 (a0_3 + 1), l0_4, bt211.2)))))) else (some (y205, a0_1, false, wrap64 (a0_3 + 1), l0_4, bt208.2.2))))))) else (none)) = some (r1, r2, r3, r4, r5, r6) := by first | (rw [hy202]; with_reducible exact H) | (have H2_ := (Option.bind_some _ _).symm.trans H; rw [hy202]; with_reducible exact H2_) | (have H2_ := (Option.bind_some _ _).symm.trans H; with_reducible exact H2_) | with_reducible exact H | (rw [hy202]; exact H) | exact H
     have Ny202 := Aside0.mk hy202
     clear hy202
     by_cases c36 : y202.length < 140737488355328
     ·rw [if_pos c36] at H
      have LMc36 := Aside0.mk c36
      clear c36
      obtain ⟨y205, hy205⟩ : ∃ y_ : List Int, y_ = (y202 ++ [a1]) := ⟨_, rfl⟩
      replace H : (if (y205.length : Int) = 1 then (if a1 = 0 then (some (y205, a0_1, true, wrap64 (a0_3 + 1), l0_4, a0_5)) else (if (wrap64 (a1)) ≤ a0_1 then (some (y205, a0_1, false, wrap64 (a0_3 + 1), l0_4, 11)) else (if a1 > 9 then (some (y205, a0_1, false, wrap64 (a0_3 + 1), l0_4, 11)) else (some (y205, a0_1, false, wrap64 (a0_3 + 1), l0_4, a0_5))))) else ((lapidaryref01_Get.f k y205 1).bind fun bt208 => (if bt208.2.2 = 10 then (some (y205, a0_1, false, wrap64 (a0_3 + 1), l0_4, a0_5)) else (if bt208.2.2 = 0 then (if bt208.1 > 1048576 then (some (y205, a0_1, false, wrap64 (a0_3 + 1), l0_4, 3)) else (if (y205.length : Int) < (wrap64 ((wrap64 (bt208.2.1 + (wrap64 (bt208.1)))) + 4)) then (some (y205, a0_1, false, wrap64 (a0_3 + 1), l0_4, a0_5)) else ((lapidaryref02_Check.f k y205).bind fun bt211 => (if bt211.2 = 0 then (if ([] : List (S48)).length + l0_4.length < 4398046511104 then ((some (([] : List (S48)) ++ l0_4 : List (S48))).bind fun y215 => (if 0 < (y205.length : Int) then (if 0 ≤ bt208.2.1 then (if bt208.2.1 ≤ (bt211.1.length : Int) then ((lapidaryref00_Copy.f (bt211.1.drop (bt208.2.1 : Int).toNat)).bind fun t224 => (if y215.length < 4398046511104 then (some (([] : List Int), wrap64 (rd y205 0), false, wrap64 (a0_3 + 1), (y215 ++ [(⟨wrap64 (rd y205 0), t224⟩ : S48)]), a0_5)) else (none))) else (none)) else (none)) else (none))) else (none)) else (some (y205, a0_1, false, wrap64 (a0_3 + 1), l0_4, bt211.2)))))) else (some (y205, a0_1, false, wrap64 (a0_3 + 1), l0_4, bt208.2.2)))))) = some (r1, r2, r3, r4, r5, r6) := by first | (rw [hy205]; with_reducible exact H) | (have H2_ := (Option.bind_some _ _).symm.trans H; rw [hy205]; with_reducible exact H2_) | (have H2_ := (Option.bind_some _ _).symm.trans H; with_reducible exact H2_) | with_reducible exact H | (rw [hy205]; exact H) | exact H
      have Ny205 := Aside0.mk hy205
      clear hy205
      have HC37 := Aside0.mk H
      clear H
      have hnb38 := NB196_197.out
      have hnc38 := NB197_196.out
      have hcz39_0 : w6.cell? ⟨gb196, 0, none⟩ = some (.slice Ao4 l0_0.length co4) := (blk_cell BK196.out 0).trans rfl
      have hcz39_1 : w6.cell? ⟨gb196, 1, none⟩ = some (.int .i64 a0_1) := (blk_cell BK196.out 1).trans rfl
      have hcz39_2 : w6.cell? ⟨gb196, 2, none⟩ = some (.bool false) := (blk_cell BK196.out 2).trans rfl
      have hcz39_3 : w6.cell? ⟨gb196, 3, none⟩ = some (.int .i64 a0_3) := (blk_cell BK196.out 3).trans rfl
      have hcz39_4 : w6.cell? ⟨gb196, 4, none⟩ = some (.slice A0_4 l0_4.length c0_4) := (blk_cell BK196.out 4).trans rfl
      have hcz39_5 : w6.cell? ⟨gb196, 5, none⟩ = some (.int .i64 a0_5) := (blk_cell BK196.out 5).trans rfl
      have hfz39_0 := blk_frozen BK196.out 0
      have hfz39_1 := blk_frozen BK196.out 1
      have hfz39_2 := blk_frozen BK196.out 2
      have hfz39_3 := blk_frozen BK196.out 3
      have hfz39_4 := blk_frozen BK196.out 4
      have hfz39_5 := blk_frozen BK196.out 5
      go_upto_if 49 with (first | ((with_reducible refine gate_builtin (b := .append) (xs := #[.tmp 37, .tmp 39]) rfl ?_); at_builtin; refine Kd.R_append_rows (Kd.int .u8) (w0 := w0) w0.heap.size rfl (.tmp 37) (.tmp 39) 22 5 (.int .u8 0) 1 rfl Try.underlying22 info5 rfl (by decide) (by omega) (.slice none 0 0) ([] : List Int) l0_0 _ _ _ (fun k_ => (P0_0_ k_ ∨ w.heap.size ≤ k_) ∧ some k_ ≠ (.slice Ao4 l0_0.length co4 : Value).ownBlock) (fun _ => False) rfl rfl ?aO ?aR (fun _ _ h => h) (fun _ h => h.elim) ?aF ?aB ?aS ?aL ?_; (case aR => refine (Kd.R_reads' (e := 5) (base := w0.heap.size) (ok := fun k_ => (P0_0_ k_ ∨ w.heap.size ≤ k_)) (n := l0_0.length) (c := co4) ?_).2.2; exact (by (with_reducible repeat (first | apply Kd.R_alloc | apply Kd.R_drewN | apply Kd.R_drew)); exact (Kd.R_mono (Kd.R_far (p := ⟨gb196, 3, none⟩) (Kd.R_types HO0_0.out BK196.out (by decide)) (fun _ hk => hk.2) (.int .i64 (wrap64 (a0_3 + 1)))) (fun _ h_ => h_.1)))); (case aB => exact (bH HB)); (case aF => exact (fun k_ hk => ⟨(.inr (Nat.le_trans (show Kept w _ (fun k_ => P0_0_ k_) from by repeat (first | (with_reducible first | exact HK.out | apply Kept.alloc | apply Kept.drewN | apply Kept.drew | refine Kept.setCell ?_ (.inr GW196.out) _ | refine Kept.setCell ?_ (.inr GW197.out) _) | exact HK.out)).1 hk)), Kd.fresh' (Kd.R_lt (by (with_reducible repeat (first | apply Kd.R_alloc | apply Kd.R_drewN | apply Kd.R_drew)); exact (Kd.R_mono (Kd.R_far (p := ⟨gb196, 3, none⟩) (Kd.R_types HO0_0.out BK196.out (by decide)) (fun _ hk => hk.2) (.int .i64 (wrap64 (a0_3 + 1)))) (fun _ h_ => h_.1)))) k_ hk⟩)); (case aO => exact ((Kd.R_nil _ _ _ _ (fun k_ => (P0_0_ k_ ∨ w.heap.size ≤ k_) ∧ some k_ ≠ (.slice Ao4 l0_0.length co4 : Value).ownBlock)))); (case aS => exact (below_size (bH HB))); (case aL => have := LMc35.out; omega); intro v203 w40 ho hb hg hat; rw [← Ny202.out] at ho; have n0_ := Aside0.mk (Kd.R_after (Kd.R_apart_nil (by (with_reducible repeat (first | apply Kd.R_alloc | apply Kd.R_drewN | apply Kd.R_drew)); exact (Kd.R_mono (Kd.R_far (p := ⟨gb196, 3, none⟩) (Kd.R_types HO0_0.out BK196.out (by decide)) (fun _ hk => hk.2) (.int .i64 (wrap64 (a0_3 + 1)))) (fun _ h_ => h_.1)))) hg hat); have n1_ := Aside0.mk (Kd.V_afterv (Kd.V_apart_nil (by (with_reducible repeat (first | apply Kd.V_alloc | apply Kd.V_drewN | apply Kd.V_drew)); exact (Kd.V_mono (Kd.V_far (p := ⟨gb196, 3, none⟩) (Kd.V_mono HO0_4.out (fun k_ hk => (⟨hk, hk.1.2⟩ : _ ∧ k_ ≠ gb196))) (fun _ hk => hk.2) (.int .i64 (wrap64 (a0_3 + 1)))) (fun _ h_ => h_.1)))) hg hat); have n2_ := Aside0.mk (blk_grown (g := gb196) (o := .cells #[.slice Ao4 l0_0.length co4, .int .i64 a0_1, .bool false, .int .i64 (wrap64 (a0_3 + 1)), .slice A0_4 l0_4.length c0_4, .int .i64 a0_5] 28 (0, 0)) (by (with_reducible repeat (first | refine blk_drewN ?_ _ | refine blk_drew ?_ | refine blk_alloc ?_ _)); refine blk_put (cs := #[.slice Ao4 l0_0.length co4, .int .i64 a0_1, .bool false, .int .i64 a0_3, .slice A0_4 l0_4.length c0_4, .int .i64 a0_5]) ?_ 3 _ rfl; (with_reducible repeat (first | refine blk_drewN ?_ _ | refine blk_drew ?_ | refine blk_alloc ?_ _)); exact BK196.out) hg (by simp [Value.ownBlock])); have n3_ := Aside0.mk (blk_grown (g := gb197) (o := .cells #[.slice none 0 0, .int .i64 0, .bool false, .int .i64 0, .slice none 0 0, .int .i64 0] 28 (0, 0)) (bK BK197) hg (by simp [Value.ownBlock])); have n4_ := Aside0.mk (hb); have n5_ := Aside0.mk (Kept.of_grown (S := (fun k_ => P0_0_ k_)) hg (by repeat (first | (with_reducible first | exact HK.out | apply Kept.alloc | apply Kept.drewN | apply Kept.drew | refine Kept.setCell ?_ (.inr GW196.out) _ | refine Kept.setCell ?_ (.inr GW197.out) _) | exact HK.out)) (fun k_ e_ => by simp [Value.ownBlock] at e_)); have n6_ := Aside0.mk (ho); clear HO0_0; clear HO0_4; clear BK196; clear BK197; clear HB; clear HK; have HO0_0 := n0_; have HO0_4 := n1_; have BK196 := n2_; have BK197 := n3_; have HB := n4_; have HK := n5_; have HO204 := n6_; clear n0_ n1_ n2_ n3_ n4_ n5_ n6_; clear ho hb hg hat) | ((with_reducible refine gate_builtin (b := .append) (xs := #[.tmp 41, .tmp 43]) rfl ?_); at_builtin; refine Kd.R_append (Kd.int .u8) (w0 := w0) w0.heap.size rfl (.tmp 41) (.tmp 43) 22 5 (.int .u8 0) 1 rfl Try.underlying22 info5 rfl (by decide) (by omega) v203 y202 a1 [.int .u8 a1] (fun k_ => (P0_0_ k_ ∨ w.heap.size ≤ k_) ∧ some k_ ≠ (.slice Ao4 l0_0.length co4 : Value).ownBlock) (fun _ => False) rfl rfl ?aP (fun _ hk => hk.elim) ?aF ?aO ?aB ?aS ?aL ?_; (case aP => exact rfl); (case aB => exact (bH HB)); (case aF => exact (fun k_ hk => ⟨(.inr (Nat.le_trans (by first | exact HK.out.1 | exact (show Kept w _ (fun k_ => P0_0_ k_) from by repeat (first | (with_reducible first | exact HK.out | apply Kept.alloc | apply Kept.drewN | apply Kept.drew | refine Kept.setCell ?_ (.inr GW196.out) _ | refine Kept.setCell ?_ (.inr GW197.out) _) | exact HK.out)).1) hk)), Kd.fresh' (Kd.R_lt (rK HO0_0)) k_ hk⟩)); (case aO => exact (rK HO204)); (case aS => exact (below_size (bH HB))); (case aL => have := LMc36.out; omega); intro v206 w41 ho hb hg hat; rw [← Ny205.out] at ho; have n0_ := Aside0.mk (Kd.R_after (ok := (fun k_ => (P0_0_ k_ ∨ w.heap.size ≤ k_))) (rK HO0_0) hg hat); have n1_ := Aside0.mk (Kd.V_afterv (ok := (fun k_ => ((P0_0_ k_ ∨ P0_4_ k_) ∨ w.heap.size ≤ k_) ∧ some k_ ≠ (.slice Ao4 l0_0.length co4 : Value).ownBlock ∧ k_ ≠ gb196 ∧ k_ ≠ gb197)) (by (with_reducible repeat (first | apply Kd.V_alloc | apply Kd.V_drewN | apply Kd.V_drew)); exact Kd.V_mono HO0_4.out (fun _ hk => ⟨⟨hk.1.1.1.1, ⟨hk.1.1.1.2, ⟨hk.1.1.2, hk.1.2⟩⟩⟩, hk.2⟩)) hg hat); have n2_ := Aside0.mk (blk_grown (g := gb196) (o := .cells #[.slice Ao4 l0_0.length co4, .int .i64 a0_1, .bool false, .int .i64 (wrap64 (a0_3 + 1)), .slice A0_4 l0_4.length c0_4, .int .i64 a0_5] 28 (0, 0)) (bK BK196) hg (Kd.R_ne HO204.out BK196.out (by decide))); have n3_ := Aside0.mk (blk_grown (g := gb197) (o := .cells #[.slice none 0 0, .int .i64 0, .bool false, .int .i64 0, .slice none 0 0, .int .i64 0] 28 (0, 0)) (bK BK197) hg (Kd.R_ne HO204.out BK197.out (by decide))); have n4_ := Aside0.mk (hb); have n5_ := Aside0.mk (Kept.of_grown (S := (fun k_ => P0_0_ k_)) hg (by repeat (first | (with_reducible first | exact HK.out | apply Kept.alloc | apply Kept.drewN | apply Kept.drew | refine Kept.setCell ?_ (.inr GW196.out) _ | refine Kept.setCell ?_ (.inr GW197.out) _) | exact HK.out)) (fun k_ e_ => (HO204.out.1 k_ e_).1)); have n6_ := Aside0.mk (ho); clear HO0_0; clear HO0_4; clear BK196; clear BK197; clear HB; clear HK; clear HO204; have HO0_0 := n0_; have HO0_4 := n1_; have BK196 := n2_; have BK197 := n3_; have HB := n4_; have HK := n5_; have HO207 := n6_; clear n0_ n1_ n2_ n3_ n4_ n5_ n6_; clear ho hb hg hat; obtain ⟨Ao42, co42, eo42⟩ := Kd.R_slice HO207.out; subst eo42; have hcz43_0 : w41.cell? ⟨gb196, 0, none⟩ = some (.slice Ao4 l0_0.length co4) := (blk_cell BK196.out 0).trans rfl; have hcz43_1 : w41.cell? ⟨gb196, 1, none⟩ = some (.int .i64 a0_1) := (blk_cell BK196.out 1).trans rfl; have hcz43_2 : w41.cell? ⟨gb196, 2, none⟩ = some (.bool false) := (blk_cell BK196.out 2).trans rfl; have hcz43_3 : w41.cell? ⟨gb196, 3, none⟩ = some (.int .i64 (wrap64 (a0_3 + 1))) := (blk_cell BK196.out 3).trans rfl; have hcz43_4 : w41.cell? ⟨gb196, 4, none⟩ = some (.slice A0_4 l0_4.length c0_4) := (blk_cell BK196.out 4).trans rfl; have hcz43_5 : w41.cell? ⟨gb196, 5, none⟩ = some (.int .i64 a0_5) := (blk_cell BK196.out 5).trans rfl; have hfz43_0 := blk_frozen BK196.out 0; have hfz43_1 := blk_frozen BK196.out 1; have hfz43_2 := blk_frozen BK196.out 2; have hfz43_3 := blk_frozen BK196.out 3; have hfz43_4 := blk_frozen BK196.out 4; have hfz43_5 := blk_frozen BK196.out 5))
      (try simp only [Act.put, List.setIfInBounds_toArray, List.set_cons_zero, List.set_cons_succ])
      have H := HC37.out
      clear HC37
      by_cases c44 : (y205.length : Int) = 1
      ·rw [if_pos c44] at H
       have c44b0 : ((y205.length : Int) == 1) = true := beq_iff_eq.mpr c44
       have c44b1 : ((y205.length : Int) != 1) = false := bne_eq_false_iff_eq.mpr c44
       clear c44
       (first | rw [c44b0] | (simp only [i64_w, i32_w]; rw [c44b0]) | skip)
       by_cases c45 : a1 = 0
       ·rw [if_pos c45] at H
        have c45b0 : (a1 == 0) = true := beq_iff_eq.mpr c45
        have c45b1 : (a1 != 0) = false := bne_eq_false_iff_eq.mpr c45
        clear c45
        simp only [Option.some.injEq, Prod.mk.injEq] at H
        obtain ⟨rfl, rfl, rfl, rfl, rfl, rfl⟩ := H
        have hnb46 := NB196_197.out
        have hnc46 := NB197_196.out
        have hcz47_0 : w41.cell? ⟨gb196, 0, none⟩ = some (.slice Ao4 l0_0.length co4) := (blk_cell BK196.out 0).trans rfl
        have hcz47_1 : w41.cell? ⟨gb196, 1, none⟩ = some (.int .i64 a0_1) := (blk_cell BK196.out 1).trans rfl
        have hcz47_2 : w41.cell? ⟨gb196, 2, none⟩ = some (.bool false) := (blk_cell BK196.out 2).trans rfl
        have hcz47_3 : w41.cell? ⟨gb196, 3, none⟩ = some (.int .i64 (wrap64 (a0_3 + 1))) := (blk_cell BK196.out 3).trans rfl
        have hcz47_4 : w41.cell? ⟨gb196, 4, none⟩ = some (.slice A0_4 l0_4.length c0_4) := (blk_cell BK196.out 4).trans rfl
        have hcz47_5 : w41.cell? ⟨gb196, 5, none⟩ = some (.int .i64 a0_5) := (blk_cell BK196.out 5).trans rfl
        have hfz47_0 := blk_frozen BK196.out 0
        have hfz47_1 := blk_frozen BK196.out 1
        have hfz47_2 := blk_frozen BK196.out 2
        have hfz47_3 := blk_frozen BK196.out 3
        have hfz47_4 := blk_frozen BK196.out 4
        have hfz47_5 := blk_frozen BK196.out 5
        have hcz48_0 : w41.cell? ⟨gb197, 0, none⟩ = some (.slice none 0 0) := (blk_cell BK197.out 0).trans rfl
        have hcz48_1 : w41.cell? ⟨gb197, 1, none⟩ = some (.int .i64 0) := (blk_cell BK197.out 1).trans rfl
        have hcz48_2 : w41.cell? ⟨gb197, 2, none⟩ = some (.bool false) := (blk_cell BK197.out 2).trans rfl
        have hcz48_3 : w41.cell? ⟨gb197, 3, none⟩ = some (.int .i64 0) := (blk_cell BK197.out 3).trans rfl
        have hcz48_4 : w41.cell? ⟨gb197, 4, none⟩ = some (.slice none 0 0) := (blk_cell BK197.out 4).trans rfl
        have hcz48_5 : w41.cell? ⟨gb197, 5, none⟩ = some (.int .i64 0) := (blk_cell BK197.out 5).trans rfl
        have hfz48_0 := blk_frozen BK197.out 0
        have hfz48_1 := blk_frozen BK197.out 1
        have hfz48_2 := blk_frozen BK197.out 2
        have hfz48_3 := blk_frozen BK197.out 3
        have hfz48_4 := blk_frozen BK197.out 4
        have hfz48_5 := blk_frozen BK197.out 5
        go_wp2
        refine bodyPost_ret (results_cell_row rfl _ _ gb197 28 #[.slice Ao42 y205.length co42, .int .i64 a0_1, .bool true, .int .i64 (wrap64 (a0_3 + 1)), .slice A0_4 l0_4.length c0_4, .int .i64 a0_5] (0, 0) _ rfl (by (with_reducible repeat (first | refine blk_drewN ?_ _ | refine blk_drew ?_ | refine blk_alloc ?_ _)); refine blk_put (cs := #[.slice Ao42 y205.length co42, .int .i64 a0_1, .bool true, .int .i64 (wrap64 (a0_3 + 1)), .slice A0_4 l0_4.length c0_4, .int .i64 0]) ?_ 5 _ rfl; (with_reducible repeat (first | refine blk_drewN ?_ _ | refine blk_drew ?_ | refine blk_alloc ?_ _)); refine blk_put (cs := #[.slice Ao42 y205.length co42, .int .i64 a0_1, .bool true, .int .i64 (wrap64 (a0_3 + 1)), .slice none 0 0, .int .i64 0]) ?_ 4 _ rfl; (with_reducible repeat (first | refine blk_drewN ?_ _ | refine blk_drew ?_ | refine blk_alloc ?_ _)); refine blk_put (cs := #[.slice Ao42 y205.length co42, .int .i64 a0_1, .bool true, .int .i64 0, .slice none 0 0, .int .i64 0]) ?_ 3 _ rfl; (with_reducible repeat (first | refine blk_drewN ?_ _ | refine blk_drew ?_ | refine blk_alloc ?_ _)); refine blk_put (cs := #[.slice Ao42 y205.length co42, .int .i64 a0_1, .bool false, .int .i64 0, .slice none 0 0, .int .i64 0]) ?_ 2 _ rfl; (with_reducible repeat (first | refine blk_drewN ?_ _ | refine blk_drew ?_ | refine blk_alloc ?_ _)); refine blk_put (cs := #[.slice Ao42 y205.length co42, .int .i64 0, .bool false, .int .i64 0, .slice none 0 0, .int .i64 0]) ?_ 1 _ rfl; (with_reducible repeat (first | refine blk_drewN ?_ _ | refine blk_drew ?_ | refine blk_alloc ?_ _)); refine blk_put (cs := #[.slice none 0 0, .int .i64 0, .bool false, .int .i64 0, .slice none 0 0, .int .i64 0]) ?_ 0 _ rfl; (with_reducible repeat (first | refine blk_drewN ?_ _ | refine blk_drew ?_ | refine blk_alloc ?_ _)); refine blk_far ?_ NB197_196.out _; (with_reducible repeat (first | refine blk_drewN ?_ _ | refine blk_drew ?_ | refine blk_alloc ?_ _)); refine blk_far ?_ NB197_196.out _; (with_reducible repeat (first | refine blk_drewN ?_ _ | refine blk_drew ?_ | refine blk_alloc ?_ _)); exact BK197.out) Try.underlying28 rfl (by kernel_rfl)) rfl ?_
        exact ⟨_, _, by first | rfl | (simp [errW_none, errW_some] <;> rfl) | (simp [*, errW_none, errW_some] <;> rfl), by (with_reducible repeat (first | apply Kd.R_alloc | apply Kd.R_drewN | apply Kd.R_drew)); exact Kd.R_mono (Kd.R_far (p := ⟨gb197, 5, none⟩) (Kd.R_far (p := ⟨gb197, 4, none⟩) (Kd.R_far (p := ⟨gb197, 3, none⟩) (Kd.R_far (p := ⟨gb197, 2, none⟩) (Kd.R_far (p := ⟨gb197, 1, none⟩) (Kd.R_far (p := ⟨gb197, 0, none⟩) (Kd.R_far (p := ⟨gb196, 2, none⟩) (Kd.R_far (p := ⟨gb196, 0, none⟩) (Kd.R_types (Kd.R_types HO207.out BK196.out (by decide)) BK197.out (by decide)) (fun _ hk => hk.1.2) (.slice Ao42 y205.length co42)) (fun _ hk => hk.1.2) (.bool true)) (fun _ hk => hk.2) (.slice Ao42 y205.length co42)) (fun _ hk => hk.2) (.int .i64 a0_1)) (fun _ hk => hk.2) (.bool true)) (fun _ hk => hk.2) (.int .i64 (wrap64 (a0_3 + 1)))) (fun _ hk => hk.2) (.slice A0_4 l0_4.length c0_4)) (fun _ hk => hk.2) (.int .i64 a0_5)) (fun _ hk => hk.1.1.1), by (with_reducible repeat (first | apply Kd.V_alloc | apply Kd.V_drewN | apply Kd.V_drew)); exact Kd.V_mono (Kd.V_far (p := ⟨gb197, 5, none⟩) (Kd.V_far (p := ⟨gb197, 4, none⟩) (Kd.V_far (p := ⟨gb197, 3, none⟩) (Kd.V_far (p := ⟨gb197, 2, none⟩) (Kd.V_far (p := ⟨gb197, 1, none⟩) (Kd.V_far (p := ⟨gb197, 0, none⟩) (Kd.V_far (p := ⟨gb196, 2, none⟩) (Kd.V_far (p := ⟨gb196, 0, none⟩) (Kd.V_mono (Kd.V_mono HO0_4.out (fun k_ hk => (⟨hk, hk.1.2.2.1⟩ : _ ∧ k_ ≠ gb196))) (fun k_ hk => (⟨hk, hk.1.1.2.2.2⟩ : _ ∧ k_ ≠ gb197))) (fun _ hk => hk.1.2) (.slice Ao42 y205.length co42)) (fun _ hk => hk.1.2) (.bool true)) (fun _ hk => hk.2) (.slice Ao42 y205.length co42)) (fun _ hk => hk.2) (.int .i64 a0_1)) (fun _ hk => hk.2) (.bool true)) (fun _ hk => hk.2) (.int .i64 (wrap64 (a0_3 + 1)))) (fun _ hk => hk.2) (.slice A0_4 l0_4.length c0_4)) (fun _ hk => hk.2) (.int .i64 a0_5)) (fun _ hk => ⟨hk.1.1.1.1, hk.1.1.2⟩), bH HB, by repeat (first | (with_reducible first | exact HK.out | apply Kept.alloc | apply Kept.drewN | apply Kept.drew | refine Kept.setCell ?_ (.inr GW196.out) _ | refine Kept.setCell ?_ (.inr GW197.out) _) | exact HK.out)⟩
       ·rw [if_neg c45] at H
        have c45b0 : (a1 == 0) = false := beq_eq_false_iff_ne.mpr c45
        have c45b1 : (a1 != 0) = true := bne_iff_ne.mpr c45
        by_cases c49 : (wrap64 (a1)) ≤ a0_1
        ·rw [if_pos c49] at H
         have c49b0 : decide ((wrap64 (a1)) ≤ a0_1) = true := decide_eq_true c49
         clear c49
         simp only [Option.some.injEq, Prod.mk.injEq] at H
         obtain ⟨rfl, rfl, rfl, rfl, rfl, rfl⟩ := H
         have hnb50 := NB196_197.out
         have hnc50 := NB197_196.out
         have hcz51_0 : w41.cell? ⟨gb196, 0, none⟩ = some (.slice Ao4 l0_0.length co4) := (blk_cell BK196.out 0).trans rfl
         have hcz51_1 : w41.cell? ⟨gb196, 1, none⟩ = some (.int .i64 a0_1) := (blk_cell BK196.out 1).trans rfl
         have hcz51_2 : w41.cell? ⟨gb196, 2, none⟩ = some (.bool false) := (blk_cell BK196.out 2).trans rfl
         have hcz51_3 : w41.cell? ⟨gb196, 3, none⟩ = some (.int .i64 (wrap64 (a0_3 + 1))) := (blk_cell BK196.out 3).trans rfl
         have hcz51_4 : w41.cell? ⟨gb196, 4, none⟩ = some (.slice A0_4 l0_4.length c0_4) := (blk_cell BK196.out 4).trans rfl
         have hcz51_5 : w41.cell? ⟨gb196, 5, none⟩ = some (.int .i64 a0_5) := (blk_cell BK196.out 5).trans rfl
         have hfz51_0 := blk_frozen BK196.out 0
         have hfz51_1 := blk_frozen BK196.out 1
         have hfz51_2 := blk_frozen BK196.out 2
         have hfz51_3 := blk_frozen BK196.out 3
         have hfz51_4 := blk_frozen BK196.out 4
         have hfz51_5 := blk_frozen BK196.out 5
         have hcz52_0 : w41.cell? ⟨gb197, 0, none⟩ = some (.slice none 0 0) := (blk_cell BK197.out 0).trans rfl
         have hcz52_1 : w41.cell? ⟨gb197, 1, none⟩ = some (.int .i64 0) := (blk_cell BK197.out 1).trans rfl
         have hcz52_2 : w41.cell? ⟨gb197, 2, none⟩ = some (.bool false) := (blk_cell BK197.out 2).trans rfl
         have hcz52_3 : w41.cell? ⟨gb197, 3, none⟩ = some (.int .i64 0) := (blk_cell BK197.out 3).trans rfl
         have hcz52_4 : w41.cell? ⟨gb197, 4, none⟩ = some (.slice none 0 0) := (blk_cell BK197.out 4).trans rfl
         have hcz52_5 : w41.cell? ⟨gb197, 5, none⟩ = some (.int .i64 0) := (blk_cell BK197.out 5).trans rfl
         have hfz52_0 := blk_frozen BK197.out 0
         have hfz52_1 := blk_frozen BK197.out 1
         have hfz52_2 := blk_frozen BK197.out 2
         have hfz52_3 := blk_frozen BK197.out 3
         have hfz52_4 := blk_frozen BK197.out 4
         have hfz52_5 := blk_frozen BK197.out 5
         go_wp2
         refine bodyPost_ret (results_cell_row rfl _ _ gb197 28 #[.slice Ao42 y205.length co42, .int .i64 a0_1, .bool false, .int .i64 (wrap64 (a0_3 + 1)), .slice A0_4 l0_4.length c0_4, .int .i64 11] (0, 0) _ rfl (by (with_reducible repeat (first | refine blk_drewN ?_ _ | refine blk_drew ?_ | refine blk_alloc ?_ _)); refine blk_put (cs := #[.slice Ao42 y205.length co42, .int .i64 a0_1, .bool false, .int .i64 (wrap64 (a0_3 + 1)), .slice A0_4 l0_4.length c0_4, .int .i64 0]) ?_ 5 _ rfl; (with_reducible repeat (first | refine blk_drewN ?_ _ | refine blk_drew ?_ | refine blk_alloc ?_ _)); refine blk_put (cs := #[.slice Ao42 y205.length co42, .int .i64 a0_1, .bool false, .int .i64 (wrap64 (a0_3 + 1)), .slice none 0 0, .int .i64 0]) ?_ 4 _ rfl; (with_reducible repeat (first | refine blk_drewN ?_ _ | refine blk_drew ?_ | refine blk_alloc ?_ _)); refine blk_put (cs := #[.slice Ao42 y205.length co42, .int .i64 a0_1, .bool false, .int .i64 0, .slice none 0 0, .int .i64 0]) ?_ 3 _ rfl; (with_reducible repeat (first | refine blk_drewN ?_ _ | refine blk_drew ?_ | refine blk_alloc ?_ _)); refine blk_put (cs := #[.slice Ao42 y205.length co42, .int .i64 a0_1, .bool false, .int .i64 0, .slice none 0 0, .int .i64 0]) ?_ 2 _ rfl; (with_reducible repeat (first | refine blk_drewN ?_ _ | refine blk_drew ?_ | refine blk_alloc ?_ _)); refine blk_put (cs := #[.slice Ao42 y205.length co42, .int .i64 0, .bool false, .int .i64 0, .slice none 0 0, .int .i64 0]) ?_ 1 _ rfl; (with_reducible repeat (first | refine blk_drewN ?_ _ | refine blk_drew ?_ | refine blk_alloc ?_ _)); refine blk_put (cs := #[.slice none 0 0, .int .i64 0, .bool false, .int .i64 0, .slice none 0 0, .int .i64 0]) ?_ 0 _ rfl; (with_reducible repeat (first | refine blk_drewN ?_ _ | refine blk_drew ?_ | refine blk_alloc ?_ _)); refine blk_far ?_ NB197_196.out _; (with_reducible repeat (first | refine blk_drewN ?_ _ | refine blk_drew ?_ | refine blk_alloc ?_ _)); refine blk_far ?_ NB197_196.out _; (with_reducible repeat (first | refine blk_drewN ?_ _ | refine blk_drew ?_ | refine blk_alloc ?_ _)); exact BK197.out) Try.underlying28 rfl (by kernel_rfl)) rfl ?_
         exact ⟨_, _, by first | rfl | (simp [errW_none, errW_some] <;> rfl) | (simp [*, errW_none, errW_some] <;> rfl), by (with_reducible repeat (first | apply Kd.R_alloc | apply Kd.R_drewN | apply Kd.R_drew)); exact Kd.R_mono (Kd.R_far (p := ⟨gb197, 5, none⟩) (Kd.R_far (p := ⟨gb197, 4, none⟩) (Kd.R_far (p := ⟨gb197, 3, none⟩) (Kd.R_far (p := ⟨gb197, 2, none⟩) (Kd.R_far (p := ⟨gb197, 1, none⟩) (Kd.R_far (p := ⟨gb197, 0, none⟩) (Kd.R_far (p := ⟨gb196, 5, none⟩) (Kd.R_far (p := ⟨gb196, 0, none⟩) (Kd.R_types (Kd.R_types HO207.out BK196.out (by decide)) BK197.out (by decide)) (fun _ hk => hk.1.2) (.slice Ao42 y205.length co42)) (fun _ hk => hk.1.2) (.int .i64 11)) (fun _ hk => hk.2) (.slice Ao42 y205.length co42)) (fun _ hk => hk.2) (.int .i64 a0_1)) (fun _ hk => hk.2) (.bool false)) (fun _ hk => hk.2) (.int .i64 (wrap64 (a0_3 + 1)))) (fun _ hk => hk.2) (.slice A0_4 l0_4.length c0_4)) (fun _ hk => hk.2) (.int .i64 11)) (fun _ hk => hk.1.1.1), by (with_reducible repeat (first | apply Kd.V_alloc | apply Kd.V_drewN | apply Kd.V_drew)); exact Kd.V_mono (Kd.V_far (p := ⟨gb197, 5, none⟩) (Kd.V_far (p := ⟨gb197, 4, none⟩) (Kd.V_far (p := ⟨gb197, 3, none⟩) (Kd.V_far (p := ⟨gb197, 2, none⟩) (Kd.V_far (p := ⟨gb197, 1, none⟩) (Kd.V_far (p := ⟨gb197, 0, none⟩) (Kd.V_far (p := ⟨gb196, 5, none⟩) (Kd.V_far (p := ⟨gb196, 0, none⟩) (Kd.V_mono (Kd.V_mono HO0_4.out (fun k_ hk => (⟨hk, hk.1.2.2.1⟩ : _ ∧ k_ ≠ gb196))) (fun k_ hk => (⟨hk, hk.1.1.2.2.2⟩ : _ ∧ k_ ≠ gb197))) (fun _ hk => hk.1.2) (.slice Ao42 y205.length co42)) (fun _ hk => hk.1.2) (.int .i64 11)) (fun _ hk => hk.2) (.slice Ao42 y205.length co42)) (fun _ hk => hk.2) (.int .i64 a0_1)) (fun _ hk => hk.2) (.bool false)) (fun _ hk => hk.2) (.int .i64 (wrap64 (a0_3 + 1)))) (fun _ hk => hk.2) (.slice A0_4 l0_4.length c0_4)) (fun _ hk => hk.2) (.int .i64 11)) (fun _ hk => ⟨hk.1.1.1.1, hk.1.1.2⟩), bH HB, by repeat (first | (with_reducible first | exact HK.out | apply Kept.alloc | apply Kept.drewN | apply Kept.drew | refine Kept.setCell ?_ (.inr GW196.out) _ | refine Kept.setCell ?_ (.inr GW197.out) _) | exact HK.out)⟩
        ·rw [if_neg c49] at H
         have c49b0 : decide ((wrap64 (a1)) ≤ a0_1) = false := decide_eq_false c49
         clear c49
         by_cases c53 : a1 > 9
         ·rw [if_pos c53] at H
          have c53b0 : decide (9 < a1) = true := decide_eq_true c53
          clear c53
          simp only [Option.some.injEq, Prod.mk.injEq] at H
          obtain ⟨rfl, rfl, rfl, rfl, rfl, rfl⟩ := H
          have hnb54 := NB196_197.out
          have hnc54 := NB197_196.out
          have hcz55_0 : w41.cell? ⟨gb196, 0, none⟩ = some (.slice Ao4 l0_0.length co4) := (blk_cell BK196.out 0).trans rfl
          have hcz55_1 : w41.cell? ⟨gb196, 1, none⟩ = some (.int .i64 a0_1) := (blk_cell BK196.out 1).trans rfl
          have hcz55_2 : w41.cell? ⟨gb196, 2, none⟩ = some (.bool false) := (blk_cell BK196.out 2).trans rfl
          have hcz55_3 : w41.cell? ⟨gb196, 3, none⟩ = some (.int .i64 (wrap64 (a0_3 + 1))) := (blk_cell BK196.out 3).trans rfl
          have hcz55_4 : w41.cell? ⟨gb196, 4, none⟩ = some (.slice A0_4 l0_4.length c0_4) := (blk_cell BK196.out 4).trans rfl
          have hcz55_5 : w41.cell? ⟨gb196, 5, none⟩ = some (.int .i64 a0_5) := (blk_cell BK196.out 5).trans rfl
          have hfz55_0 := blk_frozen BK196.out 0
          have hfz55_1 := blk_frozen BK196.out 1
          have hfz55_2 := blk_frozen BK196.out 2
          have hfz55_3 := blk_frozen BK196.out 3
          have hfz55_4 := blk_frozen BK196.out 4
          have hfz55_5 := blk_frozen BK196.out 5
          have hcz56_0 : w41.cell? ⟨gb197, 0, none⟩ = some (.slice none 0 0) := (blk_cell BK197.out 0).trans rfl
          have hcz56_1 : w41.cell? ⟨gb197, 1, none⟩ = some (.int .i64 0) := (blk_cell BK197.out 1).trans rfl
          have hcz56_2 : w41.cell? ⟨gb197, 2, none⟩ = some (.bool false) := (blk_cell BK197.out 2).trans rfl
          have hcz56_3 : w41.cell? ⟨gb197, 3, none⟩ = some (.int .i64 0) := (blk_cell BK197.out 3).trans rfl
          have hcz56_4 : w41.cell? ⟨gb197, 4, none⟩ = some (.slice none 0 0) := (blk_cell BK197.out 4).trans rfl
          have hcz56_5 : w41.cell? ⟨gb197, 5, none⟩ = some (.int .i64 0) := (blk_cell BK197.out 5).trans rfl
          have hfz56_0 := blk_frozen BK197.out 0
          have hfz56_1 := blk_frozen BK197.out 1
          have hfz56_2 := blk_frozen BK197.out 2
          have hfz56_3 := blk_frozen BK197.out 3
          have hfz56_4 := blk_frozen BK197.out 4
          have hfz56_5 := blk_frozen BK197.out 5
          go_wp2
          refine bodyPost_ret (results_cell_row rfl _ _ gb197 28 #[.slice Ao42 y205.length co42, .int .i64 a0_1, .bool false, .int .i64 (wrap64 (a0_3 + 1)), .slice A0_4 l0_4.length c0_4, .int .i64 11] (0, 0) _ rfl (by (with_reducible repeat (first | refine blk_drewN ?_ _ | refine blk_drew ?_ | refine blk_alloc ?_ _)); refine blk_put (cs := #[.slice Ao42 y205.length co42, .int .i64 a0_1, .bool false, .int .i64 (wrap64 (a0_3 + 1)), .slice A0_4 l0_4.length c0_4, .int .i64 0]) ?_ 5 _ rfl; (with_reducible repeat (first | refine blk_drewN ?_ _ | refine blk_drew ?_ | refine blk_alloc ?_ _)); refine blk_put (cs := #[.slice Ao42 y205.length co42, .int .i64 a0_1, .bool false, .int .i64 (wrap64 (a0_3 + 1)), .slice none 0 0, .int .i64 0]) ?_ 4 _ rfl; (with_reducible repeat (first | refine blk_drewN ?_ _ | refine blk_drew ?_ | refine blk_alloc ?_ _)); refine blk_put (cs := #[.slice Ao42 y205.length co42, .int .i64 a0_1, .bool false, .int .i64 0, .slice none 0 0, .int .i64 0]) ?_ 3 _ rfl; (with_reducible repeat (first | refine blk_drewN ?_ _ | refine blk_drew ?_ | refine blk_alloc ?_ _)); refine blk_put (cs := #[.slice Ao42 y205.length co42, .int .i64 a0_1, .bool false, .int .i64 0, .slice none 0 0, .int .i64 0]) ?_ 2 _ rfl; (with_reducible repeat (first | refine blk_drewN ?_ _ | refine blk_drew ?_ | refine blk_alloc ?_ _)); refine blk_put (cs := #[.slice Ao42 y205.length co42, .int .i64 0, .bool false, .int .i64 0, .slice none 0 0, .int .i64 0]) ?_ 1 _ rfl; (with_reducible repeat (first | refine blk_drewN ?_ _ | refine blk_drew ?_ | refine blk_alloc ?_ _)); refine blk_put (cs := #[.slice none 0 0, .int .i64 0, .bool false, .int .i64 0, .slice none 0 0, .int .i64 0]) ?_ 0 _ rfl; (with_reducible repeat (first | refine blk_drewN ?_ _ | refine blk_drew ?_ | refine blk_alloc ?_ _)); refine blk_far ?_ NB197_196.out _; (with_reducible repeat (first | refine blk_drewN ?_ _ | refine blk_drew ?_ | refine blk_alloc ?_ _)); refine blk_far ?_ NB197_196.out _; (with_reducible repeat (first | refine blk_drewN ?_ _ | refine blk_drew ?_ | refine blk_alloc ?_ _)); exact BK197.out) Try.underlying28 rfl (by kernel_rfl)) rfl ?_
          exact ⟨_, _, by first | rfl | (simp [errW_none, errW_some] <;> rfl) | (simp [*, errW_none, errW_some] <;> rfl), by (with_reducible repeat (first | apply Kd.R_alloc | apply Kd.R_drewN | apply Kd.R_drew)); exact Kd.R_mono (Kd.R_far (p := ⟨gb197, 5, none⟩) (Kd.R_far (p := ⟨gb197, 4, none⟩) (Kd.R_far (p := ⟨gb197, 3, none⟩) (Kd.R_far (p := ⟨gb197, 2, none⟩) (Kd.R_far (p := ⟨gb197, 1, none⟩) (Kd.R_far (p := ⟨gb197, 0, none⟩) (Kd.R_far (p := ⟨gb196, 5, none⟩) (Kd.R_far (p := ⟨gb196, 0, none⟩) (Kd.R_types (Kd.R_types HO207.out BK196.out (by decide)) BK197.out (by decide)) (fun _ hk => hk.1.2) (.slice Ao42 y205.length co42)) (fun _ hk => hk.1.2) (.int .i64 11)) (fun _ hk => hk.2) (.slice Ao42 y205.length co42)) (fun _ hk => hk.2) (.int .i64 a0_1)) (fun _ hk => hk.2) (.bool false)) (fun _ hk => hk.2) (.int .i64 (wrap64 (a0_3 + 1)))) (fun _ hk => hk.2) (.slice A0_4 l0_4.length c0_4)) (fun _ hk => hk.2) (.int .i64 11)) (fun _ hk => hk.1.1.1), by (with_reducible repeat (first | apply Kd.V_alloc | apply Kd.V_drewN | apply Kd.V_drew)); exact Kd.V_mono (Kd.V_far (p := ⟨gb197, 5, none⟩) (Kd.V_far (p := ⟨gb197, 4, none⟩) (Kd.V_far (p := ⟨gb197, 3, none⟩) (Kd.V_far (p := ⟨gb197, 2, none⟩) (Kd.V_far (p := ⟨gb197, 1, none⟩) (Kd.V_far (p := ⟨gb197, 0, none⟩) (Kd.V_far (p := ⟨gb196, 5, none⟩) (Kd.V_far (p := ⟨gb196, 0, none⟩) (Kd.V_mono (Kd.V_mono HO0_4.out (fun k_ hk => (⟨hk, hk.1.2.2.1⟩ : _ ∧ k_ ≠ gb196))) (fun k_ hk => (⟨hk, hk.1.1.2.2.2⟩ : _ ∧ k_ ≠ gb197))) (fun _ hk => hk.1.2) (.slice Ao42 y205.length co42)) (fun _ hk => hk.1.2) (.int .i64 11)) (fun _ hk => hk.2) (.slice Ao42 y205.length co42)) (fun _ hk => hk.2) (.int .i64 a0_1)) (fun _ hk => hk.2) (.bool false)) (fun _ hk => hk.2) (.int .i64 (wrap64 (a0_3 + 1)))) (fun _ hk => hk.2) (.slice A0_4 l0_4.length c0_4)) (fun _ hk => hk.2) (.int .i64 11)) (fun _ hk => ⟨hk.1.1.1.1, hk.1.1.2⟩), bH HB, by repeat (first | (with_reducible first | exact HK.out | apply Kept.alloc | apply Kept.drewN | apply Kept.drew | refine Kept.setCell ?_ (.inr GW196.out) _ | refine Kept.setCell ?_ (.inr GW197.out) _) | exact HK.out)⟩
         ·rw [if_neg c53] at H
          have c53b0 : decide (9 < a1) = false := decide_eq_false c53
          clear c53
          simp only [Option.some.injEq, Prod.mk.injEq] at H
          obtain ⟨rfl, rfl, rfl, rfl, rfl, rfl⟩ := H
          have hnb57 := NB196_197.out
          have hnc57 := NB197_196.out
          have hcz58_0 : w41.cell? ⟨gb196, 0, none⟩ = some (.slice Ao4 l0_0.length co4) := (blk_cell BK196.out 0).trans rfl
          have hcz58_1 : w41.cell? ⟨gb196, 1, none⟩ = some (.int .i64 a0_1) := (blk_cell BK196.out 1).trans rfl
          have hcz58_2 : w41.cell? ⟨gb196, 2, none⟩ = some (.bool false) := (blk_cell BK196.out 2).trans rfl
          have hcz58_3 : w41.cell? ⟨gb196, 3, none⟩ = some (.int .i64 (wrap64 (a0_3 + 1))) := (blk_cell BK196.out 3).trans rfl
          have hcz58_4 : w41.cell? ⟨gb196, 4, none⟩ = some (.slice A0_4 l0_4.length c0_4) := (blk_cell BK196.out 4).trans rfl
          have hcz58_5 : w41.cell? ⟨gb196, 5, none⟩ = some (.int .i64 a0_5) := (blk_cell BK196.out 5).trans rfl
          have hfz58_0 := blk_frozen BK196.out 0
          have hfz58_1 := blk_frozen BK196.out 1
          have hfz58_2 := blk_frozen BK196.out 2
          have hfz58_3 := blk_frozen BK196.out 3
          have hfz58_4 := blk_frozen BK196.out 4
          have hfz58_5 := blk_frozen BK196.out 5
          have hcz59_0 : w41.cell? ⟨gb197, 0, none⟩ = some (.slice none 0 0) := (blk_cell BK197.out 0).trans rfl
          have hcz59_1 : w41.cell? ⟨gb197, 1, none⟩ = some (.int .i64 0) := (blk_cell BK197.out 1).trans rfl
          have hcz59_2 : w41.cell? ⟨gb197, 2, none⟩ = some (.bool false) := (blk_cell BK197.out 2).trans rfl
          have hcz59_3 : w41.cell? ⟨gb197, 3, none⟩ = some (.int .i64 0) := (blk_cell BK197.out 3).trans rfl
          have hcz59_4 : w41.cell? ⟨gb197, 4, none⟩ = some (.slice none 0 0) := (blk_cell BK197.out 4).trans rfl
          have hcz59_5 : w41.cell? ⟨gb197, 5, none⟩ = some (.int .i64 0) := (blk_cell BK197.out 5).trans rfl
          have hfz59_0 := blk_frozen BK197.out 0
          have hfz59_1 := blk_frozen BK197.out 1
          have hfz59_2 := blk_frozen BK197.out 2
          have hfz59_3 := blk_frozen BK197.out 3
          have hfz59_4 := blk_frozen BK197.out 4
          have hfz59_5 := blk_frozen BK197.out 5
          go_wp2
          refine bodyPost_ret (results_cell_row rfl _ _ gb197 28 #[.slice Ao42 y205.length co42, .int .i64 a0_1, .bool false, .int .i64 (wrap64 (a0_3 + 1)), .slice A0_4 l0_4.length c0_4, .int .i64 a0_5] (0, 0) _ rfl (by (with_reducible repeat (first | refine blk_drewN ?_ _ | refine blk_drew ?_ | refine blk_alloc ?_ _)); refine blk_put (cs := #[.slice Ao42 y205.length co42, .int .i64 a0_1, .bool false, .int .i64 (wrap64 (a0_3 + 1)), .slice A0_4 l0_4.length c0_4, .int .i64 0]) ?_ 5 _ rfl; (with_reducible repeat (first | refine blk_drewN ?_ _ | refine blk_drew ?_ | refine blk_alloc ?_ _)); refine blk_put (cs := #[.slice Ao42 y205.length co42, .int .i64 a0_1, .bool false, .int .i64 (wrap64 (a0_3 + 1)), .slice none 0 0, .int .i64 0]) ?_ 4 _ rfl; (with_reducible repeat (first | refine blk_drewN ?_ _ | refine blk_drew ?_ | refine blk_alloc ?_ _)); refine blk_put (cs := #[.slice Ao42 y205.length co42, .int .i64 a0_1, .bool false, .int .i64 0, .slice none 0 0, .int .i64 0]) ?_ 3 _ rfl; (with_reducible repeat (first | refine blk_drewN ?_ _ | refine blk_drew ?_ | refine blk_alloc ?_ _)); refine blk_put (cs := #[.slice Ao42 y205.length co42, .int .i64 a0_1, .bool false, .int .i64 0, .slice none 0 0, .int .i64 0]) ?_ 2 _ rfl; (with_reducible repeat (first | refine blk_drewN ?_ _ | refine blk_drew ?_ | refine blk_alloc ?_ _)); refine blk_put (cs := #[.slice Ao42 y205.length co42, .int .i64 0, .bool false, .int .i64 0, .slice none 0 0, .int .i64 0]) ?_ 1 _ rfl; (with_reducible repeat (first | refine blk_drewN ?_ _ | refine blk_drew ?_ | refine blk_alloc ?_ _)); refine blk_put (cs := #[.slice none 0 0, .int .i64 0, .bool false, .int .i64 0, .slice none 0 0, .int .i64 0]) ?_ 0 _ rfl; (with_reducible repeat (first | refine blk_drewN ?_ _ | refine blk_drew ?_ | refine blk_alloc ?_ _)); refine blk_far ?_ NB197_196.out _; (with_reducible repeat (first | refine blk_drewN ?_ _ | refine blk_drew ?_ | refine blk_alloc ?_ _)); exact BK197.out) Try.underlying28 rfl (by kernel_rfl)) rfl ?_
          exact ⟨_, _, by first | rfl | (simp [errW_none, errW_some] <;> rfl) | (simp [*, errW_none, errW_some] <;> rfl), by (with_reducible repeat (first | apply Kd.R_alloc | apply Kd.R_drewN | apply Kd.R_drew)); exact Kd.R_mono (Kd.R_far (p := ⟨gb197, 5, none⟩) (Kd.R_far (p := ⟨gb197, 4, none⟩) (Kd.R_far (p := ⟨gb197, 3, none⟩) (Kd.R_far (p := ⟨gb197, 2, none⟩) (Kd.R_far (p := ⟨gb197, 1, none⟩) (Kd.R_far (p := ⟨gb197, 0, none⟩) (Kd.R_far (p := ⟨gb196, 0, none⟩) (Kd.R_types (Kd.R_types HO207.out BK196.out (by decide)) BK197.out (by decide)) (fun _ hk => hk.1.2) (.slice Ao42 y205.length co42)) (fun _ hk => hk.2) (.slice Ao42 y205.length co42)) (fun _ hk => hk.2) (.int .i64 a0_1)) (fun _ hk => hk.2) (.bool false)) (fun _ hk => hk.2) (.int .i64 (wrap64 (a0_3 + 1)))) (fun _ hk => hk.2) (.slice A0_4 l0_4.length c0_4)) (fun _ hk => hk.2) (.int .i64 a0_5)) (fun _ hk => hk.1.1.1), by (with_reducible repeat (first | apply Kd.V_alloc | apply Kd.V_drewN | apply Kd.V_drew)); exact Kd.V_mono (Kd.V_far (p := ⟨gb197, 5, none⟩) (Kd.V_far (p := ⟨gb197, 4, none⟩) (Kd.V_far (p := ⟨gb197, 3, none⟩) (Kd.V_far (p := ⟨gb197, 2, none⟩) (Kd.V_far (p := ⟨gb197, 1, none⟩) (Kd.V_far (p := ⟨gb197, 0, none⟩) (Kd.V_far (p := ⟨gb196, 0, none⟩) (Kd.V_mono (Kd.V_mono HO0_4.out (fun k_ hk => (⟨hk, hk.1.2.2.1⟩ : _ ∧ k_ ≠ gb196))) (fun k_ hk => (⟨hk, hk.1.1.2.2.2⟩ : _ ∧ k_ ≠ gb197))) (fun _ hk => hk.1.2) (.slice Ao42 y205.length co42)) (fun _ hk => hk.2) (.slice Ao42 y205.length co42)) (fun _ hk => hk.2) (.int .i64 a0_1)) (fun _ hk => hk.2) (.bool false)) (fun _ hk => hk.2) (.int .i64 (wrap64 (a0_3 + 1)))) (fun _ hk => hk.2) (.slice A0_4 l0_4.length c0_4)) (fun _ hk => hk.2) (.int .i64 a0_5)) (fun _ hk => ⟨hk.1.1.1.1, hk.1.1.2⟩), bH HB, by repeat (first | (with_reducible first | exact HK.out | apply Kept.alloc | apply Kept.drewN | apply Kept.drew | refine Kept.setCell ?_ (.inr GW196.out) _ | refine Kept.setCell ?_ (.inr GW197.out) _) | exact HK.out)⟩
      ·rw [if_neg c44] at H
       have c44b0 : ((y205.length : Int) == 1) = false := beq_eq_false_iff_ne.mpr c44
       have c44b1 : ((y205.length : Int) != 1) = true := bne_iff_ne.mpr c44
       (first | rw [c44b0] | (simp only [i64_w, i32_w]; rw [c44b0]) | skip)
       replace H := Option.bind_eq_some_iff.mp H
       obtain ⟨⟨t208, t209, t210⟩, A600, H⟩ := H
       replace H : (if t210 = 10 then (some (y205, a0_1, false, wrap64 (a0_3 + 1), l0_4, a0_5)) else (if t210 = 0 then (if t208 > 1048576 then (some (y205, a0_1, false, wrap64 (a0_3 + 1), l0_4, 3)) else (if (y205.length : Int) < (wrap64 ((wrap64 (t209 + (wrap64 (t208)))) + 4)) then (some (y205, a0_1, false, wrap64 (a0_3 + 1), l0_4, a0_5)) else ((lapidaryref02_Check.f k y205).bind fun bt211 => (if bt211.2 = 0 then (if ([] : List (S48)).length + l0_4.length < 4398046511104 then ((some (([] : List (S48)) ++ l0_4 : List (S48))).bind fun y215 => (if 0 < (y205.length : Int) then (if 0 ≤ t209 then (if t209 ≤ (bt211.1.length : Int) then ((lapidaryref00_Copy.f (bt211.1.drop (t209 : Int).toNat)).bind fun t224 => (if y215.length < 4398046511104 then (some (([] : List Int), wrap64 (rd y205 0), false, wrap64 (a0_3 + 1), (y215 ++ [(⟨wrap64 (rd y205 0), t224⟩ : S48)]), a0_5)) else (none))) else (none)) else (none)) else (none))) else (none)) else (some (y205, a0_1, false, wrap64 (a0_3 + 1), l0_4, bt211.2)))))) else (some (y205, a0_1, false, wrap64 (a0_3 + 1), l0_4, t210)))) = some (r1, r2, r3, r4, r5, r6) := H
       have A60 := Aside0.mk A600
       clear A600
       have HC61 := Aside0.mk H
       clear H
       go_upto_if 71 with (first | ((with_reducible refine gate_callee (f := 29) rfl ?_); refine goesL_ (some 66) rfl rfl Try.func29 (by kernel_rfl) rfl #[.slice Ao42 y205.length co42, .int .i64 1] rfl (by (try simp only [List.map_toArray, List.map_cons, List.map_nil]); first | done | rfl | (simp only [List.length_drop, List.length_take]; rfl)) ?_; (with_reducible refine (lapidaryref01_Get.calls k _ _ y205 1 t208 t209 t210 _ ?side1 ?side2 A60.out).mono ?_); (case side1 => refine (Kd.R_reads' (e := 5) (base := w0.heap.size) (ok := fun k_ => ((P0_0_ k_ ∨ w.heap.size ≤ k_) ∧ some k_ ≠ (.slice Ao4 l0_0.length co4 : Value).ownBlock)) (n := y205.length) (c := co42) ?_).2.2; exact (by (with_reducible repeat (first | apply Kd.R_alloc | apply Kd.R_drewN | apply Kd.R_drew)); exact (Kd.R_mono (Kd.R_far (p := ⟨gb196, 0, none⟩) (Kd.R_types HO207.out BK196.out (by decide)) (fun _ hk => hk.2) (.slice Ao42 y205.length co42)) (fun _ h_ => h_.1)))); (case side2 => exact (Kd.R_reads' HO207.out).2.1); rintro e w' ⟨rfl, ⟨nd, rfl⟩⟩; refine ⟨_, rfl, ?_⟩))
       (try simp only [Act.put, List.setIfInBounds_toArray, List.set_cons_zero, List.set_cons_succ])
       have H := HC61.out
       clear HC61
       by_cases c62 : t210 = 10
       ·rw [if_pos c62] at H
        have c62b0 : (t210 == 10) = true := beq_iff_eq.mpr c62
        have c62b1 : (t210 != 10) = false := bne_eq_false_iff_eq.mpr c62
        clear c62
        (first | rw [c62b0] | (simp only [i64_w, i32_w]; rw [c62b0]) | skip)
        simp only [Option.some.injEq, Prod.mk.injEq] at H
        obtain ⟨rfl, rfl, rfl, rfl, rfl, rfl⟩ := H
        have hnb63 := NB196_197.out
        have hnc63 := NB197_196.out
        have hcz64_0 : w41.cell? ⟨gb196, 0, none⟩ = some (.slice Ao4 l0_0.length co4) := (blk_cell BK196.out 0).trans rfl
        have hcz64_1 : w41.cell? ⟨gb196, 1, none⟩ = some (.int .i64 a0_1) := (blk_cell BK196.out 1).trans rfl
        have hcz64_2 : w41.cell? ⟨gb196, 2, none⟩ = some (.bool false) := (blk_cell BK196.out 2).trans rfl
        have hcz64_3 : w41.cell? ⟨gb196, 3, none⟩ = some (.int .i64 (wrap64 (a0_3 + 1))) := (blk_cell BK196.out 3).trans rfl
        have hcz64_4 : w41.cell? ⟨gb196, 4, none⟩ = some (.slice A0_4 l0_4.length c0_4) := (blk_cell BK196.out 4).trans rfl
        have hcz64_5 : w41.cell? ⟨gb196, 5, none⟩ = some (.int .i64 a0_5) := (blk_cell BK196.out 5).trans rfl
        have hfz64_0 := blk_frozen BK196.out 0
        have hfz64_1 := blk_frozen BK196.out 1
        have hfz64_2 := blk_frozen BK196.out 2
        have hfz64_3 := blk_frozen BK196.out 3
        have hfz64_4 := blk_frozen BK196.out 4
        have hfz64_5 := blk_frozen BK196.out 5
        have hcz65_0 : w41.cell? ⟨gb197, 0, none⟩ = some (.slice none 0 0) := (blk_cell BK197.out 0).trans rfl
        have hcz65_1 : w41.cell? ⟨gb197, 1, none⟩ = some (.int .i64 0) := (blk_cell BK197.out 1).trans rfl
        have hcz65_2 : w41.cell? ⟨gb197, 2, none⟩ = some (.bool false) := (blk_cell BK197.out 2).trans rfl
        have hcz65_3 : w41.cell? ⟨gb197, 3, none⟩ = some (.int .i64 0) := (blk_cell BK197.out 3).trans rfl
        have hcz65_4 : w41.cell? ⟨gb197, 4, none⟩ = some (.slice none 0 0) := (blk_cell BK197.out 4).trans rfl
        have hcz65_5 : w41.cell? ⟨gb197, 5, none⟩ = some (.int .i64 0) := (blk_cell BK197.out 5).trans rfl
        have hfz65_0 := blk_frozen BK197.out 0
        have hfz65_1 := blk_frozen BK197.out 1
        have hfz65_2 := blk_frozen BK197.out 2
        have hfz65_3 := blk_frozen BK197.out 3
        have hfz65_4 := blk_frozen BK197.out 4
        have hfz65_5 := blk_frozen BK197.out 5
        go_wp2
        refine bodyPost_ret (results_cell_row rfl _ _ gb197 28 #[.slice Ao42 y205.length co42, .int .i64 a0_1, .bool false, .int .i64 (wrap64 (a0_3 + 1)), .slice A0_4 l0_4.length c0_4, .int .i64 a0_5] (0, 0) _ rfl (by (with_reducible repeat (first | refine blk_drewN ?_ _ | refine blk_drew ?_ | refine blk_alloc ?_ _)); refine blk_put (cs := #[.slice Ao42 y205.length co42, .int .i64 a0_1, .bool false, .int .i64 (wrap64 (a0_3 + 1)), .slice A0_4 l0_4.length c0_4, .int .i64 0]) ?_ 5 _ rfl; (with_reducible repeat (first | refine blk_drewN ?_ _ | refine blk_drew ?_ | refine blk_alloc ?_ _)); refine blk_put (cs := #[.slice Ao42 y205.length co42, .int .i64 a0_1, .bool false, .int .i64 (wrap64 (a0_3 + 1)), .slice none 0 0, .int .i64 0]) ?_ 4 _ rfl; (with_reducible repeat (first | refine blk_drewN ?_ _ | refine blk_drew ?_ | refine blk_alloc ?_ _)); refine blk_put (cs := #[.slice Ao42 y205.length co42, .int .i64 a0_1, .bool false, .int .i64 0, .slice none 0 0, .int .i64 0]) ?_ 3 _ rfl; (with_reducible repeat (first | refine blk_drewN ?_ _ | refine blk_drew ?_ | refine blk_alloc ?_ _)); refine blk_put (cs := #[.slice Ao42 y205.length co42, .int .i64 a0_1, .bool false, .int .i64 0, .slice none 0 0, .int .i64 0]) ?_ 2 _ rfl; (with_reducible repeat (first | refine blk_drewN ?_ _ | refine blk_drew ?_ | refine blk_alloc ?_ _)); refine blk_put (cs := #[.slice Ao42 y205.length co42, .int .i64 0, .bool false, .int .i64 0, .slice none 0 0, .int .i64 0]) ?_ 1 _ rfl; (with_reducible repeat (first | refine blk_drewN ?_ _ | refine blk_drew ?_ | refine blk_alloc ?_ _)); refine blk_put (cs := #[.slice none 0 0, .int .i64 0, .bool false, .int .i64 0, .slice none 0 0, .int .i64 0]) ?_ 0 _ rfl; (with_reducible repeat (first | refine blk_drewN ?_ _ | refine blk_drew ?_ | refine blk_alloc ?_ _)); refine blk_far ?_ NB197_196.out _; (with_reducible repeat (first | refine blk_drewN ?_ _ | refine blk_drew ?_ | refine blk_alloc ?_ _)); exact BK197.out) Try.underlying28 rfl (by kernel_rfl)) rfl ?_
        exact ⟨_, _, by first | rfl | (simp [errW_none, errW_some] <;> rfl) | (simp [*, errW_none, errW_some] <;> rfl), by (with_reducible repeat (first | apply Kd.R_alloc | apply Kd.R_drewN | apply Kd.R_drew)); exact Kd.R_mono (Kd.R_far (p := ⟨gb197, 5, none⟩) (Kd.R_far (p := ⟨gb197, 4, none⟩) (Kd.R_far (p := ⟨gb197, 3, none⟩) (Kd.R_far (p := ⟨gb197, 2, none⟩) (Kd.R_far (p := ⟨gb197, 1, none⟩) (Kd.R_far (p := ⟨gb197, 0, none⟩) (Kd.R_far (p := ⟨gb196, 0, none⟩) (Kd.R_types (Kd.R_types HO207.out BK196.out (by decide)) BK197.out (by decide)) (fun _ hk => hk.1.2) (.slice Ao42 y205.length co42)) (fun _ hk => hk.2) (.slice Ao42 y205.length co42)) (fun _ hk => hk.2) (.int .i64 a0_1)) (fun _ hk => hk.2) (.bool false)) (fun _ hk => hk.2) (.int .i64 (wrap64 (a0_3 + 1)))) (fun _ hk => hk.2) (.slice A0_4 l0_4.length c0_4)) (fun _ hk => hk.2) (.int .i64 a0_5)) (fun _ hk => hk.1.1.1), by (with_reducible repeat (first | apply Kd.V_alloc | apply Kd.V_drewN | apply Kd.V_drew)); exact Kd.V_mono (Kd.V_far (p := ⟨gb197, 5, none⟩) (Kd.V_far (p := ⟨gb197, 4, none⟩) (Kd.V_far (p := ⟨gb197, 3, none⟩) (Kd.V_far (p := ⟨gb197, 2, none⟩) (Kd.V_far (p := ⟨gb197, 1, none⟩) (Kd.V_far (p := ⟨gb197, 0, none⟩) (Kd.V_far (p := ⟨gb196, 0, none⟩) (Kd.V_mono (Kd.V_mono HO0_4.out (fun k_ hk => (⟨hk, hk.1.2.2.1⟩ : _ ∧ k_ ≠ gb196))) (fun k_ hk => (⟨hk, hk.1.1.2.2.2⟩ : _ ∧ k_ ≠ gb197))) (fun _ hk => hk.1.2) (.slice Ao42 y205.length co42)) (fun _ hk => hk.2) (.slice Ao42 y205.length co42)) (fun _ hk => hk.2) (.int .i64 a0_1)) (fun _ hk => hk.2) (.bool false)) (fun _ hk => hk.2) (.int .i64 (wrap64 (a0_3 + 1)))) (fun _ hk => hk.2) (.slice A0_4 l0_4.length c0_4)) (fun _ hk => hk.2) (.int .i64 a0_5)) (fun _ hk => ⟨hk.1.1.1.1, hk.1.1.2⟩), bH HB, by repeat (first | (with_reducible first | exact HK.out | apply Kept.alloc | apply Kept.drewN | apply Kept.drew | refine Kept.setCell ?_ (.inr GW196.out) _ | refine Kept.setCell ?_ (.inr GW197.out) _) | exact HK.out)⟩
       ·rw [if_neg c62] at H
        have c62b0 : (t210 == 10) = false := beq_eq_false_iff_ne.mpr c62
        have c62b1 : (t210 != 10) = true := bne_iff_ne.mpr c62
        (first | rw [c62b0] | (simp only [i64_w, i32_w]; rw [c62b0]) | skip)
        by_cases c66 : t210 = 0
        ·rw [if_pos c66] at H
         have c66b0 : (t210 == 0) = true := beq_iff_eq.mpr c66
         have c66b1 : (t210 != 0) = false := bne_eq_false_iff_eq.mpr c66
         clear c66
         by_cases c67 : t208 > 1048576
         ·rw [if_pos c67] at H
          have c67b0 : decide (1048576 < t208) = true := decide_eq_true c67
          clear c67
          simp only [Option.some.injEq, Prod.mk.injEq] at H
          obtain ⟨rfl, rfl, rfl, rfl, rfl, rfl⟩ := H
          have hnb68 := NB196_197.out
          have hnc68 := NB197_196.out
          have hcz69_0 : w41.cell? ⟨gb196, 0, none⟩ = some (.slice Ao4 l0_0.length co4) := (blk_cell BK196.out 0).trans rfl
          have hcz69_1 : w41.cell? ⟨gb196, 1, none⟩ = some (.int .i64 a0_1) := (blk_cell BK196.out 1).trans rfl
          have hcz69_2 : w41.cell? ⟨gb196, 2, none⟩ = some (.bool false) := (blk_cell BK196.out 2).trans rfl
          have hcz69_3 : w41.cell? ⟨gb196, 3, none⟩ = some (.int .i64 (wrap64 (a0_3 + 1))) := (blk_cell BK196.out 3).trans rfl
          have hcz69_4 : w41.cell? ⟨gb196, 4, none⟩ = some (.slice A0_4 l0_4.length c0_4) := (blk_cell BK196.out 4).trans rfl
          have hcz69_5 : w41.cell? ⟨gb196, 5, none⟩ = some (.int .i64 a0_5) := (blk_cell BK196.out 5).trans rfl
          have hfz69_0 := blk_frozen BK196.out 0
          have hfz69_1 := blk_frozen BK196.out 1
          have hfz69_2 := blk_frozen BK196.out 2
          have hfz69_3 := blk_frozen BK196.out 3
          have hfz69_4 := blk_frozen BK196.out 4
          have hfz69_5 := blk_frozen BK196.out 5
          have hcz70_0 : w41.cell? ⟨gb197, 0, none⟩ = some (.slice none 0 0) := (blk_cell BK197.out 0).trans rfl
          have hcz70_1 : w41.cell? ⟨gb197, 1, none⟩ = some (.int .i64 0) := (blk_cell BK197.out 1).trans rfl
          have hcz70_2 : w41.cell? ⟨gb197, 2, none⟩ = some (.bool false) := (blk_cell BK197.out 2).trans rfl
          have hcz70_3 : w41.cell? ⟨gb197, 3, none⟩ = some (.int .i64 0) := (blk_cell BK197.out 3).trans rfl
          have hcz70_4 : w41.cell? ⟨gb197, 4, none⟩ = some (.slice none 0 0) := (blk_cell BK197.out 4).trans rfl
          have hcz70_5 : w41.cell? ⟨gb197, 5, none⟩ = some (.int .i64 0) := (blk_cell BK197.out 5).trans rfl
          have hfz70_0 := blk_frozen BK197.out 0
          have hfz70_1 := blk_frozen BK197.out 1
          have hfz70_2 := blk_frozen BK197.out 2
          have hfz70_3 := blk_frozen BK197.out 3
          have hfz70_4 := blk_frozen BK197.out 4
          have hfz70_5 := blk_frozen BK197.out 5
          go_wp2
          refine bodyPost_ret (results_cell_row rfl _ _ gb197 28 #[.slice Ao42 y205.length co42, .int .i64 a0_1, .bool false, .int .i64 (wrap64 (a0_3 + 1)), .slice A0_4 l0_4.length c0_4, .int .i64 3] (0, 0) _ rfl (by (with_reducible repeat (first | refine blk_drewN ?_ _ | refine blk_drew ?_ | refine blk_alloc ?_ _)); refine blk_put (cs := #[.slice Ao42 y205.length co42, .int .i64 a0_1, .bool false, .int .i64 (wrap64 (a0_3 + 1)), .slice A0_4 l0_4.length c0_4, .int .i64 0]) ?_ 5 _ rfl; (with_reducible repeat (first | refine blk_drewN ?_ _ | refine blk_drew ?_ | refine blk_alloc ?_ _)); refine blk_put (cs := #[.slice Ao42 y205.length co42, .int .i64 a0_1, .bool false, .int .i64 (wrap64 (a0_3 + 1)), .slice none 0 0, .int .i64 0]) ?_ 4 _ rfl; (with_reducible repeat (first | refine blk_drewN ?_ _ | refine blk_drew ?_ | refine blk_alloc ?_ _)); refine blk_put (cs := #[.slice Ao42 y205.length co42, .int .i64 a0_1, .bool false, .int .i64 0, .slice none 0 0, .int .i64 0]) ?_ 3 _ rfl; (with_reducible repeat (first | refine blk_drewN ?_ _ | refine blk_drew ?_ | refine blk_alloc ?_ _)); refine blk_put (cs := #[.slice Ao42 y205.length co42, .int .i64 a0_1, .bool false, .int .i64 0, .slice none 0 0, .int .i64 0]) ?_ 2 _ rfl; (with_reducible repeat (first | refine blk_drewN ?_ _ | refine blk_drew ?_ | refine blk_alloc ?_ _)); refine blk_put (cs := #[.slice Ao42 y205.length co42, .int .i64 0, .bool false, .int .i64 0, .slice none 0 0, .int .i64 0]) ?_ 1 _ rfl; (with_reducible repeat (first | refine blk_drewN ?_ _ | refine blk_drew ?_ | refine blk_alloc ?_ _)); refine blk_put (cs := #[.slice none 0 0, .int .i64 0, .bool false, .int .i64 0, .slice none 0 0, .int .i64 0]) ?_ 0 _ rfl; (with_reducible repeat (first | refine blk_drewN ?_ _ | refine blk_drew ?_ | refine blk_alloc ?_ _)); refine blk_far ?_ NB197_196.out _; (with_reducible repeat (first | refine blk_drewN ?_ _ | refine blk_drew ?_ | refine blk_alloc ?_ _)); refine blk_far ?_ NB197_196.out _; (with_reducible repeat (first | refine blk_drewN ?_ _ | refine blk_drew ?_ | refine blk_alloc ?_ _)); exact BK197.out) Try.underlying28 rfl (by kernel_rfl)) rfl ?_
          exact ⟨_, _, by first | rfl | (simp [errW_none, errW_some] <;> rfl) | (simp [*, errW_none, errW_some] <;> rfl), by (with_reducible repeat (first | apply Kd.R_alloc | apply Kd.R_drewN | apply Kd.R_drew)); exact Kd.R_mono (Kd.R_far (p := ⟨gb197, 5, none⟩) (Kd.R_far (p := ⟨gb197, 4, none⟩) (Kd.R_far (p := ⟨gb197, 3, none⟩) (Kd.R_far (p := ⟨gb197, 2, none⟩) (Kd.R_far (p := ⟨gb197, 1, none⟩) (Kd.R_far (p := ⟨gb197, 0, none⟩) (Kd.R_far (p := ⟨gb196, 5, none⟩) (Kd.R_far (p := ⟨gb196, 0, none⟩) (Kd.R_types (Kd.R_types HO207.out BK196.out (by decide)) BK197.out (by decide)) (fun _ hk => hk.1.2) (.slice Ao42 y205.length co42)) (fun _ hk => hk.1.2) (.int .i64 3)) (fun _ hk => hk.2) (.slice Ao42 y205.length co42)) (fun _ hk => hk.2) (.int .i64 a0_1)) (fun _ hk => hk.2) (.bool false)) (fun _ hk => hk.2) (.int .i64 (wrap64 (a0_3 + 1)))) (fun _ hk => hk.2) (.slice A0_4 l0_4.length c0_4)) (fun _ hk => hk.2) (.int .i64 3)) (fun _ hk => hk.1.1.1), by (with_reducible repeat (first | apply Kd.V_alloc | apply Kd.V_drewN | apply Kd.V_drew)); exact Kd.V_mono (Kd.V_far (p := ⟨gb197, 5, none⟩) (Kd.V_far (p := ⟨gb197, 4, none⟩) (Kd.V_far (p := ⟨gb197, 3, none⟩) (Kd.V_far (p := ⟨gb197, 2, none⟩) (Kd.V_far (p := ⟨gb197, 1, none⟩) (Kd.V_far (p := ⟨gb197, 0, none⟩) (Kd.V_far (p := ⟨gb196, 5, none⟩) (Kd.V_far (p := ⟨gb196, 0, none⟩) (Kd.V_mono (Kd.V_mono HO0_4.out (fun k_ hk => (⟨hk, hk.1.2.2.1⟩ : _ ∧ k_ ≠ gb196))) (fun k_ hk => (⟨hk, hk.1.1.2.2.2⟩ : _ ∧ k_ ≠ gb197))) (fun _ hk => hk.1.2) (.slice Ao42 y205.length co42)) (fun _ hk => hk.1.2) (.int .i64 3)) (fun _ hk => hk.2) (.slice Ao42 y205.length co42)) (fun _ hk => hk.2) (.int .i64 a0_1)) (fun _ hk => hk.2) (.bool false)) (fun _ hk => hk.2) (.int .i64 (wrap64 (a0_3 + 1)))) (fun _ hk => hk.2) (.slice A0_4 l0_4.length c0_4)) (fun _ hk => hk.2) (.int .i64 3)) (fun _ hk => ⟨hk.1.1.1.1, hk.1.1.2⟩), bH HB, by repeat (first | (with_reducible first | exact HK.out | apply Kept.alloc | apply Kept.drewN | apply Kept.drew | refine Kept.setCell ?_ (.inr GW196.out) _ | refine Kept.setCell ?_ (.inr GW197.out) _) | exact HK.out)⟩
         ·rw [if_neg c67] at H
          have c67b0 : decide (1048576 < t208) = false := decide_eq_false c67
          clear c67
          by_cases c71 : (y205.length : Int) < (wrap64 ((wrap64 (t209 + (wrap64 (t208)))) + 4))
          ·rw [if_pos c71] at H
           have c71b0 : decide ((y205.length : Int) < (wrap64 ((wrap64 (t209 + (wrap64 (t208)))) + 4))) = true := decide_eq_true c71
           clear c71
           simp only [Option.some.injEq, Prod.mk.injEq] at H
           obtain ⟨rfl, rfl, rfl, rfl, rfl, rfl⟩ := H
           have hnb72 := NB196_197.out
           have hnc72 := NB197_196.out
           have hcz73_0 : w41.cell? ⟨gb196, 0, none⟩ = some (.slice Ao4 l0_0.length co4) := (blk_cell BK196.out 0).trans rfl
           have hcz73_1 : w41.cell? ⟨gb196, 1, none⟩ = some (.int .i64 a0_1) := (blk_cell BK196.out 1).trans rfl
           have hcz73_2 : w41.cell? ⟨gb196, 2, none⟩ = some (.bool false) := (blk_cell BK196.out 2).trans rfl
           have hcz73_3 : w41.cell? ⟨gb196, 3, none⟩ = some (.int .i64 (wrap64 (a0_3 + 1))) := (blk_cell BK196.out 3).trans rfl
           have hcz73_4 : w41.cell? ⟨gb196, 4, none⟩ = some (.slice A0_4 l0_4.length c0_4) := (blk_cell BK196.out 4).trans rfl
           have hcz73_5 : w41.cell? ⟨gb196, 5, none⟩ = some (.int .i64 a0_5) := (blk_cell BK196.out 5).trans rfl
           have hfz73_0 := blk_frozen BK196.out 0
           have hfz73_1 := blk_frozen BK196.out 1
           have hfz73_2 := blk_frozen BK196.out 2
           have hfz73_3 := blk_frozen BK196.out 3
           have hfz73_4 := blk_frozen BK196.out 4
           have hfz73_5 := blk_frozen BK196.out 5
           have hcz74_0 : w41.cell? ⟨gb197, 0, none⟩ = some (.slice none 0 0) := (blk_cell BK197.out 0).trans rfl
           have hcz74_1 : w41.cell? ⟨gb197, 1, none⟩ = some (.int .i64 0) := (blk_cell BK197.out 1).trans rfl
           have hcz74_2 : w41.cell? ⟨gb197, 2, none⟩ = some (.bool false) := (blk_cell BK197.out 2).trans rfl
           have hcz74_3 : w41.cell? ⟨gb197, 3, none⟩ = some (.int .i64 0) := (blk_cell BK197.out 3).trans rfl
           have hcz74_4 : w41.cell? ⟨gb197, 4, none⟩ = some (.slice none 0 0) := (blk_cell BK197.out 4).trans rfl
           have hcz74_5 : w41.cell? ⟨gb197, 5, none⟩ = some (.int .i64 0) := (blk_cell BK197.out 5).trans rfl
           have hfz74_0 := blk_frozen BK197.out 0
           have hfz74_1 := blk_frozen BK197.out 1
           have hfz74_2 := blk_frozen BK197.out 2
           have hfz74_3 := blk_frozen BK197.out 3
           have hfz74_4 := blk_frozen BK197.out 4
           have hfz74_5 := blk_frozen BK197.out 5
           go_wp2
           refine bodyPost_ret (results_cell_row rfl _ _ gb197 28 #[.slice Ao42 y205.length co42, .int .i64 a0_1, .bool false, .int .i64 (wrap64 (a0_3 + 1)), .slice A0_4 l0_4.length c0_4, .int .i64 a0_5] (0, 0) _ rfl (by (with_reducible repeat (first | refine blk_drewN ?_ _ | refine blk_drew ?_ | refine blk_alloc ?_ _)); refine blk_put (cs := #[.slice Ao42 y205.length co42, .int .i64 a0_1, .bool false, .int .i64 (wrap64 (a0_3 + 1)), .slice A0_4 l0_4.length c0_4, .int .i64 0]) ?_ 5 _ rfl; (with_reducible repeat (first | refine blk_drewN ?_ _ | refine blk_drew ?_ | refine blk_alloc ?_ _)); refine blk_put (cs := #[.slice Ao42 y205.length co42, .int .i64 a0_1, .bool false, .int .i64 (wrap64 (a0_3 + 1)), .slice none 0 0, .int .i64 0]) ?_ 4 _ rfl; (with_reducible repeat (first | refine blk_drewN ?_ _ | refine blk_drew ?_ | refine blk_alloc ?_ _)); refine blk_put (cs := #[.slice Ao42 y205.length co42, .int .i64 a0_1, .bool false, .int .i64 0, .slice none 0 0, .int .i64 0]) ?_ 3 _ rfl; (with_reducible repeat (first | refine blk_drewN ?_ _ | refine blk_drew ?_ | refine blk_alloc ?_ _)); refine blk_put (cs := #[.slice Ao42 y205.length co42, .int .i64 a0_1, .bool false, .int .i64 0, .slice none 0 0, .int .i64 0]) ?_ 2 _ rfl; (with_reducible repeat (first | refine blk_drewN ?_ _ | refine blk_drew ?_ | refine blk_alloc ?_ _)); refine blk_put (cs := #[.slice Ao42 y205.length co42, .int .i64 0, .bool false, .int .i64 0, .slice none 0 0, .int .i64 0]) ?_ 1 _ rfl; (with_reducible repeat (first | refine blk_drewN ?_ _ | refine blk_drew ?_ | refine blk_alloc ?_ _)); refine blk_put (cs := #[.slice none 0 0, .int .i64 0, .bool false, .int .i64 0, .slice none 0 0, .int .i64 0]) ?_ 0 _ rfl; (with_reducible repeat (first | refine blk_drewN ?_ _ | refine blk_drew ?_ | refine blk_alloc ?_ _)); refine blk_far ?_ NB197_196.out _; (with_reducible repeat (first | refine blk_drewN ?_ _ | refine blk_drew ?_ | refine blk_alloc ?_ _)); exact BK197.out) Try.underlying28 rfl (by kernel_rfl)) rfl ?_
           exact ⟨_, _, by first | rfl | (simp [errW_none, errW_some] <;> rfl) | (simp [*, errW_none, errW_some] <;> rfl), by (with_reducible repeat (first | apply Kd.R_alloc | apply Kd.R_drewN | apply Kd.R_drew)); exact Kd.R_mono (Kd.R_far (p := ⟨gb197, 5, none⟩) (Kd.R_far (p := ⟨gb197, 4, none⟩) (Kd.R_far (p := ⟨gb197, 3, none⟩) (Kd.R_far (p := ⟨gb197, 2, none⟩) (Kd.R_far (p := ⟨gb197, 1, none⟩) (Kd.R_far (p := ⟨gb197, 0, none⟩) (Kd.R_far (p := ⟨gb196, 0, none⟩) (Kd.R_types (Kd.R_types HO207.out BK196.out (by decide)) BK197.out (by decide)) (fun _ hk => hk.1.2) (.slice Ao42 y205.length co42)) (fun _ hk => hk.2) (.slice Ao42 y205.length co42)) (fun _ hk => hk.2) (.int .i64 a0_1)) (fun _ hk => hk.2) (.bool false)) (fun _ hk => hk.2) (.int .i64 (wrap64 (a0_3 + 1)))) (fun _ hk => hk.2) (.slice A0_4 l0_4.length c0_4)) (fun _ hk => hk.2) (.int .i64 a0_5)) (fun _ hk => hk.1.1.1), by (with_reducible repeat (first | apply Kd.V_alloc | apply Kd.V_drewN | apply Kd.V_drew)); exact Kd.V_mono (Kd.V_far (p := ⟨gb197, 5, none⟩) (Kd.V_far (p := ⟨gb197, 4, none⟩) (Kd.V_far (p := ⟨gb197, 3, none⟩) (Kd.V_far (p := ⟨gb197, 2, none⟩) (Kd.V_far (p := ⟨gb197, 1, none⟩) (Kd.V_far (p := ⟨gb197, 0, none⟩) (Kd.V_far (p := ⟨gb196, 0, none⟩) (Kd.V_mono (Kd.V_mono HO0_4.out (fun k_ hk => (⟨hk, hk.1.2.2.1⟩ : _ ∧ k_ ≠ gb196))) (fun k_ hk => (⟨hk, hk.1.1.2.2.2⟩ : _ ∧ k_ ≠ gb197))) (fun _ hk => hk.1.2) (.slice Ao42 y205.length co42)) (fun _ hk => hk.2) (.slice Ao42 y205.length co42)) (fun _ hk => hk.2) (.int .i64 a0_1)) (fun _ hk => hk.2) (.bool false)) (fun _ hk => hk.2) (.int .i64 (wrap64 (a0_3 + 1)))) (fun _ hk => hk.2) (.slice A0_4 l0_4.length c0_4)) (fun _ hk => hk.2) (.int .i64 a0_5)) (fun _ hk => ⟨hk.1.1.1.1, hk.1.1.2⟩), bH HB, by repeat (first | (with_reducible first | exact HK.out | apply Kept.alloc | apply Kept.drewN | apply Kept.drew | refine Kept.setCell ?_ (.inr GW196.out) _ | refine Kept.setCell ?_ (.inr GW197.out) _) | exact HK.out)⟩
          ·rw [if_neg c71] at H
           have c71b0 : decide ((y205.length : Int) < (wrap64 ((wrap64 (t209 + (wrap64 (t208)))) + 4))) = false := decide_eq_false c71
           clear c71
           replace H := Option.bind_eq_some_iff.mp H
           obtain ⟨⟨t211, t212⟩, A750, H⟩ := H
           replace H : (if t212 = 0 then (if ([] : List (S48)).length + l0_4.length < 4398046511104 then ((some (([] : List (S48)) ++ l0_4 : List (S48))).bind fun y215 => (if 0 < (y205.length : Int) then (if 0 ≤ t209 then (if t209 ≤ (t211.length : Int) then ((lapidaryref00_Copy.f (t211.drop (t209 : Int).toNat)).bind fun t224 => (if y215.length < 4398046511104 then (some (([] : List Int), wrap64 (rd y205 0), false, wrap64 (a0_3 + 1), (y215 ++ [(⟨wrap64 (rd y205 0), t224⟩ : S48)]), a0_5)) else (none))) else (none)) else (none)) else (none))) else (none)) else (some (y205, a0_1, false, wrap64 (a0_3 + 1), l0_4, t212))) = some (r1, r2, r3, r4, r5, r6) := H
           have A75 := Aside0.mk A750
           clear A750
           have HC76 := Aside0.mk H
           clear H
           go_upto_if 97 with (first | ((with_reducible refine gate_callee (f := 30) rfl ?_); refine goesL_ (some 93) rfl rfl Try.func30 (by kernel_rfl) rfl #[.slice Ao42 y205.length co42] rfl (by (try simp only [List.map_toArray, List.map_cons, List.map_nil]); first | done | rfl | (simp only [List.length_drop, List.length_take]; rfl)) ?_; (with_reducible refine (lapidaryref02_Check.calls k _ _ y205 t211 t212 _ ?side1 ?side2 A75.out).mono ?_); (case side1 => refine (Kd.R_reads' (e := 5) (base := w0.heap.size) (ok := fun k_ => ((P0_0_ k_ ∨ w.heap.size ≤ k_) ∧ some k_ ≠ (.slice Ao4 l0_0.length co4 : Value).ownBlock)) (n := y205.length) (c := co42) ?_).2.2; exact (by (with_reducible repeat (first | apply Kd.R_alloc | apply Kd.R_drewN | apply Kd.R_drew)); exact (Kd.R_mono (Kd.R_far (p := ⟨gb196, 0, none⟩) (Kd.R_types HO207.out BK196.out (by decide)) (fun _ hk => hk.2) (.slice Ao42 y205.length co42)) (fun _ h_ => h_.1)))); (case side2 => exact (Kd.R_reads' HO207.out).2.1); rintro e w77 ⟨v213, rfl, ho0, hb⟩; refine ⟨_, rfl, ?_⟩; have n0_ := Aside0.mk (Kd.R_elder' (by (with_reducible repeat (first | apply Kd.R_alloc | apply Kd.R_drewN | apply Kd.R_drew)); exact (Kd.R_mono (Kd.R_far (p := ⟨gb196, 0, none⟩) (Kd.R_types HO0_0.out BK196.out (by decide)) (fun _ hk => hk.2) (.slice Ao42 y205.length co42)) (fun _ h_ => h_.1))) (Kd.R_base ho0) hb); have n1_ := Aside0.mk (Kd.V_elder' (by (with_reducible repeat (first | apply Kd.V_alloc | apply Kd.V_drewN | apply Kd.V_drew)); exact (Kd.V_mono (Kd.V_far (p := ⟨gb196, 0, none⟩) (Kd.V_mono HO0_4.out (fun k_ hk => (⟨hk, hk.1.2.2.1⟩ : _ ∧ k_ ≠ gb196))) (fun _ hk => hk.2) (.slice Ao42 y205.length co42)) (fun _ h_ => h_.1))) (Kd.R_base ho0) hb); have n2_ := Aside0.mk (Kd.R_elder' (by (with_reducible repeat (first | apply Kd.R_alloc | apply Kd.R_drewN | apply Kd.R_drew)); exact (Kd.R_mono (Kd.R_far (p := ⟨gb196, 0, none⟩) (Kd.R_types HO207.out BK196.out (by decide)) (fun _ hk => hk.2) (.slice Ao42 y205.length co42)) (fun _ h_ => h_.1))) (Kd.R_base ho0) hb); have n3_ := Aside0.mk (Kd.R_lower (Kd.R_new' (Kd.R_new' (Kd.R_newM (M := fun k_ => (P0_0_ k_ ∨ w.heap.size ≤ k_)) ho0 (show Kept w _ (fun k_ => P0_0_ k_) from by repeat (first | (with_reducible first | exact HK.out | apply Kept.alloc | apply Kept.drewN | apply Kept.drew | refine Kept.setCell ?_ (.inr GW196.out) _ | refine Kept.setCell ?_ (.inr GW197.out) _) | exact HK.out)).1 (fun k_ h_ => .inr h_)) (Kd.R_lt (by (with_reducible repeat (first | apply Kd.R_alloc | apply Kd.R_drewN | apply Kd.R_drew)); exact (Kd.R_mono (Kd.R_far (p := ⟨gb196, 0, none⟩) (Kd.R_types HO0_0.out BK196.out (by decide)) (fun _ hk => hk.2) (.slice Ao42 y205.length co42)) (fun _ h_ => h_.1))))) (Kd.R_lt (by (with_reducible repeat (first | apply Kd.R_alloc | apply Kd.R_drewN | apply Kd.R_drew)); exact (Kd.R_mono (Kd.R_far (p := ⟨gb196, 0, none⟩) (Kd.R_types HO207.out BK196.out (by decide)) (fun _ hk => hk.2) (.slice Ao42 y205.length co42)) (fun _ h_ => h_.1))))) (below_size (bH HB))); have n4_ := Aside0.mk (blk_below (g := gb196) (o := .cells #[.slice Ao42 y205.length co42, .int .i64 a0_1, .bool false, .int .i64 (wrap64 (a0_3 + 1)), .slice A0_4 l0_4.length c0_4, .int .i64 a0_5] 28 (0, 0)) (by (with_reducible repeat (first | refine blk_drewN ?_ _ | refine blk_drew ?_ | refine blk_alloc ?_ _)); refine blk_put (cs := #[.slice Ao4 l0_0.length co4, .int .i64 a0_1, .bool false, .int .i64 (wrap64 (a0_3 + 1)), .slice A0_4 l0_4.length c0_4, .int .i64 a0_5]) ?_ 0 _ rfl; (with_reducible repeat (first | refine blk_drewN ?_ _ | refine blk_drew ?_ | refine blk_alloc ?_ _)); exact BK196.out) hb); have n5_ := Aside0.mk (blk_below (g := gb197) (o := .cells #[.slice none 0 0, .int .i64 0, .bool false, .int .i64 0, .slice none 0 0, .int .i64 0] 28 (0, 0)) (bK BK197) hb); have n6_ := Aside0.mk (Kept.below (S := (fun k_ => P0_0_ k_)) (by repeat (first | (with_reducible first | exact HK.out | apply Kept.alloc | apply Kept.drewN | apply Kept.drew | refine Kept.setCell ?_ (.inr GW196.out) _ | refine Kept.setCell ?_ (.inr GW197.out) _) | exact HK.out)) hb); have n7_ := Aside0.mk (below_step (bH HB) hb); clear HO0_0; clear HO0_4; clear HO207; clear BK196; clear BK197; clear HK; clear HB; have HO0_0 := n0_; have HO0_4 := n1_; have HO207 := n2_; have HO214 := n3_; have BK196 := n4_; have BK197 := n5_; have HK := n6_; have HB := n7_; clear n0_ n1_ n2_ n3_ n4_ n5_ n6_ n7_; (try clear hb); (try clear hb2); (try clear hk); (try clear hi); (try clear ho0)))
           (try simp only [Act.put, List.setIfInBounds_toArray, List.set_cons_zero, List.set_cons_succ])
           have H := HC76.out
           clear HC76
           by_cases c78 : t212 = 0
           ·rw [if_pos c78] at H
            have c78b0 : (t212 == 0) = true := beq_iff_eq.mpr c78
            have c78b1 : (t212 != 0) = false := bne_eq_false_iff_eq.mpr c78
            clear c78
            (first | rw [c78b0] | (simp only [i64_w, i32_w]; rw [c78b0]) | skip)
            by_cases c79 : ([] : List (S48)).length + l0_4.length < 4398046511104
            ·rw [if_pos c79] at H
             have LMc79 := Aside0.mk c79
             clear c79
             obtain ⟨y215, hy215⟩ : ∃ y_ : List (S48), y_ = (([] : List (S48)) ++ l0_4) := ⟨_, rfl⟩
             replace H : (if 0 < (y205.length : Int) then (if 0 ≤ t209 then (if t209 ≤ (t211.length : Int) then ((lapidaryref00_Copy.f (t211.drop (t209 : Int).toNat)).bind fun t224 => (if y215.length < 4398046511104 then (some (([] : List Int), wrap64 (rd y205 0), false, wrap64 (a0_3 + 1), (y215 ++ [(⟨wrap64 (rd y205 0), t224⟩ : S48)]), a0_5)) else (none))) else (none)) else (none)) else (none)) = some (r1, r2, r3, r4, r5, r6) := by first | (rw [hy215]; with_reducible exact H) | (have H2_ := (Option.bind_some _ _).symm.trans H; rw [hy215]; with_reducible exact H2_) | (have H2_ := (Option.bind_some _ _).symm.trans H; with_reducible exact H2_) | with_reducible exact H | (rw [hy215]; exact H) | exact H
             have Ny215 := Aside0.mk hy215
             clear hy215
             by_cases c80 : 0 < (y205.length : Int)
             ·rw [if_pos c80] at H
              have c80b0 : decide (0 < (y205.length : Int)) = true := decide_eq_true c80
              have c80b1 : decide (0 < y205.length) = true := decide_eq_true (by omega)
              clear c80
              by_cases c81 : 0 ≤ t209
              ·rw [if_pos c81] at H
               have c81b0 := eq_true c81
               have c81b1 : decide (0 ≤ t209) = true := decide_eq_true c81
               clear c81
               by_cases c82 : t209 ≤ (t211.length : Int)
               ·rw [if_pos c82] at H
                have c82b0 := eq_true c82
                have c82b1 : decide (t209 ≤ (t211.length : Int)) = true := decide_eq_true c82
                clear c82
                obtain ⟨y219, hy219⟩ : ∃ y_ : List Int, y_ = (t211.drop (t209 : Int).toNat) := ⟨_, rfl⟩
                replace H : ((lapidaryref00_Copy.f y219).bind fun t224 => (if y215.length < 4398046511104 then (some (([] : List Int), wrap64 (rd y205 0), false, wrap64 (a0_3 + 1), (y215 ++ [(⟨wrap64 (rd y205 0), t224⟩ : S48)]), a0_5)) else (none))) = some (r1, r2, r3, r4, r5, r6) := by first | (rw [hy219]; with_reducible exact H) | (have H2_ := (Option.bind_some _ _).symm.trans H; rw [hy219]; with_reducible exact H2_) | (have H2_ := (Option.bind_some _ _).symm.trans H; with_reducible exact H2_) | with_reducible exact H | (rw [hy219]; exact H) | exact H
                have Ny219 := Aside0.mk hy219
                clear hy219
                replace H := Option.bind_eq_some_iff.mp H
                obtain ⟨t224, A830, H⟩ := H
                replace H : (if y215.length < 4398046511104 then (some (([] : List Int), wrap64 (rd y205 0), false, wrap64 (a0_3 + 1), (y215 ++ [(⟨wrap64 (rd y205 0), t224⟩ : S48)]), a0_5)) else (none)) = some (r1, r2, r3, r4, r5, r6) := H
                have A83 := Aside0.mk A830
                clear A830
                by_cases c84 : y215.length < 4398046511104
                ·rw [if_pos c84] at H
                 have LMc84 := Aside0.mk c84
                 clear c84
                 obtain ⟨y227, hy227⟩ : ∃ y_ : List (S48), y_ = (y215 ++ [(⟨wrap64 (rd y205 0), t224⟩ : S48)]) := ⟨_, rfl⟩
                 replace H : (some (([] : List Int), wrap64 (rd y205 0), false, wrap64 (a0_3 + 1), y227, a0_5)) = some (r1, r2, r3, r4, r5, r6) := by first | (rw [hy227]; with_reducible exact H) | (have H2_ := (Option.bind_some _ _).symm.trans H; rw [hy227]; with_reducible exact H2_) | (have H2_ := (Option.bind_some _ _).symm.trans H; with_reducible exact H2_) | with_reducible exact H | (rw [hy227]; exact H) | exact H
                 have Ny227 := Aside0.mk hy227
                 clear hy227
                 simp only [Option.some.injEq, Prod.mk.injEq] at H
                 obtain ⟨rfl, rfl, rfl, rfl, rfl, rfl⟩ := H
                 have hnb85 := NB196_197.out
                 have hnc85 := NB197_196.out
                 have hcz86_0 : w77.cell? ⟨gb196, 0, none⟩ = some (.slice Ao42 y205.length co42) := (blk_cell BK196.out 0).trans rfl
                 have hcz86_1 : w77.cell? ⟨gb196, 1, none⟩ = some (.int .i64 a0_1) := (blk_cell BK196.out 1).trans rfl
                 have hcz86_2 : w77.cell? ⟨gb196, 2, none⟩ = some (.bool false) := (blk_cell BK196.out 2).trans rfl
                 have hcz86_3 : w77.cell? ⟨gb196, 3, none⟩ = some (.int .i64 (wrap64 (a0_3 + 1))) := (blk_cell BK196.out 3).trans rfl
                 have hcz86_4 : w77.cell? ⟨gb196, 4, none⟩ = some (.slice A0_4 l0_4.length c0_4) := (blk_cell BK196.out 4).trans rfl
                 have hcz86_5 : w77.cell? ⟨gb196, 5, none⟩ = some (.int .i64 a0_5) := (blk_cell BK196.out 5).trans rfl
                 have hfz86_0 := blk_frozen BK196.out 0
                 have hfz86_1 := blk_frozen BK196.out 1
                 have hfz86_2 := blk_frozen BK196.out 2
                 have hfz86_3 := blk_frozen BK196.out 3
                 have hfz86_4 := blk_frozen BK196.out 4
                 have hfz86_5 := blk_frozen BK196.out 5
                 try go_wp2_with (first | ((with_reducible refine gate_builtin (b := .append) (xs := #[.tmp 101, .tmp 103]) rfl ?_); at_builtin; refine Kd.N_append_rows k48 w.heap.size rfl (.tmp 101) (.tmp 103) 26 48 (.agg #[(.int .i64 0), (.slice none 0 0)]) 32 rfl Try.underlying26 info48 rfl (by decide) (by omega) (.slice none 0 0) ([] : List (S48)) l0_4 _ _ _ (fun k_ => ((P0_0_ k_ ∨ P0_4_ k_) ∨ w.heap.size ≤ k_) ∧ some k_ ≠ (.slice Ao4 l0_0.length co4 : Value).ownBlock ∧ some k_ ≠ (.slice Ao42 y205.length co42 : Value).ownBlock ∧ some k_ ≠ (v213 : Value).ownBlock ∧ k_ ≠ gb196 ∧ k_ ≠ gb197) (fun k_ => ((fun k_ => ((P0_0_ k_ ∨ P0_4_ k_) ∨ w.heap.size ≤ k_) ∧ some k_ ≠ (.slice Ao4 l0_0.length co4 : Value).ownBlock ∧ some k_ ≠ (.slice Ao42 y205.length co42 : Value).ownBlock ∧ some k_ ≠ (v213 : Value).ownBlock ∧ k_ ≠ gb196 ∧ k_ ≠ gb197)) k_ ∧ some k_ ≠ (.slice none 0 0 : Value).ownBlock) rfl rfl ?aO ?aR (fun _ hk => hk) ?aF (Below.refl _ _) ?aS ?aL ?_; (case aR => exact (by skip; exact Kd.V_F (Kd.V_mono (ok' := (fun k_ => ((fun k_ => ((P0_0_ k_ ∨ P0_4_ k_) ∨ w.heap.size ≤ k_) ∧ some k_ ≠ (.slice Ao4 l0_0.length co4 : Value).ownBlock ∧ some k_ ≠ (.slice Ao42 y205.length co42 : Value).ownBlock ∧ some k_ ≠ (v213 : Value).ownBlock ∧ k_ ≠ gb196 ∧ k_ ≠ gb197)) k_ ∧ some k_ ≠ (.slice none 0 0 : Value).ownBlock)) (HO0_4.out) (fun k_ hk => ⟨⟨hk.1.1.1, ⟨hk.1.1.2.1, ⟨hk.1.2, ⟨hk.2, ⟨hk.1.1.2.2.1, hk.1.1.2.2.2⟩⟩⟩⟩⟩, (by simp [Value.ownBlock])⟩)))); (case aF => exact (fun k_ hk => ⟨(.inr (Nat.le_trans (by first | exact HK.out.1 | exact (show Kept w _ (fun k_ => P0_0_ k_) from by repeat (first | (with_reducible first | exact HK.out | apply Kept.alloc | apply Kept.drewN | apply Kept.drew | refine Kept.setCell ?_ (.inr GW196.out) _ | refine Kept.setCell ?_ (.inr GW197.out) _) | exact HK.out)).1) hk)), Kd.fresh' (Kd.R_lt (rK HO0_0)) k_ hk, Kd.fresh' (Kd.R_lt (rK HO207)) k_ hk, Kd.fresh' (Kd.R_lt (rK HO214)) k_ hk, Kd.freshB (g := gb196) (o := .cells #[.slice Ao42 y205.length co42, .int .i64 a0_1, .bool false, .int .i64 (wrap64 (a0_3 + 1)), .slice A0_4 l0_4.length c0_4, .int .i64 a0_5] 28 (0, 0)) (bK BK196) k_ hk, Kd.freshB (g := gb197) (o := .cells #[.slice none 0 0, .int .i64 0, .bool false, .int .i64 0, .slice none 0 0, .int .i64 0] 28 (0, 0)) (bK BK197) k_ hk⟩)); (case aO => exact ((Kd.N_nil _ _ _ _ (fun k_ => ((P0_0_ k_ ∨ P0_4_ k_) ∨ w.heap.size ≤ k_) ∧ some k_ ≠ (.slice Ao4 l0_0.length co4 : Value).ownBlock ∧ some k_ ≠ (.slice Ao42 y205.length co42 : Value).ownBlock ∧ some k_ ≠ (v213 : Value).ownBlock ∧ k_ ≠ gb196 ∧ k_ ≠ gb197)))); (case aS => exact (by first | exact HK.out.1 | exact (show Kept w _ (fun k_ => P0_0_ k_) from by repeat (first | (with_reducible first | exact HK.out | apply Kept.alloc | apply Kept.drewN | apply Kept.drew | refine Kept.setCell ?_ (.inr GW196.out) _ | refine Kept.setCell ?_ (.inr GW197.out) _) | exact HK.out)).1)); (case aL => have := LMc79.out; omega); intro v216 w87 ho hb hg hat; rw [← Ny215.out] at ho; have n0_ := Aside0.mk (Kd.R_grown (rK HO0_0) hg (fun _ _ => by simp [Value.ownBlock])); have n1_ := Aside0.mk (Kd.V_afterv (Kd.V_apart_nil (by (with_reducible repeat (first | apply Kd.V_alloc | apply Kd.V_drewN | apply Kd.V_drew)); exact HO0_4.out)) hg hat); have n2_ := Aside0.mk (blk_grown (g := gb196) (o := .cells #[.slice Ao42 y205.length co42, .int .i64 a0_1, .bool false, .int .i64 (wrap64 (a0_3 + 1)), .slice A0_4 l0_4.length c0_4, .int .i64 a0_5] 28 (0, 0)) (bK BK196) hg (by simp [Value.ownBlock])); have n3_ := Aside0.mk (blk_grown (g := gb197) (o := .cells #[.slice none 0 0, .int .i64 0, .bool false, .int .i64 0, .slice none 0 0, .int .i64 0] 28 (0, 0)) (bK BK197) hg (by simp [Value.ownBlock])); have n4_ := Aside0.mk (Kd.R_grown (rK HO207) hg (fun _ _ => by simp [Value.ownBlock])); have n5_ := Aside0.mk (Kd.R_grown (rK HO214) hg (fun _ _ => by simp [Value.ownBlock])); have n6_ := Aside0.mk (below_weaken (bH HB) HW0.out hb); have n7_ := Aside0.mk (Kept.of_grown (S := (fun k_ => P0_0_ k_)) hg (by repeat (first | (with_reducible first | exact HK.out | apply Kept.alloc | apply Kept.drewN | apply Kept.drew | refine Kept.setCell ?_ (.inr GW196.out) _ | refine Kept.setCell ?_ (.inr GW197.out) _) | exact HK.out)) (fun k_ e_ => by simp [Value.ownBlock] at e_)); have n8_ := Aside0.mk (ho); clear HO0_0; clear HO0_4; clear BK196; clear BK197; clear HO207; clear HO214; clear HB; clear HK; have HO0_0 := n0_; have HO0_4 := n1_; have BK196 := n2_; have BK197 := n3_; have HO207 := n4_; have HO214 := n5_; have HB := n6_; have HK := n7_; have HO217 := n8_; clear n0_ n1_ n2_ n3_ n4_ n5_ n6_ n7_ n8_; clear ho hb hg hat))
                 have n0_ := Aside0.mk (Kd.R_drew HO0_0.out)
                 have n1_ := Aside0.mk (Kd.V_drew HO0_4.out)
                 have n2_ := Aside0.mk (Kd.R_drew HO207.out)
                 have n3_ := Aside0.mk (Kd.R_drew HO214.out)
                 have n4_ := Aside0.mk (Kd.N_drew HO217.out)
                 have n5_ := Aside0.mk (blk_drew BK196.out)
                 have n6_ := Aside0.mk (blk_drew BK197.out)
                 have n7_ := Aside0.mk (Kept.drew HK.out)
                 have n8_ := Aside0.mk (below_drew1 HB.out)
                 clear HO0_0
                 clear HO0_4
                 clear HO207
                 clear HO214
                 clear HO217
                 clear BK196
                 clear BK197
                 clear HK
                 clear HB
                 have HO0_0 := n0_
                 have HO0_4 := n1_
                 have HO207 := n2_
                 have HO214 := n3_
                 have HO217 := n4_
                 have BK196 := n5_
                 have BK197 := n6_
                 have HK := n7_
                 have HB := n8_
                 clear n0_ n1_ n2_ n3_ n4_ n5_ n6_ n7_ n8_
                 have p218 : 0 ≤ (0 : Int) := (by omega)
                 have q218 : 0 < (y205.length : Int) := of_decide_eq_true (by first | (with_reducible assumption) | assumption)
                 obtain ⟨ad218, e218, hx218_0⟩ := Kd.at_int (Kd.R_reads' HO207.out).2.2 0 p218 q218
                 cases e218
                 have qi218 : (0 < y205.length) = True := eq_true (by omega)
                 (try rw [show ((0 : Int)).toNat = 0 from rfl] at hx218_0)
                 (try rw [Addr.add_zero'] at hx218_0)
                 replace p218 := eq_true p218
                 replace q218 := eq_true q218
                 obtain ⟨Ao90, co90, eo90⟩ := Kd.R_slice HO214.out
                 (first | subst eo90 | (injection eo90 with f1_ f2_ f3_; have f4_ := f1_.symm; have f5_ := f3_.symm; clear f1_ f2_ f3_; subst f4_; subst f5_))
                 have q89 : (t209 : Int) ≤ ((t211.length : Int) : Int) := of_decide_eq_true (by first | (with_reducible assumption) | assumption)
                 obtain ⟨i089, hi089, _, hsz89, _⟩ := info_parts info5
                 have hroom89 : t211.length ≤ co90 := (Kd.R_reads' HO214.out).2.1
                 have hC89 : Kd.F (Kd.int .u8) _ _ Ao90 t211.length t211 := (Kd.V_at (base := w0.heap.size) (Kd.V_mono (ok' := (fun k_ => ((((((((P0_0_ k_ ∨ P0_4_ k_) ∨ w.heap.size ≤ k_) ∧ True) ∧ some k_ ≠ (.slice Ao4 l0_0.length co4 : Value).ownBlock) ∧ some k_ ≠ (.slice (some ad218) y205.length co42 : Value).ownBlock) ∧ some k_ ≠ (v216 : Value).ownBlock) ∧ k_ ≠ gb196) ∧ k_ ≠ gb197))) (Kd.R_V (Kd.R_types (Kd.R_types (Kd.R_apart' (HO214.out) (Kd.N_typed HO217.out) (by decide)) BK196.out (by decide)) BK197.out (by decide))) (fun k_ hk => ⟨⟨⟨⟨⟨⟨(Or.imp_left (fun h_ => (.inl h_)) (hk.1.1.1.1.1.1)), trivial⟩, hk.1.1.1.1.2⟩, hk.1.1.1.2⟩, hk.1.1.2⟩, hk.1.2⟩, hk.2⟩))).2.2
                 have q089 : (0 : Int) ≤ (t209 : Int) := of_decide_eq_true (by first | (with_reducible assumption) | assumption)
                 have hcut89 := cut_from (P := Try.prog) 22 5 .i64 Try.underlying22 hi089 1 hsz89 Ao90 t211.length co90 t209 q089 q89
                 have hr89 := Kd.F_cut (m := (t209 : Int).toNat) (c := co90) hC89 (by omega) hroom89
                 obtain ⟨A89, hA89⟩ : ∃ A1, A1 = (if co90 = (t209 : Int).toNat then Ao90 else (Ao90 : Option Addr).map (·.add ((t209 : Int).toNat * 1))) := ⟨_, rfl⟩
                 obtain ⟨c89, hc89⟩ : ∃ c1, c1 = co90 - (t209 : Int).toNat := ⟨_, rfl⟩
                 have hy89 : y219.length = t211.length - (t209 : Int).toNat := (by rw [Ny219.out, List.length_drop] <;> omega)
                 rw [show (t211).drop (t209 : Int).toNat = y219 from Ny219.out.symm] at hr89
                 replace hr89 : Kd.F (Kd.int .u8) _ _ A89 y219.length y219 := (by rw [hA89]; exact hr89)
                 rw [← hy89, ← hA89, ← hc89] at hcut89
                 have HO223 := Aside0.mk (show Kd.V (Kd.int .u8) 5 _ w0.heap.size _ (.slice A89 y219.length c89) y219 from Kd.V_mk (by rw [hy89, hc89]; exact Nat.sub_le_sub_right hroom89 _) hr89)
                 have HC223 := Aside0.mk (show y219.length ≤ c89 from by rw [hy89, hc89]; exact Nat.sub_le_sub_right hroom89 _)
                 clear hr89 hC89 hroom89 hi089 hsz89 hc89
                 have KY89 := Aside0.mk hy89
                 have KA89 := Aside0.mk hA89
                 clear hy89 hA89
                 replace q89 := eq_true q89
                 refine start_ (n := 13) (S := fun w' => w'.cell? ad218 = some (.int .u8 (rd y205 0))) (ds := [10, 11]) #[false, false, false, false, false, false, false, false, false, false, false, false, false] (by kernel_rfl) rfl rfl (hx218_0) (fun hHeld => ?_); refine with_tabW lapidaryref03_Step.tab38 lapidaryref03_Step.bits38 (fun HT_ HW_ => ?_)
                 generalize w87.drew = w88 at HO0_0 HO0_4 HO207 HO214 HO217 BK196 BK197 HK HB HO223 hx218_0 hHeld ⊢
                 refine pure_ (i := 0) (N := some 105) (v := ?_) (a' := ?_) #[true, false, false, false, false, false, false, false, false, false, false, false, false] rfl rfl (any_of HT_.out (by kernel_rfl)) (fun _ _ _ h => h) (Or.inl ⟨by rfl, ?_⟩) ?_ ?_
                 rotate_left
                 ·intro w'
                  go_simp
                  with_reducible rfl
                 rotate_left
                 ·simp only [Act.put, List.setIfInBounds_toArray, List.set_cons_zero, List.set_cons_succ, i64_w, i32_w]
                  rfl
                 refine pure_ (i := 1) (N := some 106) (v := ?_) (a' := ?_) #[true, true, false, false, false, false, false, false, false, false, false, false, false] rfl rfl (any_of HT_.out (by kernel_rfl)) (fun _ _ _ h => h) (Or.inl ⟨by rfl, ?_⟩) ?_ ?_
                 rotate_left
                 ·intro w'
                  go_simp
                  with_reducible rfl
                 rotate_left
                 ·simp only [Act.put, List.setIfInBounds_toArray, List.set_cons_zero, List.set_cons_succ, i64_w, i32_w]
                  rfl
                 refine pure_ (i := 2) (N := some 107) (v := ?_) (a' := ?_) #[true, true, true, false, false, false, false, false, false, false, false, false, false] rfl rfl (any_of HT_.out (by kernel_rfl)) (fun _ _ _ h => h) (Or.inl ⟨by rfl, ?_⟩) ?_ ?_
                 rotate_left
                 ·intro w'
                  go_simp
                  with_reducible rfl
                 rotate_left
                 ·simp only [Act.put, List.setIfInBounds_toArray, List.set_cons_zero, List.set_cons_succ, i64_w, i32_w]
                  rfl
                 refine pure_ (i := 5) (N := some 110) (v := ?_) (a' := ?_) #[true, true, true, false, false, true, false, false, false, false, false, false, false] rfl rfl (any_of HT_.out (by kernel_rfl)) (fun _ _ _ h => h) (Or.inl ⟨by rfl, ?_⟩) ?_ ?_
                 rotate_left
                 ·intro w'
                  go_simp
                  with_reducible rfl
                 rotate_left
                 ·simp only [Act.put, List.setIfInBounds_toArray, List.set_cons_zero, List.set_cons_succ, i64_w, i32_w]
                  rfl
                 refine pure_ (i := 6) (N := some 111) (v := ?_) (a' := ?_) #[true, true, true, false, false, true, true, false, false, false, false, false, false] rfl rfl (any_of HT_.out (by kernel_rfl)) (fun _ _ _ h => h) (Or.inl ⟨by rfl, ?_⟩) ?_ ?_
                 rotate_left
                 ·intro w'
                  go_simp
                  with_reducible rfl
                 rotate_left
                 ·simp only [Act.put, List.setIfInBounds_toArray, List.set_cons_zero, List.set_cons_succ, i64_w, i32_w]
                  rfl
                 refine pure_ (i := 7) (N := some 112) (v := ?_) (a' := ?_) #[true, true, true, false, false, true, true, true, false, false, false, false, false] rfl rfl (any_of HT_.out (by kernel_rfl)) (fun _ _ _ h => h) (Or.inl ⟨by rfl, ?_⟩) ?_ ?_
                 rotate_left
                 ·intro w'
                  go_simp
                  with_reducible rfl
                 rotate_left
                 ·simp only [Act.put, List.setIfInBounds_toArray, List.set_cons_zero, List.set_cons_succ, i64_w, i32_w]
                  rfl
                 refine take_ (i := 3) (N := some 108) (v := ?_) (a' := ?_) #[true, true, true, true, false, true, true, true, false, false, false, false, false] rfl rfl (take_ofW HT_.out HW_.out (by kernel_rfl)) (fun _ _ _ h => h) (Or.inl ⟨by rfl, ?_⟩) hHeld ?_ ?_
                 rotate_left
                 ·intro w' s0
                  go_simp
                  with_reducible rfl
                 rotate_left
                 ·simp only [Act.put, List.setIfInBounds_toArray, List.set_cons_zero, List.set_cons_succ, i64_w, i32_w]
                  rfl
                 refine pure_ (i := 4) (N := some 109) (v := ?_) (a' := ?_) #[true, true, true, true, true, true, true, true, false, false, false, false, false] rfl rfl (any_of HT_.out (by kernel_rfl)) (fun _ _ _ h => h) (Or.inl ⟨by rfl, ?_⟩) ?_ ?_
                 rotate_left
                 ·intro w'
                  go_simp
                  with_reducible rfl
                 rotate_left
                 ·simp only [Act.put, List.setIfInBounds_toArray, List.set_cons_zero, List.set_cons_succ, i64_w, i32_w]
                  rfl
                 refine one_ (i := 8) (N := some 113) #[true, true, true, true, true, true, true, true, true, false, false, false, false] rfl rfl (one_of HT_.out (by kernel_rfl)) (by decide) (fun K hK => ?_)
                 refine goes_ Try.func31 (by kernel_rfl) rfl #[.slice A89 y219.length c89] (by rfl) rfl rfl (by (try simp only [List.map_toArray, List.map_cons, List.map_nil]); first | done | rfl | (simp only [List.length_drop, List.length_take]; rfl)) ?_
                 with_reducible refine (lapidaryref00_Copy.calls _ _ y219 t224 _ ?side1 ?side2 A83.out).mono ?_
                 (case side1 => repeat (first | exact (Kd.V_reads' HO223.out).2.2 | (with_reducible refine Kd.C_alloc ?_ _) | (with_reducible refine Kd.C_drewN ?_ _) | (with_reducible refine Kd.C_drew ?_)))
                 (case side2 => exact (Kd.V_reads' HO223.out).2.1)
                 rintro e w91 ⟨v225, rfl, ho0, hb⟩
                 have HS0_ := (hb.cell (World.block_lt_of_cell? _ _ (hHeld))).trans (hHeld)
                 refine ⟨_, rfl, ?_⟩
                 have n0_ := Aside0.mk (Kd.R_elder' (rK HO0_0) (Kd.R_base ho0) hb)
                 have n1_ := Aside0.mk (Kd.V_elder' (by (with_reducible repeat (first | apply Kd.V_alloc | apply Kd.V_drewN | apply Kd.V_drew)); exact HO0_4.out) (Kd.R_base ho0) hb)
                 have n2_ := Aside0.mk (Kd.R_elder' (rK HO207) (Kd.R_base ho0) hb)
                 have n3_ := Aside0.mk (Kd.R_elder' (rK HO214) (Kd.R_base ho0) hb)
                 have n4_ := Aside0.mk (Kd.N_elder' (by (with_reducible repeat (first | apply Kd.N_alloc | apply Kd.N_drewN | apply Kd.N_drew)); exact HO217.out) (Kd.R_base ho0) hb)
                 have n5_ := Aside0.mk (Kd.V_elder' (by (with_reducible repeat (first | apply Kd.V_alloc | apply Kd.V_drewN | apply Kd.V_drew)); exact HO223.out) (Kd.R_base ho0) hb)
                 have n6_ := Aside0.mk (Kd.R_lower (Kd.R_new' (Kd.R_new' (Kd.R_new' (Kd.R_newM (M := fun k_ => (P0_0_ k_ ∨ w.heap.size ≤ k_)) ho0 (by first | exact HK.out.1 | exact (show Kept w _ (fun k_ => P0_0_ k_) from by repeat (first | (with_reducible first | exact HK.out | apply Kept.alloc | apply Kept.drewN | apply Kept.drew | refine Kept.setCell ?_ (.inr GW196.out) _ | refine Kept.setCell ?_ (.inr GW197.out) _) | exact HK.out)).1) (fun k_ h_ => .inr h_)) (Kd.R_lt (rK HO0_0))) (Kd.R_lt (rK HO207))) (Kd.R_lt (rK HO214))) (below_size (bH HB)))
                 have n7_ := Aside0.mk (blk_below (g := gb196) (o := .cells #[.slice (some ad218) y205.length co42, .int .i64 a0_1, .bool false, .int .i64 (wrap64 (a0_3 + 1)), .slice A0_4 l0_4.length c0_4, .int .i64 a0_5] 28 (0, 0)) (bK BK196) hb)
                 have n8_ := Aside0.mk (blk_below (g := gb197) (o := .cells #[.slice none 0 0, .int .i64 0, .bool false, .int .i64 0, .slice none 0 0, .int .i64 0] 28 (0, 0)) (bK BK197) hb)
                 have n9_ := Aside0.mk (Kept.below (S := (fun k_ => P0_0_ k_)) (by repeat (first | (with_reducible first | exact HK.out | apply Kept.alloc | apply Kept.drewN | apply Kept.drew | refine Kept.setCell ?_ (.inr GW196.out) _ | refine Kept.setCell ?_ (.inr GW197.out) _) | exact HK.out)) hb)
                 have n10_ := Aside0.mk (below_step (bH HB) hb)
                 clear HO0_0
                 clear HO0_4
                 clear HO207
                 clear HO214
                 clear HO217
                 clear HO223
                 clear BK196
                 clear BK197
                 clear HK
                 clear HB
                 have HO0_0 := n0_
                 have HO0_4 := n1_
                 have HO207 := n2_
                 have HO214 := n3_
                 have HO217 := n4_
                 have HO223 := n5_
                 have HO226 := n6_
                 have BK196 := n7_
                 have BK197 := n8_
                 have HK := n9_
                 have HB := n10_
                 clear n0_ n1_ n2_ n3_ n4_ n5_ n6_ n7_ n8_ n9_ n10_
                 (try clear hb)
                 (try clear hb2)
                 (try clear hk)
                 (try clear hi)
                 (try clear ho0)
                 obtain ⟨Ao92, co92, eo92⟩ := Kd.R_slice HO226.out
                 (first | subst eo92 | (injection eo92 with f1_ f2_ f3_; have f4_ := f1_.symm; have f5_ := f3_.symm; clear f1_ f2_ f3_; subst f4_; subst f5_))
                 refine hK.out _ _ (HS0_) (fun hHeld => ?_)
                 clear hK K
                 refine norm_ (a' := ?_) ?_ ?_
                 rotate_left
                 ·show Act.put _ (some 113) _ = _
                  simp only [Act.put, List.setIfInBounds_toArray, List.set_cons_zero, List.set_cons_succ, i64_w, i32_w]
                  rfl
                 refine pure_ (i := 9) (N := some 114) (v := ?_) (a' := ?_) #[true, true, true, true, true, true, true, true, true, true, false, false, false] rfl rfl (any_of HT_.out (by kernel_rfl)) (fun _ _ _ h => h) (Or.inl ⟨by rfl, ?_⟩) ?_ ?_
                 rotate_left
                 ·intro w'
                  go_simp
                  with_reducible rfl
                 rotate_left
                 ·simp only [Act.put, List.setIfInBounds_toArray, List.set_cons_zero, List.set_cons_succ, i64_w, i32_w]
                  rfl
                 refine last_ (i := 10) (N := some 115) #[true, true, true, true, true, true, true, true, true, true, true, false, false] rfl rfl (one_of HT_.out (by kernel_rfl)) (by decide) (fun K hK => ?_)
                 refine value_ (w1 := ?_) (v := ?_) (by rfl) rfl ?_ ?_
                 rotate_left 2
                 ·go_simp
                  constructor
                  ·rfl
                  ·rfl
                 refine hK.out _ _ ?_
                 clear hK K
                 refine norm_ (a' := ?_) ?_ ?_
                 rotate_left
                 ·show Act.put _ (some 115) _ = _
                  simp only [Act.put, List.setIfInBounds_toArray, List.set_cons_zero, List.set_cons_succ, i64_w, i32_w]
                  rfl
                 refine last_ (i := 11) (N := some 116) #[true, true, true, true, true, true, true, true, true, true, true, true, false] rfl rfl (one_of HT_.out (by kernel_rfl)) (by decide) (fun K hK => ?_)
                 refine Kd.N_append_step k48 w.heap.size rfl (.tmp 105) (.tmp 115) 26 48 (.agg #[(.int .i64 0), (.slice none 0 0)]) 32 rfl Try.underlying26 info48 rfl (by decide) (by omega) v216 y215 (⟨wrap64 (rd y205 0), t224⟩ : S48) [.int .i64 (wrap64 (rd y205 0)), .slice Ao92 t224.length co92] (fun k_ => ((P0_0_ k_ ∨ P0_4_ k_) ∨ w.heap.size ≤ k_) ∧ some k_ ≠ (.slice Ao4 l0_0.length co4 : Value).ownBlock ∧ some k_ ≠ (.slice (some ad218) y205.length co42 : Value).ownBlock ∧ some k_ ≠ (.slice Ao90 t211.length co90 : Value).ownBlock ∧ k_ ≠ gb196 ∧ k_ ≠ gb197) (fun k_ => ((fun k_ => ((P0_0_ k_ ∨ P0_4_ k_) ∨ w.heap.size ≤ k_) ∧ some k_ ≠ (.slice Ao4 l0_0.length co4 : Value).ownBlock ∧ some k_ ≠ (.slice (some ad218) y205.length co42 : Value).ownBlock ∧ some k_ ≠ (.slice Ao90 t211.length co90 : Value).ownBlock ∧ k_ ≠ gb196 ∧ k_ ≠ gb197)) k_ ∧ some k_ ≠ (v216 : Value).ownBlock) rfl rfl ?aP (fun _ hk => hk) ?aF ?aO (Below.refl _ _) ?aS ?aL ?_
                 (case aP => exact (k48_mkF _ _ (⟨wrap64 (rd y205 0), t224⟩ : S48) (Kd.R_reads' (Kd.R_mono (ok' := (fun k_ => ((fun k_ => ((P0_0_ k_ ∨ P0_4_ k_) ∨ w.heap.size ≤ k_) ∧ some k_ ≠ (.slice Ao4 l0_0.length co4 : Value).ownBlock ∧ some k_ ≠ (.slice (some ad218) y205.length co42 : Value).ownBlock ∧ some k_ ≠ (.slice Ao90 t211.length co90 : Value).ownBlock ∧ k_ ≠ gb196 ∧ k_ ≠ gb197)) k_ ∧ some k_ ≠ (v216 : Value).ownBlock)) (Kd.R_types (Kd.R_types (Kd.R_apart' (HO226.out) (Kd.N_typed HO217.out) (by decide)) BK196.out (by decide)) BK197.out (by decide)) (fun k_ hk => ⟨⟨(Or.imp_left (fun h_ => (.inl h_)) (hk.1.1.1.1.1.1.1)), ⟨hk.1.1.1.1.1.2, ⟨hk.1.1.1.1.2, ⟨hk.1.1.1.2, ⟨hk.1.2, hk.2⟩⟩⟩⟩⟩, hk.1.1.2⟩))).2.1 (Kd.R_F (Kd.R_mono (ok' := (fun k_ => ((fun k_ => ((P0_0_ k_ ∨ P0_4_ k_) ∨ w.heap.size ≤ k_) ∧ some k_ ≠ (.slice Ao4 l0_0.length co4 : Value).ownBlock ∧ some k_ ≠ (.slice (some ad218) y205.length co42 : Value).ownBlock ∧ some k_ ≠ (.slice Ao90 t211.length co90 : Value).ownBlock ∧ k_ ≠ gb196 ∧ k_ ≠ gb197)) k_ ∧ some k_ ≠ (v216 : Value).ownBlock)) (Kd.R_types (Kd.R_types (Kd.R_apart' (HO226.out) (Kd.N_typed HO217.out) (by decide)) BK196.out (by decide)) BK197.out (by decide)) (fun k_ hk => ⟨⟨(Or.imp_left (fun h_ => (.inl h_)) (hk.1.1.1.1.1.1.1)), ⟨hk.1.1.1.1.1.2, ⟨hk.1.1.1.1.2, ⟨hk.1.1.1.2, ⟨hk.1.2, hk.2⟩⟩⟩⟩⟩, hk.1.1.2⟩)))))
                 (case aF => exact (fun k_ hk => ⟨(.inr (Nat.le_trans (by first | exact HK.out.1 | exact (show Kept w _ (fun k_ => P0_0_ k_) from by repeat (first | (with_reducible first | exact HK.out | apply Kept.alloc | apply Kept.drewN | apply Kept.drew | refine Kept.setCell ?_ (.inr GW196.out) _ | refine Kept.setCell ?_ (.inr GW197.out) _) | exact HK.out)).1) hk)), Kd.fresh' (Kd.R_lt (rK HO0_0)) k_ hk, Kd.fresh' (Kd.R_lt (rK HO207)) k_ hk, Kd.fresh' (Kd.R_lt (rK HO214)) k_ hk, Kd.freshB (g := gb196) (o := .cells #[.slice (some ad218) y205.length co42, .int .i64 a0_1, .bool false, .int .i64 (wrap64 (a0_3 + 1)), .slice A0_4 l0_4.length c0_4, .int .i64 a0_5] 28 (0, 0)) (bK BK196) k_ hk, Kd.freshB (g := gb197) (o := .cells #[.slice none 0 0, .int .i64 0, .bool false, .int .i64 0, .slice none 0 0, .int .i64 0] 28 (0, 0)) (bK BK197) k_ hk⟩))
                 (case aO => exact (by (with_reducible repeat (first | apply Kd.N_alloc | apply Kd.N_drewN | apply Kd.N_drew)); exact Kd.N_mono HO217.out (fun _ hk => ⟨hk.1.1, ⟨hk.1.2.1, ⟨hk.1.2.2.1, ⟨hk.1.2.2.2.1, ⟨hk.1.2.2.2.2.1, hk.1.2.2.2.2.2⟩⟩⟩⟩⟩)))
                 (case aS => exact (by first | exact HK.out.1 | exact (show Kept w _ (fun k_ => P0_0_ k_) from by repeat (first | (with_reducible first | exact HK.out | apply Kept.alloc | apply Kept.drewN | apply Kept.drew | refine Kept.setCell ?_ (.inr GW196.out) _ | refine Kept.setCell ?_ (.inr GW197.out) _) | exact HK.out)).1))
                 (case aL => have := LMc84.out; omega)
                 intro v228 w93 ho hb hg hat
                 rw [← Ny227.out] at ho
                 have n0_ := Aside0.mk (Kd.R_over' (rK HO0_0) (Kd.N_typed (by (with_reducible repeat (first | apply Kd.N_alloc | apply Kd.N_drewN | apply Kd.N_drew)); exact HO217.out)) (by decide) hg)
                 have n1_ := Aside0.mk (Kd.V_afterv (ok := (fun k_ => ((P0_0_ k_ ∨ P0_4_ k_) ∨ w.heap.size ≤ k_) ∧ some k_ ≠ (.slice Ao4 l0_0.length co4 : Value).ownBlock ∧ some k_ ≠ (.slice (some ad218) y205.length co42 : Value).ownBlock ∧ some k_ ≠ (.slice Ao90 t211.length co90 : Value).ownBlock ∧ some k_ ≠ (.slice Ao92 t224.length co92 : Value).ownBlock ∧ k_ ≠ gb196 ∧ k_ ≠ gb197)) (by (with_reducible repeat (first | apply Kd.V_alloc | apply Kd.V_drewN | apply Kd.V_drew)); exact Kd.V_mono HO0_4.out (fun _ hk => ⟨⟨hk.1.1.1.1.1, ⟨hk.1.1.1.1.2.1, ⟨hk.1.1.1.2, ⟨hk.1.1.2, ⟨hk.2, ⟨hk.1.1.1.1.2.2.1, hk.1.1.1.1.2.2.2⟩⟩⟩⟩⟩⟩, hk.1.2⟩)) hg hat)
                 have n2_ := Aside0.mk (blk_grown (g := gb196) (o := .cells #[.slice (some ad218) y205.length co42, .int .i64 a0_1, .bool false, .int .i64 (wrap64 (a0_3 + 1)), .slice A0_4 l0_4.length c0_4, .int .i64 a0_5] 28 (0, 0)) (bK BK196) hg (Kd.N_ne HO217.out BK196.out (by decide)))
                 have n3_ := Aside0.mk (blk_grown (g := gb197) (o := .cells #[.slice none 0 0, .int .i64 0, .bool false, .int .i64 0, .slice none 0 0, .int .i64 0] 28 (0, 0)) (bK BK197) hg (Kd.N_ne HO217.out BK197.out (by decide)))
                 have n4_ := Aside0.mk (Kd.R_over' (rK HO207) (Kd.N_typed (by (with_reducible repeat (first | apply Kd.N_alloc | apply Kd.N_drewN | apply Kd.N_drew)); exact HO217.out)) (by decide) hg)
                 have n5_ := Aside0.mk (Kd.R_over' (rK HO214) (Kd.N_typed (by (with_reducible repeat (first | apply Kd.N_alloc | apply Kd.N_drewN | apply Kd.N_drew)); exact HO217.out)) (by decide) hg)
                 have n6_ := Aside0.mk (Kd.V_afterv (ok := (fun k_ => ((P0_0_ k_ ∨ P0_4_ k_) ∨ w.heap.size ≤ k_) ∧ some k_ ≠ (.slice Ao4 l0_0.length co4 : Value).ownBlock ∧ some k_ ≠ (.slice (some ad218) y205.length co42 : Value).ownBlock ∧ some k_ ≠ (.slice Ao92 t224.length co92 : Value).ownBlock ∧ k_ ≠ gb196 ∧ k_ ≠ gb197)) (by (with_reducible repeat (first | apply Kd.V_alloc | apply Kd.V_drewN | apply Kd.V_drew)); exact Kd.V_mono HO223.out (fun _ hk => ⟨⟨hk.1.1.1.1.1.1.1, ⟨hk.1.1.1.1.1.2, ⟨hk.1.1.1.1.2, ⟨hk.2, ⟨hk.1.1.2, hk.1.2⟩⟩⟩⟩⟩, hk.1.1.1.2⟩)) hg hat)
                 have n7_ := Aside0.mk (below_weaken (bH HB) HW0.out hb)
                 have n8_ := Aside0.mk (Kept.of_grown (S := (fun k_ => P0_0_ k_)) hg (by repeat (first | (with_reducible first | exact HK.out | apply Kept.alloc | apply Kept.drewN | apply Kept.drew | refine Kept.setCell ?_ (.inr GW196.out) _ | refine Kept.setCell ?_ (.inr GW197.out) _) | exact HK.out)) (fun k_ e_ => .inr (Kd.N_base HO217.out k_ e_)))
                 have n9_ := Aside0.mk (ho)
                 clear HO0_0
                 clear HO0_4
                 clear BK196
                 clear BK197
                 clear HO207
                 clear HO214
                 clear HO223
                 clear HB
                 clear HK
                 clear HO217
                 clear HO226
                 have HO0_0 := n0_
                 have HO0_4 := n1_
                 have BK196 := n2_
                 have BK197 := n3_
                 have HO207 := n4_
                 have HO214 := n5_
                 have HO223 := n6_
                 have HB := n7_
                 have HK := n8_
                 have HO229 := n9_
                 clear n0_ n1_ n2_ n3_ n4_ n5_ n6_ n7_ n8_ n9_
                 clear ho hb hg hat
                 refine hK.out _ _ ?_
                 clear hK K
                 refine norm_ (a' := ?_) ?_ ?_
                 rotate_left
                 ·show Act.put _ (some 116) _ = _
                  simp only [Act.put, List.setIfInBounds_toArray, List.set_cons_zero, List.set_cons_succ, i64_w, i32_w]
                  rfl
                 refine pure_ (i := 12) (N := some 11) (v := ?_) (a' := ?_) #[true, true, true, true, true, true, true, true, true, true, true, true, true] rfl rfl (any_of HT_.out (by kernel_rfl)) (fun _ _ _ h => h) (Or.inl ⟨by rfl, ?_⟩) ?_ ?_
                 rotate_left
                 ·intro w'
                  go_simp
                  with_reducible rfl
                 rotate_left
                 ·simp only [Act.put, List.setIfInBounds_toArray, List.set_cons_zero, List.set_cons_succ, i64_w, i32_w]
                  rfl
                 refine done_ (done_of HT_.out (by kernel_rfl)) ?_
                 obtain ⟨Ao94, co94, eo94⟩ := Kd.N_slice HO229.out
                 subst eo94
                 have hcz95_0 : w93.cell? ⟨gb196, 0, none⟩ = some (.slice (some ad218) y205.length co42) := (blk_cell BK196.out 0).trans rfl
                 have hcz95_1 : w93.cell? ⟨gb196, 1, none⟩ = some (.int .i64 a0_1) := (blk_cell BK196.out 1).trans rfl
                 have hcz95_2 : w93.cell? ⟨gb196, 2, none⟩ = some (.bool false) := (blk_cell BK196.out 2).trans rfl
                 have hcz95_3 : w93.cell? ⟨gb196, 3, none⟩ = some (.int .i64 (wrap64 (a0_3 + 1))) := (blk_cell BK196.out 3).trans rfl
                 have hcz95_4 : w93.cell? ⟨gb196, 4, none⟩ = some (.slice A0_4 l0_4.length c0_4) := (blk_cell BK196.out 4).trans rfl
                 have hcz95_5 : w93.cell? ⟨gb196, 5, none⟩ = some (.int .i64 a0_5) := (blk_cell BK196.out 5).trans rfl
                 have hfz95_0 := blk_frozen BK196.out 0
                 have hfz95_1 := blk_frozen BK196.out 1
                 have hfz95_2 := blk_frozen BK196.out 2
                 have hfz95_3 := blk_frozen BK196.out 3
                 have hfz95_4 := blk_frozen BK196.out 4
                 have hfz95_5 := blk_frozen BK196.out 5
                 have p230 : 0 ≤ (0 : Int) := (by omega)
                 have q230 : 0 < (y205.length : Int) := of_decide_eq_true (by first | (with_reducible assumption) | assumption)
                 obtain ⟨ad230, e230, hx230_0⟩ := Kd.at_int (Kd.R_reads' HO207.out).2.2 0 p230 q230
                 obtain rfl : ad218 = ad230 := (by injection e230)
                 have qi230 : (0 < y205.length) = True := eq_true (by omega)
                 (try rw [show ((0 : Int)).toNat = 0 from rfl] at hx230_0)
                 (try rw [Addr.add_zero'] at hx230_0)
                 have hn230_0 : ad218.block ≠ gb196 := Kd.own_blk (Kd.R_ne HO207.out BK196.out (by decide))
                 replace hx230_0 := (cell_far (p := ⟨gb196, 4, none⟩) (by first | (rw [add_block]; exact hn230_0) | (show (Addr.add _ _).block ≠ _; rw [add_block]; exact hn230_0) | exact hn230_0) (.slice Ao94 y227.length co94)).trans hx230_0
                 clear hn230_0
                 replace p230 := eq_true p230
                 replace q230 := eq_true q230
                 have hcz96_0 : w93.cell? ⟨gb197, 0, none⟩ = some (.slice none 0 0) := (blk_cell BK197.out 0).trans rfl
                 have hcz96_1 : w93.cell? ⟨gb197, 1, none⟩ = some (.int .i64 0) := (blk_cell BK197.out 1).trans rfl
                 have hcz96_2 : w93.cell? ⟨gb197, 2, none⟩ = some (.bool false) := (blk_cell BK197.out 2).trans rfl
                 have hcz96_3 : w93.cell? ⟨gb197, 3, none⟩ = some (.int .i64 0) := (blk_cell BK197.out 3).trans rfl
                 have hcz96_4 : w93.cell? ⟨gb197, 4, none⟩ = some (.slice none 0 0) := (blk_cell BK197.out 4).trans rfl
                 have hcz96_5 : w93.cell? ⟨gb197, 5, none⟩ = some (.int .i64 0) := (blk_cell BK197.out 5).trans rfl
                 have hfz96_0 := blk_frozen BK197.out 0
                 have hfz96_1 := blk_frozen BK197.out 1
                 have hfz96_2 := blk_frozen BK197.out 2
                 have hfz96_3 := blk_frozen BK197.out 3
                 have hfz96_4 := blk_frozen BK197.out 4
                 have hfz96_5 := blk_frozen BK197.out 5
                 try go_wp2
                 refine bodyPost_ret (results_cell_row rfl _ _ gb197 28 #[.slice none 0 0, .int .i64 (wrap64 (rd y205 0)), .bool false, .int .i64 (wrap64 (a0_3 + 1)), .slice Ao94 y227.length co94, .int .i64 a0_5] (0, 0) _ rfl (by (with_reducible repeat (first | refine blk_drewN ?_ _ | refine blk_drew ?_ | refine blk_alloc ?_ _)); refine blk_put (cs := #[.slice none 0 0, .int .i64 (wrap64 (rd y205 0)), .bool false, .int .i64 (wrap64 (a0_3 + 1)), .slice Ao94 y227.length co94, .int .i64 0]) ?_ 5 _ rfl; (with_reducible repeat (first | refine blk_drewN ?_ _ | refine blk_drew ?_ | refine blk_alloc ?_ _)); refine blk_put (cs := #[.slice none 0 0, .int .i64 (wrap64 (rd y205 0)), .bool false, .int .i64 (wrap64 (a0_3 + 1)), .slice none 0 0, .int .i64 0]) ?_ 4 _ rfl; (with_reducible repeat (first | refine blk_drewN ?_ _ | refine blk_drew ?_ | refine blk_alloc ?_ _)); refine blk_put (cs := #[.slice none 0 0, .int .i64 (wrap64 (rd y205 0)), .bool false, .int .i64 0, .slice none 0 0, .int .i64 0]) ?_ 3 _ rfl; (with_reducible repeat (first | refine blk_drewN ?_ _ | refine blk_drew ?_ | refine blk_alloc ?_ _)); refine blk_put (cs := #[.slice none 0 0, .int .i64 (wrap64 (rd y205 0)), .bool false, .int .i64 0, .slice none 0 0, .int .i64 0]) ?_ 2 _ rfl; (with_reducible repeat (first | refine blk_drewN ?_ _ | refine blk_drew ?_ | refine blk_alloc ?_ _)); refine blk_put (cs := #[.slice none 0 0, .int .i64 0, .bool false, .int .i64 0, .slice none 0 0, .int .i64 0]) ?_ 1 _ rfl; (with_reducible repeat (first | refine blk_drewN ?_ _ | refine blk_drew ?_ | refine blk_alloc ?_ _)); refine blk_put (cs := #[.slice none 0 0, .int .i64 0, .bool false, .int .i64 0, .slice none 0 0, .int .i64 0]) ?_ 0 _ rfl; (with_reducible repeat (first | refine blk_drewN ?_ _ | refine blk_drew ?_ | refine blk_alloc ?_ _)); refine blk_far ?_ NB197_196.out _; (with_reducible repeat (first | refine blk_drewN ?_ _ | refine blk_drew ?_ | refine blk_alloc ?_ _)); refine blk_far ?_ NB197_196.out _; (with_reducible repeat (first | refine blk_drewN ?_ _ | refine blk_drew ?_ | refine blk_alloc ?_ _)); refine blk_far ?_ NB197_196.out _; (with_reducible repeat (first | refine blk_drewN ?_ _ | refine blk_drew ?_ | refine blk_alloc ?_ _)); exact BK197.out) Try.underlying28 rfl (by kernel_rfl)) rfl ?_
                 exact ⟨_, _, by first | rfl | (simp [errW_none, errW_some] <;> rfl) | (simp [*, errW_none, errW_some] <;> rfl), by first | exact Kd.R_nil _ _ _ _ _ | exact Kd.N_nil _ _ _ _ _ | exact Kd.V_nil _ _ _ _ _ | exact Kd.Q_nil _ _ _ _ _ | exact Kd.S_nil _ _ _ _ _, Kd.N_V (by (with_reducible repeat (first | apply Kd.N_alloc | apply Kd.N_drewN | apply Kd.N_drew)); exact Kd.N_mono (Kd.N_far (p := ⟨gb197, 5, none⟩) (Kd.N_far (p := ⟨gb197, 4, none⟩) (Kd.N_far (p := ⟨gb197, 3, none⟩) (Kd.N_far (p := ⟨gb197, 2, none⟩) (Kd.N_far (p := ⟨gb197, 1, none⟩) (Kd.N_far (p := ⟨gb197, 0, none⟩) (Kd.N_far (p := ⟨gb196, 0, none⟩) (Kd.N_far (p := ⟨gb196, 1, none⟩) (Kd.N_far (p := ⟨gb196, 4, none⟩) (Kd.N_mono (Kd.N_mono HO229.out (fun k_ hk => (⟨hk, hk.2.2.2.2.1⟩ : _ ∧ k_ ≠ gb196))) (fun k_ hk => (⟨hk, hk.1.2.2.2.2.2⟩ : _ ∧ k_ ≠ gb197))) (fun _ hk => hk.1.2) (.slice Ao94 y227.length co94)) (fun _ hk => hk.1.2) (.int .i64 (wrap64 (rd y205 0)))) (fun _ hk => hk.1.2) (.slice none 0 0)) (fun _ hk => hk.2) (.slice none 0 0)) (fun _ hk => hk.2) (.int .i64 (wrap64 (rd y205 0)))) (fun _ hk => hk.2) (.bool false)) (fun _ hk => hk.2) (.int .i64 (wrap64 (a0_3 + 1)))) (fun _ hk => hk.2) (.slice Ao94 y227.length co94)) (fun _ hk => hk.2) (.int .i64 a0_5)) (fun _ hk => ⟨hk.1.1.1, (by simp [Value.ownBlock])⟩)), bH HB, by repeat (first | (with_reducible first | exact HK.out | apply Kept.alloc | apply Kept.drewN | apply Kept.drew | refine Kept.setCell ?_ (.inr GW196.out) _ | refine Kept.setCell ?_ (.inr GW197.out) _) | exact HK.out)⟩
                ·rw [if_neg c84] at H
                 exact absurd H (by simp)
               ·rw [if_neg c82] at H
                exact absurd H (by simp)
              ·rw [if_neg c81] at H
               exact absurd H (by simp)
             ·rw [if_neg c80] at H
              exact absurd H (by simp)
            ·rw [if_neg c79] at H
             exact absurd H (by simp)
           ·rw [if_neg c78] at H
            have c78b0 : (t212 == 0) = false := beq_eq_false_iff_ne.mpr c78
            have c78b1 : (t212 != 0) = true := bne_iff_ne.mpr c78
            (first | rw [c78b0] | (simp only [i64_w, i32_w]; rw [c78b0]) | skip)
            simp only [Option.some.injEq, Prod.mk.injEq] at H
            obtain ⟨rfl, rfl, rfl, rfl, rfl, rfl⟩ := H
            have hnb97 := NB196_197.out
            have hnc97 := NB197_196.out
            have hcz98_0 : w77.cell? ⟨gb196, 0, none⟩ = some (.slice Ao42 y205.length co42) := (blk_cell BK196.out 0).trans rfl
            have hcz98_1 : w77.cell? ⟨gb196, 1, none⟩ = some (.int .i64 a0_1) := (blk_cell BK196.out 1).trans rfl
            have hcz98_2 : w77.cell? ⟨gb196, 2, none⟩ = some (.bool false) := (blk_cell BK196.out 2).trans rfl
            have hcz98_3 : w77.cell? ⟨gb196, 3, none⟩ = some (.int .i64 (wrap64 (a0_3 + 1))) := (blk_cell BK196.out 3).trans rfl
            have hcz98_4 : w77.cell? ⟨gb196, 4, none⟩ = some (.slice A0_4 l0_4.length c0_4) := (blk_cell BK196.out 4).trans rfl
            have hcz98_5 : w77.cell? ⟨gb196, 5, none⟩ = some (.int .i64 a0_5) := (blk_cell BK196.out 5).trans rfl
            have hfz98_0 := blk_frozen BK196.out 0
            have hfz98_1 := blk_frozen BK196.out 1
            have hfz98_2 := blk_frozen BK196.out 2
            have hfz98_3 := blk_frozen BK196.out 3
            have hfz98_4 := blk_frozen BK196.out 4
            have hfz98_5 := blk_frozen BK196.out 5
            have hcz99_0 : w77.cell? ⟨gb197, 0, none⟩ = some (.slice none 0 0) := (blk_cell BK197.out 0).trans rfl
            have hcz99_1 : w77.cell? ⟨gb197, 1, none⟩ = some (.int .i64 0) := (blk_cell BK197.out 1).trans rfl
            have hcz99_2 : w77.cell? ⟨gb197, 2, none⟩ = some (.bool false) := (blk_cell BK197.out 2).trans rfl
            have hcz99_3 : w77.cell? ⟨gb197, 3, none⟩ = some (.int .i64 0) := (blk_cell BK197.out 3).trans rfl
            have hcz99_4 : w77.cell? ⟨gb197, 4, none⟩ = some (.slice none 0 0) := (blk_cell BK197.out 4).trans rfl
            have hcz99_5 : w77.cell? ⟨gb197, 5, none⟩ = some (.int .i64 0) := (blk_cell BK197.out 5).trans rfl
            have hfz99_0 := blk_frozen BK197.out 0
            have hfz99_1 := blk_frozen BK197.out 1
            have hfz99_2 := blk_frozen BK197.out 2
            have hfz99_3 := blk_frozen BK197.out 3
            have hfz99_4 := blk_frozen BK197.out 4
            have hfz99_5 := blk_frozen BK197.out 5
            go_wp2
            refine bodyPost_ret (results_cell_row rfl _ _ gb197 28 #[.slice Ao42 y205.length co42, .int .i64 a0_1, .bool false, .int .i64 (wrap64 (a0_3 + 1)), .slice A0_4 l0_4.length c0_4, .int .i64 t212] (0, 0) _ rfl (by (with_reducible repeat (first | refine blk_drewN ?_ _ | refine blk_drew ?_ | refine blk_alloc ?_ _)); refine blk_put (cs := #[.slice Ao42 y205.length co42, .int .i64 a0_1, .bool false, .int .i64 (wrap64 (a0_3 + 1)), .slice A0_4 l0_4.length c0_4, .int .i64 0]) ?_ 5 _ rfl; (with_reducible repeat (first | refine blk_drewN ?_ _ | refine blk_drew ?_ | refine blk_alloc ?_ _)); refine blk_put (cs := #[.slice Ao42 y205.length co42, .int .i64 a0_1, .bool false, .int .i64 (wrap64 (a0_3 + 1)), .slice none 0 0, .int .i64 0]) ?_ 4 _ rfl; (with_reducible repeat (first | refine blk_drewN ?_ _ | refine blk_drew ?_ | refine blk_alloc ?_ _)); refine blk_put (cs := #[.slice Ao42 y205.length co42, .int .i64 a0_1, .bool false, .int .i64 0, .slice none 0 0, .int .i64 0]) ?_ 3 _ rfl; (with_reducible repeat (first | refine blk_drewN ?_ _ | refine blk_drew ?_ | refine blk_alloc ?_ _)); refine blk_put (cs := #[.slice Ao42 y205.length co42, .int .i64 a0_1, .bool false, .int .i64 0, .slice none 0 0, .int .i64 0]) ?_ 2 _ rfl; (with_reducible repeat (first | refine blk_drewN ?_ _ | refine blk_drew ?_ | refine blk_alloc ?_ _)); refine blk_put (cs := #[.slice Ao42 y205.length co42, .int .i64 0, .bool false, .int .i64 0, .slice none 0 0, .int .i64 0]) ?_ 1 _ rfl; (with_reducible repeat (first | refine blk_drewN ?_ _ | refine blk_drew ?_ | refine blk_alloc ?_ _)); refine blk_put (cs := #[.slice none 0 0, .int .i64 0, .bool false, .int .i64 0, .slice none 0 0, .int .i64 0]) ?_ 0 _ rfl; (with_reducible repeat (first | refine blk_drewN ?_ _ | refine blk_drew ?_ | refine blk_alloc ?_ _)); refine blk_far ?_ NB197_196.out _; (with_reducible repeat (first | refine blk_drewN ?_ _ | refine blk_drew ?_ | refine blk_alloc ?_ _)); exact BK197.out) Try.underlying28 rfl (by kernel_rfl)) rfl ?_
            exact ⟨_, _, by first | rfl | (simp [errW_none, errW_some] <;> rfl) | (simp [*, errW_none, errW_some] <;> rfl), by (with_reducible repeat (first | apply Kd.R_alloc | apply Kd.R_drewN | apply Kd.R_drew)); exact Kd.R_mono (Kd.R_far (p := ⟨gb197, 5, none⟩) (Kd.R_far (p := ⟨gb197, 4, none⟩) (Kd.R_far (p := ⟨gb197, 3, none⟩) (Kd.R_far (p := ⟨gb197, 2, none⟩) (Kd.R_far (p := ⟨gb197, 1, none⟩) (Kd.R_far (p := ⟨gb197, 0, none⟩) (Kd.R_far (p := ⟨gb196, 5, none⟩) (Kd.R_types (Kd.R_types HO207.out BK196.out (by decide)) BK197.out (by decide)) (fun _ hk => hk.1.2) (.int .i64 t212)) (fun _ hk => hk.2) (.slice Ao42 y205.length co42)) (fun _ hk => hk.2) (.int .i64 a0_1)) (fun _ hk => hk.2) (.bool false)) (fun _ hk => hk.2) (.int .i64 (wrap64 (a0_3 + 1)))) (fun _ hk => hk.2) (.slice A0_4 l0_4.length c0_4)) (fun _ hk => hk.2) (.int .i64 t212)) (fun _ hk => hk.1.1.1.1), by (with_reducible repeat (first | apply Kd.V_alloc | apply Kd.V_drewN | apply Kd.V_drew)); exact Kd.V_mono (Kd.V_far (p := ⟨gb197, 5, none⟩) (Kd.V_far (p := ⟨gb197, 4, none⟩) (Kd.V_far (p := ⟨gb197, 3, none⟩) (Kd.V_far (p := ⟨gb197, 2, none⟩) (Kd.V_far (p := ⟨gb197, 1, none⟩) (Kd.V_far (p := ⟨gb197, 0, none⟩) (Kd.V_far (p := ⟨gb196, 5, none⟩) (Kd.V_mono (Kd.V_mono HO0_4.out (fun k_ hk => (⟨hk, hk.1.1.2.2.1⟩ : _ ∧ k_ ≠ gb196))) (fun k_ hk => (⟨hk, hk.1.1.1.2.2.2⟩ : _ ∧ k_ ≠ gb197))) (fun _ hk => hk.1.2) (.int .i64 t212)) (fun _ hk => hk.2) (.slice Ao42 y205.length co42)) (fun _ hk => hk.2) (.int .i64 a0_1)) (fun _ hk => hk.2) (.bool false)) (fun _ hk => hk.2) (.int .i64 (wrap64 (a0_3 + 1)))) (fun _ hk => hk.2) (.slice A0_4 l0_4.length c0_4)) (fun _ hk => hk.2) (.int .i64 t212)) (fun _ hk => ⟨hk.1.1.1.1.1, hk.1.1.1.2⟩), bH HB, by repeat (first | (with_reducible first | exact HK.out | apply Kept.alloc | apply Kept.drewN | apply Kept.drew | refine Kept.setCell ?_ (.inr GW196.out) _ | refine Kept.setCell ?_ (.inr GW197.out) _) | exact HK.out)⟩
        ·rw [if_neg c66] at H
         have c66b0 : (t210 == 0) = false := beq_eq_false_iff_ne.mpr c66
         have c66b1 : (t210 != 0) = true := bne_iff_ne.mpr c66
         simp only [Option.some.injEq, Prod.mk.injEq] at H
         obtain ⟨rfl, rfl, rfl, rfl, rfl, rfl⟩ := H
         have hnb100 := NB196_197.out
         have hnc100 := NB197_196.out
         have hcz101_0 : w41.cell? ⟨gb196, 0, none⟩ = some (.slice Ao4 l0_0.length co4) := (blk_cell BK196.out 0).trans rfl
         have hcz101_1 : w41.cell? ⟨gb196, 1, none⟩ = some (.int .i64 a0_1) := (blk_cell BK196.out 1).trans rfl
         have hcz101_2 : w41.cell? ⟨gb196, 2, none⟩ = some (.bool false) := (blk_cell BK196.out 2).trans rfl
         have hcz101_3 : w41.cell? ⟨gb196, 3, none⟩ = some (.int .i64 (wrap64 (a0_3 + 1))) := (blk_cell BK196.out 3).trans rfl
         have hcz101_4 : w41.cell? ⟨gb196, 4, none⟩ = some (.slice A0_4 l0_4.length c0_4) := (blk_cell BK196.out 4).trans rfl
         have hcz101_5 : w41.cell? ⟨gb196, 5, none⟩ = some (.int .i64 a0_5) := (blk_cell BK196.out 5).trans rfl
         have hfz101_0 := blk_frozen BK196.out 0
         have hfz101_1 := blk_frozen BK196.out 1
         have hfz101_2 := blk_frozen BK196.out 2
         have hfz101_3 := blk_frozen BK196.out 3
         have hfz101_4 := blk_frozen BK196.out 4
         have hfz101_5 := blk_frozen BK196.out 5
         have hcz102_0 : w41.cell? ⟨gb197, 0, none⟩ = some (.slice none 0 0) := (blk_cell BK197.out 0).trans rfl
         have hcz102_1 : w41.cell? ⟨gb197, 1, none⟩ = some (.int .i64 0) := (blk_cell BK197.out 1).trans rfl
         have hcz102_2 : w41.cell? ⟨gb197, 2, none⟩ = some (.bool false) := (blk_cell BK197.out 2).trans rfl
         have hcz102_3 : w41.cell? ⟨gb197, 3, none⟩ = some (.int .i64 0) := (blk_cell BK197.out 3).trans rfl
         have hcz102_4 : w41.cell? ⟨gb197, 4, none⟩ = some (.slice none 0 0) := (blk_cell BK197.out 4).trans rfl
         have hcz102_5 : w41.cell? ⟨gb197, 5, none⟩ = some (.int .i64 0) := (blk_cell BK197.out 5).trans rfl
         have hfz102_0 := blk_frozen BK197.out 0
         have hfz102_1 := blk_frozen BK197.out 1
         have hfz102_2 := blk_frozen BK197.out 2
         have hfz102_3 := blk_frozen BK197.out 3
         have hfz102_4 := blk_frozen BK197.out 4
         have hfz102_5 := blk_frozen BK197.out 5
         go_wp2
         refine bodyPost_ret (results_cell_row rfl _ _ gb197 28 #[.slice Ao42 y205.length co42, .int .i64 a0_1, .bool false, .int .i64 (wrap64 (a0_3 + 1)), .slice A0_4 l0_4.length c0_4, .int .i64 t210] (0, 0) _ rfl (by (with_reducible repeat (first | refine blk_drewN ?_ _ | refine blk_drew ?_ | refine blk_alloc ?_ _)); refine blk_put (cs := #[.slice Ao42 y205.length co42, .int .i64 a0_1, .bool false, .int .i64 (wrap64 (a0_3 + 1)), .slice A0_4 l0_4.length c0_4, .int .i64 0]) ?_ 5 _ rfl; (with_reducible repeat (first | refine blk_drewN ?_ _ | refine blk_drew ?_ | refine blk_alloc ?_ _)); refine blk_put (cs := #[.slice Ao42 y205.length co42, .int .i64 a0_1, .bool false, .int .i64 (wrap64 (a0_3 + 1)), .slice none 0 0, .int .i64 0]) ?_ 4 _ rfl; (with_reducible repeat (first | refine blk_drewN ?_ _ | refine blk_drew ?_ | refine blk_alloc ?_ _)); refine blk_put (cs := #[.slice Ao42 y205.length co42, .int .i64 a0_1, .bool false, .int .i64 0, .slice none 0 0, .int .i64 0]) ?_ 3 _ rfl; (with_reducible repeat (first | refine blk_drewN ?_ _ | refine blk_drew ?_ | refine blk_alloc ?_ _)); refine blk_put (cs := #[.slice Ao42 y205.length co42, .int .i64 a0_1, .bool false, .int .i64 0, .slice none 0 0, .int .i64 0]) ?_ 2 _ rfl; (with_reducible repeat (first | refine blk_drewN ?_ _ | refine blk_drew ?_ | refine blk_alloc ?_ _)); refine blk_put (cs := #[.slice Ao42 y205.length co42, .int .i64 0, .bool false, .int .i64 0, .slice none 0 0, .int .i64 0]) ?_ 1 _ rfl; (with_reducible repeat (first | refine blk_drewN ?_ _ | refine blk_drew ?_ | refine blk_alloc ?_ _)); refine blk_put (cs := #[.slice none 0 0, .int .i64 0, .bool false, .int .i64 0, .slice none 0 0, .int .i64 0]) ?_ 0 _ rfl; (with_reducible repeat (first | refine blk_drewN ?_ _ | refine blk_drew ?_ | refine blk_alloc ?_ _)); refine blk_far ?_ NB197_196.out _; (with_reducible repeat (first | refine blk_drewN ?_ _ | refine blk_drew ?_ | refine blk_alloc ?_ _)); refine blk_far ?_ NB197_196.out _; (with_reducible repeat (first | refine blk_drewN ?_ _ | refine blk_drew ?_ | refine blk_alloc ?_ _)); exact BK197.out) Try.underlying28 rfl (by kernel_rfl)) rfl ?_
         exact ⟨_, _, by first | rfl | (simp [errW_none, errW_some] <;> rfl) | (simp [*, errW_none, errW_some] <;> rfl), by (with_reducible repeat (first | apply Kd.R_alloc | apply Kd.R_drewN | apply Kd.R_drew)); exact Kd.R_mono (Kd.R_far (p := ⟨gb197, 5, none⟩) (Kd.R_far (p := ⟨gb197, 4, none⟩) (Kd.R_far (p := ⟨gb197, 3, none⟩) (Kd.R_far (p := ⟨gb197, 2, none⟩) (Kd.R_far (p := ⟨gb197, 1, none⟩) (Kd.R_far (p := ⟨gb197, 0, none⟩) (Kd.R_far (p := ⟨gb196, 5, none⟩) (Kd.R_far (p := ⟨gb196, 0, none⟩) (Kd.R_types (Kd.R_types HO207.out BK196.out (by decide)) BK197.out (by decide)) (fun _ hk => hk.1.2) (.slice Ao42 y205.length co42)) (fun _ hk => hk.1.2) (.int .i64 t210)) (fun _ hk => hk.2) (.slice Ao42 y205.length co42)) (fun _ hk => hk.2) (.int .i64 a0_1)) (fun _ hk => hk.2) (.bool false)) (fun _ hk => hk.2) (.int .i64 (wrap64 (a0_3 + 1)))) (fun _ hk => hk.2) (.slice A0_4 l0_4.length c0_4)) (fun _ hk => hk.2) (.int .i64 t210)) (fun _ hk => hk.1.1.1), by (with_reducible repeat (first | apply Kd.V_alloc | apply Kd.V_drewN | apply Kd.V_drew)); exact Kd.V_mono (Kd.V_far (p := ⟨gb197, 5, none⟩) (Kd.V_far (p := ⟨gb197, 4, none⟩) (Kd.V_far (p := ⟨gb197, 3, none⟩) (Kd.V_far (p := ⟨gb197, 2, none⟩) (Kd.V_far (p := ⟨gb197, 1, none⟩) (Kd.V_far (p := ⟨gb197, 0, none⟩) (Kd.V_far (p := ⟨gb196, 5, none⟩) (Kd.V_far (p := ⟨gb196, 0, none⟩) (Kd.V_mono (Kd.V_mono HO0_4.out (fun k_ hk => (⟨hk, hk.1.2.2.1⟩ : _ ∧ k_ ≠ gb196))) (fun k_ hk => (⟨hk, hk.1.1.2.2.2⟩ : _ ∧ k_ ≠ gb197))) (fun _ hk => hk.1.2) (.slice Ao42 y205.length co42)) (fun _ hk => hk.1.2) (.int .i64 t210)) (fun _ hk => hk.2) (.slice Ao42 y205.length co42)) (fun _ hk => hk.2) (.int .i64 a0_1)) (fun _ hk => hk.2) (.bool false)) (fun _ hk => hk.2) (.int .i64 (wrap64 (a0_3 + 1)))) (fun _ hk => hk.2) (.slice A0_4 l0_4.length c0_4)) (fun _ hk => hk.2) (.int .i64 t210)) (fun _ hk => ⟨hk.1.1.1.1, hk.1.1.2⟩), bH HB, by repeat (first | (with_reducible first | exact HK.out | apply Kept.alloc | apply Kept.drewN | apply Kept.drew | refine Kept.setCell ?_ (.inr GW196.out) _ | refine Kept.setCell ?_ (.inr GW197.out) _) | exact HK.out)⟩
     ·rw [if_neg c36] at H
      exact absurd H (by simp)
    ·rw [if_neg c35] at H
     exact absurd H (by simp)
 ·rw [if_neg c9] at H
  have c9b0 : (a0_5 == 0) = false := beq_eq_false_iff_ne.mpr c9
  have c9b1 : (a0_5 != 0) = true := bne_iff_ne.mpr c9
  (first | rw [c9b0] | (simp only [i64_w, i32_w]; rw [c9b0]) | skip)
  simp only [Option.some.injEq, Prod.mk.injEq] at H
  obtain ⟨rfl, rfl, rfl, rfl, rfl, rfl⟩ := H
  have hnb103 := NB196_197.out
  have hnc103 := NB197_196.out
  have hcz104_0 : w6.cell? ⟨gb196, 0, none⟩ = some (.slice Ao4 l0_0.length co4) := (blk_cell BK196.out 0).trans rfl
  have hcz104_1 : w6.cell? ⟨gb196, 1, none⟩ = some (.int .i64 a0_1) := (blk_cell BK196.out 1).trans rfl
  have hcz104_2 : w6.cell? ⟨gb196, 2, none⟩ = some (.bool a0_2) := (blk_cell BK196.out 2).trans rfl
  have hcz104_3 : w6.cell? ⟨gb196, 3, none⟩ = some (.int .i64 a0_3) := (blk_cell BK196.out 3).trans rfl
  have hcz104_4 : w6.cell? ⟨gb196, 4, none⟩ = some (.slice A0_4 l0_4.length c0_4) := (blk_cell BK196.out 4).trans rfl
  have hcz104_5 : w6.cell? ⟨gb196, 5, none⟩ = some (.int .i64 a0_5) := (blk_cell BK196.out 5).trans rfl
  have hfz104_0 := blk_frozen BK196.out 0
  have hfz104_1 := blk_frozen BK196.out 1
  have hfz104_2 := blk_frozen BK196.out 2
  have hfz104_3 := blk_frozen BK196.out 3
  have hfz104_4 := blk_frozen BK196.out 4
  have hfz104_5 := blk_frozen BK196.out 5
  have hcz105_0 : w6.cell? ⟨gb197, 0, none⟩ = some (.slice none 0 0) := (blk_cell BK197.out 0).trans rfl
  have hcz105_1 : w6.cell? ⟨gb197, 1, none⟩ = some (.int .i64 0) := (blk_cell BK197.out 1).trans rfl
  have hcz105_2 : w6.cell? ⟨gb197, 2, none⟩ = some (.bool false) := (blk_cell BK197.out 2).trans rfl
  have hcz105_3 : w6.cell? ⟨gb197, 3, none⟩ = some (.int .i64 0) := (blk_cell BK197.out 3).trans rfl
  have hcz105_4 : w6.cell? ⟨gb197, 4, none⟩ = some (.slice none 0 0) := (blk_cell BK197.out 4).trans rfl
  have hcz105_5 : w6.cell? ⟨gb197, 5, none⟩ = some (.int .i64 0) := (blk_cell BK197.out 5).trans rfl
  have hfz105_0 := blk_frozen BK197.out 0
  have hfz105_1 := blk_frozen BK197.out 1
  have hfz105_2 := blk_frozen BK197.out 2
  have hfz105_3 := blk_frozen BK197.out 3
  have hfz105_4 := blk_frozen BK197.out 4
  have hfz105_5 := blk_frozen BK197.out 5
  go_wp2
  refine bodyPost_ret (results_cell_row rfl _ _ gb197 28 #[.slice Ao4 l0_0.length co4, .int .i64 a0_1, .bool a0_2, .int .i64 a0_3, .slice A0_4 l0_4.length c0_4, .int .i64 a0_5] (0, 0) _ rfl (by (with_reducible repeat (first | refine blk_drewN ?_ _ | refine blk_drew ?_ | refine blk_alloc ?_ _)); refine blk_put (cs := #[.slice Ao4 l0_0.length co4, .int .i64 a0_1, .bool a0_2, .int .i64 a0_3, .slice A0_4 l0_4.length c0_4, .int .i64 0]) ?_ 5 _ rfl; (with_reducible repeat (first | refine blk_drewN ?_ _ | refine blk_drew ?_ | refine blk_alloc ?_ _)); refine blk_put (cs := #[.slice Ao4 l0_0.length co4, .int .i64 a0_1, .bool a0_2, .int .i64 a0_3, .slice none 0 0, .int .i64 0]) ?_ 4 _ rfl; (with_reducible repeat (first | refine blk_drewN ?_ _ | refine blk_drew ?_ | refine blk_alloc ?_ _)); refine blk_put (cs := #[.slice Ao4 l0_0.length co4, .int .i64 a0_1, .bool a0_2, .int .i64 0, .slice none 0 0, .int .i64 0]) ?_ 3 _ rfl; (with_reducible repeat (first | refine blk_drewN ?_ _ | refine blk_drew ?_ | refine blk_alloc ?_ _)); refine blk_put (cs := #[.slice Ao4 l0_0.length co4, .int .i64 a0_1, .bool false, .int .i64 0, .slice none 0 0, .int .i64 0]) ?_ 2 _ rfl; (with_reducible repeat (first | refine blk_drewN ?_ _ | refine blk_drew ?_ | refine blk_alloc ?_ _)); refine blk_put (cs := #[.slice Ao4 l0_0.length co4, .int .i64 0, .bool false, .int .i64 0, .slice none 0 0, .int .i64 0]) ?_ 1 _ rfl; (with_reducible repeat (first | refine blk_drewN ?_ _ | refine blk_drew ?_ | refine blk_alloc ?_ _)); refine blk_put (cs := #[.slice none 0 0, .int .i64 0, .bool false, .int .i64 0, .slice none 0 0, .int .i64 0]) ?_ 0 _ rfl; (with_reducible repeat (first | refine blk_drewN ?_ _ | refine blk_drew ?_ | refine blk_alloc ?_ _)); exact BK197.out) Try.underlying28 rfl (by kernel_rfl)) rfl ?_
  exact ⟨_, _, by first | rfl | (simp [errW_none, errW_some] <;> rfl) | (simp [*, errW_none, errW_some] <;> rfl), by (with_reducible repeat (first | apply Kd.R_alloc | apply Kd.R_drewN | apply Kd.R_drew)); exact Kd.R_mono (Kd.R_far (p := ⟨gb197, 5, none⟩) (Kd.R_far (p := ⟨gb197, 4, none⟩) (Kd.R_far (p := ⟨gb197, 3, none⟩) (Kd.R_far (p := ⟨gb197, 2, none⟩) (Kd.R_far (p := ⟨gb197, 1, none⟩) (Kd.R_far (p := ⟨gb197, 0, none⟩) (Kd.R_types HO0_0.out BK197.out (by decide)) (fun _ hk => hk.2) (.slice Ao4 l0_0.length co4)) (fun _ hk => hk.2) (.int .i64 a0_1)) (fun _ hk => hk.2) (.bool a0_2)) (fun _ hk => hk.2) (.int .i64 a0_3)) (fun _ hk => hk.2) (.slice A0_4 l0_4.length c0_4)) (fun _ hk => hk.2) (.int .i64 a0_5)) (fun _ hk => hk.1), by (with_reducible repeat (first | apply Kd.V_alloc | apply Kd.V_drewN | apply Kd.V_drew)); exact Kd.V_mono (Kd.V_far (p := ⟨gb197, 5, none⟩) (Kd.V_far (p := ⟨gb197, 4, none⟩) (Kd.V_far (p := ⟨gb197, 3, none⟩) (Kd.V_far (p := ⟨gb197, 2, none⟩) (Kd.V_far (p := ⟨gb197, 1, none⟩) (Kd.V_far (p := ⟨gb197, 0, none⟩) (Kd.V_mono HO0_4.out (fun k_ hk => (⟨hk, hk.2⟩ : _ ∧ k_ ≠ gb197))) (fun _ hk => hk.2) (.slice Ao4 l0_0.length co4)) (fun _ hk => hk.2) (.int .i64 a0_1)) (fun _ hk => hk.2) (.bool a0_2)) (fun _ hk => hk.2) (.int .i64 a0_3)) (fun _ hk => hk.2) (.slice A0_4 l0_4.length c0_4)) (fun _ hk => hk.2) (.int .i64 a0_5)) (fun _ hk => ⟨hk.1.1.1.1, hk.1.1.1.2⟩), bH HB, by repeat (first | (with_reducible first | exact HK.out | apply Kept.alloc | apply Kept.drewN | apply Kept.drew | refine Kept.setCell ?_ (.inr GW196.out) _ | refine Kept.setCell ?_ (.inr GW197.out) _) | exact HK.out)⟩

end Go.Proofs.Ytglmfnaofpbpfaa.P
