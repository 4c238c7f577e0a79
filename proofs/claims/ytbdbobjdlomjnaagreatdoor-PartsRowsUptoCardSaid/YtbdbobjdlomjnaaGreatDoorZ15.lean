/- Written for this claim by a program of this session (a turned copy of the print): Go functions as Lean functions, and that the Go code comes to just these answers; or a statement proved out of them. No condition. -/
import Derived.Test.YtbdbobjdlomjnaaGreatDoorZ2
import Derived.Test.YtbdbobjdlomjnaaGreatDoorZ12
import Derived.Test.YtbdbobjdlomjnaaGreatDoorZ13
import Derived.Test.YtbdbobjdlomjnaaGreatDoorZ14

namespace Go.Proofs.YtbdbobjdlomjnaaGreatDoor.P
open Go.RowKit Go.Proofs.YtbdbobjdlomjnaaGreatDoorW.PrintWords Go.Proofs.YtbdbobjdlomjnaaGreatDoorW.PrintLast Go.Proofs.YtbdbobjdlomjnaaGreatDoorW.PrintMore Go.Proofs.YtbdbobjdlomjnaaGreatDoor.X
attribute [local go_sem] max2_int min2_int max_two min_two max_three min_three max_four min_four add64_0 add64_1 add64
set_option linter.unusedVariables false
set_option linter.unusedSimpArgs false
def rf06_Step.l0 : Nat → List (List Int) → List Int → Int → Int → Int → Option ((List (List Int)) × List Int × Int × Bool)
 | 0, _, _, _, _, _ => none
 | k + 1, x230000, x230001, x230002, x231000, x231001 => if x230002 < 16777216 then (if x230001.length < 17592186044416 then (rf06_Step.l0 k x230000 (x230001 ++ [0]) (wrap64 (x230002 * 256)) x231000 x231001) else (none)) else (if x231000 ≥ 0 then (if ([] : List (List Int)).length + x230000.length < 5864062014805 then ((some (([] : List (List Int)) ++ x230000 : List (List Int))).bind fun y241 => (if 0 ≤ x231000 then (if x231000 < (y241.length : Int) then ((rf05_Count.f k (rd_L4 y241 x231000) x231001).bind fun t245 => (some ((y241.set (x231000 : Int).toNat t245), x230001, x230002, true))) else (none)) else (none))) else (none)) else (some (x230000, x230001, x230002, true)))
def rf06_Step.f (k : Nat) (l0_0 : List (List Int)) (l0_1 : List Int) (a0_2 : Int) (a1_0 : Int) (a1_1 : Int) : Option ((List (List Int)) × List Int × Int × Bool) := (rf06_share.f k l0_0 l0_1 a0_2 a1_0 a1_1).bind fun bt232 => (if bt232.2 = 0 then (some (l0_0, l0_1, a0_2, false)) else ((rf06_whole.f k l0_0 l0_1 a0_2 a1_0).bind fun t234 => (if t234 = 0 then (none) else ((rf06_add.f k l0_1 (wrap64 ((wrap64 (Int.tdiv a0_2 t234)) * bt232.1))).bind fun t235 => (rf06_Step.l0 k l0_0 t235 (wrap64 ((wrap64 (Int.tdiv a0_2 t234)) * bt232.2)) a1_0 a1_1)))))
theorem rf06_Step.mono_l : ∀ k, (∀ y0 y1 y2 y3 y4, LeO (rf06_Step.l0 k y0 y1 y2 y3 y4) (rf06_Step.l0 (k + 1) y0 y1 y2 y3 y4))
 | 0 => fun _ _ _ _ _ r h => by simp [rf06_Step.l0] at h
 | k + 1 => by
  have ih0 := rf06_Step.mono_l k
  ·intro y0 y1 y2 y3 y4
   unfold rf06_Step.l0
   repeat' first
   | (with_reducible exact ih0 _ _ _ _ _)
   | (with_reducible exact rf05_Count.mono _ _ _)
   | (with_reducible exact rf06_add.mono _ _ _)
   | (with_reducible exact rf06_share.mono _ _ _ _ _ _)
   | (with_reducible exact rf06_whole.mono _ _ _ _ _)
   | (with_reducible exact LeO.refl _)
   | (with_reducible exact LeO.none _)
   | (with_reducible refine LeO.ite ?_ ?_)
   | (with_reducible refine LeO.bind ?_ (fun _ => ?_))
   | exact ih0 _ _ _ _ _
   | exact rf05_Count.mono _ _ _
   | exact rf06_add.mono _ _ _
   | exact rf06_share.mono _ _ _ _ _ _
   | exact rf06_whole.mono _ _ _ _ _
   | exact LeO.none _
   | refine LeO.ite ?_ ?_
   | refine LeO.bind ?_ (fun _ => ?_)
theorem rf06_Step.mono : ∀ a0 a1 a2 a3 a4 k, LeO (rf06_Step.f k a0 a1 a2 a3 a4) (rf06_Step.f (k + 1) a0 a1 a2 a3 a4) := by
 intro a0 a1 a2 a3 a4 k
 have ih0 := rf06_Step.mono_l k
 unfold rf06_Step.f
 repeat' first
   | (with_reducible exact ih0 _ _ _ _ _)
   | (with_reducible exact rf05_Count.mono _ _ _)
   | (with_reducible exact rf06_add.mono _ _ _)
   | (with_reducible exact rf06_share.mono _ _ _ _ _ _)
   | (with_reducible exact rf06_whole.mono _ _ _ _ _)
   | (with_reducible exact LeO.refl _)
   | (with_reducible exact LeO.none _)
   | (with_reducible refine LeO.ite ?_ ?_)
   | (with_reducible refine LeO.bind ?_ (fun _ => ?_))
   | exact ih0 _ _ _ _ _
   | exact rf05_Count.mono _ _ _
   | exact rf06_add.mono _ _ _
   | exact rf06_share.mono _ _ _ _ _ _
   | exact rf06_whole.mono _ _ _ _ _
   | exact LeO.none _
   | refine LeO.ite ?_ ?_
   | refine LeO.bind ?_ (fun _ => ?_)
def rf06_Step.T4 : Bool × List (List Nat × List Nat) := (true, [([], []), ([0], [0]), ([], []), ([], []), ([3], [3]), ([2, 4], [2, 4]), ([1, 5], [1, 5]), ([6, 5, 0, 1, 2, 3, 4, 5, 6], [6])])
def rf06_Step.B4 : List Nat := [0, 1, 0, 0, 8, 28, 63, 127]
theorem rf06_Step.tab4 : rtab .any (opsOf Tryz.f107 4) = rf06_Step.T4 := by kernel_rfl
theorem rf06_Step.bits4 : waitsOk rf06_Step.T4.2 rf06_Step.B4 = true := by kernel_rfl
def rf06_Step.T13 : Bool × List (List Nat × List Nat) := (true, [([], []), ([], []), ([1], [1]), ([], []), ([], []), ([4], [4]), ([3, 5], [3, 5]), ([6], [6]), ([], []), ([8], [8]), ([7, 9], [7, 9]), ([0, 2, 0, 1, 2, 3, 4, 5, 6, 7, 8, 9, 10], [0, 2]), ([11, 10, 10, 0, 1, 2, 3, 4, 5, 6, 7, 8, 9, 10], [10, 11])])
def rf06_Step.B13 : List Nat := [0, 0, 2, 0, 0, 16, 56, 120, 0, 256, 1016, 2047, 4095]
theorem rf06_Step.tab13 : rtab .any (opsOf Tryz.f107 13) = rf06_Step.T13 := by kernel_rfl
theorem rf06_Step.bits13 : waitsOk rf06_Step.T13.2 rf06_Step.B13 = true := by kernel_rfl
set_option maxHeartbeats 8000000 in
set_option maxRecDepth 100000 in
theorem rf06_Step.calls (k : Nat) (P0_0_ : Nat → Prop) (A0_0 : Option Addr) (c0_0 : Nat) (l0_0 : List (List Int)) (P0_1_ : Nat → Prop) (u9000_ : Value) (l0_1 : List Int) (a0_2 : Int) (a1_0 : Int) (a1_1 : Int) (r1 : List (List Int)) (r2 : List Int) (r3 : Int) (r4 : Bool) (w0 w : World) (hB : Below w0.heap.size w0 w) (hs0_0 : Kd.V (Kd.slice 3 (Kd.int .i64)) 83 w w0.heap.size (fun k_ => P0_0_ k_ ∧ some k_ ≠ (u9000_ : Value).ownBlock) (.slice A0_0 l0_0.length c0_0) l0_0) (ho0_1 : Kd.R (Kd.int .i64) 3 w w0.heap.size P0_1_ u9000_ l0_1) (h : rf06_Step.f k l0_0 l0_1 a0_2 a1_0 a1_1 = some (r1, r2, r3, r4)) :
  Calls Tryz.prog 107 #[.agg #[.slice A0_0 l0_0.length c0_0, u9000_, .int .i64 a0_2], .agg #[.int .i64 a1_0, .int .i64 a1_1]] w fun e w' => ∃ v0_ v1_ : Value, e = .returned (.tuple #[.agg #[v0_, v1_, .int .i64 r3], .bool r4]) ∧ Kd.V (Kd.slice 3 (Kd.int .i64)) 83 w' w0.heap.size (fun k_ => ((P0_1_ k_ ∨ P0_0_ k_) ∨ w.heap.size ≤ k_) ∧ some k_ ≠ (v1_ : Value).ownBlock) v0_ r1 ∧ Kd.R (Kd.int .i64) 3 w' w0.heap.size (fun k_ => (P0_1_ k_ ∨ w.heap.size ≤ k_)) v1_ r2 ∧ Below w0.heap.size w0 w' ∧ Kept w w' (fun k_ => P0_1_ k_) := by
 have hu184 := Tryz.underlying184
 have hu122 := Tryz.underlying122
 have HO0_0 := Aside0.mk (show Kd.V (Kd.slice 3 (Kd.int .i64)) 83 w w0.heap.size (fun k_ => ((P0_1_ k_ ∨ P0_0_ k_) ∨ w.heap.size ≤ k_) ∧ some k_ ≠ (u9000_ : Value).ownBlock) (.slice A0_0 l0_0.length c0_0) l0_0 from Kd.V_mono hs0_0 (fun k_ hk => ⟨.inl (.inr hk.1), hk.2⟩))
 have HO0_1 := Aside0.mk (show Kd.R (Kd.int .i64) 3 w w0.heap.size (fun k_ => (P0_1_ k_ ∨ w.heap.size ≤ k_)) u9000_ l0_1 from Kd.R_mono ho0_1 (fun k_ hk => (.inl hk)))
 have HK := Aside0.mk (Kept.refl w (fun k_ => P0_1_ k_))
 have HW0 := Aside0.mk hB.size
 have HB := Aside0.mk hB
 clear hB
 have H : ((rf06_share.f k l0_0 l0_1 a0_2 a1_0 a1_1).bind fun bt232 => (if bt232.2 = 0 then (some (l0_0, l0_1, a0_2, false)) else ((rf06_whole.f k l0_0 l0_1 a0_2 a1_0).bind fun t234 => (if t234 = 0 then (none) else ((rf06_add.f k l0_1 (wrap64 ((wrap64 (Int.tdiv a0_2 t234)) * bt232.1))).bind fun t235 => (rf06_Step.l0 k l0_0 t235 (wrap64 ((wrap64 (Int.tdiv a0_2 t234)) * bt232.2)) a1_0 a1_1)))))) = some (r1, r2, r3, r4) := h
 clear h
 replace H := Option.bind_eq_some_iff.mp H
 obtain ⟨⟨t232, t233⟩, A30, H⟩ := H
 replace H : (if t233 = 0 then (some (l0_0, l0_1, a0_2, false)) else ((rf06_whole.f k l0_0 l0_1 a0_2 a1_0).bind fun t234 => (if t234 = 0 then (none) else ((rf06_add.f k l0_1 (wrap64 ((wrap64 (Int.tdiv a0_2 t234)) * t232))).bind fun t235 => (rf06_Step.l0 k l0_0 t235 (wrap64 ((wrap64 (Int.tdiv a0_2 t234)) * t233)) a1_0 a1_1))))) = some (r1, r2, r3, r4) := H
 have A3 := Aside0.mk A30
 clear A30
 have HC4 := Aside0.mk H
 clear H
 obtain ⟨Ao5, co5, eo5⟩ := Kd.R_slice HO0_1.out
 subst eo5
 go_enter Tryz.func107, Tryz.ntmps107
 go_upto_if 17 with (first | ((with_reducible refine gate_dst (N := 2) rfl ?_); refine box_event ?hg (N := 2) ?hd (cs := #[.slice A0_0 l0_0.length c0_0, .slice Ao5 l0_1.length co5, .int .i64 a0_2]) (t := 184) ?hr ?_; (case hd => rfl); (case hg => rfl); (case hr => first | (go_simp; done) | (go_simp; rfl)); intro gb229 hg w6 hbox hb; have n0_ := Aside0.mk (Kd.R_below (rK HO0_1) hb); have n1_ := Aside0.mk (Kd.V_below (Kd.V_elderB (by (with_reducible repeat (first | apply Kd.V_alloc | apply Kd.V_drewN | apply Kd.V_drew)); exact HO0_0.out) gb229 (Nat.le_of_eq hg.symm)) hb); have n2_ := Aside0.mk (Kept.below (S := (fun k_ => P0_1_ k_)) (by repeat (first | (with_reducible first | exact HK.out | apply Kept.alloc | apply Kept.drewN | apply Kept.drew) | exact HK.out)) hb); have n3_ := Aside0.mk (below_step (bH HB) hb); have n4_ := Aside0.mk (hbox); have n5_ := Aside0.mk ((by rw [hg]; exact (by first | exact HK.out.1 | exact (show Kept w _ (fun k_ => P0_1_ k_) from by repeat (first | (with_reducible first | exact HK.out | apply Kept.alloc | apply Kept.drewN | apply Kept.drew) | exact HK.out)).1) : w.heap.size ≤ gb229)); have n6_ := Aside0.mk ((by rw [hg]; exact (below_size (bH HB)) : w0.heap.size ≤ gb229)); clear HO0_1; clear HO0_0; clear HK; clear HB; have HO0_1 := n0_; have HO0_0 := n1_; have HK := n2_; have HB := n3_; have BK229 := n4_; have GW229 := n5_; have GE229 := n6_; clear n0_ n1_ n2_ n3_ n4_ n5_ n6_; clear hb hbox hg) | ((with_reducible refine gate_dst (N := 3) rfl ?_); refine box_event ?hg (N := 3) ?hd (cs := #[.int .i64 a1_0, .int .i64 a1_1]) (t := 122) ?hr ?_; (case hd => rfl); (case hg => rfl); (case hr => first | (go_simp; done) | (go_simp; rfl)); intro gb230 hg w7 hbox hb; have n0_ := Aside0.mk (Kd.R_below (rK HO0_1) hb); have n1_ := Aside0.mk (Kd.V_below (Kd.V_elderB (by (with_reducible repeat (first | apply Kd.V_alloc | apply Kd.V_drewN | apply Kd.V_drew)); exact HO0_0.out) gb230 (Nat.le_of_eq hg.symm)) hb); have n2_ := Aside0.mk (blk_below (g := gb229) (o := .cells #[.slice A0_0 l0_0.length c0_0, .slice Ao5 l0_1.length co5, .int .i64 a0_2] 184 (0, 0)) (bK BK229) hb); have n3_ := Aside0.mk (Kept.below (S := (fun k_ => P0_1_ k_)) (by repeat (first | (with_reducible first | exact HK.out | apply Kept.alloc | apply Kept.drewN | apply Kept.drew | refine Kept.setCell ?_ (.inr GW229.out) _) | exact HK.out)) hb); have n4_ := Aside0.mk (below_step (bH HB) hb); have n5_ := Aside0.mk (hbox); have n6_ := Aside0.mk ((by rw [hg]; exact (by first | exact HK.out.1 | exact (show Kept w _ (fun k_ => P0_1_ k_) from by repeat (first | (with_reducible first | exact HK.out | apply Kept.alloc | apply Kept.drewN | apply Kept.drew | refine Kept.setCell ?_ (.inr GW229.out) _) | exact HK.out)).1) : w.heap.size ≤ gb230)); have n7_ := Aside0.mk ((by rw [hg]; exact (below_size (bH HB)) : w0.heap.size ≤ gb230)); have n8_ := Aside0.mk ((by rw [hg]; exact Nat.ne_of_lt (blk_lt (bK BK229)) : gb229 ≠ gb230)); have n9_ := Aside0.mk ((by rw [hg]; exact Nat.ne_of_gt (blk_lt (bK BK229)) : gb230 ≠ gb229)); clear HO0_1; clear HO0_0; clear BK229; clear HK; clear HB; have HO0_1 := n0_; have HO0_0 := n1_; have BK229 := n2_; have HK := n3_; have HB := n4_; have BK230 := n5_; have GW230 := n6_; have GE230 := n7_; have NB229_230 := n8_; have NB230_229 := n9_; clear n0_ n1_ n2_ n3_ n4_ n5_ n6_ n7_ n8_ n9_; clear hb hbox hg) | ((with_reducible refine gate_dst (N := 4) rfl ?_); refine box_event ?hg (N := 4) ?hd (cs := #[.slice none 0 0, .slice none 0 0, .int .i64 0]) (t := 184) ?hr ?_; (case hd => rfl); (case hg => rfl); (case hr => first | (go_simp; done) | (go_simp; rfl)); intro gb231 hg w8 hbox hb; have n0_ := Aside0.mk (Kd.R_below (rK HO0_1) hb); have n1_ := Aside0.mk (Kd.V_below (Kd.V_elderB (by (with_reducible repeat (first | apply Kd.V_alloc | apply Kd.V_drewN | apply Kd.V_drew)); exact HO0_0.out) gb231 (Nat.le_of_eq hg.symm)) hb); have n2_ := Aside0.mk (blk_below (g := gb229) (o := .cells #[.slice A0_0 l0_0.length c0_0, .slice Ao5 l0_1.length co5, .int .i64 a0_2] 184 (0, 0)) (bK BK229) hb); have n3_ := Aside0.mk (blk_below (g := gb230) (o := .cells #[.int .i64 a1_0, .int .i64 a1_1] 122 (0, 0)) (bK BK230) hb); have n4_ := Aside0.mk (Kept.below (S := (fun k_ => P0_1_ k_)) (by repeat (first | (with_reducible first | exact HK.out | apply Kept.alloc | apply Kept.drewN | apply Kept.drew | refine Kept.setCell ?_ (.inr GW229.out) _ | refine Kept.setCell ?_ (.inr GW230.out) _) | exact HK.out)) hb); have n5_ := Aside0.mk (below_step (bH HB) hb); have n6_ := Aside0.mk (hbox); have n7_ := Aside0.mk ((by rw [hg]; exact (by first | exact HK.out.1 | exact (show Kept w _ (fun k_ => P0_1_ k_) from by repeat (first | (with_reducible first | exact HK.out | apply Kept.alloc | apply Kept.drewN | apply Kept.drew | refine Kept.setCell ?_ (.inr GW229.out) _ | refine Kept.setCell ?_ (.inr GW230.out) _) | exact HK.out)).1) : w.heap.size ≤ gb231)); have n8_ := Aside0.mk ((by rw [hg]; exact (below_size (bH HB)) : w0.heap.size ≤ gb231)); have n9_ := Aside0.mk ((by rw [hg]; exact Nat.ne_of_lt (blk_lt (bK BK229)) : gb229 ≠ gb231)); have n10_ := Aside0.mk ((by rw [hg]; exact Nat.ne_of_gt (blk_lt (bK BK229)) : gb231 ≠ gb229)); have n11_ := Aside0.mk ((by rw [hg]; exact Nat.ne_of_lt (blk_lt (bK BK230)) : gb230 ≠ gb231)); have n12_ := Aside0.mk ((by rw [hg]; exact Nat.ne_of_gt (blk_lt (bK BK230)) : gb231 ≠ gb230)); clear HO0_1; clear HO0_0; clear BK229; clear BK230; clear HK; clear HB; have HO0_1 := n0_; have HO0_0 := n1_; have BK229 := n2_; have BK230 := n3_; have HK := n4_; have HB := n5_; have BK231 := n6_; have GW231 := n7_; have GE231 := n8_; have NB229_231 := n9_; have NB231_229 := n10_; have NB230_231 := n11_; have NB231_230 := n12_; clear n0_ n1_ n2_ n3_ n4_ n5_ n6_ n7_ n8_ n9_ n10_ n11_ n12_; clear hb hbox hg; have hnb9 := NB229_230.out; have hnc9 := NB230_229.out; have hnb10 := NB229_231.out; have hnc10 := NB231_229.out; have hcz11_0 : w8.cell? ⟨gb229, 0, none⟩ = some (.slice A0_0 l0_0.length c0_0) := (blk_cell BK229.out 0).trans rfl; have hcz11_1 : w8.cell? ⟨gb229, 1, none⟩ = some (.slice Ao5 l0_1.length co5) := (blk_cell BK229.out 1).trans rfl; have hcz11_2 : w8.cell? ⟨gb229, 2, none⟩ = some (.int .i64 a0_2) := (blk_cell BK229.out 2).trans rfl; have hfz11_0 := blk_frozen BK229.out 0; have hfz11_1 := blk_frozen BK229.out 1; have hfz11_2 := blk_frozen BK229.out 2; have hnb12 := NB230_231.out; have hnc12 := NB231_230.out; have hcz13_0 : w8.cell? ⟨gb230, 0, none⟩ = some (.int .i64 a1_0) := (blk_cell BK230.out 0).trans rfl; have hcz13_1 : w8.cell? ⟨gb230, 1, none⟩ = some (.int .i64 a1_1) := (blk_cell BK230.out 1).trans rfl; have hfz13_0 := blk_frozen BK230.out 0; have hfz13_1 := blk_frozen BK230.out 1) | ((with_reducible refine gate_callee (f := 162) rfl ?_); refine goesL_ (some 13) rfl rfl Tryz.func162 (by kernel_rfl) rfl #[.agg #[.slice A0_0 l0_0.length c0_0, .slice Ao5 l0_1.length co5, .int .i64 a0_2], .agg #[.int .i64 a1_0, .int .i64 a1_1]] rfl (by (try simp only [List.map_toArray, List.map_cons, List.map_nil]); first | done | rfl | (simp only [List.length_drop, List.length_take]; rfl)) ?_; (with_reducible refine (rf06_share.calls k _ _ l0_0 _ _ l0_1 a0_2 a1_0 a1_1 t232 t233 _ ?side1 ?side2 ?side3 ?side4 A3.out).mono ?_); (case side1 => repeat (first | exact (Kd.V_reads' HO0_0.out).2.2 | (with_reducible refine Kd.C_alloc ?_ _) | (with_reducible refine Kd.C_drewN ?_ _) | (with_reducible refine Kd.C_drew ?_))); (case side2 => exact (Kd.V_reads' HO0_0.out).2.1); (case side3 => repeat (first | exact (Kd.R_reads' HO0_1.out).2.2 | (with_reducible refine Kd.C_alloc ?_ _) | (with_reducible refine Kd.C_drewN ?_ _) | (with_reducible refine Kd.C_drew ?_))); (case side4 => exact (Kd.R_reads' HO0_1.out).2.1); rintro e w14 ⟨rfl, hb⟩; refine ⟨_, rfl, ?_⟩; have n0_ := Aside0.mk (Kd.R_below (rK HO0_1) hb); have n1_ := Aside0.mk (Kd.V_below (by (with_reducible repeat (first | apply Kd.V_alloc | apply Kd.V_drewN | apply Kd.V_drew)); exact HO0_0.out) hb); have n2_ := Aside0.mk (blk_below (g := gb229) (o := .cells #[.slice A0_0 l0_0.length c0_0, .slice Ao5 l0_1.length co5, .int .i64 a0_2] 184 (0, 0)) (bK BK229) hb); have n3_ := Aside0.mk (blk_below (g := gb230) (o := .cells #[.int .i64 a1_0, .int .i64 a1_1] 122 (0, 0)) (bK BK230) hb); have n4_ := Aside0.mk (blk_below (g := gb231) (o := .cells #[.slice none 0 0, .slice none 0 0, .int .i64 0] 184 (0, 0)) (bK BK231) hb); have n5_ := Aside0.mk (Kept.below (S := (fun k_ => P0_1_ k_)) (by repeat (first | (with_reducible first | exact HK.out | apply Kept.alloc | apply Kept.drewN | apply Kept.drew | refine Kept.setCell ?_ (.inr GW229.out) _ | refine Kept.setCell ?_ (.inr GW230.out) _ | refine Kept.setCell ?_ (.inr GW231.out) _) | exact HK.out)) hb); have n6_ := Aside0.mk (below_step (bH HB) hb); clear HO0_1; clear HO0_0; clear BK229; clear BK230; clear BK231; clear HK; clear HB; have HO0_1 := n0_; have HO0_0 := n1_; have BK229 := n2_; have BK230 := n3_; have BK231 := n4_; have HK := n5_; have HB := n6_; clear n0_ n1_ n2_ n3_ n4_ n5_ n6_; (try clear hb); (try clear hb2); (try clear hk); (try clear hi)))
 (try simp only [Act.put, List.setIfInBounds_toArray, List.set_cons_zero, List.set_cons_succ])
 have H := HC4.out
 clear HC4
 by_cases c15 : t233 = 0
 ·rw [if_pos c15] at H
  have c15b0 : (t233 == 0) = true := beq_iff_eq.mpr c15
  have c15b1 : (t233 != 0) = false := bne_eq_false_iff_eq.mpr c15
  clear c15
  (first | rw [c15b0] | (simp only [i64_w, i32_w]; rw [c15b0]) | skip)
  simp only [Option.some.injEq, Prod.mk.injEq] at H
  obtain ⟨rfl, rfl, rfl, rfl⟩ := H
  have hnb16 := NB229_230.out
  have hnc16 := NB230_229.out
  have hnb17 := NB229_231.out
  have hnc17 := NB231_229.out
  have hcz18_0 : w14.cell? ⟨gb229, 0, none⟩ = some (.slice A0_0 l0_0.length c0_0) := (blk_cell BK229.out 0).trans rfl
  have hcz18_1 : w14.cell? ⟨gb229, 1, none⟩ = some (.slice Ao5 l0_1.length co5) := (blk_cell BK229.out 1).trans rfl
  have hcz18_2 : w14.cell? ⟨gb229, 2, none⟩ = some (.int .i64 a0_2) := (blk_cell BK229.out 2).trans rfl
  have hfz18_0 := blk_frozen BK229.out 0
  have hfz18_1 := blk_frozen BK229.out 1
  have hfz18_2 := blk_frozen BK229.out 2
  have hnb19 := NB231_230.out
  have hnc19 := NB230_231.out
  have hcz20_0 : w14.cell? ⟨gb231, 0, none⟩ = some (.slice none 0 0) := (blk_cell BK231.out 0).trans rfl
  have hcz20_1 : w14.cell? ⟨gb231, 1, none⟩ = some (.slice none 0 0) := (blk_cell BK231.out 1).trans rfl
  have hcz20_2 : w14.cell? ⟨gb231, 2, none⟩ = some (.int .i64 0) := (blk_cell BK231.out 2).trans rfl
  have hfz20_0 := blk_frozen BK231.out 0
  have hfz20_1 := blk_frozen BK231.out 1
  have hfz20_2 := blk_frozen BK231.out 2
  go_wp2
  refine bodyPost_ret (results_ct rfl _ _ gb231 184 #[.slice A0_0 l0_0.length c0_0, .slice Ao5 l0_1.length co5, .int .i64 a0_2] (0, 0) _ rfl (by (with_reducible repeat (first | refine blk_drewN ?_ _ | refine blk_drew ?_ | refine blk_alloc ?_ _)); refine blk_put (cs := #[.slice A0_0 l0_0.length c0_0, .slice Ao5 l0_1.length co5, .int .i64 0]) ?_ 2 _ rfl; (with_reducible repeat (first | refine blk_drewN ?_ _ | refine blk_drew ?_ | refine blk_alloc ?_ _)); refine blk_put (cs := #[.slice A0_0 l0_0.length c0_0, .slice none 0 0, .int .i64 0]) ?_ 1 _ rfl; (with_reducible repeat (first | refine blk_drewN ?_ _ | refine blk_drew ?_ | refine blk_alloc ?_ _)); refine blk_put (cs := #[.slice none 0 0, .slice none 0 0, .int .i64 0]) ?_ 0 _ rfl; (with_reducible repeat (first | refine blk_drewN ?_ _ | refine blk_drew ?_ | refine blk_alloc ?_ _)); exact BK231.out) Tryz.underlying184 rfl (by kernel_rfl)) rfl ?_
  exact ⟨_, _, by first | rfl | (simp [errW_none, errW_some] <;> rfl) | (simp [*, errW_none, errW_some] <;> rfl), by (with_reducible repeat (first | apply Kd.V_alloc | apply Kd.V_drewN | apply Kd.V_drew)); exact Kd.V_mono (Kd.V_far (p := ⟨gb231, 2, none⟩) (Kd.V_far (p := ⟨gb231, 1, none⟩) (Kd.V_far (p := ⟨gb231, 0, none⟩) (Kd.V_mono HO0_0.out (fun k_ hk => (⟨hk, hk.2⟩ : _ ∧ k_ ≠ gb231))) (fun _ hk => hk.2) (.slice A0_0 l0_0.length c0_0)) (fun _ hk => hk.2) (.slice Ao5 l0_1.length co5)) (fun _ hk => hk.2) (.int .i64 a0_2)) (fun _ hk => ⟨hk.1.1.1.1.1, hk.1.1.1.1.2⟩), by (with_reducible repeat (first | apply Kd.R_alloc | apply Kd.R_drewN | apply Kd.R_drew)); exact Kd.R_mono (Kd.R_far (p := ⟨gb231, 2, none⟩) (Kd.R_far (p := ⟨gb231, 1, none⟩) (Kd.R_far (p := ⟨gb231, 0, none⟩) (Kd.R_types HO0_1.out BK231.out (by decide)) (fun _ hk => hk.2) (.slice A0_0 l0_0.length c0_0)) (fun _ hk => hk.2) (.slice Ao5 l0_1.length co5)) (fun _ hk => hk.2) (.int .i64 a0_2)) (fun _ hk => hk.1), bH HB, by repeat (first | (with_reducible first | exact HK.out | apply Kept.alloc | apply Kept.drewN | apply Kept.drew | refine Kept.setCell ?_ (.inr GW229.out) _ | refine Kept.setCell ?_ (.inr GW230.out) _ | refine Kept.setCell ?_ (.inr GW231.out) _) | exact HK.out)⟩
 ·rw [if_neg c15] at H
  have c15b0 : (t233 == 0) = false := beq_eq_false_iff_ne.mpr c15
  have c15b1 : (t233 != 0) = true := bne_iff_ne.mpr c15
  (first | rw [c15b0] | (simp only [i64_w, i32_w]; rw [c15b0]) | skip)
  replace H := Option.bind_eq_some_iff.mp H
  obtain ⟨t234, A210, H⟩ := H
  replace H : (if t234 = 0 then (none) else ((rf06_add.f k l0_1 (wrap64 ((wrap64 (Int.tdiv a0_2 t234)) * t232))).bind fun t235 => (rf06_Step.l0 k l0_0 t235 (wrap64 ((wrap64 (Int.tdiv a0_2 t234)) * t233)) a1_0 a1_1))) = some (r1, r2, r3, r4) := H
  have A21 := Aside0.mk A210
  clear A210
  by_cases c22 : t234 = 0
  ·rw [if_pos c22] at H
   exact absurd H (by simp)
  ·rw [if_neg c22] at H
   have c22b0 : (t234 == 0) = false := beq_eq_false_iff_ne.mpr c22
   have c22b1 : (t234 != 0) = true := bne_iff_ne.mpr c22
   replace H := Option.bind_eq_some_iff.mp H
   obtain ⟨t235, A230, H⟩ := H
   replace H : (rf06_Step.l0 k l0_0 t235 (wrap64 ((wrap64 (Int.tdiv a0_2 t234)) * t233)) a1_0 a1_1) = some (r1, r2, r3, r4) := H
   have A23 := Aside0.mk A230
   clear A230
   have H' := Aside0.mk H
   clear H
   try go_wp2
   have n0_ := Aside0.mk (Kd.R_drew HO0_1.out)
   have n1_ := Aside0.mk (Kd.V_drew HO0_0.out)
   have n2_ := Aside0.mk (blk_drew BK229.out)
   have n3_ := Aside0.mk (blk_drew BK230.out)
   have n4_ := Aside0.mk (blk_drew BK231.out)
   have n5_ := Aside0.mk (Kept.drew HK.out)
   have n6_ := Aside0.mk (below_drew1 HB.out)
   clear HO0_1
   clear HO0_0
   clear BK229
   clear BK230
   clear BK231
   clear HK
   clear HB
   have HO0_1 := n0_
   have HO0_0 := n1_
   have BK229 := n2_
   have BK230 := n3_
   have BK231 := n4_
   have HK := n5_
   have HB := n6_
   clear n0_ n1_ n2_ n3_ n4_ n5_ n6_
   refine start_ (n := 8) (S := fun w' => w'.cell? ⟨gb229, 0, none⟩ = some (.slice A0_0 l0_0.length c0_0) ∧ w'.cell? ⟨gb229, 1, none⟩ = some (.slice Ao5 l0_1.length co5) ∧ w'.cell? ⟨gb229, 2, none⟩ = some (.int .i64 a0_2) ∧ w'.cell? ⟨gb230, 0, none⟩ = some (.int .i64 a1_0) ∧ w'.cell? ⟨gb230, 1, none⟩ = some (.int .i64 a1_1)) (ds := []) #[false, false, false, false, false, false, false, false] (by kernel_rfl) rfl rfl ⟨(blk_cell BK229.out 0).trans rfl, (blk_cell BK229.out 1).trans rfl, (blk_cell BK229.out 2).trans rfl, (blk_cell BK230.out 0).trans rfl, (blk_cell BK230.out 1).trans rfl⟩ (fun hHeld => ?_); refine with_tabW rf06_Step.tab4 rf06_Step.bits4 (fun HT_ HW_ => ?_)
   generalize w14.drew = w24 at HO0_1 HO0_0 BK229 BK230 BK231 HK HB hHeld ⊢
   refine pure_ (i := 0) (N := some 19) (v := ?_) (a' := ?_) #[true, false, false, false, false, false, false, false] rfl rfl (any_of HT_.out (by kernel_rfl)) (fun _ _ _ h => h) (Or.inl ⟨by rfl, ?_⟩) ?_ ?_
   rotate_left
   ·intro w'
    go_simp
    with_reducible rfl
   rotate_left
   ·simp only [Act.put, List.setIfInBounds_toArray, List.set_cons_zero, List.set_cons_succ, i64_w, i32_w]
    rfl
   refine pure_ (i := 3) (N := some 22) (v := ?_) (a' := ?_) #[true, false, false, true, false, false, false, false] rfl rfl (any_of HT_.out (by kernel_rfl)) (fun _ _ _ h => h) (Or.inl ⟨by rfl, ?_⟩) ?_ ?_
   rotate_left
   ·intro w'
    go_simp
    with_reducible rfl
   rotate_left
   ·simp only [Act.put, List.setIfInBounds_toArray, List.set_cons_zero, List.set_cons_succ, i64_w, i32_w]
    rfl
   refine take_ (i := 1) (N := some 20) (v := ?_) (a' := ?_) #[true, true, false, true, false, false, false, false] rfl rfl (take_ofW HT_.out HW_.out (by kernel_rfl)) (fun _ _ _ h => h) (Or.inl ⟨by rfl, ?_⟩) hHeld ?_ ?_
   rotate_left
   ·rintro w' ⟨s0, s1, s2, s3, s4⟩
    go_simp
    with_reducible rfl
   rotate_left
   ·simp only [Act.put, List.setIfInBounds_toArray, List.set_cons_zero, List.set_cons_succ, i64_w, i32_w]
    rfl
   refine take_ (i := 2) (N := some 21) (v := ?_) (a' := ?_) #[true, true, true, true, false, false, false, false] rfl rfl (take_ofW HT_.out HW_.out (by kernel_rfl)) (fun _ _ _ h => h) (Or.inl ⟨by rfl, ?_⟩) hHeld ?_ ?_
   rotate_left
   ·rintro w' ⟨s0, s1, s2, s3, s4⟩
    go_simp
    with_reducible rfl
   rotate_left
   ·simp only [Act.put, List.setIfInBounds_toArray, List.set_cons_zero, List.set_cons_succ, i64_w, i32_w]
    rfl
   refine take_ (i := 4) (N := some 23) (v := ?_) (a' := ?_) #[true, true, true, true, true, false, false, false] rfl rfl (take_ofW HT_.out HW_.out (by kernel_rfl)) (fun _ _ _ h => h) (Or.inl ⟨by rfl, ?_⟩) hHeld ?_ ?_
   rotate_left
   ·rintro w' ⟨s0, s1, s2, s3, s4⟩
    go_simp
    with_reducible rfl
   rotate_left
   ·simp only [Act.put, List.setIfInBounds_toArray, List.set_cons_zero, List.set_cons_succ, i64_w, i32_w]
    rfl
   refine one_ (i := 5) (N := some 24) #[true, true, true, true, true, true, false, false] rfl rfl (one_of HT_.out (by kernel_rfl)) (by decide) (fun K hK => ?_)
   refine goes_ Tryz.func104 (by kernel_rfl) rfl #[.agg #[.slice A0_0 l0_0.length c0_0, .slice Ao5 l0_1.length co5, .int .i64 a0_2], .int .i64 a1_0] (by rfl) rfl rfl (by (try simp only [List.map_toArray, List.map_cons, List.map_nil]); first | done | rfl | (simp only [List.length_drop, List.length_take]; rfl)) ?_
   with_reducible refine (rf06_whole.calls k _ _ l0_0 _ _ l0_1 a0_2 a1_0 t234 _ ?side1 ?side2 ?side3 ?side4 A21.out).mono ?_
   (case side1 => repeat (first | exact (Kd.V_reads' HO0_0.out).2.2 | (with_reducible refine Kd.C_alloc ?_ _) | (with_reducible refine Kd.C_drewN ?_ _) | (with_reducible refine Kd.C_drew ?_)))
   (case side2 => exact (Kd.V_reads' HO0_0.out).2.1)
   (case side3 => repeat (first | exact (Kd.R_reads' HO0_1.out).2.2 | (with_reducible refine Kd.C_alloc ?_ _) | (with_reducible refine Kd.C_drewN ?_ _) | (with_reducible refine Kd.C_drew ?_)))
   (case side4 => exact (Kd.R_reads' HO0_1.out).2.1)
   rintro e w25 ⟨rfl, hb⟩
   refine ⟨_, rfl, ?_⟩
   have n0_ := Aside0.mk (Kd.R_below (rK HO0_1) hb)
   have n1_ := Aside0.mk (Kd.V_below (by (with_reducible repeat (first | apply Kd.V_alloc | apply Kd.V_drewN | apply Kd.V_drew)); exact HO0_0.out) hb)
   have n2_ := Aside0.mk (blk_below (g := gb229) (o := .cells #[.slice A0_0 l0_0.length c0_0, .slice Ao5 l0_1.length co5, .int .i64 a0_2] 184 (0, 0)) (bK BK229) hb)
   have n3_ := Aside0.mk (blk_below (g := gb230) (o := .cells #[.int .i64 a1_0, .int .i64 a1_1] 122 (0, 0)) (bK BK230) hb)
   have n4_ := Aside0.mk (blk_below (g := gb231) (o := .cells #[.slice none 0 0, .slice none 0 0, .int .i64 0] 184 (0, 0)) (bK BK231) hb)
   have n5_ := Aside0.mk (Kept.below (S := (fun k_ => P0_1_ k_)) (by repeat (first | (with_reducible first | exact HK.out | apply Kept.alloc | apply Kept.drewN | apply Kept.drew | refine Kept.setCell ?_ (.inr GW229.out) _ | refine Kept.setCell ?_ (.inr GW230.out) _ | refine Kept.setCell ?_ (.inr GW231.out) _) | exact HK.out)) hb)
   have n6_ := Aside0.mk (below_step (bH HB) hb)
   clear HO0_1
   clear HO0_0
   clear BK229
   clear BK230
   clear BK231
   clear HK
   clear HB
   have HO0_1 := n0_
   have HO0_0 := n1_
   have BK229 := n2_
   have BK230 := n3_
   have BK231 := n4_
   have HK := n5_
   have HB := n6_
   clear n0_ n1_ n2_ n3_ n4_ n5_ n6_
   (try clear hb)
   (try clear hb2)
   (try clear hk)
   (try clear hi)
   refine hK.out _ _ ⟨(blk_cell BK229.out 0).trans rfl, (blk_cell BK229.out 1).trans rfl, (blk_cell BK229.out 2).trans rfl, (blk_cell BK230.out 0).trans rfl, (blk_cell BK230.out 1).trans rfl⟩ (fun hHeld => ?_)
   clear hK K
   refine norm_ (a' := ?_) ?_ ?_
   rotate_left
   ·show Act.put _ (some 24) _ = _
    simp only [Act.put, List.setIfInBounds_toArray, List.set_cons_zero, List.set_cons_succ, i64_w, i32_w]
    rfl
   refine pure_ (i := 6) (N := some 25) (v := ?_) (a' := ?_) #[true, true, true, true, true, true, true, false] rfl rfl (any_of HT_.out (by kernel_rfl)) (fun _ _ _ h => h) (Or.inl ⟨by rfl, ?_⟩) ?_ ?_
   rotate_left
   ·intro w'
    go_simp
    with_reducible rfl
   rotate_left
   ·simp only [Act.put, List.setIfInBounds_toArray, List.set_cons_zero, List.set_cons_succ, i64_w, i32_w]
    rfl
   refine pure_ (i := 7) (N := some 8) (v := ?_) (a' := ?_) #[true, true, true, true, true, true, true, true] rfl rfl (any_of HT_.out (by kernel_rfl)) (fun _ _ _ h => h) (Or.inl ⟨by rfl, ?_⟩) ?_ ?_
   rotate_left
   ·intro w'
    go_simp
    with_reducible rfl
   rotate_left
   ·simp only [Act.put, List.setIfInBounds_toArray, List.set_cons_zero, List.set_cons_succ, i64_w, i32_w]
    rfl
   refine done_ (done_of HT_.out (by kernel_rfl)) ?_
   have hnb26 := NB229_230.out
   have hnc26 := NB230_229.out
   have hnb27 := NB229_231.out
   have hnc27 := NB231_229.out
   have hcz28_0 : w25.cell? ⟨gb229, 0, none⟩ = some (.slice A0_0 l0_0.length c0_0) := (blk_cell BK229.out 0).trans rfl
   have hcz28_1 : w25.cell? ⟨gb229, 1, none⟩ = some (.slice Ao5 l0_1.length co5) := (blk_cell BK229.out 1).trans rfl
   have hcz28_2 : w25.cell? ⟨gb229, 2, none⟩ = some (.int .i64 a0_2) := (blk_cell BK229.out 2).trans rfl
   have hfz28_0 := blk_frozen BK229.out 0
   have hfz28_1 := blk_frozen BK229.out 1
   have hfz28_2 := blk_frozen BK229.out 2
   try go_wp2_with (first | ((with_reducible refine gate_callee (f := 163) rfl ?_); refine goesL_ (some 31) rfl rfl Tryz.func163 (by kernel_rfl) rfl #[.slice Ao5 l0_1.length co5, .int .i64 (wrap64 ((wrap64 (Int.tdiv a0_2 t234)) * t232))] rfl (by (try simp only [List.map_toArray, List.map_cons, List.map_nil]); first | done | rfl | (simp only [List.length_drop, List.length_take]; rfl)) ?_; (with_reducible refine (rf06_add.calls k _ _ l0_1 (wrap64 ((wrap64 (Int.tdiv a0_2 t234)) * t232)) t235 _ ?side1 ?side2 A23.out).mono ?_); (case side1 => repeat (first | exact (Kd.R_reads' HO0_1.out).2.2 | (with_reducible refine Kd.C_alloc ?_ _) | (with_reducible refine Kd.C_drewN ?_ _) | (with_reducible refine Kd.C_drew ?_))); (case side2 => exact (Kd.R_reads' HO0_1.out).2.1); rintro e w29 ⟨v236, rfl, ho0, hb⟩; refine ⟨_, rfl, ?_⟩; have n0_ := Aside0.mk (Kd.R_elder' (rK HO0_1) (Kd.R_base ho0) hb); have n1_ := Aside0.mk (Kd.V_elder' (by (with_reducible repeat (first | apply Kd.V_alloc | apply Kd.V_drewN | apply Kd.V_drew)); exact HO0_0.out) (Kd.R_base ho0) hb); have n2_ := Aside0.mk (Kd.R_lower (Kd.R_new' (Kd.R_newM (M := fun k_ => (P0_1_ k_ ∨ w.heap.size ≤ k_)) ho0 (by first | exact HK.out.1 | exact (show Kept w _ (fun k_ => P0_1_ k_) from by repeat (first | (with_reducible first | exact HK.out | apply Kept.alloc | apply Kept.drewN | apply Kept.drew | refine Kept.setCell ?_ (.inr GW229.out) _ | refine Kept.setCell ?_ (.inr GW230.out) _ | refine Kept.setCell ?_ (.inr GW231.out) _) | exact HK.out)).1) (fun k_ h_ => .inr h_)) (Kd.R_lt (rK HO0_1))) (below_size (bH HB))); have n3_ := Aside0.mk (blk_below (g := gb229) (o := .cells #[.slice A0_0 l0_0.length c0_0, .slice Ao5 l0_1.length co5, .int .i64 a0_2] 184 (0, 0)) (bK BK229) hb); have n4_ := Aside0.mk (blk_below (g := gb230) (o := .cells #[.int .i64 a1_0, .int .i64 a1_1] 122 (0, 0)) (bK BK230) hb); have n5_ := Aside0.mk (blk_below (g := gb231) (o := .cells #[.slice none 0 0, .slice none 0 0, .int .i64 0] 184 (0, 0)) (bK BK231) hb); have n6_ := Aside0.mk (Kept.below (S := (fun k_ => P0_1_ k_)) (by repeat (first | (with_reducible first | exact HK.out | apply Kept.alloc | apply Kept.drewN | apply Kept.drew | refine Kept.setCell ?_ (.inr GW229.out) _ | refine Kept.setCell ?_ (.inr GW230.out) _ | refine Kept.setCell ?_ (.inr GW231.out) _) | exact HK.out)) hb); have n7_ := Aside0.mk (below_step (bH HB) hb); clear HO0_1; clear HO0_0; clear BK229; clear BK230; clear BK231; clear HK; clear HB; have HO0_1 := n0_; have HO0_0 := n1_; have HO237 := n2_; have BK229 := n3_; have BK230 := n4_; have BK231 := n5_; have HK := n6_; have HB := n7_; clear n0_ n1_ n2_ n3_ n4_ n5_ n6_ n7_; (try clear hb); (try clear hb2); (try clear hk); (try clear hi); (try clear ho0); obtain ⟨Ao30, co30, eo30⟩ := Kd.R_slice HO237.out; subst eo30; have hcz31_0 : w29.cell? ⟨gb229, 0, none⟩ = some (.slice A0_0 l0_0.length c0_0) := (blk_cell BK229.out 0).trans rfl; have hcz31_1 : w29.cell? ⟨gb229, 1, none⟩ = some (.slice Ao5 l0_1.length co5) := (blk_cell BK229.out 1).trans rfl; have hcz31_2 : w29.cell? ⟨gb229, 2, none⟩ = some (.int .i64 a0_2) := (blk_cell BK229.out 2).trans rfl; have hfz31_0 := blk_frozen BK229.out 0; have hfz31_1 := blk_frozen BK229.out 1; have hfz31_2 := blk_frozen BK229.out 2))
   go_loopg [] k (fun kq w' => ∃ (x230001_1 : List Int) (x230002_1 : Int) (u230001 : Value), Aside0 (rf06_Step.l0 kq l0_0 x230001_1 x230002_1 a1_0 a1_1 = some (r1, r2, r3, r4)) ∧ Aside0 (kq ≤ k) ∧ Aside0 (Kd.V (Kd.slice 3 (Kd.int .i64)) 83 w' w0.heap.size (fun k_ => ((P0_1_ k_ ∨ P0_0_ k_) ∨ w.heap.size ≤ k_) ∧ some k_ ≠ (u230001 : Value).ownBlock ∧ k_ ≠ gb229 ∧ k_ ≠ gb230 ∧ k_ ≠ gb231) (.slice A0_0 l0_0.length c0_0) l0_0) ∧ Aside0 (Kd.R (Kd.int .i64) 3 w' w0.heap.size (fun k_ => (P0_1_ k_ ∨ w.heap.size ≤ k_)) u230001 x230001_1) ∧ Aside0 (w'.heap[gb229]? = some (.cells #[(.slice A0_0 l0_0.length c0_0), u230001, .int .i64 x230002_1] 184 (0, 0))) ∧ Aside0 (w'.heap[gb230]? = some (.cells #[.int .i64 a1_0, .int .i64 a1_1] 122 (0, 0))) ∧ Aside0 (w'.heap[gb231]? = some (.cells #[(.slice none 0 0), (.slice none 0 0), .int .i64 0] 184 (0, 0))) ∧ Aside0 (Kept w w' (fun k_ => P0_1_ k_)) ∧ Aside0 (Below w0.heap.size w0 w'))
   case atStart => exact ⟨(t235), (wrap64 ((wrap64 (Int.tdiv a0_2 t234)) * t233)), (.slice Ao30 t235.length co30), H', ⟨Nat.le_refl _⟩, ⟨by (with_reducible repeat (first | apply Kd.V_alloc | apply Kd.V_drewN | apply Kd.V_drew)); exact Kd.V_mono (Kd.V_far (p := ⟨gb229, 2, none⟩) (Kd.V_far (p := ⟨gb229, 1, none⟩) (Kd.V_mono HO0_0.out (fun k_ hk => (⟨hk, hk.1.1.1.2⟩ : _ ∧ k_ ≠ gb229))) (fun _ hk => hk.2) (.slice Ao30 t235.length co30)) (fun _ hk => hk.2) (.int .i64 (wrap64 ((wrap64 (Int.tdiv a0_2 t234)) * t233)))) (fun _ hk => ⟨hk.1.1.1.1.1.1, ⟨hk.1.2, ⟨hk.1.1.1.1.2, ⟨hk.1.1.1.2, hk.1.1.2⟩⟩⟩⟩)⟩, ⟨by (with_reducible repeat (first | apply Kd.R_alloc | apply Kd.R_drewN | apply Kd.R_drew)); exact Kd.R_mono (Kd.R_far (p := ⟨gb229, 2, none⟩) (Kd.R_far (p := ⟨gb229, 1, none⟩) (Kd.R_types HO237.out BK229.out (by decide)) (fun _ hk => hk.2) (.slice Ao30 t235.length co30)) (fun _ hk => hk.2) (.int .i64 (wrap64 ((wrap64 (Int.tdiv a0_2 t234)) * t233)))) (fun _ hk => hk.1.1.1)⟩, ⟨by (with_reducible repeat (first | refine blk_drewN ?_ _ | refine blk_drew ?_ | refine blk_alloc ?_ _)); refine blk_put (cs := #[.slice A0_0 l0_0.length c0_0, .slice Ao30 t235.length co30, .int .i64 a0_2]) ?_ 2 _ rfl; (with_reducible repeat (first | refine blk_drewN ?_ _ | refine blk_drew ?_ | refine blk_alloc ?_ _)); refine blk_put (cs := #[.slice A0_0 l0_0.length c0_0, .slice Ao5 l0_1.length co5, .int .i64 a0_2]) ?_ 1 _ rfl; (with_reducible repeat (first | refine blk_drewN ?_ _ | refine blk_drew ?_ | refine blk_alloc ?_ _)); exact BK229.out⟩, ⟨bK BK230⟩, ⟨bK BK231⟩, ⟨by repeat (first | (with_reducible first | exact HK.out | apply Kept.alloc | apply Kept.drewN | apply Kept.drew | refine Kept.setCell ?_ (.inr GW229.out) _ | refine Kept.setCell ?_ (.inr GW230.out) _ | refine Kept.setCell ?_ (.inr GW231.out) _) | exact HK.out)⟩, ⟨ bH HB⟩⟩
   case round =>
    clear H'
    try clear c1
    try clear c2
    try clear p2
    try clear p6
    try clear c9
    try clear c10
    try clear c12
    try clear c15
    try clear c15b0
    try clear c15b1
    try clear c16
    try clear c17
    try clear c19
    try clear c22
    try clear c22b0
    try clear c22b1
    try clear c26
    try clear c27
    try clear hcz11_0
    try clear hcz11_1
    try clear hcz11_2
    try clear hcz13_0
    try clear hcz13_1
    try clear hcz18_0
    try clear hcz18_1
    try clear hcz18_2
    try clear hcz20_0
    try clear hcz20_1
    try clear hcz20_2
    try clear hcz28_0
    try clear hcz28_1
    try clear hcz28_2
    try clear hcz31_0
    try clear hcz31_1
    try clear hcz31_2
    try clear hfz11_0
    try clear hfz11_1
    try clear hfz11_2
    try clear hfz13_0
    try clear hfz13_1
    try clear hfz18_0
    try clear hfz18_1
    try clear hfz18_2
    try clear hfz20_0
    try clear hfz20_1
    try clear hfz20_2
    try clear hfz28_0
    try clear hfz28_1
    try clear hfz28_2
    try clear hfz31_0
    try clear hfz31_1
    try clear hfz31_2
    obtain ⟨x230001_1, x230002_1, u230001, HA, HK1, HO_230000, HO_230001, BK229, BK230, BK231, HK, HB⟩ := hrel
    cases gk with
    | zero => exact absurd HA.out (by simp [rf06_Step.l0])
    | succ k1 =>
     have H := HA.out
     clear HA
     simp only [rf06_Step.l0] at H
     by_cases c32 : x230002_1 < 16777216
     ·rw [if_pos c32] at H
      have c32b0 : decide (x230002_1 < 16777216) = true := decide_eq_true c32
      clear c32
      by_cases c33 : x230001_1.length < 17592186044416
      ·rw [if_pos c33] at H
       have LMc33 := Aside0.mk c33
       clear c33
       obtain ⟨y238, hy238⟩ : ∃ y_ : List Int, y_ = (x230001_1 ++ [0]) := ⟨_, rfl⟩
       replace H : (rf06_Step.l0 k1 l0_0 y238 (wrap64 (x230002_1 * 256)) a1_0 a1_1) = some (r1, r2, r3, r4) := by first | (rw [hy238]; with_reducible exact H) | (have H2_ := (Option.bind_some _ _).symm.trans H; rw [hy238]; with_reducible exact H2_) | (have H2_ := (Option.bind_some _ _).symm.trans H; with_reducible exact H2_) | with_reducible exact H | (rw [hy238]; exact H) | exact H
       have Ny238 := Aside0.mk hy238
       clear hy238
       have H' := Aside0.mk H
       clear H
       have hnb34 := NB229_230.out
       have hnc34 := NB230_229.out
       have hnb35 := NB229_231.out
       have hnc35 := NB231_229.out
       have hcz36_0 : wr.cell? ⟨gb229, 0, none⟩ = some (.slice A0_0 l0_0.length c0_0) := (blk_cell BK229.out 0).trans rfl
       have hcz36_1 : wr.cell? ⟨gb229, 1, none⟩ = some (u230001) := (blk_cell BK229.out 1).trans rfl
       have hcz36_2 : wr.cell? ⟨gb229, 2, none⟩ = some (.int .i64 x230002_1) := (blk_cell BK229.out 2).trans rfl
       have hfz36_0 := blk_frozen BK229.out 0
       have hfz36_1 := blk_frozen BK229.out 1
       have hfz36_2 := blk_frozen BK229.out 2
       go_wp2_with (first | ((with_reducible refine gate_builtin (b := .append) (xs := #[.tmp 45, .tmp 46]) rfl ?_); at_builtin; refine Kd.R_append (Kd.int .i64) (w0 := w0) w0.heap.size rfl (.tmp 45) (.tmp 46) 83 3 (.int .i64 0) 8 rfl Tryz.underlying83 info3 rfl (by decide) (by omega) u230001 x230001_1 0 [.int .i64 0] (fun k_ => (P0_1_ k_ ∨ w.heap.size ≤ k_)) (fun _ => False) rfl (by first | (go_simp; done) | (go_simp; rfl)) ?aP (fun _ hk => hk.elim) ?aF ?aO ?aB ?aS ?aL ?_; (case aP => exact rfl); (case aB => exact (bH HB)); (case aF => exact (fun k_ hk => (.inr (Nat.le_trans (show Kept w _ (fun k_ => P0_1_ k_) from by repeat (first | (with_reducible first | exact HK.out | apply Kept.alloc | apply Kept.drewN | apply Kept.drew | refine Kept.setCell ?_ (.inr GW229.out) _ | refine Kept.setCell ?_ (.inr GW230.out) _ | refine Kept.setCell ?_ (.inr GW231.out) _) | exact HK.out)).1 hk)))); (case aO => exact (by (with_reducible repeat (first | apply Kd.R_alloc | apply Kd.R_drewN | apply Kd.R_drew)); exact Kd.R_mono (Kd.R_far (p := ⟨gb229, 2, none⟩) (Kd.R_types HO_230001.out BK229.out (by decide)) (fun _ hk => hk.2) (.int .i64 (wrap64 (x230002_1 * 256)))) (fun _ hk => hk.1))); (case aS => exact (below_size (bH HB))); (case aL => have := LMc33.out; omega); intro v239 w37 ho hb hg hat; rw [← Ny238.out] at ho; have n0_ := Aside0.mk (Kd.V_afterv (ok := (fun k_ => ((P0_1_ k_ ∨ P0_0_ k_) ∨ w.heap.size ≤ k_) ∧ k_ ≠ gb229 ∧ k_ ≠ gb230 ∧ k_ ≠ gb231)) (by (with_reducible repeat (first | apply Kd.V_alloc | apply Kd.V_drewN | apply Kd.V_drew)); exact Kd.V_mono (Kd.V_far (p := ⟨gb229, 2, none⟩) (Kd.V_mono HO_230000.out (fun k_ hk => (⟨hk, hk.2.2.1⟩ : _ ∧ k_ ≠ gb229))) (fun _ hk => hk.2) (.int .i64 (wrap64 (x230002_1 * 256)))) (fun _ hk => ⟨⟨hk.1.1, ⟨hk.1.2.2.1, ⟨hk.1.2.2.2.1, hk.1.2.2.2.2⟩⟩⟩, hk.1.2.1⟩)) hg hat); have n1_ := Aside0.mk (blk_grown (g := gb229) (o := .cells #[.slice A0_0 l0_0.length c0_0, u230001, .int .i64 (wrap64 (x230002_1 * 256))] 184 (0, 0)) (by (with_reducible repeat (first | refine blk_drewN ?_ _ | refine blk_drew ?_ | refine blk_alloc ?_ _)); refine blk_put (cs := #[.slice A0_0 l0_0.length c0_0, u230001, .int .i64 x230002_1]) ?_ 2 _ rfl; (with_reducible repeat (first | refine blk_drewN ?_ _ | refine blk_drew ?_ | refine blk_alloc ?_ _)); exact BK229.out) hg (Kd.R_ne HO_230001.out BK229.out (by decide))); have n2_ := Aside0.mk (blk_grown (g := gb230) (o := .cells #[.int .i64 a1_0, .int .i64 a1_1] 122 (0, 0)) (bK BK230) hg (Kd.R_ne HO_230001.out BK230.out (by decide))); have n3_ := Aside0.mk (blk_grown (g := gb231) (o := .cells #[.slice none 0 0, .slice none 0 0, .int .i64 0] 184 (0, 0)) (bK BK231) hg (Kd.R_ne HO_230001.out BK231.out (by decide))); have n4_ := Aside0.mk (hb); have n5_ := Aside0.mk (Kept.of_grown (S := (fun k_ => P0_1_ k_)) hg (by repeat (first | (with_reducible first | exact HK.out | apply Kept.alloc | apply Kept.drewN | apply Kept.drew | refine Kept.setCell ?_ (.inr GW229.out) _ | refine Kept.setCell ?_ (.inr GW230.out) _ | refine Kept.setCell ?_ (.inr GW231.out) _) | exact HK.out)) (fun k_ e_ => (HO_230001.out.1 k_ e_))); have n6_ := Aside0.mk (ho); clear HO_230000; clear BK229; clear BK230; clear BK231; clear HB; clear HK; clear HO_230001; have HO_230000 := n0_; have BK229 := n1_; have BK230 := n2_; have BK231 := n3_; have HB := n4_; have HK := n5_; have HO240 := n6_; clear n0_ n1_ n2_ n3_ n4_ n5_ n6_; clear ho hb hg hat; obtain ⟨Ao38, co38, eo38⟩ := Kd.R_slice HO240.out; subst eo38; have hcz39_0 : w37.cell? ⟨gb229, 0, none⟩ = some (.slice A0_0 l0_0.length c0_0) := (blk_cell BK229.out 0).trans rfl; have hcz39_1 : w37.cell? ⟨gb229, 1, none⟩ = some (u230001) := (blk_cell BK229.out 1).trans rfl; have hcz39_2 : w37.cell? ⟨gb229, 2, none⟩ = some (.int .i64 (wrap64 (x230002_1 * 256))) := (blk_cell BK229.out 2).trans rfl; have hfz39_0 := blk_frozen BK229.out 0; have hfz39_1 := blk_frozen BK229.out 1; have hfz39_2 := blk_frozen BK229.out 2))
       go_roundg k1
       case measure => have := HK1.out; omega
       case rel => exact ⟨(y238), (wrap64 (x230002_1 * 256)), (.slice Ao38 y238.length co38), H', ⟨by have := HK1.out; omega⟩, ⟨by (with_reducible repeat (first | apply Kd.V_alloc | apply Kd.V_drewN | apply Kd.V_drew)); exact Kd.V_mono (Kd.V_far (p := ⟨gb229, 1, none⟩) (Kd.V_mono HO_230000.out (fun k_ hk => (⟨hk, hk.1.2.1⟩ : _ ∧ k_ ≠ gb229))) (fun _ hk => hk.2) (.slice Ao38 y238.length co38)) (fun _ hk => ⟨hk.1.1.1, ⟨hk.1.2, ⟨hk.1.1.2.1, ⟨hk.1.1.2.2.1, hk.1.1.2.2.2⟩⟩⟩⟩)⟩, ⟨by (with_reducible repeat (first | apply Kd.R_alloc | apply Kd.R_drewN | apply Kd.R_drew)); exact Kd.R_mono (Kd.R_far (p := ⟨gb229, 1, none⟩) (Kd.R_types HO240.out BK229.out (by decide)) (fun _ hk => hk.2) (.slice Ao38 y238.length co38)) (fun _ hk => hk.1)⟩, ⟨by (with_reducible repeat (first | refine blk_drewN ?_ _ | refine blk_drew ?_ | refine blk_alloc ?_ _)); refine blk_put (cs := #[.slice A0_0 l0_0.length c0_0, u230001, .int .i64 (wrap64 (x230002_1 * 256))]) ?_ 1 _ rfl; (with_reducible repeat (first | refine blk_drewN ?_ _ | refine blk_drew ?_ | refine blk_alloc ?_ _)); exact BK229.out⟩, ⟨bK BK230⟩, ⟨bK BK231⟩, ⟨by repeat (first | (with_reducible first | exact HK.out | apply Kept.alloc | apply Kept.drewN | apply Kept.drew | refine Kept.setCell ?_ (.inr GW229.out) _ | refine Kept.setCell ?_ (.inr GW230.out) _ | refine Kept.setCell ?_ (.inr GW231.out) _) | exact HK.out)⟩, ⟨ bH HB⟩⟩
      ·rw [if_neg c33] at H
       exact absurd H (by simp)
     ·rw [if_neg c32] at H
      have c32b0 : decide (x230002_1 < 16777216) = false := decide_eq_false c32
      clear c32
      by_cases c40 : a1_0 ≥ 0
      ·rw [if_pos c40] at H
       have c40b0 : decide (0 ≤ a1_0) = true := decide_eq_true c40
       clear c40
       by_cases c41 : ([] : List (List Int)).length + l0_0.length < 5864062014805
       ·rw [if_pos c41] at H
        have LMc41 := Aside0.mk c41
        clear c41
        obtain ⟨y241, hy241⟩ : ∃ y_ : List (List Int), y_ = (([] : List (List Int)) ++ l0_0) := ⟨_, rfl⟩
        replace H : (if 0 ≤ a1_0 then (if a1_0 < (y241.length : Int) then ((rf05_Count.f k1 (rd_L4 y241 a1_0) a1_1).bind fun t245 => (some ((y241.set (a1_0 : Int).toNat t245), x230001_1, x230002_1, true))) else (none)) else (none)) = some (r1, r2, r3, r4) := by first | (rw [hy241]; with_reducible exact H) | (have H2_ := (Option.bind_some _ _).symm.trans H; rw [hy241]; with_reducible exact H2_) | (have H2_ := (Option.bind_some _ _).symm.trans H; with_reducible exact H2_) | with_reducible exact H | (rw [hy241]; exact H) | exact H
        have Ny241 := Aside0.mk hy241
        clear hy241
        by_cases c42 : 0 ≤ a1_0
        ·rw [if_pos c42] at H
         have c42b0 : decide (0 ≤ a1_0) = true := decide_eq_true c42
         clear c42
         by_cases c43 : a1_0 < (y241.length : Int)
         ·rw [if_pos c43] at H
          have c43b0 : decide (a1_0 < (y241.length : Int)) = true := decide_eq_true c43
          clear c43
          replace H := Option.bind_eq_some_iff.mp H
          obtain ⟨t245, A440, H⟩ := H
          replace H : (some ((y241.set (a1_0 : Int).toNat t245), x230001_1, x230002_1, true)) = some (r1, r2, r3, r4) := H
          have A44 := Aside0.mk A440
          clear A440
          obtain ⟨y248, hy248⟩ : ∃ y_ : List (List Int), y_ = (y241.set (a1_0 : Int).toNat t245) := ⟨_, rfl⟩
          replace H : (some (y248, x230001_1, x230002_1, true)) = some (r1, r2, r3, r4) := by first | (rw [hy248]; with_reducible exact H) | (have H2_ := (Option.bind_some _ _).symm.trans H; rw [hy248]; with_reducible exact H2_) | (have H2_ := (Option.bind_some _ _).symm.trans H; with_reducible exact H2_) | with_reducible exact H | (rw [hy248]; exact H) | exact H
          have Ny248 := Aside0.mk hy248
          clear hy248
          simp only [Option.some.injEq, Prod.mk.injEq] at H
          obtain ⟨rfl, rfl, rfl, rfl⟩ := H
          have hnb46 := NB229_230.out
          have hnc46 := NB230_229.out
          have hnb47 := NB229_231.out
          have hnc47 := NB231_229.out
          have hcz48_0 : wr.cell? ⟨gb229, 0, none⟩ = some (.slice A0_0 l0_0.length c0_0) := (blk_cell BK229.out 0).trans rfl
          have hcz48_1 : wr.cell? ⟨gb229, 1, none⟩ = some (u230001) := (blk_cell BK229.out 1).trans rfl
          have hcz48_2 : wr.cell? ⟨gb229, 2, none⟩ = some (.int .i64 x230002_1) := (blk_cell BK229.out 2).trans rfl
          have hfz48_0 := blk_frozen BK229.out 0
          have hfz48_1 := blk_frozen BK229.out 1
          have hfz48_2 := blk_frozen BK229.out 2
          have hnb49 := NB230_231.out
          have hnc49 := NB231_230.out
          have hcz50_0 : wr.cell? ⟨gb230, 0, none⟩ = some (.int .i64 a1_0) := (blk_cell BK230.out 0).trans rfl
          have hcz50_1 : wr.cell? ⟨gb230, 1, none⟩ = some (.int .i64 a1_1) := (blk_cell BK230.out 1).trans rfl
          have hfz50_0 := blk_frozen BK230.out 0
          have hfz50_1 := blk_frozen BK230.out 1
          try go_wp2_with (first | ((with_reducible refine gate_builtin (b := .append) (xs := #[.tmp 52, .tmp 54]) rfl ?_); at_builtin; refine Kd.N_append_rows (Kd.slice 3 (Kd.int .i64)) w.heap.size rfl (.tmp 52) (.tmp 54) 58 83 (.slice none 0 0) 24 rfl Tryz.underlying58 info83 rfl (by decide) (by omega) (.slice none 0 0) ([] : List (List Int)) l0_0 _ _ _ (fun k_ => ((P0_1_ k_ ∨ P0_0_ k_) ∨ w.heap.size ≤ k_) ∧ some k_ ≠ (u230001 : Value).ownBlock ∧ k_ ≠ gb229 ∧ k_ ≠ gb230 ∧ k_ ≠ gb231) (fun k_ => ((fun k_ => ((P0_1_ k_ ∨ P0_0_ k_) ∨ w.heap.size ≤ k_) ∧ some k_ ≠ (u230001 : Value).ownBlock ∧ k_ ≠ gb229 ∧ k_ ≠ gb230 ∧ k_ ≠ gb231)) k_ ∧ some k_ ≠ (.slice none 0 0 : Value).ownBlock) rfl rfl ?aO ?aR (fun _ hk => hk) ?aF (Below.refl _ _) ?aS ?aL ?_; (case aR => exact (by skip; exact Kd.V_F (Kd.V_mono (ok' := (fun k_ => ((fun k_ => ((P0_1_ k_ ∨ P0_0_ k_) ∨ w.heap.size ≤ k_) ∧ some k_ ≠ (u230001 : Value).ownBlock ∧ k_ ≠ gb229 ∧ k_ ≠ gb230 ∧ k_ ≠ gb231)) k_ ∧ some k_ ≠ (.slice none 0 0 : Value).ownBlock)) (HO_230000.out) (fun k_ hk => ⟨⟨hk.1, ⟨hk.2.1, ⟨hk.2.2.1, ⟨hk.2.2.2.1, hk.2.2.2.2⟩⟩⟩⟩, (by simp [Value.ownBlock])⟩)))); (case aF => exact (fun k_ hk => ⟨(.inr (Nat.le_trans (by first | exact HK.out.1 | exact (show Kept w _ (fun k_ => P0_1_ k_) from by repeat (first | (with_reducible first | exact HK.out | apply Kept.alloc | apply Kept.drewN | apply Kept.drew | refine Kept.setCell ?_ (.inr GW229.out) _ | refine Kept.setCell ?_ (.inr GW230.out) _ | refine Kept.setCell ?_ (.inr GW231.out) _) | exact HK.out)).1) hk)), Kd.fresh' (Kd.R_lt (rK HO_230001)) k_ hk, Kd.freshB (g := gb229) (o := .cells #[.slice A0_0 l0_0.length c0_0, u230001, .int .i64 x230002_1] 184 (0, 0)) (bK BK229) k_ hk, Kd.freshB (g := gb230) (o := .cells #[.int .i64 a1_0, .int .i64 a1_1] 122 (0, 0)) (bK BK230) k_ hk, Kd.freshB (g := gb231) (o := .cells #[.slice none 0 0, .slice none 0 0, .int .i64 0] 184 (0, 0)) (bK BK231) k_ hk⟩)); (case aO => exact ((Kd.N_nil _ _ _ _ (fun k_ => ((P0_1_ k_ ∨ P0_0_ k_) ∨ w.heap.size ≤ k_) ∧ some k_ ≠ (u230001 : Value).ownBlock ∧ k_ ≠ gb229 ∧ k_ ≠ gb230 ∧ k_ ≠ gb231)))); (case aS => exact (by first | exact HK.out.1 | exact (show Kept w _ (fun k_ => P0_1_ k_) from by repeat (first | (with_reducible first | exact HK.out | apply Kept.alloc | apply Kept.drewN | apply Kept.drew | refine Kept.setCell ?_ (.inr GW229.out) _ | refine Kept.setCell ?_ (.inr GW230.out) _ | refine Kept.setCell ?_ (.inr GW231.out) _) | exact HK.out)).1)); (case aL => have := LMc41.out; omega); intro v242 w51 ho hb hg hat; rw [← Ny241.out] at ho; have n0_ := Aside0.mk (Kd.V_afterv (Kd.V_apart_nil (by (with_reducible repeat (first | apply Kd.V_alloc | apply Kd.V_drewN | apply Kd.V_drew)); exact HO_230000.out)) hg hat); have n1_ := Aside0.mk (Kd.R_grown (rK HO_230001) hg (fun _ _ => by simp [Value.ownBlock])); have n2_ := Aside0.mk (blk_grown (g := gb229) (o := .cells #[.slice A0_0 l0_0.length c0_0, u230001, .int .i64 x230002_1] 184 (0, 0)) (bK BK229) hg (by simp [Value.ownBlock])); have n3_ := Aside0.mk (blk_grown (g := gb230) (o := .cells #[.int .i64 a1_0, .int .i64 a1_1] 122 (0, 0)) (bK BK230) hg (by simp [Value.ownBlock])); have n4_ := Aside0.mk (blk_grown (g := gb231) (o := .cells #[.slice none 0 0, .slice none 0 0, .int .i64 0] 184 (0, 0)) (bK BK231) hg (by simp [Value.ownBlock])); have n5_ := Aside0.mk (below_weaken (bH HB) HW0.out hb); have n6_ := Aside0.mk (Kept.of_grown (S := (fun k_ => P0_1_ k_)) hg (by repeat (first | (with_reducible first | exact HK.out | apply Kept.alloc | apply Kept.drewN | apply Kept.drew | refine Kept.setCell ?_ (.inr GW229.out) _ | refine Kept.setCell ?_ (.inr GW230.out) _ | refine Kept.setCell ?_ (.inr GW231.out) _) | exact HK.out)) (fun k_ e_ => by simp [Value.ownBlock] at e_)); have n7_ := Aside0.mk (ho); clear HO_230000; clear HO_230001; clear BK229; clear BK230; clear BK231; clear HB; clear HK; have HO_230000 := n0_; have HO_230001 := n1_; have BK229 := n2_; have BK230 := n3_; have BK231 := n4_; have HB := n5_; have HK := n6_; have HO243 := n7_; clear n0_ n1_ n2_ n3_ n4_ n5_ n6_ n7_; clear ho hb hg hat))
          have n0_ := Aside0.mk (Kd.V_drew HO_230000.out)
          have n1_ := Aside0.mk (Kd.R_drew HO_230001.out)
          have n2_ := Aside0.mk (Kd.N_drew HO243.out)
          have n3_ := Aside0.mk (blk_drew BK229.out)
          have n4_ := Aside0.mk (blk_drew BK230.out)
          have n5_ := Aside0.mk (blk_drew BK231.out)
          have n6_ := Aside0.mk (Kept.drew HK.out)
          have n7_ := Aside0.mk (below_drew1 HB.out)
          clear HO_230000
          clear HO_230001
          clear HO243
          clear BK229
          clear BK230
          clear BK231
          clear HK
          clear HB
          have HO_230000 := n0_
          have HO_230001 := n1_
          have HO243 := n2_
          have BK229 := n3_
          have BK230 := n4_
          have BK231 := n5_
          have HK := n6_
          have HB := n7_
          clear n0_ n1_ n2_ n3_ n4_ n5_ n6_ n7_
          obtain ⟨Ao53, co53, eo53⟩ := Kd.N_slice HO243.out
          (first | subst eo53 | (injection eo53 with f1_ f2_ f3_; have f4_ := f1_.symm; have f5_ := f3_.symm; clear f1_ f2_ f3_; subst f4_; subst f5_))
          have p244 : 0 ≤ (a1_0 : Int) := of_decide_eq_true (by first | (with_reducible assumption) | assumption)
          have q244 : a1_0 < (y241.length : Int) := of_decide_eq_true (by first | (with_reducible assumption) | assumption)
          obtain ⟨ad244, A244_0, c244_0, e244, hx244_0, hl244_0, hi244_0⟩ := at_L4 (Kd.N_reads' HO243.out).2.2 a1_0 p244 q244
          cases e244
          obtain ⟨ce244, hce244, hMe244, hcc244⟩ := Kd.N_get HO243.out [] a1_0 p244 (by first | exact q244 | exact of_decide_eq_true (by first | (with_reducible assumption) | assumption) | (have e_ := (Kd.N_reads' HO243.out).1; omega))
          obtain ⟨ua244_0, uc244_0, rfl, ul244_0, ge244_0⟩ := Kd.FK_slice_open hMe244
          have hv244_0 := hcc244 0 _ rfl
          rw [Nat.add_zero, show ((Kd.slice 3 (Kd.int .i64))).sz = 1 from rfl, Nat.mul_one] at hv244_0
          replace hv244_0 := Option.some.inj (hv244_0.symm.trans hx244_0)
          injection hv244_0 with hva_ hvn_ hvc_
          rw [hva_] at ge244_0
          rw [hvc_] at ul244_0
          have HL244_0 := Aside0.mk (show Kd.V (Kd.int .i64) 3 _ w0.heap.size _ _ (rd_L4 y241 a1_0) from Kd.V_mk ul244_0 ge244_0)
          clear hva_ hvn_ hvc_ ge244_0 ul244_0
          clear hcc244 hce244
          have HR244_0 := Aside0.mk hi244_0
          have HC244_0 := Aside0.mk hl244_0
          clear hi244_0 hl244_0
          replace p244 := eq_true p244
          replace q244 := eq_true q244
          refine start_ (n := 13) (S := fun w' => w'.cell? ⟨gb230, 0, none⟩ = some (.int .i64 a1_0) ∧ w'.cell? ⟨gb230, 1, none⟩ = some (.int .i64 a1_1) ∧ w'.cell? (ad244.add (a1_0).toNat) = some (.slice A244_0 (rd_L4 y241 a1_0).length c244_0)) (ds := [12]) #[false, false, false, false, false, false, false, false, false, false, false, false, false] (by kernel_rfl) rfl rfl ⟨(blk_cell BK230.out 0).trans rfl, (blk_cell BK230.out 1).trans rfl, hx244_0⟩ (fun hHeld => ?_); refine with_tabW rf06_Step.tab13 rf06_Step.bits13 (fun HT_ HW_ => ?_)
          generalize w51.drew = w52 at HO_230000 HO_230001 HO243 BK229 BK230 BK231 HK HB HL244_0 HR244_0 hx244_0 hHeld ⊢
          refine pure_ (i := 0) (N := some 56) (v := ?_) (a' := ?_) #[true, false, false, false, false, false, false, false, false, false, false, false, false] rfl rfl (any_of HT_.out (by kernel_rfl)) (fun _ _ _ h => h) (Or.inl ⟨by rfl, ?_⟩) ?_ ?_
          rotate_left
          ·intro w'
           go_simp
           with_reducible rfl
          rotate_left
          ·simp only [Act.put, List.setIfInBounds_toArray, List.set_cons_zero, List.set_cons_succ, i64_w, i32_w]
           rfl
          refine pure_ (i := 1) (N := some 57) (v := ?_) (a' := ?_) #[true, true, false, false, false, false, false, false, false, false, false, false, false] rfl rfl (any_of HT_.out (by kernel_rfl)) (fun _ _ _ h => h) (Or.inl ⟨by rfl, ?_⟩) ?_ ?_
          rotate_left
          ·intro w'
           go_simp
           with_reducible rfl
          rotate_left
          ·simp only [Act.put, List.setIfInBounds_toArray, List.set_cons_zero, List.set_cons_succ, i64_w, i32_w]
           rfl
          refine pure_ (i := 3) (N := some 59) (v := ?_) (a' := ?_) #[true, true, false, true, false, false, false, false, false, false, false, false, false] rfl rfl (any_of HT_.out (by kernel_rfl)) (fun _ _ _ h => h) (Or.inl ⟨by rfl, ?_⟩) ?_ ?_
          rotate_left
          ·intro w'
           go_simp
           with_reducible rfl
          rotate_left
          ·simp only [Act.put, List.setIfInBounds_toArray, List.set_cons_zero, List.set_cons_succ, i64_w, i32_w]
           rfl
          refine pure_ (i := 4) (N := some 60) (v := ?_) (a' := ?_) #[true, true, false, true, true, false, false, false, false, false, false, false, false] rfl rfl (any_of HT_.out (by kernel_rfl)) (fun _ _ _ h => h) (Or.inl ⟨by rfl, ?_⟩) ?_ ?_
          rotate_left
          ·intro w'
           go_simp
           with_reducible rfl
          rotate_left
          ·simp only [Act.put, List.setIfInBounds_toArray, List.set_cons_zero, List.set_cons_succ, i64_w, i32_w]
           rfl
          refine pure_ (i := 8) (N := some 64) (v := ?_) (a' := ?_) #[true, true, false, true, true, false, false, false, true, false, false, false, false] rfl rfl (any_of HT_.out (by kernel_rfl)) (fun _ _ _ h => h) (Or.inl ⟨by rfl, ?_⟩) ?_ ?_
          rotate_left
          ·intro w'
           go_simp
           with_reducible rfl
          rotate_left
          ·simp only [Act.put, List.setIfInBounds_toArray, List.set_cons_zero, List.set_cons_succ, i64_w, i32_w]
           rfl
          refine take_ (i := 2) (N := some 58) (v := ?_) (a' := ?_) #[true, true, true, true, true, false, false, false, true, false, false, false, false] rfl rfl (take_ofW HT_.out HW_.out (by kernel_rfl)) (fun _ _ _ h => h) (Or.inl ⟨by rfl, ?_⟩) hHeld ?_ ?_
          rotate_left
          ·rintro w' ⟨s0, s1, s2⟩
           go_simp
           with_reducible rfl
          rotate_left
          ·simp only [Act.put, List.setIfInBounds_toArray, List.set_cons_zero, List.set_cons_succ, i64_w, i32_w]
           rfl
          refine take_ (i := 5) (N := some 61) (v := ?_) (a' := ?_) #[true, true, true, true, true, true, false, false, true, false, false, false, false] rfl rfl (take_ofW HT_.out HW_.out (by kernel_rfl)) (fun _ _ _ h => h) (Or.inl ⟨by rfl, ?_⟩) hHeld ?_ ?_
          rotate_left
          ·rintro w' ⟨s0, s1, s2⟩
           go_simp
           with_reducible rfl
          rotate_left
          ·simp only [Act.put, List.setIfInBounds_toArray, List.set_cons_zero, List.set_cons_succ, i64_w, i32_w]
           rfl
          refine pure_ (i := 6) (N := some 62) (v := ?_) (a' := ?_) #[true, true, true, true, true, true, true, false, true, false, false, false, false] rfl rfl (any_of HT_.out (by kernel_rfl)) (fun _ _ _ h => h) (Or.inl ⟨by rfl, ?_⟩) ?_ ?_
          rotate_left
          ·intro w'
           go_simp
           with_reducible rfl
          rotate_left
          ·simp only [Act.put, List.setIfInBounds_toArray, List.set_cons_zero, List.set_cons_succ, i64_w, i32_w]
           rfl
          refine take_ (i := 7) (N := some 63) (v := ?_) (a' := ?_) #[true, true, true, true, true, true, true, true, true, false, false, false, false] rfl rfl (take_ofW HT_.out HW_.out (by kernel_rfl)) (fun _ _ _ h => h) (Or.inl ⟨by rfl, ?_⟩) hHeld ?_ ?_
          rotate_left
          ·rintro w' ⟨s0, s1, s2⟩
           go_simp
           with_reducible rfl
          rotate_left
          ·simp only [Act.put, List.setIfInBounds_toArray, List.set_cons_zero, List.set_cons_succ, i64_w, i32_w]
           rfl
          refine take_ (i := 9) (N := some 65) (v := ?_) (a' := ?_) #[true, true, true, true, true, true, true, true, true, true, false, false, false] rfl rfl (take_ofW HT_.out HW_.out (by kernel_rfl)) (fun _ _ _ h => h) (Or.inl ⟨by rfl, ?_⟩) hHeld ?_ ?_
          rotate_left
          ·rintro w' ⟨s0, s1, s2⟩
           go_simp
           with_reducible rfl
          rotate_left
          ·simp only [Act.put, List.setIfInBounds_toArray, List.set_cons_zero, List.set_cons_succ, i64_w, i32_w]
           rfl
          refine one_ (i := 10) (N := some 66) #[true, true, true, true, true, true, true, true, true, true, true, false, false] rfl rfl (one_of HT_.out (by kernel_rfl)) (by decide) (fun K hK => ?_)
          refine goes_ Tryz.func164 (by kernel_rfl) rfl #[.slice A244_0 (rd_L4 y241 a1_0).length c244_0, .int .i64 a1_1] (by rfl) rfl rfl (by (try simp only [List.map_toArray, List.map_cons, List.map_nil]); first | done | rfl | (simp only [List.length_drop, List.length_take]; rfl)) ?_
          with_reducible refine (rf05_Count.calls k1 _ _ (rd_L4 y241 a1_0) a1_1 t245 _ ?side1 ?side2 A44.out).mono ?_
          (case side1 => repeat (first | exact (by repeat (first | (with_reducible exact HR244_0.out) | (with_reducible refine Kd.C_alloc ?_ _) | (with_reducible refine Kd.C_drewN ?_ _) | (with_reducible refine Kd.C_drew ?_) | exact HR244_0.out)) | (with_reducible refine Kd.C_alloc ?_ _) | (with_reducible refine Kd.C_drewN ?_ _) | (with_reducible refine Kd.C_drew ?_)))
          (case side2 => exact HC244_0.out)
          rintro e w54 ⟨v246, rfl, ho0, hb⟩
          have HS2_ := (hb.cell (World.block_lt_of_cell? _ _ (hHeld.2.2))).trans (hHeld.2.2)
          refine ⟨_, rfl, ?_⟩
          have n0_ := Aside0.mk (Kd.V_elder' (by (with_reducible repeat (first | apply Kd.V_alloc | apply Kd.V_drewN | apply Kd.V_drew)); exact HO_230000.out) (Kd.R_base ho0) hb)
          have n1_ := Aside0.mk (Kd.R_elder' (rK HO_230001) (Kd.R_base ho0) hb)
          have n2_ := Aside0.mk (Kd.N_elder' (by (with_reducible repeat (first | apply Kd.N_alloc | apply Kd.N_drewN | apply Kd.N_drew)); exact HO243.out) (Kd.R_base ho0) hb)
          have n3_ := Aside0.mk (Kd.V_elder' (by (with_reducible repeat (first | apply Kd.V_alloc | apply Kd.V_drewN | apply Kd.V_drew)); exact HL244_0.out) (Kd.R_base ho0) hb)
          have n4_ := Aside0.mk (Kd.R_lower (Kd.R_new' (Kd.R_newM (M := fun k_ => (P0_1_ k_ ∨ w.heap.size ≤ k_)) ho0 (by first | exact HK.out.1 | exact (show Kept w _ (fun k_ => P0_1_ k_) from by repeat (first | (with_reducible first | exact HK.out | apply Kept.alloc | apply Kept.drewN | apply Kept.drew | refine Kept.setCell ?_ (.inr GW229.out) _ | refine Kept.setCell ?_ (.inr GW230.out) _ | refine Kept.setCell ?_ (.inr GW231.out) _) | exact HK.out)).1) (fun k_ h_ => .inr h_)) (Kd.R_lt (rK HO_230001))) (below_size (bH HB)))
          have n5_ := Aside0.mk (blk_below (g := gb229) (o := .cells #[.slice A0_0 l0_0.length c0_0, u230001, .int .i64 x230002_1] 184 (0, 0)) (bK BK229) hb)
          have n6_ := Aside0.mk (blk_below (g := gb230) (o := .cells #[.int .i64 a1_0, .int .i64 a1_1] 122 (0, 0)) (bK BK230) hb)
          have n7_ := Aside0.mk (blk_below (g := gb231) (o := .cells #[.slice none 0 0, .slice none 0 0, .int .i64 0] 184 (0, 0)) (bK BK231) hb)
          have n8_ := Aside0.mk (Kd.C_below (by repeat (first | (with_reducible exact HR244_0.out) | (with_reducible refine Kd.C_alloc ?_ _) | (with_reducible refine Kd.C_drewN ?_ _) | (with_reducible refine Kd.C_drew ?_) | exact HR244_0.out)) hb)
          have n9_ := Aside0.mk (Kept.below (S := (fun k_ => P0_1_ k_)) (by repeat (first | (with_reducible first | exact HK.out | apply Kept.alloc | apply Kept.drewN | apply Kept.drew | refine Kept.setCell ?_ (.inr GW229.out) _ | refine Kept.setCell ?_ (.inr GW230.out) _ | refine Kept.setCell ?_ (.inr GW231.out) _) | exact HK.out)) hb)
          have n10_ := Aside0.mk (below_step (bH HB) hb)
          clear HO_230000
          clear HO_230001
          clear HO243
          clear HL244_0
          clear BK229
          clear BK230
          clear BK231
          clear HR244_0
          clear HK
          clear HB
          have HO_230000 := n0_
          have HO_230001 := n1_
          have HO243 := n2_
          have HL244_0 := n3_
          have HO247 := n4_
          have BK229 := n5_
          have BK230 := n6_
          have BK231 := n7_
          have HR244_0 := n8_
          have HK := n9_
          have HB := n10_
          clear n0_ n1_ n2_ n3_ n4_ n5_ n6_ n7_ n8_ n9_ n10_
          (try clear hb)
          (try clear hb2)
          (try clear hk)
          (try clear hi)
          (try clear ho0)
          have p45 : 0 ≤ (a1_0 : Int) := of_decide_eq_true (by first | (with_reducible assumption) | assumption)
          have q45 : (a1_0 : Int) < ((y241.length : Int) : Int) := of_decide_eq_true (by first | (with_reducible assumption) | assumption)
          obtain ⟨go45, co45, eo45, gb45, gl45, cl45, HG45⟩ := Kd.N_form HO243.out (by omega)
          (first | cases eo45 | (injection eo45 with ea_ en_ ec_; (first | subst ea_ | (injection ea_ with ea_; subst ea_)); subst ec_; clear en_))
          have GB45 := Aside0.mk gb45
          have GG45 := Aside0.mk HG45
          clear gb45 gl45 HG45
          have HMgo45 := Aside0.mk (show (P0_1_ go45 ∨ w.heap.size ≤ go45) from .inr (Kd.N_base HO243.out _ rfl))
          (first | simp only [add_plain] at hx244_0 | skip)
          obtain ⟨ce45, hcl45, hM45, hcc45, hfr45⟩ := Kd.N_elem HO243.out [] (a1_0 : Int) p45 q45
          obtain ⟨ua45_0, uc45_0, rfl, ul45_0, ge45_0⟩ := Kd.FK_slice_open hM45
          have hx45_0 := hcc45 0 _ rfl
          have hf45_0 := hfr45 0
          (try simp only [show ((Kd.slice 3 (Kd.int .i64))).sz = 1 from rfl, Nat.mul_one, Nat.add_zero] at hx45_0)
          (try simp only [show ((Kd.slice 3 (Kd.int .i64))).sz = 1 from rfl, Nat.mul_one, Nat.add_zero] at hf45_0)
          clear hcl45 hcc45 hfr45 hM45
          replace p45 := eq_true p45
          replace q45 := eq_true q45
          obtain ⟨Az176, cz176, ez176⟩ := Kd.R_slice HO247.out
          subst ez176
          have HX55 := Aside0.mk (show Kd.N (Kd.slice 3 (Kd.int .i64)) 83 _ w.heap.size (fun k_ => ((P0_1_ k_ ∨ P0_0_ k_) ∨ w.heap.size ≤ k_) ∧ some k_ ≠ (u230001 : Value).ownBlock ∧ some k_ ≠ ((Value.slice Az176 t245.length cz176) : Value).ownBlock ∧ k_ ≠ gb229 ∧ k_ ≠ gb230 ∧ k_ ≠ gb231) (.slice (some ⟨go45, 0, none⟩) y241.length co53) y241 from (Kd.N_mono (HO243.out) (fun k_ hk => ⟨hk.1.1, ⟨hk.1.2.1, ⟨hk.2, ⟨hk.1.2.2.1, ⟨hk.1.2.2.2.1, hk.1.2.2.2.2⟩⟩⟩⟩⟩)))
          replace HX55 := Aside0.mk (show Kd.N (Kd.slice 3 (Kd.int .i64)) 83 _ w.heap.size (fun k_ => ((P0_1_ k_ ∨ P0_0_ k_) ∨ w.heap.size ≤ k_) ∧ some k_ ≠ (u230001 : Value).ownBlock ∧ k_ ≠ gb229 ∧ k_ ≠ gb230 ∧ k_ ≠ gb231) (.slice (some ⟨go45, 0, none⟩) y241.length co53) y241 from Kd.N_mono HX55.out (fun k_ hk => ⟨hk.1, ⟨hk.2.1, ⟨hk.2.2.2.1, ⟨hk.2.2.2.2.1, hk.2.2.2.2.2⟩⟩⟩⟩))
          obtain ⟨ce55, hcl55, hM55, hcc55, hfr55⟩ := Kd.N_elem HX55.out [] (a1_0 : Int) (of_decide_eq_true (by first | (with_reducible assumption) | assumption)) (by have h_ : (a1_0 : Int) < ((y241.length : Int) : Int) := of_decide_eq_true (by first | (with_reducible assumption) | assumption); first | exact h_ | (have e_ := (Kd.N_reads' HO243.out).1; omega) | simpa using h_)
          obtain ⟨ua55_0, uc55_0, rfl, ul55_0, ge55_0⟩ := Kd.FK_slice_open hM55
          have HP55 := (Kd.N_seg HX55.out (a1_0 : Int) (of_decide_eq_true (by first | (with_reducible assumption) | assumption)) (by have h_ : (a1_0 : Int) < ((y241.length : Int) : Int) := of_decide_eq_true (by first | (with_reducible assumption) | assumption); first | exact h_ | (have e_ := (Kd.N_reads' HO243.out).1; omega) | simpa using h_) (seg := [(Value.slice Az176 t245.length cz176)]) (j := 0) hcl55 hcc55 (show 1 ≤ 1 from by decide) (x' := t245) (Kd.FK_slice_mk (Kd.R_reads' (Kd.R_mono (ok' := (fun k_ => ((fun k_ => ((P0_1_ k_ ∨ P0_0_ k_) ∨ w.heap.size ≤ k_) ∧ some k_ ≠ (u230001 : Value).ownBlock ∧ k_ ≠ gb229 ∧ k_ ≠ gb230 ∧ k_ ≠ gb231)) k_ ∧ k_ ≠ go45)) (Kd.R_types (Kd.R_types (Kd.R_types (Kd.R_apart' (HO247.out) (Kd.N_typed HO243.out) (by decide)) BK229.out (by decide)) BK230.out (by decide)) BK231.out (by decide)) (fun k_ hk => ⟨⟨(Or.imp_left (fun h_ => (.inl h_)) (hk.1.1.1.1.1.1)), ⟨hk.1.1.1.1.2, ⟨hk.1.1.2, ⟨hk.1.2, hk.2⟩⟩⟩⟩, fun e_ => (hk.1.1.1.2) (by rw [e_]; rfl)⟩))).2.1 (Kd.R_F (Kd.R_mono (ok' := (fun k_ => ((fun k_ => ((P0_1_ k_ ∨ P0_0_ k_) ∨ w.heap.size ≤ k_) ∧ some k_ ≠ (u230001 : Value).ownBlock ∧ k_ ≠ gb229 ∧ k_ ≠ gb230 ∧ k_ ≠ gb231)) k_ ∧ k_ ≠ go45)) (Kd.R_types (Kd.R_types (Kd.R_types (Kd.R_apart' (HO247.out) (Kd.N_typed HO243.out) (by decide)) BK229.out (by decide)) BK230.out (by decide)) BK231.out (by decide)) (fun k_ hk => ⟨⟨(Or.imp_left (fun h_ => (.inl h_)) (hk.1.1.1.1.1.1)), ⟨hk.1.1.1.1.2, ⟨hk.1.1.2, ⟨hk.1.2, hk.2⟩⟩⟩⟩, fun e_ => (hk.1.1.1.2) (by rw [e_]; rfl)⟩)))) (fun _ hk => hk)).1
          (try simp only [show ((Kd.slice 3 (Kd.int .i64))).sz = 1 from rfl, Nat.mul_one, Nat.add_zero] at HP55)
          rw [← Ny248.out] at HP55
          have HQ55 := Aside0.mk HP55
          clear hcl55 hcc55 hfr55 hM55 HP55
          refine hK.out _ _ ⟨(blk_cell BK230.out 0).trans rfl, (blk_cell BK230.out 1).trans rfl, HS2_⟩ (fun hHeld => ?_)
          clear hK K
          refine norm_ (a' := ?_) ?_ ?_
          rotate_left
          ·show Act.put _ (some 66) _ = _
           simp only [Act.put, List.setIfInBounds_toArray, List.set_cons_zero, List.set_cons_succ, i64_w, i32_w]
           rfl
          refine pure_ (i := 11) (N := some 67) (v := ?_) (a' := ?_) #[true, true, true, true, true, true, true, true, true, true, true, true, false] rfl rfl (any_of HT_.out (by kernel_rfl)) (fun _ _ _ h => h) (Or.inl ⟨by rfl, ?_⟩) ?_ ?_
          rotate_left
          ·intro w'
           go_simp
           with_reducible rfl
          rotate_left
          ·simp only [Act.put, List.setIfInBounds_toArray, List.set_cons_zero, List.set_cons_succ, i64_w, i32_w]
           rfl
          refine last_ (i := 12) (N := none) #[true, true, true, true, true, true, true, true, true, true, true, true, true] rfl rfl (one_of HT_.out (by kernel_rfl)) (by decide) (fun K hK => ?_)
          refine skip_ (w1 := ?_) (by rfl) rfl ?_ ?_
          rotate_left
          ·go_simp
           rfl
          refine hK.out _ _ ?_
          clear hK K
          refine done_ (done_of HT_.out (by kernel_rfl)) ?_
          have n0_ : Aside0 (Kd.V (Kd.slice 3 (Kd.int .i64)) 83 (w54.setCell ⟨go45, (a1_0 : Int).toNat, none⟩ ((Value.slice Az176 t245.length cz176))) w0.heap.size (fun k_ => ((P0_1_ k_ ∨ P0_0_ k_) ∨ w.heap.size ≤ k_) ∧ some k_ ≠ (u230001 : Value).ownBlock ∧ some k_ ≠ (.slice (some ⟨go45, 0, none⟩) y241.length co53 : Value).ownBlock ∧ k_ ≠ gb229 ∧ k_ ≠ gb230 ∧ k_ ≠ gb231) (.slice A0_0 l0_0.length c0_0) l0_0) := ⟨by (with_reducible repeat (first | apply Kd.V_alloc | apply Kd.V_drewN | apply Kd.V_drew)); exact Kd.V_mono (Kd.V_far (p := ⟨go45, (a1_0 : Int).toNat, none⟩) (Kd.V_mono HO_230000.out (fun k_ hk => (⟨hk, fun e_ => hk.1.2 (by rw [e_]; rfl)⟩ : _ ∧ k_ ≠ go45))) (fun _ hk => hk.2) ((Value.slice Az176 t245.length cz176))) (fun _ hk => ⟨hk.1.1.1.1, ⟨hk.1.1.1.2.1, ⟨hk.1.1.2, ⟨hk.1.1.1.2.2.1, ⟨hk.1.1.1.2.2.2.1, hk.1.1.1.2.2.2.2⟩⟩⟩⟩⟩)⟩
          have n1_ : Aside0 (Kd.R (Kd.int .i64) 3 (w54.setCell ⟨go45, (a1_0 : Int).toNat, none⟩ ((Value.slice Az176 t245.length cz176))) w0.heap.size (fun k_ => (P0_1_ k_ ∨ w.heap.size ≤ k_)) u230001 x230001_1) := ⟨by (with_reducible repeat (first | apply Kd.R_alloc | apply Kd.R_drewN | apply Kd.R_drew)); exact Kd.R_mono (Kd.R_far (p := ⟨go45, (a1_0 : Int).toNat, none⟩) (Kd.R_types HO_230001.out GG45.out (by decide)) (fun _ hk => hk.2) ((Value.slice Az176 t245.length cz176))) (fun _ hk => hk.1.1)⟩
          have n2_ : Aside0 (Kd.N (Kd.slice 3 (Kd.int .i64)) 83 (w54.setCell ⟨go45, (a1_0 : Int).toNat, none⟩ ((Value.slice Az176 t245.length cz176))) w.heap.size (fun k_ => ((P0_1_ k_ ∨ P0_0_ k_) ∨ w.heap.size ≤ k_) ∧ some k_ ≠ (u230001 : Value).ownBlock ∧ k_ ≠ gb229 ∧ k_ ≠ gb230 ∧ k_ ≠ gb231) (.slice (some ⟨go45, 0, none⟩) y241.length co53) y248) := ⟨by (with_reducible repeat (first | apply Kd.N_alloc | apply Kd.N_drewN | apply Kd.N_drew)); exact HQ55.out⟩
          have n3_ : Aside0 (Kd.V (Kd.int .i64) 3 (w54.setCell ⟨go45, (a1_0 : Int).toNat, none⟩ ((Value.slice Az176 t245.length cz176))) w0.heap.size (fun k_ => ((P0_1_ k_ ∨ P0_0_ k_) ∨ w.heap.size ≤ k_) ∧ some k_ ≠ (u230001 : Value).ownBlock ∧ some k_ ≠ (.slice (some ⟨go45, 0, none⟩) y241.length co53 : Value).ownBlock ∧ k_ ≠ gb229 ∧ k_ ≠ gb230 ∧ k_ ≠ gb231) (.slice A244_0 (rd_L4 y241 a1_0).length c244_0) (rd_L4 y241 a1_0)) := ⟨by (with_reducible repeat (first | apply Kd.V_alloc | apply Kd.V_drewN | apply Kd.V_drew)); exact Kd.V_mono (Kd.V_far (p := ⟨go45, (a1_0 : Int).toNat, none⟩) (Kd.V_mono HL244_0.out (fun k_ hk => (⟨hk, fun e_ => hk.1.2 (by rw [e_]; rfl)⟩ : _ ∧ k_ ≠ go45))) (fun _ hk => hk.2) ((Value.slice Az176 t245.length cz176))) (fun _ hk => ⟨hk.1.1.1.1, ⟨hk.1.1.1.2.1, ⟨hk.1.1.2, ⟨hk.1.1.1.2.2.1, ⟨hk.1.1.1.2.2.2.1, hk.1.1.1.2.2.2.2⟩⟩⟩⟩⟩)⟩
          have n4_ : Aside0 ((w54.setCell ⟨go45, (a1_0 : Int).toNat, none⟩ ((Value.slice Az176 t245.length cz176))).heap[gb229]? = some (.cells #[.slice A0_0 l0_0.length c0_0, u230001, .int .i64 x230002_1] 184 (0, 0))) := ⟨by (with_reducible repeat (first | refine blk_drewN ?_ _ | refine blk_drew ?_ | refine blk_alloc ?_ _)); refine blk_far ?_ (by have h_ := Kd.N_away HX55.out (fun _ hk => hk.2.2.1); intro e_; exact h_ (by rw [e_]; rfl)) _; (with_reducible repeat (first | refine blk_drewN ?_ _ | refine blk_drew ?_ | refine blk_alloc ?_ _)); exact BK229.out⟩
          have n5_ : Aside0 ((w54.setCell ⟨go45, (a1_0 : Int).toNat, none⟩ ((Value.slice Az176 t245.length cz176))).heap[gb230]? = some (.cells #[.int .i64 a1_0, .int .i64 a1_1] 122 (0, 0))) := ⟨by (with_reducible repeat (first | refine blk_drewN ?_ _ | refine blk_drew ?_ | refine blk_alloc ?_ _)); refine blk_far ?_ (by have h_ := Kd.N_away HX55.out (fun _ hk => hk.2.2.2.1); intro e_; exact h_ (by rw [e_]; rfl)) _; (with_reducible repeat (first | refine blk_drewN ?_ _ | refine blk_drew ?_ | refine blk_alloc ?_ _)); exact BK230.out⟩
          have n6_ : Aside0 ((w54.setCell ⟨go45, (a1_0 : Int).toNat, none⟩ ((Value.slice Az176 t245.length cz176))).heap[gb231]? = some (.cells #[.slice none 0 0, .slice none 0 0, .int .i64 0] 184 (0, 0))) := ⟨by (with_reducible repeat (first | refine blk_drewN ?_ _ | refine blk_drew ?_ | refine blk_alloc ?_ _)); refine blk_far ?_ (by have h_ := Kd.N_away HX55.out (fun _ hk => hk.2.2.2.2); intro e_; exact h_ (by rw [e_]; rfl)) _; (with_reducible repeat (first | refine blk_drewN ?_ _ | refine blk_drew ?_ | refine blk_alloc ?_ _)); exact BK231.out⟩
          have n7_ : Aside0 (Kept w (w54.setCell ⟨go45, (a1_0 : Int).toNat, none⟩ ((Value.slice Az176 t245.length cz176))) (fun k_ => P0_1_ k_)) := ⟨by repeat (first | (with_reducible first | exact HK.out | apply Kept.alloc | apply Kept.drewN | apply Kept.drew | refine Kept.setCell ?_ HMgo45.out _ | refine Kept.setCell ?_ (.inr GW229.out) _ | refine Kept.setCell ?_ (.inr GW230.out) _ | refine Kept.setCell ?_ (.inr GW231.out) _) | exact HK.out)⟩
          have n8_ : Aside0 (Below w0.heap.size w0 (w54.setCell ⟨go45, (a1_0 : Int).toNat, none⟩ ((Value.slice Az176 t245.length cz176)))) := ⟨by repeat (first | (with_reducible first | exact HB.out | apply below_alloc | apply pw_below_drewN | apply below_drew1 | refine below_set ?_ (Nat.le_trans HW0.out GB45.out) | refine below_set ?_ GE229.out | refine below_set ?_ GE230.out | refine below_set ?_ GE231.out) | exact HB.out)⟩
          (try clear HO_230000)
          (try clear HO_230001)
          (try clear HO243)
          (try clear HL244_0)
          (try clear BK229)
          (try clear BK230)
          (try clear BK231)
          (try clear HK)
          (try clear HB)
          generalize (w54.setCell ⟨go45, (a1_0 : Int).toNat, none⟩ ((Value.slice Az176 t245.length cz176))) = w56 at n0_ n1_ n2_ n3_ n4_ n5_ n6_ n7_ n8_ ⊢
          have HO_230000 := n0_
          have HO_230001 := n1_
          have HO243 := n2_
          have HL244_0 := n3_
          have BK229 := n4_
          have BK230 := n5_
          have BK231 := n6_
          have HK := n7_
          have HB := n8_
          clear n0_ n1_ n2_ n3_ n4_ n5_ n6_ n7_ n8_
          have hcz57_0 : w56.cell? ⟨gb229, 0, none⟩ = some (.slice A0_0 l0_0.length c0_0) := (blk_cell BK229.out 0).trans rfl
          have hcz57_1 : w56.cell? ⟨gb229, 1, none⟩ = some (u230001) := (blk_cell BK229.out 1).trans rfl
          have hcz57_2 : w56.cell? ⟨gb229, 2, none⟩ = some (.int .i64 x230002_1) := (blk_cell BK229.out 2).trans rfl
          have hfz57_0 := blk_frozen BK229.out 0
          have hfz57_1 := blk_frozen BK229.out 1
          have hfz57_2 := blk_frozen BK229.out 2
          have hcz58_0 : w56.cell? ⟨gb231, 0, none⟩ = some (.slice none 0 0) := (blk_cell BK231.out 0).trans rfl
          have hcz58_1 : w56.cell? ⟨gb231, 1, none⟩ = some (.slice none 0 0) := (blk_cell BK231.out 1).trans rfl
          have hcz58_2 : w56.cell? ⟨gb231, 2, none⟩ = some (.int .i64 0) := (blk_cell BK231.out 2).trans rfl
          have hfz58_0 := blk_frozen BK231.out 0
          have hfz58_1 := blk_frozen BK231.out 1
          have hfz58_2 := blk_frozen BK231.out 2
          obtain ⟨Ao59, co59, eo59⟩ := Kd.R_slice HO_230001.out
          subst eo59
          try go_wp2
          refine bodyPost_ret (results_ct rfl _ _ gb231 184 #[.slice (some ⟨go45, 0, none⟩) y241.length co53, .slice Ao59 x230001_1.length co59, .int .i64 x230002_1] (0, 0) _ rfl (by (with_reducible repeat (first | refine blk_drewN ?_ _ | refine blk_drew ?_ | refine blk_alloc ?_ _)); refine blk_put (cs := #[.slice (some ⟨go45, 0, none⟩) y241.length co53, .slice Ao59 x230001_1.length co59, .int .i64 0]) ?_ 2 _ rfl; (with_reducible repeat (first | refine blk_drewN ?_ _ | refine blk_drew ?_ | refine blk_alloc ?_ _)); refine blk_put (cs := #[.slice (some ⟨go45, 0, none⟩) y241.length co53, .slice none 0 0, .int .i64 0]) ?_ 1 _ rfl; (with_reducible repeat (first | refine blk_drewN ?_ _ | refine blk_drew ?_ | refine blk_alloc ?_ _)); refine blk_put (cs := #[.slice none 0 0, .slice none 0 0, .int .i64 0]) ?_ 0 _ rfl; (with_reducible repeat (first | refine blk_drewN ?_ _ | refine blk_drew ?_ | refine blk_alloc ?_ _)); refine blk_far ?_ NB231_229.out _; (with_reducible repeat (first | refine blk_drewN ?_ _ | refine blk_drew ?_ | refine blk_alloc ?_ _)); exact BK231.out) Tryz.underlying184 rfl (by kernel_rfl)) rfl ?_
          exact ⟨_, _, by first | rfl | (simp [errW_none, errW_some] <;> rfl) | (simp [*, errW_none, errW_some] <;> rfl), Kd.N_V (by (with_reducible repeat (first | apply Kd.N_alloc | apply Kd.N_drewN | apply Kd.N_drew)); exact Kd.N_mono (Kd.N_far (p := ⟨gb231, 2, none⟩) (Kd.N_far (p := ⟨gb231, 1, none⟩) (Kd.N_far (p := ⟨gb231, 0, none⟩) (Kd.N_far (p := ⟨gb229, 0, none⟩) (Kd.N_mono (Kd.N_mono HO243.out (fun k_ hk => (⟨hk, hk.2.2.1⟩ : _ ∧ k_ ≠ gb229))) (fun k_ hk => (⟨hk, hk.1.2.2.2.2⟩ : _ ∧ k_ ≠ gb231))) (fun _ hk => hk.1.2) (.slice (some ⟨go45, 0, none⟩) y241.length co53)) (fun _ hk => hk.2) (.slice (some ⟨go45, 0, none⟩) y241.length co53)) (fun _ hk => hk.2) (.slice Ao59 x230001_1.length co59)) (fun _ hk => hk.2) (.int .i64 x230002_1)) (fun _ hk => ⟨hk.1.1.1, hk.1.1.2.1⟩)), by (with_reducible repeat (first | apply Kd.R_alloc | apply Kd.R_drewN | apply Kd.R_drew)); exact Kd.R_mono (Kd.R_far (p := ⟨gb231, 2, none⟩) (Kd.R_far (p := ⟨gb231, 1, none⟩) (Kd.R_far (p := ⟨gb231, 0, none⟩) (Kd.R_far (p := ⟨gb229, 0, none⟩) (Kd.R_types (Kd.R_types HO_230001.out BK229.out (by decide)) BK231.out (by decide)) (fun _ hk => hk.1.2) (.slice (some ⟨go45, 0, none⟩) y241.length co53)) (fun _ hk => hk.2) (.slice (some ⟨go45, 0, none⟩) y241.length co53)) (fun _ hk => hk.2) (.slice Ao59 x230001_1.length co59)) (fun _ hk => hk.2) (.int .i64 x230002_1)) (fun _ hk => hk.1.1), bH HB, by repeat (first | (with_reducible first | exact HK.out | apply Kept.alloc | apply Kept.drewN | apply Kept.drew | refine Kept.setCell ?_ (.inr GW229.out) _ | refine Kept.setCell ?_ (.inr GW230.out) _ | refine Kept.setCell ?_ (.inr GW231.out) _) | exact HK.out)⟩
         ·rw [if_neg c43] at H
          exact absurd H (by simp)
        ·rw [if_neg c42] at H
         exact absurd H (by simp)
       ·rw [if_neg c41] at H
        exact absurd H (by simp)
      ·rw [if_neg c40] at H
       have c40b0 : decide (0 ≤ a1_0) = false := decide_eq_false c40
       clear c40
       simp only [Option.some.injEq, Prod.mk.injEq] at H
       obtain ⟨rfl, rfl, rfl, rfl⟩ := H
       have hnb60 := NB229_230.out
       have hnc60 := NB230_229.out
       have hnb61 := NB229_231.out
       have hnc61 := NB231_229.out
       have hcz62_0 : wr.cell? ⟨gb229, 0, none⟩ = some (.slice A0_0 l0_0.length c0_0) := (blk_cell BK229.out 0).trans rfl
       have hcz62_1 : wr.cell? ⟨gb229, 1, none⟩ = some (u230001) := (blk_cell BK229.out 1).trans rfl
       have hcz62_2 : wr.cell? ⟨gb229, 2, none⟩ = some (.int .i64 x230002_1) := (blk_cell BK229.out 2).trans rfl
       have hfz62_0 := blk_frozen BK229.out 0
       have hfz62_1 := blk_frozen BK229.out 1
       have hfz62_2 := blk_frozen BK229.out 2
       have hnb63 := NB230_231.out
       have hnc63 := NB231_230.out
       have hcz64_0 : wr.cell? ⟨gb230, 0, none⟩ = some (.int .i64 a1_0) := (blk_cell BK230.out 0).trans rfl
       have hcz64_1 : wr.cell? ⟨gb230, 1, none⟩ = some (.int .i64 a1_1) := (blk_cell BK230.out 1).trans rfl
       have hfz64_0 := blk_frozen BK230.out 0
       have hfz64_1 := blk_frozen BK230.out 1
       have hcz65_0 : wr.cell? ⟨gb231, 0, none⟩ = some (.slice none 0 0) := (blk_cell BK231.out 0).trans rfl
       have hcz65_1 : wr.cell? ⟨gb231, 1, none⟩ = some (.slice none 0 0) := (blk_cell BK231.out 1).trans rfl
       have hcz65_2 : wr.cell? ⟨gb231, 2, none⟩ = some (.int .i64 0) := (blk_cell BK231.out 2).trans rfl
       have hfz65_0 := blk_frozen BK231.out 0
       have hfz65_1 := blk_frozen BK231.out 1
       have hfz65_2 := blk_frozen BK231.out 2
       obtain ⟨Ao66, co66, eo66⟩ := Kd.R_slice HO_230001.out
       subst eo66
       go_wp2
       refine bodyPost_ret (results_ct rfl _ _ gb231 184 #[.slice A0_0 l0_0.length c0_0, .slice Ao66 x230001_1.length co66, .int .i64 x230002_1] (0, 0) _ rfl (by (with_reducible repeat (first | refine blk_drewN ?_ _ | refine blk_drew ?_ | refine blk_alloc ?_ _)); refine blk_put (cs := #[.slice A0_0 l0_0.length c0_0, .slice Ao66 x230001_1.length co66, .int .i64 0]) ?_ 2 _ rfl; (with_reducible repeat (first | refine blk_drewN ?_ _ | refine blk_drew ?_ | refine blk_alloc ?_ _)); refine blk_put (cs := #[.slice A0_0 l0_0.length c0_0, .slice none 0 0, .int .i64 0]) ?_ 1 _ rfl; (with_reducible repeat (first | refine blk_drewN ?_ _ | refine blk_drew ?_ | refine blk_alloc ?_ _)); refine blk_put (cs := #[.slice none 0 0, .slice none 0 0, .int .i64 0]) ?_ 0 _ rfl; (with_reducible repeat (first | refine blk_drewN ?_ _ | refine blk_drew ?_ | refine blk_alloc ?_ _)); exact BK231.out) Tryz.underlying184 rfl (by kernel_rfl)) rfl ?_
       exact ⟨_, _, by first | rfl | (simp [errW_none, errW_some] <;> rfl) | (simp [*, errW_none, errW_some] <;> rfl), by (with_reducible repeat (first | apply Kd.V_alloc | apply Kd.V_drewN | apply Kd.V_drew)); exact Kd.V_mono (Kd.V_far (p := ⟨gb231, 2, none⟩) (Kd.V_far (p := ⟨gb231, 1, none⟩) (Kd.V_far (p := ⟨gb231, 0, none⟩) (Kd.V_mono HO_230000.out (fun k_ hk => (⟨hk, hk.2.2.2.2⟩ : _ ∧ k_ ≠ gb231))) (fun _ hk => hk.2) (.slice A0_0 l0_0.length c0_0)) (fun _ hk => hk.2) (.slice Ao66 x230001_1.length co66)) (fun _ hk => hk.2) (.int .i64 x230002_1)) (fun _ hk => ⟨hk.1.1, hk.1.2.1⟩), by (with_reducible repeat (first | apply Kd.R_alloc | apply Kd.R_drewN | apply Kd.R_drew)); exact Kd.R_mono (Kd.R_far (p := ⟨gb231, 2, none⟩) (Kd.R_far (p := ⟨gb231, 1, none⟩) (Kd.R_far (p := ⟨gb231, 0, none⟩) (Kd.R_types HO_230001.out BK231.out (by decide)) (fun _ hk => hk.2) (.slice A0_0 l0_0.length c0_0)) (fun _ hk => hk.2) (.slice Ao66 x230001_1.length co66)) (fun _ hk => hk.2) (.int .i64 x230002_1)) (fun _ hk => hk.1), bH HB, by repeat (first | (with_reducible first | exact HK.out | apply Kept.alloc | apply Kept.drewN | apply Kept.drew | refine Kept.setCell ?_ (.inr GW229.out) _ | refine Kept.setCell ?_ (.inr GW230.out) _ | refine Kept.setCell ?_ (.inr GW231.out) _) | exact HK.out)⟩
end Go.Proofs.YtbdbobjdlomjnaaGreatDoor.P
