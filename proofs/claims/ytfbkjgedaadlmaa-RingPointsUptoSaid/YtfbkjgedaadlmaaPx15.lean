/- Written for this claim by a program of this session (a turned copy of the print): Go functions as Lean functions, and that the Go code comes to just these answers; or a statement proved out of them. No condition. -/
import Derived.Test.YtfbkjgedaadlmaaPx0
import Derived.Test.YtfbkjgedaadlmaaPx2
import Derived.Test.YtfbkjgedaadlmaaPx5
import Derived.Test.YtfbkjgedaadlmaaPx6
import Derived.Test.YtfbkjgedaadlmaaPx7
import Derived.Test.YtfbkjgedaadlmaaPx11
import Derived.Test.YtfbkjgedaadlmaaPx12
import Derived.Test.YtfbkjgedaadlmaaPx13
import Derived.Test.YtfbkjgedaadlmaaPx14
namespace Go.Proofs.Ytfbkjgedaadlmaa.P
open Go.RowKit Go.Proofs.YtfbkjgedaadlmaaW.PrintWords Go.Proofs.YtfbkjgedaadlmaaW.PrintLast Go.Proofs.YtfbkjgedaadlmaaW.PrintMore Go.Proofs.Ytfbkjgedaadlmaa.X
attribute [local go_sem] max2_int min2_int max_two min_two max_three min_three max_four min_four   -- for this text's walks alone
set_option linter.unusedVariables false
set_option linter.unusedSimpArgs false

/-! ### lapidarylaw16_RingPoints: function 3 -/
mutual
def lapidarylaw16_RingPoints.j0 : Nat → List Int → Int → Bool → List (List (S42)) → List (List Int) → List (List Int) → Option (Bool)
 | 0, _, _, _, _, _, _ => none
 | k + 1, x1, x2, x26, x206000, x206001, x206002 => if x26 = true then ((lapidarylaw16_known.f k).bind fun t207 => (some t207)) else ((ring_Points.f k x206000 x206001 x206002 x1).bind fun bt208 => ((lapidaryref16_Points.f k x206000 x206001 x206002 x1).bind fun bt212 => ((ring_Arc.f k x206000 x206001 x206002 x2).bind fun bt216 => ((lapidaryref16_Arc.f k x206000 x206001 x206002 x2).bind fun bt220 => ((lapidaryref07_SamePoints.f k bt208.1 bt212.1).bind fun t224 => (if t224 = true then (if bt208.2 = bt212.2 then ((lapidaryref07_SamePoints.f k bt216.1 bt220.1).bind fun t225 => (if t225 = true then (lapidarylaw16_RingPoints.j1 k (bt216.2 != bt220.2) x206000 x206001 x206002) else (lapidarylaw16_RingPoints.j1 k true x206000 x206001 x206002))) else (lapidarylaw16_RingPoints.j1 k true x206000 x206001 x206002)) else (lapidarylaw16_RingPoints.j1 k true x206000 x206001 x206002)))))))
def lapidarylaw16_RingPoints.j1 : Nat → Bool → List (List (S42)) → List (List Int) → List (List Int) → Option (Bool)
 | 0, _, _, _, _ => none
 | k + 1, x71, x206000, x206001, x206002 => if x71 = true then (none) else (lapidarylaw16_RingPoints.l0 k 0 x206000 x206001 x206002)
def lapidarylaw16_RingPoints.l0 : Nat → Int → List (List (S42)) → List (List Int) → List (List Int) → Option (Bool)
 | 0, _, _, _, _ => none
 | k + 1, x15, x206000, x206001, x206002 => if x15 < (x206001.length : Int) then ((ring_Ring.f k x206000 x206001 x206002 x15).bind fun bt227 => (if 0 ≤ x15 then ((lapidaryref16_Points.f k x206000 x206001 x206002 (rd_L3 x206001 x15)).bind fun bt232 => ((lapidaryref07_SamePoints.f k bt227.1 bt232.1).bind fun t236 => (if t236 = true then (if bt227.2 = bt232.2 then (lapidarylaw16_RingPoints.l0 k (wrap64 (x15 + 1)) x206000 x206001 x206002) else (none)) else (none)))) else (none))) else ((lapidarylaw16_known.f k).bind fun t226 => (some t226))
end
def lapidarylaw16_RingPoints.f (k : Nat) (l0_0 : List (List (S42))) (l0_1 : List (List Int)) (l0_2 : List (List Int)) (l1 : List Int) (a2 : Int) : Option (Bool) := (lapidarylaw16_long.f k l0_0 l0_1 l0_2).bind fun t206 => (if t206 = true then (lapidarylaw16_RingPoints.j0 k l1 a2 true l0_0 l0_1 l0_2) else (lapidarylaw16_RingPoints.j0 k l1 a2 (decide ((l1.length : Int) > 40)) l0_0 l0_1 l0_2))
theorem lapidarylaw16_RingPoints.mono_l : ∀ k, (∀ y0 y1 y2 y3 y4 y5, LeO (lapidarylaw16_RingPoints.j0 k y0 y1 y2 y3 y4 y5) (lapidarylaw16_RingPoints.j0 (k + 1) y0 y1 y2 y3 y4 y5)) ∧ (∀ y0 y1 y2 y3, LeO (lapidarylaw16_RingPoints.j1 k y0 y1 y2 y3) (lapidarylaw16_RingPoints.j1 (k + 1) y0 y1 y2 y3)) ∧ (∀ y0 y1 y2 y3, LeO (lapidarylaw16_RingPoints.l0 k y0 y1 y2 y3) (lapidarylaw16_RingPoints.l0 (k + 1) y0 y1 y2 y3))
 | 0 => ⟨fun _ _ _ _ _ _ r h => by simp [lapidarylaw16_RingPoints.j0] at h, fun _ _ _ _ r h => by simp [lapidarylaw16_RingPoints.j1] at h, fun _ _ _ _ r h => by simp [lapidarylaw16_RingPoints.l0] at h⟩
 | k + 1 => by
  obtain ⟨ih0, ih1, ih2⟩ := lapidarylaw16_RingPoints.mono_l k
  refine ⟨?_, ?_, ?_⟩
  ·intro y0 y1 y2 y3 y4 y5
   unfold lapidarylaw16_RingPoints.j0
   repeat' first
   | (with_reducible exact ih0 _ _ _ _ _ _)
   | (with_reducible exact ih1 _ _ _ _)
   | (with_reducible exact ih2 _ _ _ _)
   | (with_reducible exact lapidarylaw16_known.mono _)
   | (with_reducible exact lapidarylaw16_long.mono _ _ _ _)
   | (with_reducible exact lapidaryref07_SamePoints.mono _ _ _)
   | (with_reducible exact lapidaryref16_Arc.mono _ _ _ _ _)
   | (with_reducible exact lapidaryref16_Points.mono _ _ _ _ _)
   | (with_reducible exact ring_Arc.mono _ _ _ _ _)
   | (with_reducible exact ring_Points.mono _ _ _ _ _)
   | (with_reducible exact ring_Ring.mono _ _ _ _ _)
   | (with_reducible exact LeO.refl _)
   | (with_reducible exact LeO.none _)
   | (with_reducible refine LeO.ite ?_ ?_)
   | (with_reducible refine LeO.bind ?_ (fun _ => ?_))
   | exact ih0 _ _ _ _ _ _
   | exact ih1 _ _ _ _
   | exact ih2 _ _ _ _
   | exact lapidarylaw16_known.mono _
   | exact lapidarylaw16_long.mono _ _ _ _
   | exact lapidaryref07_SamePoints.mono _ _ _
   | exact lapidaryref16_Arc.mono _ _ _ _ _
   | exact lapidaryref16_Points.mono _ _ _ _ _
   | exact ring_Arc.mono _ _ _ _ _
   | exact ring_Points.mono _ _ _ _ _
   | exact ring_Ring.mono _ _ _ _ _
   | exact LeO.none _
   | refine LeO.ite ?_ ?_
   | refine LeO.bind ?_ (fun _ => ?_)
  ·intro y0 y1 y2 y3
   unfold lapidarylaw16_RingPoints.j1
   repeat' first
   | (with_reducible exact ih0 _ _ _ _ _ _)
   | (with_reducible exact ih1 _ _ _ _)
   | (with_reducible exact ih2 _ _ _ _)
   | (with_reducible exact lapidarylaw16_known.mono _)
   | (with_reducible exact lapidarylaw16_long.mono _ _ _ _)
   | (with_reducible exact lapidaryref07_SamePoints.mono _ _ _)
   | (with_reducible exact lapidaryref16_Arc.mono _ _ _ _ _)
   | (with_reducible exact lapidaryref16_Points.mono _ _ _ _ _)
   | (with_reducible exact ring_Arc.mono _ _ _ _ _)
   | (with_reducible exact ring_Points.mono _ _ _ _ _)
   | (with_reducible exact ring_Ring.mono _ _ _ _ _)
   | (with_reducible exact LeO.refl _)
   | (with_reducible exact LeO.none _)
   | (with_reducible refine LeO.ite ?_ ?_)
   | (with_reducible refine LeO.bind ?_ (fun _ => ?_))
   | exact ih0 _ _ _ _ _ _
   | exact ih1 _ _ _ _
   | exact ih2 _ _ _ _
   | exact lapidarylaw16_known.mono _
   | exact lapidarylaw16_long.mono _ _ _ _
   | exact lapidaryref07_SamePoints.mono _ _ _
   | exact lapidaryref16_Arc.mono _ _ _ _ _
   | exact lapidaryref16_Points.mono _ _ _ _ _
   | exact ring_Arc.mono _ _ _ _ _
   | exact ring_Points.mono _ _ _ _ _
   | exact ring_Ring.mono _ _ _ _ _
   | exact LeO.none _
   | refine LeO.ite ?_ ?_
   | refine LeO.bind ?_ (fun _ => ?_)
  ·intro y0 y1 y2 y3
   unfold lapidarylaw16_RingPoints.l0
   repeat' first
   | (with_reducible exact ih0 _ _ _ _ _ _)
   | (with_reducible exact ih1 _ _ _ _)
   | (with_reducible exact ih2 _ _ _ _)
   | (with_reducible exact lapidarylaw16_known.mono _)
   | (with_reducible exact lapidarylaw16_long.mono _ _ _ _)
   | (with_reducible exact lapidaryref07_SamePoints.mono _ _ _)
   | (with_reducible exact lapidaryref16_Arc.mono _ _ _ _ _)
   | (with_reducible exact lapidaryref16_Points.mono _ _ _ _ _)
   | (with_reducible exact ring_Arc.mono _ _ _ _ _)
   | (with_reducible exact ring_Points.mono _ _ _ _ _)
   | (with_reducible exact ring_Ring.mono _ _ _ _ _)
   | (with_reducible exact LeO.refl _)
   | (with_reducible exact LeO.none _)
   | (with_reducible refine LeO.ite ?_ ?_)
   | (with_reducible refine LeO.bind ?_ (fun _ => ?_))
   | exact ih0 _ _ _ _ _ _
   | exact ih1 _ _ _ _
   | exact ih2 _ _ _ _
   | exact lapidarylaw16_known.mono _
   | exact lapidarylaw16_long.mono _ _ _ _
   | exact lapidaryref07_SamePoints.mono _ _ _
   | exact lapidaryref16_Arc.mono _ _ _ _ _
   | exact lapidaryref16_Points.mono _ _ _ _ _
   | exact ring_Arc.mono _ _ _ _ _
   | exact ring_Points.mono _ _ _ _ _
   | exact ring_Ring.mono _ _ _ _ _
   | exact LeO.none _
   | refine LeO.ite ?_ ?_
   | refine LeO.bind ?_ (fun _ => ?_)
theorem lapidarylaw16_RingPoints.mono : ∀ a0 a1 a2 a3 a4 k, LeO (lapidarylaw16_RingPoints.f k a0 a1 a2 a3 a4) (lapidarylaw16_RingPoints.f (k + 1) a0 a1 a2 a3 a4) := by
 intro a0 a1 a2 a3 a4 k
 obtain ⟨ih0, ih1, ih2⟩ := lapidarylaw16_RingPoints.mono_l k
 unfold lapidarylaw16_RingPoints.f
 repeat' first
   | (with_reducible exact ih0 _ _ _ _ _ _)
   | (with_reducible exact ih1 _ _ _ _)
   | (with_reducible exact ih2 _ _ _ _)
   | (with_reducible exact lapidarylaw16_known.mono _)
   | (with_reducible exact lapidarylaw16_long.mono _ _ _ _)
   | (with_reducible exact lapidaryref07_SamePoints.mono _ _ _)
   | (with_reducible exact lapidaryref16_Arc.mono _ _ _ _ _)
   | (with_reducible exact lapidaryref16_Points.mono _ _ _ _ _)
   | (with_reducible exact ring_Arc.mono _ _ _ _ _)
   | (with_reducible exact ring_Points.mono _ _ _ _ _)
   | (with_reducible exact ring_Ring.mono _ _ _ _ _)
   | (with_reducible exact LeO.refl _)
   | (with_reducible exact LeO.none _)
   | (with_reducible refine LeO.ite ?_ ?_)
   | (with_reducible refine LeO.bind ?_ (fun _ => ?_))
   | exact ih0 _ _ _ _ _ _
   | exact ih1 _ _ _ _
   | exact ih2 _ _ _ _
   | exact lapidarylaw16_known.mono _
   | exact lapidarylaw16_long.mono _ _ _ _
   | exact lapidaryref07_SamePoints.mono _ _ _
   | exact lapidaryref16_Arc.mono _ _ _ _ _
   | exact lapidaryref16_Points.mono _ _ _ _ _
   | exact ring_Arc.mono _ _ _ _ _
   | exact ring_Points.mono _ _ _ _ _
   | exact ring_Ring.mono _ _ _ _ _
   | exact LeO.none _
   | refine LeO.ite ?_ ?_
   | refine LeO.bind ?_ (fun _ => ?_)
def lapidarylaw16_RingPoints.T13 : Bool × List (List Nat × List Nat) := (true, [([], []), ([], []), ([1], [1]), ([], []), ([2, 3], [2, 3]), ([4], [4]), ([0, 5], [0, 5]), ([6], [6]), ([7], [7]), ([7], [7]), ([8, 6, 0, 1, 2, 3, 4, 5, 6, 7, 8], [8]), ([9, 10, 0, 1, 2, 3, 4, 5, 6, 7, 8, 9, 10], [9])])
def lapidarylaw16_RingPoints.B13 : List Nat := [0, 0, 2, 0, 14, 30, 63, 127, 255, 255, 511, 2047]
theorem lapidarylaw16_RingPoints.tab13 : rtab .any (opsOf Try.f3 13) = lapidarylaw16_RingPoints.T13 := by kernel_rfl
theorem lapidarylaw16_RingPoints.bits13 : waitsOk lapidarylaw16_RingPoints.T13.2 lapidarylaw16_RingPoints.B13 = true := by kernel_rfl
set_option maxHeartbeats 8000000 in
set_option maxRecDepth 100000 in
theorem lapidarylaw16_RingPoints.calls (k : Nat) (A0_0 : Option Addr) (c0_0 : Nat) (l0_0 : List (List (S42))) (A0_1 : Option Addr) (c0_1 : Nat) (l0_1 : List (List Int)) (A0_2 : Option Addr) (c0_2 : Nat) (l0_2 : List (List Int)) (A1 : Option Addr) (c1 : Nat) (l1 : List Int) (a2 : Int) (r : Bool) (w : World) (hr0_0 : Kd.C (Kd.slice 42 k42) w A0_0 l0_0.length l0_0) (hc0_0 : l0_0.length ≤ c0_0) (hr0_1 : Kd.C (Kd.slice 3 (Kd.int .i64)) w A0_1 l0_1.length l0_1) (hc0_1 : l0_1.length ≤ c0_1) (hr0_2 : Kd.C (Kd.slice 3 (Kd.int .i64)) w A0_2 l0_2.length l0_2) (hc0_2 : l0_2.length ≤ c0_2) (hr1 : Kd.C (Kd.int .i64) w A1 l1.length l1) (hc1 : l1.length ≤ c1) (h : lapidarylaw16_RingPoints.f k l0_0 l0_1 l0_2 l1 a2 = some r) :
  Calls Try.prog 3 #[.agg #[.slice A0_0 l0_0.length c0_0, .slice A0_1 l0_1.length c0_1, .slice A0_2 l0_2.length c0_2], .slice A1 l1.length c1, .int .i64 a2] w fun e w' => e = .returned (.bool r) ∧ Below w.heap.size w w' := by
 have hu25 := Try.underlying25
 have HR0_0 := Aside0.mk hr0_0
 have HC0_0 := Aside0.mk hc0_0
 clear hr0_0 hc0_0
 have HR0_1 := Aside0.mk hr0_1
 have HC0_1 := Aside0.mk hc0_1
 clear hr0_1 hc0_1
 have HR0_2 := Aside0.mk hr0_2
 have HC0_2 := Aside0.mk hc0_2
 clear hr0_2 hc0_2
 have HR1 := Aside0.mk hr1
 have HC1 := Aside0.mk hc1
 clear hr1 hc1
 have HB := Aside0.mk (Below.refl w.heap.size w)
 have H : ((lapidarylaw16_long.f k l0_0 l0_1 l0_2).bind fun t206 => (if t206 = true then (lapidarylaw16_RingPoints.j0 k l1 a2 true l0_0 l0_1 l0_2) else (lapidarylaw16_RingPoints.j0 k l1 a2 (decide ((l1.length : Int) > 40)) l0_0 l0_1 l0_2))) = some r := h
 clear h
 have HC4 := Aside0.mk H
 clear H
 go_enter Try.func3, Try.ntmps3
 go_upto_region 1 with (first | ((with_reducible refine gate_dst (N := 3) rfl ?_); (try (refine gate_guard (by rfl) ?_; dsimp only)); refine box_event ?hg (N := 3) ?hd (cs := #[.slice A0_0 l0_0.length c0_0, .slice A0_1 l0_1.length c0_1, .slice A0_2 l0_2.length c0_2]) (t := 25) ?hr ?_; (case hd => rfl); (case hg => rfl); (case hr => first | (go_simp; done) | (go_simp; rfl)); intro gb205 hg w5 hbox hb; have n0_ := Aside0.mk (below_step (bH HB) hb); have n1_ := Aside0.mk (hbox); have n2_ := Aside0.mk ((by rw [hg]; exact (below_size (bH HB)) : w.heap.size ≤ gb205)); have n3_ := n2_; clear HB; have HB := n0_; have BK205 := n1_; have GW205 := n2_; have GE205 := n3_; clear n0_ n1_ n2_ n3_; clear hb hbox hg))
 (try simp only [Act.put, List.setIfInBounds_toArray, List.set_cons_zero, List.set_cons_succ])
 go_cut [26] (fun v26 wc => ∃ (kq : Nat) (x26_3 : Bool), v26 = .bool x26_3 ∧ Aside0 (lapidarylaw16_RingPoints.j0 kq l1 a2 x26_3 l0_0 l0_1 l0_2 = some r) ∧ Aside0 (kq ≤ k) ∧ Aside0 (wc.heap[gb205]? = some (.cells #[(.slice A0_0 l0_0.length c0_0), (.slice A0_1 l0_1.length c0_1), (.slice A0_2 l0_2.length c0_2)] 25 (0, 0))) ∧ Aside0 (Below w.heap.size w wc))
 case first =>
  have H := HC4.out
  clear HC4
  replace H := Option.bind_eq_some_iff.mp H
  obtain ⟨t206, A60, H⟩ := H
  replace H : (if t206 = true then (lapidarylaw16_RingPoints.j0 k l1 a2 true l0_0 l0_1 l0_2) else (lapidarylaw16_RingPoints.j0 k l1 a2 (decide ((l1.length : Int) > 40)) l0_0 l0_1 l0_2)) = some r := H
  have A6 := Aside0.mk A60
  clear A60
  by_cases c7 : t206 = true
  ·subst c7
   have H1 : (lapidarylaw16_RingPoints.j0 k l1 a2 true l0_0 l0_1 l0_2) = some r := by rw [if_pos rfl] at H; exact H
   clear H
   have H := H1
   clear H1
   have H' := Aside0.mk H
   clear H
   have hcz8_0 : w5.cell? ⟨gb205, 0, none⟩ = some (.slice A0_0 l0_0.length c0_0) := (blk_cell BK205.out 0).trans rfl
   have hcz8_1 : w5.cell? ⟨gb205, 1, none⟩ = some (.slice A0_1 l0_1.length c0_1) := (blk_cell BK205.out 1).trans rfl
   have hcz8_2 : w5.cell? ⟨gb205, 2, none⟩ = some (.slice A0_2 l0_2.length c0_2) := (blk_cell BK205.out 2).trans rfl
   have hfz8_0 := blk_frozen BK205.out 0
   have hfz8_1 := blk_frozen BK205.out 1
   have hfz8_2 := blk_frozen BK205.out 2
   go_wp2_with (first | ((with_reducible refine gate_callee (f := 8) rfl ?_); refine goesL_ (some 21) rfl rfl Try.func8 (by kernel_rfl) rfl #[.agg #[.slice A0_0 l0_0.length c0_0, .slice A0_1 l0_1.length c0_1, .slice A0_2 l0_2.length c0_2]] rfl (by (try simp only [List.map_toArray, List.map_cons, List.map_nil]); first | done | rfl | (simp only [List.length_drop, List.length_take]; rfl)) ?_; (with_reducible refine (lapidarylaw16_long.calls k _ _ l0_0 _ _ l0_1 _ _ l0_2 true _ ?side1 ?side2 ?side3 ?side4 ?side5 ?side6 A6.out).mono ?_); (case side1 => repeat (first | exact (Kd.C_below HR0_0.out HB.out) | (with_reducible refine Kd.C_alloc ?_ _) | (with_reducible refine Kd.C_drewN ?_ _) | (with_reducible refine Kd.C_drew ?_))); (case side2 => exact HC0_0.out); (case side3 => repeat (first | exact (Kd.C_below HR0_1.out HB.out) | (with_reducible refine Kd.C_alloc ?_ _) | (with_reducible refine Kd.C_drewN ?_ _) | (with_reducible refine Kd.C_drew ?_))); (case side4 => exact HC0_1.out); (case side5 => repeat (first | exact (Kd.C_below HR0_2.out HB.out) | (with_reducible refine Kd.C_alloc ?_ _) | (with_reducible refine Kd.C_drewN ?_ _) | (with_reducible refine Kd.C_drew ?_))); (case side6 => exact HC0_2.out); rintro e w9 ⟨rfl, hb⟩; refine ⟨_, rfl, ?_⟩; have n0_ := Aside0.mk (blk_below (g := gb205) (o := .cells #[.slice A0_0 l0_0.length c0_0, .slice A0_1 l0_1.length c0_1, .slice A0_2 l0_2.length c0_2] 25 (0, 0)) (bK BK205) hb); have n1_ := Aside0.mk (below_step (bH HB) hb); clear BK205; clear HB; have BK205 := n0_; have HB := n1_; clear n0_ n1_; (try clear hb); (try clear hb2); (try clear hk); (try clear hi)))
   go_meet
   case rel => exact ⟨_, (true), (by first | rfl | (simp; done) | (simp [*]; done)), H', ⟨by first | omega | exact Nat.le_refl _⟩, ⟨bK BK205⟩, ⟨ bH HB⟩⟩
  ·replace c7 := Bool.eq_false_iff.mpr c7
   subst c7
   have H1 : (lapidarylaw16_RingPoints.j0 k l1 a2 (decide ((l1.length : Int) > 40)) l0_0 l0_1 l0_2) = some r := by rw [if_neg (show ¬ (false = true) by decide)] at H; exact H
   clear H
   have H := H1
   clear H1
   have H' := Aside0.mk H
   clear H
   have hcz10_0 : w5.cell? ⟨gb205, 0, none⟩ = some (.slice A0_0 l0_0.length c0_0) := (blk_cell BK205.out 0).trans rfl
   have hcz10_1 : w5.cell? ⟨gb205, 1, none⟩ = some (.slice A0_1 l0_1.length c0_1) := (blk_cell BK205.out 1).trans rfl
   have hcz10_2 : w5.cell? ⟨gb205, 2, none⟩ = some (.slice A0_2 l0_2.length c0_2) := (blk_cell BK205.out 2).trans rfl
   have hfz10_0 := blk_frozen BK205.out 0
   have hfz10_1 := blk_frozen BK205.out 1
   have hfz10_2 := blk_frozen BK205.out 2
   go_wp2_with (first | ((with_reducible refine gate_callee (f := 8) rfl ?_); refine goesL_ (some 21) rfl rfl Try.func8 (by kernel_rfl) rfl #[.agg #[.slice A0_0 l0_0.length c0_0, .slice A0_1 l0_1.length c0_1, .slice A0_2 l0_2.length c0_2]] rfl (by (try simp only [List.map_toArray, List.map_cons, List.map_nil]); first | done | rfl | (simp only [List.length_drop, List.length_take]; rfl)) ?_; (with_reducible refine (lapidarylaw16_long.calls k _ _ l0_0 _ _ l0_1 _ _ l0_2 false _ ?side1 ?side2 ?side3 ?side4 ?side5 ?side6 A6.out).mono ?_); (case side1 => repeat (first | exact (Kd.C_below HR0_0.out HB.out) | (with_reducible refine Kd.C_alloc ?_ _) | (with_reducible refine Kd.C_drewN ?_ _) | (with_reducible refine Kd.C_drew ?_))); (case side2 => exact HC0_0.out); (case side3 => repeat (first | exact (Kd.C_below HR0_1.out HB.out) | (with_reducible refine Kd.C_alloc ?_ _) | (with_reducible refine Kd.C_drewN ?_ _) | (with_reducible refine Kd.C_drew ?_))); (case side4 => exact HC0_1.out); (case side5 => repeat (first | exact (Kd.C_below HR0_2.out HB.out) | (with_reducible refine Kd.C_alloc ?_ _) | (with_reducible refine Kd.C_drewN ?_ _) | (with_reducible refine Kd.C_drew ?_))); (case side6 => exact HC0_2.out); rintro e w11 ⟨rfl, hb⟩; refine ⟨_, rfl, ?_⟩; have n0_ := Aside0.mk (blk_below (g := gb205) (o := .cells #[.slice A0_0 l0_0.length c0_0, .slice A0_1 l0_1.length c0_1, .slice A0_2 l0_2.length c0_2] 25 (0, 0)) (bK BK205) hb); have n1_ := Aside0.mk (below_step (bH HB) hb); clear BK205; clear HB; have BK205 := n0_; have HB := n1_; clear n0_ n1_; (try clear hb); (try clear hb2); (try clear hk); (try clear hi)))
   go_meet
   case rel => exact ⟨_, (decide ((l1.length : Int) > 40)), (by first | rfl | (simp; done) | (simp [*]; done)), H', ⟨by first | omega | exact Nat.le_refl _⟩, ⟨bK BK205⟩, ⟨ bH HB⟩⟩
 case rest =>
  clear HC4
  try clear c1
  try clear p2
  try clear c3
  try clear c7
  try clear c8
  try clear hcz10_0
  try clear hcz10_1
  try clear hcz10_2
  try clear hcz8_0
  try clear hcz8_1
  try clear hcz8_2
  try clear hfz10_0
  try clear hfz10_1
  try clear hfz10_2
  try clear hfz8_0
  try clear hfz8_1
  try clear hfz8_2
  obtain ⟨kq, x26_3, rfl, HA, HJ3, BK205, HB⟩ := hcut
  cases kq with
  | zero => exact absurd HA.out (by simp [lapidarylaw16_RingPoints.j0])
  | succ kj3 =>
   have H := HA.out
   clear HA
   simp only [lapidarylaw16_RingPoints.j0] at H
   by_cases c12 : x26_3 = true
   ·subst c12
    have H1 : ((lapidarylaw16_known.f kj3).bind fun t207 => (some t207)) = some r := by rw [if_pos rfl] at H; exact H
    clear H
    have H := H1
    clear H1
    replace H := Option.bind_eq_some_iff.mp H
    obtain ⟨t207, A130, H⟩ := H
    replace H : (some t207) = some r := H
    have A13 := Aside0.mk A130
    clear A130
    obtain rfl := Option.some.inj H
    go_wp2_with (first | ((with_reducible refine gate_callee (f := 9) rfl ?_); refine goesL_ (some 27) rfl rfl Try.func9 (by kernel_rfl) rfl #[] rfl (by (try simp only [List.map_toArray, List.map_cons, List.map_nil]); first | done | rfl | (simp only [List.length_drop, List.length_take]; rfl)) ?_; (with_reducible refine (lapidarylaw16_known.calls kj3  t207 _ A13.out).mono ?_); rintro e w14 ⟨rfl, hb⟩; refine ⟨_, rfl, ?_⟩; have n0_ := Aside0.mk (blk_below (g := gb205) (o := .cells #[.slice A0_0 l0_0.length c0_0, .slice A0_1 l0_1.length c0_1, .slice A0_2 l0_2.length c0_2] 25 (0, 0)) (bK BK205) hb); have n1_ := Aside0.mk (below_step (bH HB) hb); clear BK205; clear HB; have BK205 := n0_; have HB := n1_; clear n0_ n1_; (try clear hb); (try clear hb2); (try clear hk); (try clear hi)))
    go_ret
    exact ⟨by first | rfl | (simp [errW_none, errW_some] <;> rfl) | (simp [*, errW_none, errW_some] <;> rfl), bH HB⟩
   ·replace c12 := Bool.eq_false_iff.mpr c12
    subst c12
    have H1 : ((ring_Points.f kj3 l0_0 l0_1 l0_2 l1).bind fun bt208 => ((lapidaryref16_Points.f kj3 l0_0 l0_1 l0_2 l1).bind fun bt212 => ((ring_Arc.f kj3 l0_0 l0_1 l0_2 a2).bind fun bt216 => ((lapidaryref16_Arc.f kj3 l0_0 l0_1 l0_2 a2).bind fun bt220 => ((lapidaryref07_SamePoints.f kj3 bt208.1 bt212.1).bind fun t224 => (if t224 = true then (if bt208.2 = bt212.2 then ((lapidaryref07_SamePoints.f kj3 bt216.1 bt220.1).bind fun t225 => (if t225 = true then (lapidarylaw16_RingPoints.j1 kj3 (bt216.2 != bt220.2) l0_0 l0_1 l0_2) else (lapidarylaw16_RingPoints.j1 kj3 true l0_0 l0_1 l0_2))) else (lapidarylaw16_RingPoints.j1 kj3 true l0_0 l0_1 l0_2)) else (lapidarylaw16_RingPoints.j1 kj3 true l0_0 l0_1 l0_2))))))) = some r := by rw [if_neg (show ¬ (false = true) by decide)] at H; exact H
    clear H
    have H := H1
    clear H1
    replace H := Option.bind_eq_some_iff.mp H
    obtain ⟨⟨t208, t211⟩, A150, H⟩ := H
    replace H : ((lapidaryref16_Points.f kj3 l0_0 l0_1 l0_2 l1).bind fun bt212 => ((ring_Arc.f kj3 l0_0 l0_1 l0_2 a2).bind fun bt216 => ((lapidaryref16_Arc.f kj3 l0_0 l0_1 l0_2 a2).bind fun bt220 => ((lapidaryref07_SamePoints.f kj3 t208 bt212.1).bind fun t224 => (if t224 = true then (if t211 = bt212.2 then ((lapidaryref07_SamePoints.f kj3 bt216.1 bt220.1).bind fun t225 => (if t225 = true then (lapidarylaw16_RingPoints.j1 kj3 (bt216.2 != bt220.2) l0_0 l0_1 l0_2) else (lapidarylaw16_RingPoints.j1 kj3 true l0_0 l0_1 l0_2))) else (lapidarylaw16_RingPoints.j1 kj3 true l0_0 l0_1 l0_2)) else (lapidarylaw16_RingPoints.j1 kj3 true l0_0 l0_1 l0_2)))))) = some r := H
    have A15 := Aside0.mk A150
    clear A150
    replace H := Option.bind_eq_some_iff.mp H
    obtain ⟨⟨t212, t215⟩, A160, H⟩ := H
    replace H : ((ring_Arc.f kj3 l0_0 l0_1 l0_2 a2).bind fun bt216 => ((lapidaryref16_Arc.f kj3 l0_0 l0_1 l0_2 a2).bind fun bt220 => ((lapidaryref07_SamePoints.f kj3 t208 t212).bind fun t224 => (if t224 = true then (if t211 = t215 then ((lapidaryref07_SamePoints.f kj3 bt216.1 bt220.1).bind fun t225 => (if t225 = true then (lapidarylaw16_RingPoints.j1 kj3 (bt216.2 != bt220.2) l0_0 l0_1 l0_2) else (lapidarylaw16_RingPoints.j1 kj3 true l0_0 l0_1 l0_2))) else (lapidarylaw16_RingPoints.j1 kj3 true l0_0 l0_1 l0_2)) else (lapidarylaw16_RingPoints.j1 kj3 true l0_0 l0_1 l0_2))))) = some r := H
    have A16 := Aside0.mk A160
    clear A160
    replace H := Option.bind_eq_some_iff.mp H
    obtain ⟨⟨t216, t219⟩, A170, H⟩ := H
    replace H : ((lapidaryref16_Arc.f kj3 l0_0 l0_1 l0_2 a2).bind fun bt220 => ((lapidaryref07_SamePoints.f kj3 t208 t212).bind fun t224 => (if t224 = true then (if t211 = t215 then ((lapidaryref07_SamePoints.f kj3 t216 bt220.1).bind fun t225 => (if t225 = true then (lapidarylaw16_RingPoints.j1 kj3 (t219 != bt220.2) l0_0 l0_1 l0_2) else (lapidarylaw16_RingPoints.j1 kj3 true l0_0 l0_1 l0_2))) else (lapidarylaw16_RingPoints.j1 kj3 true l0_0 l0_1 l0_2)) else (lapidarylaw16_RingPoints.j1 kj3 true l0_0 l0_1 l0_2)))) = some r := H
    have A17 := Aside0.mk A170
    clear A170
    replace H := Option.bind_eq_some_iff.mp H
    obtain ⟨⟨t220, t223⟩, A180, H⟩ := H
    replace H : ((lapidaryref07_SamePoints.f kj3 t208 t212).bind fun t224 => (if t224 = true then (if t211 = t215 then ((lapidaryref07_SamePoints.f kj3 t216 t220).bind fun t225 => (if t225 = true then (lapidarylaw16_RingPoints.j1 kj3 (t219 != t223) l0_0 l0_1 l0_2) else (lapidarylaw16_RingPoints.j1 kj3 true l0_0 l0_1 l0_2))) else (lapidarylaw16_RingPoints.j1 kj3 true l0_0 l0_1 l0_2)) else (lapidarylaw16_RingPoints.j1 kj3 true l0_0 l0_1 l0_2))) = some r := H
    have A18 := Aside0.mk A180
    clear A180
    have HC19 := Aside0.mk H
    clear H
    have hcz20_0 : wc.cell? ⟨gb205, 0, none⟩ = some (.slice A0_0 l0_0.length c0_0) := (blk_cell BK205.out 0).trans rfl
    have hcz20_1 : wc.cell? ⟨gb205, 1, none⟩ = some (.slice A0_1 l0_1.length c0_1) := (blk_cell BK205.out 1).trans rfl
    have hcz20_2 : wc.cell? ⟨gb205, 2, none⟩ = some (.slice A0_2 l0_2.length c0_2) := (blk_cell BK205.out 2).trans rfl
    have hfz20_0 := blk_frozen BK205.out 0
    have hfz20_1 := blk_frozen BK205.out 1
    have hfz20_2 := blk_frozen BK205.out 2
    go_upto_region 7 with (first | ((with_reducible refine gate_callee (f := 10) rfl ?_); refine goesL_ (some 31) rfl rfl Try.func10 (by kernel_rfl) rfl #[.agg #[.slice A0_0 l0_0.length c0_0, .slice A0_1 l0_1.length c0_1, .slice A0_2 l0_2.length c0_2], .slice A1 l1.length c1] rfl (by (try simp only [List.map_toArray, List.map_cons, List.map_nil]); first | done | rfl | (simp only [List.length_drop, List.length_take]; rfl)) ?_; (with_reducible refine (ring_Points.calls kj3 _ _ l0_0 _ _ l0_1 _ _ l0_2 _ _ l1 t208 t211 _ ?side1 ?side2 ?side3 ?side4 ?side5 ?side6 ?side7 ?side8 A15.out).mono ?_); (case side1 => repeat (first | exact (Kd.C_below HR0_0.out HB.out) | (with_reducible refine Kd.C_alloc ?_ _) | (with_reducible refine Kd.C_drewN ?_ _) | (with_reducible refine Kd.C_drew ?_))); (case side2 => exact HC0_0.out); (case side3 => repeat (first | exact (Kd.C_below HR0_1.out HB.out) | (with_reducible refine Kd.C_alloc ?_ _) | (with_reducible refine Kd.C_drewN ?_ _) | (with_reducible refine Kd.C_drew ?_))); (case side4 => exact HC0_1.out); (case side5 => repeat (first | exact (Kd.C_below HR0_2.out HB.out) | (with_reducible refine Kd.C_alloc ?_ _) | (with_reducible refine Kd.C_drewN ?_ _) | (with_reducible refine Kd.C_drew ?_))); (case side6 => exact HC0_2.out); (case side7 => repeat (first | exact (Kd.C_below HR1.out HB.out) | (with_reducible refine Kd.C_alloc ?_ _) | (with_reducible refine Kd.C_drewN ?_ _) | (with_reducible refine Kd.C_drew ?_))); (case side8 => exact HC1.out); rintro e w21 ⟨v209, rfl, ho0, hb⟩; refine ⟨_, rfl, ?_⟩; have n0_ := Aside0.mk (Kd.R_lower ho0 (below_size (bH HB))); have n1_ := Aside0.mk (blk_below (g := gb205) (o := .cells #[.slice A0_0 l0_0.length c0_0, .slice A0_1 l0_1.length c0_1, .slice A0_2 l0_2.length c0_2] 25 (0, 0)) (bK BK205) hb); have n2_ := Aside0.mk (below_step (bH HB) hb); clear BK205; clear HB; have HO210 := n0_; have BK205 := n1_; have HB := n2_; clear n0_ n1_ n2_; (try clear hb); (try clear hb2); (try clear hk); (try clear hi); (try clear ho0); have hcz22_0 : w21.cell? ⟨gb205, 0, none⟩ = some (.slice A0_0 l0_0.length c0_0) := (blk_cell BK205.out 0).trans rfl; have hcz22_1 : w21.cell? ⟨gb205, 1, none⟩ = some (.slice A0_1 l0_1.length c0_1) := (blk_cell BK205.out 1).trans rfl; have hcz22_2 : w21.cell? ⟨gb205, 2, none⟩ = some (.slice A0_2 l0_2.length c0_2) := (blk_cell BK205.out 2).trans rfl; have hfz22_0 := blk_frozen BK205.out 0; have hfz22_1 := blk_frozen BK205.out 1; have hfz22_2 := blk_frozen BK205.out 2) | ((with_reducible refine gate_callee (f := 11) rfl ?_); refine goesL_ (some 37) rfl rfl Try.func11 (by kernel_rfl) rfl #[.agg #[.slice A0_0 l0_0.length c0_0, .slice A0_1 l0_1.length c0_1, .slice A0_2 l0_2.length c0_2], .slice A1 l1.length c1] rfl (by (try simp only [List.map_toArray, List.map_cons, List.map_nil]); first | done | rfl | (simp only [List.length_drop, List.length_take]; rfl)) ?_; (with_reducible refine (lapidaryref16_Points.calls kj3 _ _ l0_0 _ _ l0_1 _ _ l0_2 _ _ l1 t212 t215 _ ?side1 ?side2 ?side3 ?side4 ?side5 ?side6 ?side7 ?side8 A16.out).mono ?_); (case side1 => repeat (first | exact (Kd.C_below HR0_0.out HB.out) | (with_reducible refine Kd.C_alloc ?_ _) | (with_reducible refine Kd.C_drewN ?_ _) | (with_reducible refine Kd.C_drew ?_))); (case side2 => exact HC0_0.out); (case side3 => repeat (first | exact (Kd.C_below HR0_1.out HB.out) | (with_reducible refine Kd.C_alloc ?_ _) | (with_reducible refine Kd.C_drewN ?_ _) | (with_reducible refine Kd.C_drew ?_))); (case side4 => exact HC0_1.out); (case side5 => repeat (first | exact (Kd.C_below HR0_2.out HB.out) | (with_reducible refine Kd.C_alloc ?_ _) | (with_reducible refine Kd.C_drewN ?_ _) | (with_reducible refine Kd.C_drew ?_))); (case side6 => exact HC0_2.out); (case side7 => repeat (first | exact (Kd.C_below HR1.out HB.out) | (with_reducible refine Kd.C_alloc ?_ _) | (with_reducible refine Kd.C_drewN ?_ _) | (with_reducible refine Kd.C_drew ?_))); (case side8 => exact HC1.out); rintro e w23 ⟨v213, rfl, ho0, hb⟩; refine ⟨_, rfl, ?_⟩; have n0_ := Aside0.mk (Kd.R_elder' (rK HO210) (Kd.R_base ho0) hb); have n1_ := Aside0.mk (Kd.R_lower (Kd.R_new' ho0 (Kd.R_lt (rK HO210))) (below_size (bH HB))); have n2_ := Aside0.mk (blk_below (g := gb205) (o := .cells #[.slice A0_0 l0_0.length c0_0, .slice A0_1 l0_1.length c0_1, .slice A0_2 l0_2.length c0_2] 25 (0, 0)) (bK BK205) hb); have n3_ := Aside0.mk (below_step (bH HB) hb); clear HO210; clear BK205; clear HB; have HO210 := n0_; have HO214 := n1_; have BK205 := n2_; have HB := n3_; clear n0_ n1_ n2_ n3_; (try clear hb); (try clear hb2); (try clear hk); (try clear hi); (try clear ho0); have hcz24_0 : w23.cell? ⟨gb205, 0, none⟩ = some (.slice A0_0 l0_0.length c0_0) := (blk_cell BK205.out 0).trans rfl; have hcz24_1 : w23.cell? ⟨gb205, 1, none⟩ = some (.slice A0_1 l0_1.length c0_1) := (blk_cell BK205.out 1).trans rfl; have hcz24_2 : w23.cell? ⟨gb205, 2, none⟩ = some (.slice A0_2 l0_2.length c0_2) := (blk_cell BK205.out 2).trans rfl; have hfz24_0 := blk_frozen BK205.out 0; have hfz24_1 := blk_frozen BK205.out 1; have hfz24_2 := blk_frozen BK205.out 2) | ((with_reducible refine gate_callee (f := 12) rfl ?_); refine goesL_ (some 43) rfl rfl Try.func12 (by kernel_rfl) rfl #[.agg #[.slice A0_0 l0_0.length c0_0, .slice A0_1 l0_1.length c0_1, .slice A0_2 l0_2.length c0_2], .int .i64 a2] rfl (by (try simp only [List.map_toArray, List.map_cons, List.map_nil]); first | done | rfl | (simp only [List.length_drop, List.length_take]; rfl)) ?_; (with_reducible refine (ring_Arc.calls kj3 _ _ l0_0 _ _ l0_1 _ _ l0_2 a2 t216 t219 _ ?side1 ?side2 ?side3 ?side4 ?side5 ?side6 A17.out).mono ?_); (case side1 => repeat (first | exact (Kd.C_below HR0_0.out HB.out) | (with_reducible refine Kd.C_alloc ?_ _) | (with_reducible refine Kd.C_drewN ?_ _) | (with_reducible refine Kd.C_drew ?_))); (case side2 => exact HC0_0.out); (case side3 => repeat (first | exact (Kd.C_below HR0_1.out HB.out) | (with_reducible refine Kd.C_alloc ?_ _) | (with_reducible refine Kd.C_drewN ?_ _) | (with_reducible refine Kd.C_drew ?_))); (case side4 => exact HC0_1.out); (case side5 => repeat (first | exact (Kd.C_below HR0_2.out HB.out) | (with_reducible refine Kd.C_alloc ?_ _) | (with_reducible refine Kd.C_drewN ?_ _) | (with_reducible refine Kd.C_drew ?_))); (case side6 => exact HC0_2.out); rintro e w25 ⟨v217, rfl, ho0, hb⟩; refine ⟨_, rfl, ?_⟩; have n0_ := Aside0.mk (Kd.R_elder' (rK HO210) (Kd.R_base ho0) hb); have n1_ := Aside0.mk (Kd.R_elder' (rK HO214) (Kd.R_base ho0) hb); have n2_ := Aside0.mk (Kd.R_lower (Kd.R_new' (Kd.R_new' ho0 (Kd.R_lt (rK HO210))) (Kd.R_lt (rK HO214))) (below_size (bH HB))); have n3_ := Aside0.mk (blk_below (g := gb205) (o := .cells #[.slice A0_0 l0_0.length c0_0, .slice A0_1 l0_1.length c0_1, .slice A0_2 l0_2.length c0_2] 25 (0, 0)) (bK BK205) hb); have n4_ := Aside0.mk (below_step (bH HB) hb); clear HO210; clear HO214; clear BK205; clear HB; have HO210 := n0_; have HO214 := n1_; have HO218 := n2_; have BK205 := n3_; have HB := n4_; clear n0_ n1_ n2_ n3_ n4_; (try clear hb); (try clear hb2); (try clear hk); (try clear hi); (try clear ho0); have hcz26_0 : w25.cell? ⟨gb205, 0, none⟩ = some (.slice A0_0 l0_0.length c0_0) := (blk_cell BK205.out 0).trans rfl; have hcz26_1 : w25.cell? ⟨gb205, 1, none⟩ = some (.slice A0_1 l0_1.length c0_1) := (blk_cell BK205.out 1).trans rfl; have hcz26_2 : w25.cell? ⟨gb205, 2, none⟩ = some (.slice A0_2 l0_2.length c0_2) := (blk_cell BK205.out 2).trans rfl; have hfz26_0 := blk_frozen BK205.out 0; have hfz26_1 := blk_frozen BK205.out 1; have hfz26_2 := blk_frozen BK205.out 2) | ((with_reducible refine gate_callee (f := 13) rfl ?_); refine goesL_ (some 49) rfl rfl Try.func13 (by kernel_rfl) rfl #[.agg #[.slice A0_0 l0_0.length c0_0, .slice A0_1 l0_1.length c0_1, .slice A0_2 l0_2.length c0_2], .int .i64 a2] rfl (by (try simp only [List.map_toArray, List.map_cons, List.map_nil]); first | done | rfl | (simp only [List.length_drop, List.length_take]; rfl)) ?_; (with_reducible refine (lapidaryref16_Arc.calls kj3 _ _ l0_0 _ _ l0_1 _ _ l0_2 a2 t220 t223 _ ?side1 ?side2 ?side3 ?side4 ?side5 ?side6 A18.out).mono ?_); (case side1 => repeat (first | exact (Kd.C_below HR0_0.out HB.out) | (with_reducible refine Kd.C_alloc ?_ _) | (with_reducible refine Kd.C_drewN ?_ _) | (with_reducible refine Kd.C_drew ?_))); (case side2 => exact HC0_0.out); (case side3 => repeat (first | exact (Kd.C_below HR0_1.out HB.out) | (with_reducible refine Kd.C_alloc ?_ _) | (with_reducible refine Kd.C_drewN ?_ _) | (with_reducible refine Kd.C_drew ?_))); (case side4 => exact HC0_1.out); (case side5 => repeat (first | exact (Kd.C_below HR0_2.out HB.out) | (with_reducible refine Kd.C_alloc ?_ _) | (with_reducible refine Kd.C_drewN ?_ _) | (with_reducible refine Kd.C_drew ?_))); (case side6 => exact HC0_2.out); rintro e w27 ⟨v221, rfl, ho0, hb⟩; refine ⟨_, rfl, ?_⟩; have n0_ := Aside0.mk (Kd.R_elder' (rK HO210) (Kd.R_base ho0) hb); have n1_ := Aside0.mk (Kd.R_elder' (rK HO214) (Kd.R_base ho0) hb); have n2_ := Aside0.mk (Kd.R_elder' (rK HO218) (Kd.R_base ho0) hb); have n3_ := Aside0.mk (Kd.R_lower (Kd.R_new' (Kd.R_new' (Kd.R_new' ho0 (Kd.R_lt (rK HO210))) (Kd.R_lt (rK HO214))) (Kd.R_lt (rK HO218))) (below_size (bH HB))); have n4_ := Aside0.mk (blk_below (g := gb205) (o := .cells #[.slice A0_0 l0_0.length c0_0, .slice A0_1 l0_1.length c0_1, .slice A0_2 l0_2.length c0_2] 25 (0, 0)) (bK BK205) hb); have n5_ := Aside0.mk (below_step (bH HB) hb); clear HO210; clear HO214; clear HO218; clear BK205; clear HB; have HO210 := n0_; have HO214 := n1_; have HO218 := n2_; have HO222 := n3_; have BK205 := n4_; have HB := n5_; clear n0_ n1_ n2_ n3_ n4_ n5_; (try clear hb); (try clear hb2); (try clear hk); (try clear hi); (try clear ho0)))
    (try simp only [Act.put, List.setIfInBounds_toArray, List.set_cons_zero, List.set_cons_succ])
    go_cut [71] (fun v71 wc => ∃ (kq : Nat) (x71_18 : Bool), v71 = .bool x71_18 ∧ Aside0 (lapidarylaw16_RingPoints.j1 kq x71_18 l0_0 l0_1 l0_2 = some r) ∧ Aside0 (kq ≤ kj3) ∧ Aside0 (wc.heap[gb205]? = some (.cells #[(.slice A0_0 l0_0.length c0_0), (.slice A0_1 l0_1.length c0_1), (.slice A0_2 l0_2.length c0_2)] 25 (0, 0))) ∧ Aside0 (Below w.heap.size w wc))
    case first =>
     have H := HC19.out
     clear HC19
     replace H := Option.bind_eq_some_iff.mp H
     obtain ⟨t224, A280, H⟩ := H
     replace H : (if t224 = true then (if t211 = t215 then ((lapidaryref07_SamePoints.f kj3 t216 t220).bind fun t225 => (if t225 = true then (lapidarylaw16_RingPoints.j1 kj3 (t219 != t223) l0_0 l0_1 l0_2) else (lapidarylaw16_RingPoints.j1 kj3 true l0_0 l0_1 l0_2))) else (lapidarylaw16_RingPoints.j1 kj3 true l0_0 l0_1 l0_2)) else (lapidarylaw16_RingPoints.j1 kj3 true l0_0 l0_1 l0_2)) = some r := H
     have A28 := Aside0.mk A280
     clear A280
     by_cases c29 : t224 = true
     ·subst c29
      have H1 : (if t211 = t215 then ((lapidaryref07_SamePoints.f kj3 t216 t220).bind fun t225 => (if t225 = true then (lapidarylaw16_RingPoints.j1 kj3 (t219 != t223) l0_0 l0_1 l0_2) else (lapidarylaw16_RingPoints.j1 kj3 true l0_0 l0_1 l0_2))) else (lapidarylaw16_RingPoints.j1 kj3 true l0_0 l0_1 l0_2)) = some r := by rw [if_pos rfl] at H; exact H
      clear H
      have H := H1
      clear H1
      by_cases c30 : t211 = t215
      ·rw [if_pos c30] at H
       have c30b0 : (t211 == t215) = true := beq_iff_eq.mpr c30
       have c30b1 : (t211 != t215) = false := bne_eq_false_iff_eq.mpr c30
       clear c30
       (first | rw [c30b0] | (simp only [i64_w, i32_w]; rw [c30b0]) | skip)
       replace H := Option.bind_eq_some_iff.mp H
       obtain ⟨t225, A310, H⟩ := H
       replace H : (if t225 = true then (lapidarylaw16_RingPoints.j1 kj3 (t219 != t223) l0_0 l0_1 l0_2) else (lapidarylaw16_RingPoints.j1 kj3 true l0_0 l0_1 l0_2)) = some r := H
       have A31 := Aside0.mk A310
       clear A310
       by_cases c32 : t225 = true
       ·subst c32
        have H1 : (lapidarylaw16_RingPoints.j1 kj3 (t219 != t223) l0_0 l0_1 l0_2) = some r := by rw [if_pos rfl] at H; exact H
        clear H
        have H := H1
        clear H1
        have H' := Aside0.mk H
        clear H
        obtain ⟨Ao33, co33, eo33⟩ := Kd.R_slice HO210.out
        subst eo33
        obtain ⟨Ao34, co34, eo34⟩ := Kd.R_slice HO214.out
        subst eo34
        go_wp2_with (first | ((with_reducible refine gate_callee (f := 14) rfl ?_); refine goesL_ (some 54) rfl rfl Try.func14 (by kernel_rfl) rfl #[.slice Ao33 t208.length co33, .slice Ao34 t212.length co34] rfl (by (try simp only [List.map_toArray, List.map_cons, List.map_nil]); first | done | rfl | (simp only [List.length_drop, List.length_take]; rfl)) ?_; (with_reducible refine (lapidaryref07_SamePoints.calls kj3 _ _ t208 _ _ t212 true _ ?side1 ?side2 ?side3 ?side4 A28.out).mono ?_); (case side1 => repeat (first | exact (Kd.R_reads' HO210.out).2.2 | (with_reducible refine Kd.C_alloc ?_ _) | (with_reducible refine Kd.C_drewN ?_ _) | (with_reducible refine Kd.C_drew ?_))); (case side2 => exact (Kd.R_reads' HO210.out).2.1); (case side3 => repeat (first | exact (Kd.R_reads' HO214.out).2.2 | (with_reducible refine Kd.C_alloc ?_ _) | (with_reducible refine Kd.C_drewN ?_ _) | (with_reducible refine Kd.C_drew ?_))); (case side4 => exact (Kd.R_reads' HO214.out).2.1); rintro e w' ⟨rfl, ⟨nd, rfl⟩⟩; refine ⟨_, rfl, ?_⟩; obtain ⟨Ao35, co35, eo35⟩ := Kd.R_slice HO218.out; subst eo35; obtain ⟨Ao36, co36, eo36⟩ := Kd.R_slice HO222.out; subst eo36) | (go_at_call 14; (with_reducible refine (lapidaryref07_SamePoints.calls kj3 _ _ t216 _ _ t220 true _ ?side1 ?side2 ?side3 ?side4 A31.out).mono ?_); (case side1 => repeat (first | exact (Kd.R_reads' HO218.out).2.2 | (with_reducible refine Kd.C_alloc ?_ _) | (with_reducible refine Kd.C_drewN ?_ _) | (with_reducible refine Kd.C_drew ?_))); (case side2 => exact (Kd.R_reads' HO218.out).2.1); (case side3 => repeat (first | exact (Kd.R_reads' HO222.out).2.2 | (with_reducible refine Kd.C_alloc ?_ _) | (with_reducible refine Kd.C_drewN ?_ _) | (with_reducible refine Kd.C_drew ?_))); (case side4 => exact (Kd.R_reads' HO222.out).2.1); rintro e w' ⟨rfl, ⟨nd, rfl⟩⟩))
        go_meet
        case rel => exact ⟨_, ((t219 != t223)), (by first | rfl | (simp; done) | (simp [*]; done)), H', ⟨by have := HJ3.out; first | omega | exact Nat.le_refl _⟩, ⟨bK BK205⟩, ⟨ bH HB⟩⟩
       ·replace c32 := Bool.eq_false_iff.mpr c32
        subst c32
        have H1 : (lapidarylaw16_RingPoints.j1 kj3 true l0_0 l0_1 l0_2) = some r := by rw [if_neg (show ¬ (false = true) by decide)] at H; exact H
        clear H
        have H := H1
        clear H1
        have H' := Aside0.mk H
        clear H
        obtain ⟨Ao37, co37, eo37⟩ := Kd.R_slice HO210.out
        subst eo37
        obtain ⟨Ao38, co38, eo38⟩ := Kd.R_slice HO214.out
        subst eo38
        go_wp2_with (first | ((with_reducible refine gate_callee (f := 14) rfl ?_); refine goesL_ (some 54) rfl rfl Try.func14 (by kernel_rfl) rfl #[.slice Ao37 t208.length co37, .slice Ao38 t212.length co38] rfl (by (try simp only [List.map_toArray, List.map_cons, List.map_nil]); first | done | rfl | (simp only [List.length_drop, List.length_take]; rfl)) ?_; (with_reducible refine (lapidaryref07_SamePoints.calls kj3 _ _ t208 _ _ t212 true _ ?side1 ?side2 ?side3 ?side4 A28.out).mono ?_); (case side1 => repeat (first | exact (Kd.R_reads' HO210.out).2.2 | (with_reducible refine Kd.C_alloc ?_ _) | (with_reducible refine Kd.C_drewN ?_ _) | (with_reducible refine Kd.C_drew ?_))); (case side2 => exact (Kd.R_reads' HO210.out).2.1); (case side3 => repeat (first | exact (Kd.R_reads' HO214.out).2.2 | (with_reducible refine Kd.C_alloc ?_ _) | (with_reducible refine Kd.C_drewN ?_ _) | (with_reducible refine Kd.C_drew ?_))); (case side4 => exact (Kd.R_reads' HO214.out).2.1); rintro e w' ⟨rfl, ⟨nd, rfl⟩⟩; refine ⟨_, rfl, ?_⟩; obtain ⟨Ao39, co39, eo39⟩ := Kd.R_slice HO218.out; subst eo39; obtain ⟨Ao40, co40, eo40⟩ := Kd.R_slice HO222.out; subst eo40) | (go_at_call 14; (with_reducible refine (lapidaryref07_SamePoints.calls kj3 _ _ t216 _ _ t220 false _ ?side1 ?side2 ?side3 ?side4 A31.out).mono ?_); (case side1 => repeat (first | exact (Kd.R_reads' HO218.out).2.2 | (with_reducible refine Kd.C_alloc ?_ _) | (with_reducible refine Kd.C_drewN ?_ _) | (with_reducible refine Kd.C_drew ?_))); (case side2 => exact (Kd.R_reads' HO218.out).2.1); (case side3 => repeat (first | exact (Kd.R_reads' HO222.out).2.2 | (with_reducible refine Kd.C_alloc ?_ _) | (with_reducible refine Kd.C_drewN ?_ _) | (with_reducible refine Kd.C_drew ?_))); (case side4 => exact (Kd.R_reads' HO222.out).2.1); rintro e w' ⟨rfl, ⟨nd, rfl⟩⟩))
        go_meet
        case rel => exact ⟨_, (true), (by first | rfl | (simp; done) | (simp [*]; done)), H', ⟨by have := HJ3.out; first | omega | exact Nat.le_refl _⟩, ⟨bK BK205⟩, ⟨ bH HB⟩⟩
      ·rw [if_neg c30] at H
       have c30b0 : (t211 == t215) = false := beq_eq_false_iff_ne.mpr c30
       have c30b1 : (t211 != t215) = true := bne_iff_ne.mpr c30
       (first | rw [c30b0] | (simp only [i64_w, i32_w]; rw [c30b0]) | skip)
       have H' := Aside0.mk H
       clear H
       obtain ⟨Ao41, co41, eo41⟩ := Kd.R_slice HO210.out
       subst eo41
       obtain ⟨Ao42, co42, eo42⟩ := Kd.R_slice HO214.out
       subst eo42
       go_wp2_with (first | ((with_reducible refine gate_callee (f := 14) rfl ?_); refine goesL_ (some 54) rfl rfl Try.func14 (by kernel_rfl) rfl #[.slice Ao41 t208.length co41, .slice Ao42 t212.length co42] rfl (by (try simp only [List.map_toArray, List.map_cons, List.map_nil]); first | done | rfl | (simp only [List.length_drop, List.length_take]; rfl)) ?_; (with_reducible refine (lapidaryref07_SamePoints.calls kj3 _ _ t208 _ _ t212 true _ ?side1 ?side2 ?side3 ?side4 A28.out).mono ?_); (case side1 => repeat (first | exact (Kd.R_reads' HO210.out).2.2 | (with_reducible refine Kd.C_alloc ?_ _) | (with_reducible refine Kd.C_drewN ?_ _) | (with_reducible refine Kd.C_drew ?_))); (case side2 => exact (Kd.R_reads' HO210.out).2.1); (case side3 => repeat (first | exact (Kd.R_reads' HO214.out).2.2 | (with_reducible refine Kd.C_alloc ?_ _) | (with_reducible refine Kd.C_drewN ?_ _) | (with_reducible refine Kd.C_drew ?_))); (case side4 => exact (Kd.R_reads' HO214.out).2.1); rintro e w' ⟨rfl, ⟨nd, rfl⟩⟩; refine ⟨_, rfl, ?_⟩))
       go_meet
       case rel => exact ⟨_, (true), (by first | rfl | (simp; done) | (simp [*]; done)), H', ⟨by have := HJ3.out; first | omega | exact Nat.le_refl _⟩, ⟨bK BK205⟩, ⟨ bH HB⟩⟩
     ·replace c29 := Bool.eq_false_iff.mpr c29
      subst c29
      have H1 : (lapidarylaw16_RingPoints.j1 kj3 true l0_0 l0_1 l0_2) = some r := by rw [if_neg (show ¬ (false = true) by decide)] at H; exact H
      clear H
      have H := H1
      clear H1
      have H' := Aside0.mk H
      clear H
      obtain ⟨Ao43, co43, eo43⟩ := Kd.R_slice HO210.out
      subst eo43
      obtain ⟨Ao44, co44, eo44⟩ := Kd.R_slice HO214.out
      subst eo44
      go_wp2_with (first | ((with_reducible refine gate_callee (f := 14) rfl ?_); refine goesL_ (some 54) rfl rfl Try.func14 (by kernel_rfl) rfl #[.slice Ao43 t208.length co43, .slice Ao44 t212.length co44] rfl (by (try simp only [List.map_toArray, List.map_cons, List.map_nil]); first | done | rfl | (simp only [List.length_drop, List.length_take]; rfl)) ?_; (with_reducible refine (lapidaryref07_SamePoints.calls kj3 _ _ t208 _ _ t212 false _ ?side1 ?side2 ?side3 ?side4 A28.out).mono ?_); (case side1 => repeat (first | exact (Kd.R_reads' HO210.out).2.2 | (with_reducible refine Kd.C_alloc ?_ _) | (with_reducible refine Kd.C_drewN ?_ _) | (with_reducible refine Kd.C_drew ?_))); (case side2 => exact (Kd.R_reads' HO210.out).2.1); (case side3 => repeat (first | exact (Kd.R_reads' HO214.out).2.2 | (with_reducible refine Kd.C_alloc ?_ _) | (with_reducible refine Kd.C_drewN ?_ _) | (with_reducible refine Kd.C_drew ?_))); (case side4 => exact (Kd.R_reads' HO214.out).2.1); rintro e w' ⟨rfl, ⟨nd, rfl⟩⟩; refine ⟨_, rfl, ?_⟩))
      go_meet
      case rel => exact ⟨_, (true), (by first | rfl | (simp; done) | (simp [*]; done)), H', ⟨by have := HJ3.out; first | omega | exact Nat.le_refl _⟩, ⟨bK BK205⟩, ⟨ bH HB⟩⟩
    case rest =>
     clear HC19
     try clear c1
     try clear c2
     try clear p2
     try clear c3
     try clear c7
     try clear c8
     try clear c9
     try clear c10
     try clear c11
     try clear c12
     try clear c13
     try clear c14
     try clear c29
     try clear c30
     try clear c30b0
     try clear c30b1
     try clear c32
     try clear hcz10_0
     try clear hcz10_1
     try clear hcz10_2
     try clear hcz20_0
     try clear hcz20_1
     try clear hcz20_2
     try clear hcz22_0
     try clear hcz22_1
     try clear hcz22_2
     try clear hcz24_0
     try clear hcz24_1
     try clear hcz24_2
     try clear hcz26_0
     try clear hcz26_1
     try clear hcz26_2
     try clear hcz8_0
     try clear hcz8_1
     try clear hcz8_2
     try clear hfz10_0
     try clear hfz10_1
     try clear hfz10_2
     try clear hfz20_0
     try clear hfz20_1
     try clear hfz20_2
     try clear hfz22_0
     try clear hfz22_1
     try clear hfz22_2
     try clear hfz24_0
     try clear hfz24_1
     try clear hfz24_2
     try clear hfz26_0
     try clear hfz26_1
     try clear hfz26_2
     try clear hfz8_0
     try clear hfz8_1
     try clear hfz8_2
     try clear p2
     obtain ⟨kq, x71_18, rfl, HA, HJ18, BK205, HB⟩ := hcut
     cases kq with
     | zero => exact absurd HA.out (by simp [lapidarylaw16_RingPoints.j1])
     | succ kj18 =>
      have H := HA.out
      clear HA
      simp only [lapidarylaw16_RingPoints.j1] at H
      by_cases c45 : x71_18 = true
      ·subst c45
       have H1 : (none) = some r := by rw [if_pos rfl] at H; exact H
       clear H
       have H := H1
       clear H1
       exact absurd H (by simp)
      ·replace c45 := Bool.eq_false_iff.mpr c45
       subst c45
       have H1 : (lapidarylaw16_RingPoints.l0 kj18 0 l0_0 l0_1 l0_2) = some r := by rw [if_neg (show ¬ (false = true) by decide)] at H; exact H
       clear H
       have H := H1
       clear H1
       have H' := Aside0.mk H
       clear H
       go_wp2
       go_loopg [15] kj18 (fun kq v15 w' => ∃ (x15_3 : Int), v15 = .int .i64 x15_3 ∧ Aside0 (lapidarylaw16_RingPoints.l0 kq x15_3 l0_0 l0_1 l0_2 = some r) ∧ Aside0 (kq ≤ kj18) ∧ Aside0 (w'.heap[gb205]? = some (.cells #[(.slice A0_0 l0_0.length c0_0), (.slice A0_1 l0_1.length c0_1), (.slice A0_2 l0_2.length c0_2)] 25 (0, 0))) ∧ Aside0 (Below w.heap.size w w'))
       case atStart => exact ⟨(0), (by first | rfl | (simp; done) | (simp [*]; done)), H', ⟨Nat.le_refl _⟩, ⟨bK BK205⟩, ⟨ bH HB⟩⟩
       case round =>
        clear H'
        try clear c1
        try clear c2
        try clear p2
        try clear c3
        try clear c4
        try clear c7
        try clear c8
        try clear c9
        try clear c10
        try clear c11
        try clear c12
        try clear c13
        try clear c14
        try clear c29
        try clear c30
        try clear c30b0
        try clear c30b1
        try clear c32
        try clear c45
        try clear hcz10_0
        try clear hcz10_1
        try clear hcz10_2
        try clear hcz20_0
        try clear hcz20_1
        try clear hcz20_2
        try clear hcz22_0
        try clear hcz22_1
        try clear hcz22_2
        try clear hcz24_0
        try clear hcz24_1
        try clear hcz24_2
        try clear hcz26_0
        try clear hcz26_1
        try clear hcz26_2
        try clear hcz8_0
        try clear hcz8_1
        try clear hcz8_2
        try clear hfz10_0
        try clear hfz10_1
        try clear hfz10_2
        try clear hfz20_0
        try clear hfz20_1
        try clear hfz20_2
        try clear hfz22_0
        try clear hfz22_1
        try clear hfz22_2
        try clear hfz24_0
        try clear hfz24_1
        try clear hfz24_2
        try clear hfz26_0
        try clear hfz26_1
        try clear hfz26_2
        try clear hfz8_0
        try clear hfz8_1
        try clear hfz8_2
        try clear p2
        obtain ⟨x15_3, rfl, HA, HK3, BK205, HB⟩ := hrel
        cases gk with
        | zero => exact absurd HA.out (by simp [lapidarylaw16_RingPoints.l0])
        | succ k3 =>
         have H := HA.out
         clear HA
         simp only [lapidarylaw16_RingPoints.l0] at H
         by_cases c46 : x15_3 < (l0_1.length : Int)
         ·rw [if_pos c46] at H
          have c46b0 : decide (x15_3 < (l0_1.length : Int)) = true := decide_eq_true c46
          clear c46
          replace H := Option.bind_eq_some_iff.mp H
          obtain ⟨⟨t227, t230⟩, A470, H⟩ := H
          replace H : (if 0 ≤ x15_3 then ((lapidaryref16_Points.f k3 l0_0 l0_1 l0_2 (rd_L3 l0_1 x15_3)).bind fun bt232 => ((lapidaryref07_SamePoints.f k3 t227 bt232.1).bind fun t236 => (if t236 = true then (if t230 = bt232.2 then (lapidarylaw16_RingPoints.l0 k3 (wrap64 (x15_3 + 1)) l0_0 l0_1 l0_2) else (none)) else (none)))) else (none)) = some r := H
          have A47 := Aside0.mk A470
          clear A470
          by_cases c48 : 0 ≤ x15_3
          ·rw [if_pos c48] at H
           have c48b0 : decide (0 ≤ x15_3) = true := decide_eq_true c48
           clear c48
           replace H := Option.bind_eq_some_iff.mp H
           obtain ⟨⟨t232, t235⟩, A490, H⟩ := H
           replace H : ((lapidaryref07_SamePoints.f k3 t227 t232).bind fun t236 => (if t236 = true then (if t230 = t235 then (lapidarylaw16_RingPoints.l0 k3 (wrap64 (x15_3 + 1)) l0_0 l0_1 l0_2) else (none)) else (none))) = some r := H
           have A49 := Aside0.mk A490
           clear A490
           replace H := Option.bind_eq_some_iff.mp H
           obtain ⟨t236, A500, H⟩ := H
           replace H : (if t236 = true then (if t230 = t235 then (lapidarylaw16_RingPoints.l0 k3 (wrap64 (x15_3 + 1)) l0_0 l0_1 l0_2) else (none)) else (none)) = some r := H
           have A50 := Aside0.mk A500
           clear A500
           by_cases c51 : t236 = true
           ·subst c51
            have H1 : (if t230 = t235 then (lapidarylaw16_RingPoints.l0 k3 (wrap64 (x15_3 + 1)) l0_0 l0_1 l0_2) else (none)) = some r := by rw [if_pos rfl] at H; exact H
            clear H
            have H := H1
            clear H1
            by_cases c52 : t230 = t235
            ·rw [if_pos c52] at H
             have c52b0 : (t230 == t235) = true := beq_iff_eq.mpr c52
             have c52b1 : (t230 != t235) = false := bne_eq_false_iff_eq.mpr c52
             clear c52
             have H' := Aside0.mk H
             clear H
             have hcz53_0 : wr.cell? ⟨gb205, 0, none⟩ = some (.slice A0_0 l0_0.length c0_0) := (blk_cell BK205.out 0).trans rfl
             have hcz53_1 : wr.cell? ⟨gb205, 1, none⟩ = some (.slice A0_1 l0_1.length c0_1) := (blk_cell BK205.out 1).trans rfl
             have hcz53_2 : wr.cell? ⟨gb205, 2, none⟩ = some (.slice A0_2 l0_2.length c0_2) := (blk_cell BK205.out 2).trans rfl
             have hfz53_0 := blk_frozen BK205.out 0
             have hfz53_1 := blk_frozen BK205.out 1
             have hfz53_2 := blk_frozen BK205.out 2
             try go_wp2_with (first | ((with_reducible refine gate_callee (f := 15) rfl ?_); refine goesL_ (some 82) rfl rfl Try.func15 (by kernel_rfl) rfl #[.agg #[.slice A0_0 l0_0.length c0_0, .slice A0_1 l0_1.length c0_1, .slice A0_2 l0_2.length c0_2], .int .i64 x15_3] rfl (by (try simp only [List.map_toArray, List.map_cons, List.map_nil]); first | done | rfl | (simp only [List.length_drop, List.length_take]; rfl)) ?_; (with_reducible refine (ring_Ring.calls k3 _ _ l0_0 _ _ l0_1 _ _ l0_2 x15_3 t227 t230 _ ?side1 ?side2 ?side3 ?side4 ?side5 ?side6 A47.out).mono ?_); (case side1 => repeat (first | exact (Kd.C_below HR0_0.out HB.out) | (with_reducible refine Kd.C_alloc ?_ _) | (with_reducible refine Kd.C_drewN ?_ _) | (with_reducible refine Kd.C_drew ?_))); (case side2 => exact HC0_0.out); (case side3 => repeat (first | exact (Kd.C_below HR0_1.out HB.out) | (with_reducible refine Kd.C_alloc ?_ _) | (with_reducible refine Kd.C_drewN ?_ _) | (with_reducible refine Kd.C_drew ?_))); (case side4 => exact HC0_1.out); (case side5 => repeat (first | exact (Kd.C_below HR0_2.out HB.out) | (with_reducible refine Kd.C_alloc ?_ _) | (with_reducible refine Kd.C_drewN ?_ _) | (with_reducible refine Kd.C_drew ?_))); (case side6 => exact HC0_2.out); rintro e w54 ⟨v228, rfl, ho0, hb⟩; refine ⟨_, rfl, ?_⟩; have n0_ := Aside0.mk (Kd.R_lower ho0 (below_size (bH HB))); have n1_ := Aside0.mk (blk_below (g := gb205) (o := .cells #[.slice A0_0 l0_0.length c0_0, .slice A0_1 l0_1.length c0_1, .slice A0_2 l0_2.length c0_2] 25 (0, 0)) (bK BK205) hb); have n2_ := Aside0.mk (below_step (bH HB) hb); clear BK205; clear HB; have HO229 := n0_; have BK205 := n1_; have HB := n2_; clear n0_ n1_ n2_; (try clear hb); (try clear hb2); (try clear hk); (try clear hi); (try clear ho0)))
             have n0_ := Aside0.mk (Kd.R_drew HO229.out)
             have n1_ := Aside0.mk (blk_drew BK205.out)
             have n2_ := Aside0.mk (below_drew1 HB.out)
             clear HO229
             clear BK205
             clear HB
             have HO229 := n0_
             have BK205 := n1_
             have HB := n2_
             clear n0_ n1_ n2_
             have p231 : 0 ≤ (x15_3 : Int) := of_decide_eq_true (by first | (with_reducible assumption) | assumption)
             have q231 : x15_3 < (l0_1.length : Int) := of_decide_eq_true (by first | (with_reducible assumption) | assumption)
             obtain ⟨ad231, A231_0, c231_0, e231, hx231_0, hl231_0, hi231_0⟩ := at_L3 HR0_1.out x15_3 p231 q231
             have hw231_0 := hx231_0
             cases e231
             replace hx231_0 := (HB.out.cell (World.block_lt_of_cell? w _ hx231_0)).trans hx231_0
             have HR231_0 := Aside0.mk hi231_0
             have HC231_0 := Aside0.mk hl231_0
             clear hi231_0 hl231_0
             replace p231 := eq_true p231
             replace q231 := eq_true q231
             refine start_ (n := 12) (S := fun w' => w'.cell? ⟨gb205, 0, none⟩ = some (.slice A0_0 l0_0.length c0_0) ∧ w'.cell? ⟨gb205, 1, none⟩ = some (.slice (some ad231) l0_1.length c0_1) ∧ w'.cell? ⟨gb205, 2, none⟩ = some (.slice A0_2 l0_2.length c0_2) ∧ w'.cell? (ad231.add (x15_3).toNat) = some (.slice A231_0 (rd_L3 l0_1 x15_3).length c231_0)) (ds := []) #[false, false, false, false, false, false, false, false, false, false, false, false] (by kernel_rfl) rfl rfl ⟨(blk_cell BK205.out 0).trans rfl, (blk_cell BK205.out 1).trans rfl, (blk_cell BK205.out 2).trans rfl, ((HB.out.cell (World.block_lt_of_cell? w _ hw231_0)).trans hw231_0)⟩ (fun hHeld => ?_); refine with_tabW lapidarylaw16_RingPoints.tab13 lapidarylaw16_RingPoints.bits13 (fun HT_ HW_ => ?_)
             generalize w54.drew = w55 at HO229 BK205 HB HR231_0 hx231_0 hHeld ⊢
             refine pure_ (i := 1) (N := some 87) (v := ?_) (a' := ?_) #[false, true, false, false, false, false, false, false, false, false, false, false] rfl rfl (any_of HT_.out (by kernel_rfl)) (fun _ _ _ h => h) (Or.inl ⟨by rfl, ?_⟩) ?_ ?_
             rotate_left
             ·intro w'
              go_simp
              with_reducible rfl
             rotate_left
             ·simp only [Act.put, List.setIfInBounds_toArray, List.set_cons_zero, List.set_cons_succ, i64_w, i32_w]
              rfl
             refine pure_ (i := 3) (N := some 89) (v := ?_) (a' := ?_) #[false, true, false, true, false, false, false, false, false, false, false, false] rfl rfl (any_of HT_.out (by kernel_rfl)) (fun _ _ _ h => h) (Or.inl ⟨by rfl, ?_⟩) ?_ ?_
             rotate_left
             ·intro w'
              go_simp
              with_reducible rfl
             rotate_left
             ·simp only [Act.put, List.setIfInBounds_toArray, List.set_cons_zero, List.set_cons_succ, i64_w, i32_w]
              rfl
             refine take_ (i := 0) (N := some 86) (v := ?_) (a' := ?_) #[true, true, false, true, false, false, false, false, false, false, false, false] rfl rfl (take_ofW HT_.out HW_.out (by kernel_rfl)) (fun _ _ _ h => h) (Or.inl ⟨by rfl, ?_⟩) hHeld ?_ ?_
             rotate_left
             ·rintro w' ⟨s0, s1, s2, s3⟩
              go_simp
              with_reducible rfl
             rotate_left
             ·simp only [Act.put, List.setIfInBounds_toArray, List.set_cons_zero, List.set_cons_succ, i64_w, i32_w]
              rfl
             refine take_ (i := 2) (N := some 88) (v := ?_) (a' := ?_) #[true, true, true, true, false, false, false, false, false, false, false, false] rfl rfl (take_ofW HT_.out HW_.out (by kernel_rfl)) (fun _ _ _ h => h) (Or.inl ⟨by rfl, ?_⟩) hHeld ?_ ?_
             rotate_left
             ·rintro w' ⟨s0, s1, s2, s3⟩
              go_simp
              with_reducible rfl
             rotate_left
             ·simp only [Act.put, List.setIfInBounds_toArray, List.set_cons_zero, List.set_cons_succ, i64_w, i32_w]
              rfl
             refine pure_ (i := 4) (N := some 90) (v := ?_) (a' := ?_) #[true, true, true, true, true, false, false, false, false, false, false, false] rfl rfl (any_of HT_.out (by kernel_rfl)) (fun _ _ _ h => h) (Or.inl ⟨by rfl, ?_⟩) ?_ ?_
             rotate_left
             ·intro w'
              go_simp
              with_reducible rfl
             rotate_left
             ·simp only [Act.put, List.setIfInBounds_toArray, List.set_cons_zero, List.set_cons_succ, i64_w, i32_w]
              rfl
             refine take_ (i := 5) (N := some 91) (v := ?_) (a' := ?_) #[true, true, true, true, true, true, false, false, false, false, false, false] rfl rfl (take_ofW HT_.out HW_.out (by kernel_rfl)) (fun _ _ _ h => h) (Or.inl ⟨by rfl, ?_⟩) hHeld ?_ ?_
             rotate_left
             ·rintro w' ⟨s0, s1, s2, s3⟩
              go_simp
              with_reducible rfl
             rotate_left
             ·simp only [Act.put, List.setIfInBounds_toArray, List.set_cons_zero, List.set_cons_succ, i64_w, i32_w]
              rfl
             refine one_ (i := 6) (N := some 92) #[true, true, true, true, true, true, true, false, false, false, false, false] rfl rfl (one_of HT_.out (by kernel_rfl)) (by decide) (fun K hK => ?_)
             refine goes_ Try.func11 (by kernel_rfl) rfl #[.agg #[.slice A0_0 l0_0.length c0_0, .slice (some ad231) l0_1.length c0_1, .slice A0_2 l0_2.length c0_2], .slice A231_0 (rd_L3 l0_1 x15_3).length c231_0] (by rfl) rfl rfl (by (try simp only [List.map_toArray, List.map_cons, List.map_nil]); first | done | rfl | (simp only [List.length_drop, List.length_take]; rfl)) ?_
             with_reducible refine (lapidaryref16_Points.calls k3 _ _ l0_0 _ _ l0_1 _ _ l0_2 _ _ (rd_L3 l0_1 x15_3) t232 t235 _ ?side1 ?side2 ?side3 ?side4 ?side5 ?side6 ?side7 ?side8 A49.out).mono ?_
             (case side1 => repeat (first | exact (Kd.C_below HR0_0.out HB.out) | (with_reducible refine Kd.C_alloc ?_ _) | (with_reducible refine Kd.C_drewN ?_ _) | (with_reducible refine Kd.C_drew ?_)))
             (case side2 => exact HC0_0.out)
             (case side3 => repeat (first | exact (Kd.C_below HR0_1.out HB.out) | (with_reducible refine Kd.C_alloc ?_ _) | (with_reducible refine Kd.C_drewN ?_ _) | (with_reducible refine Kd.C_drew ?_)))
             (case side4 => exact HC0_1.out)
             (case side5 => repeat (first | exact (Kd.C_below HR0_2.out HB.out) | (with_reducible refine Kd.C_alloc ?_ _) | (with_reducible refine Kd.C_drewN ?_ _) | (with_reducible refine Kd.C_drew ?_)))
             (case side6 => exact HC0_2.out)
             (case side7 => repeat (first | exact (Kd.C_below HR231_0.out HB.out) | (with_reducible refine Kd.C_alloc ?_ _) | (with_reducible refine Kd.C_drewN ?_ _) | (with_reducible refine Kd.C_drew ?_)))
             (case side8 => exact HC231_0.out)
             rintro e w56 ⟨v233, rfl, ho0, hb⟩
             refine ⟨_, rfl, ?_⟩
             have n0_ := Aside0.mk (Kd.R_elder' (rK HO229) (Kd.R_base ho0) hb)
             have n1_ := Aside0.mk (Kd.R_lower (Kd.R_new' ho0 (Kd.R_lt (rK HO229))) (below_size (bH HB)))
             have n2_ := Aside0.mk (blk_below (g := gb205) (o := .cells #[.slice A0_0 l0_0.length c0_0, .slice (some ad231) l0_1.length c0_1, .slice A0_2 l0_2.length c0_2] 25 (0, 0)) (bK BK205) hb)
             have n3_ := Aside0.mk (below_step (bH HB) hb)
             clear HO229
             clear BK205
             clear HB
             have HO229 := n0_
             have HO234 := n1_
             have BK205 := n2_
             have HB := n3_
             clear n0_ n1_ n2_ n3_
             (try clear hb)
             (try clear hb2)
             (try clear hk)
             (try clear hi)
             (try clear ho0)
             refine hK.out _ _ ⟨(blk_cell BK205.out 0).trans rfl, (blk_cell BK205.out 1).trans rfl, (blk_cell BK205.out 2).trans rfl, ((HB.out.cell (World.block_lt_of_cell? w _ hw231_0)).trans hw231_0)⟩ (fun hHeld => ?_)
             clear hK K
             refine norm_ (a' := ?_) ?_ ?_
             rotate_left
             ·show Act.put _ (some 92) _ = _
              simp only [Act.put, List.setIfInBounds_toArray, List.set_cons_zero, List.set_cons_succ, i64_w, i32_w]
              rfl
             refine pure_ (i := 7) (N := some 85) (v := ?_) (a' := ?_) #[true, true, true, true, true, true, true, true, false, false, false, false] rfl rfl (any_of HT_.out (by kernel_rfl)) (fun _ _ _ h => h) (Or.inl ⟨by rfl, ?_⟩) ?_ ?_
             rotate_left
             ·intro w'
              go_simp
              with_reducible rfl
             rotate_left
             ·simp only [Act.put, List.setIfInBounds_toArray, List.set_cons_zero, List.set_cons_succ, i64_w, i32_w]
              rfl
             refine pure_ (i := 8) (N := some 93) (v := ?_) (a' := ?_) #[true, true, true, true, true, true, true, true, true, false, false, false] rfl rfl (any_of HT_.out (by kernel_rfl)) (fun _ _ _ h => h) (Or.inl ⟨by rfl, ?_⟩) ?_ ?_
             rotate_left
             ·intro w'
              go_simp
              with_reducible rfl
             rotate_left
             ·simp only [Act.put, List.setIfInBounds_toArray, List.set_cons_zero, List.set_cons_succ, i64_w, i32_w]
              rfl
             refine pure_ (i := 9) (N := some 94) (v := ?_) (a' := ?_) #[true, true, true, true, true, true, true, true, true, true, false, false] rfl rfl (any_of HT_.out (by kernel_rfl)) (fun _ _ _ h => h) (Or.inl ⟨by rfl, ?_⟩) ?_ ?_
             rotate_left
             ·intro w'
              go_simp
              with_reducible rfl
             rotate_left
             ·simp only [Act.put, List.setIfInBounds_toArray, List.set_cons_zero, List.set_cons_succ, i64_w, i32_w]
              rfl
             refine pure_ (i := 10) (N := some 18) (v := ?_) (a' := ?_) #[true, true, true, true, true, true, true, true, true, true, true, false] rfl rfl (any_of HT_.out (by kernel_rfl)) (fun _ _ _ h => h) (Or.inl ⟨by rfl, ?_⟩) ?_ ?_
             rotate_left
             ·intro w'
              go_simp
              with_reducible rfl
             rotate_left
             ·simp only [Act.put, List.setIfInBounds_toArray, List.set_cons_zero, List.set_cons_succ, i64_w, i32_w]
              rfl
             refine pure_ (i := 11) (N := some 19) (v := ?_) (a' := ?_) #[true, true, true, true, true, true, true, true, true, true, true, true] rfl rfl (any_of HT_.out (by kernel_rfl)) (fun _ _ _ h => h) (Or.inl ⟨by rfl, ?_⟩) ?_ ?_
             rotate_left
             ·intro w'
              go_simp
              with_reducible rfl
             rotate_left
             ·simp only [Act.put, List.setIfInBounds_toArray, List.set_cons_zero, List.set_cons_succ, i64_w, i32_w]
              rfl
             refine done_ (done_of HT_.out (by kernel_rfl)) ?_
             obtain ⟨Ao57, co57, eo57⟩ := Kd.R_slice HO229.out
             subst eo57
             obtain ⟨Ao58, co58, eo58⟩ := Kd.R_slice HO234.out
             subst eo58
             try go_wp2_with (first | ((with_reducible refine gate_callee (f := 14) rfl ?_); refine goesL_ (some 97) rfl rfl Try.func14 (by kernel_rfl) rfl #[.slice Ao57 t227.length co57, .slice Ao58 t232.length co58] rfl (by (try simp only [List.map_toArray, List.map_cons, List.map_nil]); first | done | rfl | (simp only [List.length_drop, List.length_take]; rfl)) ?_; (with_reducible refine (lapidaryref07_SamePoints.calls k3 _ _ t227 _ _ t232 true _ ?side1 ?side2 ?side3 ?side4 A50.out).mono ?_); (case side1 => repeat (first | exact (Kd.R_reads' HO229.out).2.2 | (with_reducible refine Kd.C_alloc ?_ _) | (with_reducible refine Kd.C_drewN ?_ _) | (with_reducible refine Kd.C_drew ?_))); (case side2 => exact (Kd.R_reads' HO229.out).2.1); (case side3 => repeat (first | exact (Kd.R_reads' HO234.out).2.2 | (with_reducible refine Kd.C_alloc ?_ _) | (with_reducible refine Kd.C_drewN ?_ _) | (with_reducible refine Kd.C_drew ?_))); (case side4 => exact (Kd.R_reads' HO234.out).2.1); rintro e w' ⟨rfl, ⟨nd, rfl⟩⟩; refine ⟨_, rfl, ?_⟩))
             go_roundg k3
             case measure => have := HJ3.out; have := HJ18.out; have := HK3.out; omega
             case rel => exact ⟨(wrap64 (x15_3 + 1)), (by first | rfl | (simp; done) | (simp [*]; done)), H', ⟨by have := HJ3.out; have := HJ18.out; have := HK3.out; omega⟩, ⟨bK BK205⟩, ⟨ bH HB⟩⟩
            ·rw [if_neg c52] at H
             exact absurd H (by simp)
           ·replace c51 := Bool.eq_false_iff.mpr c51
            subst c51
            have H1 : (none) = some r := by rw [if_neg (show ¬ (false = true) by decide)] at H; exact H
            clear H
            have H := H1
            clear H1
            exact absurd H (by simp)
          ·rw [if_neg c48] at H
           exact absurd H (by simp)
         ·rw [if_neg c46] at H
          have c46b0 : decide (x15_3 < (l0_1.length : Int)) = false := decide_eq_false c46
          clear c46
          replace H := Option.bind_eq_some_iff.mp H
          obtain ⟨t226, A590, H⟩ := H
          replace H : (some t226) = some r := H
          have A59 := Aside0.mk A590
          clear A590
          obtain rfl := Option.some.inj H
          have hcz60_0 : wr.cell? ⟨gb205, 0, none⟩ = some (.slice A0_0 l0_0.length c0_0) := (blk_cell BK205.out 0).trans rfl
          have hcz60_1 : wr.cell? ⟨gb205, 1, none⟩ = some (.slice A0_1 l0_1.length c0_1) := (blk_cell BK205.out 1).trans rfl
          have hcz60_2 : wr.cell? ⟨gb205, 2, none⟩ = some (.slice A0_2 l0_2.length c0_2) := (blk_cell BK205.out 2).trans rfl
          have hfz60_0 := blk_frozen BK205.out 0
          have hfz60_1 := blk_frozen BK205.out 1
          have hfz60_2 := blk_frozen BK205.out 2
          go_wp2_with (first | ((with_reducible refine gate_callee (f := 9) rfl ?_); refine goesL_ (some 104) rfl rfl Try.func9 (by kernel_rfl) rfl #[] rfl (by (try simp only [List.map_toArray, List.map_cons, List.map_nil]); first | done | rfl | (simp only [List.length_drop, List.length_take]; rfl)) ?_; (with_reducible refine (lapidarylaw16_known.calls k3  t226 _ A59.out).mono ?_); rintro e w61 ⟨rfl, hb⟩; refine ⟨_, rfl, ?_⟩; have n0_ := Aside0.mk (blk_below (g := gb205) (o := .cells #[.slice A0_0 l0_0.length c0_0, .slice A0_1 l0_1.length c0_1, .slice A0_2 l0_2.length c0_2] 25 (0, 0)) (bK BK205) hb); have n1_ := Aside0.mk (below_step (bH HB) hb); clear BK205; clear HB; have BK205 := n0_; have HB := n1_; clear n0_ n1_; (try clear hb); (try clear hb2); (try clear hk); (try clear hi)))
          go_ret
          exact ⟨by first | rfl | (simp [errW_none, errW_some] <;> rfl) | (simp [*, errW_none, errW_some] <;> rfl), bH HB⟩

end Go.Proofs.Ytfbkjgedaadlmaa.P
