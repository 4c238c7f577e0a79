/- Written for this claim by a program of this session (a turned copy of the print): Go functions as Lean functions, and that the Go code comes to just these answers; or a statement proved out of them. No condition. -/
import Derived.Test.YtlnjbpapbifjfaaPx0
import Derived.Test.YtlnjbpapbifjfaaPx3
import Derived.Test.YtlnjbpapbifjfaaPx7
import Derived.Test.YtlnjbpapbifjfaaPx10
namespace Go.Proofs.Ytlnjbpapbifjfaa.P
open Go.RowKit Go.Proofs.YtlnjbpapbifjfaaW.PrintWords Go.Proofs.YtlnjbpapbifjfaaW.PrintLast Go.Proofs.YtlnjbpapbifjfaaW.PrintMore Go.Proofs.Ytlnjbpapbifjfaa.X
attribute [local go_sem] max2_int min2_int max_two min_two max_three min_three max_four min_four add64_0 add64_1 add64   -- for this text's walks alone
set_option linter.unusedVariables false
set_option linter.unusedSimpArgs false

/-! ### geom_Area: function 16 -/
def geom_Area.l0 : Nat → List (S23) → List (S23) → Int → Int → Int → Int → Option (Int × Int)
 | 0, _, _, _, _, _, _ => none
 | k + 1, x0, x13, x14, x15, x282000, x282001 => if x15 < x14 then (if 0 ≤ x15 then (if x15 < (x13.length : Int) then (if (x0.length : Int) = 0 then (none) else (if 0 ≤ (Int.tmod (wrap64 (x15 + 1)) (x0.length : Int)) then (if (Int.tmod (wrap64 (x15 + 1)) (x0.length : Int)) < (x0.length : Int) then ((wide_Dot.f k (([(rd_T23 x13 x15).f0, (rd_T23 x0 (Int.tmod (wrap64 (x15 + 1)) (x0.length : Int))).f1, wrap64 (-((rd_T23 x13 x15).f1)), (rd_T23 x0 (Int.tmod (wrap64 (x15 + 1)) (x0.length : Int))).f0] : List Int))).bind fun bt290 => ((wide_Add.f k x282000 x282001 (([(⟨bt290.1, bt290.2.1⟩ : S31)] : List (S31)))).bind fun bt297 => (geom_Area.l0 k x0 x13 x14 (wrap64 (x15 + 1)) bt297.1 bt297.2))) else (none)) else (none))) else (none)) else (none)) else (some (x282000, x282001))
def geom_Area.f (k : Nat) (l0 : List (S23)) : Option (Int × Int) := (geom_Right.f k l0).bind fun t282 => (if t282 = true then (geom_Area.l0 k l0 l0 (l0.length : Int) 0 0 0) else (some (0, 0)))
theorem geom_Area.mono_l : ∀ k, (∀ y0 y1 y2 y3 y4 y5, LeO (geom_Area.l0 k y0 y1 y2 y3 y4 y5) (geom_Area.l0 (k + 1) y0 y1 y2 y3 y4 y5))
 | 0 => fun _ _ _ _ _ _ r h => by simp [geom_Area.l0] at h
 | k + 1 => by
  have ih0 := geom_Area.mono_l k
  ·intro y0 y1 y2 y3 y4 y5
   unfold geom_Area.l0
   repeat' first
   | (with_reducible exact ih0 _ _ _ _ _ _)
   | (with_reducible exact geom_Right.mono _ _)
   | (with_reducible exact wide_Add.mono _ _ _ _)
   | (with_reducible exact wide_Dot.mono _ _)
   | (with_reducible exact LeO.refl _)
   | (with_reducible exact LeO.none _)
   | (with_reducible refine LeO.ite ?_ ?_)
   | (with_reducible refine LeO.bind ?_ (fun _ => ?_))
   | exact ih0 _ _ _ _ _ _
   | exact geom_Right.mono _ _
   | exact wide_Add.mono _ _ _ _
   | exact wide_Dot.mono _ _
   | exact LeO.none _
   | refine LeO.ite ?_ ?_
   | refine LeO.bind ?_ (fun _ => ?_)
theorem geom_Area.mono : ∀ a0 k, LeO (geom_Area.f k a0) (geom_Area.f (k + 1) a0) := by
 intro a0 k
 have ih0 := geom_Area.mono_l k
 unfold geom_Area.f
 repeat' first
   | (with_reducible exact ih0 _ _ _ _ _ _)
   | (with_reducible exact geom_Right.mono _ _)
   | (with_reducible exact wide_Add.mono _ _ _ _)
   | (with_reducible exact wide_Dot.mono _ _)
   | (with_reducible exact LeO.refl _)
   | (with_reducible exact LeO.none _)
   | (with_reducible refine LeO.ite ?_ ?_)
   | (with_reducible refine LeO.bind ?_ (fun _ => ?_))
   | exact ih0 _ _ _ _ _ _
   | exact geom_Right.mono _ _
   | exact wide_Add.mono _ _ _ _
   | exact wide_Dot.mono _ _
   | exact LeO.none _
   | refine LeO.ite ?_ ?_
   | refine LeO.bind ?_ (fun _ => ?_)
set_option maxHeartbeats 8000000 in
set_option maxRecDepth 100000 in
theorem geom_Area.calls (k : Nat) (A0 : Option Addr) (c0 : Nat) (l0 : List (S23)) (r1 : Int) (r2 : Int) (w : World) (hr0 : Kd.C k23 w A0 l0.length l0) (hc0 : l0.length ≤ c0) (h : geom_Area.f k l0 = some (r1, r2)) :
  Calls Try.prog 16 #[.slice A0 l0.length c0] w fun e w' => e = .returned (.agg #[.int .i64 r1, .int .u64 r2]) ∧ Below w.heap.size w w' := by
 have hu31 := Try.underlying31
 have hu23 := Try.underlying23
 have HR0 := Aside0.mk hr0
 have HC0 := Aside0.mk hc0
 clear hr0 hc0
 have HB := Aside0.mk (Below.refl w.heap.size w)
 have H : ((geom_Right.f k l0).bind fun t282 => (if t282 = true then (geom_Area.l0 k l0 l0 (l0.length : Int) 0 0 0) else (some (0, 0)))) = some (r1, r2) := h
 clear h
 replace H := Option.bind_eq_some_iff.mp H
 obtain ⟨t282, A20, H⟩ := H
 replace H : (if t282 = true then (geom_Area.l0 k l0 l0 (l0.length : Int) 0 0 0) else (some (0, 0))) = some (r1, r2) := H
 have A2 := Aside0.mk A20
 clear A20
 have HC3 := Aside0.mk H
 clear H
 go_enter Try.func16, Try.ntmps16
 go_upto_if 11 with (first | ((with_reducible refine gate_dst (N := 2) rfl ?_); refine box_event ?hg (N := 2) ?hd (cs := #[.int .i64 0, .int .u64 0]) (t := 31) ?hr ?_; (case hd => rfl); (case hg => rfl); (case hr => first | (go_simp; done) | (go_simp; rfl)); intro gb280 hg w4 hbox hb; have n0_ := Aside0.mk (below_step (bH HB) hb); have n1_ := Aside0.mk (hbox); have n2_ := Aside0.mk ((by rw [hg]; exact (below_size (bH HB)) : w.heap.size ≤ gb280)); have n3_ := n2_; clear HB; have HB := n0_; have BK280 := n1_; have GW280 := n2_; have GE280 := n3_; clear n0_ n1_ n2_ n3_; clear hb hbox hg) | ((with_reducible refine gate_dst (N := 3) rfl ?_); refine box_event ?hg (N := 3) ?hd (cs := #[.int .i64 0, .int .u64 0]) (t := 31) ?hr ?_; (case hd => rfl); (case hg => rfl); (case hr => first | (go_simp; done) | (go_simp; rfl)); intro gb281 hg w5 hbox hb; have n0_ := Aside0.mk (blk_below (g := gb280) (o := .cells #[.int .i64 0, .int .u64 0] 31 (0, 0)) (bK BK280) hb); have n1_ := Aside0.mk (below_step (bH HB) hb); have n2_ := Aside0.mk (hbox); have n3_ := Aside0.mk ((by rw [hg]; exact (below_size (bH HB)) : w.heap.size ≤ gb281)); have n4_ := n3_; have n5_ := Aside0.mk ((by rw [hg]; exact Nat.ne_of_lt (blk_lt (bK BK280)) : gb280 ≠ gb281)); have n6_ := Aside0.mk ((by rw [hg]; exact Nat.ne_of_gt (blk_lt (bK BK280)) : gb281 ≠ gb280)); clear BK280; clear HB; have BK280 := n0_; have HB := n1_; have BK281 := n2_; have GW281 := n3_; have GE281 := n4_; have NB280_281 := n5_; have NB281_280 := n6_; clear n0_ n1_ n2_ n3_ n4_ n5_ n6_; clear hb hbox hg) | ((with_reducible refine gate_callee (f := 22) rfl ?_); refine goesL_ (some 10) rfl rfl Try.func22 (by kernel_rfl) rfl #[.slice A0 l0.length c0] rfl (by (try simp only [List.map_toArray, List.map_cons, List.map_nil]); first | done | rfl | (simp only [List.length_drop, List.length_take]; rfl)) ?_; (with_reducible refine (geom_Right.calls k _ _ l0 t282 _ ?side1 ?side2 A2.out).mono ?_); (case side1 => repeat (first | exact (Kd.C_below HR0.out HB.out) | (with_reducible refine Kd.C_alloc ?_ _) | (with_reducible refine Kd.C_drewN ?_ _) | (with_reducible refine Kd.C_drew ?_))); (case side2 => exact HC0.out); rintro e w6 ⟨rfl, hb⟩; refine ⟨_, rfl, ?_⟩; have n0_ := Aside0.mk (blk_below (g := gb280) (o := .cells #[.int .i64 0, .int .u64 0] 31 (0, 0)) (bK BK280) hb); have n1_ := Aside0.mk (blk_below (g := gb281) (o := .cells #[.int .i64 0, .int .u64 0] 31 (0, 0)) (bK BK281) hb); have n2_ := Aside0.mk (below_step (bH HB) hb); clear BK280; clear BK281; clear HB; have BK280 := n0_; have BK281 := n1_; have HB := n2_; clear n0_ n1_ n2_; (try clear hb); (try clear hb2); (try clear hk); (try clear hi)))
 (try simp only [Act.put, List.setIfInBounds_toArray, List.set_cons_zero, List.set_cons_succ])
 have H := HC3.out
 clear HC3
 by_cases c7 : t282 = true
 ·subst c7
  have H1 : (geom_Area.l0 k l0 l0 (l0.length : Int) 0 0 0) = some (r1, r2) := by rw [if_pos rfl] at H; exact H
  clear H
  have H := H1
  clear H1
  have H' := Aside0.mk H
  clear H
  go_wp2
  go_loopg [15] k (fun kq v15 w' => ∃ (x15_1 : Int) (x282000_1 : Int) (x282001_1 : Int), v15 = .int .i64 x15_1 ∧ Aside0 (geom_Area.l0 kq l0 l0 (l0.length : Int) x15_1 x282000_1 x282001_1 = some (r1, r2)) ∧ Aside0 (kq ≤ k) ∧ Aside0 (w'.heap[gb280]? = some (.cells #[.int .i64 0, .int .u64 0] 31 (0, 0))) ∧ Aside0 (w'.heap[gb281]? = some (.cells #[.int .i64 x282000_1, .int .u64 x282001_1] 31 (0, 0))) ∧ Aside0 (Below w.heap.size w w'))
  case atStart => exact ⟨(0), (0), (0), (by first | rfl | (simp; done) | (simp [*]; done)), H', ⟨Nat.le_refl _⟩, ⟨bK BK280⟩, ⟨bK BK281⟩, ⟨ bH HB⟩⟩
  case round =>
   clear H'
   try clear c1
   try clear c2
   try clear p2
   try clear c7
   obtain ⟨x15_1, x282000_1, x282001_1, rfl, HA, HK1, BK280, BK281, HB⟩ := hrel
   cases gk with
   | zero => exact absurd HA.out (by simp [geom_Area.l0])
   | succ k1 =>
    have H := HA.out
    clear HA
    simp only [geom_Area.l0] at H
    by_cases c8 : x15_1 < (l0.length : Int)
    ·rw [if_pos c8] at H
     have c8b0 : decide (x15_1 < (l0.length : Int)) = true := decide_eq_true c8
     clear c8
     (first | rw [c8b0] | (simp only [i64_w, i32_w]; rw [c8b0]) | skip)
     by_cases c9 : 0 ≤ x15_1
     ·rw [if_pos c9] at H
      have c9b0 : decide (0 ≤ x15_1) = true := decide_eq_true c9
      clear c9
      by_cases c10 : x15_1 < (l0.length : Int)
      ·rw [if_pos c10] at H
       have c10b0 : decide (x15_1 < (l0.length : Int)) = true := decide_eq_true c10
       clear c10
       by_cases c11 : (l0.length : Int) = 0
       ·rw [if_pos c11] at H
        exact absurd H (by simp)
       ·rw [if_neg c11] at H
        have c11b0 : ((l0.length : Int) == 0) = false := beq_eq_false_iff_ne.mpr c11
        have c11b1 : ((l0.length : Int) != 0) = true := bne_iff_ne.mpr c11
        have c11b2 : ¬ (l0 = []) := fun h_ => c11 (by rw [h_]; rfl)
        obtain ⟨ji12, hji12⟩ : ∃ j_ : Int, (Int.tmod (wrap64 (x15_1 + 1)) (l0.length : Int)) = j_ := ⟨_, rfl⟩
        replace H : (if 0 ≤ (ji12) then (if (ji12) < (l0.length : Int) then ((wide_Dot.f k1 (([(rd_T23 l0 x15_1).f0, (rd_T23 l0 (ji12)).f1, wrap64 (-((rd_T23 l0 x15_1).f1)), (rd_T23 l0 (ji12)).f0] : List Int))).bind fun bt290 => ((wide_Add.f k1 x282000_1 x282001_1 (([(⟨bt290.1, bt290.2.1⟩ : S31)] : List (S31)))).bind fun bt297 => (geom_Area.l0 k1 l0 l0 (l0.length : Int) (wrap64 (x15_1 + 1)) bt297.1 bt297.2))) else (none)) else (none)) = some (r1, r2) := by first | (rw [hji12] at H; exact H) | (simp only [hji12] at H ⊢; exact H)
        by_cases c13 : 0 ≤ (ji12)
        ·rw [if_pos c13] at H
         have c13b0 : decide (0 ≤ (ji12)) = true := decide_eq_true c13
         clear c13
         by_cases c14 : (ji12) < (l0.length : Int)
         ·rw [if_pos c14] at H
          have c14b0 : decide ((ji12) < (l0.length : Int)) = true := decide_eq_true c14
          clear c14
          obtain ⟨y287, hy287⟩ : ∃ y_ : List Int, y_ = (([(rd_T23 l0 x15_1).f0, (rd_T23 l0 (ji12)).f1, wrap64 (-((rd_T23 l0 x15_1).f1)), (rd_T23 l0 (ji12)).f0] : List Int)) := ⟨_, rfl⟩
          replace H : ((wide_Dot.f k1 y287).bind fun bt290 => ((wide_Add.f k1 x282000_1 x282001_1 (([(⟨bt290.1, bt290.2.1⟩ : S31)] : List (S31)))).bind fun bt297 => (geom_Area.l0 k1 l0 l0 (l0.length : Int) (wrap64 (x15_1 + 1)) bt297.1 bt297.2))) = some (r1, r2) := by first | (rw [hy287]; with_reducible exact H) | (have H2_ := (Option.bind_some _ _).symm.trans H; rw [hy287]; with_reducible exact H2_) | (have H2_ := (Option.bind_some _ _).symm.trans H; with_reducible exact H2_) | with_reducible exact H | (rw [hy287]; exact H) | exact H
          have Ny287 := Aside0.mk hy287
          clear hy287
          replace H := Option.bind_eq_some_iff.mp H
          obtain ⟨⟨t290, t291, t292⟩, A150, H⟩ := H
          replace H : ((wide_Add.f k1 x282000_1 x282001_1 (([(⟨t290, t291⟩ : S31)] : List (S31)))).bind fun bt297 => (geom_Area.l0 k1 l0 l0 (l0.length : Int) (wrap64 (x15_1 + 1)) bt297.1 bt297.2)) = some (r1, r2) := H
          have A15 := Aside0.mk A150
          clear A150
          obtain ⟨y294, hy294⟩ : ∃ y_ : List (S31), y_ = (([(⟨t290, t291⟩ : S31)] : List (S31))) := ⟨_, rfl⟩
          replace H : ((wide_Add.f k1 x282000_1 x282001_1 y294).bind fun bt297 => (geom_Area.l0 k1 l0 l0 (l0.length : Int) (wrap64 (x15_1 + 1)) bt297.1 bt297.2)) = some (r1, r2) := by first | (rw [hy294]; with_reducible exact H) | (have H2_ := (Option.bind_some _ _).symm.trans H; rw [hy294]; with_reducible exact H2_) | (have H2_ := (Option.bind_some _ _).symm.trans H; with_reducible exact H2_) | with_reducible exact H | (rw [hy294]; exact H) | exact H
          have Ny294 := Aside0.mk hy294
          clear hy294
          replace H := Option.bind_eq_some_iff.mp H
          obtain ⟨⟨t297, t298⟩, A160, H⟩ := H
          replace H : (geom_Area.l0 k1 l0 l0 (l0.length : Int) (wrap64 (x15_1 + 1)) t297 t298) = some (r1, r2) := H
          have A16 := Aside0.mk A160
          clear A160
          have H' := Aside0.mk H
          clear H
          have p283 : 0 ≤ (x15_1 : Int) := of_decide_eq_true (by first | (with_reducible assumption) | assumption)
          have q283 : x15_1 < (l0.length : Int) := of_decide_eq_true (by first | (with_reducible assumption) | assumption)
          obtain ⟨ad283, e283, hx283_0, hx283_1, hx283_2⟩ := at_T23 HR0.out x15_1 p283 q283
          cases e283
          replace hx283_0 := (HB.out.cell (World.block_lt_of_cell? w _ hx283_0)).trans hx283_0
          replace hx283_1 := (HB.out.cell (World.block_lt_of_cell? w _ hx283_1)).trans hx283_1
          replace hx283_2 := (HB.out.cell (World.block_lt_of_cell? w _ hx283_2)).trans hx283_2
          replace p283 := eq_true p283
          replace q283 := eq_true q283
          go_wp2_with (first | ((with_reducible refine gate_dst (N := 5) rfl ?_); refine box_event ?hg (N := 5) ?hd (cs := #[.int .i64 0, .int .i64 0, .int .i64 0]) (t := 23) ?hr ?_; (case hd => rfl); (case hg => rfl); (case hr => first | (go_simp; done) | (go_simp; rfl)); intro gb284 hg w17 hbox hb; have n0_ := Aside0.mk (blk_below (g := gb280) (o := .cells #[.int .i64 0, .int .u64 0] 31 (0, 0)) (bK BK280) hb); have n1_ := Aside0.mk (blk_below (g := gb281) (o := .cells #[.int .i64 x282000_1, .int .u64 x282001_1] 31 (0, 0)) (bK BK281) hb); have n2_ := Aside0.mk (below_step (bH HB) hb); have n3_ := Aside0.mk (hbox); have n4_ := Aside0.mk ((by rw [hg]; exact (below_size (bH HB)) : w.heap.size ≤ gb284)); have n5_ := n4_; have n6_ := Aside0.mk ((by rw [hg]; exact Nat.ne_of_lt (blk_lt (bK BK280)) : gb280 ≠ gb284)); have n7_ := Aside0.mk ((by rw [hg]; exact Nat.ne_of_gt (blk_lt (bK BK280)) : gb284 ≠ gb280)); have n8_ := Aside0.mk ((by rw [hg]; exact Nat.ne_of_lt (blk_lt (bK BK281)) : gb281 ≠ gb284)); have n9_ := Aside0.mk ((by rw [hg]; exact Nat.ne_of_gt (blk_lt (bK BK281)) : gb284 ≠ gb281)); clear BK280; clear BK281; clear HB; have BK280 := n0_; have BK281 := n1_; have HB := n2_; have BK284 := n3_; have GW284 := n4_; have GE284 := n5_; have NB280_284 := n6_; have NB284_280 := n7_; have NB281_284 := n8_; have NB284_281 := n9_; clear n0_ n1_ n2_ n3_ n4_ n5_ n6_ n7_ n8_ n9_; clear hb hbox hg; have hnb18 := NB284_280.out; have hnc18 := NB280_284.out; have hnb19 := NB284_281.out; have hnc19 := NB281_284.out; have hcz20_0 : w17.cell? ⟨gb284, 0, none⟩ = some (.int .i64 0) := (blk_cell BK284.out 0).trans rfl; have hcz20_1 : w17.cell? ⟨gb284, 1, none⟩ = some (.int .i64 0) := (blk_cell BK284.out 1).trans rfl; have hcz20_2 : w17.cell? ⟨gb284, 2, none⟩ = some (.int .i64 0) := (blk_cell BK284.out 2).trans rfl; have hfz20_0 := blk_frozen BK284.out 0; have hfz20_1 := blk_frozen BK284.out 1; have hfz20_2 := blk_frozen BK284.out 2; have p285 : 0 ≤ ((ji12) : Int) := of_decide_eq_true (by first | (with_reducible assumption) | assumption); have q285 : (ji12) < (l0.length : Int) := of_decide_eq_true (by first | (with_reducible assumption) | assumption); obtain ⟨ad285, e285, hx285_0, hx285_1, hx285_2⟩ := at_T23 HR0.out (ji12) p285 q285; obtain rfl : ad283 = ad285 := (by injection e285); have hn285_0 : ad283.block ≠ gb284 := Nat.ne_of_lt (Nat.lt_of_lt_of_le (by have := World.block_lt_of_cell? _ _ hx285_0; first | rwa [add_block] at this | exact this) GW284.out); have hn285_1 : ad283.block ≠ gb284 := Nat.ne_of_lt (Nat.lt_of_lt_of_le (by have := World.block_lt_of_cell? _ _ hx285_0; first | rwa [add_block] at this | exact this) GW284.out); have hn285_2 : ad283.block ≠ gb284 := Nat.ne_of_lt (Nat.lt_of_lt_of_le (by have := World.block_lt_of_cell? _ _ hx285_0; first | rwa [add_block] at this | exact this) GW284.out); replace hx285_0 := (HB.out.cell (World.block_lt_of_cell? w _ hx285_0)).trans hx285_0; replace hx285_1 := (HB.out.cell (World.block_lt_of_cell? w _ hx285_1)).trans hx285_1; replace hx285_2 := (HB.out.cell (World.block_lt_of_cell? w _ hx285_2)).trans hx285_2; replace hx285_0 := (cell_far (p := ⟨gb284, 0, none⟩) (by first | (rw [add_block]; exact hn285_0) | (show (Addr.add _ _).block ≠ _; rw [add_block]; exact hn285_0) | exact hn285_0) (.int .i64 ((rd_T23 l0 x15_1).f0))).trans hx285_0; replace hx285_1 := (cell_far (p := ⟨gb284, 0, none⟩) (by first | (rw [add_block]; exact hn285_0) | (show (Addr.add _ _).block ≠ _; rw [add_block]; exact hn285_0) | exact hn285_0) (.int .i64 ((rd_T23 l0 x15_1).f0))).trans hx285_1; replace hx285_2 := (cell_far (p := ⟨gb284, 0, none⟩) (by first | (rw [add_block]; exact hn285_0) | (show (Addr.add _ _).block ≠ _; rw [add_block]; exact hn285_0) | exact hn285_0) (.int .i64 ((rd_T23 l0 x15_1).f0))).trans hx285_2; replace hx285_0 := (cell_far (p := ⟨gb284, 1, none⟩) (by first | (rw [add_block]; exact hn285_1) | (show (Addr.add _ _).block ≠ _; rw [add_block]; exact hn285_1) | exact hn285_1) (.int .i64 ((rd_T23 l0 x15_1).f1))).trans hx285_0; replace hx285_1 := (cell_far (p := ⟨gb284, 1, none⟩) (by first | (rw [add_block]; exact hn285_1) | (show (Addr.add _ _).block ≠ _; rw [add_block]; exact hn285_1) | exact hn285_1) (.int .i64 ((rd_T23 l0 x15_1).f1))).trans hx285_1; replace hx285_2 := (cell_far (p := ⟨gb284, 1, none⟩) (by first | (rw [add_block]; exact hn285_1) | (show (Addr.add _ _).block ≠ _; rw [add_block]; exact hn285_1) | exact hn285_1) (.int .i64 ((rd_T23 l0 x15_1).f1))).trans hx285_2; replace hx285_0 := (cell_far (p := ⟨gb284, 2, none⟩) (by first | (rw [add_block]; exact hn285_2) | (show (Addr.add _ _).block ≠ _; rw [add_block]; exact hn285_2) | exact hn285_2) (.int .i64 ((rd_T23 l0 x15_1).f2))).trans hx285_0; replace hx285_1 := (cell_far (p := ⟨gb284, 2, none⟩) (by first | (rw [add_block]; exact hn285_2) | (show (Addr.add _ _).block ≠ _; rw [add_block]; exact hn285_2) | exact hn285_2) (.int .i64 ((rd_T23 l0 x15_1).f2))).trans hx285_1; replace hx285_2 := (cell_far (p := ⟨gb284, 2, none⟩) (by first | (rw [add_block]; exact hn285_2) | (show (Addr.add _ _).block ≠ _; rw [add_block]; exact hn285_2) | exact hn285_2) (.int .i64 ((rd_T23 l0 x15_1).f2))).trans hx285_2; clear hn285_0; clear hn285_1; clear hn285_2; replace p285 := eq_true p285; replace q285 := eq_true q285) | ((with_reducible refine gate_dst (N := 6) rfl ?_); refine box_event ?hg (N := 6) ?hd (cs := #[.int .i64 0, .int .i64 0, .int .i64 0]) (t := 23) ?hr ?_; (case hd => rfl); (case hg => rfl); (case hr => first | (go_simp; done) | (go_simp; rfl)); intro gb286 hg w21 hbox hb; have n0_ := Aside0.mk (blk_below (g := gb280) (o := .cells #[.int .i64 0, .int .u64 0] 31 (0, 0)) (bK BK280) hb); have n1_ := Aside0.mk (blk_below (g := gb281) (o := .cells #[.int .i64 x282000_1, .int .u64 x282001_1] 31 (0, 0)) (bK BK281) hb); have n2_ := Aside0.mk (blk_below (g := gb284) (o := .cells #[.int .i64 ((rd_T23 l0 x15_1).f0), .int .i64 ((rd_T23 l0 x15_1).f1), .int .i64 ((rd_T23 l0 x15_1).f2)] 23 (0, 0)) (by (with_reducible repeat (first | refine blk_drewN ?_ _ | refine blk_drew ?_ | refine blk_alloc ?_ _)); refine blk_put (cs := #[.int .i64 ((rd_T23 l0 x15_1).f0), .int .i64 ((rd_T23 l0 x15_1).f1), .int .i64 0]) ?_ 2 _ rfl; (with_reducible repeat (first | refine blk_drewN ?_ _ | refine blk_drew ?_ | refine blk_alloc ?_ _)); refine blk_put (cs := #[.int .i64 ((rd_T23 l0 x15_1).f0), .int .i64 0, .int .i64 0]) ?_ 1 _ rfl; (with_reducible repeat (first | refine blk_drewN ?_ _ | refine blk_drew ?_ | refine blk_alloc ?_ _)); refine blk_put (cs := #[.int .i64 0, .int .i64 0, .int .i64 0]) ?_ 0 _ rfl; (with_reducible repeat (first | refine blk_drewN ?_ _ | refine blk_drew ?_ | refine blk_alloc ?_ _)); exact BK284.out) hb); have n3_ := Aside0.mk (below_step (bH HB) hb); have n4_ := Aside0.mk (hbox); have n5_ := Aside0.mk ((by rw [hg]; exact (below_size (bH HB)) : w.heap.size ≤ gb286)); have n6_ := n5_; have n7_ := Aside0.mk ((by rw [hg]; exact Nat.ne_of_lt (blk_lt (bK BK280)) : gb280 ≠ gb286)); have n8_ := Aside0.mk ((by rw [hg]; exact Nat.ne_of_gt (blk_lt (bK BK280)) : gb286 ≠ gb280)); have n9_ := Aside0.mk ((by rw [hg]; exact Nat.ne_of_lt (blk_lt (bK BK281)) : gb281 ≠ gb286)); have n10_ := Aside0.mk ((by rw [hg]; exact Nat.ne_of_gt (blk_lt (bK BK281)) : gb286 ≠ gb281)); have n11_ := Aside0.mk ((by rw [hg]; exact Nat.ne_of_lt (blk_lt (g := gb284) (o := .cells #[.int .i64 ((rd_T23 l0 x15_1).f0), .int .i64 ((rd_T23 l0 x15_1).f1), .int .i64 ((rd_T23 l0 x15_1).f2)] 23 (0, 0)) (by (with_reducible repeat (first | refine blk_drewN ?_ _ | refine blk_drew ?_ | refine blk_alloc ?_ _)); refine blk_put (cs := #[.int .i64 ((rd_T23 l0 x15_1).f0), .int .i64 ((rd_T23 l0 x15_1).f1), .int .i64 0]) ?_ 2 _ rfl; (with_reducible repeat (first | refine blk_drewN ?_ _ | refine blk_drew ?_ | refine blk_alloc ?_ _)); refine blk_put (cs := #[.int .i64 ((rd_T23 l0 x15_1).f0), .int .i64 0, .int .i64 0]) ?_ 1 _ rfl; (with_reducible repeat (first | refine blk_drewN ?_ _ | refine blk_drew ?_ | refine blk_alloc ?_ _)); refine blk_put (cs := #[.int .i64 0, .int .i64 0, .int .i64 0]) ?_ 0 _ rfl; (with_reducible repeat (first | refine blk_drewN ?_ _ | refine blk_drew ?_ | refine blk_alloc ?_ _)); exact BK284.out)) : gb284 ≠ gb286)); have n12_ := Aside0.mk ((by rw [hg]; exact Nat.ne_of_gt (blk_lt (g := gb284) (o := .cells #[.int .i64 ((rd_T23 l0 x15_1).f0), .int .i64 ((rd_T23 l0 x15_1).f1), .int .i64 ((rd_T23 l0 x15_1).f2)] 23 (0, 0)) (by (with_reducible repeat (first | refine blk_drewN ?_ _ | refine blk_drew ?_ | refine blk_alloc ?_ _)); refine blk_put (cs := #[.int .i64 ((rd_T23 l0 x15_1).f0), .int .i64 ((rd_T23 l0 x15_1).f1), .int .i64 0]) ?_ 2 _ rfl; (with_reducible repeat (first | refine blk_drewN ?_ _ | refine blk_drew ?_ | refine blk_alloc ?_ _)); refine blk_put (cs := #[.int .i64 ((rd_T23 l0 x15_1).f0), .int .i64 0, .int .i64 0]) ?_ 1 _ rfl; (with_reducible repeat (first | refine blk_drewN ?_ _ | refine blk_drew ?_ | refine blk_alloc ?_ _)); refine blk_put (cs := #[.int .i64 0, .int .i64 0, .int .i64 0]) ?_ 0 _ rfl; (with_reducible repeat (first | refine blk_drewN ?_ _ | refine blk_drew ?_ | refine blk_alloc ?_ _)); exact BK284.out)) : gb286 ≠ gb284)); clear BK280; clear BK281; clear BK284; clear HB; have BK280 := n0_; have BK281 := n1_; have BK284 := n2_; have HB := n3_; have BK286 := n4_; have GW286 := n5_; have GE286 := n6_; have NB280_286 := n7_; have NB286_280 := n8_; have NB281_286 := n9_; have NB286_281 := n10_; have NB284_286 := n11_; have NB286_284 := n12_; clear n0_ n1_ n2_ n3_ n4_ n5_ n6_ n7_ n8_ n9_ n10_ n11_ n12_; clear hb hbox hg; have hnb22 := NB286_280.out; have hnc22 := NB280_286.out; have hnb23 := NB286_281.out; have hnc23 := NB281_286.out; have hnb24 := NB286_284.out; have hnc24 := NB284_286.out; have hcz25_0 : w21.cell? ⟨gb286, 0, none⟩ = some (.int .i64 0) := (blk_cell BK286.out 0).trans rfl; have hcz25_1 : w21.cell? ⟨gb286, 1, none⟩ = some (.int .i64 0) := (blk_cell BK286.out 1).trans rfl; have hcz25_2 : w21.cell? ⟨gb286, 2, none⟩ = some (.int .i64 0) := (blk_cell BK286.out 2).trans rfl; have hfz25_0 := blk_frozen BK286.out 0; have hfz25_1 := blk_frozen BK286.out 1; have hfz25_2 := blk_frozen BK286.out 2; have hcz26_0 : w21.cell? ⟨gb284, 0, none⟩ = some (.int .i64 ((rd_T23 l0 x15_1).f0)) := (blk_cell BK284.out 0).trans rfl; have hcz26_1 : w21.cell? ⟨gb284, 1, none⟩ = some (.int .i64 ((rd_T23 l0 x15_1).f1)) := (blk_cell BK284.out 1).trans rfl; have hcz26_2 : w21.cell? ⟨gb284, 2, none⟩ = some (.int .i64 ((rd_T23 l0 x15_1).f2)) := (blk_cell BK284.out 2).trans rfl; have hfz26_0 := blk_frozen BK284.out 0; have hfz26_1 := blk_frozen BK284.out 1; have hfz26_2 := blk_frozen BK284.out 2) | ((with_reducible refine gate_dst (N := 38) rfl ?_); refine Kd.R_lit (Kd.int .i64) _ 3 ?hg (N := 38) ?hd (xs := ([(rd_T23 l0 x15_1).f0, (rd_T23 l0 (ji12)).f1, wrap64 (-((rd_T23 l0 x15_1).f1)), (rd_T23 l0 (ji12)).f0] : List Int)) (inner := [.int .i64 ((rd_T23 l0 x15_1).f0), .int .i64 ((rd_T23 l0 (ji12)).f1), .int .i64 (wrap64 (-((rd_T23 l0 x15_1).f1))), .int .i64 ((rd_T23 l0 (ji12)).f0)]) (ok := fun _ => True) (okp := fun _ => True) ?hr ?hp (fun _ hk => hk) trivial (Below.refl _ _) (Nat.le_refl _) (by simp) ?_; (case hd => rfl); (case hg => rfl); (case hr => first | (go_simp; done) | (go_simp; rfl)); (case hp => exact (Reps.one (show Kd.M (Kd.int .i64) _ _ _ ((rd_T23 l0 x15_1).f0) [.int .i64 ((rd_T23 l0 x15_1).f0)] from rfl) (Reps.one (show Kd.M (Kd.int .i64) _ _ _ ((rd_T23 l0 (ji12)).f1) [.int .i64 ((rd_T23 l0 (ji12)).f1)] from rfl) (Reps.one (show Kd.M (Kd.int .i64) _ _ _ (wrap64 (-((rd_T23 l0 x15_1).f1))) [.int .i64 (wrap64 (-((rd_T23 l0 x15_1).f1)))] from rfl) (Reps.one (show Kd.M (Kd.int .i64) _ _ _ ((rd_T23 l0 (ji12)).f0) [.int .i64 ((rd_T23 l0 (ji12)).f0)] from rfl) (Reps.none _ _)))))); intro v288 w27 ho28 hb hg_ hnew_; clear hg_ hnew_; (first | rw [← Ny287.out] at ho28 | (simp only [Int.reduceToNat] at ho28; rw [← Ny287.out] at ho28)); have n0_ := Aside0.mk (Kd.R_lower ho28 (below_size (bH HB))); have n1_ := Aside0.mk (blk_below (g := gb280) (o := .cells #[.int .i64 0, .int .u64 0] 31 (0, 0)) (bK BK280) hb); have n2_ := Aside0.mk (blk_below (g := gb281) (o := .cells #[.int .i64 x282000_1, .int .u64 x282001_1] 31 (0, 0)) (bK BK281) hb); have n3_ := Aside0.mk (blk_below (g := gb284) (o := .cells #[.int .i64 ((rd_T23 l0 x15_1).f0), .int .i64 ((rd_T23 l0 x15_1).f1), .int .i64 ((rd_T23 l0 x15_1).f2)] 23 (0, 0)) (bK BK284) hb); have n4_ := Aside0.mk (blk_below (g := gb286) (o := .cells #[.int .i64 ((rd_T23 l0 (ji12)).f0), .int .i64 ((rd_T23 l0 (ji12)).f1), .int .i64 ((rd_T23 l0 (ji12)).f2)] 23 (0, 0)) (by (with_reducible repeat (first | refine blk_drewN ?_ _ | refine blk_drew ?_ | refine blk_alloc ?_ _)); refine blk_put (cs := #[.int .i64 ((rd_T23 l0 (ji12)).f0), .int .i64 ((rd_T23 l0 (ji12)).f1), .int .i64 0]) ?_ 2 _ rfl; (with_reducible repeat (first | refine blk_drewN ?_ _ | refine blk_drew ?_ | refine blk_alloc ?_ _)); refine blk_put (cs := #[.int .i64 ((rd_T23 l0 (ji12)).f0), .int .i64 0, .int .i64 0]) ?_ 1 _ rfl; (with_reducible repeat (first | refine blk_drewN ?_ _ | refine blk_drew ?_ | refine blk_alloc ?_ _)); refine blk_put (cs := #[.int .i64 0, .int .i64 0, .int .i64 0]) ?_ 0 _ rfl; (with_reducible repeat (first | refine blk_drewN ?_ _ | refine blk_drew ?_ | refine blk_alloc ?_ _)); exact BK286.out) hb); have n5_ := Aside0.mk (below_step (bH HB) hb); clear BK280; clear BK281; clear BK284; clear BK286; clear HB; have HO289 := n0_; have BK280 := n1_; have BK281 := n2_; have BK284 := n3_; have BK286 := n4_; have HB := n5_; clear n0_ n1_ n2_ n3_ n4_ n5_; clear hb ho28; obtain ⟨Ao29, co29, eo29⟩ := Kd.R_slice HO289.out; subst eo29) | ((with_reducible refine gate_callee (f := 32) rfl ?_); refine goesL_ (some 39) rfl rfl Try.func32 (by kernel_rfl) rfl #[.slice Ao29 y287.length co29] rfl (by (try simp only [List.map_toArray, List.map_cons, List.map_nil]); first | done | rfl | (simp only [List.length_drop, List.length_take]; rfl)) ?_; (with_reducible refine (wide_Dot.calls k1 _ _ y287 t290 t291 t292 _ ?side1 ?side2 A15.out).mono ?_); (case side1 => repeat (first | exact (Kd.R_reads' HO289.out).2.2 | (with_reducible refine Kd.C_alloc ?_ _) | (with_reducible refine Kd.C_drewN ?_ _) | (with_reducible refine Kd.C_drew ?_))); (case side2 => exact (Kd.R_reads' HO289.out).2.1); rintro e w30 ⟨rfl, hb⟩; refine ⟨_, rfl, ?_⟩; have n0_ := Aside0.mk (Kd.R_below (rK HO289) hb); have n1_ := Aside0.mk (blk_below (g := gb280) (o := .cells #[.int .i64 0, .int .u64 0] 31 (0, 0)) (bK BK280) hb); have n2_ := Aside0.mk (blk_below (g := gb281) (o := .cells #[.int .i64 x282000_1, .int .u64 x282001_1] 31 (0, 0)) (bK BK281) hb); have n3_ := Aside0.mk (blk_below (g := gb284) (o := .cells #[.int .i64 ((rd_T23 l0 x15_1).f0), .int .i64 ((rd_T23 l0 x15_1).f1), .int .i64 ((rd_T23 l0 x15_1).f2)] 23 (0, 0)) (bK BK284) hb); have n4_ := Aside0.mk (blk_below (g := gb286) (o := .cells #[.int .i64 ((rd_T23 l0 (ji12)).f0), .int .i64 ((rd_T23 l0 (ji12)).f1), .int .i64 ((rd_T23 l0 (ji12)).f2)] 23 (0, 0)) (bK BK286) hb); have n5_ := Aside0.mk (below_step (bH HB) hb); clear HO289; clear BK280; clear BK281; clear BK284; clear BK286; clear HB; have HO289 := n0_; have BK280 := n1_; have BK281 := n2_; have BK284 := n3_; have BK286 := n4_; have HB := n5_; clear n0_ n1_ n2_ n3_ n4_ n5_; (try clear hb); (try clear hb2); (try clear hk); (try clear hi)) | ((with_reducible refine gate_dst (N := 7) rfl ?_); refine box_event ?hg (N := 7) ?hd (cs := #[.int .i64 0, .int .u64 0]) (t := 31) ?hr ?_; (case hd => rfl); (case hg => rfl); (case hr => first | (go_simp; done) | (go_simp; rfl)); intro gb293 hg w31 hbox hb; have n0_ := Aside0.mk (Kd.R_below (rK HO289) hb); have n1_ := Aside0.mk (blk_below (g := gb280) (o := .cells #[.int .i64 0, .int .u64 0] 31 (0, 0)) (bK BK280) hb); have n2_ := Aside0.mk (blk_below (g := gb281) (o := .cells #[.int .i64 x282000_1, .int .u64 x282001_1] 31 (0, 0)) (bK BK281) hb); have n3_ := Aside0.mk (blk_below (g := gb284) (o := .cells #[.int .i64 ((rd_T23 l0 x15_1).f0), .int .i64 ((rd_T23 l0 x15_1).f1), .int .i64 ((rd_T23 l0 x15_1).f2)] 23 (0, 0)) (bK BK284) hb); have n4_ := Aside0.mk (blk_below (g := gb286) (o := .cells #[.int .i64 ((rd_T23 l0 (ji12)).f0), .int .i64 ((rd_T23 l0 (ji12)).f1), .int .i64 ((rd_T23 l0 (ji12)).f2)] 23 (0, 0)) (bK BK286) hb); have n5_ := Aside0.mk (below_step (bH HB) hb); have n6_ := Aside0.mk (hbox); have n7_ := Aside0.mk ((by rw [hg]; exact (below_size (bH HB)) : w.heap.size ≤ gb293)); have n8_ := n7_; have n9_ := Aside0.mk ((by rw [hg]; exact Nat.ne_of_lt (blk_lt (bK BK280)) : gb280 ≠ gb293)); have n10_ := Aside0.mk ((by rw [hg]; exact Nat.ne_of_gt (blk_lt (bK BK280)) : gb293 ≠ gb280)); have n11_ := Aside0.mk ((by rw [hg]; exact Nat.ne_of_lt (blk_lt (bK BK281)) : gb281 ≠ gb293)); have n12_ := Aside0.mk ((by rw [hg]; exact Nat.ne_of_gt (blk_lt (bK BK281)) : gb293 ≠ gb281)); have n13_ := Aside0.mk ((by rw [hg]; exact Nat.ne_of_lt (blk_lt (bK BK284)) : gb284 ≠ gb293)); have n14_ := Aside0.mk ((by rw [hg]; exact Nat.ne_of_gt (blk_lt (bK BK284)) : gb293 ≠ gb284)); have n15_ := Aside0.mk ((by rw [hg]; exact Nat.ne_of_lt (blk_lt (bK BK286)) : gb286 ≠ gb293)); have n16_ := Aside0.mk ((by rw [hg]; exact Nat.ne_of_gt (blk_lt (bK BK286)) : gb293 ≠ gb286)); clear HO289; clear BK280; clear BK281; clear BK284; clear BK286; clear HB; have HO289 := n0_; have BK280 := n1_; have BK281 := n2_; have BK284 := n3_; have BK286 := n4_; have HB := n5_; have BK293 := n6_; have GW293 := n7_; have GE293 := n8_; have NB280_293 := n9_; have NB293_280 := n10_; have NB281_293 := n11_; have NB293_281 := n12_; have NB284_293 := n13_; have NB293_284 := n14_; have NB286_293 := n15_; have NB293_286 := n16_; clear n0_ n1_ n2_ n3_ n4_ n5_ n6_ n7_ n8_ n9_ n10_ n11_ n12_ n13_ n14_ n15_ n16_; clear hb hbox hg; have hnb32 := NB293_280.out; have hnc32 := NB280_293.out; have hnb33 := NB293_281.out; have hnc33 := NB281_293.out; have hnb34 := NB293_284.out; have hnc34 := NB284_293.out; have hnb35 := NB293_286.out; have hnc35 := NB286_293.out; have hcz36_0 : w31.cell? ⟨gb293, 0, none⟩ = some (.int .i64 0) := (blk_cell BK293.out 0).trans rfl; have hcz36_1 : w31.cell? ⟨gb293, 1, none⟩ = some (.int .u64 0) := (blk_cell BK293.out 1).trans rfl; have hfz36_0 := blk_frozen BK293.out 0; have hfz36_1 := blk_frozen BK293.out 1; have hnb37 := NB281_280.out; have hnc37 := NB280_281.out; have hcz38_0 : w31.cell? ⟨gb281, 0, none⟩ = some (.int .i64 x282000_1) := (blk_cell BK281.out 0).trans rfl; have hcz38_1 : w31.cell? ⟨gb281, 1, none⟩ = some (.int .u64 x282001_1) := (blk_cell BK281.out 1).trans rfl; have hfz38_0 := blk_frozen BK281.out 0; have hfz38_1 := blk_frozen BK281.out 1) | ((with_reducible refine gate_dst (N := 44) rfl ?_); refine Kd.R_lit k31 _ 31 ?hg (N := 44) ?hd (xs := ([(⟨t290, t291⟩ : S31)] : List (S31))) (inner := [.int .i64 t290, .int .u64 t291]) (ok := fun _ => True) (okp := fun _ => True) ?hr ?hp (fun _ hk => hk) trivial (Below.refl _ _) (Nat.le_refl _) (by simp) ?_; (case hd => rfl); (case hg => rfl); (case hr => first | (go_simp; done) | (go_simp; rfl)); (case hp => exact (Reps.c2 (show Kd.M k31 _ _ _ (⟨t290, t291⟩ : S31) [.int .i64 t290, .int .u64 t291] from (k31_mkM _ _ _ (⟨t290, t291⟩ : S31) )) (Reps.none _ _))); intro v295 w39 ho40 hb hg_ hnew_; clear hg_ hnew_; (first | rw [← Ny294.out] at ho40 | (simp only [Int.reduceToNat] at ho40; rw [← Ny294.out] at ho40)); have n0_ := Aside0.mk (Kd.R_below (by (with_reducible repeat (first | apply Kd.R_alloc | apply Kd.R_drewN | apply Kd.R_drew)); exact (Kd.R_mono (Kd.R_far (p := ⟨gb293, 1, none⟩) (Kd.R_far (p := ⟨gb293, 0, none⟩) (Kd.R_types HO289.out BK293.out (by decide)) (fun _ hk => hk.2) (.int .i64 t290)) (fun _ hk => hk.2) (.int .u64 t291)) (fun _ h_ => h_.1))) hb); have n1_ := Aside0.mk (Kd.R_lower (Kd.R_newB (Kd.R_newB (Kd.R_newB ho40 (g := gb280) (o := .cells #[.int .i64 0, .int .u64 0] 31 (0, 0)) (bK BK280)) (g := gb281) (o := .cells #[.int .i64 x282000_1, .int .u64 x282001_1] 31 (0, 0)) (bK BK281)) (g := gb293) (o := .cells #[.int .i64 t290, .int .u64 t291] 31 (0, 0)) (by (with_reducible repeat (first | refine blk_drewN ?_ _ | refine blk_drew ?_ | refine blk_alloc ?_ _)); refine blk_put (cs := #[.int .i64 t290, .int .u64 0]) ?_ 1 _ rfl; (with_reducible repeat (first | refine blk_drewN ?_ _ | refine blk_drew ?_ | refine blk_alloc ?_ _)); refine blk_put (cs := #[.int .i64 0, .int .u64 0]) ?_ 0 _ rfl; (with_reducible repeat (first | refine blk_drewN ?_ _ | refine blk_drew ?_ | refine blk_alloc ?_ _)); exact BK293.out)) (below_size (bH HB))); have n2_ := Aside0.mk (blk_below (g := gb280) (o := .cells #[.int .i64 0, .int .u64 0] 31 (0, 0)) (bK BK280) hb); have n3_ := Aside0.mk (blk_below (g := gb281) (o := .cells #[.int .i64 x282000_1, .int .u64 x282001_1] 31 (0, 0)) (bK BK281) hb); have n4_ := Aside0.mk (blk_below (g := gb284) (o := .cells #[.int .i64 ((rd_T23 l0 x15_1).f0), .int .i64 ((rd_T23 l0 x15_1).f1), .int .i64 ((rd_T23 l0 x15_1).f2)] 23 (0, 0)) (bK BK284) hb); have n5_ := Aside0.mk (blk_below (g := gb286) (o := .cells #[.int .i64 ((rd_T23 l0 (ji12)).f0), .int .i64 ((rd_T23 l0 (ji12)).f1), .int .i64 ((rd_T23 l0 (ji12)).f2)] 23 (0, 0)) (bK BK286) hb); have n6_ := Aside0.mk (blk_below (g := gb293) (o := .cells #[.int .i64 t290, .int .u64 t291] 31 (0, 0)) (by (with_reducible repeat (first | refine blk_drewN ?_ _ | refine blk_drew ?_ | refine blk_alloc ?_ _)); refine blk_put (cs := #[.int .i64 t290, .int .u64 0]) ?_ 1 _ rfl; (with_reducible repeat (first | refine blk_drewN ?_ _ | refine blk_drew ?_ | refine blk_alloc ?_ _)); refine blk_put (cs := #[.int .i64 0, .int .u64 0]) ?_ 0 _ rfl; (with_reducible repeat (first | refine blk_drewN ?_ _ | refine blk_drew ?_ | refine blk_alloc ?_ _)); exact BK293.out) hb); have n7_ := Aside0.mk (below_step (bH HB) hb); clear HO289; clear BK280; clear BK281; clear BK284; clear BK286; clear BK293; clear HB; have HO289 := n0_; have HO296 := n1_; have BK280 := n2_; have BK281 := n3_; have BK284 := n4_; have BK286 := n5_; have BK293 := n6_; have HB := n7_; clear n0_ n1_ n2_ n3_ n4_ n5_ n6_ n7_; clear hb ho40; obtain ⟨Ao41, co41, eo41⟩ := Kd.R_slice HO296.out; subst eo41) | ((with_reducible refine gate_callee (f := 33) rfl ?_); refine goesL_ (some 45) rfl rfl Try.func33 (by kernel_rfl) rfl #[.agg #[.int .i64 x282000_1, .int .u64 x282001_1], .slice Ao41 y294.length co41] rfl (by (try simp only [List.map_toArray, List.map_cons, List.map_nil]); first | done | rfl | (simp only [List.length_drop, List.length_take]; rfl)) ?_; (with_reducible refine (wide_Add.calls k1 x282000_1 x282001_1 _ _ y294 t297 t298 _ ?side1 ?side2 A16.out).mono ?_); (case side1 => repeat (first | exact (Kd.R_reads' HO296.out).2.2 | (with_reducible refine Kd.C_alloc ?_ _) | (with_reducible refine Kd.C_drewN ?_ _) | (with_reducible refine Kd.C_drew ?_))); (case side2 => exact (Kd.R_reads' HO296.out).2.1); rintro e w42 ⟨rfl, hb⟩; refine ⟨_, rfl, ?_⟩; have n0_ := Aside0.mk (Kd.R_below (rK HO289) hb); have n1_ := Aside0.mk (Kd.R_below (rK HO296) hb); have n2_ := Aside0.mk (blk_below (g := gb280) (o := .cells #[.int .i64 0, .int .u64 0] 31 (0, 0)) (bK BK280) hb); have n3_ := Aside0.mk (blk_below (g := gb281) (o := .cells #[.int .i64 x282000_1, .int .u64 x282001_1] 31 (0, 0)) (bK BK281) hb); have n4_ := Aside0.mk (blk_below (g := gb284) (o := .cells #[.int .i64 ((rd_T23 l0 x15_1).f0), .int .i64 ((rd_T23 l0 x15_1).f1), .int .i64 ((rd_T23 l0 x15_1).f2)] 23 (0, 0)) (bK BK284) hb); have n5_ := Aside0.mk (blk_below (g := gb286) (o := .cells #[.int .i64 ((rd_T23 l0 (ji12)).f0), .int .i64 ((rd_T23 l0 (ji12)).f1), .int .i64 ((rd_T23 l0 (ji12)).f2)] 23 (0, 0)) (bK BK286) hb); have n6_ := Aside0.mk (blk_below (g := gb293) (o := .cells #[.int .i64 t290, .int .u64 t291] 31 (0, 0)) (bK BK293) hb); have n7_ := Aside0.mk (below_step (bH HB) hb); clear HO289; clear HO296; clear BK280; clear BK281; clear BK284; clear BK286; clear BK293; clear HB; have HO289 := n0_; have HO296 := n1_; have BK280 := n2_; have BK281 := n3_; have BK284 := n4_; have BK286 := n5_; have BK293 := n6_; have HB := n7_; clear n0_ n1_ n2_ n3_ n4_ n5_ n6_ n7_; (try clear hb); (try clear hb2); (try clear hk); (try clear hi); have hcz43_0 : w42.cell? ⟨gb281, 0, none⟩ = some (.int .i64 x282000_1) := (blk_cell BK281.out 0).trans rfl; have hcz43_1 : w42.cell? ⟨gb281, 1, none⟩ = some (.int .u64 x282001_1) := (blk_cell BK281.out 1).trans rfl; have hfz43_0 := blk_frozen BK281.out 0; have hfz43_1 := blk_frozen BK281.out 1))
          go_roundg k1
          case measure => have := HK1.out; omega
          case rel => exact ⟨(wrap64 (x15_1 + 1)), (t297), (t298), (by first | rfl | (simp; done) | (simp [*]; done)), H', ⟨by have := HK1.out; omega⟩, ⟨bK BK280⟩, ⟨by (with_reducible repeat (first | refine blk_drewN ?_ _ | refine blk_drew ?_ | refine blk_alloc ?_ _)); refine blk_put (cs := #[.int .i64 t297, .int .u64 x282001_1]) ?_ 1 _ rfl; (with_reducible repeat (first | refine blk_drewN ?_ _ | refine blk_drew ?_ | refine blk_alloc ?_ _)); refine blk_put (cs := #[.int .i64 x282000_1, .int .u64 x282001_1]) ?_ 0 _ rfl; (with_reducible repeat (first | refine blk_drewN ?_ _ | refine blk_drew ?_ | refine blk_alloc ?_ _)); exact BK281.out⟩, ⟨ bH HB⟩⟩
         ·rw [if_neg c14] at H
          exact absurd H (by simp)
        ·rw [if_neg c13] at H
         exact absurd H (by simp)
      ·rw [if_neg c10] at H
       exact absurd H (by simp)
     ·rw [if_neg c9] at H
      exact absurd H (by simp)
    ·rw [if_neg c8] at H
     have c8b0 : decide (x15_1 < (l0.length : Int)) = false := decide_eq_false c8
     clear c8
     (first | rw [c8b0] | (simp only [i64_w, i32_w]; rw [c8b0]) | skip)
     simp only [Option.some.injEq, Prod.mk.injEq] at H
     obtain ⟨rfl, rfl⟩ := H
     have hnb44 := NB281_280.out
     have hnc44 := NB280_281.out
     have hcz45_0 : wr.cell? ⟨gb281, 0, none⟩ = some (.int .i64 x282000_1) := (blk_cell BK281.out 0).trans rfl
     have hcz45_1 : wr.cell? ⟨gb281, 1, none⟩ = some (.int .u64 x282001_1) := (blk_cell BK281.out 1).trans rfl
     have hfz45_0 := blk_frozen BK281.out 0
     have hfz45_1 := blk_frozen BK281.out 1
     have hcz46_0 : wr.cell? ⟨gb280, 0, none⟩ = some (.int .i64 0) := (blk_cell BK280.out 0).trans rfl
     have hcz46_1 : wr.cell? ⟨gb280, 1, none⟩ = some (.int .u64 0) := (blk_cell BK280.out 1).trans rfl
     have hfz46_0 := blk_frozen BK280.out 0
     have hfz46_1 := blk_frozen BK280.out 1
     go_wp2
     refine bodyPost_ret (results_cell_row rfl _ _ gb280 31 #[.int .i64 x282000_1, .int .u64 x282001_1] (0, 0) _ rfl (by (with_reducible repeat (first | refine blk_drewN ?_ _ | refine blk_drew ?_ | refine blk_alloc ?_ _)); refine blk_put (cs := #[.int .i64 x282000_1, .int .u64 0]) ?_ 1 _ rfl; (with_reducible repeat (first | refine blk_drewN ?_ _ | refine blk_drew ?_ | refine blk_alloc ?_ _)); refine blk_put (cs := #[.int .i64 0, .int .u64 0]) ?_ 0 _ rfl; (with_reducible repeat (first | refine blk_drewN ?_ _ | refine blk_drew ?_ | refine blk_alloc ?_ _)); exact BK280.out) Try.underlying31 rfl (by kernel_rfl)) rfl ?_
     exact ⟨by first | rfl | (simp [errW_none, errW_some] <;> rfl) | (simp [*, errW_none, errW_some] <;> rfl), bH HB⟩
 ·replace c7 := Bool.eq_false_iff.mpr c7
  subst c7
  have H1 : (some (0, 0)) = some (r1, r2) := by rw [if_neg (show ¬ (false = true) by decide)] at H; exact H
  clear H
  have H := H1
  clear H1
  simp only [Option.some.injEq, Prod.mk.injEq] at H
  obtain ⟨rfl, rfl⟩ := H
  have hnb47 := NB281_280.out
  have hnc47 := NB280_281.out
  have hcz48_0 : w6.cell? ⟨gb281, 0, none⟩ = some (.int .i64 0) := (blk_cell BK281.out 0).trans rfl
  have hcz48_1 : w6.cell? ⟨gb281, 1, none⟩ = some (.int .u64 0) := (blk_cell BK281.out 1).trans rfl
  have hfz48_0 := blk_frozen BK281.out 0
  have hfz48_1 := blk_frozen BK281.out 1
  have hcz49_0 : w6.cell? ⟨gb280, 0, none⟩ = some (.int .i64 0) := (blk_cell BK280.out 0).trans rfl
  have hcz49_1 : w6.cell? ⟨gb280, 1, none⟩ = some (.int .u64 0) := (blk_cell BK280.out 1).trans rfl
  have hfz49_0 := blk_frozen BK280.out 0
  have hfz49_1 := blk_frozen BK280.out 1
  go_wp2
  refine bodyPost_ret (results_cell_row rfl _ _ gb280 31 #[.int .i64 0, .int .u64 0] (0, 0) _ rfl (by (with_reducible repeat (first | refine blk_drewN ?_ _ | refine blk_drew ?_ | refine blk_alloc ?_ _)); refine blk_put (cs := #[.int .i64 0, .int .u64 0]) ?_ 1 _ rfl; (with_reducible repeat (first | refine blk_drewN ?_ _ | refine blk_drew ?_ | refine blk_alloc ?_ _)); refine blk_put (cs := #[.int .i64 0, .int .u64 0]) ?_ 0 _ rfl; (with_reducible repeat (first | refine blk_drewN ?_ _ | refine blk_drew ?_ | refine blk_alloc ?_ _)); exact BK280.out) Try.underlying31 rfl (by kernel_rfl)) rfl ?_
  exact ⟨by first | rfl | (simp [errW_none, errW_some] <;> rfl) | (simp [*, errW_none, errW_some] <;> rfl), bH HB⟩

end Go.Proofs.Ytlnjbpapbifjfaa.P
