/- Written for this claim by a program of this session (a turned copy of the print): Go functions as Lean functions, and that the Go code comes to just these answers; or a statement proved out of them. No condition. Rings: their sides, turned and told backwards; twice the area, as the program's function answers. -/
import Derived.Test.YtbonkedecfjmdaaZ2
import Derived.Test.YtbonkedecfjmdaaZ8
import Derived.Test.YtbonkedecfjmdaaZ9
import Derived.Test.YtbonkedecfjmdaaZ10

namespace Go.Proofs.Ytbonkedecfjmdaa.P
open Go.RowKit Go.Proofs.YtbonkedecfjmdaaW.PrintWords Go.Proofs.YtbonkedecfjmdaaW.PrintLast Go.Proofs.YtbonkedecfjmdaaW.PrintMore Go.Proofs.Ytbonkedecfjmdaa.X
attribute [local go_sem] max2_int min2_int max_two min_two max_three min_three max_four min_four add64_0 add64_1 add64   -- for this text's walks alone
set_option linter.unusedVariables false
set_option linter.unusedSimpArgs false

/-! ### geom_Area: function 46 -/
def geom_Area.l0 : Nat → List (S27) → List (S27) → Int → Int → Int → Int → Option (Int × Int)
 | 0, _, _, _, _, _, _ => none
 | k + 1, x0, x13, x14, x15, x784000, x784001 => if x15 < x14 then (if 0 ≤ x15 then (if x15 < (x13.length : Int) then (if (x0.length : Int) = 0 then (none) else (if 0 ≤ (Int.tmod (wrap64 (x15 + 1)) (x0.length : Int)) then (if (Int.tmod (wrap64 (x15 + 1)) (x0.length : Int)) < (x0.length : Int) then ((wide_Dot.f k (([(rd_T27 x13 x15).f0, (rd_T27 x0 (Int.tmod (wrap64 (x15 + 1)) (x0.length : Int))).f1, wrap64 (-((rd_T27 x13 x15).f1)), (rd_T27 x0 (Int.tmod (wrap64 (x15 + 1)) (x0.length : Int))).f0] : List Int))).bind fun bt792 => ((wide_Add.f k x784000 x784001 (([(⟨bt792.1, bt792.2.1⟩ : S50)] : List (S50)))).bind fun bt799 => (geom_Area.l0 k x0 x13 x14 (wrap64 (x15 + 1)) bt799.1 bt799.2))) else (none)) else (none))) else (none)) else (none)) else (some (x784000, x784001))
def geom_Area.f (k : Nat) (l0 : List (S27)) : Option (Int × Int) := (geom_Right.f k l0).bind fun t784 => (if t784 = true then (geom_Area.l0 k l0 l0 (l0.length : Int) 0 0 0) else (some (0, 0)))
theorem geom_Area.mono_l : ∀ k, (∀ y0 y1 y2 y3 y4 y5, LeO (geom_Area.l0 k y0 y1 y2 y3 y4 y5) (geom_Area.l0 (k + 1) y0 y1 y2 y3 y4 y5))
 | 0 => fun _ _ _ _ _ _ r h => by simp [geom_Area.l0] at h
 | k + 1 => by
  have ih0 := geom_Area.mono_l k
  ·intro y0 y1 y2 y3 y4 y5
   unfold geom_Area.l0
   repeat' first
   | (with_reducible exact ih0 _ _ _ _ _ _)
   | (with_reducible exact geom_Right.mono _ _)
   | (with_reducible exact wide_Add.mono _ _ _ _)
   | (with_reducible exact wide_Dot.mono _ _)
   | (with_reducible exact LeO.refl _)
   | (with_reducible exact LeO.none _)
   | (with_reducible refine LeO.ite ?_ ?_)
   | (with_reducible refine LeO.bind ?_ (fun _ => ?_))
   | exact ih0 _ _ _ _ _ _
   | exact geom_Right.mono _ _
   | exact wide_Add.mono _ _ _ _
   | exact wide_Dot.mono _ _
   | exact LeO.none _
   | refine LeO.ite ?_ ?_
   | refine LeO.bind ?_ (fun _ => ?_)
theorem geom_Area.mono : ∀ a0 k, LeO (geom_Area.f k a0) (geom_Area.f (k + 1) a0) := by
 intro a0 k
 have ih0 := geom_Area.mono_l k
 unfold geom_Area.f
 repeat' first
   | (with_reducible exact ih0 _ _ _ _ _ _)
   | (with_reducible exact geom_Right.mono _ _)
   | (with_reducible exact wide_Add.mono _ _ _ _)
   | (with_reducible exact wide_Dot.mono _ _)
   | (with_reducible exact LeO.refl _)
   | (with_reducible exact LeO.none _)
   | (with_reducible refine LeO.ite ?_ ?_)
   | (with_reducible refine LeO.bind ?_ (fun _ => ?_))
   | exact ih0 _ _ _ _ _ _
   | exact geom_Right.mono _ _
   | exact wide_Add.mono _ _ _ _
   | exact wide_Dot.mono _ _
   | exact LeO.none _
   | refine LeO.ite ?_ ?_
   | refine LeO.bind ?_ (fun _ => ?_)
set_option maxHeartbeats 8000000 in
set_option maxRecDepth 100000 in
theorem geom_Area.calls (k : Nat) (A0 : Option Addr) (c0 : Nat) (l0 : List (S27)) (r1 : Int) (r2 : Int) (w : World) (hr0 : Kd.C k27 w A0 l0.length l0) (hc0 : l0.length ≤ c0) (h : geom_Area.f k l0 = some (r1, r2)) :
  Calls Try.prog 46 #[.slice A0 l0.length c0] w fun e w' => e = .returned (.agg #[.int .i64 r1, .int .u64 r2]) ∧ Below w.heap.size w w' := by
 have hu50 := Try.underlying50
 have hu27 := Try.underlying27
 have HR0 := Aside0.mk hr0
 have HC0 := Aside0.mk hc0
 clear hr0 hc0
 have HB := Aside0.mk (Below.refl w.heap.size w)
 have H : ((geom_Right.f k l0).bind fun t784 => (if t784 = true then (geom_Area.l0 k l0 l0 (l0.length : Int) 0 0 0) else (some (0, 0)))) = some (r1, r2) := h
 clear h
 replace H := Option.bind_eq_some_iff.mp H
 obtain ⟨t784, A20, H⟩ := H
 replace H : (if t784 = true then (geom_Area.l0 k l0 l0 (l0.length : Int) 0 0 0) else (some (0, 0))) = some (r1, r2) := H
 have A2 := Aside0.mk A20
 clear A20
 have HC3 := Aside0.mk H
 clear H
 go_enter Try.func46, Try.ntmps46
 go_upto_if 11 with (first | ((with_reducible refine gate_dst (N := 2) rfl ?_); refine box_event ?hg (N := 2) ?hd (cs := #[.int .i64 0, .int .u64 0]) (t := 50) ?hr ?_; (case hd => rfl); (case hg => rfl); (case hr => first | (go_simp; done) | (go_simp; rfl)); intro gb782 hg w4 hbox hb; have n0_ := Aside0.mk (below_step (bH HB) hb); have n1_ := Aside0.mk (hbox); have n2_ := Aside0.mk ((by rw [hg]; exact (below_size (bH HB)) : w.heap.size ≤ gb782)); have n3_ := n2_; clear HB; have HB := n0_; have BK782 := n1_; have GW782 := n2_; have GE782 := n3_; clear n0_ n1_ n2_ n3_; clear hb hbox hg) | ((with_reducible refine gate_dst (N := 3) rfl ?_); refine box_event ?hg (N := 3) ?hd (cs := #[.int .i64 0, .int .u64 0]) (t := 50) ?hr ?_; (case hd => rfl); (case hg => rfl); (case hr => first | (go_simp; done) | (go_simp; rfl)); intro gb783 hg w5 hbox hb; have n0_ := Aside0.mk (blk_below (g := gb782) (o := .cells #[.int .i64 0, .int .u64 0] 50 (0, 0)) (bK BK782) hb); have n1_ := Aside0.mk (below_step (bH HB) hb); have n2_ := Aside0.mk (hbox); have n3_ := Aside0.mk ((by rw [hg]; exact (below_size (bH HB)) : w.heap.size ≤ gb783)); have n4_ := n3_; have n5_ := Aside0.mk ((by rw [hg]; exact Nat.ne_of_lt (blk_lt (bK BK782)) : gb782 ≠ gb783)); have n6_ := Aside0.mk ((by rw [hg]; exact Nat.ne_of_gt (blk_lt (bK BK782)) : gb783 ≠ gb782)); clear BK782; clear HB; have BK782 := n0_; have HB := n1_; have BK783 := n2_; have GW783 := n3_; have GE783 := n4_; have NB782_783 := n5_; have NB783_782 := n6_; clear n0_ n1_ n2_ n3_ n4_ n5_ n6_; clear hb hbox hg) | ((with_reducible refine gate_callee (f := 32) rfl ?_); refine goesL_ (some 10) rfl rfl Try.func32 (by kernel_rfl) rfl #[.slice A0 l0.length c0] rfl (by (try simp only [List.map_toArray, List.map_cons, List.map_nil]); first | done | rfl | (simp only [List.length_drop, List.length_take]; rfl)) ?_; (with_reducible refine (geom_Right.calls k _ _ l0 t784 _ ?side1 ?side2 A2.out).mono ?_); (case side1 => repeat (first | exact (Kd.C_below HR0.out HB.out) | (with_reducible refine Kd.C_alloc ?_ _) | (with_reducible refine Kd.C_drewN ?_ _) | (with_reducible refine Kd.C_drew ?_))); (case side2 => exact HC0.out); rintro e w6 ⟨rfl, hb⟩; refine ⟨_, rfl, ?_⟩; have n0_ := Aside0.mk (blk_below (g := gb782) (o := .cells #[.int .i64 0, .int .u64 0] 50 (0, 0)) (bK BK782) hb); have n1_ := Aside0.mk (blk_below (g := gb783) (o := .cells #[.int .i64 0, .int .u64 0] 50 (0, 0)) (bK BK783) hb); have n2_ := Aside0.mk (below_step (bH HB) hb); clear BK782; clear BK783; clear HB; have BK782 := n0_; have BK783 := n1_; have HB := n2_; clear n0_ n1_ n2_; (try clear hb); (try clear hb2); (try clear hk); (try clear hi)))
 (try simp only [Act.put, List.setIfInBounds_toArray, List.set_cons_zero, List.set_cons_succ])
 have H := HC3.out
 clear HC3
 by_cases c7 : t784 = true
 ·subst c7
  have H1 : (geom_Area.l0 k l0 l0 (l0.length : Int) 0 0 0) = some (r1, r2) := by rw [if_pos rfl] at H; exact H
  clear H
  have H := H1
  clear H1
  have H' := Aside0.mk H
  clear H
  go_wp2
  go_loopg [15] k (fun kq v15 w' => ∃ (x15_1 : Int) (x784000_1 : Int) (x784001_1 : Int), v15 = .int .i64 x15_1 ∧ Aside0 (geom_Area.l0 kq l0 l0 (l0.length : Int) x15_1 x784000_1 x784001_1 = some (r1, r2)) ∧ Aside0 (kq ≤ k) ∧ Aside0 (w'.heap[gb782]? = some (.cells #[.int .i64 0, .int .u64 0] 50 (0, 0))) ∧ Aside0 (w'.heap[gb783]? = some (.cells #[.int .i64 x784000_1, .int .u64 x784001_1] 50 (0, 0))) ∧ Aside0 (Below w.heap.size w w'))
  case atStart => exact ⟨(0), (0), (0), (by first | rfl | (simp; done) | (simp [*]; done)), H', ⟨Nat.le_refl _⟩, ⟨bK BK782⟩, ⟨bK BK783⟩, ⟨ bH HB⟩⟩
  case round =>
   clear H'
   try clear p2
   try clear c3
   try clear c4
   try clear c7
   obtain ⟨x15_1, x784000_1, x784001_1, rfl, HA, HK1, BK782, BK783, HB⟩ := hrel
   cases gk with
   | zero => exact absurd HA.out (by simp [geom_Area.l0])
   | succ k1 =>
    have H := HA.out
    clear HA
    simp only [geom_Area.l0] at H
    by_cases c8 : x15_1 < (l0.length : Int)
    ·rw [if_pos c8] at H
     have c8b0 : decide (x15_1 < (l0.length : Int)) = true := decide_eq_true c8
     clear c8
     (first | rw [c8b0] | (simp only [i64_w, i32_w]; rw [c8b0]) | skip)
     by_cases c9 : 0 ≤ x15_1
     ·rw [if_pos c9] at H
      have c9b0 : decide (0 ≤ x15_1) = true := decide_eq_true c9
      clear c9
      by_cases c10 : x15_1 < (l0.length : Int)
      ·rw [if_pos c10] at H
       have c10b0 : decide (x15_1 < (l0.length : Int)) = true := decide_eq_true c10
       clear c10
       by_cases c11 : (l0.length : Int) = 0
       ·rw [if_pos c11] at H
        exact absurd H (by simp)
       ·rw [if_neg c11] at H
        have c11b0 : ((l0.length : Int) == 0) = false := beq_eq_false_iff_ne.mpr c11
        have c11b1 : ((l0.length : Int) != 0) = true := bne_iff_ne.mpr c11
        have c11b2 : ¬ (l0 = []) := fun h_ => c11 (by rw [h_]; rfl)
        obtain ⟨ji12, hji12⟩ : ∃ j_ : Int, (Int.tmod (wrap64 (x15_1 + 1)) (l0.length : Int)) = j_ := ⟨_, rfl⟩
        replace H : (if 0 ≤ (ji12) then (if (ji12) < (l0.length : Int) then ((wide_Dot.f k1 (([(rd_T27 l0 x15_1).f0, (rd_T27 l0 (ji12)).f1, wrap64 (-((rd_T27 l0 x15_1).f1)), (rd_T27 l0 (ji12)).f0] : List Int))).bind fun bt792 => ((wide_Add.f k1 x784000_1 x784001_1 (([(⟨bt792.1, bt792.2.1⟩ : S50)] : List (S50)))).bind fun bt799 => (geom_Area.l0 k1 l0 l0 (l0.length : Int) (wrap64 (x15_1 + 1)) bt799.1 bt799.2))) else (none)) else (none)) = some (r1, r2) := by first | (rw [hji12] at H; exact H) | (simp only [hji12] at H ⊢; exact H)
        by_cases c13 : 0 ≤ (ji12)
        ·rw [if_pos c13] at H
         have c13b0 : decide (0 ≤ (ji12)) = true := decide_eq_true c13
         clear c13
         by_cases c14 : (ji12) < (l0.length : Int)
         ·rw [if_pos c14] at H
          have c14b0 : decide ((ji12) < (l0.length : Int)) = true := decide_eq_true c14
          clear c14
          obtain ⟨y789, hy789⟩ : ∃ y_ : List Int, y_ = (([(rd_T27 l0 x15_1).f0, (rd_T27 l0 (ji12)).f1, wrap64 (-((rd_T27 l0 x15_1).f1)), (rd_T27 l0 (ji12)).f0] : List Int)) := ⟨_, rfl⟩
          replace H : ((wide_Dot.f k1 y789).bind fun bt792 => ((wide_Add.f k1 x784000_1 x784001_1 (([(⟨bt792.1, bt792.2.1⟩ : S50)] : List (S50)))).bind fun bt799 => (geom_Area.l0 k1 l0 l0 (l0.length : Int) (wrap64 (x15_1 + 1)) bt799.1 bt799.2))) = some (r1, r2) := by first | (rw [hy789]; with_reducible exact H) | (have H2_ := (Option.bind_some _ _).symm.trans H; rw [hy789]; with_reducible exact H2_) | (have H2_ := (Option.bind_some _ _).symm.trans H; with_reducible exact H2_) | with_reducible exact H | (rw [hy789]; exact H) | exact H
          have Ny789 := Aside0.mk hy789
          clear hy789
          replace H := Option.bind_eq_some_iff.mp H
          obtain ⟨⟨t792, t793, t794⟩, A150, H⟩ := H
          replace H : ((wide_Add.f k1 x784000_1 x784001_1 (([(⟨t792, t793⟩ : S50)] : List (S50)))).bind fun bt799 => (geom_Area.l0 k1 l0 l0 (l0.length : Int) (wrap64 (x15_1 + 1)) bt799.1 bt799.2)) = some (r1, r2) := H
          have A15 := Aside0.mk A150
          clear A150
          obtain ⟨y796, hy796⟩ : ∃ y_ : List (S50), y_ = (([(⟨t792, t793⟩ : S50)] : List (S50))) := ⟨_, rfl⟩
          replace H : ((wide_Add.f k1 x784000_1 x784001_1 y796).bind fun bt799 => (geom_Area.l0 k1 l0 l0 (l0.length : Int) (wrap64 (x15_1 + 1)) bt799.1 bt799.2)) = some (r1, r2) := by first | (rw [hy796]; with_reducible exact H) | (have H2_ := (Option.bind_some _ _).symm.trans H; rw [hy796]; with_reducible exact H2_) | (have H2_ := (Option.bind_some _ _).symm.trans H; with_reducible exact H2_) | with_reducible exact H | (rw [hy796]; exact H) | exact H
          have Ny796 := Aside0.mk hy796
          clear hy796
          replace H := Option.bind_eq_some_iff.mp H
          obtain ⟨⟨t799, t800⟩, A160, H⟩ := H
          replace H : (geom_Area.l0 k1 l0 l0 (l0.length : Int) (wrap64 (x15_1 + 1)) t799 t800) = some (r1, r2) := H
          have A16 := Aside0.mk A160
          clear A160
          have H' := Aside0.mk H
          clear H
          have p785 : 0 ≤ (x15_1 : Int) := of_decide_eq_true (by first | (with_reducible assumption) | assumption)
          have q785 : x15_1 < (l0.length : Int) := of_decide_eq_true (by first | (with_reducible assumption) | assumption)
          obtain ⟨ad785, e785, hx785_0, hx785_1, hx785_2⟩ := at_T27 HR0.out x15_1 p785 q785
          cases e785
          replace hx785_0 := (HB.out.cell (World.block_lt_of_cell? w _ hx785_0)).trans hx785_0
          replace hx785_1 := (HB.out.cell (World.block_lt_of_cell? w _ hx785_1)).trans hx785_1
          replace hx785_2 := (HB.out.cell (World.block_lt_of_cell? w _ hx785_2)).trans hx785_2
          replace p785 := eq_true p785
          replace q785 := eq_true q785
          go_wp2_with (first | ((with_reducible refine gate_dst (N := 5) rfl ?_); refine box_event ?hg (N := 5) ?hd (cs := #[.int .i64 0, .int .i64 0, .int .i64 0]) (t := 27) ?hr ?_; (case hd => rfl); (case hg => rfl); (case hr => first | (go_simp; done) | (go_simp; rfl)); intro gb786 hg w17 hbox hb; have n0_ := Aside0.mk (blk_below (g := gb782) (o := .cells #[.int .i64 0, .int .u64 0] 50 (0, 0)) (bK BK782) hb); have n1_ := Aside0.mk (blk_below (g := gb783) (o := .cells #[.int .i64 x784000_1, .int .u64 x784001_1] 50 (0, 0)) (bK BK783) hb); have n2_ := Aside0.mk (below_step (bH HB) hb); have n3_ := Aside0.mk (hbox); have n4_ := Aside0.mk ((by rw [hg]; exact (below_size (bH HB)) : w.heap.size ≤ gb786)); have n5_ := n4_; have n6_ := Aside0.mk ((by rw [hg]; exact Nat.ne_of_lt (blk_lt (bK BK782)) : gb782 ≠ gb786)); have n7_ := Aside0.mk ((by rw [hg]; exact Nat.ne_of_gt (blk_lt (bK BK782)) : gb786 ≠ gb782)); have n8_ := Aside0.mk ((by rw [hg]; exact Nat.ne_of_lt (blk_lt (bK BK783)) : gb783 ≠ gb786)); have n9_ := Aside0.mk ((by rw [hg]; exact Nat.ne_of_gt (blk_lt (bK BK783)) : gb786 ≠ gb783)); clear BK782; clear BK783; clear HB; have BK782 := n0_; have BK783 := n1_; have HB := n2_; have BK786 := n3_; have GW786 := n4_; have GE786 := n5_; have NB782_786 := n6_; have NB786_782 := n7_; have NB783_786 := n8_; have NB786_783 := n9_; clear n0_ n1_ n2_ n3_ n4_ n5_ n6_ n7_ n8_ n9_; clear hb hbox hg; have hnb18 := NB786_782.out; have hnc18 := NB782_786.out; have hnb19 := NB786_783.out; have hnc19 := NB783_786.out; have hcz20_0 : w17.cell? ⟨gb786, 0, none⟩ = some (.int .i64 0) := (blk_cell BK786.out 0).trans rfl; have hcz20_1 : w17.cell? ⟨gb786, 1, none⟩ = some (.int .i64 0) := (blk_cell BK786.out 1).trans rfl; have hcz20_2 : w17.cell? ⟨gb786, 2, none⟩ = some (.int .i64 0) := (blk_cell BK786.out 2).trans rfl; have hfz20_0 := blk_frozen BK786.out 0; have hfz20_1 := blk_frozen BK786.out 1; have hfz20_2 := blk_frozen BK786.out 2; have p787 : 0 ≤ ((ji12) : Int) := of_decide_eq_true (by first | (with_reducible assumption) | assumption); have q787 : (ji12) < (l0.length : Int) := of_decide_eq_true (by first | (with_reducible assumption) | assumption); obtain ⟨ad787, e787, hx787_0, hx787_1, hx787_2⟩ := at_T27 HR0.out (ji12) p787 q787; obtain rfl : ad785 = ad787 := (by injection e787); have hn787_0 : ad785.block ≠ gb786 := Nat.ne_of_lt (Nat.lt_of_lt_of_le (by have := World.block_lt_of_cell? _ _ hx787_0; first | rwa [add_block] at this | exact this) GW786.out); have hn787_1 : ad785.block ≠ gb786 := Nat.ne_of_lt (Nat.lt_of_lt_of_le (by have := World.block_lt_of_cell? _ _ hx787_0; first | rwa [add_block] at this | exact this) GW786.out); have hn787_2 : ad785.block ≠ gb786 := Nat.ne_of_lt (Nat.lt_of_lt_of_le (by have := World.block_lt_of_cell? _ _ hx787_0; first | rwa [add_block] at this | exact this) GW786.out); replace hx787_0 := (HB.out.cell (World.block_lt_of_cell? w _ hx787_0)).trans hx787_0; replace hx787_1 := (HB.out.cell (World.block_lt_of_cell? w _ hx787_1)).trans hx787_1; replace hx787_2 := (HB.out.cell (World.block_lt_of_cell? w _ hx787_2)).trans hx787_2; replace hx787_0 := (cell_far (p := ⟨gb786, 0, none⟩) (by first | (rw [add_block]; exact hn787_0) | (show (Addr.add _ _).block ≠ _; rw [add_block]; exact hn787_0) | exact hn787_0) (.int .i64 ((rd_T27 l0 x15_1).f0))).trans hx787_0; replace hx787_1 := (cell_far (p := ⟨gb786, 0, none⟩) (by first | (rw [add_block]; exact hn787_0) | (show (Addr.add _ _).block ≠ _; rw [add_block]; exact hn787_0) | exact hn787_0) (.int .i64 ((rd_T27 l0 x15_1).f0))).trans hx787_1; replace hx787_2 := (cell_far (p := ⟨gb786, 0, none⟩) (by first | (rw [add_block]; exact hn787_0) | (show (Addr.add _ _).block ≠ _; rw [add_block]; exact hn787_0) | exact hn787_0) (.int .i64 ((rd_T27 l0 x15_1).f0))).trans hx787_2; replace hx787_0 := (cell_far (p := ⟨gb786, 1, none⟩) (by first | (rw [add_block]; exact hn787_1) | (show (Addr.add _ _).block ≠ _; rw [add_block]; exact hn787_1) | exact hn787_1) (.int .i64 ((rd_T27 l0 x15_1).f1))).trans hx787_0; replace hx787_1 := (cell_far (p := ⟨gb786, 1, none⟩) (by first | (rw [add_block]; exact hn787_1) | (show (Addr.add _ _).block ≠ _; rw [add_block]; exact hn787_1) | exact hn787_1) (.int .i64 ((rd_T27 l0 x15_1).f1))).trans hx787_1; replace hx787_2 := (cell_far (p := ⟨gb786, 1, none⟩) (by first | (rw [add_block]; exact hn787_1) | (show (Addr.add _ _).block ≠ _; rw [add_block]; exact hn787_1) | exact hn787_1) (.int .i64 ((rd_T27 l0 x15_1).f1))).trans hx787_2; replace hx787_0 := (cell_far (p := ⟨gb786, 2, none⟩) (by first | (rw [add_block]; exact hn787_2) | (show (Addr.add _ _).block ≠ _; rw [add_block]; exact hn787_2) | exact hn787_2) (.int .i64 ((rd_T27 l0 x15_1).f2))).trans hx787_0; replace hx787_1 := (cell_far (p := ⟨gb786, 2, none⟩) (by first | (rw [add_block]; exact hn787_2) | (show (Addr.add _ _).block ≠ _; rw [add_block]; exact hn787_2) | exact hn787_2) (.int .i64 ((rd_T27 l0 x15_1).f2))).trans hx787_1; replace hx787_2 := (cell_far (p := ⟨gb786, 2, none⟩) (by first | (rw [add_block]; exact hn787_2) | (show (Addr.add _ _).block ≠ _; rw [add_block]; exact hn787_2) | exact hn787_2) (.int .i64 ((rd_T27 l0 x15_1).f2))).trans hx787_2; clear hn787_0; clear hn787_1; clear hn787_2; replace p787 := eq_true p787; replace q787 := eq_true q787) | ((with_reducible refine gate_dst (N := 6) rfl ?_); refine box_event ?hg (N := 6) ?hd (cs := #[.int .i64 0, .int .i64 0, .int .i64 0]) (t := 27) ?hr ?_; (case hd => rfl); (case hg => rfl); (case hr => first | (go_simp; done) | (go_simp; rfl)); intro gb788 hg w21 hbox hb; have n0_ := Aside0.mk (blk_below (g := gb782) (o := .cells #[.int .i64 0, .int .u64 0] 50 (0, 0)) (bK BK782) hb); have n1_ := Aside0.mk (blk_below (g := gb783) (o := .cells #[.int .i64 x784000_1, .int .u64 x784001_1] 50 (0, 0)) (bK BK783) hb); have n2_ := Aside0.mk (blk_below (g := gb786) (o := .cells #[.int .i64 ((rd_T27 l0 x15_1).f0), .int .i64 ((rd_T27 l0 x15_1).f1), .int .i64 ((rd_T27 l0 x15_1).f2)] 27 (0, 0)) (by (with_reducible repeat (first | refine blk_drewN ?_ _ | refine blk_drew ?_ | refine blk_alloc ?_ _)); refine blk_put (cs := #[.int .i64 ((rd_T27 l0 x15_1).f0), .int .i64 ((rd_T27 l0 x15_1).f1), .int .i64 0]) ?_ 2 _ rfl; (with_reducible repeat (first | refine blk_drewN ?_ _ | refine blk_drew ?_ | refine blk_alloc ?_ _)); refine blk_put (cs := #[.int .i64 ((rd_T27 l0 x15_1).f0), .int .i64 0, .int .i64 0]) ?_ 1 _ rfl; (with_reducible repeat (first | refine blk_drewN ?_ _ | refine blk_drew ?_ | refine blk_alloc ?_ _)); refine blk_put (cs := #[.int .i64 0, .int .i64 0, .int .i64 0]) ?_ 0 _ rfl; (with_reducible repeat (first | refine blk_drewN ?_ _ | refine blk_drew ?_ | refine blk_alloc ?_ _)); exact BK786.out) hb); have n3_ := Aside0.mk (below_step (bH HB) hb); have n4_ := Aside0.mk (hbox); have n5_ := Aside0.mk ((by rw [hg]; exact (below_size (bH HB)) : w.heap.size ≤ gb788)); have n6_ := n5_; have n7_ := Aside0.mk ((by rw [hg]; exact Nat.ne_of_lt (blk_lt (bK BK782)) : gb782 ≠ gb788)); have n8_ := Aside0.mk ((by rw [hg]; exact Nat.ne_of_gt (blk_lt (bK BK782)) : gb788 ≠ gb782)); have n9_ := Aside0.mk ((by rw [hg]; exact Nat.ne_of_lt (blk_lt (bK BK783)) : gb783 ≠ gb788)); have n10_ := Aside0.mk ((by rw [hg]; exact Nat.ne_of_gt (blk_lt (bK BK783)) : gb788 ≠ gb783)); have n11_ := Aside0.mk ((by rw [hg]; exact Nat.ne_of_lt (blk_lt (g := gb786) (o := .cells #[.int .i64 ((rd_T27 l0 x15_1).f0), .int .i64 ((rd_T27 l0 x15_1).f1), .int .i64 ((rd_T27 l0 x15_1).f2)] 27 (0, 0)) (by (with_reducible repeat (first | refine blk_drewN ?_ _ | refine blk_drew ?_ | refine blk_alloc ?_ _)); refine blk_put (cs := #[.int .i64 ((rd_T27 l0 x15_1).f0), .int .i64 ((rd_T27 l0 x15_1).f1), .int .i64 0]) ?_ 2 _ rfl; (with_reducible repeat (first | refine blk_drewN ?_ _ | refine blk_drew ?_ | refine blk_alloc ?_ _)); refine blk_put (cs := #[.int .i64 ((rd_T27 l0 x15_1).f0), .int .i64 0, .int .i64 0]) ?_ 1 _ rfl; (with_reducible repeat (first | refine blk_drewN ?_ _ | refine blk_drew ?_ | refine blk_alloc ?_ _)); refine blk_put (cs := #[.int .i64 0, .int .i64 0, .int .i64 0]) ?_ 0 _ rfl; (with_reducible repeat (first | refine blk_drewN ?_ _ | refine blk_drew ?_ | refine blk_alloc ?_ _)); exact BK786.out)) : gb786 ≠ gb788)); have n12_ := Aside0.mk ((by rw [hg]; exact Nat.ne_of_gt (blk_lt (g := gb786) (o := .cells #[.int .i64 ((rd_T27 l0 x15_1).f0), .int .i64 ((rd_T27 l0 x15_1).f1), .int .i64 ((rd_T27 l0 x15_1).f2)] 27 (0, 0)) (by (with_reducible repeat (first | refine blk_drewN ?_ _ | refine blk_drew ?_ | refine blk_alloc ?_ _)); refine blk_put (cs := #[.int .i64 ((rd_T27 l0 x15_1).f0), .int .i64 ((rd_T27 l0 x15_1).f1), .int .i64 0]) ?_ 2 _ rfl; (with_reducible repeat (first | refine blk_drewN ?_ _ | refine blk_drew ?_ | refine blk_alloc ?_ _)); refine blk_put (cs := #[.int .i64 ((rd_T27 l0 x15_1).f0), .int .i64 0, .int .i64 0]) ?_ 1 _ rfl; (with_reducible repeat (first | refine blk_drewN ?_ _ | refine blk_drew ?_ | refine blk_alloc ?_ _)); refine blk_put (cs := #[.int .i64 0, .int .i64 0, .int .i64 0]) ?_ 0 _ rfl; (with_reducible repeat (first | refine blk_drewN ?_ _ | refine blk_drew ?_ | refine blk_alloc ?_ _)); exact BK786.out)) : gb788 ≠ gb786)); clear BK782; clear BK783; clear BK786; clear HB; have BK782 := n0_; have BK783 := n1_; have BK786 := n2_; have HB := n3_; have BK788 := n4_; have GW788 := n5_; have GE788 := n6_; have NB782_788 := n7_; have NB788_782 := n8_; have NB783_788 := n9_; have NB788_783 := n10_; have NB786_788 := n11_; have NB788_786 := n12_; clear n0_ n1_ n2_ n3_ n4_ n5_ n6_ n7_ n8_ n9_ n10_ n11_ n12_; clear hb hbox hg; have hnb22 := NB788_782.out; have hnc22 := NB782_788.out; have hnb23 := NB788_783.out; have hnc23 := NB783_788.out; have hnb24 := NB788_786.out; have hnc24 := NB786_788.out; have hcz25_0 : w21.cell? ⟨gb788, 0, none⟩ = some (.int .i64 0) := (blk_cell BK788.out 0).trans rfl; have hcz25_1 : w21.cell? ⟨gb788, 1, none⟩ = some (.int .i64 0) := (blk_cell BK788.out 1).trans rfl; have hcz25_2 : w21.cell? ⟨gb788, 2, none⟩ = some (.int .i64 0) := (blk_cell BK788.out 2).trans rfl; have hfz25_0 := blk_frozen BK788.out 0; have hfz25_1 := blk_frozen BK788.out 1; have hfz25_2 := blk_frozen BK788.out 2; have hcz26_0 : w21.cell? ⟨gb786, 0, none⟩ = some (.int .i64 ((rd_T27 l0 x15_1).f0)) := (blk_cell BK786.out 0).trans rfl; have hcz26_1 : w21.cell? ⟨gb786, 1, none⟩ = some (.int .i64 ((rd_T27 l0 x15_1).f1)) := (blk_cell BK786.out 1).trans rfl; have hcz26_2 : w21.cell? ⟨gb786, 2, none⟩ = some (.int .i64 ((rd_T27 l0 x15_1).f2)) := (blk_cell BK786.out 2).trans rfl; have hfz26_0 := blk_frozen BK786.out 0; have hfz26_1 := blk_frozen BK786.out 1; have hfz26_2 := blk_frozen BK786.out 2) | ((with_reducible refine gate_dst (N := 38) rfl ?_); refine Kd.R_lit (Kd.int .i64) _ 3 ?hg (N := 38) ?hd (xs := ([(rd_T27 l0 x15_1).f0, (rd_T27 l0 (ji12)).f1, wrap64 (-((rd_T27 l0 x15_1).f1)), (rd_T27 l0 (ji12)).f0] : List Int)) (inner := [.int .i64 ((rd_T27 l0 x15_1).f0), .int .i64 ((rd_T27 l0 (ji12)).f1), .int .i64 (wrap64 (-((rd_T27 l0 x15_1).f1))), .int .i64 ((rd_T27 l0 (ji12)).f0)]) (ok := fun _ => True) (okp := fun _ => True) ?hr ?hp (fun _ hk => hk) trivial (Below.refl _ _) (Nat.le_refl _) (by simp) ?_; (case hd => rfl); (case hg => rfl); (case hr => first | (go_simp; done) | (go_simp; rfl)); (case hp => exact (Reps.one (show Kd.M (Kd.int .i64) _ _ _ ((rd_T27 l0 x15_1).f0) [.int .i64 ((rd_T27 l0 x15_1).f0)] from rfl) (Reps.one (show Kd.M (Kd.int .i64) _ _ _ ((rd_T27 l0 (ji12)).f1) [.int .i64 ((rd_T27 l0 (ji12)).f1)] from rfl) (Reps.one (show Kd.M (Kd.int .i64) _ _ _ (wrap64 (-((rd_T27 l0 x15_1).f1))) [.int .i64 (wrap64 (-((rd_T27 l0 x15_1).f1)))] from rfl) (Reps.one (show Kd.M (Kd.int .i64) _ _ _ ((rd_T27 l0 (ji12)).f0) [.int .i64 ((rd_T27 l0 (ji12)).f0)] from rfl) (Reps.none _ _)))))); intro v790 w27 ho28 hb hg_ hnew_; clear hg_ hnew_; (first | rw [← Ny789.out] at ho28 | (simp only [Int.reduceToNat] at ho28; rw [← Ny789.out] at ho28)); have n0_ := Aside0.mk (Kd.R_lower ho28 (below_size (bH HB))); have n1_ := Aside0.mk (blk_below (g := gb782) (o := .cells #[.int .i64 0, .int .u64 0] 50 (0, 0)) (bK BK782) hb); have n2_ := Aside0.mk (blk_below (g := gb783) (o := .cells #[.int .i64 x784000_1, .int .u64 x784001_1] 50 (0, 0)) (bK BK783) hb); have n3_ := Aside0.mk (blk_below (g := gb786) (o := .cells #[.int .i64 ((rd_T27 l0 x15_1).f0), .int .i64 ((rd_T27 l0 x15_1).f1), .int .i64 ((rd_T27 l0 x15_1).f2)] 27 (0, 0)) (bK BK786) hb); have n4_ := Aside0.mk (blk_below (g := gb788) (o := .cells #[.int .i64 ((rd_T27 l0 (ji12)).f0), .int .i64 ((rd_T27 l0 (ji12)).f1), .int .i64 ((rd_T27 l0 (ji12)).f2)] 27 (0, 0)) (by (with_reducible repeat (first | refine blk_drewN ?_ _ | refine blk_drew ?_ | refine blk_alloc ?_ _)); refine blk_put (cs := #[.int .i64 ((rd_T27 l0 (ji12)).f0), .int .i64 ((rd_T27 l0 (ji12)).f1), .int .i64 0]) ?_ 2 _ rfl; (with_reducible repeat (first | refine blk_drewN ?_ _ | refine blk_drew ?_ | refine blk_alloc ?_ _)); refine blk_put (cs := #[.int .i64 ((rd_T27 l0 (ji12)).f0), .int .i64 0, .int .i64 0]) ?_ 1 _ rfl; (with_reducible repeat (first | refine blk_drewN ?_ _ | refine blk_drew ?_ | refine blk_alloc ?_ _)); refine blk_put (cs := #[.int .i64 0, .int .i64 0, .int .i64 0]) ?_ 0 _ rfl; (with_reducible repeat (first | refine blk_drewN ?_ _ | refine blk_drew ?_ | refine blk_alloc ?_ _)); exact BK788.out) hb); have n5_ := Aside0.mk (below_step (bH HB) hb); clear BK782; clear BK783; clear BK786; clear BK788; clear HB; have HO791 := n0_; have BK782 := n1_; have BK783 := n2_; have BK786 := n3_; have BK788 := n4_; have HB := n5_; clear n0_ n1_ n2_ n3_ n4_ n5_; clear hb ho28; obtain ⟨Ao29, co29, eo29⟩ := Kd.R_slice HO791.out; subst eo29) | ((with_reducible refine gate_callee (f := 69) rfl ?_); refine goesL_ (some 39) rfl rfl Try.func69 (by kernel_rfl) rfl #[.slice Ao29 y789.length co29] rfl (by (try simp only [List.map_toArray, List.map_cons, List.map_nil]); first | done | rfl | (simp only [List.length_drop, List.length_take]; rfl)) ?_; (with_reducible refine (wide_Dot.calls k1 _ _ y789 t792 t793 t794 _ ?side1 ?side2 A15.out).mono ?_); (case side1 => repeat (first | exact (Kd.R_reads' HO791.out).2.2 | (with_reducible refine Kd.C_alloc ?_ _) | (with_reducible refine Kd.C_drewN ?_ _) | (with_reducible refine Kd.C_drew ?_))); (case side2 => exact (Kd.R_reads' HO791.out).2.1); rintro e w30 ⟨rfl, hb⟩; refine ⟨_, rfl, ?_⟩; have n0_ := Aside0.mk (Kd.R_below (rK HO791) hb); have n1_ := Aside0.mk (blk_below (g := gb782) (o := .cells #[.int .i64 0, .int .u64 0] 50 (0, 0)) (bK BK782) hb); have n2_ := Aside0.mk (blk_below (g := gb783) (o := .cells #[.int .i64 x784000_1, .int .u64 x784001_1] 50 (0, 0)) (bK BK783) hb); have n3_ := Aside0.mk (blk_below (g := gb786) (o := .cells #[.int .i64 ((rd_T27 l0 x15_1).f0), .int .i64 ((rd_T27 l0 x15_1).f1), .int .i64 ((rd_T27 l0 x15_1).f2)] 27 (0, 0)) (bK BK786) hb); have n4_ := Aside0.mk (blk_below (g := gb788) (o := .cells #[.int .i64 ((rd_T27 l0 (ji12)).f0), .int .i64 ((rd_T27 l0 (ji12)).f1), .int .i64 ((rd_T27 l0 (ji12)).f2)] 27 (0, 0)) (bK BK788) hb); have n5_ := Aside0.mk (below_step (bH HB) hb); clear HO791; clear BK782; clear BK783; clear BK786; clear BK788; clear HB; have HO791 := n0_; have BK782 := n1_; have BK783 := n2_; have BK786 := n3_; have BK788 := n4_; have HB := n5_; clear n0_ n1_ n2_ n3_ n4_ n5_; (try clear hb); (try clear hb2); (try clear hk); (try clear hi)) | ((with_reducible refine gate_dst (N := 7) rfl ?_); refine box_event ?hg (N := 7) ?hd (cs := #[.int .i64 0, .int .u64 0]) (t := 50) ?hr ?_; (case hd => rfl); (case hg => rfl); (case hr => first | (go_simp; done) | (go_simp; rfl)); intro gb795 hg w31 hbox hb; have n0_ := Aside0.mk (Kd.R_below (rK HO791) hb); have n1_ := Aside0.mk (blk_below (g := gb782) (o := .cells #[.int .i64 0, .int .u64 0] 50 (0, 0)) (bK BK782) hb); have n2_ := Aside0.mk (blk_below (g := gb783) (o := .cells #[.int .i64 x784000_1, .int .u64 x784001_1] 50 (0, 0)) (bK BK783) hb); have n3_ := Aside0.mk (blk_below (g := gb786) (o := .cells #[.int .i64 ((rd_T27 l0 x15_1).f0), .int .i64 ((rd_T27 l0 x15_1).f1), .int .i64 ((rd_T27 l0 x15_1).f2)] 27 (0, 0)) (bK BK786) hb); have n4_ := Aside0.mk (blk_below (g := gb788) (o := .cells #[.int .i64 ((rd_T27 l0 (ji12)).f0), .int .i64 ((rd_T27 l0 (ji12)).f1), .int .i64 ((rd_T27 l0 (ji12)).f2)] 27 (0, 0)) (bK BK788) hb); have n5_ := Aside0.mk (below_step (bH HB) hb); have n6_ := Aside0.mk (hbox); have n7_ := Aside0.mk ((by rw [hg]; exact (below_size (bH HB)) : w.heap.size ≤ gb795)); have n8_ := n7_; have n9_ := Aside0.mk ((by rw [hg]; exact Nat.ne_of_lt (blk_lt (bK BK782)) : gb782 ≠ gb795)); have n10_ := Aside0.mk ((by rw [hg]; exact Nat.ne_of_gt (blk_lt (bK BK782)) : gb795 ≠ gb782)); have n11_ := Aside0.mk ((by rw [hg]; exact Nat.ne_of_lt (blk_lt (bK BK783)) : gb783 ≠ gb795)); have n12_ := Aside0.mk ((by rw [hg]; exact Nat.ne_of_gt (blk_lt (bK BK783)) : gb795 ≠ gb783)); have n13_ := Aside0.mk ((by rw [hg]; exact Nat.ne_of_lt (blk_lt (bK BK786)) : gb786 ≠ gb795)); have n14_ := Aside0.mk ((by rw [hg]; exact Nat.ne_of_gt (blk_lt (bK BK786)) : gb795 ≠ gb786)); have n15_ := Aside0.mk ((by rw [hg]; exact Nat.ne_of_lt (blk_lt (bK BK788)) : gb788 ≠ gb795)); have n16_ := Aside0.mk ((by rw [hg]; exact Nat.ne_of_gt (blk_lt (bK BK788)) : gb795 ≠ gb788)); clear HO791; clear BK782; clear BK783; clear BK786; clear BK788; clear HB; have HO791 := n0_; have BK782 := n1_; have BK783 := n2_; have BK786 := n3_; have BK788 := n4_; have HB := n5_; have BK795 := n6_; have GW795 := n7_; have GE795 := n8_; have NB782_795 := n9_; have NB795_782 := n10_; have NB783_795 := n11_; have NB795_783 := n12_; have NB786_795 := n13_; have NB795_786 := n14_; have NB788_795 := n15_; have NB795_788 := n16_; clear n0_ n1_ n2_ n3_ n4_ n5_ n6_ n7_ n8_ n9_ n10_ n11_ n12_ n13_ n14_ n15_ n16_; clear hb hbox hg; have hnb32 := NB795_782.out; have hnc32 := NB782_795.out; have hnb33 := NB795_783.out; have hnc33 := NB783_795.out; have hnb34 := NB795_786.out; have hnc34 := NB786_795.out; have hnb35 := NB795_788.out; have hnc35 := NB788_795.out; have hcz36_0 : w31.cell? ⟨gb795, 0, none⟩ = some (.int .i64 0) := (blk_cell BK795.out 0).trans rfl; have hcz36_1 : w31.cell? ⟨gb795, 1, none⟩ = some (.int .u64 0) := (blk_cell BK795.out 1).trans rfl; have hfz36_0 := blk_frozen BK795.out 0; have hfz36_1 := blk_frozen BK795.out 1; have hnb37 := NB783_782.out; have hnc37 := NB782_783.out; have hcz38_0 : w31.cell? ⟨gb783, 0, none⟩ = some (.int .i64 x784000_1) := (blk_cell BK783.out 0).trans rfl; have hcz38_1 : w31.cell? ⟨gb783, 1, none⟩ = some (.int .u64 x784001_1) := (blk_cell BK783.out 1).trans rfl; have hfz38_0 := blk_frozen BK783.out 0; have hfz38_1 := blk_frozen BK783.out 1) | ((with_reducible refine gate_dst (N := 44) rfl ?_); refine Kd.R_lit k50 _ 50 ?hg (N := 44) ?hd (xs := ([(⟨t792, t793⟩ : S50)] : List (S50))) (inner := [.int .i64 t792, .int .u64 t793]) (ok := fun _ => True) (okp := fun _ => True) ?hr ?hp (fun _ hk => hk) trivial (Below.refl _ _) (Nat.le_refl _) (by simp) ?_; (case hd => rfl); (case hg => rfl); (case hr => first | (go_simp; done) | (go_simp; rfl)); (case hp => exact (Reps.c2 (show Kd.M k50 _ _ _ (⟨t792, t793⟩ : S50) [.int .i64 t792, .int .u64 t793] from (k50_mkM _ _ _ (⟨t792, t793⟩ : S50) )) (Reps.none _ _))); intro v797 w39 ho40 hb hg_ hnew_; clear hg_ hnew_; (first | rw [← Ny796.out] at ho40 | (simp only [Int.reduceToNat] at ho40; rw [← Ny796.out] at ho40)); have n0_ := Aside0.mk (Kd.R_below (by (with_reducible repeat (first | apply Kd.R_alloc | apply Kd.R_drewN | apply Kd.R_drew)); exact (Kd.R_mono (Kd.R_far (p := ⟨gb795, 1, none⟩) (Kd.R_far (p := ⟨gb795, 0, none⟩) (Kd.R_types HO791.out BK795.out (by decide)) (fun _ hk => hk.2) (.int .i64 t792)) (fun _ hk => hk.2) (.int .u64 t793)) (fun _ h_ => h_.1))) hb); have n1_ := Aside0.mk (Kd.R_lower (Kd.R_newB (Kd.R_newB (Kd.R_newB ho40 (g := gb782) (o := .cells #[.int .i64 0, .int .u64 0] 50 (0, 0)) (bK BK782)) (g := gb783) (o := .cells #[.int .i64 x784000_1, .int .u64 x784001_1] 50 (0, 0)) (bK BK783)) (g := gb795) (o := .cells #[.int .i64 t792, .int .u64 t793] 50 (0, 0)) (by (with_reducible repeat (first | refine blk_drewN ?_ _ | refine blk_drew ?_ | refine blk_alloc ?_ _)); refine blk_put (cs := #[.int .i64 t792, .int .u64 0]) ?_ 1 _ rfl; (with_reducible repeat (first | refine blk_drewN ?_ _ | refine blk_drew ?_ | refine blk_alloc ?_ _)); refine blk_put (cs := #[.int .i64 0, .int .u64 0]) ?_ 0 _ rfl; (with_reducible repeat (first | refine blk_drewN ?_ _ | refine blk_drew ?_ | refine blk_alloc ?_ _)); exact BK795.out)) (below_size (bH HB))); have n2_ := Aside0.mk (blk_below (g := gb782) (o := .cells #[.int .i64 0, .int .u64 0] 50 (0, 0)) (bK BK782) hb); have n3_ := Aside0.mk (blk_below (g := gb783) (o := .cells #[.int .i64 x784000_1, .int .u64 x784001_1] 50 (0, 0)) (bK BK783) hb); have n4_ := Aside0.mk (blk_below (g := gb786) (o := .cells #[.int .i64 ((rd_T27 l0 x15_1).f0), .int .i64 ((rd_T27 l0 x15_1).f1), .int .i64 ((rd_T27 l0 x15_1).f2)] 27 (0, 0)) (bK BK786) hb); have n5_ := Aside0.mk (blk_below (g := gb788) (o := .cells #[.int .i64 ((rd_T27 l0 (ji12)).f0), .int .i64 ((rd_T27 l0 (ji12)).f1), .int .i64 ((rd_T27 l0 (ji12)).f2)] 27 (0, 0)) (bK BK788) hb); have n6_ := Aside0.mk (blk_below (g := gb795) (o := .cells #[.int .i64 t792, .int .u64 t793] 50 (0, 0)) (by (with_reducible repeat (first | refine blk_drewN ?_ _ | refine blk_drew ?_ | refine blk_alloc ?_ _)); refine blk_put (cs := #[.int .i64 t792, .int .u64 0]) ?_ 1 _ rfl; (with_reducible repeat (first | refine blk_drewN ?_ _ | refine blk_drew ?_ | refine blk_alloc ?_ _)); refine blk_put (cs := #[.int .i64 0, .int .u64 0]) ?_ 0 _ rfl; (with_reducible repeat (first | refine blk_drewN ?_ _ | refine blk_drew ?_ | refine blk_alloc ?_ _)); exact BK795.out) hb); have n7_ := Aside0.mk (below_step (bH HB) hb); clear HO791; clear BK782; clear BK783; clear BK786; clear BK788; clear BK795; clear HB; have HO791 := n0_; have HO798 := n1_; have BK782 := n2_; have BK783 := n3_; have BK786 := n4_; have BK788 := n5_; have BK795 := n6_; have HB := n7_; clear n0_ n1_ n2_ n3_ n4_ n5_ n6_ n7_; clear hb ho40; obtain ⟨Ao41, co41, eo41⟩ := Kd.R_slice HO798.out; subst eo41) | ((with_reducible refine gate_callee (f := 25) rfl ?_); refine goesL_ (some 45) rfl rfl Try.func25 (by kernel_rfl) rfl #[.agg #[.int .i64 x784000_1, .int .u64 x784001_1], .slice Ao41 y796.length co41] rfl (by (try simp only [List.map_toArray, List.map_cons, List.map_nil]); first | done | rfl | (simp only [List.length_drop, List.length_take]; rfl)) ?_; (with_reducible refine (wide_Add.calls k1 x784000_1 x784001_1 _ _ y796 t799 t800 _ ?side1 ?side2 A16.out).mono ?_); (case side1 => repeat (first | exact (Kd.R_reads' HO798.out).2.2 | (with_reducible refine Kd.C_alloc ?_ _) | (with_reducible refine Kd.C_drewN ?_ _) | (with_reducible refine Kd.C_drew ?_))); (case side2 => exact (Kd.R_reads' HO798.out).2.1); rintro e w42 ⟨rfl, hb⟩; refine ⟨_, rfl, ?_⟩; have n0_ := Aside0.mk (Kd.R_below (rK HO791) hb); have n1_ := Aside0.mk (Kd.R_below (rK HO798) hb); have n2_ := Aside0.mk (blk_below (g := gb782) (o := .cells #[.int .i64 0, .int .u64 0] 50 (0, 0)) (bK BK782) hb); have n3_ := Aside0.mk (blk_below (g := gb783) (o := .cells #[.int .i64 x784000_1, .int .u64 x784001_1] 50 (0, 0)) (bK BK783) hb); have n4_ := Aside0.mk (blk_below (g := gb786) (o := .cells #[.int .i64 ((rd_T27 l0 x15_1).f0), .int .i64 ((rd_T27 l0 x15_1).f1), .int .i64 ((rd_T27 l0 x15_1).f2)] 27 (0, 0)) (bK BK786) hb); have n5_ := Aside0.mk (blk_below (g := gb788) (o := .cells #[.int .i64 ((rd_T27 l0 (ji12)).f0), .int .i64 ((rd_T27 l0 (ji12)).f1), .int .i64 ((rd_T27 l0 (ji12)).f2)] 27 (0, 0)) (bK BK788) hb); have n6_ := Aside0.mk (blk_below (g := gb795) (o := .cells #[.int .i64 t792, .int .u64 t793] 50 (0, 0)) (bK BK795) hb); have n7_ := Aside0.mk (below_step (bH HB) hb); clear HO791; clear HO798; clear BK782; clear BK783; clear BK786; clear BK788; clear BK795; clear HB; have HO791 := n0_; have HO798 := n1_; have BK782 := n2_; have BK783 := n3_; have BK786 := n4_; have BK788 := n5_; have BK795 := n6_; have HB := n7_; clear n0_ n1_ n2_ n3_ n4_ n5_ n6_ n7_; (try clear hb); (try clear hb2); (try clear hk); (try clear hi); have hcz43_0 : w42.cell? ⟨gb783, 0, none⟩ = some (.int .i64 x784000_1) := (blk_cell BK783.out 0).trans rfl; have hcz43_1 : w42.cell? ⟨gb783, 1, none⟩ = some (.int .u64 x784001_1) := (blk_cell BK783.out 1).trans rfl; have hfz43_0 := blk_frozen BK783.out 0; have hfz43_1 := blk_frozen BK783.out 1))
          go_roundg k1
          case measure => have := HK1.out; omega
          case rel => exact ⟨(wrap64 (x15_1 + 1)), (t799), (t800), (by first | rfl | (simp; done) | (simp [*]; done)), H', ⟨by have := HK1.out; omega⟩, ⟨bK BK782⟩, ⟨by (with_reducible repeat (first | refine blk_drewN ?_ _ | refine blk_drew ?_ | refine blk_alloc ?_ _)); refine blk_put (cs := #[.int .i64 t799, .int .u64 x784001_1]) ?_ 1 _ rfl; (with_reducible repeat (first | refine blk_drewN ?_ _ | refine blk_drew ?_ | refine blk_alloc ?_ _)); refine blk_put (cs := #[.int .i64 x784000_1, .int .u64 x784001_1]) ?_ 0 _ rfl; (with_reducible repeat (first | refine blk_drewN ?_ _ | refine blk_drew ?_ | refine blk_alloc ?_ _)); exact BK783.out⟩, ⟨ bH HB⟩⟩
         ·rw [if_neg c14] at H
          exact absurd H (by simp)
        ·rw [if_neg c13] at H
         exact absurd H (by simp)
      ·rw [if_neg c10] at H
       exact absurd H (by simp)
     ·rw [if_neg c9] at H
      exact absurd H (by simp)
    ·rw [if_neg c8] at H
     have c8b0 : decide (x15_1 < (l0.length : Int)) = false := decide_eq_false c8
     clear c8
     (first | rw [c8b0] | (simp only [i64_w, i32_w]; rw [c8b0]) | skip)
     simp only [Option.some.injEq, Prod.mk.injEq] at H
     obtain ⟨rfl, rfl⟩ := H
     have hnb44 := NB783_782.out
     have hnc44 := NB782_783.out
     have hcz45_0 : wr.cell? ⟨gb783, 0, none⟩ = some (.int .i64 x784000_1) := (blk_cell BK783.out 0).trans rfl
     have hcz45_1 : wr.cell? ⟨gb783, 1, none⟩ = some (.int .u64 x784001_1) := (blk_cell BK783.out 1).trans rfl
     have hfz45_0 := blk_frozen BK783.out 0
     have hfz45_1 := blk_frozen BK783.out 1
     have hcz46_0 : wr.cell? ⟨gb782, 0, none⟩ = some (.int .i64 0) := (blk_cell BK782.out 0).trans rfl
     have hcz46_1 : wr.cell? ⟨gb782, 1, none⟩ = some (.int .u64 0) := (blk_cell BK782.out 1).trans rfl
     have hfz46_0 := blk_frozen BK782.out 0
     have hfz46_1 := blk_frozen BK782.out 1
     go_wp2
     refine bodyPost_ret (results_cell_row rfl _ _ gb782 50 #[.int .i64 x784000_1, .int .u64 x784001_1] (0, 0) _ rfl (by (with_reducible repeat (first | refine blk_drewN ?_ _ | refine blk_drew ?_ | refine blk_alloc ?_ _)); refine blk_put (cs := #[.int .i64 x784000_1, .int .u64 0]) ?_ 1 _ rfl; (with_reducible repeat (first | refine blk_drewN ?_ _ | refine blk_drew ?_ | refine blk_alloc ?_ _)); refine blk_put (cs := #[.int .i64 0, .int .u64 0]) ?_ 0 _ rfl; (with_reducible repeat (first | refine blk_drewN ?_ _ | refine blk_drew ?_ | refine blk_alloc ?_ _)); exact BK782.out) Try.underlying50 rfl (by kernel_rfl)) rfl ?_
     exact ⟨by first | rfl | (simp [errW_none, errW_some] <;> rfl) | (simp [*, errW_none, errW_some] <;> rfl), bH HB⟩
 ·replace c7 := Bool.eq_false_iff.mpr c7
  subst c7
  have H1 : (some (0, 0)) = some (r1, r2) := by rw [if_neg (show ¬ (false = true) by decide)] at H; exact H
  clear H
  have H := H1
  clear H1
  simp only [Option.some.injEq, Prod.mk.injEq] at H
  obtain ⟨rfl, rfl⟩ := H
  have hnb47 := NB783_782.out
  have hnc47 := NB782_783.out
  have hcz48_0 : w6.cell? ⟨gb783, 0, none⟩ = some (.int .i64 0) := (blk_cell BK783.out 0).trans rfl
  have hcz48_1 : w6.cell? ⟨gb783, 1, none⟩ = some (.int .u64 0) := (blk_cell BK783.out 1).trans rfl
  have hfz48_0 := blk_frozen BK783.out 0
  have hfz48_1 := blk_frozen BK783.out 1
  have hcz49_0 : w6.cell? ⟨gb782, 0, none⟩ = some (.int .i64 0) := (blk_cell BK782.out 0).trans rfl
  have hcz49_1 : w6.cell? ⟨gb782, 1, none⟩ = some (.int .u64 0) := (blk_cell BK782.out 1).trans rfl
  have hfz49_0 := blk_frozen BK782.out 0
  have hfz49_1 := blk_frozen BK782.out 1
  go_wp2
  refine bodyPost_ret (results_cell_row rfl _ _ gb782 50 #[.int .i64 0, .int .u64 0] (0, 0) _ rfl (by (with_reducible repeat (first | refine blk_drewN ?_ _ | refine blk_drew ?_ | refine blk_alloc ?_ _)); refine blk_put (cs := #[.int .i64 0, .int .u64 0]) ?_ 1 _ rfl; (with_reducible repeat (first | refine blk_drewN ?_ _ | refine blk_drew ?_ | refine blk_alloc ?_ _)); refine blk_put (cs := #[.int .i64 0, .int .u64 0]) ?_ 0 _ rfl; (with_reducible repeat (first | refine blk_drewN ?_ _ | refine blk_drew ?_ | refine blk_alloc ?_ _)); exact BK782.out) Try.underlying50 rfl (by kernel_rfl)) rfl ?_
  exact ⟨by first | rfl | (simp [errW_none, errW_some] <;> rfl) | (simp [*, errW_none, errW_some] <;> rfl), bH HB⟩

end Go.Proofs.Ytbonkedecfjmdaa.P

namespace Go.Proofs.Ytbonkedecfjmdaa.G
set_option linter.unusedVariables false
set_option linter.unusedSimpArgs false
open Go.RowKit Go.Proofs.Ytbonkedecfjmdaa.P Go.Proofs.Ytbonkedecfjmdaa.X Go.Proofs.Ytbonkedecfjmdaa.WL Go.Proofs.YtbonkedecfjmdaaW.PrintWords Go.Proofs.YtbonkedecfjmdaaW.PrintLast Go.Proofs.YtbonkedecfjmdaaW.PrintMore
def rot1 {α : Type} : List α → List α
  | [] => []
  | a :: t => t ++ [a]
def edg {α : Type} (l : List α) : List (α × α) := List.zip l (rot1 l)
section
variable {α : Type}
theorem rot1_len (l : List α) : (rot1 l).length = l.length := by cases l <;> simp [rot1]
theorem edg_len (l : List α) : (edg l).length = l.length := by simp [edg, rot1_len]
theorem rot1_perm (l : List α) : (rot1 l).Perm l := by
  cases l with
  | nil => exact List.Perm.refl _
  | cons a t => exact List.perm_append_comm (l₁ := t) (l₂ := [a])
theorem edg_rot1 (l : List α) : edg (rot1 l) = rot1 (edg l) := by
  unfold edg
  cases l with
  | nil => rfl
  | cons a t =>
    have hl : (rot1 (a :: t)).length = (a :: t).length := rot1_len _
    have hm : rot1 (a :: t) = t ++ [a] := rfl
    generalize rot1 (a :: t) = m at *
    cases m with
    | nil => simp at hl
    | cons b u =>
      simp only [List.zip_cons_cons, rot1]
      rw [hm, List.zip_append (by simpa using hl.symm)]
      rfl
theorem turned_step (l : List α) (k : Nat) (hk : k < l.length) : l.drop (k + 1) ++ l.take (k + 1) = rot1 (l.drop k ++ l.take k) := by
  rw [List.drop_eq_getElem_cons hk, List.cons_append]
  simp only [rot1]
  rw [List.append_assoc, ← List.take_succ_eq_append_getElem hk]
theorem edg_turned (l : List α) : ∀ k, k ≤ l.length → (edg (l.drop k ++ l.take k)).Perm (edg l)
  | 0, _ => by simp
  | k + 1, h => by
    rw [turned_step l k (by omega), edg_rot1]
    exact (rot1_perm _).trans (edg_turned l k (by omega))
theorem zip_rev : ∀ (u v : List α), u.length = v.length → (List.zip u v).reverse = List.zip u.reverse v.reverse
  | [], [], _ => rfl
  | a :: u, b :: v, h => by
    have h' : u.length = v.length := by simpa using h
    rw [List.zip_cons_cons, List.reverse_cons, List.reverse_cons, List.reverse_cons, zip_rev u v h', List.zip_append (by simpa using h')]
    rfl
  | [], _ :: _, h => by simp at h
  | _ :: _, [], h => by simp at h
theorem zip_swap : ∀ (u v : List α), List.zip u v = (List.zip v u).map fun e => (e.2, e.1)
  | [], [] => rfl
  | a :: u, b :: v => by simp [zip_swap u v]
  | [], _ :: _ => by simp
  | _ :: _, [] => by simp
theorem edg_rev (l : List α) : (edg l.reverse).Perm ((edg l).map fun e => (e.2, e.1)) := by
  obtain ⟨r, rfl⟩ : ∃ r, l = r.reverse := ⟨l.reverse, by simp⟩
  rw [List.reverse_reverse]
  cases r with
  | nil => exact List.Perm.refl _
  | cons a t =>
    have e1 : (edg (a :: t)).reverse = (edg (a :: t.reverse)).map fun e => (e.2, e.1) := by
      unfold edg
      rw [zip_rev _ _ (rot1_len _).symm, zip_swap]
      congr 1
      simp [rot1]
    have e2 : edg (a :: t).reverse = rot1 (edg (a :: t.reverse)) := by
      rw [← edg_rot1]; congr 1; simp [rot1]
    rw [e2]
    refine (List.reverse_perm _).symm.trans ?_
    rw [e1]
    exact (rot1_perm _).symm.map _
theorem edg_get (l : List α) (i : Nat) (h : i < l.length) : (edg l)[i]'(by rw [edg_len]; exact h) = (l[i], l[(i + 1) % l.length]'(Nat.mod_lt _ (by omega))) := by
  unfold edg
  rw [List.getElem_zip]
  congr 1
  cases l with
  | nil => simp at h
  | cons a t =>
    simp only [rot1]
    by_cases hi : i < t.length
    · rw [List.getElem_append_left hi]
      have e : (i + 1) % (a :: t).length = i + 1 := Nat.mod_eq_of_lt (by simp; omega)
      simp only [e]
      rfl
    · have hi' : i = t.length := by simp at h; omega
      subst hi'
      rw [List.getElem_append_right (Nat.le_refl _)]
      have e : (t.length + 1) % (a :: t).length = 0 := by simp
      simp only [e, Nat.sub_self]
      rfl
theorem perm_sum {β : Type} {u v : List β} (f : β → Int) (h : u.Perm v) : (u.map f).sum = (v.map f).sum := by
  induction h with
  | nil => rfl
  | cons x _ ih => simp [ih]
  | swap x y l => simp only [List.map_cons, List.sum_cons]; omega
  | trans _ _ h1 h2 => exact h1.trans h2
end

def E (e : Pt × Pt) : Int := e.1.f0 * e.2.f1 - e.1.f1 * e.2.f0
def areaS (l : List Pt) : Int := ((edg l).map E).sum
theorem areaS_turned (l : List Pt) (k : Nat) (h : k ≤ l.length) : areaS (l.drop k ++ l.take k) = areaS l := perm_sum E (edg_turned l k h)
theorem areaS_rev (l : List Pt) : areaS l.reverse = -areaS l := by
  unfold areaS
  rw [perm_sum E (edg_rev l), List.map_map]
  generalize edg l = m
  induction m with
  | nil => rfl
  | cons e m ih =>
    simp only [List.map_cons, List.sum_cons, ih, Function.comp]
    have : E (e.2, e.1) = -E e := by unfold E; grind
    rw [this]; omega
theorem all_get {l : List Pt} (h : l.all rt = true) (i : Nat) (hi : i < l.length) : rt l[i] = true := List.all_eq_true.1 h _ (List.getElem_mem hi)
theorem gArea_l0 (l : List Pt) (hl : l.length < 4000000000000000000) (hr : l.all rt = true) : ∀ (n i : Nat) (x : Int), i + n = l.length →
    Ev (fun k => geom_Area.l0 k l l (l.length : Int) (i : Int) (hiw x) (low x)) (hiw (x + (((edg l).drop i).map E).sum), low (x + (((edg l).drop i).map E).sum)) := by
  intro n
  induction n with
  | zero =>
    intro i x hi
    rw [List.drop_of_length_le (by rw [edg_len]; omega)]
    simp only [List.map_nil, List.sum_nil, Int.add_zero]
    exact Ev.step (f := fun _ => some (hiw x, low x)) (fun k => by simp only [geom_Area.l0]; rw [if_neg (by omega)]) (Ev.now _)
  | succ n ih =>
    intro i x hi
    have hA : i < l.length := by omega
    have hM : (i + 1) % l.length < l.length := Nat.mod_lt _ (by omega)
    have hE : i < (edg l).length := by rw [edg_len]; exact hA
    have q1 : (i : Int) < (l.length : Int) := by omega
    have wm : Int.tmod (wrap64 ((i : Int) + 1)) (l.length : Int) = (((i + 1) % l.length : Nat) : Int) := by
      rw [w64_succ i (by omega), Int.tmod_eq_emod_of_nonneg (by omega), Int.natCast_emod]
    obtain ⟨_, p1, p2, p3, p4⟩ := rt_iff.1 (all_get hr i hA)
    obtain ⟨_, r1, r2, r3, r4⟩ := rt_iff.1 (all_get hr _ hM)
    have D := wDot_ev (l := [l[i].f0, l[(i + 1) % l.length].f1, -l[i].f1, l[(i + 1) % l.length].f0]) (by simp) (by
      intro x hx
      simp only [List.mem_cons, List.not_mem_nil, or_false] at hx
      rcases hx with rfl | rfl | rfl | rfl <;> omega) (by simp)
    have eD : dotS [l[i].f0, l[(i + 1) % l.length].f1, -l[i].f1, l[(i + 1) % l.length].f0] = E (edg l)[i] := by
      rw [edg_get l i hA]; simp only [dotS, E]; rw [Int.neg_mul]; omega
    rw [eD] at D
    have wn : wrap64 (-l[i].f1) = -l[i].f1 := w64_id (by omega) (by omega)
    refine Ev.step (f := fun k => (wide_Dot.f k (([l[i].f0, l[(i + 1) % l.length].f1, -l[i].f1, l[(i + 1) % l.length].f0] : List Int))).bind fun bt290 => ((wide_Add.f k (hiw x) (low x) (([(⟨bt290.1, bt290.2.1⟩ : S50)] : List (S50)))).bind fun bt297 => (geom_Area.l0 k l l (l.length : Int) ((i + 1 : Nat) : Int) bt297.1 bt297.2))) (fun k => ?_) ?_
    · simp only [geom_Area.l0]
      rw [wm, if_pos q1, if_pos (by omega), if_pos q1, if_neg (by omega), if_pos (by omega), if_pos (by omega), rdp l i hA, rdp l _ hM, wn, w64_succ i (by omega)]
    · refine Ev.bind D ?_
      refine Ev.bind (wAdd_ev x _) ?_
      have := ih (i + 1) (x + E (edg l)[i]) (by omega)
      rw [List.drop_eq_getElem_cons hE, List.map_cons, List.sum_cons, ← Int.add_assoc]
      exact this
theorem gArea_ev (l : List Pt) (hl : l.length < 4000000000000000000) : Ev (fun k => geom_Area.f k l) (if l.all rt then (hiw (areaS l), low (areaS l)) else (0, 0)) := by
  unfold geom_Area.f
  refine Ev.bind (gRight_ev l (by omega)) ?_
  by_cases h : l.all rt = true
  · simp only [if_pos h]
    have := gArea_l0 l hl h l.length 0 0 (by omega)
    rw [List.drop_zero, Int.zero_add] at this
    exact this
  · simp only [if_neg h]; exact Ev.now _
/-- The area's number: 0 of what are no points of the plane. -/
def areaV (l : List Pt) : Int := if l.all rt then areaS l else 0
theorem gArea_val (l : List Pt) (hl : l.length < 4000000000000000000) : Ev (fun k => geom_Area.f k l) (hiw (areaV l), low (areaV l)) := by
  have := gArea_ev l hl
  unfold areaV
  split at this
  · rename_i h; rw [if_pos h]; exact this
  · rename_i h; rw [if_neg h]; exact this
theorem areaV_turned (l : List Pt) (k : Nat) (h : k ≤ l.length) : areaV (l.drop k ++ l.take k) = areaV l := by
  unfold areaV
  rw [areaS_turned l k h, List.all_append, Bool.and_comm, ← List.all_append, List.take_append_drop]
theorem areaV_rev (l : List Pt) : areaV l.reverse = -areaV l := by
  unfold areaV
  rw [areaS_rev, List.all_reverse]
  split <;> rfl

end Go.Proofs.Ytbonkedecfjmdaa.G
