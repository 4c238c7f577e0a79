/- Written for this claim by a program of this session (a turned copy of the print): Go functions as Lean functions, and that the Go code comes to just these answers; or a statement proved out of them. No condition. Rings: their sides, turned and told backwards; twice the area, as the program's function answers. Rings: whether a point lies in one, as the program's function answers. -/
import Derived.Test.YtbonkedecfjmdaaZ2
import Derived.Test.YtbonkedecfjmdaaZ15
import Derived.Test.YtbonkedecfjmdaaZ16
import Derived.Test.YtbonkedecfjmdaaZ18
import Derived.Test.YtbonkedecfjmdaaZ17

namespace Go.Proofs.Ytbonkedecfjmdaa.P
open Go.RowKit Go.Proofs.YtbonkedecfjmdaaW.PrintWords Go.Proofs.YtbonkedecfjmdaaW.PrintLast Go.Proofs.YtbonkedecfjmdaaW.PrintMore Go.Proofs.Ytbonkedecfjmdaa.X
attribute [local go_sem] max2_int min2_int max_two min_two max_three min_three max_four min_four add64_0 add64_1 add64
set_option linter.unusedVariables false
set_option linter.unusedSimpArgs false
def geom_Area.l0 : Nat → List (S27) → List (S27) → Int → Int → Int → Int → Option (Int × Int)
 | 0, _, _, _, _, _, _ => none
 | k + 1, x0, x13, x14, x15, x740000, x740001 => if x15 < x14 then (if 0 ≤ x15 then (if x15 < (x13.length : Int) then (if (x0.length : Int) = 0 then (none) else (if 0 ≤ (Int.tmod (wrap64 (x15 + 1)) (x0.length : Int)) then (if (Int.tmod (wrap64 (x15 + 1)) (x0.length : Int)) < (x0.length : Int) then ((wide_Dot.f k (([(rd_T27 x13 x15).f0, (rd_T27 x0 (Int.tmod (wrap64 (x15 + 1)) (x0.length : Int))).f1, wrap64 (-((rd_T27 x13 x15).f1)), (rd_T27 x0 (Int.tmod (wrap64 (x15 + 1)) (x0.length : Int))).f0] : List Int))).bind fun bt748 => ((wide_Add.f k x740000 x740001 (([(⟨bt748.1, bt748.2.1⟩ : S50)] : List (S50)))).bind fun bt755 => (geom_Area.l0 k x0 x13 x14 (wrap64 (x15 + 1)) bt755.1 bt755.2))) else (none)) else (none))) else (none)) else (none)) else (some (x740000, x740001))
def geom_Area.f (k : Nat) (l0 : List (S27)) : Option (Int × Int) := (geom_Right.f k l0).bind fun t740 => (if t740 = true then (geom_Area.l0 k l0 l0 (l0.length : Int) 0 0 0) else (some (0, 0)))
theorem geom_Area.mono_l : ∀ k, (∀ y0 y1 y2 y3 y4 y5, LeO (geom_Area.l0 k y0 y1 y2 y3 y4 y5) (geom_Area.l0 (k + 1) y0 y1 y2 y3 y4 y5))
 | 0 => fun _ _ _ _ _ _ r h => by simp [geom_Area.l0] at h
 | k + 1 => by
  have ih0 := geom_Area.mono_l k
  ·intro y0 y1 y2 y3 y4 y5
   unfold geom_Area.l0
   repeat' first
   | (with_reducible exact ih0 _ _ _ _ _ _)
   | (with_reducible exact geom_Right.mono _ _)
   | (with_reducible exact wide_Add.mono _ _ _ _)
   | (with_reducible exact wide_Dot.mono _ _)
   | (with_reducible exact LeO.refl _)
   | (with_reducible exact LeO.none _)
   | (with_reducible refine LeO.ite ?_ ?_)
   | (with_reducible refine LeO.bind ?_ (fun _ => ?_))
   | exact ih0 _ _ _ _ _ _
   | exact geom_Right.mono _ _
   | exact wide_Add.mono _ _ _ _
   | exact wide_Dot.mono _ _
   | exact LeO.none _
   | refine LeO.ite ?_ ?_
   | refine LeO.bind ?_ (fun _ => ?_)
theorem geom_Area.mono : ∀ a0 k, LeO (geom_Area.f k a0) (geom_Area.f (k + 1) a0) := by
 intro a0 k
 have ih0 := geom_Area.mono_l k
 unfold geom_Area.f
 repeat' first
   | (with_reducible exact ih0 _ _ _ _ _ _)
   | (with_reducible exact geom_Right.mono _ _)
   | (with_reducible exact wide_Add.mono _ _ _ _)
   | (with_reducible exact wide_Dot.mono _ _)
   | (with_reducible exact LeO.refl _)
   | (with_reducible exact LeO.none _)
   | (with_reducible refine LeO.ite ?_ ?_)
   | (with_reducible refine LeO.bind ?_ (fun _ => ?_))
   | exact ih0 _ _ _ _ _ _
   | exact geom_Right.mono _ _
   | exact wide_Add.mono _ _ _ _
   | exact wide_Dot.mono _ _
   | exact LeO.none _
   | refine LeO.ite ?_ ?_
   | refine LeO.bind ?_ (fun _ => ?_)
set_option maxHeartbeats 8000000 in
set_option maxRecDepth 100000 in
theorem geom_Area.calls (k : Nat) (A0 : Option Addr) (c0 : Nat) (l0 : List (S27)) (r1 : Int) (r2 : Int) (w : World) (hr0 : Kd.C k27 w A0 l0.length l0) (hc0 : l0.length ≤ c0) (h : geom_Area.f k l0 = some (r1, r2)) :
  Calls Try.prog 46 #[.slice A0 l0.length c0] w fun e w' => e = .returned (.agg #[.int .i64 r1, .int .u64 r2]) ∧ Below w.heap.size w w' := by
 have hu50 := Try.underlying50
 have hu27 := Try.underlying27
 have HR0 := AM hr0
 have HC0 := AM hc0
 clear hr0 hc0
 have HB := AM (Below.refl w.heap.size w)
 have H : ((geom_Right.f k l0).bind fun t740 => (if t740 = true then (geom_Area.l0 k l0 l0 (l0.length : Int) 0 0 0) else (some (0, 0)))) = some (r1, r2) := h
 clear h
 obtain ⟨t740, A2, H⟩ := bS H
 have HC3 := AM H
 clear H
 go_enter Try.func46, Try.ntmps46
 go_upto_if 11 with (first | ((with_reducible refine gate_dst (N := 2) rfl ?_); refine bE 2 #[.int .i64 0, .int .u64 0] 50 ?_; intro gb738 hg w4 hbox hb; have BK738 := AM hbox; have GW738 := kG HB hg; replace HB := kH HB hb; have GE738 := GW738; clear hb hbox hg) | ((with_reducible refine gate_dst (N := 3) rfl ?_); refine bE 3 #[.int .i64 0, .int .u64 0] 50 ?_; intro gb739 hg w5 hbox hb; have BK739 := AM hbox; have GW739 := kG HB hg; replace HB := kH HB hb; have GE739 := GW739; have NB738_739 := kN BK738 hg; have NB739_738 := kM BK738 hg; replace BK738 := kB BK738 hb; clear hb hbox hg) | ((with_reducible refine gate_callee (f := 32) rfl ?_); refine gL (some 10) Try.func32 #[.slice A0 l0.length c0] ?_; (with_reducible refine (geom_Right.calls k _ _ l0 t740 _ ?side1 ?side2 A2.out).mono ?_); (case side1 => exact sC HR0 HB); (case side2 => exact HC0.out); rintro e w6 ⟨rfl, hb⟩; refine ⟨_, rfl, ?_⟩; replace BK738 := kB BK738 hb; replace BK739 := kB BK739 hb; replace HB := kH HB hb; (try clear hb); (try clear hb2); (try clear hk); (try clear hi)))
 (try simp only [Act.put, List.setIfInBounds_toArray, List.set_cons_zero, List.set_cons_succ])
 have H := HC3.out; clear HC3
 by_cases c7 : t740 = true
 ·subst c7
  have H1 : (geom_Area.l0 k l0 l0 (l0.length : Int) 0 0 0) = some (r1, r2) := by rw [if_pos rfl] at H; exact H
  clear H; have H := H1; clear H1
  have H' := AM H
  clear H
  go_wp2
  go_loopg [15] k (fun kq v15 w' => ∃ (x15_1 : Int) (x740000_1 : Int) (x740001_1 : Int), v15 = .int .i64 x15_1 ∧ Aside0 (geom_Area.l0 kq l0 l0 (l0.length : Int) x15_1 x740000_1 x740001_1 = some (r1, r2)) ∧ Aside0 (kq ≤ k) ∧ Aside0 (w'.heap[gb738]? = some (.cells #[.int .i64 0, .int .u64 0] 50 (0, 0))) ∧ Aside0 (w'.heap[gb739]? = some (.cells #[.int .i64 x740000_1, .int .u64 x740001_1] 50 (0, 0))) ∧ Aside0 (Below w.heap.size w w'))
  case atStart => exact ⟨(0), (0), (0), rS, H', ⟨Nat.le_refl _⟩, ⟨bK BK738⟩, ⟨bK BK739⟩, ⟨ bH HB⟩⟩
  case round =>
   clear H'
   (try clear p2); (try clear c3); (try clear c4); (try clear c7)
   obtain ⟨x15_1, x740000_1, x740001_1, rfl, HA, HK1, BK738, BK739, HB⟩ := hrel
   cases gk with
   | zero => exact absurd HA.out (by simp [geom_Area.l0])
   | succ k1 =>
    have H := HA.out; clear HA
    simp only [geom_Area.l0] at H
    by_cases c8 : x15_1 < (l0.length : Int)
    ·rw [if_pos c8] at H
     have c8b0 := decide_eq_true c8; clear c8
     (first | rw [c8b0] | (simp only [i64_w, i32_w]; rw [c8b0]) | skip)
     by_cases c9 : 0 ≤ x15_1
     ·rw [if_pos c9] at H
      have c9b0 := decide_eq_true c9; clear c9
      by_cases c10 : x15_1 < (l0.length : Int)
      ·rw [if_pos c10] at H
       have c10b0 := decide_eq_true c10; clear c10
       by_cases c11 : (l0.length : Int) = 0
       ·rw [if_pos c11] at H
        exact absurd H (by simp)
       ·rw [if_neg c11] at H
        have c11b0 : ((l0.length : Int) == 0) = false := beq_eq_false_iff_ne.mpr c11
        have c11b1 : ((l0.length : Int) != 0) = true := bne_iff_ne.mpr c11
        have c11b2 : ¬ (l0 = []) := fun h_ => c11 (by rw [h_]; rfl)
        obtain ⟨ji12, hji12⟩ : ∃ j_ : Int, (Int.tmod (wrap64 (x15_1 + 1)) (l0.length : Int)) = j_ := ⟨_, rfl⟩
        replace H : (if 0 ≤ (ji12) then (if (ji12) < (l0.length : Int) then ((wide_Dot.f k1 (([(rd_T27 l0 x15_1).f0, (rd_T27 l0 (ji12)).f1, wrap64 (-((rd_T27 l0 x15_1).f1)), (rd_T27 l0 (ji12)).f0] : List Int))).bind fun bt748 => ((wide_Add.f k1 x740000_1 x740001_1 (([(⟨bt748.1, bt748.2.1⟩ : S50)] : List (S50)))).bind fun bt755 => (geom_Area.l0 k1 l0 l0 (l0.length : Int) (wrap64 (x15_1 + 1)) bt755.1 bt755.2))) else (none)) else (none)) = some (r1, r2) := by first | (rw [hji12] at H; exact H) | (simp only [hji12] at H ⊢; exact H)
        by_cases c13 : 0 ≤ (ji12)
        ·rw [if_pos c13] at H
         have c13b0 := decide_eq_true c13; clear c13
         by_cases c14 : (ji12) < (l0.length : Int)
         ·rw [if_pos c14] at H
          have c14b0 := decide_eq_true c14; clear c14
          obtain ⟨y745, hy745⟩ : ∃ y_ : List Int, y_ = (([(rd_T27 l0 x15_1).f0, (rd_T27 l0 (ji12)).f1, wrap64 (-((rd_T27 l0 x15_1).f1)), (rd_T27 l0 (ji12)).f0] : List Int)) := ⟨_, rfl⟩
          replace H : ((wide_Dot.f k1 y745).bind fun bt748 => ((wide_Add.f k1 x740000_1 x740001_1 (([(⟨bt748.1, bt748.2.1⟩ : S50)] : List (S50)))).bind fun bt755 => (geom_Area.l0 k1 l0 l0 (l0.length : Int) (wrap64 (x15_1 + 1)) bt755.1 bt755.2))) = some (r1, r2) := by first | (rw [hy745]; with_reducible exact H) | (have H2_ := (Option.bind_some _ _).symm.trans H; rw [hy745]; with_reducible exact H2_) | (have H2_ := (Option.bind_some _ _).symm.trans H; with_reducible exact H2_) | with_reducible exact H | (rw [hy745]; exact H) | exact H
          have Ny745 := AM hy745
          clear hy745
          obtain ⟨⟨t748, t749, t750⟩, A15, H⟩ := bS H
          try dsimp only at H
          obtain ⟨y752, hy752⟩ : ∃ y_ : List (S50), y_ = (([(⟨t748, t749⟩ : S50)] : List (S50))) := ⟨_, rfl⟩
          replace H : ((wide_Add.f k1 x740000_1 x740001_1 y752).bind fun bt755 => (geom_Area.l0 k1 l0 l0 (l0.length : Int) (wrap64 (x15_1 + 1)) bt755.1 bt755.2)) = some (r1, r2) := by first | (rw [hy752]; with_reducible exact H) | (have H2_ := (Option.bind_some _ _).symm.trans H; rw [hy752]; with_reducible exact H2_) | (have H2_ := (Option.bind_some _ _).symm.trans H; with_reducible exact H2_) | with_reducible exact H | (rw [hy752]; exact H) | exact H
          have Ny752 := AM hy752
          clear hy752
          obtain ⟨⟨t755, t756⟩, A16, H⟩ := bS H
          try dsimp only at H
          have H' := AM H
          clear H
          have p741 : 0 ≤ (x15_1 : Int) := pD
          have q741 : x15_1 < (l0.length : Int) := pD
          obtain ⟨ad741, e741, hx741_0, hx741_1, hx741_2⟩ := at_T27 HR0.out x15_1 p741 q741
          cases e741
          replace hx741_0 := hW HB hx741_0; replace hx741_1 := hW HB hx741_1; replace hx741_2 := hW HB hx741_2; replace p741 := eq_true p741; replace q741 := eq_true q741
          go_wp2_with (first | ((with_reducible refine gate_dst (N := 5) rfl ?_); refine bE 5 #[.int .i64 0, .int .i64 0, .int .i64 0] 27 ?_; intro gb742 hg w17 hbox hb; have BK742 := AM hbox; have GW742 := kG HB hg; replace HB := kH HB hb; have GE742 := GW742; have NB738_742 := kN BK738 hg; have NB742_738 := kM BK738 hg; replace BK738 := kB BK738 hb; have NB739_742 := kN BK739 hg; have NB742_739 := kM BK739 hg; replace BK739 := kB BK739 hb; clear hb hbox hg; have hnb18 := NB742_738.out; have hnc18 := NB738_742.out; have hnb19 := NB742_739.out; have hnc19 := NB739_742.out; obtain ⟨hcz20_0, hcz20_1, hcz20_2, hfz20_0, hfz20_1, hfz20_2⟩ := c3 BK742; have p743 : 0 ≤ ((ji12) : Int) := pD; have q743 : (ji12) < (l0.length : Int) := pD; obtain ⟨ad743, e743, hx743_0, hx743_1, hx743_2⟩ := at_T27 HR0.out (ji12) p743 q743; obtain rfl : ad741 = ad743 := (by injection e743); have hn743_0 : ad741.block ≠ gb742 := Nat.ne_of_lt (Nat.lt_of_lt_of_le (by have := World.block_lt_of_cell? _ _ hx743_0; first | rwa [add_block] at this | exact this) GW742.out); have hn743_1 : ad741.block ≠ gb742 := Nat.ne_of_lt (Nat.lt_of_lt_of_le (by have := World.block_lt_of_cell? _ _ hx743_0; first | rwa [add_block] at this | exact this) GW742.out); have hn743_2 : ad741.block ≠ gb742 := Nat.ne_of_lt (Nat.lt_of_lt_of_le (by have := World.block_lt_of_cell? _ _ hx743_0; first | rwa [add_block] at this | exact this) GW742.out); replace hx743_0 := hW HB hx743_0; replace hx743_1 := hW HB hx743_1; replace hx743_2 := hW HB hx743_2; replace hx743_0 := (cell_far (p := ⟨gb742, 0, none⟩) (by first | (rw [add_block]; exact hn743_0) | (show (Addr.add _ _).block ≠ _; rw [add_block]; exact hn743_0) | exact hn743_0) (.int .i64 ((rd_T27 l0 x15_1).f0))).trans hx743_0; replace hx743_1 := (cell_far (p := ⟨gb742, 0, none⟩) (by first | (rw [add_block]; exact hn743_0) | (show (Addr.add _ _).block ≠ _; rw [add_block]; exact hn743_0) | exact hn743_0) (.int .i64 ((rd_T27 l0 x15_1).f0))).trans hx743_1; replace hx743_2 := (cell_far (p := ⟨gb742, 0, none⟩) (by first | (rw [add_block]; exact hn743_0) | (show (Addr.add _ _).block ≠ _; rw [add_block]; exact hn743_0) | exact hn743_0) (.int .i64 ((rd_T27 l0 x15_1).f0))).trans hx743_2; replace hx743_0 := (cell_far (p := ⟨gb742, 1, none⟩) (by first | (rw [add_block]; exact hn743_1) | (show (Addr.add _ _).block ≠ _; rw [add_block]; exact hn743_1) | exact hn743_1) (.int .i64 ((rd_T27 l0 x15_1).f1))).trans hx743_0; replace hx743_1 := (cell_far (p := ⟨gb742, 1, none⟩) (by first | (rw [add_block]; exact hn743_1) | (show (Addr.add _ _).block ≠ _; rw [add_block]; exact hn743_1) | exact hn743_1) (.int .i64 ((rd_T27 l0 x15_1).f1))).trans hx743_1; replace hx743_2 := (cell_far (p := ⟨gb742, 1, none⟩) (by first | (rw [add_block]; exact hn743_1) | (show (Addr.add _ _).block ≠ _; rw [add_block]; exact hn743_1) | exact hn743_1) (.int .i64 ((rd_T27 l0 x15_1).f1))).trans hx743_2; replace hx743_0 := (cell_far (p := ⟨gb742, 2, none⟩) (by first | (rw [add_block]; exact hn743_2) | (show (Addr.add _ _).block ≠ _; rw [add_block]; exact hn743_2) | exact hn743_2) (.int .i64 ((rd_T27 l0 x15_1).f2))).trans hx743_0; replace hx743_1 := (cell_far (p := ⟨gb742, 2, none⟩) (by first | (rw [add_block]; exact hn743_2) | (show (Addr.add _ _).block ≠ _; rw [add_block]; exact hn743_2) | exact hn743_2) (.int .i64 ((rd_T27 l0 x15_1).f2))).trans hx743_1; replace hx743_2 := (cell_far (p := ⟨gb742, 2, none⟩) (by first | (rw [add_block]; exact hn743_2) | (show (Addr.add _ _).block ≠ _; rw [add_block]; exact hn743_2) | exact hn743_2) (.int .i64 ((rd_T27 l0 x15_1).f2))).trans hx743_2; clear hn743_0; clear hn743_1; clear hn743_2; replace p743 := eq_true p743; replace q743 := eq_true q743) | ((with_reducible refine gate_dst (N := 6) rfl ?_); refine bE 6 #[.int .i64 0, .int .i64 0, .int .i64 0] 27 ?_; intro gb744 hg w21 hbox hb; have BK744 := AM hbox; have GW744 := kG HB hg; replace HB := kH HB hb; have GE744 := GW744; have NB738_744 := kN BK738 hg; have NB744_738 := kM BK738 hg; replace BK738 := kB BK738 hb; have NB739_744 := kN BK739 hg; have NB744_739 := kM BK739 hg; replace BK739 := kB BK739 hb; have NB742_744 := AM (by rw [hg]; exact Nat.ne_of_lt (blk_lt (g := gb742) (o := .cells #[.int .i64 ((rd_T27 l0 x15_1).f0), .int .i64 ((rd_T27 l0 x15_1).f1), .int .i64 ((rd_T27 l0 x15_1).f2)] 27 (0, 0)) (by (with_reducible repeat (first | refine blk_drewN ?_ _ | refine blk_drew ?_ | refine blk_alloc ?_ _)); refine blk_put (cs := #[.int .i64 ((rd_T27 l0 x15_1).f0), .int .i64 ((rd_T27 l0 x15_1).f1), .int .i64 0]) ?_ 2 _ rfl; (with_reducible repeat (first | refine blk_drewN ?_ _ | refine blk_drew ?_ | refine blk_alloc ?_ _)); refine blk_put (cs := #[.int .i64 ((rd_T27 l0 x15_1).f0), .int .i64 0, .int .i64 0]) ?_ 1 _ rfl; (with_reducible repeat (first | refine blk_drewN ?_ _ | refine blk_drew ?_ | refine blk_alloc ?_ _)); refine blk_put (cs := #[.int .i64 0, .int .i64 0, .int .i64 0]) ?_ 0 _ rfl; (with_reducible repeat (first | refine blk_drewN ?_ _ | refine blk_drew ?_ | refine blk_alloc ?_ _)); exact BK742.out)) : gb742 ≠ gb744); have NB744_742 := AM (by rw [hg]; exact Nat.ne_of_gt (blk_lt (g := gb742) (o := .cells #[.int .i64 ((rd_T27 l0 x15_1).f0), .int .i64 ((rd_T27 l0 x15_1).f1), .int .i64 ((rd_T27 l0 x15_1).f2)] 27 (0, 0)) (by (with_reducible repeat (first | refine blk_drewN ?_ _ | refine blk_drew ?_ | refine blk_alloc ?_ _)); refine blk_put (cs := #[.int .i64 ((rd_T27 l0 x15_1).f0), .int .i64 ((rd_T27 l0 x15_1).f1), .int .i64 0]) ?_ 2 _ rfl; (with_reducible repeat (first | refine blk_drewN ?_ _ | refine blk_drew ?_ | refine blk_alloc ?_ _)); refine blk_put (cs := #[.int .i64 ((rd_T27 l0 x15_1).f0), .int .i64 0, .int .i64 0]) ?_ 1 _ rfl; (with_reducible repeat (first | refine blk_drewN ?_ _ | refine blk_drew ?_ | refine blk_alloc ?_ _)); refine blk_put (cs := #[.int .i64 0, .int .i64 0, .int .i64 0]) ?_ 0 _ rfl; (with_reducible repeat (first | refine blk_drewN ?_ _ | refine blk_drew ?_ | refine blk_alloc ?_ _)); exact BK742.out)) : gb744 ≠ gb742); replace BK742 := AM (blk_below (g := gb742) (o := .cells #[.int .i64 ((rd_T27 l0 x15_1).f0), .int .i64 ((rd_T27 l0 x15_1).f1), .int .i64 ((rd_T27 l0 x15_1).f2)] 27 (0, 0)) (by (with_reducible repeat (first | refine blk_drewN ?_ _ | refine blk_drew ?_ | refine blk_alloc ?_ _)); refine blk_put (cs := #[.int .i64 ((rd_T27 l0 x15_1).f0), .int .i64 ((rd_T27 l0 x15_1).f1), .int .i64 0]) ?_ 2 _ rfl; (with_reducible repeat (first | refine blk_drewN ?_ _ | refine blk_drew ?_ | refine blk_alloc ?_ _)); refine blk_put (cs := #[.int .i64 ((rd_T27 l0 x15_1).f0), .int .i64 0, .int .i64 0]) ?_ 1 _ rfl; (with_reducible repeat (first | refine blk_drewN ?_ _ | refine blk_drew ?_ | refine blk_alloc ?_ _)); refine blk_put (cs := #[.int .i64 0, .int .i64 0, .int .i64 0]) ?_ 0 _ rfl; (with_reducible repeat (first | refine blk_drewN ?_ _ | refine blk_drew ?_ | refine blk_alloc ?_ _)); exact BK742.out) hb); clear hb hbox hg; have hnb22 := NB744_738.out; have hnc22 := NB738_744.out; have hnb23 := NB744_739.out; have hnc23 := NB739_744.out; have hnb24 := NB744_742.out; have hnc24 := NB742_744.out; obtain ⟨hcz25_0, hcz25_1, hcz25_2, hfz25_0, hfz25_1, hfz25_2⟩ := c3 BK744; obtain ⟨hcz26_0, hcz26_1, hcz26_2, hfz26_0, hfz26_1, hfz26_2⟩ := c3 BK742) | ((with_reducible refine gate_dst (N := 38) rfl ?_); refine Kd.R_lit (Kd.int .i64) _ 3 ?hg (N := 38) ?hd (xs := ([(rd_T27 l0 x15_1).f0, (rd_T27 l0 (ji12)).f1, wrap64 (-((rd_T27 l0 x15_1).f1)), (rd_T27 l0 (ji12)).f0] : List Int)) (inner := [.int .i64 ((rd_T27 l0 x15_1).f0), .int .i64 ((rd_T27 l0 (ji12)).f1), .int .i64 (wrap64 (-((rd_T27 l0 x15_1).f1))), .int .i64 ((rd_T27 l0 (ji12)).f0)]) (ok := fun _ => True) (okp := fun _ => True) ?hr ?hp (fun _ hk => hk) trivial (Below.refl _ _) (Nat.le_refl _) (by simp) ?_; (case hd => rfl); (case hg => rfl); (case hr => first | (go_simp; done) | (go_simp; rfl)); (case hp => exact (Reps.one (show Kd.M (Kd.int .i64) _ _ _ ((rd_T27 l0 x15_1).f0) [.int .i64 ((rd_T27 l0 x15_1).f0)] from rfl) (Reps.one (show Kd.M (Kd.int .i64) _ _ _ ((rd_T27 l0 (ji12)).f1) [.int .i64 ((rd_T27 l0 (ji12)).f1)] from rfl) (Reps.one (show Kd.M (Kd.int .i64) _ _ _ (wrap64 (-((rd_T27 l0 x15_1).f1))) [.int .i64 (wrap64 (-((rd_T27 l0 x15_1).f1)))] from rfl) (Reps.one (show Kd.M (Kd.int .i64) _ _ _ ((rd_T27 l0 (ji12)).f0) [.int .i64 ((rd_T27 l0 (ji12)).f0)] from rfl) (Reps.none _ _)))))); intro v746 w27 ho28 hb hg_ hnew_; clear hg_ hnew_; (first | rw [← Ny745.out] at ho28 | (simp only [Int.reduceToNat] at ho28; rw [← Ny745.out] at ho28)); have HO747 := AM (Kd.R_lower ho28 (below_size (bH HB))); replace BK738 := kB BK738 hb; replace BK739 := kB BK739 hb; replace BK742 := kB BK742 hb; replace BK744 := AM (blk_below (g := gb744) (o := .cells #[.int .i64 ((rd_T27 l0 (ji12)).f0), .int .i64 ((rd_T27 l0 (ji12)).f1), .int .i64 ((rd_T27 l0 (ji12)).f2)] 27 (0, 0)) (by (with_reducible repeat (first | refine blk_drewN ?_ _ | refine blk_drew ?_ | refine blk_alloc ?_ _)); refine blk_put (cs := #[.int .i64 ((rd_T27 l0 (ji12)).f0), .int .i64 ((rd_T27 l0 (ji12)).f1), .int .i64 0]) ?_ 2 _ rfl; (with_reducible repeat (first | refine blk_drewN ?_ _ | refine blk_drew ?_ | refine blk_alloc ?_ _)); refine blk_put (cs := #[.int .i64 ((rd_T27 l0 (ji12)).f0), .int .i64 0, .int .i64 0]) ?_ 1 _ rfl; (with_reducible repeat (first | refine blk_drewN ?_ _ | refine blk_drew ?_ | refine blk_alloc ?_ _)); refine blk_put (cs := #[.int .i64 0, .int .i64 0, .int .i64 0]) ?_ 0 _ rfl; (with_reducible repeat (first | refine blk_drewN ?_ _ | refine blk_drew ?_ | refine blk_alloc ?_ _)); exact BK744.out) hb); replace HB := kH HB hb; clear hb ho28; obtain ⟨Ao29, co29, eo29⟩ := Kd.R_slice HO747.out; subst eo29) | ((with_reducible refine gate_callee (f := 69) rfl ?_); refine gL (some 39) Try.func69 #[.slice Ao29 y745.length co29] ?_; (with_reducible refine (wide_Dot.calls k1 _ _ y745 t748 t749 t750 _ ?side1 ?side2 A15.out).mono ?_); (case side1 => exact sR HO747); (case side2 => exact (Kd.R_reads' HO747.out).2.1); rintro e w30 ⟨rfl, hb⟩; refine ⟨_, rfl, ?_⟩; replace HO747 := kR HO747 hb; replace BK738 := kB BK738 hb; replace BK739 := kB BK739 hb; replace BK742 := kB BK742 hb; replace BK744 := kB BK744 hb; replace HB := kH HB hb; (try clear hb); (try clear hb2); (try clear hk); (try clear hi)) | ((with_reducible refine gate_dst (N := 7) rfl ?_); refine bE 7 #[.int .i64 0, .int .u64 0] 50 ?_; intro gb751 hg w31 hbox hb; replace HO747 := kR HO747 hb; have BK751 := AM hbox; have GW751 := kG HB hg; replace HB := kH HB hb; have GE751 := GW751; have NB738_751 := kN BK738 hg; have NB751_738 := kM BK738 hg; replace BK738 := kB BK738 hb; have NB739_751 := kN BK739 hg; have NB751_739 := kM BK739 hg; replace BK739 := kB BK739 hb; have NB742_751 := kN BK742 hg; have NB751_742 := kM BK742 hg; replace BK742 := kB BK742 hb; have NB744_751 := kN BK744 hg; have NB751_744 := kM BK744 hg; replace BK744 := kB BK744 hb; clear hb hbox hg; have hnb32 := NB751_738.out; have hnc32 := NB738_751.out; have hnb33 := NB751_739.out; have hnc33 := NB739_751.out; have hnb34 := NB751_742.out; have hnc34 := NB742_751.out; have hnb35 := NB751_744.out; have hnc35 := NB744_751.out; obtain ⟨hcz36_0, hcz36_1, hfz36_0, hfz36_1⟩ := c2 BK751; have hnb37 := NB739_738.out; have hnc37 := NB738_739.out; obtain ⟨hcz38_0, hcz38_1, hfz38_0, hfz38_1⟩ := c2 BK739) | ((with_reducible refine gate_dst (N := 44) rfl ?_); refine Kd.R_lit k50 _ 50 ?hg (N := 44) ?hd (xs := ([(⟨t748, t749⟩ : S50)] : List (S50))) (inner := [.int .i64 t748, .int .u64 t749]) (ok := fun _ => True) (okp := fun _ => True) ?hr ?hp (fun _ hk => hk) trivial (Below.refl _ _) (Nat.le_refl _) (by simp) ?_; (case hd => rfl); (case hg => rfl); (case hr => first | (go_simp; done) | (go_simp; rfl)); (case hp => exact (Reps.c2 (show Kd.M k50 _ _ _ (⟨t748, t749⟩ : S50) [.int .i64 t748, .int .u64 t749] from (k50_mkM _ _ _ (⟨t748, t749⟩ : S50) )) (Reps.none _ _))); intro v753 w39 ho40 hb hg_ hnew_; clear hg_ hnew_; (first | rw [← Ny752.out] at ho40 | (simp only [Int.reduceToNat] at ho40; rw [← Ny752.out] at ho40)); replace HO747 := AM (Kd.R_below (by (with_reducible repeat (first | apply Kd.R_alloc | apply Kd.R_drewN | apply Kd.R_drew)); exact (Kd.R_mono (Kd.R_far (p := ⟨gb751, 1, none⟩) (Kd.R_far (p := ⟨gb751, 0, none⟩) (Kd.R_types HO747.out BK751.out (by decide)) (fun _ hk => hk.2) (.int .i64 t748)) (fun _ hk => hk.2) (.int .u64 t749)) (fun _ h_ => h_.1))) hb); have HO754 := AM (Kd.R_lower (Kd.R_newB (Kd.R_newB (Kd.R_newB ho40 (g := gb738) (o := .cells #[.int .i64 0, .int .u64 0] 50 (0, 0)) (bK BK738)) (g := gb739) (o := .cells #[.int .i64 x740000_1, .int .u64 x740001_1] 50 (0, 0)) (bK BK739)) (g := gb751) (o := .cells #[.int .i64 t748, .int .u64 t749] 50 (0, 0)) (by (with_reducible repeat (first | refine blk_drewN ?_ _ | refine blk_drew ?_ | refine blk_alloc ?_ _)); refine blk_put (cs := #[.int .i64 t748, .int .u64 0]) ?_ 1 _ rfl; (with_reducible repeat (first | refine blk_drewN ?_ _ | refine blk_drew ?_ | refine blk_alloc ?_ _)); refine blk_put (cs := #[.int .i64 0, .int .u64 0]) ?_ 0 _ rfl; (with_reducible repeat (first | refine blk_drewN ?_ _ | refine blk_drew ?_ | refine blk_alloc ?_ _)); exact BK751.out)) (below_size (bH HB))); replace BK738 := kB BK738 hb; replace BK739 := kB BK739 hb; replace BK742 := kB BK742 hb; replace BK744 := kB BK744 hb; replace BK751 := AM (blk_below (g := gb751) (o := .cells #[.int .i64 t748, .int .u64 t749] 50 (0, 0)) (by (with_reducible repeat (first | refine blk_drewN ?_ _ | refine blk_drew ?_ | refine blk_alloc ?_ _)); refine blk_put (cs := #[.int .i64 t748, .int .u64 0]) ?_ 1 _ rfl; (with_reducible repeat (first | refine blk_drewN ?_ _ | refine blk_drew ?_ | refine blk_alloc ?_ _)); refine blk_put (cs := #[.int .i64 0, .int .u64 0]) ?_ 0 _ rfl; (with_reducible repeat (first | refine blk_drewN ?_ _ | refine blk_drew ?_ | refine blk_alloc ?_ _)); exact BK751.out) hb); replace HB := kH HB hb; clear hb ho40; obtain ⟨Ao41, co41, eo41⟩ := Kd.R_slice HO754.out; subst eo41) | ((with_reducible refine gate_callee (f := 25) rfl ?_); refine gL (some 45) Try.func25 #[.agg #[.int .i64 x740000_1, .int .u64 x740001_1], .slice Ao41 y752.length co41] ?_; (with_reducible refine (wide_Add.calls k1 x740000_1 x740001_1 _ _ y752 t755 t756 _ ?side1 ?side2 A16.out).mono ?_); (case side1 => exact sR HO754); (case side2 => exact (Kd.R_reads' HO754.out).2.1); rintro e w42 ⟨rfl, hb⟩; refine ⟨_, rfl, ?_⟩; replace HO747 := kR HO747 hb; replace HO754 := kR HO754 hb; replace BK738 := kB BK738 hb; replace BK739 := kB BK739 hb; replace BK742 := kB BK742 hb; replace BK744 := kB BK744 hb; replace BK751 := kB BK751 hb; replace HB := kH HB hb; (try clear hb); (try clear hb2); (try clear hk); (try clear hi); obtain ⟨hcz43_0, hcz43_1, hfz43_0, hfz43_1⟩ := c2 BK739))
          go_roundg k1
          case measure => have := HK1.out; omega
          case rel => exact ⟨(wrap64 (x15_1 + 1)), (t755), (t756), rS, H', ⟨by have := HK1.out; omega⟩, ⟨bK BK738⟩, ⟨by (with_reducible repeat (first | refine blk_drewN ?_ _ | refine blk_drew ?_ | refine blk_alloc ?_ _)); refine blk_put (cs := #[.int .i64 t755, .int .u64 x740001_1]) ?_ 1 _ rfl; (with_reducible repeat (first | refine blk_drewN ?_ _ | refine blk_drew ?_ | refine blk_alloc ?_ _)); refine blk_put (cs := #[.int .i64 x740000_1, .int .u64 x740001_1]) ?_ 0 _ rfl; (with_reducible repeat (first | refine blk_drewN ?_ _ | refine blk_drew ?_ | refine blk_alloc ?_ _)); exact BK739.out⟩, ⟨ bH HB⟩⟩
         ·rw [if_neg c14] at H
          exact absurd H (by simp)
        ·rw [if_neg c13] at H
         exact absurd H (by simp)
      ·rw [if_neg c10] at H
       exact absurd H (by simp)
     ·rw [if_neg c9] at H
      exact absurd H (by simp)
    ·rw [if_neg c8] at H
     have c8b0 := decide_eq_false c8; clear c8
     (first | rw [c8b0] | (simp only [i64_w, i32_w]; rw [c8b0]) | skip)
     simp only [Option.some.injEq, Prod.mk.injEq] at H
     obtain ⟨rfl, rfl⟩ := H
     have hnb44 := NB739_738.out; have hnc44 := NB738_739.out; obtain ⟨hcz45_0, hcz45_1, hfz45_0, hfz45_1⟩ := c2 BK739; obtain ⟨hcz46_0, hcz46_1, hfz46_0, hfz46_1⟩ := c2 BK738
     go_wp2
     refine bodyPost_ret (results_cell_row rfl _ _ gb738 50 #[.int .i64 x740000_1, .int .u64 x740001_1] (0, 0) _ rfl (by (with_reducible repeat (first | refine blk_drewN ?_ _ | refine blk_drew ?_ | refine blk_alloc ?_ _)); refine blk_put (cs := #[.int .i64 x740000_1, .int .u64 0]) ?_ 1 _ rfl; (with_reducible repeat (first | refine blk_drewN ?_ _ | refine blk_drew ?_ | refine blk_alloc ?_ _)); refine blk_put (cs := #[.int .i64 0, .int .u64 0]) ?_ 0 _ rfl; (with_reducible repeat (first | refine blk_drewN ?_ _ | refine blk_drew ?_ | refine blk_alloc ?_ _)); exact BK738.out) Try.underlying50 rfl (by kernel_rfl)) rfl ?_
     exact ⟨rE, bH HB⟩
 ·replace c7 := Bool.eq_false_iff.mpr c7
  subst c7
  have H1 : (some (0, 0)) = some (r1, r2) := by rw [if_neg (show ¬ (false = true) by decide)] at H; exact H
  clear H; have H := H1; clear H1
  simp only [Option.some.injEq, Prod.mk.injEq] at H
  obtain ⟨rfl, rfl⟩ := H
  have hnb47 := NB739_738.out; have hnc47 := NB738_739.out; obtain ⟨hcz48_0, hcz48_1, hfz48_0, hfz48_1⟩ := c2 BK739; obtain ⟨hcz49_0, hcz49_1, hfz49_0, hfz49_1⟩ := c2 BK738
  go_wp2
  refine bodyPost_ret (results_cell_row rfl _ _ gb738 50 #[.int .i64 0, .int .u64 0] (0, 0) _ rfl (by (with_reducible repeat (first | refine blk_drewN ?_ _ | refine blk_drew ?_ | refine blk_alloc ?_ _)); refine blk_put (cs := #[.int .i64 0, .int .u64 0]) ?_ 1 _ rfl; (with_reducible repeat (first | refine blk_drewN ?_ _ | refine blk_drew ?_ | refine blk_alloc ?_ _)); refine blk_put (cs := #[.int .i64 0, .int .u64 0]) ?_ 0 _ rfl; (with_reducible repeat (first | refine blk_drewN ?_ _ | refine blk_drew ?_ | refine blk_alloc ?_ _)); exact BK738.out) Try.underlying50 rfl (by kernel_rfl)) rfl ?_
  exact ⟨rE, bH HB⟩
end Go.Proofs.Ytbonkedecfjmdaa.P

namespace Go.Proofs.Ytbonkedecfjmdaa.G
set_option linter.unusedVariables false
set_option linter.unusedSimpArgs false
open Go.RowKit Go.Proofs.Ytbonkedecfjmdaa.P Go.Proofs.Ytbonkedecfjmdaa.X Go.Proofs.Ytbonkedecfjmdaa.WL Go.Proofs.YtbonkedecfjmdaaW.PrintWords Go.Proofs.YtbonkedecfjmdaaW.PrintLast Go.Proofs.YtbonkedecfjmdaaW.PrintMore
def rot1 {α : Type} : List α → List α
 | [] => []
 | a :: t => t ++ [a]
def edg {α : Type} (l : List α) : List (α × α) := List.zip l (rot1 l)
section
variable {α : Type}
theorem rot1_len (l : List α) : (rot1 l).length = l.length := by cases l <;> simp [rot1]
theorem edg_len (l : List α) : (edg l).length = l.length := by simp [edg, rot1_len]
theorem rot1_perm (l : List α) : (rot1 l).Perm l := by
 cases l with
 | nil => exact List.Perm.refl _
 | cons a t => exact List.perm_append_comm (l₁ := t) (l₂ := [a])
theorem edg_rot1 (l : List α) : edg (rot1 l) = rot1 (edg l) := by
 unfold edg
 cases l with
 | nil => rfl
 | cons a t =>
  have hl : (rot1 (a :: t)).length = (a :: t).length := rot1_len _
  have hm : rot1 (a :: t) = t ++ [a] := rfl
  generalize rot1 (a :: t) = m at *
  cases m with
  | nil => simp at hl
  | cons b u =>
   simp only [List.zip_cons_cons, rot1]
   rw [hm, List.zip_append (by simpa using hl.symm)]
   rfl
theorem turned_step (l : List α) (k : Nat) (hk : k < l.length) : l.drop (k + 1) ++ l.take (k + 1) = rot1 (l.drop k ++ l.take k) := by
 rw [List.drop_eq_getElem_cons hk, List.cons_append]
 simp only [rot1]
 rw [List.append_assoc, ← List.take_succ_eq_append_getElem hk]
theorem edg_turned (l : List α) : ∀ k, k ≤ l.length → (edg (l.drop k ++ l.take k)).Perm (edg l)
 | 0, _ => by simp
 | k + 1, h => by
  rw [turned_step l k (by omega), edg_rot1]
  exact (rot1_perm _).trans (edg_turned l k (by omega))
theorem zip_rev : ∀ (u v : List α), u.length = v.length → (List.zip u v).reverse = List.zip u.reverse v.reverse
 | [], [], _ => rfl
 | a :: u, b :: v, h => by
  have h' : u.length = v.length := by simpa using h
  rw [List.zip_cons_cons, List.reverse_cons, List.reverse_cons, List.reverse_cons, zip_rev u v h', List.zip_append (by simpa using h')]
  rfl
 | [], _ :: _, h => by simp at h
 | _ :: _, [], h => by simp at h
theorem zip_swap : ∀ (u v : List α), List.zip u v = (List.zip v u).map fun e => (e.2, e.1)
 | [], [] => rfl
 | a :: u, b :: v => by simp [zip_swap u v]
 | [], _ :: _ => by simp
 | _ :: _, [] => by simp
theorem edg_rev (l : List α) : (edg l.reverse).Perm ((edg l).map fun e => (e.2, e.1)) := by
 obtain ⟨r, rfl⟩ : ∃ r, l = r.reverse := ⟨l.reverse, by simp⟩
 rw [List.reverse_reverse]
 cases r with
 | nil => exact List.Perm.refl _
 | cons a t =>
  have e1 : (edg (a :: t)).reverse = (edg (a :: t.reverse)).map fun e => (e.2, e.1) := by
   unfold edg
   rw [zip_rev _ _ (rot1_len _).symm, zip_swap]
   congr 1
   simp [rot1]
  have e2 : edg (a :: t).reverse = rot1 (edg (a :: t.reverse)) := by
   rw [← edg_rot1]; congr 1; simp [rot1]
  rw [e2]
  refine (List.reverse_perm _).symm.trans ?_
  rw [e1]
  exact (rot1_perm _).symm.map _
theorem edg_get (l : List α) (i : Nat) (h : i < l.length) : (edg l)[i]'(by rw [edg_len]; exact h) = (l[i], l[(i + 1) % l.length]'(Nat.mod_lt _ (by omega))) := by
 unfold edg
 rw [List.getElem_zip]
 congr 1
 cases l with
 | nil => simp at h
 | cons a t =>
  simp only [rot1]
  by_cases hi : i < t.length
  ·rw [List.getElem_append_left hi]
   have e : (i + 1) % (a :: t).length = i + 1 := Nat.mod_eq_of_lt (by simp; omega)
   simp only [e]
   rfl
  ·have hi' : i = t.length := by simp at h; omega
   subst hi'
   rw [List.getElem_append_right (Nat.le_refl _)]
   have e : (t.length + 1) % (a :: t).length = 0 := by simp
   simp only [e, Nat.sub_self]
   rfl
theorem perm_sum {β : Type} {u v : List β} (f : β → Int) (h : u.Perm v) : (u.map f).sum = (v.map f).sum := by
 induction h with
 | nil => rfl
 | cons x _ ih => simp [ih]
 | swap x y l => simp only [List.map_cons, List.sum_cons]; omega
 | trans _ _ h1 h2 => exact h1.trans h2
end
def E (e : Pt × Pt) : Int := e.1.f0 * e.2.f1 - e.1.f1 * e.2.f0
def areaS (l : List Pt) : Int := ((edg l).map E).sum
theorem areaS_turned (l : List Pt) (k : Nat) (h : k ≤ l.length) : areaS (l.drop k ++ l.take k) = areaS l := perm_sum E (edg_turned l k h)
theorem areaS_rev (l : List Pt) : areaS l.reverse = -areaS l := by
 unfold areaS
 rw [perm_sum E (edg_rev l), List.map_map]
 generalize edg l = m
 induction m with
 | nil => rfl
 | cons e m ih =>
  simp only [List.map_cons, List.sum_cons, ih, Function.comp]
  have : E (e.2, e.1) = -E e := by unfold E; grind
  rw [this]; omega
theorem all_get {l : List Pt} (h : l.all rt = true) (i : Nat) (hi : i < l.length) : rt l[i] = true := List.all_eq_true.1 h _ (List.getElem_mem hi)
theorem gArea_l0 (l : List Pt) (hl : l.length < 4000000000000000000) (hr : l.all rt = true) : ∀ (n i : Nat) (x : Int), i + n = l.length →
  Ev (fun k => geom_Area.l0 k l l (l.length : Int) (i : Int) (hiw x) (low x)) (hiw (x + (((edg l).drop i).map E).sum), low (x + (((edg l).drop i).map E).sum)) := by
 intro n
 induction n with
 | zero =>
  intro i x hi
  rw [List.drop_of_length_le (by rw [edg_len]; omega)]
  simp only [List.map_nil, List.sum_nil, Int.add_zero]
  exact Ev.step (f := fun _ => some (hiw x, low x)) (fun k => by simp only [geom_Area.l0]; rw [if_neg (by omega)]) (Ev.now _)
 | succ n ih =>
  intro i x hi
  have hA : i < l.length := by omega
  have hM : (i + 1) % l.length < l.length := Nat.mod_lt _ (by omega)
  have hE : i < (edg l).length := by rw [edg_len]; exact hA
  have q1 : (i : Int) < (l.length : Int) := by omega
  have wm : Int.tmod (wrap64 ((i : Int) + 1)) (l.length : Int) = (((i + 1) % l.length : Nat) : Int) := by
   rw [w64_succ i (by omega), Int.tmod_eq_emod_of_nonneg (by omega), Int.natCast_emod]
  obtain ⟨_, p1, p2, p3, p4⟩ := rt_iff.1 (all_get hr i hA)
  obtain ⟨_, r1, r2, r3, r4⟩ := rt_iff.1 (all_get hr _ hM)
  have D := wDot_ev (l := [l[i].f0, l[(i + 1) % l.length].f1, -l[i].f1, l[(i + 1) % l.length].f0]) (by simp) (by
   intro x hx
   simp only [List.mem_cons, List.not_mem_nil, or_false] at hx
   rcases hx with rfl | rfl | rfl | rfl <;> omega) (by simp)
  have eD : dotS [l[i].f0, l[(i + 1) % l.length].f1, -l[i].f1, l[(i + 1) % l.length].f0] = E (edg l)[i] := by
   rw [edg_get l i hA]; simp only [dotS, E]; rw [Int.neg_mul]; omega
  rw [eD] at D
  have wn : wrap64 (-l[i].f1) = -l[i].f1 := w64_id (by omega) (by omega)
  refine Ev.step (f := fun k => (wide_Dot.f k (([l[i].f0, l[(i + 1) % l.length].f1, -l[i].f1, l[(i + 1) % l.length].f0] : List Int))).bind fun bt290 => ((wide_Add.f k (hiw x) (low x) (([(⟨bt290.1, bt290.2.1⟩ : S50)] : List (S50)))).bind fun bt297 => (geom_Area.l0 k l l (l.length : Int) ((i + 1 : Nat) : Int) bt297.1 bt297.2))) (fun k => ?_) ?_
  ·simp only [geom_Area.l0]
   rw [wm, if_pos q1, if_pos (by omega), if_pos q1, if_neg (by omega), if_pos (by omega), if_pos (by omega), rdp l i hA, rdp l _ hM, wn, w64_succ i (by omega)]
  ·refine Ev.bind D ?_
   refine Ev.bind (wAdd_ev x _) ?_
   have := ih (i + 1) (x + E (edg l)[i]) (by omega)
   rw [List.drop_eq_getElem_cons hE, List.map_cons, List.sum_cons, ← Int.add_assoc]
   exact this
theorem gArea_ev (l : List Pt) (hl : l.length < 4000000000000000000) : Ev (fun k => geom_Area.f k l) (if l.all rt then (hiw (areaS l), low (areaS l)) else (0, 0)) := by
 unfold geom_Area.f
 refine Ev.bind (gRight_ev l (by omega)) ?_
 by_cases h : l.all rt = true
 ·simp only [if_pos h]
  have := gArea_l0 l hl h l.length 0 0 (by omega)
  rw [List.drop_zero, Int.zero_add] at this
  exact this
 ·simp only [if_neg h]; exact Ev.now _
def areaV (l : List Pt) : Int := if l.all rt then areaS l else 0
theorem gArea_val (l : List Pt) (hl : l.length < 4000000000000000000) : Ev (fun k => geom_Area.f k l) (hiw (areaV l), low (areaV l)) := by
 have := gArea_ev l hl
 unfold areaV
 split at this
 ·rename_i h; rw [if_pos h]; exact this
 ·rename_i h; rw [if_neg h]; exact this
theorem areaV_turned (l : List Pt) (k : Nat) (h : k ≤ l.length) : areaV (l.drop k ++ l.take k) = areaV l := by
 unfold areaV
 rw [areaS_turned l k h, List.all_append, Bool.and_comm, ← List.all_append, List.take_append_drop]
theorem areaV_rev (l : List Pt) : areaV l.reverse = -areaV l := by
 unfold areaV
 rw [areaS_rev, List.all_reverse]
 split <;> rfl
end Go.Proofs.Ytbonkedecfjmdaa.G

namespace Go.Proofs.Ytbonkedecfjmdaa.G
set_option linter.unusedVariables false
set_option linter.unusedSimpArgs false
open Go.RowKit Go.Proofs.Ytbonkedecfjmdaa.P Go.Proofs.Ytbonkedecfjmdaa.X Go.Proofs.Ytbonkedecfjmdaa.WL Go.Proofs.YtbonkedecfjmdaaW.PrintWords Go.Proofs.YtbonkedecfjmdaaW.PrintLast Go.Proofs.YtbonkedecfjmdaaW.PrintMore
theorem gOn_ev (p a b : Pt) : Ev (fun _ => geom_On.f p.f0 p.f1 p.f2 a.f0 a.f1 a.f2 b.f0 b.f1 b.f2) (onB p a b) := Ev.now _
theorem cross_swapG (a b c : Pt) : cross b a c = -cross a b c := cross_swap a b c
theorem side_swapG (a b c : Pt) : side b a c = -side a b c := by
 unfold side; rw [cross_swap]; unfold cmp3; split <;> split <;> first | rfl | omega | (split <;> first | rfl | omega | (split <;> first | rfl | omega))
def cr (p : Pt) (e : Pt × Pt) : Bool := decide (e.1.f1 ≤ p.f1 ∧ p.f1 < e.2.f1 ∧ side e.1 e.2 p > 0) || decide (e.2.f1 ≤ p.f1 ∧ p.f1 < e.1.f1 ∧ side e.1 e.2 p < 0)
def onE (p : Pt) (e : Pt × Pt) : Bool := onB p e.1 e.2
theorem cr_swap (p : Pt) (e : Pt × Pt) : cr p (e.2, e.1) = cr p e := by
 unfold cr
 have := side_swapG e.1 e.2 p
 rw [Bool.eq_iff_iff]
 simp only [Bool.or_eq_true, decide_eq_true_eq, this]
 omega
theorem onE_swap (p : Pt) (e : Pt × Pt) : onE p (e.2, e.1) = onE p e := onB_swap p e.2 e.1
def tell (p : Pt) (l : List (Pt × Pt)) (s : Int) : Int := if l.any (onE p) then 0 else if (l.countP (cr p)) % 2 = 1 then -s else s
def inV (p : Pt) (l : List Pt) : Int := if rt p && l.all rt then tell p (edg l) (-1) else 0
theorem tell_nil (p : Pt) (s : Int) : tell p [] s = s := by simp [tell]
theorem tell_on {p : Pt} {e : Pt × Pt} {l : List (Pt × Pt)} {s : Int} (h : onE p e = true) : tell p (e :: l) s = 0 := by simp [tell, h]
theorem tell_cr {p : Pt} {e : Pt × Pt} {l : List (Pt × Pt)} {s : Int} (h : onE p e = false) (hc : cr p e = true) : tell p (e :: l) s = tell p l (-s) := by
 unfold tell
 rw [List.any_cons, h, Bool.false_or, List.countP_cons_of_pos hc]
 by_cases ha : l.any (onE p) = true
 ·rw [if_pos ha, if_pos ha]
 ·rw [if_neg ha, if_neg ha]
  by_cases hm : l.countP (cr p) % 2 = 1
  ·rw [if_neg (by omega), if_pos hm]; omega
  ·rw [if_pos (by omega), if_neg hm]
theorem tell_no {p : Pt} {e : Pt × Pt} {l : List (Pt × Pt)} {s : Int} (h : onE p e = false) (hc : cr p e = false) : tell p (e :: l) s = tell p l s := by
 unfold tell
 rw [List.any_cons, h, Bool.false_or, List.countP_cons_of_neg (by simp [hc])]
theorem any_perm {α : Type} {u v : List α} (f : α → Bool) (h : u.Perm v) : u.any f = v.any f := by
 rw [Bool.eq_iff_iff, List.any_eq_true, List.any_eq_true]
 constructor
 ·rintro ⟨x, hx, hf⟩; exact ⟨x, h.mem_iff.1 hx, hf⟩
 ·rintro ⟨x, hx, hf⟩; exact ⟨x, h.mem_iff.2 hx, hf⟩
theorem tell_perm {p : Pt} {u v : List (Pt × Pt)} (h : u.Perm v) (s : Int) : tell p u s = tell p v s := by
 unfold tell
 rw [any_perm _ h, h.countP_eq]
theorem tell_swap (p : Pt) (l : List (Pt × Pt)) (s : Int) : tell p (l.map fun e => (e.2, e.1)) s = tell p l s := by
 unfold tell
 rw [List.any_map, List.countP_map]
 have h1 : (onE p ∘ fun e : Pt × Pt => (e.2, e.1)) = onE p := funext fun e => onE_swap p e
 have h2 : (cr p ∘ fun e : Pt × Pt => (e.2, e.1)) = cr p := funext fun e => cr_swap p e
 rw [h1, h2]
theorem inV_turned (p : Pt) (l : List Pt) (k : Nat) (h : k ≤ l.length) : inV p (l.drop k ++ l.take k) = inV p l := by
 unfold inV
 rw [tell_perm (edg_turned l k h), List.all_append, Bool.and_comm (List.all (List.drop k l) rt), ← List.all_append, List.take_append_drop]
theorem inV_rev (p : Pt) (l : List Pt) : inV p l.reverse = inV p l := by
 unfold inV
 rw [tell_perm (edg_rev l), tell_swap, List.all_reverse]
theorem gIn_l0 (p : Pt) (hp : rt p = true) (l : List Pt) (hl : l.length < 4000000000000000000) (hr : l.all rt = true) : ∀ (n i : Nat) (s : Int), i + n = l.length → (s = 1 ∨ s = -1) →
  Ev (fun k => geom_In.l0 k l s l (l.length : Int) (i : Int) p.f0 p.f1 p.f2) (tell p ((edg l).drop i) s) := by
 intro n
 induction n with
 | zero =>
  intro i s hi hs
  rw [List.drop_of_length_le (by rw [edg_len]; omega), tell_nil]
  exact Ev.step (f := fun _ => some s) (fun k => by simp only [geom_In.l0]; rw [if_neg (by omega)]) (Ev.now _)
 | succ n ih =>
  intro i s hi hs
  have hA : i < l.length := by omega
  have hM : (i + 1) % l.length < l.length := Nat.mod_lt _ (by omega)
  have hE : i < (edg l).length := by rw [edg_len]; exact hA
  have q1 : (i : Int) < (l.length : Int) := by omega
  have wm : Int.tmod (wrap64 ((i : Int) + 1)) (l.length : Int) = (((i + 1) % l.length : Nat) : Int) := by
   rw [w64_succ i (by omega), Int.tmod_eq_emod_of_nonneg (by omega), Int.natCast_emod]
  rw [List.drop_eq_getElem_cons hE, edg_get l i hA]
  have ra := all_get hr i hA
  have rb := all_get hr _ hM
  have hrd1 : rd_T27 l (i : Int) = l[i] := rdp l i hA
  have hrd2 : rd_T27 l (((i + 1) % l.length : Nat) : Int) = l[(i + 1) % l.length] := rdp l _ hM
  generalize l[i] = a at *
  generalize l[(i + 1) % l.length] = b at *
  have I1 := ih (i + 1) s (by omega) hs
  have I2 := ih (i + 1) (-s) (by omega) (by omega)
  have wn : wrap64 (-s) = -s := w64_id (by omega) (by omega)
  have ws : wrap64 ((i : Int) + 1) = ((i + 1 : Nat) : Int) := w64_succ i (by omega)
  refine Ev.step (f := fun k => (geom_On.f p.f0 p.f1 p.f2 a.f0 a.f1 a.f2 b.f0 b.f1 b.f2).bind fun t540 => (if t540 = true then (some 0) else (if ((decide (a.f1 > p.f1)) == (decide (b.f1 > p.f1))) = true then (geom_In.l0 k l s l (l.length : Int) ((i + 1 : Nat) : Int) p.f0 p.f1 p.f2) else (if b.f1 < a.f1 then ((geom_turn.f k b.f0 b.f1 b.f2 a.f0 a.f1 a.f2 p.f0 p.f1 p.f2).bind fun t541 => (if t541 > 0 then (geom_In.l0 k l (-s) l (l.length : Int) ((i + 1 : Nat) : Int) p.f0 p.f1 p.f2) else (geom_In.l0 k l s l (l.length : Int) ((i + 1 : Nat) : Int) p.f0 p.f1 p.f2))) else ((geom_turn.f k a.f0 a.f1 a.f2 b.f0 b.f1 b.f2 p.f0 p.f1 p.f2).bind fun t542 => (if t542 > 0 then (geom_In.l0 k l (-s) l (l.length : Int) ((i + 1 : Nat) : Int) p.f0 p.f1 p.f2) else (geom_In.l0 k l s l (l.length : Int) ((i + 1 : Nat) : Int) p.f0 p.f1 p.f2))))))) (fun k => ?_) ?_
  ·simp only [geom_In.l0]
   rw [wm, if_pos q1, if_pos (by omega), if_pos q1, if_neg (by omega), if_pos (by omega), if_pos (by omega), hrd1, hrd2, wn, ws]
  ·refine Ev.bind (gOn_ev p a b) ?_
   by_cases ho : onB p a b = true
   ·simp only [if_pos ho]
    rw [tell_on (show onE p (a, b) = true from ho)]
    exact Ev.now _
   ·simp only [if_neg ho]
    have ho' : onE p (a, b) = false := Bool.eq_false_iff.2 ho
    by_cases he : (decide (a.f1 > p.f1) == decide (b.f1 > p.f1)) = true
    ·simp only [if_pos he]
     rw [beq_iff_eq, decide_eq_decide] at he
     rw [tell_no ho' (by unfold cr; simp only [Bool.or_eq_false_iff, decide_eq_false_iff_not]; omega)]
     exact I1
    ·simp only [if_neg he]
     rw [beq_iff_eq, decide_eq_decide] at he
     by_cases hb : b.f1 < a.f1
     ·simp only [if_pos hb]
      refine Ev.bind (gturn_ev rb ra hp) ?_
      have hs' := side_swapG a b p
      by_cases ht : side b a p > 0
      ·simp only [if_pos ht]
       rw [tell_cr ho' (by unfold cr; simp only [Bool.or_eq_true, decide_eq_true_eq]; omega)]
       exact I2
      ·simp only [if_neg ht]
       rw [tell_no ho' (by unfold cr; simp only [Bool.or_eq_false_iff, decide_eq_false_iff_not]; omega)]
       exact I1
     ·simp only [if_neg hb]
      refine Ev.bind (gturn_ev ra rb hp) ?_
      by_cases ht : side a b p > 0
      ·simp only [if_pos ht]
       rw [tell_cr ho' (by unfold cr; simp only [Bool.or_eq_true, decide_eq_true_eq]; omega)]
       exact I2
      ·simp only [if_neg ht]
       rw [tell_no ho' (by unfold cr; simp only [Bool.or_eq_false_iff, decide_eq_false_iff_not]; omega)]
       exact I1
theorem gIn_ev (p : Pt) (l : List Pt) (hl : l.length < 4000000000000000000) : Ev (fun k => geom_In.f k p.f0 p.f1 p.f2 l) (inV p l) := by
 unfold geom_In.f
 refine Ev.bind (gRight_ev [p] (by simp)) ?_
 simp only [List.all_cons, List.all_nil, Bool.and_true]
 have jt : Ev (fun k => geom_In.j0 k l true p.f0 p.f1 p.f2) 0 := Ev.step (f := fun _ => some 0) (fun k => by simp only [geom_In.j0, if_true]) (Ev.now _)
 unfold inV
 by_cases h : rt p = true
 ·simp only [if_pos h, h, Bool.true_and]
  refine Ev.bind (gRight_ev l (by omega)) ?_
  by_cases h2 : l.all rt = true
  ·simp only [h2, Bool.not_true, if_true]
   have := gIn_l0 p h l hl h2 l.length 0 (-1) (by omega) (.inr rfl)
   rw [List.drop_zero] at this
   refine Ev.step (fun k => ?_) this
   simp only [geom_In.j0, Bool.false_eq_true, if_false]; rfl
  ·simp only [h2, Bool.not_false, Bool.false_eq_true, if_false]; exact jt
 ·simp only [if_neg h, h, Bool.false_and, Bool.false_eq_true, if_false]; exact jt
end Go.Proofs.Ytbonkedecfjmdaa.G

namespace Go.Proofs.Ytbonkedecfjmdaa.P
open Go.RowKit Go.Proofs.YtbonkedecfjmdaaW.PrintWords Go.Proofs.YtbonkedecfjmdaaW.PrintLast Go.Proofs.YtbonkedecfjmdaaW.PrintMore Go.Proofs.Ytbonkedecfjmdaa.X
attribute [local go_sem] max2_int min2_int max_two min_two max_three min_three max_four min_four add64_0 add64_1 add64
set_option linter.unusedVariables false
set_option linter.unusedSimpArgs false
def api_Point_72.f (l0 : List (S27)) : Option ((List (S27))) := if l0.length < 5864062014805 then (some l0) else (none)
theorem api_Point_72.eqnil (w : World) (A : Option Addr) (n c : Nat) : (binOp .eql 31 (.slice A n c) (.slice none 0 0)).run Try.prog w = .ok (.bool A.isNone) w := run_eql_slice_nil w 31 27 A n c Try.underlying31
attribute [local go_sem] api_Point_72.eqnil
set_option maxHeartbeats 8000000 in
set_option maxRecDepth 100000 in
theorem api_Point_72.calls (A0 : Option Addr) (c0 : Nat) (l0 : List (S27)) (r : List (S27)) (w : World) (hr0 : Kd.C k27 w A0 l0.length l0) (hc0 : l0.length ≤ c0) (h : api_Point_72.f l0 = some r) :
  Calls Try.prog 72 #[.slice A0 l0.length c0] w fun e w' => ∃ v0_ : Value, e = .returned (v0_) ∧ Kd.R k27 27 w' w.heap.size (fun _ => True) v0_ r ∧ Below w.heap.size w w' := by
 unfold api_Point_72.f at h
 by_cases hl : l0.length < 5864062014805
 ·rw [if_pos hl] at h
  obtain rfl := Option.some.inj h
  cases A0 with
  | none =>
   have hl0 : l0 = [] := by
    cases l0 with
    | nil => rfl
    | cons x l =>
     obtain ⟨ad, e, _⟩ := hr0.2.2 (by simp)
     cases e
   subst hl0
   go_enter Try.func72, Try.ntmps72
   go_wp2
   go_ret
   exact ⟨_, by first | rfl | (simp; done) | (simp <;> rfl), Kd.R_nil _ _ _ _ _, Below.refl _ _⟩
  | some ad =>
   go_enter Try.func72, Try.ntmps72
   go_wp2_with (first | ((with_reducible refine gate_dst (N := 5) rfl ?_); refine Kd.R_lit k27 (w0 := w) w.heap.size 27 ?hg (N := 5) ?hd (xs := ([] : List (S27))) (inner := []) (ok := fun _ => True) (okp := fun _ => True) ?hr ?hp (fun _ hk => hk) trivial (Below.refl _ _) (Nat.le_refl _) (by simp) ?_; (case hd => rfl); (case hg => rfl); (case hr => first | (go_simp; done) | (go_simp; rfl)); (case hp => exact (Reps.none _ _)); intro v1 w1 ho1 hb1 hg_ hnew_; clear hg_ hnew_) | ((with_reducible refine gate_builtin (b := .append) (xs := #[.tmp 5, .tmp 6]) rfl ?_); at_builtin; refine Kd.R_append_rows k27 (w0 := w) w.heap.size rfl (.tmp 5) (.tmp 6) 31 27 ((.agg #[(.int .i64 0), (.int .i64 0), (.int .i64 0)])) 24 rfl Try.underlying31 info27 rfl (by decide) (by omega) v1 [] l0 _ _ _ (fun _ => True) (fun _ => False) rfl rfl ?aO ?aR (fun _ _ h => h) (fun _ h => h.elim) ?aF ?aB ?aS ?aL ?_; (case aR => exact Kd.C_below hr0 hb1); (case aB => exact hb1); (case aF => exact (fun _ _ => trivial)); (case aO => exact ho1); (case aS => exact below_size hb1); (case aL => simp only [List.length_nil]; omega); intro v2 w2 ho2 hb2 hg2 hat2))
   go_ret
   exact ⟨_, by first | rfl | (simp; done) | (simp <;> rfl), ho2, hb2⟩
 ·rw [if_neg hl] at h; cases h
end Go.Proofs.Ytbonkedecfjmdaa.P

namespace Go.Proofs.Ytbonkedecfjmdaa.P
open Go.RowKit Go.Proofs.YtbonkedecfjmdaaW.PrintWords Go.Proofs.YtbonkedecfjmdaaW.PrintLast Go.Proofs.YtbonkedecfjmdaaW.PrintMore Go.Proofs.Ytbonkedecfjmdaa.X
attribute [local go_sem] max2_int min2_int max_two min_two max_three min_three max_four min_four add64_0 add64_1 add64
set_option linter.unusedVariables false
set_option linter.unusedSimpArgs false
def arc_Back.l0 : Nat → List (S27) → List (S27) → Int → Option ((List (S27)))
 | 0, _, _, _ => none
 | k + 1, x0, x3, x4 => if x4 ≥ 0 then (if 0 ≤ x4 then (if x4 < (x0.length : Int) then (if x3.length < 5864062014805 then (arc_Back.l0 k x0 (x3 ++ [(⟨(rd_T27 x0 x4).f0, (rd_T27 x0 x4).f1, (rd_T27 x0 x4).f2⟩ : S27)]) (wrap64 (x4 - 1))) else (none)) else (none)) else (none)) else (some x3)
def arc_Back.f (k : Nat) (l0 : List (S27)) : Option ((List (S27))) := arc_Back.l0 k l0 ([] : List (S27)) (wrap64 ((l0.length : Int) - 1))
theorem arc_Back.mono_l : ∀ k, (∀ y0 y1 y2, LeO (arc_Back.l0 k y0 y1 y2) (arc_Back.l0 (k + 1) y0 y1 y2))
 | 0 => fun _ _ _ r h => by simp [arc_Back.l0] at h
 | k + 1 => by
  have ih0 := arc_Back.mono_l k
  ·intro y0 y1 y2
   unfold arc_Back.l0
   repeat' first
   | (with_reducible exact ih0 _ _ _)
   | (with_reducible exact LeO.refl _)
   | (with_reducible exact LeO.none _)
   | (with_reducible refine LeO.ite ?_ ?_)
   | (with_reducible refine LeO.bind ?_ (fun _ => ?_))
   | exact ih0 _ _ _
   | exact LeO.none _
   | refine LeO.ite ?_ ?_
   | refine LeO.bind ?_ (fun _ => ?_)
theorem arc_Back.mono : ∀ a0 k, LeO (arc_Back.f k a0) (arc_Back.f (k + 1) a0) := by
 intro a0 k
 have ih0 := arc_Back.mono_l k
 unfold arc_Back.f
 repeat' first
   | (with_reducible exact ih0 _ _ _)
   | (with_reducible exact LeO.refl _)
   | (with_reducible exact LeO.none _)
   | (with_reducible refine LeO.ite ?_ ?_)
   | (with_reducible refine LeO.bind ?_ (fun _ => ?_))
   | exact ih0 _ _ _
   | exact LeO.none _
   | refine LeO.ite ?_ ?_
   | refine LeO.bind ?_ (fun _ => ?_)
set_option maxHeartbeats 8000000 in
set_option maxRecDepth 100000 in
theorem arc_Back.calls (k : Nat) (A0 : Option Addr) (c0 : Nat) (l0 : List (S27)) (r : List (S27)) (w : World) (hr0 : Kd.C k27 w A0 l0.length l0) (hc0 : l0.length ≤ c0) (h : arc_Back.f k l0 = some r) :
  Calls Try.prog 85 #[.slice A0 l0.length c0] w fun e w' => ∃ v0_ : Value, e = .returned (v0_) ∧ Kd.R k27 27 w' w.heap.size (fun _ => True) v0_ r ∧ Below w.heap.size w w' := by
 have hu27 := Try.underlying27
 have HR0 := AM hr0
 have HC0 := AM hc0
 clear hr0 hc0
 have HB := AM (Below.refl w.heap.size w)
 have H : (arc_Back.l0 k l0 ([] : List (S27)) (wrap64 ((l0.length : Int) - 1))) = some r := h
 clear h
 have H' := AM H
 clear H
 go_enter Try.func85, Try.ntmps85
 go_wp2
 go_loopg [3, 4] k (fun kq v3 v4 w' => ∃ (x3_1 : List (S27)) (x4_1 : Int), v4 = .int .i64 x4_1 ∧ Aside0 (arc_Back.l0 kq l0 x3_1 x4_1 = some r) ∧ Aside0 (kq ≤ k) ∧ Aside0 (Kd.R k27 27 w' w.heap.size (fun _ => True) v3 x3_1) ∧ Aside0 (Below w.heap.size w w'))
 case atStart => exact ⟨(([] : List (S27))), (wrap64 ((l0.length : Int) - 1)), rS, H', ⟨Nat.le_refl _⟩, ⟨by first | exact Kd.R_nil _ _ _ _ _ | exact Kd.N_nil _ _ _ _ _ | exact Kd.V_nil _ _ _ _ _ | exact Kd.Q_nil _ _ _ _ _ | exact Kd.S_nil _ _ _ _ _⟩, ⟨ bH HB⟩⟩
 case round =>
  clear H'
  obtain ⟨x3_1, x4_1, rfl, HA, HK1, HO_3, HB⟩ := hrel
  cases gk with
  | zero => exact absurd HA.out (by simp [arc_Back.l0])
  | succ k1 =>
   have H := HA.out; clear HA
   simp only [arc_Back.l0] at H
   by_cases c2 : x4_1 ≥ 0
   ·rw [if_pos c2] at H
    have c2b0 := decide_eq_true c2; clear c2
    by_cases c3 : 0 ≤ x4_1
    ·rw [if_pos c3] at H
     have c3b0 := decide_eq_true c3; clear c3
     by_cases c4 : x4_1 < (l0.length : Int)
     ·rw [if_pos c4] at H
      have c4b0 := decide_eq_true c4; clear c4
      by_cases c5 : x3_1.length < 5864062014805
      ·rw [if_pos c5] at H
       have LMc5 := AM c5
       clear c5
       obtain ⟨y483, hy483⟩ : ∃ y_ : List (S27), y_ = (x3_1 ++ [(⟨(rd_T27 l0 x4_1).f0, (rd_T27 l0 x4_1).f1, (rd_T27 l0 x4_1).f2⟩ : S27)]) := ⟨_, rfl⟩
       replace H : (arc_Back.l0 k1 l0 y483 (wrap64 (x4_1 - 1))) = some r := by first | (rw [hy483]; with_reducible exact H) | (have H2_ := (Option.bind_some _ _).symm.trans H; rw [hy483]; with_reducible exact H2_) | (have H2_ := (Option.bind_some _ _).symm.trans H; with_reducible exact H2_) | with_reducible exact H | (rw [hy483]; exact H) | exact H
       have Ny483 := AM hy483
       clear hy483
       have H' := AM H
       clear H
       have p482 : 0 ≤ (x4_1 : Int) := pD
       have q482 : x4_1 < (l0.length : Int) := pD
       obtain ⟨ad482, e482, hx482_0, hx482_1, hx482_2⟩ := at_T27 HR0.out x4_1 p482 q482
       cases e482
       replace hx482_0 := hW HB hx482_0; replace hx482_1 := hW HB hx482_1; replace hx482_2 := hW HB hx482_2; replace p482 := eq_true p482; replace q482 := eq_true q482
       go_wp2_with (first | ((with_reducible refine gate_builtin (b := .append) (xs := #[.tmp 12, .tmp 17]) rfl ?_); at_builtin; refine Kd.R_append k27 (w0 := w) w.heap.size rfl (.tmp 12) (.tmp 17) 31 27 (.agg #[(.int .i64 0), (.int .i64 0), (.int .i64 0)]) 24 rfl Try.underlying31 info27 rfl (by decide) (by omega) u3 x3_1 (⟨(rd_T27 l0 x4_1).f0, (rd_T27 l0 x4_1).f1, (rd_T27 l0 x4_1).f2⟩ : S27) [.int .i64 ((rd_T27 l0 x4_1).f0), .int .i64 ((rd_T27 l0 x4_1).f1), .int .i64 ((rd_T27 l0 x4_1).f2)] (fun _ => True) (fun _ => False) rfl rfl ?aP (fun _ hk => hk.elim) ?aF ?aO ?aB ?aS ?aL ?_; (case aP => exact k27_mkM _ _ _ (⟨(rd_T27 l0 x4_1).f0, (rd_T27 l0 x4_1).f1, (rd_T27 l0 x4_1).f2⟩ : S27)); (case aB => exact (bH HB)); (case aF => exact (fun _ _ => trivial)); (case aO => exact (rK HO_3)); (case aS => exact (below_size (bH HB))); (case aL => have := LMc5.out; omega); intro v484 w6 ho hb hg hat; rw [← Ny483.out] at ho; replace HB := AM hb; have HO485 := AM ho; clear HO_3; clear ho hb hg hat))
       go_roundg k1
       case measure => have := HK1.out; omega
       case rel => exact ⟨(y483), (wrap64 (x4_1 - 1)), rS, H', ⟨by have := HK1.out; omega⟩, ⟨rK HO485⟩, ⟨ bH HB⟩⟩
      ·rw [if_neg c5] at H
       exact absurd H (by simp)
     ·rw [if_neg c4] at H
      exact absurd H (by simp)
    ·rw [if_neg c3] at H
     exact absurd H (by simp)
   ·rw [if_neg c2] at H
    have c2b0 := decide_eq_false c2; clear c2
    obtain rfl := Option.some.inj H
    go_wp2
    go_ret
    exact ⟨_, rE, rK HO_3, bH HB⟩
end Go.Proofs.Ytbonkedecfjmdaa.P
