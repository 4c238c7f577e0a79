/- Written for this claim by a program of this session (a turned copy of the print): Go functions as Lean functions, and that the Go code comes to just these answers; or a statement proved out of them. No condition. -/
import Derived.Test.YtlnjbpapbifjfaaPx0
import Derived.Test.YtlnjbpapbifjfaaPx2
import Derived.Test.YtlnjbpapbifjfaaPx27
import Derived.Test.YtlnjbpapbifjfaaPx30
import Derived.Test.YtlnjbpapbifjfaaPx34
import Derived.Test.YtlnjbpapbifjfaaPx37
import Derived.Test.YtlnjbpapbifjfaaPx38
namespace Go.Proofs.Ytlnjbpapbifjfaa.P
open Go.RowKit Go.Proofs.YtlnjbpapbifjfaaW.PrintWords Go.Proofs.YtlnjbpapbifjfaaW.PrintLast Go.Proofs.YtlnjbpapbifjfaaW.PrintMore Go.Proofs.Ytlnjbpapbifjfaa.X
attribute [local go_sem] max2_int min2_int max_two min_two max_three min_three max_four min_four add64_0 add64_1 add64   -- for this text's walks alone
set_option linter.unusedVariables false
set_option linter.unusedSimpArgs false

attribute [local go_sem high] eqA31
/-! ### lapidarylaw09_GeomAreas: function 5 -/
mutual
def lapidarylaw09_GeomAreas.j0 : Nat → List (S23) → Int → Int → Int → Option (Bool)
 | 0, _, _, _, _ => none
 | k + 1, x0, x6, x438000, x438001 => if 0 ≤ x6 then (if x6 ≤ (x0.length : Int) then ((some (x0.drop (x6 : Int).toNat : List (S23))).bind fun y438 => (if ([] : List (S23)).length + y438.length < 5864062014805 then ((some (([] : List (S23)) ++ y438 : List (S23))).bind fun y442 => ((some (x0.take (x6 : Int).toNat : List (S23))).bind fun y445 => (if y442.length + y445.length < 5864062014805 then (lapidarylaw09_GeomAreas.l0 k x0 (y442 ++ y445) ([] : List (S23)) (wrap64 ((x0.length : Int) - 1)) x438000 x438001) else (none)))) else (none))) else (none)) else (none)
def lapidarylaw09_GeomAreas.l0 : Nat → List (S23) → List (S23) → List (S23) → Int → Int → Int → Option (Bool)
 | 0, _, _, _, _, _, _ => none
 | k + 1, x0, x7, x8, x9, x438000, x438001 => if x9 ≥ 0 then (if 0 ≤ x9 then (if x9 < (x0.length : Int) then (if x8.length < 5864062014805 then (lapidarylaw09_GeomAreas.l0 k x0 x7 (x8 ++ [(⟨(rd_T23 x0 x9).f0, (rd_T23 x0 x9).f1, (rd_T23 x0 x9).f2⟩ : S23)]) (wrap64 (x9 - 1)) x438000 x438001) else (none)) else (none)) else (none)) else ((lapidaryref09_Area.f k x0).bind fun t456 => ((lapidaryref08_Is.f k t456 x438000 x438001).bind fun t459 => (if t459 = true then ((geom_Area.f k x7).bind fun bt460 => (if (bt460.1 == x438000 && (bt460.2 == x438001)) = true then ((geom_Area.f k x8).bind fun bt462 => ((wide_Neg.f k x438000 x438001).bind fun bt464 => (if (bt462.1 == bt464.1 && (bt462.2 == bt464.2)) = true then ((lapidarylaw09_known.f k).bind fun t466 => (some t466)) else (none)))) else (none))) else (none))))
end
def lapidarylaw09_GeomAreas.f (k : Nat) (l0 : List (S23)) (a1 : Int) : Option (Bool) := if (l0.length : Int) > 60 then ((lapidarylaw09_known.f k).bind fun t434 => (some t434)) else ((geom_Area.f k l0).bind fun bt435 => (if (l0.length : Int) > 0 then (if (l0.length : Int) = 0 then (none) else (lapidarylaw09_GeomAreas.j0 k l0 (Int.tmod (wrap64 (a1)) (l0.length : Int)) bt435.1 bt435.2)) else (lapidarylaw09_GeomAreas.j0 k l0 0 bt435.1 bt435.2)))
theorem lapidarylaw09_GeomAreas.mono_l : ∀ k, (∀ y0 y1 y2 y3, LeO (lapidarylaw09_GeomAreas.j0 k y0 y1 y2 y3) (lapidarylaw09_GeomAreas.j0 (k + 1) y0 y1 y2 y3)) ∧ (∀ y0 y1 y2 y3 y4 y5, LeO (lapidarylaw09_GeomAreas.l0 k y0 y1 y2 y3 y4 y5) (lapidarylaw09_GeomAreas.l0 (k + 1) y0 y1 y2 y3 y4 y5))
 | 0 => ⟨fun _ _ _ _ r h => by simp [lapidarylaw09_GeomAreas.j0] at h, fun _ _ _ _ _ _ r h => by simp [lapidarylaw09_GeomAreas.l0] at h⟩
 | k + 1 => by
  obtain ⟨ih0, ih1⟩ := lapidarylaw09_GeomAreas.mono_l k
  refine ⟨?_, ?_⟩
  ·intro y0 y1 y2 y3
   unfold lapidarylaw09_GeomAreas.j0
   repeat' first
   | (with_reducible exact ih0 _ _ _ _)
   | (with_reducible exact ih1 _ _ _ _ _ _)
   | (with_reducible exact geom_Area.mono _ _)
   | (with_reducible exact lapidarylaw09_known.mono _)
   | (with_reducible exact lapidaryref08_Is.mono _ _ _ _)
   | (with_reducible exact lapidaryref09_Area.mono _ _)
   | (with_reducible exact wide_Neg.mono _ _ _)
   | (with_reducible exact LeO.refl _)
   | (with_reducible exact LeO.none _)
   | (with_reducible refine LeO.ite ?_ ?_)
   | (with_reducible refine LeO.bind ?_ (fun _ => ?_))
   | exact ih0 _ _ _ _
   | exact ih1 _ _ _ _ _ _
   | exact geom_Area.mono _ _
   | exact lapidarylaw09_known.mono _
   | exact lapidaryref08_Is.mono _ _ _ _
   | exact lapidaryref09_Area.mono _ _
   | exact wide_Neg.mono _ _ _
   | exact LeO.none _
   | refine LeO.ite ?_ ?_
   | refine LeO.bind ?_ (fun _ => ?_)
  ·intro y0 y1 y2 y3 y4 y5
   unfold lapidarylaw09_GeomAreas.l0
   repeat' first
   | (with_reducible exact ih0 _ _ _ _)
   | (with_reducible exact ih1 _ _ _ _ _ _)
   | (with_reducible exact geom_Area.mono _ _)
   | (with_reducible exact lapidarylaw09_known.mono _)
   | (with_reducible exact lapidaryref08_Is.mono _ _ _ _)
   | (with_reducible exact lapidaryref09_Area.mono _ _)
   | (with_reducible exact wide_Neg.mono _ _ _)
   | (with_reducible exact LeO.refl _)
   | (with_reducible exact LeO.none _)
   | (with_reducible refine LeO.ite ?_ ?_)
   | (with_reducible refine LeO.bind ?_ (fun _ => ?_))
   | exact ih0 _ _ _ _
   | exact ih1 _ _ _ _ _ _
   | exact geom_Area.mono _ _
   | exact lapidarylaw09_known.mono _
   | exact lapidaryref08_Is.mono _ _ _ _
   | exact lapidaryref09_Area.mono _ _
   | exact wide_Neg.mono _ _ _
   | exact LeO.none _
   | refine LeO.ite ?_ ?_
   | refine LeO.bind ?_ (fun _ => ?_)
theorem lapidarylaw09_GeomAreas.mono : ∀ a0 a1 k, LeO (lapidarylaw09_GeomAreas.f k a0 a1) (lapidarylaw09_GeomAreas.f (k + 1) a0 a1) := by
 intro a0 a1 k
 obtain ⟨ih0, ih1⟩ := lapidarylaw09_GeomAreas.mono_l k
 unfold lapidarylaw09_GeomAreas.f
 repeat' first
   | (with_reducible exact ih0 _ _ _ _)
   | (with_reducible exact ih1 _ _ _ _ _ _)
   | (with_reducible exact geom_Area.mono _ _)
   | (with_reducible exact lapidarylaw09_known.mono _)
   | (with_reducible exact lapidaryref08_Is.mono _ _ _ _)
   | (with_reducible exact lapidaryref09_Area.mono _ _)
   | (with_reducible exact wide_Neg.mono _ _ _)
   | (with_reducible exact LeO.refl _)
   | (with_reducible exact LeO.none _)
   | (with_reducible refine LeO.ite ?_ ?_)
   | (with_reducible refine LeO.bind ?_ (fun _ => ?_))
   | exact ih0 _ _ _ _
   | exact ih1 _ _ _ _ _ _
   | exact geom_Area.mono _ _
   | exact lapidarylaw09_known.mono _
   | exact lapidaryref08_Is.mono _ _ _ _
   | exact lapidaryref09_Area.mono _ _
   | exact wide_Neg.mono _ _ _
   | exact LeO.none _
   | refine LeO.ite ?_ ?_
   | refine LeO.bind ?_ (fun _ => ?_)
def lapidarylaw09_GeomAreas.T15 : Bool × List (List Nat × List Nat) := (true, [([], []), ([0], [0]), ([], []), ([2], [2]), ([], []), ([4], [4]), ([1, 3, 5, 1], [1, 3, 5]), ([6, 6], [6]), ([7], [7]), ([8, 7, 7], [7, 8]), ([7], [7]), ([9, 10, 7], [7, 9, 10]), ([7, 11], [7, 11]), ([12, 9], [12]), ([13], [13]), ([14, 13, 13], [13, 14]), ([13], [13]), ([16, 15, 13], [13, 16]), ([15, 17, 13], [13, 15, 17]), ([13, 18], [13, 18]), ([19, 17], [19]), ([20, 20], [20]), ([20, 21], [20, 21]), ([22, 21, 0, 1, 2, 3, 4, 5, 6, 7, 8, 9, 10, 11, 12, 13, 14, 15, 16, 17, 18, 19, 20, 21, 22], [22])])
def lapidarylaw09_GeomAreas.B15 : List Nat := [0, 1, 0, 4, 0, 16, 63, 127, 255, 511, 255, 2047, 4095, 8191, 16383, 32767, 16383, 131071, 262143, 524287, 1048575, 2097151, 4194303, 8388607]
theorem lapidarylaw09_GeomAreas.tab15 : rtab .any (opsOf Try.f5 15) = lapidarylaw09_GeomAreas.T15 := by kernel_rfl
theorem lapidarylaw09_GeomAreas.bits15 : waitsOk lapidarylaw09_GeomAreas.T15.2 lapidarylaw09_GeomAreas.B15 = true := by kernel_rfl
set_option maxHeartbeats 8000000 in
set_option maxRecDepth 100000 in
theorem lapidarylaw09_GeomAreas.calls (k : Nat) (A0 : Option Addr) (c0 : Nat) (l0 : List (S23)) (a1 : Int) (r : Bool) (w : World) (hr0 : Kd.C k23 w A0 l0.length l0) (hc0 : l0.length ≤ c0) (h : lapidarylaw09_GeomAreas.f k l0 a1 = some r) :
  Calls Try.prog 5 #[.slice A0 l0.length c0, .int .u8 a1] w fun e w' => e = .returned (.bool r) ∧ Below w.heap.size w w' := by
 have hu31 := Try.underlying31
 have hu23 := Try.underlying23
 have HR0 := Aside0.mk hr0
 have HC0 := Aside0.mk hc0
 clear hr0 hc0
 have HB := Aside0.mk (Below.refl w.heap.size w)
 have H : (if (l0.length : Int) > 60 then ((lapidarylaw09_known.f k).bind fun t434 => (some t434)) else ((geom_Area.f k l0).bind fun bt435 => (if (l0.length : Int) > 0 then (if (l0.length : Int) = 0 then (none) else (lapidarylaw09_GeomAreas.j0 k l0 (Int.tmod (wrap64 (a1)) (l0.length : Int)) bt435.1 bt435.2)) else (lapidarylaw09_GeomAreas.j0 k l0 0 bt435.1 bt435.2)))) = some r := h
 clear h
 by_cases c3 : (l0.length : Int) > 60
 ·rw [if_pos c3] at H
  have c3b0 : decide (60 < (l0.length : Int)) = true := decide_eq_true c3
  have c3b1 : decide (60 < l0.length) = true := decide_eq_true (by omega)
  clear c3
  replace H := Option.bind_eq_some_iff.mp H
  obtain ⟨t434, A40, H⟩ := H
  replace H : (some t434) = some r := H
  have A4 := Aside0.mk A40
  clear A40
  obtain rfl := Option.some.inj H
  go_enter Try.func5, Try.ntmps5
  go_wp2_with (first | ((with_reducible refine gate_callee (f := 13) rfl ?_); refine goesL_ (some 13) rfl rfl Try.func13 (by kernel_rfl) rfl #[] rfl (by (try simp only [List.map_toArray, List.map_cons, List.map_nil]); first | done | rfl | (simp only [List.length_drop, List.length_take]; rfl)) ?_; (with_reducible refine (lapidarylaw09_known.calls k  t434 _ A4.out).mono ?_); rintro e w5 ⟨rfl, hb⟩; refine ⟨_, rfl, ?_⟩; have n0_ := Aside0.mk (below_step (bH HB) hb); clear HB; have HB := n0_; clear n0_; (try clear hb); (try clear hb2); (try clear hk); (try clear hi)))
  go_ret
  exact ⟨by first | rfl | (simp [errW_none, errW_some] <;> rfl) | (simp [*, errW_none, errW_some] <;> rfl), bH HB⟩
 ·rw [if_neg c3] at H
  have c3b0 : decide (60 < (l0.length : Int)) = false := decide_eq_false c3
  have c3b1 : decide (60 < l0.length) = false := decide_eq_false (by omega)
  clear c3
  replace H := Option.bind_eq_some_iff.mp H
  obtain ⟨⟨t435, t436⟩, A60, H⟩ := H
  replace H : (if (l0.length : Int) > 0 then (if (l0.length : Int) = 0 then (none) else (lapidarylaw09_GeomAreas.j0 k l0 (Int.tmod (wrap64 (a1)) (l0.length : Int)) t435 t436)) else (lapidarylaw09_GeomAreas.j0 k l0 0 t435 t436)) = some r := H
  have A6 := Aside0.mk A60
  clear A60
  have HC7 := Aside0.mk H
  clear H
  go_enter Try.func5, Try.ntmps5
  go_upto_if 18 with (first | ((with_reducible refine gate_callee (f := 16) rfl ?_); refine goesL_ (some 15) rfl rfl Try.func16 (by kernel_rfl) rfl #[.slice A0 l0.length c0] rfl (by (try simp only [List.map_toArray, List.map_cons, List.map_nil]); first | done | rfl | (simp only [List.length_drop, List.length_take]; rfl)) ?_; (with_reducible refine (geom_Area.calls k _ _ l0 t435 t436 _ ?side1 ?side2 A6.out).mono ?_); (case side1 => repeat (first | exact HR0.out | (with_reducible refine Kd.C_alloc ?_ _) | (with_reducible refine Kd.C_drewN ?_ _) | (with_reducible refine Kd.C_drew ?_))); (case side2 => exact HC0.out); rintro e w8 ⟨rfl, hb⟩; refine ⟨_, rfl, ?_⟩; have n0_ := Aside0.mk (below_step (bH HB) hb); clear HB; have HB := n0_; clear n0_; (try clear hb); (try clear hb2); (try clear hk); (try clear hi)) | ((with_reducible refine gate_dst (N := 5) rfl ?_); refine box_event ?hg (N := 5) ?hd (cs := #[.int .i64 0, .int .u64 0]) (t := 31) ?hr ?_; (case hd => rfl); (case hg => rfl); (case hr => first | (go_simp; done) | (go_simp; rfl)); intro gb437 hg w9 hbox hb; have n0_ := Aside0.mk (below_step (bH HB) hb); have n1_ := Aside0.mk (hbox); have n2_ := Aside0.mk ((by rw [hg]; exact (below_size (bH HB)) : w.heap.size ≤ gb437)); have n3_ := n2_; clear HB; have HB := n0_; have BK437 := n1_; have GW437 := n2_; have GE437 := n3_; clear n0_ n1_ n2_ n3_; clear hb hbox hg; have hcz10_0 : w9.cell? ⟨gb437, 0, none⟩ = some (.int .i64 0) := (blk_cell BK437.out 0).trans rfl; have hcz10_1 : w9.cell? ⟨gb437, 1, none⟩ = some (.int .u64 0) := (blk_cell BK437.out 1).trans rfl; have hfz10_0 := blk_frozen BK437.out 0; have hfz10_1 := blk_frozen BK437.out 1))
  (try simp only [Act.put, List.setIfInBounds_toArray, List.set_cons_zero, List.set_cons_succ])
  go_cut [6] (fun v6 wc => ∃ (kq : Nat) (x6_6 : Int), v6 = .int .i64 x6_6 ∧ Aside0 (lapidarylaw09_GeomAreas.j0 kq l0 x6_6 t435 t436 = some r) ∧ Aside0 (kq ≤ k) ∧ Aside0 (wc.heap[gb437]? = some (.cells #[.int .i64 t435, .int .u64 t436] 31 (0, 0))) ∧ Aside0 (Below w.heap.size w wc))
  case first =>
   have H := HC7.out
   clear HC7
   by_cases c11 : (l0.length : Int) > 0
   ·rw [if_pos c11] at H
    have c11b0 : decide (0 < (l0.length : Int)) = true := decide_eq_true c11
    have c11b1 : decide (0 < l0.length) = true := decide_eq_true (by omega)
    clear c11
    (first | rw [c11b0] | (simp only [i64_w, i32_w]; rw [c11b0]) | skip)
    by_cases c12 : (l0.length : Int) = 0
    ·rw [if_pos c12] at H
     exact absurd H (by simp)
    ·rw [if_neg c12] at H
     have c12b0 : ((l0.length : Int) == 0) = false := beq_eq_false_iff_ne.mpr c12
     have c12b1 : ((l0.length : Int) != 0) = true := bne_iff_ne.mpr c12
     have c12b2 : ¬ (l0 = []) := fun h_ => c12 (by rw [h_]; rfl)
     have H' := Aside0.mk H
     clear H
     go_wp2
     go_meet
     case rel => exact ⟨_, (Int.tmod (wrap64 (a1)) (l0.length : Int)), (by first | rfl | (simp; done) | (simp [*]; done)), H', ⟨by first | omega | exact Nat.le_refl _⟩, ⟨by (with_reducible repeat (first | refine blk_drewN ?_ _ | refine blk_drew ?_ | refine blk_alloc ?_ _)); refine blk_put (cs := #[.int .i64 t435, .int .u64 0]) ?_ 1 _ rfl; (with_reducible repeat (first | refine blk_drewN ?_ _ | refine blk_drew ?_ | refine blk_alloc ?_ _)); refine blk_put (cs := #[.int .i64 0, .int .u64 0]) ?_ 0 _ rfl; (with_reducible repeat (first | refine blk_drewN ?_ _ | refine blk_drew ?_ | refine blk_alloc ?_ _)); exact BK437.out⟩, ⟨ bH HB⟩⟩
   ·rw [if_neg c11] at H
    have c11b0 : decide (0 < (l0.length : Int)) = false := decide_eq_false c11
    have c11b1 : decide (0 < l0.length) = false := decide_eq_false (by omega)
    have c11b2 : ¬ (0 < l0.length) := by omega
    clear c11
    (first | rw [c11b0] | (simp only [i64_w, i32_w]; rw [c11b0]) | skip)
    have H' := Aside0.mk H
    clear H
    go_wp2
    go_meet
    case rel => exact ⟨_, (0), (by first | rfl | (simp; done) | (simp [*]; done)), H', ⟨by first | omega | exact Nat.le_refl _⟩, ⟨by (with_reducible repeat (first | refine blk_drewN ?_ _ | refine blk_drew ?_ | refine blk_alloc ?_ _)); refine blk_put (cs := #[.int .i64 t435, .int .u64 0]) ?_ 1 _ rfl; (with_reducible repeat (first | refine blk_drewN ?_ _ | refine blk_drew ?_ | refine blk_alloc ?_ _)); refine blk_put (cs := #[.int .i64 0, .int .u64 0]) ?_ 0 _ rfl; (with_reducible repeat (first | refine blk_drewN ?_ _ | refine blk_drew ?_ | refine blk_alloc ?_ _)); exact BK437.out⟩, ⟨ bH HB⟩⟩
  case rest =>
   clear HC7
   try clear c1
   try clear p2
   try clear c3
   try clear c3b0
   try clear c3b1
   try clear c5
   try clear p6
   try clear c11
   try clear c11b0
   try clear c11b1
   try clear c11b2
   try clear c12
   try clear c12b0
   try clear c12b1
   try clear c12b2
   try clear hcz10_0
   try clear hcz10_1
   try clear hfz10_0
   try clear hfz10_1
   obtain ⟨kq, x6_6, rfl, HA, HJ6, BK437, HB⟩ := hcut
   cases kq with
   | zero => exact absurd HA.out (by simp [lapidarylaw09_GeomAreas.j0])
   | succ kj6 =>
    have H := HA.out
    clear HA
    simp only [lapidarylaw09_GeomAreas.j0] at H
    by_cases c13 : 0 ≤ x6_6
    ·rw [if_pos c13] at H
     have c13b0 := eq_true c13
     have c13b1 : decide (0 ≤ x6_6) = true := decide_eq_true c13
     clear c13
     by_cases c14 : x6_6 ≤ (l0.length : Int)
     ·rw [if_pos c14] at H
      have c14b0 := eq_true c14
      have c14b1 : decide (x6_6 ≤ (l0.length : Int)) = true := decide_eq_true c14
      clear c14
      obtain ⟨y438, hy438⟩ : ∃ y_ : List (S23), y_ = (l0.drop (x6_6 : Int).toNat) := ⟨_, rfl⟩
      replace H : (if ([] : List (S23)).length + y438.length < 5864062014805 then ((some (([] : List (S23)) ++ y438 : List (S23))).bind fun y442 => ((some (l0.take (x6_6 : Int).toNat : List (S23))).bind fun y445 => (if y442.length + y445.length < 5864062014805 then (lapidarylaw09_GeomAreas.l0 kj6 l0 (y442 ++ y445) ([] : List (S23)) (wrap64 ((l0.length : Int) - 1)) t435 t436) else (none)))) else (none)) = some r := by first | (rw [hy438]; with_reducible exact H) | (have H2_ := (Option.bind_some _ _).symm.trans H; rw [hy438]; with_reducible exact H2_) | (have H2_ := (Option.bind_some _ _).symm.trans H; with_reducible exact H2_) | with_reducible exact H | (rw [hy438]; exact H) | exact H
      have Ny438 := Aside0.mk hy438
      clear hy438
      by_cases c15 : ([] : List (S23)).length + y438.length < 5864062014805
      ·rw [if_pos c15] at H
       have LMc15 := Aside0.mk c15
       clear c15
       obtain ⟨y442, hy442⟩ : ∃ y_ : List (S23), y_ = (([] : List (S23)) ++ y438) := ⟨_, rfl⟩
       replace H : ((some (l0.take (x6_6 : Int).toNat : List (S23))).bind fun y445 => (if y442.length + y445.length < 5864062014805 then (lapidarylaw09_GeomAreas.l0 kj6 l0 (y442 ++ y445) ([] : List (S23)) (wrap64 ((l0.length : Int) - 1)) t435 t436) else (none))) = some r := by first | (rw [hy442]; with_reducible exact H) | (have H2_ := (Option.bind_some _ _).symm.trans H; rw [hy442]; with_reducible exact H2_) | (have H2_ := (Option.bind_some _ _).symm.trans H; with_reducible exact H2_) | with_reducible exact H | (rw [hy442]; exact H) | exact H
       have Ny442 := Aside0.mk hy442
       clear hy442
       have c16b0 := eq_true (of_decide_eq_true (by first | (with_reducible assumption) | assumption) : 0 ≤ x6_6)
       have c17b0 := eq_true (of_decide_eq_true (by first | (with_reducible assumption) | assumption) : x6_6 ≤ (l0.length : Int))
       obtain ⟨y445, hy445⟩ : ∃ y_ : List (S23), y_ = (l0.take (x6_6 : Int).toNat) := ⟨_, rfl⟩
       replace H : (if y442.length + y445.length < 5864062014805 then (lapidarylaw09_GeomAreas.l0 kj6 l0 (y442 ++ y445) ([] : List (S23)) (wrap64 ((l0.length : Int) - 1)) t435 t436) else (none)) = some r := by first | (rw [hy445]; with_reducible exact H) | (have H2_ := (Option.bind_some _ _).symm.trans H; rw [hy445]; with_reducible exact H2_) | (have H2_ := (Option.bind_some _ _).symm.trans H; with_reducible exact H2_) | with_reducible exact H | (rw [hy445]; exact H) | exact H
       have Ny445 := Aside0.mk hy445
       clear hy445
       by_cases c18 : y442.length + y445.length < 5864062014805
       ·rw [if_pos c18] at H
        have LMc18 := Aside0.mk c18
        clear c18
        obtain ⟨y449, hy449⟩ : ∃ y_ : List (S23), y_ = (y442 ++ y445) := ⟨_, rfl⟩
        replace H : (lapidarylaw09_GeomAreas.l0 kj6 l0 y449 ([] : List (S23)) (wrap64 ((l0.length : Int) - 1)) t435 t436) = some r := by first | (rw [hy449]; with_reducible exact H) | (have H2_ := (Option.bind_some _ _).symm.trans H; rw [hy449]; with_reducible exact H2_) | (have H2_ := (Option.bind_some _ _).symm.trans H; with_reducible exact H2_) | with_reducible exact H | (rw [hy449]; exact H) | exact H
        have Ny449 := Aside0.mk hy449
        clear hy449
        have H' := Aside0.mk H
        clear H
        have q19 : (x6_6 : Int) ≤ ((l0.length : Int) : Int) := of_decide_eq_true (by first | (with_reducible assumption) | assumption)
        obtain ⟨i019, hi019, _, hsz19, _⟩ := info_parts info23
        have hroom19 : l0.length ≤ c0 := HC0.out
        have hC19 : Kd.C k23 _ A0 l0.length l0 := HR0.out
        have q019 : (0 : Int) ≤ (x6_6 : Int) := of_decide_eq_true (by first | (with_reducible assumption) | assumption)
        have hcut19 := cut_from (P := Try.prog) 28 23 .i64 Try.underlying28 hi019 3 hsz19 A0 l0.length c0 x6_6 q019 q19
        have hr19 := Kd.C_drop (m := (x6_6 : Int).toNat) (c := c0) hC19 (by omega) hroom19
        obtain ⟨A19, hA19⟩ : ∃ A1, A1 = (if c0 = (x6_6 : Int).toNat then A0 else (A0 : Option Addr).map (·.add ((x6_6 : Int).toNat * 3))) := ⟨_, rfl⟩
        obtain ⟨c19, hc19⟩ : ∃ c1, c1 = c0 - (x6_6 : Int).toNat := ⟨_, rfl⟩
        have hy19 : y438.length = l0.length - (x6_6 : Int).toNat := (by rw [Ny438.out, List.length_drop] <;> omega)
        rw [show (l0).drop (x6_6 : Int).toNat = y438 from Ny438.out.symm] at hr19
        replace hr19 : Kd.C k23 _ A19 y438.length y438 := (by rw [hA19]; exact hr19)
        rw [← hy19, ← hA19, ← hc19] at hcut19
        have HR441 := Aside0.mk hr19
        have HC441 := Aside0.mk (show y438.length ≤ c19 from by rw [hy19, hc19]; exact Nat.sub_le_sub_right hroom19 _)
        clear hr19 hC19 hroom19 hi019 hsz19 hc19
        have KY19 := Aside0.mk hy19
        have KA19 := Aside0.mk hA19
        clear hy19 hA19
        replace q19 := eq_true q19
        go_wp2_with (first | ((with_reducible refine gate_builtin (b := .append) (xs := #[.tmp 24, .tmp 27]) rfl ?_); at_builtin; refine Kd.R_append_rows k23 (w0 := w) w.heap.size rfl (.tmp 24) (.tmp 27) 28 23 (.agg #[(.int .i64 0), (.int .i64 0), (.int .i64 0)]) 24 rfl Try.underlying28 info23 rfl (by decide) (by omega) (.slice none 0 0) ([] : List (S23)) y438 _ _ _ (fun _ => True) (fun _ => False) rfl rfl ?aO ?aR (fun _ _ h => h) (fun _ h => h.elim) ?aF ?aB ?aS ?aL ?_; (case aR => repeat (first | exact (Kd.C_below HR441.out HB.out) | (with_reducible refine Kd.C_alloc ?_ _) | (with_reducible refine Kd.C_drewN ?_ _) | (with_reducible refine Kd.C_drew ?_))); (case aB => exact (bH HB)); (case aF => exact (fun _ _ => trivial)); (case aO => exact ((Kd.R_nil _ _ _ _ (fun _ => True)))); (case aS => exact (below_size (bH HB))); (case aL => have := LMc15.out; omega); intro v443 w20 ho hb hg hat; rw [← Ny442.out] at ho; have n0_ := Aside0.mk (blk_grown (g := gb437) (o := .cells #[.int .i64 t435, .int .u64 t436] 31 (0, 0)) (bK BK437) hg (by simp [Value.ownBlock])); have n1_ := Aside0.mk (hb); have n2_ := Aside0.mk (ho); clear BK437; clear HB; have BK437 := n0_; have HB := n1_; have HO444 := n2_; clear n0_ n1_ n2_; clear ho hb hg hat; have q21 : (x6_6 : Int) ≤ ((l0.length : Int) : Int) := of_decide_eq_true (by first | (with_reducible assumption) | assumption); obtain ⟨i021, hi021, _, hsz21, _⟩ := info_parts info23; have hroom21 : l0.length ≤ c0 := HC0.out; have hC21 : Kd.C k23 _ A0 l0.length l0 := HR0.out; have hcut21 := cut_to (P := Try.prog) 28 23 .i64 Try.underlying28 hi021 A0 l0.length c0 x6_6 (of_decide_eq_true (by first | (with_reducible assumption) | assumption)) q21 hroom21; have hr21 := Kd.C_take (m := (x6_6 : Int).toNat) hC21 (by omega); have hy21 : y445.length = (x6_6 : Int).toNat := (by rw [Ny445.out, List.length_take]; omega); rw [← Ny445.out] at hr21; rw [← hy21] at hcut21; have HR448 := Aside0.mk hr21; have HC448 := Aside0.mk (show y445.length ≤ c0 from by omega); clear hr21 hC21 hroom21 hi021 hsz21; have KY21 := Aside0.mk hy21; clear hy21; replace q21 := eq_true q21) | ((with_reducible refine gate_builtin (b := .append) (xs := #[.tmp 29, .tmp 32]) rfl ?_); at_builtin; refine Kd.R_append_rows k23 (w0 := w) w.heap.size rfl (.tmp 29) (.tmp 32) 28 23 (.agg #[(.int .i64 0), (.int .i64 0), (.int .i64 0)]) 24 rfl Try.underlying28 info23 rfl (by decide) (by omega) v443 y442 y445 _ _ _ (fun _ => True) (fun _ => False) rfl rfl ?aO ?aR (fun _ _ h => h) (fun _ h => h.elim) ?aF ?aB ?aS ?aL ?_; (case aR => repeat (first | exact (Kd.C_below HR448.out HB.out) | (with_reducible refine Kd.C_alloc ?_ _) | (with_reducible refine Kd.C_drewN ?_ _) | (with_reducible refine Kd.C_drew ?_))); (case aB => exact (bH HB)); (case aF => exact (fun _ _ => trivial)); (case aO => exact (rK HO444)); (case aS => exact (below_size (bH HB))); (case aL => have := LMc18.out; omega); intro v450 w22 ho hb hg hat; rw [← Ny449.out] at ho; have n0_ := Aside0.mk (blk_grown (g := gb437) (o := .cells #[.int .i64 t435, .int .u64 t436] 31 (0, 0)) (bK BK437) hg (Kd.R_ne HO444.out BK437.out (by decide))); have n1_ := Aside0.mk (hb); have n2_ := Aside0.mk (ho); clear BK437; clear HB; clear HO444; have BK437 := n0_; have HB := n1_; have HO451 := n2_; clear n0_ n1_ n2_; clear ho hb hg hat))
        go_loopg [8, 9] kj6 (fun kq v8 v9 w' => ∃ (x8_2 : List (S23)) (x9_2 : Int), v9 = .int .i64 x9_2 ∧ Aside0 (lapidarylaw09_GeomAreas.l0 kq l0 y449 x8_2 x9_2 t435 t436 = some r) ∧ Aside0 (kq ≤ kj6) ∧ Aside0 (Kd.R k23 23 w' w.heap.size (fun k_ => some k_ ≠ (v8 : Value).ownBlock) v450 y449) ∧ Aside0 (Kd.R k23 23 w' w.heap.size (fun k_ => some k_ ≠ (v450 : Value).ownBlock) v8 x8_2) ∧ Aside0 (w'.heap[gb437]? = some (.cells #[.int .i64 t435, .int .u64 t436] 31 (0, 0))) ∧ Aside0 (Below w.heap.size w w'))
        case atStart => exact ⟨(([] : List (S23))), (wrap64 ((l0.length : Int) - 1)), (by first | rfl | (simp; done) | (simp [*]; done)), H', ⟨Nat.le_refl _⟩, ⟨by (with_reducible repeat (first | apply Kd.R_alloc | apply Kd.R_drewN | apply Kd.R_drew)); exact Kd.R_mono HO451.out (fun _ hk => (by simp [Value.ownBlock]))⟩, ⟨by first | exact Kd.R_nil _ _ _ _ _ | exact Kd.N_nil _ _ _ _ _ | exact Kd.V_nil _ _ _ _ _ | exact Kd.Q_nil _ _ _ _ _ | exact Kd.S_nil _ _ _ _ _⟩, ⟨bK BK437⟩, ⟨ bH HB⟩⟩
        case round =>
         clear H'
         try clear c1
         try clear q1
         try clear p2
         try clear q2
         try clear c3
         try clear c3b0
         try clear c3b1
         try clear c5
         try clear p6
         try clear c11
         try clear c11b0
         try clear c11b1
         try clear c11b2
         try clear c12
         try clear c12b0
         try clear c12b1
         try clear c12b2
         try clear c13
         try clear c13b0
         try clear c13b1
         try clear c14
         try clear c14b0
         try clear c14b1
         try clear c15
         try clear c16
         try clear c16b0
         try clear c17
         try clear c17b0
         try clear c18
         try clear c19
         try clear q19
         try clear q21
         try clear hcz10_0
         try clear hcz10_1
         try clear hfz10_0
         try clear hfz10_1
         try clear p2
         try clear p6
         try clear q019
         try clear q19
         try clear q21
         obtain ⟨x8_2, x9_2, rfl, HA, HK2, HO_7, HO_8, BK437, HB⟩ := hrel
         cases gk with
         | zero => exact absurd HA.out (by simp [lapidarylaw09_GeomAreas.l0])
         | succ k2 =>
          have H := HA.out
          clear HA
          simp only [lapidarylaw09_GeomAreas.l0] at H
          by_cases c23 : x9_2 ≥ 0
          ·rw [if_pos c23] at H
           have c23b0 : decide (0 ≤ x9_2) = true := decide_eq_true c23
           clear c23
           by_cases c24 : 0 ≤ x9_2
           ·rw [if_pos c24] at H
            have c24b0 : decide (0 ≤ x9_2) = true := decide_eq_true c24
            clear c24
            by_cases c25 : x9_2 < (l0.length : Int)
            ·rw [if_pos c25] at H
             have c25b0 : decide (x9_2 < (l0.length : Int)) = true := decide_eq_true c25
             clear c25
             by_cases c26 : x8_2.length < 5864062014805
             ·rw [if_pos c26] at H
              have LMc26 := Aside0.mk c26
              clear c26
              obtain ⟨y453, hy453⟩ : ∃ y_ : List (S23), y_ = (x8_2 ++ [(⟨(rd_T23 l0 x9_2).f0, (rd_T23 l0 x9_2).f1, (rd_T23 l0 x9_2).f2⟩ : S23)]) := ⟨_, rfl⟩
              replace H : (lapidarylaw09_GeomAreas.l0 k2 l0 y449 y453 (wrap64 (x9_2 - 1)) t435 t436) = some r := by first | (rw [hy453]; with_reducible exact H) | (have H2_ := (Option.bind_some _ _).symm.trans H; rw [hy453]; with_reducible exact H2_) | (have H2_ := (Option.bind_some _ _).symm.trans H; with_reducible exact H2_) | with_reducible exact H | (rw [hy453]; exact H) | exact H
              have Ny453 := Aside0.mk hy453
              clear hy453
              have H' := Aside0.mk H
              clear H
              have p452 : 0 ≤ (x9_2 : Int) := of_decide_eq_true (by first | (with_reducible assumption) | assumption)
              have q452 : x9_2 < (l0.length : Int) := of_decide_eq_true (by first | (with_reducible assumption) | assumption)
              obtain ⟨ad452, e452, hx452_0, hx452_1, hx452_2⟩ := at_T23 HR0.out x9_2 p452 q452
              cases e452
              replace hx452_0 := (HB.out.cell (World.block_lt_of_cell? w _ hx452_0)).trans hx452_0
              replace hx452_1 := (HB.out.cell (World.block_lt_of_cell? w _ hx452_1)).trans hx452_1
              replace hx452_2 := (HB.out.cell (World.block_lt_of_cell? w _ hx452_2)).trans hx452_2
              replace p452 := eq_true p452
              replace q452 := eq_true q452
              go_wp2_with (first | ((with_reducible refine gate_builtin (b := .append) (xs := #[.tmp 41, .tmp 46]) rfl ?_); at_builtin; refine Kd.R_append k23 (w0 := w) w.heap.size rfl (.tmp 41) (.tmp 46) 28 23 (.agg #[(.int .i64 0), (.int .i64 0), (.int .i64 0)]) 24 rfl Try.underlying28 info23 rfl (by decide) (by omega) u8 x8_2 (⟨(rd_T23 l0 x9_2).f0, (rd_T23 l0 x9_2).f1, (rd_T23 l0 x9_2).f2⟩ : S23) [.int .i64 ((rd_T23 l0 x9_2).f0), .int .i64 ((rd_T23 l0 x9_2).f1), .int .i64 ((rd_T23 l0 x9_2).f2)] (fun k_ => some k_ ≠ (v450 : Value).ownBlock) (fun _ => False) rfl rfl ?aP (fun _ hk => hk.elim) ?aF ?aO ?aB ?aS ?aL ?_; (case aP => exact k23_mkM _ _ _ (⟨(rd_T23 l0 x9_2).f0, (rd_T23 l0 x9_2).f1, (rd_T23 l0 x9_2).f2⟩ : S23)); (case aB => exact (bH HB)); (case aF => exact (fun k_ hk => Kd.fresh' (Kd.R_lt (rK HO_7)) k_ hk)); (case aO => exact (rK HO_8)); (case aS => exact (below_size (bH HB))); (case aL => have := LMc26.out; omega); intro v454 w27 ho hb hg hat; rw [← Ny453.out] at ho; have n0_ := Aside0.mk (Kd.R_after (ok := (fun _ => True)) (by (with_reducible repeat (first | apply Kd.R_alloc | apply Kd.R_drewN | apply Kd.R_drew)); exact Kd.R_mono HO_7.out (fun _ hk => ⟨trivial, hk⟩)) hg hat); have n1_ := Aside0.mk (blk_grown (g := gb437) (o := .cells #[.int .i64 t435, .int .u64 t436] 31 (0, 0)) (bK BK437) hg (Kd.R_ne HO_8.out BK437.out (by decide))); have n2_ := Aside0.mk (hb); have n3_ := Aside0.mk (ho); clear HO_7; clear BK437; clear HB; clear HO_8; have HO_7 := n0_; have BK437 := n1_; have HB := n2_; have HO455 := n3_; clear n0_ n1_ n2_ n3_; clear ho hb hg hat))
              go_roundg k2
              case measure => have := HJ6.out; have := HK2.out; omega
              case rel => exact ⟨(y453), (wrap64 (x9_2 - 1)), (by first | rfl | (simp; done) | (simp [*]; done)), H', ⟨by have := HJ6.out; have := HK2.out; omega⟩, ⟨by (with_reducible repeat (first | apply Kd.R_alloc | apply Kd.R_drewN | apply Kd.R_drew)); exact Kd.R_mono HO_7.out (fun _ hk => hk.2)⟩, ⟨by (with_reducible repeat (first | apply Kd.R_alloc | apply Kd.R_drewN | apply Kd.R_drew)); exact HO455.out⟩, ⟨bK BK437⟩, ⟨ bH HB⟩⟩
             ·rw [if_neg c26] at H
              exact absurd H (by simp)
            ·rw [if_neg c25] at H
             exact absurd H (by simp)
           ·rw [if_neg c24] at H
            exact absurd H (by simp)
          ·rw [if_neg c23] at H
           have c23b0 : decide (0 ≤ x9_2) = false := decide_eq_false c23
           clear c23
           replace H := Option.bind_eq_some_iff.mp H
           obtain ⟨t456, A280, H⟩ := H
           replace H : ((lapidaryref08_Is.f k2 t456 t435 t436).bind fun t459 => (if t459 = true then ((geom_Area.f k2 y449).bind fun bt460 => (if (bt460.1 == t435 && (bt460.2 == t436)) = true then ((geom_Area.f k2 x8_2).bind fun bt462 => ((wide_Neg.f k2 t435 t436).bind fun bt464 => (if (bt462.1 == bt464.1 && (bt462.2 == bt464.2)) = true then ((lapidarylaw09_known.f k2).bind fun t466 => (some t466)) else (none)))) else (none))) else (none))) = some r := H
           have A28 := Aside0.mk A280
           clear A280
           replace H := Option.bind_eq_some_iff.mp H
           obtain ⟨t459, A290, H⟩ := H
           replace H : (if t459 = true then ((geom_Area.f k2 y449).bind fun bt460 => (if (bt460.1 == t435 && (bt460.2 == t436)) = true then ((geom_Area.f k2 x8_2).bind fun bt462 => ((wide_Neg.f k2 t435 t436).bind fun bt464 => (if (bt462.1 == bt464.1 && (bt462.2 == bt464.2)) = true then ((lapidarylaw09_known.f k2).bind fun t466 => (some t466)) else (none)))) else (none))) else (none)) = some r := H
           have A29 := Aside0.mk A290
           clear A290
           by_cases c30 : t459 = true
           ·subst c30
            have H1 : ((geom_Area.f k2 y449).bind fun bt460 => (if (bt460.1 == t435 && (bt460.2 == t436)) = true then ((geom_Area.f k2 x8_2).bind fun bt462 => ((wide_Neg.f k2 t435 t436).bind fun bt464 => (if (bt462.1 == bt464.1 && (bt462.2 == bt464.2)) = true then ((lapidarylaw09_known.f k2).bind fun t466 => (some t466)) else (none)))) else (none))) = some r := by rw [if_pos rfl] at H; exact H
            clear H
            have H := H1
            clear H1
            replace H := Option.bind_eq_some_iff.mp H
            obtain ⟨⟨t460, t461⟩, A310, H⟩ := H
            replace H : (if (t460 == t435 && (t461 == t436)) = true then ((geom_Area.f k2 x8_2).bind fun bt462 => ((wide_Neg.f k2 t435 t436).bind fun bt464 => (if (bt462.1 == bt464.1 && (bt462.2 == bt464.2)) = true then ((lapidarylaw09_known.f k2).bind fun t466 => (some t466)) else (none)))) else (none)) = some r := H
            have A31 := Aside0.mk A310
            clear A310
            by_cases c32 : (t460 == t435 && (t461 == t436)) = true
            ·rw [if_pos c32] at H
             have c32b0 : (t460 == t435 && (t461 == t436)) = true := c32
             (try (have c32b1 : decide (t460 = t435 && (t461 == t436)) = true := by simpa using c32))
             (try (have c32b2 : (t460 == t435 && (t461 == t436)) = true := by simpa using c32))
             clear c32
             replace H := Option.bind_eq_some_iff.mp H
             obtain ⟨⟨t462, t463⟩, A330, H⟩ := H
             replace H : ((wide_Neg.f k2 t435 t436).bind fun bt464 => (if (t462 == bt464.1 && (t463 == bt464.2)) = true then ((lapidarylaw09_known.f k2).bind fun t466 => (some t466)) else (none))) = some r := H
             have A33 := Aside0.mk A330
             clear A330
             replace H := Option.bind_eq_some_iff.mp H
             obtain ⟨⟨t464, t465⟩, A340, H⟩ := H
             replace H : (if (t462 == t464 && (t463 == t465)) = true then ((lapidarylaw09_known.f k2).bind fun t466 => (some t466)) else (none)) = some r := H
             have A34 := Aside0.mk A340
             clear A340
             by_cases c35 : (t462 == t464 && (t463 == t465)) = true
             ·rw [if_pos c35] at H
              have c35b0 : (t462 == t464 && (t463 == t465)) = true := c35
              (try (have c35b1 : decide (t462 = t464 && (t463 == t465)) = true := by simpa using c35))
              (try (have c35b2 : (t462 == t464 && (t463 == t465)) = true := by simpa using c35))
              clear c35
              replace H := Option.bind_eq_some_iff.mp H
              obtain ⟨t466, A360, H⟩ := H
              replace H : (some t466) = some r := H
              have A36 := Aside0.mk A360
              clear A360
              obtain rfl := Option.some.inj H
              try go_wp2
              have n0_ := Aside0.mk (Kd.R_drew HO_7.out)
              have n1_ := Aside0.mk (Kd.R_drew HO_8.out)
              have n2_ := Aside0.mk (blk_drew BK437.out)
              have n3_ := Aside0.mk (below_drew1 HB.out)
              clear HO_7
              clear HO_8
              clear BK437
              clear HB
              have HO_7 := n0_
              have HO_8 := n1_
              have BK437 := n2_
              have HB := n3_
              clear n0_ n1_ n2_ n3_
              refine start_ (n := 24) (S := fun w' => w'.cell? ⟨gb437, 0, none⟩ = some (.int .i64 t435) ∧ w'.cell? ⟨gb437, 1, none⟩ = some (.int .u64 t436)) (ds := []) #[false, false, false, false, false, false, false, false, false, false, false, false, false, false, false, false, false, false, false, false, false, false, false, false] (by kernel_rfl) rfl rfl ⟨(blk_cell BK437.out 0).trans rfl, (blk_cell BK437.out 1).trans rfl⟩ (fun hHeld => ?_); refine with_tabW lapidarylaw09_GeomAreas.tab15 lapidarylaw09_GeomAreas.bits15 (fun HT_ HW_ => ?_)
              generalize wr.drew = w37 at HO_7 HO_8 BK437 HB hHeld ⊢
              refine pure_ (i := 0) (N := some 48) (v := ?_) (a' := ?_) #[true, false, false, false, false, false, false, false, false, false, false, false, false, false, false, false, false, false, false, false, false, false, false, false] rfl rfl (any_of HT_.out (by kernel_rfl)) (fun _ _ _ h => h) (Or.inl ⟨by rfl, ?_⟩) ?_ ?_
              rotate_left
              ·intro w'
               go_simp
               with_reducible rfl
              rotate_left
              ·simp only [Act.put, List.setIfInBounds_toArray, List.set_cons_zero, List.set_cons_succ, i64_w, i32_w]
               rfl
              refine pure_ (i := 2) (N := some 50) (v := ?_) (a' := ?_) #[true, false, true, false, false, false, false, false, false, false, false, false, false, false, false, false, false, false, false, false, false, false, false, false] rfl rfl (any_of HT_.out (by kernel_rfl)) (fun _ _ _ h => h) (Or.inl ⟨by rfl, ?_⟩) ?_ ?_
              rotate_left
              ·intro w'
               go_simp
               with_reducible rfl
              rotate_left
              ·simp only [Act.put, List.setIfInBounds_toArray, List.set_cons_zero, List.set_cons_succ, i64_w, i32_w]
               rfl
              refine pure_ (i := 4) (N := some 52) (v := ?_) (a' := ?_) #[true, false, true, false, true, false, false, false, false, false, false, false, false, false, false, false, false, false, false, false, false, false, false, false] rfl rfl (any_of HT_.out (by kernel_rfl)) (fun _ _ _ h => h) (Or.inl ⟨by rfl, ?_⟩) ?_ ?_
              rotate_left
              ·intro w'
               go_simp
               with_reducible rfl
              rotate_left
              ·simp only [Act.put, List.setIfInBounds_toArray, List.set_cons_zero, List.set_cons_succ, i64_w, i32_w]
               rfl
              refine take_ (i := 3) (N := some 51) (v := ?_) (a' := ?_) #[true, false, true, true, true, false, false, false, false, false, false, false, false, false, false, false, false, false, false, false, false, false, false, false] rfl rfl (take_ofW HT_.out HW_.out (by kernel_rfl)) (fun _ _ _ h => h) (Or.inl ⟨by rfl, ?_⟩) hHeld ?_ ?_
              rotate_left
              ·rintro w' ⟨s0, s1⟩
               go_simp
               with_reducible rfl
              rotate_left
              ·simp only [Act.put, List.setIfInBounds_toArray, List.set_cons_zero, List.set_cons_succ, i64_w, i32_w]
               rfl
              refine take_ (i := 5) (N := some 53) (v := ?_) (a' := ?_) #[true, false, true, true, true, true, false, false, false, false, false, false, false, false, false, false, false, false, false, false, false, false, false, false] rfl rfl (take_ofW HT_.out HW_.out (by kernel_rfl)) (fun _ _ _ h => h) (Or.inl ⟨by rfl, ?_⟩) hHeld ?_ ?_
              rotate_left
              ·rintro w' ⟨s0, s1⟩
               go_simp
               with_reducible rfl
              rotate_left
              ·simp only [Act.put, List.setIfInBounds_toArray, List.set_cons_zero, List.set_cons_succ, i64_w, i32_w]
               rfl
              refine one_ (i := 1) (N := some 49) #[true, true, true, true, true, true, false, false, false, false, false, false, false, false, false, false, false, false, false, false, false, false, false, false] rfl rfl (one_of HT_.out (by kernel_rfl)) (by decide) (fun K hK => ?_)
              refine goes_ Try.func18 (by kernel_rfl) rfl #[.slice A0 l0.length c0] (by rfl) rfl rfl (by (try simp only [List.map_toArray, List.map_cons, List.map_nil]); first | done | rfl | (simp only [List.length_drop, List.length_take]; rfl)) ?_
              with_reducible refine (lapidaryref09_Area.calls k2 _ _ l0 t456 _ ?side1 ?side2 A28.out).mono ?_
              (case side1 => repeat (first | exact (Kd.C_below HR0.out HB.out) | (with_reducible refine Kd.C_alloc ?_ _) | (with_reducible refine Kd.C_drewN ?_ _) | (with_reducible refine Kd.C_drew ?_)))
              (case side2 => exact HC0.out)
              rintro e w38 ⟨v457, rfl, ho0, hb⟩
              refine ⟨_, rfl, ?_⟩
              have n0_ := Aside0.mk (Kd.R_below (rK HO_7) hb)
              have n1_ := Aside0.mk (Kd.R_below (rK HO_8) hb)
              have n2_ := Aside0.mk (Kd.R_lower ho0 (below_size (bH HB)))
              have n3_ := Aside0.mk (blk_below (g := gb437) (o := .cells #[.int .i64 t435, .int .u64 t436] 31 (0, 0)) (bK BK437) hb)
              have n4_ := Aside0.mk (below_step (bH HB) hb)
              clear HO_7
              clear HO_8
              clear BK437
              clear HB
              have HO_7 := n0_
              have HO_8 := n1_
              have HO458 := n2_
              have BK437 := n3_
              have HB := n4_
              clear n0_ n1_ n2_ n3_ n4_
              (try clear hb)
              (try clear hb2)
              (try clear hk)
              (try clear hi)
              (try clear ho0)
              obtain ⟨Ao39, co39, eo39⟩ := Kd.R_slice HO458.out
              (first | subst eo39 | (injection eo39 with f1_ f2_ f3_; have f4_ := f1_.symm; have f5_ := f3_.symm; clear f1_ f2_ f3_; subst f4_; subst f5_))
              refine hK.out _ _ ⟨(blk_cell BK437.out 0).trans rfl, (blk_cell BK437.out 1).trans rfl⟩ (fun hHeld => ?_)
              clear hK K
              refine norm_ (a' := ?_) ?_ ?_
              rotate_left
              ·show Act.put _ (some 49) _ = _
               simp only [Act.put, List.setIfInBounds_toArray, List.set_cons_zero, List.set_cons_succ, i64_w, i32_w]
               rfl
              refine one_ (i := 6) (N := some 54) #[true, true, true, true, true, true, true, false, false, false, false, false, false, false, false, false, false, false, false, false, false, false, false, false] rfl rfl (one_of HT_.out (by kernel_rfl)) (by decide) (fun K hK => ?_)
              refine goes_ Try.func17 (by kernel_rfl) rfl #[.agg #[.slice Ao39 t456.length co39], .int .i64 t435, .int .u64 t436] (by rfl) rfl rfl (by (try simp only [List.map_toArray, List.map_cons, List.map_nil]); first | done | rfl | (simp only [List.length_drop, List.length_take]; rfl)) ?_
              with_reducible refine (lapidaryref08_Is.calls k2 _ _ t456 t435 t436 true _ ?side1 ?side2 A29.out).mono ?_
              (case side1 => repeat (first | exact (Kd.R_reads' HO458.out).2.2 | (with_reducible refine Kd.C_alloc ?_ _) | (with_reducible refine Kd.C_drewN ?_ _) | (with_reducible refine Kd.C_drew ?_)))
              (case side2 => exact (Kd.R_reads' HO458.out).2.1)
              rintro e w40 ⟨rfl, hb⟩
              refine ⟨_, rfl, ?_⟩
              have n0_ := Aside0.mk (Kd.R_below (rK HO_7) hb)
              have n1_ := Aside0.mk (Kd.R_below (rK HO_8) hb)
              have n2_ := Aside0.mk (Kd.R_below (rK HO458) hb)
              have n3_ := Aside0.mk (blk_below (g := gb437) (o := .cells #[.int .i64 t435, .int .u64 t436] 31 (0, 0)) (bK BK437) hb)
              have n4_ := Aside0.mk (below_step (bH HB) hb)
              clear HO_7
              clear HO_8
              clear HO458
              clear BK437
              clear HB
              have HO_7 := n0_
              have HO_8 := n1_
              have HO458 := n2_
              have BK437 := n3_
              have HB := n4_
              clear n0_ n1_ n2_ n3_ n4_
              (try clear hb)
              (try clear hb2)
              (try clear hk)
              (try clear hi)
              obtain ⟨Ao41, co41, eo41⟩ := Kd.R_slice HO_7.out
              (first | subst eo41 | (injection eo41 with f1_ f2_ f3_; have f4_ := f1_.symm; have f5_ := f3_.symm; clear f1_ f2_ f3_; subst f4_; subst f5_))
              refine hK.out _ _ ⟨(blk_cell BK437.out 0).trans rfl, (blk_cell BK437.out 1).trans rfl⟩ (fun hHeld => ?_)
              clear hK K
              refine norm_ (a' := ?_) ?_ ?_
              rotate_left
              ·show Act.put _ (some 54) _ = _
               simp only [Act.put, List.setIfInBounds_toArray, List.set_cons_zero, List.set_cons_succ, i64_w, i32_w]
               rfl
              refine pure_ (i := 7) (N := some 55) (v := ?_) (a' := ?_) #[true, true, true, true, true, true, true, true, false, false, false, false, false, false, false, false, false, false, false, false, false, false, false, false] rfl rfl (any_of HT_.out (by kernel_rfl)) (fun _ _ _ h => h) (Or.inl ⟨by rfl, ?_⟩) ?_ ?_
              rotate_left
              ·intro w'
               go_simp
               with_reducible rfl
              rotate_left
              ·simp only [Act.put, List.setIfInBounds_toArray, List.set_cons_zero, List.set_cons_succ, i64_w, i32_w]
               rfl
              refine pure_ (i := 8) (N := some 56) (v := ?_) (a' := ?_) #[true, true, true, true, true, true, true, true, true, false, false, false, false, false, false, false, false, false, false, false, false, false, false, false] rfl rfl (any_of HT_.out (by kernel_rfl)) (fun _ _ _ h => h) (Or.inl ⟨by rfl, ?_⟩) ?_ ?_
              rotate_left
              ·intro w'
               go_simp
               with_reducible rfl
              rotate_left
              ·simp only [Act.put, List.setIfInBounds_toArray, List.set_cons_zero, List.set_cons_succ, i64_w, i32_w]
               rfl
              refine take_ (i := 10) (N := some 58) (v := ?_) (a' := ?_) #[true, true, true, true, true, true, true, true, true, false, true, false, false, false, false, false, false, false, false, false, false, false, false, false] rfl rfl (take_ofW HT_.out HW_.out (by kernel_rfl)) (fun _ _ _ h => h) (Or.inl ⟨by rfl, ?_⟩) hHeld ?_ ?_
              rotate_left
              ·rintro w' ⟨s0, s1⟩
               go_simp
               with_reducible rfl
              rotate_left
              ·simp only [Act.put, List.setIfInBounds_toArray, List.set_cons_zero, List.set_cons_succ, i64_w, i32_w]
               rfl
              refine one_ (i := 9) (N := some 57) #[true, true, true, true, true, true, true, true, true, true, true, false, false, false, false, false, false, false, false, false, false, false, false, false] rfl rfl (one_of HT_.out (by kernel_rfl)) (by decide) (fun K hK => ?_)
              refine goes_ Try.func16 (by kernel_rfl) rfl #[.slice Ao41 y449.length co41] (by rfl) rfl rfl (by (try simp only [List.map_toArray, List.map_cons, List.map_nil]); first | done | rfl | (simp only [List.length_drop, List.length_take]; rfl)) ?_
              with_reducible refine (geom_Area.calls k2 _ _ y449 t460 t461 _ ?side1 ?side2 A31.out).mono ?_
              (case side1 => repeat (first | exact (Kd.R_reads' HO_7.out).2.2 | (with_reducible refine Kd.C_alloc ?_ _) | (with_reducible refine Kd.C_drewN ?_ _) | (with_reducible refine Kd.C_drew ?_)))
              (case side2 => exact (Kd.R_reads' HO_7.out).2.1)
              rintro e w42 ⟨rfl, hb⟩
              refine ⟨_, rfl, ?_⟩
              have n0_ := Aside0.mk (Kd.R_below (rK HO_7) hb)
              have n1_ := Aside0.mk (Kd.R_below (rK HO_8) hb)
              have n2_ := Aside0.mk (Kd.R_below (rK HO458) hb)
              have n3_ := Aside0.mk (blk_below (g := gb437) (o := .cells #[.int .i64 t435, .int .u64 t436] 31 (0, 0)) (bK BK437) hb)
              have n4_ := Aside0.mk (below_step (bH HB) hb)
              clear HO_7
              clear HO_8
              clear HO458
              clear BK437
              clear HB
              have HO_7 := n0_
              have HO_8 := n1_
              have HO458 := n2_
              have BK437 := n3_
              have HB := n4_
              clear n0_ n1_ n2_ n3_ n4_
              (try clear hb)
              (try clear hb2)
              (try clear hk)
              (try clear hi)
              obtain ⟨Ao43, co43, eo43⟩ := Kd.R_slice HO_8.out
              (first | subst eo43 | (injection eo43 with f1_ f2_ f3_; have f4_ := f1_.symm; have f5_ := f3_.symm; clear f1_ f2_ f3_; subst f4_; subst f5_))
              refine hK.out _ _ ⟨(blk_cell BK437.out 0).trans rfl, (blk_cell BK437.out 1).trans rfl⟩ (fun hHeld => ?_)
              clear hK K
              refine norm_ (a' := ?_) ?_ ?_
              rotate_left
              ·show Act.put _ (some 57) _ = _
               simp only [Act.put, List.setIfInBounds_toArray, List.set_cons_zero, List.set_cons_succ, i64_w, i32_w]
               rfl
              refine pure_ (i := 11) (N := some 59) (v := ?_) (a' := ?_) #[true, true, true, true, true, true, true, true, true, true, true, true, false, false, false, false, false, false, false, false, false, false, false, false] rfl rfl (any_of HT_.out (by kernel_rfl)) (fun _ _ _ h => h) (Or.inl ⟨by rfl, ?_⟩) ?_ ?_
              rotate_left
              ·intro w'
               go_simp
               with_reducible rfl
              rotate_left
              ·simp only [Act.put, List.setIfInBounds_toArray, List.set_cons_zero, List.set_cons_succ, i64_w, i32_w]
               rfl
              refine pure_ (i := 12) (N := some 60) (v := ?_) (a' := ?_) #[true, true, true, true, true, true, true, true, true, true, true, true, true, false, false, false, false, false, false, false, false, false, false, false] rfl rfl (any_of HT_.out (by kernel_rfl)) (fun _ _ _ h => h) (Or.inl ⟨by rfl, ?_⟩) ?_ ?_
              rotate_left
              ·intro w'
               go_simp
               with_reducible rfl
              rotate_left
              ·simp only [Act.put, List.setIfInBounds_toArray, List.set_cons_zero, List.set_cons_succ, i64_w, i32_w]
               rfl
              refine pure_ (i := 13) (N := some 61) (v := ?_) (a' := ?_) #[true, true, true, true, true, true, true, true, true, true, true, true, true, true, false, false, false, false, false, false, false, false, false, false] rfl rfl (any_of HT_.out (by kernel_rfl)) (fun _ _ _ h => h) (Or.inl ⟨by rfl, ?_⟩) ?_ ?_
              rotate_left
              ·intro w'
               go_simp
               with_reducible rfl
              rotate_left
              ·simp only [Act.put, List.setIfInBounds_toArray, List.set_cons_zero, List.set_cons_succ, i64_w, i32_w]
               rfl
              refine pure_ (i := 14) (N := some 62) (v := ?_) (a' := ?_) #[true, true, true, true, true, true, true, true, true, true, true, true, true, true, true, false, false, false, false, false, false, false, false, false] rfl rfl (any_of HT_.out (by kernel_rfl)) (fun _ _ _ h => h) (Or.inl ⟨by rfl, ?_⟩) ?_ ?_
              rotate_left
              ·intro w'
               go_simp
               with_reducible rfl
              rotate_left
              ·simp only [Act.put, List.setIfInBounds_toArray, List.set_cons_zero, List.set_cons_succ, i64_w, i32_w]
               rfl
              refine take_ (i := 16) (N := some 64) (v := ?_) (a' := ?_) #[true, true, true, true, true, true, true, true, true, true, true, true, true, true, true, false, true, false, false, false, false, false, false, false] rfl rfl (take_ofW HT_.out HW_.out (by kernel_rfl)) (fun _ _ _ h => h) (Or.inl ⟨by rfl, ?_⟩) hHeld ?_ ?_
              rotate_left
              ·rintro w' ⟨s0, s1⟩
               go_simp
               with_reducible rfl
              rotate_left
              ·simp only [Act.put, List.setIfInBounds_toArray, List.set_cons_zero, List.set_cons_succ, i64_w, i32_w]
               rfl
              refine one_ (i := 15) (N := some 63) #[true, true, true, true, true, true, true, true, true, true, true, true, true, true, true, true, true, false, false, false, false, false, false, false] rfl rfl (one_of HT_.out (by kernel_rfl)) (by decide) (fun K hK => ?_)
              refine goes_ Try.func16 (by kernel_rfl) rfl #[.slice Ao43 x8_2.length co43] (by rfl) rfl rfl (by (try simp only [List.map_toArray, List.map_cons, List.map_nil]); first | done | rfl | (simp only [List.length_drop, List.length_take]; rfl)) ?_
              with_reducible refine (geom_Area.calls k2 _ _ x8_2 t462 t463 _ ?side1 ?side2 A33.out).mono ?_
              (case side1 => repeat (first | exact (Kd.R_reads' HO_8.out).2.2 | (with_reducible refine Kd.C_alloc ?_ _) | (with_reducible refine Kd.C_drewN ?_ _) | (with_reducible refine Kd.C_drew ?_)))
              (case side2 => exact (Kd.R_reads' HO_8.out).2.1)
              rintro e w44 ⟨rfl, hb⟩
              refine ⟨_, rfl, ?_⟩
              have n0_ := Aside0.mk (Kd.R_below (rK HO_7) hb)
              have n1_ := Aside0.mk (Kd.R_below (rK HO_8) hb)
              have n2_ := Aside0.mk (Kd.R_below (rK HO458) hb)
              have n3_ := Aside0.mk (blk_below (g := gb437) (o := .cells #[.int .i64 t435, .int .u64 t436] 31 (0, 0)) (bK BK437) hb)
              have n4_ := Aside0.mk (below_step (bH HB) hb)
              clear HO_7
              clear HO_8
              clear HO458
              clear BK437
              clear HB
              have HO_7 := n0_
              have HO_8 := n1_
              have HO458 := n2_
              have BK437 := n3_
              have HB := n4_
              clear n0_ n1_ n2_ n3_ n4_
              (try clear hb)
              (try clear hb2)
              (try clear hk)
              (try clear hi)
              refine hK.out _ _ ⟨(blk_cell BK437.out 0).trans rfl, (blk_cell BK437.out 1).trans rfl⟩ (fun hHeld => ?_)
              clear hK K
              refine norm_ (a' := ?_) ?_ ?_
              rotate_left
              ·show Act.put _ (some 63) _ = _
               simp only [Act.put, List.setIfInBounds_toArray, List.set_cons_zero, List.set_cons_succ, i64_w, i32_w]
               rfl
              refine one_ (i := 17) (N := some 65) #[true, true, true, true, true, true, true, true, true, true, true, true, true, true, true, true, true, true, false, false, false, false, false, false] rfl rfl (one_of HT_.out (by kernel_rfl)) (by decide) (fun K hK => ?_)
              refine goes_ Try.func19 (by kernel_rfl) rfl #[.agg #[.int .i64 t435, .int .u64 t436]] (by rfl) rfl rfl (by (try simp only [List.map_toArray, List.map_cons, List.map_nil]); first | done | rfl | (simp only [List.length_drop, List.length_take]; rfl)) ?_
              with_reducible refine (wide_Neg.calls k2 t435 t436 t464 t465 _ A34.out).mono ?_
              rintro e w45 ⟨rfl, hb⟩
              refine ⟨_, rfl, ?_⟩
              have n0_ := Aside0.mk (Kd.R_below (rK HO_7) hb)
              have n1_ := Aside0.mk (Kd.R_below (rK HO_8) hb)
              have n2_ := Aside0.mk (Kd.R_below (rK HO458) hb)
              have n3_ := Aside0.mk (blk_below (g := gb437) (o := .cells #[.int .i64 t435, .int .u64 t436] 31 (0, 0)) (bK BK437) hb)
              have n4_ := Aside0.mk (below_step (bH HB) hb)
              clear HO_7
              clear HO_8
              clear HO458
              clear BK437
              clear HB
              have HO_7 := n0_
              have HO_8 := n1_
              have HO458 := n2_
              have BK437 := n3_
              have HB := n4_
              clear n0_ n1_ n2_ n3_ n4_
              (try clear hb)
              (try clear hb2)
              (try clear hk)
              (try clear hi)
              refine hK.out _ _ ⟨(blk_cell BK437.out 0).trans rfl, (blk_cell BK437.out 1).trans rfl⟩ (fun hHeld => ?_)
              clear hK K
              refine norm_ (a' := ?_) ?_ ?_
              rotate_left
              ·show Act.put _ (some 65) _ = _
               simp only [Act.put, List.setIfInBounds_toArray, List.set_cons_zero, List.set_cons_succ, i64_w, i32_w]
               rfl
              refine pure_ (i := 18) (N := some 66) (v := ?_) (a' := ?_) #[true, true, true, true, true, true, true, true, true, true, true, true, true, true, true, true, true, true, true, false, false, false, false, false] rfl rfl (any_of HT_.out (by kernel_rfl)) (fun _ _ _ h => h) (Or.inl ⟨by rfl, ?_⟩) ?_ ?_
              rotate_left
              ·intro w'
               go_simp
               with_reducible rfl
              rotate_left
              ·simp only [Act.put, List.setIfInBounds_toArray, List.set_cons_zero, List.set_cons_succ, i64_w, i32_w]
               rfl
              refine pure_ (i := 19) (N := some 67) (v := ?_) (a' := ?_) #[true, true, true, true, true, true, true, true, true, true, true, true, true, true, true, true, true, true, true, true, false, false, false, false] rfl rfl (any_of HT_.out (by kernel_rfl)) (fun _ _ _ h => h) (Or.inl ⟨by rfl, ?_⟩) ?_ ?_
              rotate_left
              ·intro w'
               go_simp
               with_reducible rfl
              rotate_left
              ·simp only [Act.put, List.setIfInBounds_toArray, List.set_cons_zero, List.set_cons_succ, i64_w, i32_w]
               rfl
              refine pure_ (i := 20) (N := some 68) (v := ?_) (a' := ?_) #[true, true, true, true, true, true, true, true, true, true, true, true, true, true, true, true, true, true, true, true, true, false, false, false] rfl rfl (any_of HT_.out (by kernel_rfl)) (fun _ _ _ h => h) (Or.inl ⟨by rfl, ?_⟩) ?_ ?_
              rotate_left
              ·intro w'
               go_simp
               with_reducible rfl
              rotate_left
              ·simp only [Act.put, List.setIfInBounds_toArray, List.set_cons_zero, List.set_cons_succ, i64_w, i32_w]
               rfl
              refine one_ (i := 21) (N := some 69) #[true, true, true, true, true, true, true, true, true, true, true, true, true, true, true, true, true, true, true, true, true, true, false, false] rfl rfl (one_of HT_.out (by kernel_rfl)) (by decide) (fun K hK => ?_)
              refine goes_ Try.func13 (by kernel_rfl) rfl #[] (by rfl) rfl rfl (by (try simp only [List.map_toArray, List.map_cons, List.map_nil]); first | done | rfl | (simp only [List.length_drop, List.length_take]; rfl)) ?_
              with_reducible refine (lapidarylaw09_known.calls k2  t466 _ A36.out).mono ?_
              rintro e w46 ⟨rfl, hb⟩
              refine ⟨_, rfl, ?_⟩
              have n0_ := Aside0.mk (Kd.R_below (rK HO_7) hb)
              have n1_ := Aside0.mk (Kd.R_below (rK HO_8) hb)
              have n2_ := Aside0.mk (Kd.R_below (rK HO458) hb)
              have n3_ := Aside0.mk (blk_below (g := gb437) (o := .cells #[.int .i64 t435, .int .u64 t436] 31 (0, 0)) (bK BK437) hb)
              have n4_ := Aside0.mk (below_step (bH HB) hb)
              clear HO_7
              clear HO_8
              clear HO458
              clear BK437
              clear HB
              have HO_7 := n0_
              have HO_8 := n1_
              have HO458 := n2_
              have BK437 := n3_
              have HB := n4_
              clear n0_ n1_ n2_ n3_ n4_
              (try clear hb)
              (try clear hb2)
              (try clear hk)
              (try clear hi)
              refine hK.out _ _ ⟨(blk_cell BK437.out 0).trans rfl, (blk_cell BK437.out 1).trans rfl⟩ (fun hHeld => ?_)
              clear hK K
              refine norm_ (a' := ?_) ?_ ?_
              rotate_left
              ·show Act.put _ (some 69) _ = _
               simp only [Act.put, List.setIfInBounds_toArray, List.set_cons_zero, List.set_cons_succ, i64_w, i32_w]
               rfl
              refine pure_ (i := 22) (N := some 70) (v := ?_) (a' := ?_) #[true, true, true, true, true, true, true, true, true, true, true, true, true, true, true, true, true, true, true, true, true, true, true, false] rfl rfl (any_of HT_.out (by kernel_rfl)) (fun _ _ _ h => h) (Or.inl ⟨by rfl, ?_⟩) ?_ ?_
              rotate_left
              ·intro w'
               go_simp
               with_reducible rfl
              rotate_left
              ·simp only [Act.put, List.setIfInBounds_toArray, List.set_cons_zero, List.set_cons_succ, i64_w, i32_w]
               rfl
              refine pure_ (i := 23) (N := some 4) (v := ?_) (a' := ?_) #[true, true, true, true, true, true, true, true, true, true, true, true, true, true, true, true, true, true, true, true, true, true, true, true] rfl rfl (any_of HT_.out (by kernel_rfl)) (fun _ _ _ h => h) (Or.inl ⟨by rfl, ?_⟩) ?_ ?_
              rotate_left
              ·intro w'
               go_simp
               with_reducible rfl
              rotate_left
              ·simp only [Act.put, List.setIfInBounds_toArray, List.set_cons_zero, List.set_cons_succ, i64_w, i32_w]
               rfl
              refine done_ (done_of HT_.out (by kernel_rfl)) ?_
              try go_wp2
              go_ret
              exact ⟨by first | rfl | (simp [errW_none, errW_some] <;> rfl) | (simp [*, errW_none, errW_some] <;> rfl), bH HB⟩
             ·rw [if_neg c35] at H
              exact absurd H (by simp)
            ·rw [if_neg c32] at H
             exact absurd H (by simp)
           ·replace c30 := Bool.eq_false_iff.mpr c30
            subst c30
            have H1 : (none) = some r := by rw [if_neg (show ¬ (false = true) by decide)] at H; exact H
            clear H
            have H := H1
            clear H1
            exact absurd H (by simp)
       ·rw [if_neg c18] at H
        exact absurd H (by simp)
      ·rw [if_neg c15] at H
       exact absurd H (by simp)
     ·rw [if_neg c14] at H
      exact absurd H (by simp)
    ·rw [if_neg c13] at H
     exact absurd H (by simp)

end Go.Proofs.Ytlnjbpapbifjfaa.P
