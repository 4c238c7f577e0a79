/- Written for this claim by a program of this session (a turned copy of the print): Go functions as Lean functions, and that the Go code comes to just these answers; or a statement proved out of them. No condition. -/
import Derived.Test.YtlnjbpapbifjfaaPx0
import Derived.Test.YtlnjbpapbifjfaaPx1
import Derived.Test.YtlnjbpapbifjfaaPx3
import Derived.Test.YtlnjbpapbifjfaaPx12
import Derived.Test.YtlnjbpapbifjfaaPx16
import Derived.Test.YtlnjbpapbifjfaaPx30
import Derived.Test.YtlnjbpapbifjfaaPx43
namespace Go.Proofs.Ytlnjbpapbifjfaa.P
open Go.RowKit Go.Proofs.YtlnjbpapbifjfaaW.PrintWords Go.Proofs.YtlnjbpapbifjfaaW.PrintLast Go.Proofs.YtlnjbpapbifjfaaW.PrintMore Go.Proofs.Ytlnjbpapbifjfaa.X
attribute [local go_sem] max2_int min2_int max_two min_two max_three min_three max_four min_four add64_0 add64_1 add64   -- for this text's walks alone
set_option linter.unusedVariables false
set_option linter.unusedSimpArgs false

attribute [local go_sem high] eqA23
/-! ### lapidarylaw09_GeomEnds: function 9 -/
mutual
def lapidarylaw09_GeomEnds.j0 : Nat → List (S23) → Bool → Int → Int → Int → Int → Int → Int → Option (Bool)
  | 0, _, _, _, _, _, _, _, _ => none
  | k + 1, x2, x22, x571000, x571001, x571002, x572000, x572001, x572002 => if x22 = true then ((lapidarylaw09_known.f k).bind fun t577 => (some t577)) else (lapidarylaw09_GeomEnds.l0 k x2 0 x571000 x571001 x571002 x572000 x572001 x572002)
def lapidarylaw09_GeomEnds.l0 : Nat → List (S23) → Int → Int → Int → Int → Int → Int → Int → Option (Bool)
  | 0, _, _, _, _, _, _, _, _ => none
  | k + 1, x2, x7, x571000, x571001, x571002, x572000, x572001, x572002 => if x7 < (x2.length : Int) then (if 0 ≤ x7 then ((geom_In.f k ((rd_T23 x2 x7).f0) ((rd_T23 x2 x7).f1) ((rd_T23 x2 x7).f2) x2).bind fun t579 => (if t579 = 0 then ((geom_On.f k ((rd_T23 x2 x7).f0) ((rd_T23 x2 x7).f1) ((rd_T23 x2 x7).f2) x571000 x571001 x571002 x572000 x572001 x572002).bind fun t581 => ((geom_On.f k ((rd_T23 x2 x7).f0) ((rd_T23 x2 x7).f1) ((rd_T23 x2 x7).f2) x572000 x572001 x572002 x571000 x571001 x571002).bind fun t583 => (if (t581 != t583) = true then (none) else (lapidarylaw09_GeomEnds.l0 k x2 (wrap64 (x7 + 1)) x571000 x571001 x571002 x572000 x572001 x572002)))) else (none))) else (none)) else ((geom_On.f k x571000 x571001 x571002 x571000 x571001 x571002 x572000 x572001 x572002).bind fun t584 => (if t584 = true then ((geom_On.f k x572000 x572001 x572002 x571000 x571001 x571002 x572000 x572001 x572002).bind fun t585 => (if t585 = true then ((geom_Meet.f k x571000 x571001 x571002 x572000 x572001 x572002 x571000 x571001 x571002 x571000 x571001 x571002).bind fun t586 => (if t586 = 1 then ((geom_Meet.f k x571000 x571001 x571002 x572000 x572001 x572002 x572000 x572001 x572002 x571000 x571001 x571002).bind fun t587 => (if ((t587 == 3) == (!(x571000 == x572000) || (!(x571001 == x572001) || (!(x571002 == x572002))))) = true then ((lapidarylaw09_known.f k).bind fun t588 => (some t588)) else (none))) else (none))) else (none))) else (none)))
end
def lapidarylaw09_GeomEnds.f (k : Nat) (a0_0 : Int) (a0_1 : Int) (a0_2 : Int) (a1_0 : Int) (a1_1 : Int) (a1_2 : Int) (l2 : List (S23)) : Option (Bool) := (geom_Right.f k (([(⟨a0_0, a0_1, a0_2⟩ : S23), (⟨a1_0, a1_1, a1_2⟩ : S23)] : List (S23)))).bind fun t575 => (if t575 = true then ((geom_Right.f k l2).bind fun t576 => (if t576 = true then (lapidarylaw09_GeomEnds.j0 k l2 (decide ((l2.length : Int) > 60)) a0_0 a0_1 a0_2 a1_0 a1_1 a1_2) else (lapidarylaw09_GeomEnds.j0 k l2 true a0_0 a0_1 a0_2 a1_0 a1_1 a1_2))) else (lapidarylaw09_GeomEnds.j0 k l2 true a0_0 a0_1 a0_2 a1_0 a1_1 a1_2))
theorem lapidarylaw09_GeomEnds.mono_l : ∀ k, (∀ y0 y1 y2 y3 y4 y5 y6 y7, LeO (lapidarylaw09_GeomEnds.j0 k y0 y1 y2 y3 y4 y5 y6 y7) (lapidarylaw09_GeomEnds.j0 (k + 1) y0 y1 y2 y3 y4 y5 y6 y7)) ∧ (∀ y0 y1 y2 y3 y4 y5 y6 y7, LeO (lapidarylaw09_GeomEnds.l0 k y0 y1 y2 y3 y4 y5 y6 y7) (lapidarylaw09_GeomEnds.l0 (k + 1) y0 y1 y2 y3 y4 y5 y6 y7))
  | 0 => ⟨fun _ _ _ _ _ _ _ _ r h => by simp [lapidarylaw09_GeomEnds.j0] at h, fun _ _ _ _ _ _ _ _ r h => by simp [lapidarylaw09_GeomEnds.l0] at h⟩
  | k + 1 => by
    obtain ⟨ih0, ih1⟩ := lapidarylaw09_GeomEnds.mono_l k
    refine ⟨?_, ?_⟩
    · intro y0 y1 y2 y3 y4 y5 y6 y7
      unfold lapidarylaw09_GeomEnds.j0
      repeat' first
      | (with_reducible exact ih0 _ _ _ _ _ _ _ _)
      | (with_reducible exact ih1 _ _ _ _ _ _ _ _)
      | (with_reducible exact geom_In.mono _ _ _ _ _)
      | (with_reducible exact geom_Meet.mono _ _ _ _ _ _ _ _ _ _ _ _ _)
      | (with_reducible exact geom_On.mono _ _ _ _ _ _ _ _ _ _)
      | (with_reducible exact geom_Right.mono _ _)
      | (with_reducible exact lapidarylaw09_known.mono _)
      | (with_reducible exact LeO.refl _)
      | (with_reducible exact LeO.none _)
      | (with_reducible refine LeO.ite ?_ ?_)
      | (with_reducible refine LeO.bind ?_ (fun _ => ?_))
      | exact ih0 _ _ _ _ _ _ _ _
      | exact ih1 _ _ _ _ _ _ _ _
      | exact geom_In.mono _ _ _ _ _
      | exact geom_Meet.mono _ _ _ _ _ _ _ _ _ _ _ _ _
      | exact geom_On.mono _ _ _ _ _ _ _ _ _ _
      | exact geom_Right.mono _ _
      | exact lapidarylaw09_known.mono _
      | exact LeO.none _
      | refine LeO.ite ?_ ?_
      | refine LeO.bind ?_ (fun _ => ?_)
    · intro y0 y1 y2 y3 y4 y5 y6 y7
      unfold lapidarylaw09_GeomEnds.l0
      repeat' first
      | (with_reducible exact ih0 _ _ _ _ _ _ _ _)
      | (with_reducible exact ih1 _ _ _ _ _ _ _ _)
      | (with_reducible exact geom_In.mono _ _ _ _ _)
      | (with_reducible exact geom_Meet.mono _ _ _ _ _ _ _ _ _ _ _ _ _)
      | (with_reducible exact geom_On.mono _ _ _ _ _ _ _ _ _ _)
      | (with_reducible exact geom_Right.mono _ _)
      | (with_reducible exact lapidarylaw09_known.mono _)
      | (with_reducible exact LeO.refl _)
      | (with_reducible exact LeO.none _)
      | (with_reducible refine LeO.ite ?_ ?_)
      | (with_reducible refine LeO.bind ?_ (fun _ => ?_))
      | exact ih0 _ _ _ _ _ _ _ _
      | exact ih1 _ _ _ _ _ _ _ _
      | exact geom_In.mono _ _ _ _ _
      | exact geom_Meet.mono _ _ _ _ _ _ _ _ _ _ _ _ _
      | exact geom_On.mono _ _ _ _ _ _ _ _ _ _
      | exact geom_Right.mono _ _
      | exact lapidarylaw09_known.mono _
      | exact LeO.none _
      | refine LeO.ite ?_ ?_
      | refine LeO.bind ?_ (fun _ => ?_)
theorem lapidarylaw09_GeomEnds.mono : ∀ a0 a1 a2 a3 a4 a5 a6 k, LeO (lapidarylaw09_GeomEnds.f k a0 a1 a2 a3 a4 a5 a6) (lapidarylaw09_GeomEnds.f (k + 1) a0 a1 a2 a3 a4 a5 a6) := by
  intro a0 a1 a2 a3 a4 a5 a6 k
  obtain ⟨ih0, ih1⟩ := lapidarylaw09_GeomEnds.mono_l k
  unfold lapidarylaw09_GeomEnds.f
  repeat' first
      | (with_reducible exact ih0 _ _ _ _ _ _ _ _)
      | (with_reducible exact ih1 _ _ _ _ _ _ _ _)
      | (with_reducible exact geom_In.mono _ _ _ _ _)
      | (with_reducible exact geom_Meet.mono _ _ _ _ _ _ _ _ _ _ _ _ _)
      | (with_reducible exact geom_On.mono _ _ _ _ _ _ _ _ _ _)
      | (with_reducible exact geom_Right.mono _ _)
      | (with_reducible exact lapidarylaw09_known.mono _)
      | (with_reducible exact LeO.refl _)
      | (with_reducible exact LeO.none _)
      | (with_reducible refine LeO.ite ?_ ?_)
      | (with_reducible refine LeO.bind ?_ (fun _ => ?_))
      | exact ih0 _ _ _ _ _ _ _ _
      | exact ih1 _ _ _ _ _ _ _ _
      | exact geom_In.mono _ _ _ _ _
      | exact geom_Meet.mono _ _ _ _ _ _ _ _ _ _ _ _ _
      | exact geom_On.mono _ _ _ _ _ _ _ _ _ _
      | exact geom_Right.mono _ _
      | exact lapidarylaw09_known.mono _
      | exact LeO.none _
      | refine LeO.ite ?_ ?_
      | refine LeO.bind ?_ (fun _ => ?_)
def lapidarylaw09_GeomEnds.T6 : Bool × List (List Nat × List Nat) := (true, [([], []), ([], []), ([0, 1], [0, 1]), ([2], [2]), ([], []), ([3, 4], [3, 4]), ([5], [5]), ([6, 5], [6]), ([7], [7]), ([7], [7]), ([8, 9, 7], [7, 8, 9]), ([10, 7], [7, 10]), ([7], [7]), ([7], [7]), ([11, 12, 13, 7, 7], [7, 11, 12, 13]), ([7], [7]), ([7], [7]), ([15, 16, 7], [7, 15, 16]), ([17, 7], [7, 17]), ([7], [7]), ([7], [7]), ([18, 19, 20, 14, 7], [7, 18, 19, 20]), ([14, 21, 7], [7, 14, 21]), ([7, 22], [7, 22])])
def lapidarylaw09_GeomEnds.B6 : List Nat := [0, 0, 3, 7, 0, 31, 63, 127, 255, 255, 1023, 2047, 255, 255, 16383, 255, 255, 98559, 229631, 255, 255, 2097151, 4194303, 8388607]
theorem lapidarylaw09_GeomEnds.tab6 : rtab .any (opsOf Try.f9 6) = lapidarylaw09_GeomEnds.T6 := by kernel_rfl
theorem lapidarylaw09_GeomEnds.bits6 : waitsOk lapidarylaw09_GeomEnds.T6.2 lapidarylaw09_GeomEnds.B6 = true := by kernel_rfl
def lapidarylaw09_GeomEnds.T8 : Bool × List (List Nat × List Nat) := (true, [([], []), ([], []), ([], []), ([0, 1, 2], [0, 1, 2]), ([3, 3], [3]), ([4], [4]), ([4], [4]), ([4], [4]), ([5, 6, 7, 4, 4], [4, 5, 6, 7]), ([4, 8], [4, 8]), ([9, 8], [9]), ([10], [10]), ([10], [10]), ([10], [10]), ([10], [10]), ([11, 12, 13, 14, 10, 10], [10, 11, 12, 13, 14]), ([15, 10], [10, 15]), ([10, 16], [10, 16]), ([17, 15], [17]), ([18], [18]), ([18], [18]), ([18], [18]), ([18], [18]), ([19, 20, 21, 22, 18, 18], [18, 19, 20, 21, 22]), ([23, 18], [18, 23]), ([18], [18]), ([18], [18]), ([25, 26, 18], [18, 25, 26]), ([24, 27, 18], [18, 24, 27]), ([18, 28], [18, 28]), ([29, 23], [29]), ([30, 30], [30]), ([30, 31], [30, 31]), ([32, 31, 0, 1, 2, 3, 4, 5, 6, 7, 8, 9, 10, 11, 12, 13, 14, 15, 16, 17, 18, 19, 20, 21, 22, 23, 24, 25, 26, 27, 28, 29, 30, 31, 32], [32])])
def lapidarylaw09_GeomEnds.B8 : List Nat := [0, 0, 0, 7, 15, 31, 31, 31, 255, 511, 1023, 2047, 2047, 2047, 2047, 32767, 65535, 131071, 262143, 524287, 524287, 524287, 524287, 8388607, 16777215, 524287, 524287, 101187583, 268435455, 536870911, 1073741823, 2147483647, 4294967295, 8589934591]
theorem lapidarylaw09_GeomEnds.tab8 : rtab .any (opsOf Try.f9 8) = lapidarylaw09_GeomEnds.T8 := by kernel_rfl
theorem lapidarylaw09_GeomEnds.bits8 : waitsOk lapidarylaw09_GeomEnds.T8.2 lapidarylaw09_GeomEnds.B8 = true := by kernel_rfl
set_option maxHeartbeats 8000000 in
set_option maxRecDepth 100000 in
theorem lapidarylaw09_GeomEnds.calls (k : Nat) (a0_0 : Int) (a0_1 : Int) (a0_2 : Int) (a1_0 : Int) (a1_1 : Int) (a1_2 : Int) (A2 : Option Addr) (c2 : Nat) (l2 : List (S23)) (r : Bool) (w : World) (hr2 : Kd.C k23 w A2 l2.length l2) (hc2 : l2.length ≤ c2) (h : lapidarylaw09_GeomEnds.f k a0_0 a0_1 a0_2 a1_0 a1_1 a1_2 l2 = some r) :
    Calls Try.prog 9 #[.agg #[.int .i64 a0_0, .int .i64 a0_1, .int .i64 a0_2], .agg #[.int .i64 a1_0, .int .i64 a1_1, .int .i64 a1_2], .slice A2 l2.length c2] w fun e w' => e = .returned (.bool r) ∧ Below w.heap.size w w' := by
  have hu23 := Try.underlying23
  have HR2 := Aside0.mk hr2
  have HC2 := Aside0.mk hc2
  clear hr2 hc2
  have HB := Aside0.mk (Below.refl w.heap.size w)
  have H : ((geom_Right.f k (([(⟨a0_0, a0_1, a0_2⟩ : S23), (⟨a1_0, a1_1, a1_2⟩ : S23)] : List (S23)))).bind fun t575 => (if t575 = true then ((geom_Right.f k l2).bind fun t576 => (if t576 = true then (lapidarylaw09_GeomEnds.j0 k l2 (decide ((l2.length : Int) > 60)) a0_0 a0_1 a0_2 a1_0 a1_1 a1_2) else (lapidarylaw09_GeomEnds.j0 k l2 true a0_0 a0_1 a0_2 a1_0 a1_1 a1_2))) else (lapidarylaw09_GeomEnds.j0 k l2 true a0_0 a0_1 a0_2 a1_0 a1_1 a1_2))) = some r := h
  clear h
  have HC4 := Aside0.mk H
  clear H
  go_enter Try.func9, Try.ntmps9
  go_upto_region 1 with (first | ((with_reducible refine gate_dst (N := 3) rfl ?_); (try (refine gate_guard (by rfl) ?_; dsimp only)); refine box_event ?hg (N := 3) ?hd (cs := #[.int .i64 a0_0, .int .i64 a0_1, .int .i64 a0_2]) (t := 23) ?hr ?_; (case hd => rfl); (case hg => rfl); (case hr => first | (go_simp; done) | (go_simp; rfl)); intro gb570 hg w5 hbox hb; have n0_ := Aside0.mk (below_step (by repeat (first | (with_reducible first | exact HB.out | apply below_alloc | apply pw_below_drewN | apply below_drew1) | exact HB.out)) hb); have n1_ := Aside0.mk (hbox); have n2_ := Aside0.mk ((by rw [hg]; exact (below_size (by repeat (first | (with_reducible first | exact HB.out | apply below_alloc | apply pw_below_drewN | apply below_drew1) | exact HB.out))) : w.heap.size ≤ gb570)); have n3_ := Aside0.mk ((by rw [hg]; exact (below_size (by repeat (first | (with_reducible first | exact HB.out | apply below_alloc | apply pw_below_drewN | apply below_drew1) | exact HB.out))) : w.heap.size ≤ gb570)); clear HB; have HB := n0_; have BK570 := n1_; have GW570 := n2_; have GE570 := n3_; clear n0_ n1_ n2_ n3_; clear hb hbox hg) | ((with_reducible refine gate_dst (N := 4) rfl ?_); (try (refine gate_guard (by rfl) ?_; dsimp only)); refine box_event ?hg (N := 4) ?hd (cs := #[.int .i64 a1_0, .int .i64 a1_1, .int .i64 a1_2]) (t := 23) ?hr ?_; (case hd => rfl); (case hg => rfl); (case hr => first | (go_simp; done) | (go_simp; rfl)); intro gb571 hg w6 hbox hb; have n0_ := Aside0.mk (blk_below (g := gb570) (o := .cells #[.int .i64 a0_0, .int .i64 a0_1, .int .i64 a0_2] 23 (0, 0)) (by (with_reducible repeat (first | refine blk_drewN ?_ _ | refine blk_drew ?_ | refine blk_alloc ?_ _)); exact BK570.out) hb); have n1_ := Aside0.mk (below_step (by repeat (first | (with_reducible first | exact HB.out | apply below_alloc | apply pw_below_drewN | apply below_drew1 | refine below_set ?_ GE570.out) | exact HB.out)) hb); have n2_ := Aside0.mk (hbox); have n3_ := Aside0.mk ((by rw [hg]; exact (below_size (by repeat (first | (with_reducible first | exact HB.out | apply below_alloc | apply pw_below_drewN | apply below_drew1 | refine below_set ?_ GE570.out) | exact HB.out))) : w.heap.size ≤ gb571)); have n4_ := Aside0.mk ((by rw [hg]; exact (below_size (by repeat (first | (with_reducible first | exact HB.out | apply below_alloc | apply pw_below_drewN | apply below_drew1 | refine below_set ?_ GE570.out) | exact HB.out))) : w.heap.size ≤ gb571)); have n5_ := Aside0.mk ((by rw [hg]; exact Nat.ne_of_lt (blk_lt (g := gb570) (o := .cells #[.int .i64 a0_0, .int .i64 a0_1, .int .i64 a0_2] 23 (0, 0)) (by (with_reducible repeat (first | refine blk_drewN ?_ _ | refine blk_drew ?_ | refine blk_alloc ?_ _)); exact BK570.out)) : gb570 ≠ gb571)); have n6_ := Aside0.mk ((by rw [hg]; exact Nat.ne_of_gt (blk_lt (g := gb570) (o := .cells #[.int .i64 a0_0, .int .i64 a0_1, .int .i64 a0_2] 23 (0, 0)) (by (with_reducible repeat (first | refine blk_drewN ?_ _ | refine blk_drew ?_ | refine blk_alloc ?_ _)); exact BK570.out)) : gb571 ≠ gb570)); clear BK570; clear HB; have BK570 := n0_; have HB := n1_; have BK571 := n2_; have GW571 := n3_; have GE571 := n4_; have NB570_571 := n5_; have NB571_570 := n6_; clear n0_ n1_ n2_ n3_ n4_ n5_ n6_; clear hb hbox hg))
  (try simp only [Act.put, List.setIfInBounds_toArray, List.set_cons_zero, List.set_cons_succ])
  go_cut [22] (fun v22 wc => ∃ (kq : Nat) (x22_3 : Bool), v22 = .bool x22_3 ∧ Aside0 (lapidarylaw09_GeomEnds.j0 kq l2 x22_3 a0_0 a0_1 a0_2 a1_0 a1_1 a1_2 = some r) ∧ Aside0 (kq ≤ k) ∧ Aside0 (wc.heap[gb570]? = some (.cells #[.int .i64 a0_0, .int .i64 a0_1, .int .i64 a0_2] 23 (0, 0))) ∧ Aside0 (wc.heap[gb571]? = some (.cells #[.int .i64 a1_0, .int .i64 a1_1, .int .i64 a1_2] 23 (0, 0))) ∧ Aside0 (Below w.heap.size w wc))
  case first =>
    have H := HC4.out
    clear HC4
    obtain ⟨y572, hy572⟩ : ∃ y_ : List (S23), y_ = (([(⟨a0_0, a0_1, a0_2⟩ : S23), (⟨a1_0, a1_1, a1_2⟩ : S23)] : List (S23))) := ⟨_, rfl⟩
    replace H : ((geom_Right.f k y572).bind fun t575 => (if t575 = true then ((geom_Right.f k l2).bind fun t576 => (if t576 = true then (lapidarylaw09_GeomEnds.j0 k l2 (decide ((l2.length : Int) > 60)) a0_0 a0_1 a0_2 a1_0 a1_1 a1_2) else (lapidarylaw09_GeomEnds.j0 k l2 true a0_0 a0_1 a0_2 a1_0 a1_1 a1_2))) else (lapidarylaw09_GeomEnds.j0 k l2 true a0_0 a0_1 a0_2 a1_0 a1_1 a1_2))) = some r := by first | (rw [hy572]; with_reducible exact H) | (have H2_ := (Option.bind_some _ _).symm.trans H; rw [hy572]; with_reducible exact H2_) | (have H2_ := (Option.bind_some _ _).symm.trans H; with_reducible exact H2_) | with_reducible exact H | (rw [hy572]; exact H) | exact H
    have Ny572 := Aside0.mk hy572
    clear hy572
    replace H := Option.bind_eq_some_iff.mp H
    obtain ⟨t575, A70, H⟩ := H
    replace H : (if t575 = true then ((geom_Right.f k l2).bind fun t576 => (if t576 = true then (lapidarylaw09_GeomEnds.j0 k l2 (decide ((l2.length : Int) > 60)) a0_0 a0_1 a0_2 a1_0 a1_1 a1_2) else (lapidarylaw09_GeomEnds.j0 k l2 true a0_0 a0_1 a0_2 a1_0 a1_1 a1_2))) else (lapidarylaw09_GeomEnds.j0 k l2 true a0_0 a0_1 a0_2 a1_0 a1_1 a1_2)) = some r := H
    have A7 := Aside0.mk A70
    clear A70
    by_cases c8 : t575 = true
    · subst c8
      have H1 : ((geom_Right.f k l2).bind fun t576 => (if t576 = true then (lapidarylaw09_GeomEnds.j0 k l2 (decide ((l2.length : Int) > 60)) a0_0 a0_1 a0_2 a1_0 a1_1 a1_2) else (lapidarylaw09_GeomEnds.j0 k l2 true a0_0 a0_1 a0_2 a1_0 a1_1 a1_2))) = some r := by rw [if_pos rfl] at H; exact H
      clear H
      have H := H1
      clear H1
      replace H := Option.bind_eq_some_iff.mp H
      obtain ⟨t576, A90, H⟩ := H
      replace H : (if t576 = true then (lapidarylaw09_GeomEnds.j0 k l2 (decide ((l2.length : Int) > 60)) a0_0 a0_1 a0_2 a1_0 a1_1 a1_2) else (lapidarylaw09_GeomEnds.j0 k l2 true a0_0 a0_1 a0_2 a1_0 a1_1 a1_2)) = some r := H
      have A9 := Aside0.mk A90
      clear A90
      by_cases c10 : t576 = true
      · subst c10
        have H1 : (lapidarylaw09_GeomEnds.j0 k l2 (decide ((l2.length : Int) > 60)) a0_0 a0_1 a0_2 a1_0 a1_1 a1_2) = some r := by rw [if_pos rfl] at H; exact H
        clear H
        have H := H1
        clear H1
        have H' := Aside0.mk H
        clear H
        have hnb11 := NB570_571.out
        have hnc11 := NB571_570.out
        have hcz12_0 : w6.cell? ⟨gb570, 0, none⟩ = some (.int .i64 a0_0) := (blk_cell BK570.out 0).trans rfl
        have hcz12_1 : w6.cell? ⟨gb570, 1, none⟩ = some (.int .i64 a0_1) := (blk_cell BK570.out 1).trans rfl
        have hcz12_2 : w6.cell? ⟨gb570, 2, none⟩ = some (.int .i64 a0_2) := (blk_cell BK570.out 2).trans rfl
        have hfz12_0 := blk_frozen BK570.out 0
        have hfz12_1 := blk_frozen BK570.out 1
        have hfz12_2 := blk_frozen BK570.out 2
        have hcz13_0 : w6.cell? ⟨gb571, 0, none⟩ = some (.int .i64 a1_0) := (blk_cell BK571.out 0).trans rfl
        have hcz13_1 : w6.cell? ⟨gb571, 1, none⟩ = some (.int .i64 a1_1) := (blk_cell BK571.out 1).trans rfl
        have hcz13_2 : w6.cell? ⟨gb571, 2, none⟩ = some (.int .i64 a1_2) := (blk_cell BK571.out 2).trans rfl
        have hfz13_0 := blk_frozen BK571.out 0
        have hfz13_1 := blk_frozen BK571.out 1
        have hfz13_2 := blk_frozen BK571.out 2
        go_wp2_with (first | ((with_reducible refine gate_dst (N := 10) rfl ?_); (try (refine gate_guard (by rfl) ?_; dsimp only)); refine Kd.R_lit k23 _ 23 ?hg (N := 10) ?hd (xs := ([(⟨a0_0, a0_1, a0_2⟩ : S23), (⟨a1_0, a1_1, a1_2⟩ : S23)] : List (S23))) (inner := [.int .i64 a0_0, .int .i64 a0_1, .int .i64 a0_2, .int .i64 a1_0, .int .i64 a1_1, .int .i64 a1_2]) (ok := fun _ => True) (okp := fun _ => True) ?hr ?hp (fun _ hk => hk) trivial (Below.refl _ _) (Nat.le_refl _) (by simp) ?_; (case hd => rfl); (case hg => rfl); (case hr => first | (go_simp; done) | (go_simp; rfl)); (case hp => exact (Reps.c3 (show Kd.M k23 _ _ _ (⟨a0_0, a0_1, a0_2⟩ : S23) [.int .i64 a0_0, .int .i64 a0_1, .int .i64 a0_2] from (k23_mkM _ _ _ (⟨a0_0, a0_1, a0_2⟩ : S23) )) (Reps.c3 (show Kd.M k23 _ _ _ (⟨a1_0, a1_1, a1_2⟩ : S23) [.int .i64 a1_0, .int .i64 a1_1, .int .i64 a1_2] from (k23_mkM _ _ _ (⟨a1_0, a1_1, a1_2⟩ : S23) )) (Reps.none _ _)))); intro v573 w14 ho15 hb hg_ hnew_; clear hg_ hnew_; (first | rw [← Ny572.out] at ho15 | (simp only [Int.reduceToNat] at ho15; rw [← Ny572.out] at ho15)); have n0_ := Aside0.mk (Kd.R_lower (Kd.R_newB (Kd.R_newB ho15 (g := gb570) (o := .cells #[.int .i64 a0_0, .int .i64 a0_1, .int .i64 a0_2] 23 (0, 0)) (by (with_reducible repeat (first | refine blk_drewN ?_ _ | refine blk_drew ?_ | refine blk_alloc ?_ _)); exact BK570.out)) (g := gb571) (o := .cells #[.int .i64 a1_0, .int .i64 a1_1, .int .i64 a1_2] 23 (0, 0)) (by (with_reducible repeat (first | refine blk_drewN ?_ _ | refine blk_drew ?_ | refine blk_alloc ?_ _)); exact BK571.out)) (below_size (by repeat (first | (with_reducible first | exact HB.out | apply below_alloc | apply pw_below_drewN | apply below_drew1 | refine below_set ?_ GE570.out | refine below_set ?_ GE571.out) | exact HB.out)))); have n1_ := Aside0.mk (blk_below (g := gb570) (o := .cells #[.int .i64 a0_0, .int .i64 a0_1, .int .i64 a0_2] 23 (0, 0)) (by (with_reducible repeat (first | refine blk_drewN ?_ _ | refine blk_drew ?_ | refine blk_alloc ?_ _)); exact BK570.out) hb); have n2_ := Aside0.mk (blk_below (g := gb571) (o := .cells #[.int .i64 a1_0, .int .i64 a1_1, .int .i64 a1_2] 23 (0, 0)) (by (with_reducible repeat (first | refine blk_drewN ?_ _ | refine blk_drew ?_ | refine blk_alloc ?_ _)); exact BK571.out) hb); have n3_ := Aside0.mk (below_step (by repeat (first | (with_reducible first | exact HB.out | apply below_alloc | apply pw_below_drewN | apply below_drew1 | refine below_set ?_ GE570.out | refine below_set ?_ GE571.out) | exact HB.out)) hb); clear BK570; clear BK571; clear HB; have HO574 := n0_; have BK570 := n1_; have BK571 := n2_; have HB := n3_; clear n0_ n1_ n2_ n3_; clear hb ho15; obtain ⟨Ao16, co16, eo16⟩ := Kd.R_slice HO574.out; subst eo16) | ((with_reducible refine gate_callee (f := 22) rfl ?_); refine goesL_ (some 11) rfl rfl Try.func22 (by kernel_rfl) rfl #[.slice Ao16 y572.length co16] rfl (by (try simp only [List.map_toArray, List.map_cons, List.map_nil]); first | done | rfl | (simp only [List.length_drop, List.length_take]; rfl)) ?_; (with_reducible refine (geom_Right.calls k _ _ y572 true _ ?side1 ?side2 A7.out).mono ?_); (case side1 => repeat (first | exact (Kd.R_reads' HO574.out).2.2 | (with_reducible refine Kd.C_alloc ?_ _) | (with_reducible refine Kd.C_drewN ?_ _) | (with_reducible refine Kd.C_drew ?_))); (case side2 => exact (Kd.R_reads' HO574.out).2.1); rintro e w17 ⟨rfl, hb⟩; refine ⟨_, rfl, ?_⟩; have n0_ := Aside0.mk (Kd.R_below (by (with_reducible repeat (first | apply Kd.R_alloc | apply Kd.R_drewN | apply Kd.R_drew)); exact HO574.out) hb); have n1_ := Aside0.mk (blk_below (g := gb570) (o := .cells #[.int .i64 a0_0, .int .i64 a0_1, .int .i64 a0_2] 23 (0, 0)) (by (with_reducible repeat (first | refine blk_drewN ?_ _ | refine blk_drew ?_ | refine blk_alloc ?_ _)); exact BK570.out) hb); have n2_ := Aside0.mk (blk_below (g := gb571) (o := .cells #[.int .i64 a1_0, .int .i64 a1_1, .int .i64 a1_2] 23 (0, 0)) (by (with_reducible repeat (first | refine blk_drewN ?_ _ | refine blk_drew ?_ | refine blk_alloc ?_ _)); exact BK571.out) hb); have n3_ := Aside0.mk (below_step (by repeat (first | (with_reducible first | exact HB.out | apply below_alloc | apply pw_below_drewN | apply below_drew1 | refine below_set ?_ GE570.out | refine below_set ?_ GE571.out) | exact HB.out)) hb); clear HO574; clear BK570; clear BK571; clear HB; have HO574 := n0_; have BK570 := n1_; have BK571 := n2_; have HB := n3_; clear n0_ n1_ n2_ n3_; (try clear hb); (try clear hb2); (try clear hk); (try clear hi)) | (go_at_call 22; (with_reducible refine (geom_Right.calls k _ _ l2 true _ ?side1 ?side2 A9.out).mono ?_); (case side1 => repeat (first | exact (Kd.C_below HR2.out HB.out) | (with_reducible refine Kd.C_alloc ?_ _) | (with_reducible refine Kd.C_drewN ?_ _) | (with_reducible refine Kd.C_drew ?_))); (case side2 => exact HC2.out); rintro e w18 ⟨rfl, hb⟩; have n0_ := Aside0.mk (Kd.R_below (by (with_reducible repeat (first | apply Kd.R_alloc | apply Kd.R_drewN | apply Kd.R_drew)); exact HO574.out) hb); have n1_ := Aside0.mk (blk_below (g := gb570) (o := .cells #[.int .i64 a0_0, .int .i64 a0_1, .int .i64 a0_2] 23 (0, 0)) (by (with_reducible repeat (first | refine blk_drewN ?_ _ | refine blk_drew ?_ | refine blk_alloc ?_ _)); exact BK570.out) hb); have n2_ := Aside0.mk (blk_below (g := gb571) (o := .cells #[.int .i64 a1_0, .int .i64 a1_1, .int .i64 a1_2] 23 (0, 0)) (by (with_reducible repeat (first | refine blk_drewN ?_ _ | refine blk_drew ?_ | refine blk_alloc ?_ _)); exact BK571.out) hb); have n3_ := Aside0.mk (below_step (by repeat (first | (with_reducible first | exact HB.out | apply below_alloc | apply pw_below_drewN | apply below_drew1 | refine below_set ?_ GE570.out | refine below_set ?_ GE571.out) | exact HB.out)) hb); clear HO574; clear BK570; clear BK571; clear HB; have HO574 := n0_; have BK570 := n1_; have BK571 := n2_; have HB := n3_; clear n0_ n1_ n2_ n3_; (try clear hb); (try clear hb2); (try clear hk); (try clear hi)))
        go_meet
        case rel => exact ⟨_, (decide ((l2.length : Int) > 60)), (by first | rfl | (simp; done) | (simp [*]; done)), H', ⟨by first | omega | exact Nat.le_refl _⟩, ⟨by (with_reducible repeat (first | refine blk_drewN ?_ _ | refine blk_drew ?_ | refine blk_alloc ?_ _)); exact BK570.out⟩, ⟨by (with_reducible repeat (first | refine blk_drewN ?_ _ | refine blk_drew ?_ | refine blk_alloc ?_ _)); exact BK571.out⟩, ⟨by repeat (first | (with_reducible first | exact HB.out | apply below_alloc | apply pw_below_drewN | apply below_drew1 | refine below_set ?_ GE570.out | refine below_set ?_ GE571.out) | exact HB.out)⟩⟩
      · replace c10 := Bool.eq_false_iff.mpr c10
        subst c10
        have H1 : (lapidarylaw09_GeomEnds.j0 k l2 true a0_0 a0_1 a0_2 a1_0 a1_1 a1_2) = some r := by rw [if_neg (show ¬ (false = true) by decide)] at H; exact H
        clear H
        have H := H1
        clear H1
        have H' := Aside0.mk H
        clear H
        have hnb19 := NB570_571.out
        have hnc19 := NB571_570.out
        have hcz20_0 : w6.cell? ⟨gb570, 0, none⟩ = some (.int .i64 a0_0) := (blk_cell BK570.out 0).trans rfl
        have hcz20_1 : w6.cell? ⟨gb570, 1, none⟩ = some (.int .i64 a0_1) := (blk_cell BK570.out 1).trans rfl
        have hcz20_2 : w6.cell? ⟨gb570, 2, none⟩ = some (.int .i64 a0_2) := (blk_cell BK570.out 2).trans rfl
        have hfz20_0 := blk_frozen BK570.out 0
        have hfz20_1 := blk_frozen BK570.out 1
        have hfz20_2 := blk_frozen BK570.out 2
        have hcz21_0 : w6.cell? ⟨gb571, 0, none⟩ = some (.int .i64 a1_0) := (blk_cell BK571.out 0).trans rfl
        have hcz21_1 : w6.cell? ⟨gb571, 1, none⟩ = some (.int .i64 a1_1) := (blk_cell BK571.out 1).trans rfl
        have hcz21_2 : w6.cell? ⟨gb571, 2, none⟩ = some (.int .i64 a1_2) := (blk_cell BK571.out 2).trans rfl
        have hfz21_0 := blk_frozen BK571.out 0
        have hfz21_1 := blk_frozen BK571.out 1
        have hfz21_2 := blk_frozen BK571.out 2
        go_wp2_with (first | ((with_reducible refine gate_dst (N := 10) rfl ?_); (try (refine gate_guard (by rfl) ?_; dsimp only)); refine Kd.R_lit k23 _ 23 ?hg (N := 10) ?hd (xs := ([(⟨a0_0, a0_1, a0_2⟩ : S23), (⟨a1_0, a1_1, a1_2⟩ : S23)] : List (S23))) (inner := [.int .i64 a0_0, .int .i64 a0_1, .int .i64 a0_2, .int .i64 a1_0, .int .i64 a1_1, .int .i64 a1_2]) (ok := fun _ => True) (okp := fun _ => True) ?hr ?hp (fun _ hk => hk) trivial (Below.refl _ _) (Nat.le_refl _) (by simp) ?_; (case hd => rfl); (case hg => rfl); (case hr => first | (go_simp; done) | (go_simp; rfl)); (case hp => exact (Reps.c3 (show Kd.M k23 _ _ _ (⟨a0_0, a0_1, a0_2⟩ : S23) [.int .i64 a0_0, .int .i64 a0_1, .int .i64 a0_2] from (k23_mkM _ _ _ (⟨a0_0, a0_1, a0_2⟩ : S23) )) (Reps.c3 (show Kd.M k23 _ _ _ (⟨a1_0, a1_1, a1_2⟩ : S23) [.int .i64 a1_0, .int .i64 a1_1, .int .i64 a1_2] from (k23_mkM _ _ _ (⟨a1_0, a1_1, a1_2⟩ : S23) )) (Reps.none _ _)))); intro v573 w22 ho23 hb hg_ hnew_; clear hg_ hnew_; (first | rw [← Ny572.out] at ho23 | (simp only [Int.reduceToNat] at ho23; rw [← Ny572.out] at ho23)); have n0_ := Aside0.mk (Kd.R_lower (Kd.R_newB (Kd.R_newB ho23 (g := gb570) (o := .cells #[.int .i64 a0_0, .int .i64 a0_1, .int .i64 a0_2] 23 (0, 0)) (by (with_reducible repeat (first | refine blk_drewN ?_ _ | refine blk_drew ?_ | refine blk_alloc ?_ _)); exact BK570.out)) (g := gb571) (o := .cells #[.int .i64 a1_0, .int .i64 a1_1, .int .i64 a1_2] 23 (0, 0)) (by (with_reducible repeat (first | refine blk_drewN ?_ _ | refine blk_drew ?_ | refine blk_alloc ?_ _)); exact BK571.out)) (below_size (by repeat (first | (with_reducible first | exact HB.out | apply below_alloc | apply pw_below_drewN | apply below_drew1 | refine below_set ?_ GE570.out | refine below_set ?_ GE571.out) | exact HB.out)))); have n1_ := Aside0.mk (blk_below (g := gb570) (o := .cells #[.int .i64 a0_0, .int .i64 a0_1, .int .i64 a0_2] 23 (0, 0)) (by (with_reducible repeat (first | refine blk_drewN ?_ _ | refine blk_drew ?_ | refine blk_alloc ?_ _)); exact BK570.out) hb); have n2_ := Aside0.mk (blk_below (g := gb571) (o := .cells #[.int .i64 a1_0, .int .i64 a1_1, .int .i64 a1_2] 23 (0, 0)) (by (with_reducible repeat (first | refine blk_drewN ?_ _ | refine blk_drew ?_ | refine blk_alloc ?_ _)); exact BK571.out) hb); have n3_ := Aside0.mk (below_step (by repeat (first | (with_reducible first | exact HB.out | apply below_alloc | apply pw_below_drewN | apply below_drew1 | refine below_set ?_ GE570.out | refine below_set ?_ GE571.out) | exact HB.out)) hb); clear BK570; clear BK571; clear HB; have HO574 := n0_; have BK570 := n1_; have BK571 := n2_; have HB := n3_; clear n0_ n1_ n2_ n3_; clear hb ho23; obtain ⟨Ao24, co24, eo24⟩ := Kd.R_slice HO574.out; subst eo24) | ((with_reducible refine gate_callee (f := 22) rfl ?_); refine goesL_ (some 11) rfl rfl Try.func22 (by kernel_rfl) rfl #[.slice Ao24 y572.length co24] rfl (by (try simp only [List.map_toArray, List.map_cons, List.map_nil]); first | done | rfl | (simp only [List.length_drop, List.length_take]; rfl)) ?_; (with_reducible refine (geom_Right.calls k _ _ y572 true _ ?side1 ?side2 A7.out).mono ?_); (case side1 => repeat (first | exact (Kd.R_reads' HO574.out).2.2 | (with_reducible refine Kd.C_alloc ?_ _) | (with_reducible refine Kd.C_drewN ?_ _) | (with_reducible refine Kd.C_drew ?_))); (case side2 => exact (Kd.R_reads' HO574.out).2.1); rintro e w25 ⟨rfl, hb⟩; refine ⟨_, rfl, ?_⟩; have n0_ := Aside0.mk (Kd.R_below (by (with_reducible repeat (first | apply Kd.R_alloc | apply Kd.R_drewN | apply Kd.R_drew)); exact HO574.out) hb); have n1_ := Aside0.mk (blk_below (g := gb570) (o := .cells #[.int .i64 a0_0, .int .i64 a0_1, .int .i64 a0_2] 23 (0, 0)) (by (with_reducible repeat (first | refine blk_drewN ?_ _ | refine blk_drew ?_ | refine blk_alloc ?_ _)); exact BK570.out) hb); have n2_ := Aside0.mk (blk_below (g := gb571) (o := .cells #[.int .i64 a1_0, .int .i64 a1_1, .int .i64 a1_2] 23 (0, 0)) (by (with_reducible repeat (first | refine blk_drewN ?_ _ | refine blk_drew ?_ | refine blk_alloc ?_ _)); exact BK571.out) hb); have n3_ := Aside0.mk (below_step (by repeat (first | (with_reducible first | exact HB.out | apply below_alloc | apply pw_below_drewN | apply below_drew1 | refine below_set ?_ GE570.out | refine below_set ?_ GE571.out) | exact HB.out)) hb); clear HO574; clear BK570; clear BK571; clear HB; have HO574 := n0_; have BK570 := n1_; have BK571 := n2_; have HB := n3_; clear n0_ n1_ n2_ n3_; (try clear hb); (try clear hb2); (try clear hk); (try clear hi)) | (go_at_call 22; (with_reducible refine (geom_Right.calls k _ _ l2 false _ ?side1 ?side2 A9.out).mono ?_); (case side1 => repeat (first | exact (Kd.C_below HR2.out HB.out) | (with_reducible refine Kd.C_alloc ?_ _) | (with_reducible refine Kd.C_drewN ?_ _) | (with_reducible refine Kd.C_drew ?_))); (case side2 => exact HC2.out); rintro e w26 ⟨rfl, hb⟩; have n0_ := Aside0.mk (Kd.R_below (by (with_reducible repeat (first | apply Kd.R_alloc | apply Kd.R_drewN | apply Kd.R_drew)); exact HO574.out) hb); have n1_ := Aside0.mk (blk_below (g := gb570) (o := .cells #[.int .i64 a0_0, .int .i64 a0_1, .int .i64 a0_2] 23 (0, 0)) (by (with_reducible repeat (first | refine blk_drewN ?_ _ | refine blk_drew ?_ | refine blk_alloc ?_ _)); exact BK570.out) hb); have n2_ := Aside0.mk (blk_below (g := gb571) (o := .cells #[.int .i64 a1_0, .int .i64 a1_1, .int .i64 a1_2] 23 (0, 0)) (by (with_reducible repeat (first | refine blk_drewN ?_ _ | refine blk_drew ?_ | refine blk_alloc ?_ _)); exact BK571.out) hb); have n3_ := Aside0.mk (below_step (by repeat (first | (with_reducible first | exact HB.out | apply below_alloc | apply pw_below_drewN | apply below_drew1 | refine below_set ?_ GE570.out | refine below_set ?_ GE571.out) | exact HB.out)) hb); clear HO574; clear BK570; clear BK571; clear HB; have HO574 := n0_; have BK570 := n1_; have BK571 := n2_; have HB := n3_; clear n0_ n1_ n2_ n3_; (try clear hb); (try clear hb2); (try clear hk); (try clear hi)))
        go_meet
        case rel => exact ⟨_, (true), (by first | rfl | (simp; done) | (simp [*]; done)), H', ⟨by first | omega | exact Nat.le_refl _⟩, ⟨by (with_reducible repeat (first | refine blk_drewN ?_ _ | refine blk_drew ?_ | refine blk_alloc ?_ _)); exact BK570.out⟩, ⟨by (with_reducible repeat (first | refine blk_drewN ?_ _ | refine blk_drew ?_ | refine blk_alloc ?_ _)); exact BK571.out⟩, ⟨by repeat (first | (with_reducible first | exact HB.out | apply below_alloc | apply pw_below_drewN | apply below_drew1 | refine below_set ?_ GE570.out | refine below_set ?_ GE571.out) | exact HB.out)⟩⟩
    · replace c8 := Bool.eq_false_iff.mpr c8
      subst c8
      have H1 : (lapidarylaw09_GeomEnds.j0 k l2 true a0_0 a0_1 a0_2 a1_0 a1_1 a1_2) = some r := by rw [if_neg (show ¬ (false = true) by decide)] at H; exact H
      clear H
      have H := H1
      clear H1
      have H' := Aside0.mk H
      clear H
      have hnb27 := NB570_571.out
      have hnc27 := NB571_570.out
      have hcz28_0 : w6.cell? ⟨gb570, 0, none⟩ = some (.int .i64 a0_0) := (blk_cell BK570.out 0).trans rfl
      have hcz28_1 : w6.cell? ⟨gb570, 1, none⟩ = some (.int .i64 a0_1) := (blk_cell BK570.out 1).trans rfl
      have hcz28_2 : w6.cell? ⟨gb570, 2, none⟩ = some (.int .i64 a0_2) := (blk_cell BK570.out 2).trans rfl
      have hfz28_0 := blk_frozen BK570.out 0
      have hfz28_1 := blk_frozen BK570.out 1
      have hfz28_2 := blk_frozen BK570.out 2
      have hcz29_0 : w6.cell? ⟨gb571, 0, none⟩ = some (.int .i64 a1_0) := (blk_cell BK571.out 0).trans rfl
      have hcz29_1 : w6.cell? ⟨gb571, 1, none⟩ = some (.int .i64 a1_1) := (blk_cell BK571.out 1).trans rfl
      have hcz29_2 : w6.cell? ⟨gb571, 2, none⟩ = some (.int .i64 a1_2) := (blk_cell BK571.out 2).trans rfl
      have hfz29_0 := blk_frozen BK571.out 0
      have hfz29_1 := blk_frozen BK571.out 1
      have hfz29_2 := blk_frozen BK571.out 2
      go_wp2_with (first | ((with_reducible refine gate_dst (N := 10) rfl ?_); (try (refine gate_guard (by rfl) ?_; dsimp only)); refine Kd.R_lit k23 _ 23 ?hg (N := 10) ?hd (xs := ([(⟨a0_0, a0_1, a0_2⟩ : S23), (⟨a1_0, a1_1, a1_2⟩ : S23)] : List (S23))) (inner := [.int .i64 a0_0, .int .i64 a0_1, .int .i64 a0_2, .int .i64 a1_0, .int .i64 a1_1, .int .i64 a1_2]) (ok := fun _ => True) (okp := fun _ => True) ?hr ?hp (fun _ hk => hk) trivial (Below.refl _ _) (Nat.le_refl _) (by simp) ?_; (case hd => rfl); (case hg => rfl); (case hr => first | (go_simp; done) | (go_simp; rfl)); (case hp => exact (Reps.c3 (show Kd.M k23 _ _ _ (⟨a0_0, a0_1, a0_2⟩ : S23) [.int .i64 a0_0, .int .i64 a0_1, .int .i64 a0_2] from (k23_mkM _ _ _ (⟨a0_0, a0_1, a0_2⟩ : S23) )) (Reps.c3 (show Kd.M k23 _ _ _ (⟨a1_0, a1_1, a1_2⟩ : S23) [.int .i64 a1_0, .int .i64 a1_1, .int .i64 a1_2] from (k23_mkM _ _ _ (⟨a1_0, a1_1, a1_2⟩ : S23) )) (Reps.none _ _)))); intro v573 w30 ho31 hb hg_ hnew_; clear hg_ hnew_; (first | rw [← Ny572.out] at ho31 | (simp only [Int.reduceToNat] at ho31; rw [← Ny572.out] at ho31)); have n0_ := Aside0.mk (Kd.R_lower (Kd.R_newB (Kd.R_newB ho31 (g := gb570) (o := .cells #[.int .i64 a0_0, .int .i64 a0_1, .int .i64 a0_2] 23 (0, 0)) (by (with_reducible repeat (first | refine blk_drewN ?_ _ | refine blk_drew ?_ | refine blk_alloc ?_ _)); exact BK570.out)) (g := gb571) (o := .cells #[.int .i64 a1_0, .int .i64 a1_1, .int .i64 a1_2] 23 (0, 0)) (by (with_reducible repeat (first | refine blk_drewN ?_ _ | refine blk_drew ?_ | refine blk_alloc ?_ _)); exact BK571.out)) (below_size (by repeat (first | (with_reducible first | exact HB.out | apply below_alloc | apply pw_below_drewN | apply below_drew1 | refine below_set ?_ GE570.out | refine below_set ?_ GE571.out) | exact HB.out)))); have n1_ := Aside0.mk (blk_below (g := gb570) (o := .cells #[.int .i64 a0_0, .int .i64 a0_1, .int .i64 a0_2] 23 (0, 0)) (by (with_reducible repeat (first | refine blk_drewN ?_ _ | refine blk_drew ?_ | refine blk_alloc ?_ _)); exact BK570.out) hb); have n2_ := Aside0.mk (blk_below (g := gb571) (o := .cells #[.int .i64 a1_0, .int .i64 a1_1, .int .i64 a1_2] 23 (0, 0)) (by (with_reducible repeat (first | refine blk_drewN ?_ _ | refine blk_drew ?_ | refine blk_alloc ?_ _)); exact BK571.out) hb); have n3_ := Aside0.mk (below_step (by repeat (first | (with_reducible first | exact HB.out | apply below_alloc | apply pw_below_drewN | apply below_drew1 | refine below_set ?_ GE570.out | refine below_set ?_ GE571.out) | exact HB.out)) hb); clear BK570; clear BK571; clear HB; have HO574 := n0_; have BK570 := n1_; have BK571 := n2_; have HB := n3_; clear n0_ n1_ n2_ n3_; clear hb ho31; obtain ⟨Ao32, co32, eo32⟩ := Kd.R_slice HO574.out; subst eo32) | ((with_reducible refine gate_callee (f := 22) rfl ?_); refine goesL_ (some 11) rfl rfl Try.func22 (by kernel_rfl) rfl #[.slice Ao32 y572.length co32] rfl (by (try simp only [List.map_toArray, List.map_cons, List.map_nil]); first | done | rfl | (simp only [List.length_drop, List.length_take]; rfl)) ?_; (with_reducible refine (geom_Right.calls k _ _ y572 false _ ?side1 ?side2 A7.out).mono ?_); (case side1 => repeat (first | exact (Kd.R_reads' HO574.out).2.2 | (with_reducible refine Kd.C_alloc ?_ _) | (with_reducible refine Kd.C_drewN ?_ _) | (with_reducible refine Kd.C_drew ?_))); (case side2 => exact (Kd.R_reads' HO574.out).2.1); rintro e w33 ⟨rfl, hb⟩; refine ⟨_, rfl, ?_⟩; have n0_ := Aside0.mk (Kd.R_below (by (with_reducible repeat (first | apply Kd.R_alloc | apply Kd.R_drewN | apply Kd.R_drew)); exact HO574.out) hb); have n1_ := Aside0.mk (blk_below (g := gb570) (o := .cells #[.int .i64 a0_0, .int .i64 a0_1, .int .i64 a0_2] 23 (0, 0)) (by (with_reducible repeat (first | refine blk_drewN ?_ _ | refine blk_drew ?_ | refine blk_alloc ?_ _)); exact BK570.out) hb); have n2_ := Aside0.mk (blk_below (g := gb571) (o := .cells #[.int .i64 a1_0, .int .i64 a1_1, .int .i64 a1_2] 23 (0, 0)) (by (with_reducible repeat (first | refine blk_drewN ?_ _ | refine blk_drew ?_ | refine blk_alloc ?_ _)); exact BK571.out) hb); have n3_ := Aside0.mk (below_step (by repeat (first | (with_reducible first | exact HB.out | apply below_alloc | apply pw_below_drewN | apply below_drew1 | refine below_set ?_ GE570.out | refine below_set ?_ GE571.out) | exact HB.out)) hb); clear HO574; clear BK570; clear BK571; clear HB; have HO574 := n0_; have BK570 := n1_; have BK571 := n2_; have HB := n3_; clear n0_ n1_ n2_ n3_; (try clear hb); (try clear hb2); (try clear hk); (try clear hi)))
      go_meet
      case rel => exact ⟨_, (true), (by first | rfl | (simp; done) | (simp [*]; done)), H', ⟨by first | omega | exact Nat.le_refl _⟩, ⟨by (with_reducible repeat (first | refine blk_drewN ?_ _ | refine blk_drew ?_ | refine blk_alloc ?_ _)); exact BK570.out⟩, ⟨by (with_reducible repeat (first | refine blk_drewN ?_ _ | refine blk_drew ?_ | refine blk_alloc ?_ _)); exact BK571.out⟩, ⟨by repeat (first | (with_reducible first | exact HB.out | apply below_alloc | apply pw_below_drewN | apply below_drew1 | refine below_set ?_ GE570.out | refine below_set ?_ GE571.out) | exact HB.out)⟩⟩
  case rest =>
    clear HC4
    try clear c1
    try clear c2
    try clear p2
    try clear c3
    try clear c8
    try clear c9
    try clear c10
    try clear c11
    try clear c19
    try clear c22
    try clear c27
    try clear hcz12_0
    try clear hcz12_1
    try clear hcz12_2
    try clear hcz13_0
    try clear hcz13_1
    try clear hcz13_2
    try clear hcz20_0
    try clear hcz20_1
    try clear hcz20_2
    try clear hcz21_0
    try clear hcz21_1
    try clear hcz21_2
    try clear hcz28_0
    try clear hcz28_1
    try clear hcz28_2
    try clear hcz29_0
    try clear hcz29_1
    try clear hcz29_2
    try clear hfz12_0
    try clear hfz12_1
    try clear hfz12_2
    try clear hfz13_0
    try clear hfz13_1
    try clear hfz13_2
    try clear hfz20_0
    try clear hfz20_1
    try clear hfz20_2
    try clear hfz21_0
    try clear hfz21_1
    try clear hfz21_2
    try clear hfz28_0
    try clear hfz28_1
    try clear hfz28_2
    try clear hfz29_0
    try clear hfz29_1
    try clear hfz29_2
    obtain ⟨kq, x22_3, rfl, HA, HJ3, BK570, BK571, HB⟩ := hcut
    cases kq with
    | zero => exact absurd HA.out (by simp [lapidarylaw09_GeomEnds.j0])
    | succ kj3 =>
      have H := HA.out
      clear HA
      simp only [lapidarylaw09_GeomEnds.j0] at H
      by_cases c34 : x22_3 = true
      · subst c34
        have H1 : ((lapidarylaw09_known.f kj3).bind fun t577 => (some t577)) = some r := by rw [if_pos rfl] at H; exact H
        clear H
        have H := H1
        clear H1
        replace H := Option.bind_eq_some_iff.mp H
        obtain ⟨t577, A350, H⟩ := H
        replace H : (some t577) = some r := H
        have A35 := Aside0.mk A350
        clear A350
        obtain rfl := Option.some.inj H
        go_wp2_with (first | ((with_reducible refine gate_callee (f := 13) rfl ?_); refine goesL_ (some 23) rfl rfl Try.func13 (by kernel_rfl) rfl #[] rfl (by (try simp only [List.map_toArray, List.map_cons, List.map_nil]); first | done | rfl | (simp only [List.length_drop, List.length_take]; rfl)) ?_; (with_reducible refine (lapidarylaw09_known.calls kj3  t577 _ A35.out).mono ?_); rintro e w36 ⟨rfl, hb⟩; refine ⟨_, rfl, ?_⟩; have n0_ := Aside0.mk (blk_below (g := gb570) (o := .cells #[.int .i64 a0_0, .int .i64 a0_1, .int .i64 a0_2] 23 (0, 0)) (by (with_reducible repeat (first | refine blk_drewN ?_ _ | refine blk_drew ?_ | refine blk_alloc ?_ _)); exact BK570.out) hb); have n1_ := Aside0.mk (blk_below (g := gb571) (o := .cells #[.int .i64 a1_0, .int .i64 a1_1, .int .i64 a1_2] 23 (0, 0)) (by (with_reducible repeat (first | refine blk_drewN ?_ _ | refine blk_drew ?_ | refine blk_alloc ?_ _)); exact BK571.out) hb); have n2_ := Aside0.mk (below_step (by repeat (first | (with_reducible first | exact HB.out | apply below_alloc | apply pw_below_drewN | apply below_drew1 | refine below_set ?_ GE570.out | refine below_set ?_ GE571.out) | exact HB.out)) hb); clear BK570; clear BK571; clear HB; have BK570 := n0_; have BK571 := n1_; have HB := n2_; clear n0_ n1_ n2_; (try clear hb); (try clear hb2); (try clear hk); (try clear hi)))
        go_ret
        exact ⟨by first | rfl | (simp [errW_none, errW_some] <;> rfl) | (simp [*, errW_none, errW_some] <;> rfl), by repeat (first | (with_reducible first | exact HB.out | apply below_alloc | apply pw_below_drewN | apply below_drew1 | refine below_set ?_ GE570.out | refine below_set ?_ GE571.out) | exact HB.out)⟩
      · replace c34 := Bool.eq_false_iff.mpr c34
        subst c34
        have H1 : (lapidarylaw09_GeomEnds.l0 kj3 l2 0 a0_0 a0_1 a0_2 a1_0 a1_1 a1_2) = some r := by rw [if_neg (show ¬ (false = true) by decide)] at H; exact H
        clear H
        have H := H1
        clear H1
        have H' := Aside0.mk H
        clear H
        go_wp2
        go_loopg [7] kj3 (fun kq v7 w' => ∃ (x7_2 : Int), v7 = .int .i64 x7_2 ∧ Aside0 (lapidarylaw09_GeomEnds.l0 kq l2 x7_2 a0_0 a0_1 a0_2 a1_0 a1_1 a1_2 = some r) ∧ Aside0 (kq ≤ kj3) ∧ Aside0 (w'.heap[gb570]? = some (.cells #[.int .i64 a0_0, .int .i64 a0_1, .int .i64 a0_2] 23 (0, 0))) ∧ Aside0 (w'.heap[gb571]? = some (.cells #[.int .i64 a1_0, .int .i64 a1_1, .int .i64 a1_2] 23 (0, 0))) ∧ Aside0 (Below w.heap.size w w'))
        case atStart => exact ⟨(0), (by first | rfl | (simp; done) | (simp [*]; done)), H', ⟨Nat.le_refl _⟩, ⟨by (with_reducible repeat (first | refine blk_drewN ?_ _ | refine blk_drew ?_ | refine blk_alloc ?_ _)); exact BK570.out⟩, ⟨by (with_reducible repeat (first | refine blk_drewN ?_ _ | refine blk_drew ?_ | refine blk_alloc ?_ _)); exact BK571.out⟩, ⟨by repeat (first | (with_reducible first | exact HB.out | apply below_alloc | apply pw_below_drewN | apply below_drew1 | refine below_set ?_ GE570.out | refine below_set ?_ GE571.out) | exact HB.out)⟩⟩
        case round =>
          clear H'
          try clear c1
          try clear c2
          try clear p2
          try clear c3
          try clear c8
          try clear c9
          try clear c10
          try clear c11
          try clear c13
          try clear c19
          try clear c22
          try clear c27
          try clear c34
          try clear hcz12_0
          try clear hcz12_1
          try clear hcz12_2
          try clear hcz13_0
          try clear hcz13_1
          try clear hcz13_2
          try clear hcz20_0
          try clear hcz20_1
          try clear hcz20_2
          try clear hcz21_0
          try clear hcz21_1
          try clear hcz21_2
          try clear hcz28_0
          try clear hcz28_1
          try clear hcz28_2
          try clear hcz29_0
          try clear hcz29_1
          try clear hcz29_2
          try clear hfz12_0
          try clear hfz12_1
          try clear hfz12_2
          try clear hfz13_0
          try clear hfz13_1
          try clear hfz13_2
          try clear hfz20_0
          try clear hfz20_1
          try clear hfz20_2
          try clear hfz21_0
          try clear hfz21_1
          try clear hfz21_2
          try clear hfz28_0
          try clear hfz28_1
          try clear hfz28_2
          try clear hfz29_0
          try clear hfz29_1
          try clear hfz29_2
          try clear p2
          obtain ⟨x7_2, rfl, HA, HK2, BK570, BK571, HB⟩ := hrel
          cases gk with
          | zero => exact absurd HA.out (by simp [lapidarylaw09_GeomEnds.l0])
          | succ k2 =>
            have H := HA.out
            clear HA
            simp only [lapidarylaw09_GeomEnds.l0] at H
            by_cases c37 : x7_2 < (l2.length : Int)
            · rw [if_pos c37] at H
              have c37b0 : decide (x7_2 < (l2.length : Int)) = true := decide_eq_true c37
              clear c37
              by_cases c38 : 0 ≤ x7_2
              · rw [if_pos c38] at H
                have c38b0 : decide (0 ≤ x7_2) = true := decide_eq_true c38
                clear c38
                replace H := Option.bind_eq_some_iff.mp H
                obtain ⟨t579, A390, H⟩ := H
                replace H : (if t579 = 0 then ((geom_On.f k2 ((rd_T23 l2 x7_2).f0) ((rd_T23 l2 x7_2).f1) ((rd_T23 l2 x7_2).f2) a0_0 a0_1 a0_2 a1_0 a1_1 a1_2).bind fun t581 => ((geom_On.f k2 ((rd_T23 l2 x7_2).f0) ((rd_T23 l2 x7_2).f1) ((rd_T23 l2 x7_2).f2) a1_0 a1_1 a1_2 a0_0 a0_1 a0_2).bind fun t583 => (if (t581 != t583) = true then (none) else (lapidarylaw09_GeomEnds.l0 k2 l2 (wrap64 (x7_2 + 1)) a0_0 a0_1 a0_2 a1_0 a1_1 a1_2)))) else (none)) = some r := H
                have A39 := Aside0.mk A390
                clear A390
                by_cases c40 : t579 = 0
                · rw [if_pos c40] at H
                  have c40b0 : (t579 == 0) = true := beq_iff_eq.mpr c40
                  have c40b1 : (t579 != 0) = false := bne_eq_false_iff_eq.mpr c40
                  clear c40
                  replace H := Option.bind_eq_some_iff.mp H
                  obtain ⟨t581, A410, H⟩ := H
                  replace H : ((geom_On.f k2 ((rd_T23 l2 x7_2).f0) ((rd_T23 l2 x7_2).f1) ((rd_T23 l2 x7_2).f2) a1_0 a1_1 a1_2 a0_0 a0_1 a0_2).bind fun t583 => (if (t581 != t583) = true then (none) else (lapidarylaw09_GeomEnds.l0 k2 l2 (wrap64 (x7_2 + 1)) a0_0 a0_1 a0_2 a1_0 a1_1 a1_2))) = some r := H
                  have A41 := Aside0.mk A410
                  clear A410
                  replace H := Option.bind_eq_some_iff.mp H
                  obtain ⟨t583, A420, H⟩ := H
                  replace H : (if (t581 != t583) = true then (none) else (lapidarylaw09_GeomEnds.l0 k2 l2 (wrap64 (x7_2 + 1)) a0_0 a0_1 a0_2 a1_0 a1_1 a1_2)) = some r := H
                  have A42 := Aside0.mk A420
                  clear A420
                  by_cases c43 : (t581 != t583) = true
                  · rw [if_pos c43] at H
                    exact absurd H (by simp)
                  · rw [if_neg c43] at H
                    have c43b0 : (t581 != t583) = false := by simpa using c43
                    (try (have c43b1 : decide (t581 = t583) = true := by simpa using c43))
                    (try (have c43b2 : (t581 == t583) = true := by simpa using c43))
                    clear c43
                    have H' := Aside0.mk H
                    clear H
                    try go_wp2
                    have n0_ := Aside0.mk (blk_drew BK570.out)
                    have n1_ := Aside0.mk (blk_drew BK571.out)
                    have n2_ := Aside0.mk (below_drew1 HB.out)
                    clear BK570
                    clear BK571
                    clear HB
                    have BK570 := n0_
                    have BK571 := n1_
                    have HB := n2_
                    clear n0_ n1_ n2_
                    have p578 : 0 ≤ (x7_2 : Int) := of_decide_eq_true (by first | (with_reducible assumption) | assumption)
                    have q578 : x7_2 < (l2.length : Int) := of_decide_eq_true (by first | (with_reducible assumption) | assumption)
                    obtain ⟨ad578, e578, hx578_0, hx578_1, hx578_2⟩ := at_T23 HR2.out x7_2 p578 q578
                    have hw578_2 := hx578_2
                    have hw578_1 := hx578_1
                    have hw578_0 := hx578_0
                    cases e578
                    replace hx578_0 := (HB.out.cell (World.block_lt_of_cell? w _ hx578_0)).trans hx578_0
                    replace hx578_1 := (HB.out.cell (World.block_lt_of_cell? w _ hx578_1)).trans hx578_1
                    replace hx578_2 := (HB.out.cell (World.block_lt_of_cell? w _ hx578_2)).trans hx578_2
                    replace p578 := eq_true p578
                    replace q578 := eq_true q578
                    have p580 : 0 ≤ (x7_2 : Int) := of_decide_eq_true (by first | (with_reducible assumption) | assumption)
                    have q580 : x7_2 < (l2.length : Int) := of_decide_eq_true (by first | (with_reducible assumption) | assumption)
                    obtain ⟨ad580, e580, hx580_0, hx580_1, hx580_2⟩ := at_T23 HR2.out x7_2 p580 q580
                    have hw580_2 := hx580_2
                    have hw580_1 := hx580_1
                    have hw580_0 := hx580_0
                    obtain rfl : ad578 = ad580 := (by injection e580)
                    replace hx580_0 := (HB.out.cell (World.block_lt_of_cell? w _ hx580_0)).trans hx580_0
                    replace hx580_1 := (HB.out.cell (World.block_lt_of_cell? w _ hx580_1)).trans hx580_1
                    replace hx580_2 := (HB.out.cell (World.block_lt_of_cell? w _ hx580_2)).trans hx580_2
                    replace p580 := eq_true p580
                    replace q580 := eq_true q580
                    have p582 : 0 ≤ (x7_2 : Int) := of_decide_eq_true (by first | (with_reducible assumption) | assumption)
                    have q582 : x7_2 < (l2.length : Int) := of_decide_eq_true (by first | (with_reducible assumption) | assumption)
                    obtain ⟨ad582, e582, hx582_0, hx582_1, hx582_2⟩ := at_T23 HR2.out x7_2 p582 q582
                    have hw582_2 := hx582_2
                    have hw582_1 := hx582_1
                    have hw582_0 := hx582_0
                    obtain rfl : ad578 = ad582 := (by injection e582)
                    replace hx582_0 := (HB.out.cell (World.block_lt_of_cell? w _ hx582_0)).trans hx582_0
                    replace hx582_1 := (HB.out.cell (World.block_lt_of_cell? w _ hx582_1)).trans hx582_1
                    replace hx582_2 := (HB.out.cell (World.block_lt_of_cell? w _ hx582_2)).trans hx582_2
                    replace p582 := eq_true p582
                    replace q582 := eq_true q582
                    refine start_ (n := 24) (S := fun w' => w'.cell? ⟨gb570, 0, none⟩ = some (.int .i64 a0_0) ∧ w'.cell? ⟨gb570, 1, none⟩ = some (.int .i64 a0_1) ∧ w'.cell? ⟨gb570, 2, none⟩ = some (.int .i64 a0_2) ∧ w'.cell? ⟨gb571, 0, none⟩ = some (.int .i64 a1_0) ∧ w'.cell? ⟨gb571, 1, none⟩ = some (.int .i64 a1_1) ∧ w'.cell? ⟨gb571, 2, none⟩ = some (.int .i64 a1_2) ∧ w'.cell? (ad578.add ((x7_2).toNat * 3)) = some (.int .i64 ((rd_T23 l2 x7_2).f0)) ∧ w'.cell? ⟨(ad578.add ((x7_2).toNat * 3)).block, (ad578.add ((x7_2).toNat * 3)).off + 1, none⟩ = some (.int .i64 ((rd_T23 l2 x7_2).f1)) ∧ w'.cell? ⟨(ad578.add ((x7_2).toNat * 3)).block, (ad578.add ((x7_2).toNat * 3)).off + 2, none⟩ = some (.int .i64 ((rd_T23 l2 x7_2).f2)) ∧ w'.cell? (ad578.add ((x7_2).toNat * 3)) = some (.int .i64 ((rd_T23 l2 x7_2).f0)) ∧ w'.cell? ⟨(ad578.add ((x7_2).toNat * 3)).block, (ad578.add ((x7_2).toNat * 3)).off + 1, none⟩ = some (.int .i64 ((rd_T23 l2 x7_2).f1)) ∧ w'.cell? ⟨(ad578.add ((x7_2).toNat * 3)).block, (ad578.add ((x7_2).toNat * 3)).off + 2, none⟩ = some (.int .i64 ((rd_T23 l2 x7_2).f2)) ∧ w'.cell? (ad578.add ((x7_2).toNat * 3)) = some (.int .i64 ((rd_T23 l2 x7_2).f0)) ∧ w'.cell? ⟨(ad578.add ((x7_2).toNat * 3)).block, (ad578.add ((x7_2).toNat * 3)).off + 1, none⟩ = some (.int .i64 ((rd_T23 l2 x7_2).f1)) ∧ w'.cell? ⟨(ad578.add ((x7_2).toNat * 3)).block, (ad578.add ((x7_2).toNat * 3)).off + 2, none⟩ = some (.int .i64 ((rd_T23 l2 x7_2).f2))) (ds := []) #[false, false, false, false, false, false, false, false, false, false, false, false, false, false, false, false, false, false, false, false, false, false, false, false] (by kernel_rfl) rfl rfl ⟨(blk_cell BK570.out 0).trans rfl, (blk_cell BK570.out 1).trans rfl, (blk_cell BK570.out 2).trans rfl, (blk_cell BK571.out 0).trans rfl, (blk_cell BK571.out 1).trans rfl, (blk_cell BK571.out 2).trans rfl, ((HB.out.cell (World.block_lt_of_cell? w _ hw578_0)).trans hw578_0), ((HB.out.cell (World.block_lt_of_cell? w _ hw578_1)).trans hw578_1), ((HB.out.cell (World.block_lt_of_cell? w _ hw578_2)).trans hw578_2), ((HB.out.cell (World.block_lt_of_cell? w _ hw580_0)).trans hw580_0), ((HB.out.cell (World.block_lt_of_cell? w _ hw580_1)).trans hw580_1), ((HB.out.cell (World.block_lt_of_cell? w _ hw580_2)).trans hw580_2), ((HB.out.cell (World.block_lt_of_cell? w _ hw582_0)).trans hw582_0), ((HB.out.cell (World.block_lt_of_cell? w _ hw582_1)).trans hw582_1), ((HB.out.cell (World.block_lt_of_cell? w _ hw582_2)).trans hw582_2)⟩ (fun hHeld => ?_); refine with_tabW lapidarylaw09_GeomEnds.tab6 lapidarylaw09_GeomEnds.bits6 (fun HT_ HW_ => ?_)
                    generalize wr.drew = w44 at BK570 BK571 HB hx578_0 hx578_1 hx578_2 hx580_0 hx580_1 hx580_2 hx582_0 hx582_1 hx582_2 hHeld ⊢
                    refine pure_ (i := 0) (N := some 30) (v := ?_) (a' := ?_) #[true, false, false, false, false, false, false, false, false, false, false, false, false, false, false, false, false, false, false, false, false, false, false, false] rfl rfl (any_of HT_.out (by kernel_rfl)) (fun _ _ _ h => h) (Or.inl ⟨by rfl, ?_⟩) ?_ ?_
                    rotate_left
                    · intro w'
                      go_simp
                      with_reducible rfl
                    rotate_left
                    · simp only [Act.put, List.setIfInBounds_toArray, List.set_cons_zero, List.set_cons_succ, i64_w, i32_w]
                      rfl
                    refine pure_ (i := 1) (N := some 31) (v := ?_) (a' := ?_) #[true, true, false, false, false, false, false, false, false, false, false, false, false, false, false, false, false, false, false, false, false, false, false, false] rfl rfl (any_of HT_.out (by kernel_rfl)) (fun _ _ _ h => h) (Or.inl ⟨by rfl, ?_⟩) ?_ ?_
                    rotate_left
                    · intro w'
                      go_simp
                      with_reducible rfl
                    rotate_left
                    · simp only [Act.put, List.setIfInBounds_toArray, List.set_cons_zero, List.set_cons_succ, i64_w, i32_w]
                      rfl
                    refine pure_ (i := 2) (N := some 32) (v := ?_) (a' := ?_) #[true, true, true, false, false, false, false, false, false, false, false, false, false, false, false, false, false, false, false, false, false, false, false, false] rfl rfl (any_of HT_.out (by kernel_rfl)) (fun _ _ _ h => h) (Or.inl ⟨by rfl, ?_⟩) ?_ ?_
                    rotate_left
                    · intro w'
                      go_simp
                      with_reducible rfl
                    rotate_left
                    · simp only [Act.put, List.setIfInBounds_toArray, List.set_cons_zero, List.set_cons_succ, i64_w, i32_w]
                      rfl
                    refine pure_ (i := 4) (N := some 34) (v := ?_) (a' := ?_) #[true, true, true, false, true, false, false, false, false, false, false, false, false, false, false, false, false, false, false, false, false, false, false, false] rfl rfl (any_of HT_.out (by kernel_rfl)) (fun _ _ _ h => h) (Or.inl ⟨by rfl, ?_⟩) ?_ ?_
                    rotate_left
                    · intro w'
                      go_simp
                      with_reducible rfl
                    rotate_left
                    · simp only [Act.put, List.setIfInBounds_toArray, List.set_cons_zero, List.set_cons_succ, i64_w, i32_w]
                      rfl
                    refine take_ (i := 3) (N := some 33) (v := ?_) (a' := ?_) #[true, true, true, true, true, false, false, false, false, false, false, false, false, false, false, false, false, false, false, false, false, false, false, false] rfl rfl (take_ofW HT_.out HW_.out (by kernel_rfl)) (fun _ _ _ h => h) (Or.inl ⟨by rfl, ?_⟩) hHeld ?_ ?_
                    rotate_left
                    · rintro w' ⟨s0, s1, s2, s3, s4, s5, s6, s7, s8, s9, s10, s11, s12, s13, s14⟩
                      go_simp
                      with_reducible rfl
                    rotate_left
                    · simp only [Act.put, List.setIfInBounds_toArray, List.set_cons_zero, List.set_cons_succ, i64_w, i32_w]
                      rfl
                    refine one_ (i := 5) (N := some 35) #[true, true, true, true, true, true, false, false, false, false, false, false, false, false, false, false, false, false, false, false, false, false, false, false] rfl rfl (one_of HT_.out (by kernel_rfl)) (by decide) (fun K hK => ?_)
                    refine goes_ Try.func25 (by kernel_rfl) rfl #[.agg #[.int .i64 ((rd_T23 l2 x7_2).f0), .int .i64 ((rd_T23 l2 x7_2).f1), .int .i64 ((rd_T23 l2 x7_2).f2)], .slice (some ad578) l2.length c2] (by rfl) rfl rfl (by (try simp only [List.map_toArray, List.map_cons, List.map_nil]); first | done | rfl | (simp only [List.length_drop, List.length_take]; rfl)) ?_
                    with_reducible refine (geom_In.calls k2 ((rd_T23 l2 x7_2).f0) ((rd_T23 l2 x7_2).f1) ((rd_T23 l2 x7_2).f2) _ _ l2 t579 _ ?side1 ?side2 A39.out).mono ?_
                    (case side1 => repeat (first | exact (Kd.C_below HR2.out HB.out) | (with_reducible refine Kd.C_alloc ?_ _) | (with_reducible refine Kd.C_drewN ?_ _) | (with_reducible refine Kd.C_drew ?_)))
                    (case side2 => exact HC2.out)
                    rintro e w45 ⟨rfl, hb⟩
                    refine ⟨_, rfl, ?_⟩
                    have n0_ := Aside0.mk (blk_below (g := gb570) (o := .cells #[.int .i64 a0_0, .int .i64 a0_1, .int .i64 a0_2] 23 (0, 0)) (by (with_reducible repeat (first | refine blk_drewN ?_ _ | refine blk_drew ?_ | refine blk_alloc ?_ _)); exact BK570.out) hb)
                    have n1_ := Aside0.mk (blk_below (g := gb571) (o := .cells #[.int .i64 a1_0, .int .i64 a1_1, .int .i64 a1_2] 23 (0, 0)) (by (with_reducible repeat (first | refine blk_drewN ?_ _ | refine blk_drew ?_ | refine blk_alloc ?_ _)); exact BK571.out) hb)
                    have n2_ := Aside0.mk (below_step (by repeat (first | (with_reducible first | exact HB.out | apply below_alloc | apply pw_below_drewN | apply below_drew1 | refine below_set ?_ GE570.out | refine below_set ?_ GE571.out) | exact HB.out)) hb)
                    clear BK570
                    clear BK571
                    clear HB
                    have BK570 := n0_
                    have BK571 := n1_
                    have HB := n2_
                    clear n0_ n1_ n2_
                    (try clear hb)
                    (try clear hb2)
                    (try clear hk)
                    (try clear hi)
                    refine hK.out _ _ ⟨(blk_cell BK570.out 0).trans rfl, (blk_cell BK570.out 1).trans rfl, (blk_cell BK570.out 2).trans rfl, (blk_cell BK571.out 0).trans rfl, (blk_cell BK571.out 1).trans rfl, (blk_cell BK571.out 2).trans rfl, ((HB.out.cell (World.block_lt_of_cell? w _ hw578_0)).trans hw578_0), ((HB.out.cell (World.block_lt_of_cell? w _ hw578_1)).trans hw578_1), ((HB.out.cell (World.block_lt_of_cell? w _ hw578_2)).trans hw578_2), ((HB.out.cell (World.block_lt_of_cell? w _ hw580_0)).trans hw580_0), ((HB.out.cell (World.block_lt_of_cell? w _ hw580_1)).trans hw580_1), ((HB.out.cell (World.block_lt_of_cell? w _ hw580_2)).trans hw580_2), ((HB.out.cell (World.block_lt_of_cell? w _ hw582_0)).trans hw582_0), ((HB.out.cell (World.block_lt_of_cell? w _ hw582_1)).trans hw582_1), ((HB.out.cell (World.block_lt_of_cell? w _ hw582_2)).trans hw582_2)⟩ (fun hHeld => ?_)
                    clear hK K
                    refine norm_ (a' := ?_) ?_ ?_
                    rotate_left
                    · show Act.put _ (some 35) _ = _
                      simp only [Act.put, List.setIfInBounds_toArray, List.set_cons_zero, List.set_cons_succ, i64_w, i32_w]
                      rfl
                    refine pure_ (i := 6) (N := some 36) (v := ?_) (a' := ?_) #[true, true, true, true, true, true, true, false, false, false, false, false, false, false, false, false, false, false, false, false, false, false, false, false] rfl rfl (any_of HT_.out (by kernel_rfl)) (fun _ _ _ h => h) (Or.inl ⟨by rfl, ?_⟩) ?_ ?_
                    rotate_left
                    · intro w'
                      go_simp
                      with_reducible rfl
                    rotate_left
                    · simp only [Act.put, List.setIfInBounds_toArray, List.set_cons_zero, List.set_cons_succ, i64_w, i32_w]
                      rfl
                    refine pure_ (i := 7) (N := some 37) (v := ?_) (a' := ?_) #[true, true, true, true, true, true, true, true, false, false, false, false, false, false, false, false, false, false, false, false, false, false, false, false] rfl rfl (any_of HT_.out (by kernel_rfl)) (fun _ _ _ h => h) (Or.inl ⟨by rfl, ?_⟩) ?_ ?_
                    rotate_left
                    · intro w'
                      go_simp
                      with_reducible rfl
                    rotate_left
                    · simp only [Act.put, List.setIfInBounds_toArray, List.set_cons_zero, List.set_cons_succ, i64_w, i32_w]
                      rfl
                    refine pure_ (i := 8) (N := some 38) (v := ?_) (a' := ?_) #[true, true, true, true, true, true, true, true, true, false, false, false, false, false, false, false, false, false, false, false, false, false, false, false] rfl rfl (any_of HT_.out (by kernel_rfl)) (fun _ _ _ h => h) (Or.inl ⟨by rfl, ?_⟩) ?_ ?_
                    rotate_left
                    · intro w'
                      go_simp
                      with_reducible rfl
                    rotate_left
                    · simp only [Act.put, List.setIfInBounds_toArray, List.set_cons_zero, List.set_cons_succ, i64_w, i32_w]
                      rfl
                    refine pure_ (i := 9) (N := some 39) (v := ?_) (a' := ?_) #[true, true, true, true, true, true, true, true, true, true, false, false, false, false, false, false, false, false, false, false, false, false, false, false] rfl rfl (any_of HT_.out (by kernel_rfl)) (fun _ _ _ h => h) (Or.inl ⟨by rfl, ?_⟩) ?_ ?_
                    rotate_left
                    · intro w'
                      go_simp
                      with_reducible rfl
                    rotate_left
                    · simp only [Act.put, List.setIfInBounds_toArray, List.set_cons_zero, List.set_cons_succ, i64_w, i32_w]
                      rfl
                    refine pure_ (i := 10) (N := some 40) (v := ?_) (a' := ?_) #[true, true, true, true, true, true, true, true, true, true, true, false, false, false, false, false, false, false, false, false, false, false, false, false] rfl rfl (any_of HT_.out (by kernel_rfl)) (fun _ _ _ h => h) (Or.inl ⟨by rfl, ?_⟩) ?_ ?_
                    rotate_left
                    · intro w'
                      go_simp
                      with_reducible rfl
                    rotate_left
                    · simp only [Act.put, List.setIfInBounds_toArray, List.set_cons_zero, List.set_cons_succ, i64_w, i32_w]
                      rfl
                    refine pure_ (i := 15) (N := some 45) (v := ?_) (a' := ?_) #[true, true, true, true, true, true, true, true, true, true, true, false, false, false, false, true, false, false, false, false, false, false, false, false] rfl rfl (any_of HT_.out (by kernel_rfl)) (fun _ _ _ h => h) (Or.inl ⟨by rfl, ?_⟩) ?_ ?_
                    rotate_left
                    · intro w'
                      go_simp
                      with_reducible rfl
                    rotate_left
                    · simp only [Act.put, List.setIfInBounds_toArray, List.set_cons_zero, List.set_cons_succ, i64_w, i32_w]
                      rfl
                    refine pure_ (i := 16) (N := some 46) (v := ?_) (a' := ?_) #[true, true, true, true, true, true, true, true, true, true, true, false, false, false, false, true, true, false, false, false, false, false, false, false] rfl rfl (any_of HT_.out (by kernel_rfl)) (fun _ _ _ h => h) (Or.inl ⟨by rfl, ?_⟩) ?_ ?_
                    rotate_left
                    · intro w'
                      go_simp
                      with_reducible rfl
                    rotate_left
                    · simp only [Act.put, List.setIfInBounds_toArray, List.set_cons_zero, List.set_cons_succ, i64_w, i32_w]
                      rfl
                    refine pure_ (i := 17) (N := some 47) (v := ?_) (a' := ?_) #[true, true, true, true, true, true, true, true, true, true, true, false, false, false, false, true, true, true, false, false, false, false, false, false] rfl rfl (any_of HT_.out (by kernel_rfl)) (fun _ _ _ h => h) (Or.inl ⟨by rfl, ?_⟩) ?_ ?_
                    rotate_left
                    · intro w'
                      go_simp
                      with_reducible rfl
                    rotate_left
                    · simp only [Act.put, List.setIfInBounds_toArray, List.set_cons_zero, List.set_cons_succ, i64_w, i32_w]
                      rfl
                    refine take_ (i := 11) (N := some 41) (v := ?_) (a' := ?_) #[true, true, true, true, true, true, true, true, true, true, true, true, false, false, false, true, true, true, false, false, false, false, false, false] rfl rfl (take_ofW HT_.out HW_.out (by kernel_rfl)) (fun _ _ _ h => h) (Or.inl ⟨by rfl, ?_⟩) hHeld ?_ ?_
                    rotate_left
                    · rintro w' ⟨s0, s1, s2, s3, s4, s5, s6, s7, s8, s9, s10, s11, s12, s13, s14⟩
                      go_simp
                      with_reducible rfl
                    rotate_left
                    · simp only [Act.put, List.setIfInBounds_toArray, List.set_cons_zero, List.set_cons_succ, i64_w, i32_w]
                      rfl
                    refine take_ (i := 12) (N := some 42) (v := ?_) (a' := ?_) #[true, true, true, true, true, true, true, true, true, true, true, true, true, false, false, true, true, true, false, false, false, false, false, false] rfl rfl (take_ofW HT_.out HW_.out (by kernel_rfl)) (fun _ _ _ h => h) (Or.inl ⟨by rfl, ?_⟩) hHeld ?_ ?_
                    rotate_left
                    · rintro w' ⟨s0, s1, s2, s3, s4, s5, s6, s7, s8, s9, s10, s11, s12, s13, s14⟩
                      go_simp
                      with_reducible rfl
                    rotate_left
                    · simp only [Act.put, List.setIfInBounds_toArray, List.set_cons_zero, List.set_cons_succ, i64_w, i32_w]
                      rfl
                    refine take_ (i := 13) (N := some 43) (v := ?_) (a' := ?_) #[true, true, true, true, true, true, true, true, true, true, true, true, true, true, false, true, true, true, false, false, false, false, false, false] rfl rfl (take_ofW HT_.out HW_.out (by kernel_rfl)) (fun _ _ _ h => h) (Or.inl ⟨by rfl, ?_⟩) hHeld ?_ ?_
                    rotate_left
                    · rintro w' ⟨s0, s1, s2, s3, s4, s5, s6, s7, s8, s9, s10, s11, s12, s13, s14⟩
                      go_simp
                      with_reducible rfl
                    rotate_left
                    · simp only [Act.put, List.setIfInBounds_toArray, List.set_cons_zero, List.set_cons_succ, i64_w, i32_w]
                      rfl
                    refine take_ (i := 18) (N := some 48) (v := ?_) (a' := ?_) #[true, true, true, true, true, true, true, true, true, true, true, true, true, true, false, true, true, true, true, false, false, false, false, false] rfl rfl (take_ofW HT_.out HW_.out (by kernel_rfl)) (fun _ _ _ h => h) (Or.inl ⟨by rfl, ?_⟩) hHeld ?_ ?_
                    rotate_left
                    · rintro w' ⟨s0, s1, s2, s3, s4, s5, s6, s7, s8, s9, s10, s11, s12, s13, s14⟩
                      go_simp
                      with_reducible rfl
                    rotate_left
                    · simp only [Act.put, List.setIfInBounds_toArray, List.set_cons_zero, List.set_cons_succ, i64_w, i32_w]
                      rfl
                    refine take_ (i := 19) (N := some 49) (v := ?_) (a' := ?_) #[true, true, true, true, true, true, true, true, true, true, true, true, true, true, false, true, true, true, true, true, false, false, false, false] rfl rfl (take_ofW HT_.out HW_.out (by kernel_rfl)) (fun _ _ _ h => h) (Or.inl ⟨by rfl, ?_⟩) hHeld ?_ ?_
                    rotate_left
                    · rintro w' ⟨s0, s1, s2, s3, s4, s5, s6, s7, s8, s9, s10, s11, s12, s13, s14⟩
                      go_simp
                      with_reducible rfl
                    rotate_left
                    · simp only [Act.put, List.setIfInBounds_toArray, List.set_cons_zero, List.set_cons_succ, i64_w, i32_w]
                      rfl
                    refine take_ (i := 20) (N := some 50) (v := ?_) (a' := ?_) #[true, true, true, true, true, true, true, true, true, true, true, true, true, true, false, true, true, true, true, true, true, false, false, false] rfl rfl (take_ofW HT_.out HW_.out (by kernel_rfl)) (fun _ _ _ h => h) (Or.inl ⟨by rfl, ?_⟩) hHeld ?_ ?_
                    rotate_left
                    · rintro w' ⟨s0, s1, s2, s3, s4, s5, s6, s7, s8, s9, s10, s11, s12, s13, s14⟩
                      go_simp
                      with_reducible rfl
                    rotate_left
                    · simp only [Act.put, List.setIfInBounds_toArray, List.set_cons_zero, List.set_cons_succ, i64_w, i32_w]
                      rfl
                    refine one_ (i := 14) (N := some 44) #[true, true, true, true, true, true, true, true, true, true, true, true, true, true, true, true, true, true, true, true, true, false, false, false] rfl rfl (one_of HT_.out (by kernel_rfl)) (by decide) (fun K hK => ?_)
                    refine goes_ Try.func14 (by kernel_rfl) rfl #[.agg #[.int .i64 ((rd_T23 l2 x7_2).f0), .int .i64 ((rd_T23 l2 x7_2).f1), .int .i64 ((rd_T23 l2 x7_2).f2)], .agg #[.int .i64 a0_0, .int .i64 a0_1, .int .i64 a0_2], .agg #[.int .i64 a1_0, .int .i64 a1_1, .int .i64 a1_2]] (by rfl) rfl rfl (by (try simp only [List.map_toArray, List.map_cons, List.map_nil]); first | done | rfl | (simp only [List.length_drop, List.length_take]; rfl)) ?_
                    with_reducible refine (geom_On.calls k2 ((rd_T23 l2 x7_2).f0) ((rd_T23 l2 x7_2).f1) ((rd_T23 l2 x7_2).f2) a0_0 a0_1 a0_2 a1_0 a1_1 a1_2 t581 _ A41.out).mono ?_
                    rintro e w46 ⟨rfl, hb⟩
                    refine ⟨_, rfl, ?_⟩
                    have n0_ := Aside0.mk (blk_below (g := gb570) (o := .cells #[.int .i64 a0_0, .int .i64 a0_1, .int .i64 a0_2] 23 (0, 0)) (by (with_reducible repeat (first | refine blk_drewN ?_ _ | refine blk_drew ?_ | refine blk_alloc ?_ _)); exact BK570.out) hb)
                    have n1_ := Aside0.mk (blk_below (g := gb571) (o := .cells #[.int .i64 a1_0, .int .i64 a1_1, .int .i64 a1_2] 23 (0, 0)) (by (with_reducible repeat (first | refine blk_drewN ?_ _ | refine blk_drew ?_ | refine blk_alloc ?_ _)); exact BK571.out) hb)
                    have n2_ := Aside0.mk (below_step (by repeat (first | (with_reducible first | exact HB.out | apply below_alloc | apply pw_below_drewN | apply below_drew1 | refine below_set ?_ GE570.out | refine below_set ?_ GE571.out) | exact HB.out)) hb)
                    clear BK570
                    clear BK571
                    clear HB
                    have BK570 := n0_
                    have BK571 := n1_
                    have HB := n2_
                    clear n0_ n1_ n2_
                    (try clear hb)
                    (try clear hb2)
                    (try clear hk)
                    (try clear hi)
                    refine hK.out _ _ ⟨(blk_cell BK570.out 0).trans rfl, (blk_cell BK570.out 1).trans rfl, (blk_cell BK570.out 2).trans rfl, (blk_cell BK571.out 0).trans rfl, (blk_cell BK571.out 1).trans rfl, (blk_cell BK571.out 2).trans rfl, ((HB.out.cell (World.block_lt_of_cell? w _ hw578_0)).trans hw578_0), ((HB.out.cell (World.block_lt_of_cell? w _ hw578_1)).trans hw578_1), ((HB.out.cell (World.block_lt_of_cell? w _ hw578_2)).trans hw578_2), ((HB.out.cell (World.block_lt_of_cell? w _ hw580_0)).trans hw580_0), ((HB.out.cell (World.block_lt_of_cell? w _ hw580_1)).trans hw580_1), ((HB.out.cell (World.block_lt_of_cell? w _ hw580_2)).trans hw580_2), ((HB.out.cell (World.block_lt_of_cell? w _ hw582_0)).trans hw582_0), ((HB.out.cell (World.block_lt_of_cell? w _ hw582_1)).trans hw582_1), ((HB.out.cell (World.block_lt_of_cell? w _ hw582_2)).trans hw582_2)⟩ (fun hHeld => ?_)
                    clear hK K
                    refine norm_ (a' := ?_) ?_ ?_
                    rotate_left
                    · show Act.put _ (some 44) _ = _
                      simp only [Act.put, List.setIfInBounds_toArray, List.set_cons_zero, List.set_cons_succ, i64_w, i32_w]
                      rfl
                    refine one_ (i := 21) (N := some 51) #[true, true, true, true, true, true, true, true, true, true, true, true, true, true, true, true, true, true, true, true, true, true, false, false] rfl rfl (one_of HT_.out (by kernel_rfl)) (by decide) (fun K hK => ?_)
                    refine goes_ Try.func14 (by kernel_rfl) rfl #[.agg #[.int .i64 ((rd_T23 l2 x7_2).f0), .int .i64 ((rd_T23 l2 x7_2).f1), .int .i64 ((rd_T23 l2 x7_2).f2)], .agg #[.int .i64 a1_0, .int .i64 a1_1, .int .i64 a1_2], .agg #[.int .i64 a0_0, .int .i64 a0_1, .int .i64 a0_2]] (by rfl) rfl rfl (by (try simp only [List.map_toArray, List.map_cons, List.map_nil]); first | done | rfl | (simp only [List.length_drop, List.length_take]; rfl)) ?_
                    with_reducible refine (geom_On.calls k2 ((rd_T23 l2 x7_2).f0) ((rd_T23 l2 x7_2).f1) ((rd_T23 l2 x7_2).f2) a1_0 a1_1 a1_2 a0_0 a0_1 a0_2 t583 _ A42.out).mono ?_
                    rintro e w47 ⟨rfl, hb⟩
                    refine ⟨_, rfl, ?_⟩
                    have n0_ := Aside0.mk (blk_below (g := gb570) (o := .cells #[.int .i64 a0_0, .int .i64 a0_1, .int .i64 a0_2] 23 (0, 0)) (by (with_reducible repeat (first | refine blk_drewN ?_ _ | refine blk_drew ?_ | refine blk_alloc ?_ _)); exact BK570.out) hb)
                    have n1_ := Aside0.mk (blk_below (g := gb571) (o := .cells #[.int .i64 a1_0, .int .i64 a1_1, .int .i64 a1_2] 23 (0, 0)) (by (with_reducible repeat (first | refine blk_drewN ?_ _ | refine blk_drew ?_ | refine blk_alloc ?_ _)); exact BK571.out) hb)
                    have n2_ := Aside0.mk (below_step (by repeat (first | (with_reducible first | exact HB.out | apply below_alloc | apply pw_below_drewN | apply below_drew1 | refine below_set ?_ GE570.out | refine below_set ?_ GE571.out) | exact HB.out)) hb)
                    clear BK570
                    clear BK571
                    clear HB
                    have BK570 := n0_
                    have BK571 := n1_
                    have HB := n2_
                    clear n0_ n1_ n2_
                    (try clear hb)
                    (try clear hb2)
                    (try clear hk)
                    (try clear hi)
                    refine hK.out _ _ ⟨(blk_cell BK570.out 0).trans rfl, (blk_cell BK570.out 1).trans rfl, (blk_cell BK570.out 2).trans rfl, (blk_cell BK571.out 0).trans rfl, (blk_cell BK571.out 1).trans rfl, (blk_cell BK571.out 2).trans rfl, ((HB.out.cell (World.block_lt_of_cell? w _ hw578_0)).trans hw578_0), ((HB.out.cell (World.block_lt_of_cell? w _ hw578_1)).trans hw578_1), ((HB.out.cell (World.block_lt_of_cell? w _ hw578_2)).trans hw578_2), ((HB.out.cell (World.block_lt_of_cell? w _ hw580_0)).trans hw580_0), ((HB.out.cell (World.block_lt_of_cell? w _ hw580_1)).trans hw580_1), ((HB.out.cell (World.block_lt_of_cell? w _ hw580_2)).trans hw580_2), ((HB.out.cell (World.block_lt_of_cell? w _ hw582_0)).trans hw582_0), ((HB.out.cell (World.block_lt_of_cell? w _ hw582_1)).trans hw582_1), ((HB.out.cell (World.block_lt_of_cell? w _ hw582_2)).trans hw582_2)⟩ (fun hHeld => ?_)
                    clear hK K
                    refine norm_ (a' := ?_) ?_ ?_
                    rotate_left
                    · show Act.put _ (some 51) _ = _
                      simp only [Act.put, List.setIfInBounds_toArray, List.set_cons_zero, List.set_cons_succ, i64_w, i32_w]
                      rfl
                    refine pure_ (i := 22) (N := some 52) (v := ?_) (a' := ?_) #[true, true, true, true, true, true, true, true, true, true, true, true, true, true, true, true, true, true, true, true, true, true, true, false] rfl rfl (any_of HT_.out (by kernel_rfl)) (fun _ _ _ h => h) (Or.inl ⟨by rfl, ?_⟩) ?_ ?_
                    rotate_left
                    · intro w'
                      go_simp
                      with_reducible rfl
                    rotate_left
                    · simp only [Act.put, List.setIfInBounds_toArray, List.set_cons_zero, List.set_cons_succ, i64_w, i32_w]
                      rfl
                    refine pure_ (i := 23) (N := some 53) (v := ?_) (a' := ?_) #[true, true, true, true, true, true, true, true, true, true, true, true, true, true, true, true, true, true, true, true, true, true, true, true] rfl rfl (any_of HT_.out (by kernel_rfl)) (fun _ _ _ h => h) (Or.inl ⟨by rfl, ?_⟩) ?_ ?_
                    rotate_left
                    · intro w'
                      go_simp
                      with_reducible rfl
                    rotate_left
                    · simp only [Act.put, List.setIfInBounds_toArray, List.set_cons_zero, List.set_cons_succ, i64_w, i32_w]
                      rfl
                    refine done_ (done_of HT_.out (by kernel_rfl)) ?_
                    try go_wp2
                    go_roundg k2
                    case measure => have := HJ3.out; have := HK2.out; omega
                    case rel => exact ⟨(wrap64 (x7_2 + 1)), (by first | rfl | (simp; done) | (simp [*]; done)), H', ⟨by have := HJ3.out; have := HK2.out; omega⟩, ⟨by (with_reducible repeat (first | refine blk_drewN ?_ _ | refine blk_drew ?_ | refine blk_alloc ?_ _)); exact BK570.out⟩, ⟨by (with_reducible repeat (first | refine blk_drewN ?_ _ | refine blk_drew ?_ | refine blk_alloc ?_ _)); exact BK571.out⟩, ⟨by repeat (first | (with_reducible first | exact HB.out | apply below_alloc | apply pw_below_drewN | apply below_drew1 | refine below_set ?_ GE570.out | refine below_set ?_ GE571.out) | exact HB.out)⟩⟩
                · rw [if_neg c40] at H
                  exact absurd H (by simp)
              · rw [if_neg c38] at H
                exact absurd H (by simp)
            · rw [if_neg c37] at H
              have c37b0 : decide (x7_2 < (l2.length : Int)) = false := decide_eq_false c37
              clear c37
              replace H := Option.bind_eq_some_iff.mp H
              obtain ⟨t584, A480, H⟩ := H
              replace H : (if t584 = true then ((geom_On.f k2 a1_0 a1_1 a1_2 a0_0 a0_1 a0_2 a1_0 a1_1 a1_2).bind fun t585 => (if t585 = true then ((geom_Meet.f k2 a0_0 a0_1 a0_2 a1_0 a1_1 a1_2 a0_0 a0_1 a0_2 a0_0 a0_1 a0_2).bind fun t586 => (if t586 = 1 then ((geom_Meet.f k2 a0_0 a0_1 a0_2 a1_0 a1_1 a1_2 a1_0 a1_1 a1_2 a0_0 a0_1 a0_2).bind fun t587 => (if ((t587 == 3) == (!(a0_0 == a1_0) || (!(a0_1 == a1_1) || (!(a0_2 == a1_2))))) = true then ((lapidarylaw09_known.f k2).bind fun t588 => (some t588)) else (none))) else (none))) else (none))) else (none)) = some r := H
              have A48 := Aside0.mk A480
              clear A480
              by_cases c49 : t584 = true
              · subst c49
                have H1 : ((geom_On.f k2 a1_0 a1_1 a1_2 a0_0 a0_1 a0_2 a1_0 a1_1 a1_2).bind fun t585 => (if t585 = true then ((geom_Meet.f k2 a0_0 a0_1 a0_2 a1_0 a1_1 a1_2 a0_0 a0_1 a0_2 a0_0 a0_1 a0_2).bind fun t586 => (if t586 = 1 then ((geom_Meet.f k2 a0_0 a0_1 a0_2 a1_0 a1_1 a1_2 a1_0 a1_1 a1_2 a0_0 a0_1 a0_2).bind fun t587 => (if ((t587 == 3) == (!(a0_0 == a1_0) || (!(a0_1 == a1_1) || (!(a0_2 == a1_2))))) = true then ((lapidarylaw09_known.f k2).bind fun t588 => (some t588)) else (none))) else (none))) else (none))) = some r := by rw [if_pos rfl] at H; exact H
                clear H
                have H := H1
                clear H1
                replace H := Option.bind_eq_some_iff.mp H
                obtain ⟨t585, A500, H⟩ := H
                replace H : (if t585 = true then ((geom_Meet.f k2 a0_0 a0_1 a0_2 a1_0 a1_1 a1_2 a0_0 a0_1 a0_2 a0_0 a0_1 a0_2).bind fun t586 => (if t586 = 1 then ((geom_Meet.f k2 a0_0 a0_1 a0_2 a1_0 a1_1 a1_2 a1_0 a1_1 a1_2 a0_0 a0_1 a0_2).bind fun t587 => (if ((t587 == 3) == (!(a0_0 == a1_0) || (!(a0_1 == a1_1) || (!(a0_2 == a1_2))))) = true then ((lapidarylaw09_known.f k2).bind fun t588 => (some t588)) else (none))) else (none))) else (none)) = some r := H
                have A50 := Aside0.mk A500
                clear A500
                by_cases c51 : t585 = true
                · subst c51
                  have H1 : ((geom_Meet.f k2 a0_0 a0_1 a0_2 a1_0 a1_1 a1_2 a0_0 a0_1 a0_2 a0_0 a0_1 a0_2).bind fun t586 => (if t586 = 1 then ((geom_Meet.f k2 a0_0 a0_1 a0_2 a1_0 a1_1 a1_2 a1_0 a1_1 a1_2 a0_0 a0_1 a0_2).bind fun t587 => (if ((t587 == 3) == (!(a0_0 == a1_0) || (!(a0_1 == a1_1) || (!(a0_2 == a1_2))))) = true then ((lapidarylaw09_known.f k2).bind fun t588 => (some t588)) else (none))) else (none))) = some r := by rw [if_pos rfl] at H; exact H
                  clear H
                  have H := H1
                  clear H1
                  replace H := Option.bind_eq_some_iff.mp H
                  obtain ⟨t586, A520, H⟩ := H
                  replace H : (if t586 = 1 then ((geom_Meet.f k2 a0_0 a0_1 a0_2 a1_0 a1_1 a1_2 a1_0 a1_1 a1_2 a0_0 a0_1 a0_2).bind fun t587 => (if ((t587 == 3) == (!(a0_0 == a1_0) || (!(a0_1 == a1_1) || (!(a0_2 == a1_2))))) = true then ((lapidarylaw09_known.f k2).bind fun t588 => (some t588)) else (none))) else (none)) = some r := H
                  have A52 := Aside0.mk A520
                  clear A520
                  by_cases c53 : t586 = 1
                  · rw [if_pos c53] at H
                    have c53b0 : (t586 == 1) = true := beq_iff_eq.mpr c53
                    have c53b1 : (t586 != 1) = false := bne_eq_false_iff_eq.mpr c53
                    clear c53
                    replace H := Option.bind_eq_some_iff.mp H
                    obtain ⟨t587, A540, H⟩ := H
                    replace H : (if ((t587 == 3) == (!(a0_0 == a1_0) || (!(a0_1 == a1_1) || (!(a0_2 == a1_2))))) = true then ((lapidarylaw09_known.f k2).bind fun t588 => (some t588)) else (none)) = some r := H
                    have A54 := Aside0.mk A540
                    clear A540
                    by_cases c55 : ((t587 == 3) == (!(a0_0 == a1_0) || (!(a0_1 == a1_1) || (!(a0_2 == a1_2))))) = true
                    · rw [if_pos c55] at H
                      have c55b0 : ((t587 == 3) == (!(a0_0 == a1_0) || (!(a0_1 == a1_1) || (!(a0_2 == a1_2))))) = true := c55
                      (try (have c55b1 : decide ((t587 == 3) = (!(a0_0 == a1_0) || (!(a0_1 == a1_1) || (!(a0_2 == a1_2))))) = true := by simpa using c55))
                      (try (have c55b2 : ((t587 == 3) == (!(a0_0 == a1_0) || (!(a0_1 == a1_1) || (!(a0_2 == a1_2))))) = true := by simpa using c55))
                      clear c55
                      replace H := Option.bind_eq_some_iff.mp H
                      obtain ⟨t588, A560, H⟩ := H
                      replace H : (some t588) = some r := H
                      have A56 := Aside0.mk A560
                      clear A560
                      obtain rfl := Option.some.inj H
                      try go_wp2
                      have n0_ := Aside0.mk (blk_drew BK570.out)
                      have n1_ := Aside0.mk (blk_drew BK571.out)
                      have n2_ := Aside0.mk (below_drew1 HB.out)
                      clear BK570
                      clear BK571
                      clear HB
                      have BK570 := n0_
                      have BK571 := n1_
                      have HB := n2_
                      clear n0_ n1_ n2_
                      refine start_ (n := 34) (S := fun w' => w'.cell? ⟨gb570, 0, none⟩ = some (.int .i64 a0_0) ∧ w'.cell? ⟨gb570, 1, none⟩ = some (.int .i64 a0_1) ∧ w'.cell? ⟨gb570, 2, none⟩ = some (.int .i64 a0_2) ∧ w'.cell? ⟨gb571, 0, none⟩ = some (.int .i64 a1_0) ∧ w'.cell? ⟨gb571, 1, none⟩ = some (.int .i64 a1_1) ∧ w'.cell? ⟨gb571, 2, none⟩ = some (.int .i64 a1_2)) (ds := []) #[false, false, false, false, false, false, false, false, false, false, false, false, false, false, false, false, false, false, false, false, false, false, false, false, false, false, false, false, false, false, false, false, false, false] (by kernel_rfl) rfl rfl ⟨(blk_cell BK570.out 0).trans rfl, (blk_cell BK570.out 1).trans rfl, (blk_cell BK570.out 2).trans rfl, (blk_cell BK571.out 0).trans rfl, (blk_cell BK571.out 1).trans rfl, (blk_cell BK571.out 2).trans rfl⟩ (fun hHeld => ?_); refine with_tabW lapidarylaw09_GeomEnds.tab8 lapidarylaw09_GeomEnds.bits8 (fun HT_ HW_ => ?_)
                      generalize wr.drew = w57 at BK570 BK571 HB hHeld ⊢
                      refine take_ (i := 0) (N := some 54) (v := ?_) (a' := ?_) #[true, false, false, false, false, false, false, false, false, false, false, false, false, false, false, false, false, false, false, false, false, false, false, false, false, false, false, false, false, false, false, false, false, false] rfl rfl (take_ofW HT_.out HW_.out (by kernel_rfl)) (fun _ _ _ h => h) (Or.inl ⟨by rfl, ?_⟩) hHeld ?_ ?_
                      rotate_left
                      · rintro w' ⟨s0, s1, s2, s3, s4, s5⟩
                        go_simp
                        with_reducible rfl
                      rotate_left
                      · simp only [Act.put, List.setIfInBounds_toArray, List.set_cons_zero, List.set_cons_succ, i64_w, i32_w]
                        rfl
                      refine take_ (i := 1) (N := some 55) (v := ?_) (a' := ?_) #[true, true, false, false, false, false, false, false, false, false, false, false, false, false, false, false, false, false, false, false, false, false, false, false, false, false, false, false, false, false, false, false, false, false] rfl rfl (take_ofW HT_.out HW_.out (by kernel_rfl)) (fun _ _ _ h => h) (Or.inl ⟨by rfl, ?_⟩) hHeld ?_ ?_
                      rotate_left
                      · rintro w' ⟨s0, s1, s2, s3, s4, s5⟩
                        go_simp
                        with_reducible rfl
                      rotate_left
                      · simp only [Act.put, List.setIfInBounds_toArray, List.set_cons_zero, List.set_cons_succ, i64_w, i32_w]
                        rfl
                      refine take_ (i := 2) (N := some 56) (v := ?_) (a' := ?_) #[true, true, true, false, false, false, false, false, false, false, false, false, false, false, false, false, false, false, false, false, false, false, false, false, false, false, false, false, false, false, false, false, false, false] rfl rfl (take_ofW HT_.out HW_.out (by kernel_rfl)) (fun _ _ _ h => h) (Or.inl ⟨by rfl, ?_⟩) hHeld ?_ ?_
                      rotate_left
                      · rintro w' ⟨s0, s1, s2, s3, s4, s5⟩
                        go_simp
                        with_reducible rfl
                      rotate_left
                      · simp only [Act.put, List.setIfInBounds_toArray, List.set_cons_zero, List.set_cons_succ, i64_w, i32_w]
                        rfl
                      refine one_ (i := 3) (N := some 57) #[true, true, true, true, false, false, false, false, false, false, false, false, false, false, false, false, false, false, false, false, false, false, false, false, false, false, false, false, false, false, false, false, false, false] rfl rfl (one_of HT_.out (by kernel_rfl)) (by decide) (fun K hK => ?_)
                      refine goes_ Try.func14 (by kernel_rfl) rfl #[.agg #[.int .i64 a0_0, .int .i64 a0_1, .int .i64 a0_2], .agg #[.int .i64 a0_0, .int .i64 a0_1, .int .i64 a0_2], .agg #[.int .i64 a1_0, .int .i64 a1_1, .int .i64 a1_2]] (by rfl) rfl rfl (by (try simp only [List.map_toArray, List.map_cons, List.map_nil]); first | done | rfl | (simp only [List.length_drop, List.length_take]; rfl)) ?_
                      with_reducible refine (geom_On.calls k2 a0_0 a0_1 a0_2 a0_0 a0_1 a0_2 a1_0 a1_1 a1_2 true _ A48.out).mono ?_
                      rintro e w58 ⟨rfl, hb⟩
                      refine ⟨_, rfl, ?_⟩
                      have n0_ := Aside0.mk (blk_below (g := gb570) (o := .cells #[.int .i64 a0_0, .int .i64 a0_1, .int .i64 a0_2] 23 (0, 0)) (by (with_reducible repeat (first | refine blk_drewN ?_ _ | refine blk_drew ?_ | refine blk_alloc ?_ _)); exact BK570.out) hb)
                      have n1_ := Aside0.mk (blk_below (g := gb571) (o := .cells #[.int .i64 a1_0, .int .i64 a1_1, .int .i64 a1_2] 23 (0, 0)) (by (with_reducible repeat (first | refine blk_drewN ?_ _ | refine blk_drew ?_ | refine blk_alloc ?_ _)); exact BK571.out) hb)
                      have n2_ := Aside0.mk (below_step (by repeat (first | (with_reducible first | exact HB.out | apply below_alloc | apply pw_below_drewN | apply below_drew1 | refine below_set ?_ GE570.out | refine below_set ?_ GE571.out) | exact HB.out)) hb)
                      clear BK570
                      clear BK571
                      clear HB
                      have BK570 := n0_
                      have BK571 := n1_
                      have HB := n2_
                      clear n0_ n1_ n2_
                      (try clear hb)
                      (try clear hb2)
                      (try clear hk)
                      (try clear hi)
                      refine hK.out _ _ ⟨(blk_cell BK570.out 0).trans rfl, (blk_cell BK570.out 1).trans rfl, (blk_cell BK570.out 2).trans rfl, (blk_cell BK571.out 0).trans rfl, (blk_cell BK571.out 1).trans rfl, (blk_cell BK571.out 2).trans rfl⟩ (fun hHeld => ?_)
                      clear hK K
                      refine norm_ (a' := ?_) ?_ ?_
                      rotate_left
                      · show Act.put _ (some 57) _ = _
                        simp only [Act.put, List.setIfInBounds_toArray, List.set_cons_zero, List.set_cons_succ, i64_w, i32_w]
                        rfl
                      refine pure_ (i := 4) (N := some 58) (v := ?_) (a' := ?_) #[true, true, true, true, true, false, false, false, false, false, false, false, false, false, false, false, false, false, false, false, false, false, false, false, false, false, false, false, false, false, false, false, false, false] rfl rfl (any_of HT_.out (by kernel_rfl)) (fun _ _ _ h => h) (Or.inl ⟨by rfl, ?_⟩) ?_ ?_
                      rotate_left
                      · intro w'
                        go_simp
                        with_reducible rfl
                      rotate_left
                      · simp only [Act.put, List.setIfInBounds_toArray, List.set_cons_zero, List.set_cons_succ, i64_w, i32_w]
                        rfl
                      refine take_ (i := 5) (N := some 59) (v := ?_) (a' := ?_) #[true, true, true, true, true, true, false, false, false, false, false, false, false, false, false, false, false, false, false, false, false, false, false, false, false, false, false, false, false, false, false, false, false, false] rfl rfl (take_ofW HT_.out HW_.out (by kernel_rfl)) (fun _ _ _ h => h) (Or.inl ⟨by rfl, ?_⟩) hHeld ?_ ?_
                      rotate_left
                      · rintro w' ⟨s0, s1, s2, s3, s4, s5⟩
                        go_simp
                        with_reducible rfl
                      rotate_left
                      · simp only [Act.put, List.setIfInBounds_toArray, List.set_cons_zero, List.set_cons_succ, i64_w, i32_w]
                        rfl
                      refine take_ (i := 6) (N := some 60) (v := ?_) (a' := ?_) #[true, true, true, true, true, true, true, false, false, false, false, false, false, false, false, false, false, false, false, false, false, false, false, false, false, false, false, false, false, false, false, false, false, false] rfl rfl (take_ofW HT_.out HW_.out (by kernel_rfl)) (fun _ _ _ h => h) (Or.inl ⟨by rfl, ?_⟩) hHeld ?_ ?_
                      rotate_left
                      · rintro w' ⟨s0, s1, s2, s3, s4, s5⟩
                        go_simp
                        with_reducible rfl
                      rotate_left
                      · simp only [Act.put, List.setIfInBounds_toArray, List.set_cons_zero, List.set_cons_succ, i64_w, i32_w]
                        rfl
                      refine take_ (i := 7) (N := some 61) (v := ?_) (a' := ?_) #[true, true, true, true, true, true, true, true, false, false, false, false, false, false, false, false, false, false, false, false, false, false, false, false, false, false, false, false, false, false, false, false, false, false] rfl rfl (take_ofW HT_.out HW_.out (by kernel_rfl)) (fun _ _ _ h => h) (Or.inl ⟨by rfl, ?_⟩) hHeld ?_ ?_
                      rotate_left
                      · rintro w' ⟨s0, s1, s2, s3, s4, s5⟩
                        go_simp
                        with_reducible rfl
                      rotate_left
                      · simp only [Act.put, List.setIfInBounds_toArray, List.set_cons_zero, List.set_cons_succ, i64_w, i32_w]
                        rfl
                      refine one_ (i := 8) (N := some 62) #[true, true, true, true, true, true, true, true, true, false, false, false, false, false, false, false, false, false, false, false, false, false, false, false, false, false, false, false, false, false, false, false, false, false] rfl rfl (one_of HT_.out (by kernel_rfl)) (by decide) (fun K hK => ?_)
                      refine goes_ Try.func14 (by kernel_rfl) rfl #[.agg #[.int .i64 a1_0, .int .i64 a1_1, .int .i64 a1_2], .agg #[.int .i64 a0_0, .int .i64 a0_1, .int .i64 a0_2], .agg #[.int .i64 a1_0, .int .i64 a1_1, .int .i64 a1_2]] (by rfl) rfl rfl (by (try simp only [List.map_toArray, List.map_cons, List.map_nil]); first | done | rfl | (simp only [List.length_drop, List.length_take]; rfl)) ?_
                      with_reducible refine (geom_On.calls k2 a1_0 a1_1 a1_2 a0_0 a0_1 a0_2 a1_0 a1_1 a1_2 true _ A50.out).mono ?_
                      rintro e w59 ⟨rfl, hb⟩
                      refine ⟨_, rfl, ?_⟩
                      have n0_ := Aside0.mk (blk_below (g := gb570) (o := .cells #[.int .i64 a0_0, .int .i64 a0_1, .int .i64 a0_2] 23 (0, 0)) (by (with_reducible repeat (first | refine blk_drewN ?_ _ | refine blk_drew ?_ | refine blk_alloc ?_ _)); exact BK570.out) hb)
                      have n1_ := Aside0.mk (blk_below (g := gb571) (o := .cells #[.int .i64 a1_0, .int .i64 a1_1, .int .i64 a1_2] 23 (0, 0)) (by (with_reducible repeat (first | refine blk_drewN ?_ _ | refine blk_drew ?_ | refine blk_alloc ?_ _)); exact BK571.out) hb)
                      have n2_ := Aside0.mk (below_step (by repeat (first | (with_reducible first | exact HB.out | apply below_alloc | apply pw_below_drewN | apply below_drew1 | refine below_set ?_ GE570.out | refine below_set ?_ GE571.out) | exact HB.out)) hb)
                      clear BK570
                      clear BK571
                      clear HB
                      have BK570 := n0_
                      have BK571 := n1_
                      have HB := n2_
                      clear n0_ n1_ n2_
                      (try clear hb)
                      (try clear hb2)
                      (try clear hk)
                      (try clear hi)
                      refine hK.out _ _ ⟨(blk_cell BK570.out 0).trans rfl, (blk_cell BK570.out 1).trans rfl, (blk_cell BK570.out 2).trans rfl, (blk_cell BK571.out 0).trans rfl, (blk_cell BK571.out 1).trans rfl, (blk_cell BK571.out 2).trans rfl⟩ (fun hHeld => ?_)
                      clear hK K
                      refine norm_ (a' := ?_) ?_ ?_
                      rotate_left
                      · show Act.put _ (some 62) _ = _
                        simp only [Act.put, List.setIfInBounds_toArray, List.set_cons_zero, List.set_cons_succ, i64_w, i32_w]
                        rfl
                      refine pure_ (i := 9) (N := some 63) (v := ?_) (a' := ?_) #[true, true, true, true, true, true, true, true, true, true, false, false, false, false, false, false, false, false, false, false, false, false, false, false, false, false, false, false, false, false, false, false, false, false] rfl rfl (any_of HT_.out (by kernel_rfl)) (fun _ _ _ h => h) (Or.inl ⟨by rfl, ?_⟩) ?_ ?_
                      rotate_left
                      · intro w'
                        go_simp
                        with_reducible rfl
                      rotate_left
                      · simp only [Act.put, List.setIfInBounds_toArray, List.set_cons_zero, List.set_cons_succ, i64_w, i32_w]
                        rfl
                      refine pure_ (i := 10) (N := some 64) (v := ?_) (a' := ?_) #[true, true, true, true, true, true, true, true, true, true, true, false, false, false, false, false, false, false, false, false, false, false, false, false, false, false, false, false, false, false, false, false, false, false] rfl rfl (any_of HT_.out (by kernel_rfl)) (fun _ _ _ h => h) (Or.inl ⟨by rfl, ?_⟩) ?_ ?_
                      rotate_left
                      · intro w'
                        go_simp
                        with_reducible rfl
                      rotate_left
                      · simp only [Act.put, List.setIfInBounds_toArray, List.set_cons_zero, List.set_cons_succ, i64_w, i32_w]
                        rfl
                      refine take_ (i := 11) (N := some 65) (v := ?_) (a' := ?_) #[true, true, true, true, true, true, true, true, true, true, true, true, false, false, false, false, false, false, false, false, false, false, false, false, false, false, false, false, false, false, false, false, false, false] rfl rfl (take_ofW HT_.out HW_.out (by kernel_rfl)) (fun _ _ _ h => h) (Or.inl ⟨by rfl, ?_⟩) hHeld ?_ ?_
                      rotate_left
                      · rintro w' ⟨s0, s1, s2, s3, s4, s5⟩
                        go_simp
                        with_reducible rfl
                      rotate_left
                      · simp only [Act.put, List.setIfInBounds_toArray, List.set_cons_zero, List.set_cons_succ, i64_w, i32_w]
                        rfl
                      refine take_ (i := 12) (N := some 66) (v := ?_) (a' := ?_) #[true, true, true, true, true, true, true, true, true, true, true, true, true, false, false, false, false, false, false, false, false, false, false, false, false, false, false, false, false, false, false, false, false, false] rfl rfl (take_ofW HT_.out HW_.out (by kernel_rfl)) (fun _ _ _ h => h) (Or.inl ⟨by rfl, ?_⟩) hHeld ?_ ?_
                      rotate_left
                      · rintro w' ⟨s0, s1, s2, s3, s4, s5⟩
                        go_simp
                        with_reducible rfl
                      rotate_left
                      · simp only [Act.put, List.setIfInBounds_toArray, List.set_cons_zero, List.set_cons_succ, i64_w, i32_w]
                        rfl
                      refine take_ (i := 13) (N := some 67) (v := ?_) (a' := ?_) #[true, true, true, true, true, true, true, true, true, true, true, true, true, true, false, false, false, false, false, false, false, false, false, false, false, false, false, false, false, false, false, false, false, false] rfl rfl (take_ofW HT_.out HW_.out (by kernel_rfl)) (fun _ _ _ h => h) (Or.inl ⟨by rfl, ?_⟩) hHeld ?_ ?_
                      rotate_left
                      · rintro w' ⟨s0, s1, s2, s3, s4, s5⟩
                        go_simp
                        with_reducible rfl
                      rotate_left
                      · simp only [Act.put, List.setIfInBounds_toArray, List.set_cons_zero, List.set_cons_succ, i64_w, i32_w]
                        rfl
                      refine take_ (i := 14) (N := some 68) (v := ?_) (a' := ?_) #[true, true, true, true, true, true, true, true, true, true, true, true, true, true, true, false, false, false, false, false, false, false, false, false, false, false, false, false, false, false, false, false, false, false] rfl rfl (take_ofW HT_.out HW_.out (by kernel_rfl)) (fun _ _ _ h => h) (Or.inl ⟨by rfl, ?_⟩) hHeld ?_ ?_
                      rotate_left
                      · rintro w' ⟨s0, s1, s2, s3, s4, s5⟩
                        go_simp
                        with_reducible rfl
                      rotate_left
                      · simp only [Act.put, List.setIfInBounds_toArray, List.set_cons_zero, List.set_cons_succ, i64_w, i32_w]
                        rfl
                      refine one_ (i := 15) (N := some 69) #[true, true, true, true, true, true, true, true, true, true, true, true, true, true, true, true, false, false, false, false, false, false, false, false, false, false, false, false, false, false, false, false, false, false] rfl rfl (one_of HT_.out (by kernel_rfl)) (by decide) (fun K hK => ?_)
                      refine goes_ Try.func11 (by kernel_rfl) rfl #[.agg #[.int .i64 a0_0, .int .i64 a0_1, .int .i64 a0_2], .agg #[.int .i64 a1_0, .int .i64 a1_1, .int .i64 a1_2], .agg #[.int .i64 a0_0, .int .i64 a0_1, .int .i64 a0_2], .agg #[.int .i64 a0_0, .int .i64 a0_1, .int .i64 a0_2]] (by rfl) rfl rfl (by (try simp only [List.map_toArray, List.map_cons, List.map_nil]); first | done | rfl | (simp only [List.length_drop, List.length_take]; rfl)) ?_
                      with_reducible refine (geom_Meet.calls k2 a0_0 a0_1 a0_2 a1_0 a1_1 a1_2 a0_0 a0_1 a0_2 a0_0 a0_1 a0_2 t586 _ A52.out).mono ?_
                      rintro e w60 ⟨rfl, hb⟩
                      refine ⟨_, rfl, ?_⟩
                      have n0_ := Aside0.mk (blk_below (g := gb570) (o := .cells #[.int .i64 a0_0, .int .i64 a0_1, .int .i64 a0_2] 23 (0, 0)) (by (with_reducible repeat (first | refine blk_drewN ?_ _ | refine blk_drew ?_ | refine blk_alloc ?_ _)); exact BK570.out) hb)
                      have n1_ := Aside0.mk (blk_below (g := gb571) (o := .cells #[.int .i64 a1_0, .int .i64 a1_1, .int .i64 a1_2] 23 (0, 0)) (by (with_reducible repeat (first | refine blk_drewN ?_ _ | refine blk_drew ?_ | refine blk_alloc ?_ _)); exact BK571.out) hb)
                      have n2_ := Aside0.mk (below_step (by repeat (first | (with_reducible first | exact HB.out | apply below_alloc | apply pw_below_drewN | apply below_drew1 | refine below_set ?_ GE570.out | refine below_set ?_ GE571.out) | exact HB.out)) hb)
                      clear BK570
                      clear BK571
                      clear HB
                      have BK570 := n0_
                      have BK571 := n1_
                      have HB := n2_
                      clear n0_ n1_ n2_
                      (try clear hb)
                      (try clear hb2)
                      (try clear hk)
                      (try clear hi)
                      refine hK.out _ _ ⟨(blk_cell BK570.out 0).trans rfl, (blk_cell BK570.out 1).trans rfl, (blk_cell BK570.out 2).trans rfl, (blk_cell BK571.out 0).trans rfl, (blk_cell BK571.out 1).trans rfl, (blk_cell BK571.out 2).trans rfl⟩ (fun hHeld => ?_)
                      clear hK K
                      refine norm_ (a' := ?_) ?_ ?_
                      rotate_left
                      · show Act.put _ (some 69) _ = _
                        simp only [Act.put, List.setIfInBounds_toArray, List.set_cons_zero, List.set_cons_succ, i64_w, i32_w]
                        rfl
                      refine pure_ (i := 16) (N := some 70) (v := ?_) (a' := ?_) #[true, true, true, true, true, true, true, true, true, true, true, true, true, true, true, true, true, false, false, false, false, false, false, false, false, false, false, false, false, false, false, false, false, false] rfl rfl (any_of HT_.out (by kernel_rfl)) (fun _ _ _ h => h) (Or.inl ⟨by rfl, ?_⟩) ?_ ?_
                      rotate_left
                      · intro w'
                        go_simp
                        with_reducible rfl
                      rotate_left
                      · simp only [Act.put, List.setIfInBounds_toArray, List.set_cons_zero, List.set_cons_succ, i64_w, i32_w]
                        rfl
                      refine pure_ (i := 17) (N := some 71) (v := ?_) (a' := ?_) #[true, true, true, true, true, true, true, true, true, true, true, true, true, true, true, true, true, true, false, false, false, false, false, false, false, false, false, false, false, false, false, false, false, false] rfl rfl (any_of HT_.out (by kernel_rfl)) (fun _ _ _ h => h) (Or.inl ⟨by rfl, ?_⟩) ?_ ?_
                      rotate_left
                      · intro w'
                        go_simp
                        with_reducible rfl
                      rotate_left
                      · simp only [Act.put, List.setIfInBounds_toArray, List.set_cons_zero, List.set_cons_succ, i64_w, i32_w]
                        rfl
                      refine pure_ (i := 18) (N := some 72) (v := ?_) (a' := ?_) #[true, true, true, true, true, true, true, true, true, true, true, true, true, true, true, true, true, true, true, false, false, false, false, false, false, false, false, false, false, false, false, false, false, false] rfl rfl (any_of HT_.out (by kernel_rfl)) (fun _ _ _ h => h) (Or.inl ⟨by rfl, ?_⟩) ?_ ?_
                      rotate_left
                      · intro w'
                        go_simp
                        with_reducible rfl
                      rotate_left
                      · simp only [Act.put, List.setIfInBounds_toArray, List.set_cons_zero, List.set_cons_succ, i64_w, i32_w]
                        rfl
                      refine take_ (i := 19) (N := some 73) (v := ?_) (a' := ?_) #[true, true, true, true, true, true, true, true, true, true, true, true, true, true, true, true, true, true, true, true, false, false, false, false, false, false, false, false, false, false, false, false, false, false] rfl rfl (take_ofW HT_.out HW_.out (by kernel_rfl)) (fun _ _ _ h => h) (Or.inl ⟨by rfl, ?_⟩) hHeld ?_ ?_
                      rotate_left
                      · rintro w' ⟨s0, s1, s2, s3, s4, s5⟩
                        go_simp
                        with_reducible rfl
                      rotate_left
                      · simp only [Act.put, List.setIfInBounds_toArray, List.set_cons_zero, List.set_cons_succ, i64_w, i32_w]
                        rfl
                      refine take_ (i := 20) (N := some 74) (v := ?_) (a' := ?_) #[true, true, true, true, true, true, true, true, true, true, true, true, true, true, true, true, true, true, true, true, true, false, false, false, false, false, false, false, false, false, false, false, false, false] rfl rfl (take_ofW HT_.out HW_.out (by kernel_rfl)) (fun _ _ _ h => h) (Or.inl ⟨by rfl, ?_⟩) hHeld ?_ ?_
                      rotate_left
                      · rintro w' ⟨s0, s1, s2, s3, s4, s5⟩
                        go_simp
                        with_reducible rfl
                      rotate_left
                      · simp only [Act.put, List.setIfInBounds_toArray, List.set_cons_zero, List.set_cons_succ, i64_w, i32_w]
                        rfl
                      refine take_ (i := 21) (N := some 75) (v := ?_) (a' := ?_) #[true, true, true, true, true, true, true, true, true, true, true, true, true, true, true, true, true, true, true, true, true, true, false, false, false, false, false, false, false, false, false, false, false, false] rfl rfl (take_ofW HT_.out HW_.out (by kernel_rfl)) (fun _ _ _ h => h) (Or.inl ⟨by rfl, ?_⟩) hHeld ?_ ?_
                      rotate_left
                      · rintro w' ⟨s0, s1, s2, s3, s4, s5⟩
                        go_simp
                        with_reducible rfl
                      rotate_left
                      · simp only [Act.put, List.setIfInBounds_toArray, List.set_cons_zero, List.set_cons_succ, i64_w, i32_w]
                        rfl
                      refine take_ (i := 22) (N := some 76) (v := ?_) (a' := ?_) #[true, true, true, true, true, true, true, true, true, true, true, true, true, true, true, true, true, true, true, true, true, true, true, false, false, false, false, false, false, false, false, false, false, false] rfl rfl (take_ofW HT_.out HW_.out (by kernel_rfl)) (fun _ _ _ h => h) (Or.inl ⟨by rfl, ?_⟩) hHeld ?_ ?_
                      rotate_left
                      · rintro w' ⟨s0, s1, s2, s3, s4, s5⟩
                        go_simp
                        with_reducible rfl
                      rotate_left
                      · simp only [Act.put, List.setIfInBounds_toArray, List.set_cons_zero, List.set_cons_succ, i64_w, i32_w]
                        rfl
                      refine take_ (i := 25) (N := some 79) (v := ?_) (a' := ?_) #[true, true, true, true, true, true, true, true, true, true, true, true, true, true, true, true, true, true, true, true, true, true, true, false, false, true, false, false, false, false, false, false, false, false] rfl rfl (take_ofW HT_.out HW_.out (by kernel_rfl)) (fun _ _ _ h => h) (Or.inl ⟨by rfl, ?_⟩) hHeld ?_ ?_
                      rotate_left
                      · rintro w' ⟨s0, s1, s2, s3, s4, s5⟩
                        go_simp
                        with_reducible rfl
                      rotate_left
                      · simp only [Act.put, List.setIfInBounds_toArray, List.set_cons_zero, List.set_cons_succ, i64_w, i32_w]
                        rfl
                      refine take_ (i := 26) (N := some 80) (v := ?_) (a' := ?_) #[true, true, true, true, true, true, true, true, true, true, true, true, true, true, true, true, true, true, true, true, true, true, true, false, false, true, true, false, false, false, false, false, false, false] rfl rfl (take_ofW HT_.out HW_.out (by kernel_rfl)) (fun _ _ _ h => h) (Or.inl ⟨by rfl, ?_⟩) hHeld ?_ ?_
                      rotate_left
                      · rintro w' ⟨s0, s1, s2, s3, s4, s5⟩
                        go_simp
                        with_reducible rfl
                      rotate_left
                      · simp only [Act.put, List.setIfInBounds_toArray, List.set_cons_zero, List.set_cons_succ, i64_w, i32_w]
                        rfl
                      refine pure_ (i := 27) (N := some 81) (v := ?_) (a' := ?_) #[true, true, true, true, true, true, true, true, true, true, true, true, true, true, true, true, true, true, true, true, true, true, true, false, false, true, true, true, false, false, false, false, false, false] rfl rfl (any_of HT_.out (by kernel_rfl)) (fun _ _ _ h => h) (Or.inl ⟨by rfl, ?_⟩) ?_ ?_
                      rotate_left
                      · intro w'
                        go_simp
                        with_reducible rfl
                      rotate_left
                      · simp only [Act.put, List.setIfInBounds_toArray, List.set_cons_zero, List.set_cons_succ, i64_w, i32_w]
                        rfl
                      refine one_ (i := 23) (N := some 77) #[true, true, true, true, true, true, true, true, true, true, true, true, true, true, true, true, true, true, true, true, true, true, true, true, false, true, true, true, false, false, false, false, false, false] rfl rfl (one_of HT_.out (by kernel_rfl)) (by decide) (fun K hK => ?_)
                      refine goes_ Try.func11 (by kernel_rfl) rfl #[.agg #[.int .i64 a0_0, .int .i64 a0_1, .int .i64 a0_2], .agg #[.int .i64 a1_0, .int .i64 a1_1, .int .i64 a1_2], .agg #[.int .i64 a1_0, .int .i64 a1_1, .int .i64 a1_2], .agg #[.int .i64 a0_0, .int .i64 a0_1, .int .i64 a0_2]] (by rfl) rfl rfl (by (try simp only [List.map_toArray, List.map_cons, List.map_nil]); first | done | rfl | (simp only [List.length_drop, List.length_take]; rfl)) ?_
                      with_reducible refine (geom_Meet.calls k2 a0_0 a0_1 a0_2 a1_0 a1_1 a1_2 a1_0 a1_1 a1_2 a0_0 a0_1 a0_2 t587 _ A54.out).mono ?_
                      rintro e w61 ⟨rfl, hb⟩
                      refine ⟨_, rfl, ?_⟩
                      have n0_ := Aside0.mk (blk_below (g := gb570) (o := .cells #[.int .i64 a0_0, .int .i64 a0_1, .int .i64 a0_2] 23 (0, 0)) (by (with_reducible repeat (first | refine blk_drewN ?_ _ | refine blk_drew ?_ | refine blk_alloc ?_ _)); exact BK570.out) hb)
                      have n1_ := Aside0.mk (blk_below (g := gb571) (o := .cells #[.int .i64 a1_0, .int .i64 a1_1, .int .i64 a1_2] 23 (0, 0)) (by (with_reducible repeat (first | refine blk_drewN ?_ _ | refine blk_drew ?_ | refine blk_alloc ?_ _)); exact BK571.out) hb)
                      have n2_ := Aside0.mk (below_step (by repeat (first | (with_reducible first | exact HB.out | apply below_alloc | apply pw_below_drewN | apply below_drew1 | refine below_set ?_ GE570.out | refine below_set ?_ GE571.out) | exact HB.out)) hb)
                      clear BK570
                      clear BK571
                      clear HB
                      have BK570 := n0_
                      have BK571 := n1_
                      have HB := n2_
                      clear n0_ n1_ n2_
                      (try clear hb)
                      (try clear hb2)
                      (try clear hk)
                      (try clear hi)
                      refine hK.out _ _ ⟨(blk_cell BK570.out 0).trans rfl, (blk_cell BK570.out 1).trans rfl, (blk_cell BK570.out 2).trans rfl, (blk_cell BK571.out 0).trans rfl, (blk_cell BK571.out 1).trans rfl, (blk_cell BK571.out 2).trans rfl⟩ (fun hHeld => ?_)
                      clear hK K
                      refine norm_ (a' := ?_) ?_ ?_
                      rotate_left
                      · show Act.put _ (some 77) _ = _
                        simp only [Act.put, List.setIfInBounds_toArray, List.set_cons_zero, List.set_cons_succ, i64_w, i32_w]
                        rfl
                      refine pure_ (i := 24) (N := some 78) (v := ?_) (a' := ?_) #[true, true, true, true, true, true, true, true, true, true, true, true, true, true, true, true, true, true, true, true, true, true, true, true, true, true, true, true, false, false, false, false, false, false] rfl rfl (any_of HT_.out (by kernel_rfl)) (fun _ _ _ h => h) (Or.inl ⟨by rfl, ?_⟩) ?_ ?_
                      rotate_left
                      · intro w'
                        go_simp
                        with_reducible rfl
                      rotate_left
                      · simp only [Act.put, List.setIfInBounds_toArray, List.set_cons_zero, List.set_cons_succ, i64_w, i32_w]
                        rfl
                      refine pure_ (i := 28) (N := some 82) (v := ?_) (a' := ?_) #[true, true, true, true, true, true, true, true, true, true, true, true, true, true, true, true, true, true, true, true, true, true, true, true, true, true, true, true, true, false, false, false, false, false] rfl rfl (any_of HT_.out (by kernel_rfl)) (fun _ _ _ h => h) (Or.inl ⟨by rfl, ?_⟩) ?_ ?_
                      rotate_left
                      · intro w'
                        go_simp
                        with_reducible rfl
                      rotate_left
                      · simp only [Act.put, List.setIfInBounds_toArray, List.set_cons_zero, List.set_cons_succ, i64_w, i32_w]
                        rfl
                      refine pure_ (i := 29) (N := some 83) (v := ?_) (a' := ?_) #[true, true, true, true, true, true, true, true, true, true, true, true, true, true, true, true, true, true, true, true, true, true, true, true, true, true, true, true, true, true, false, false, false, false] rfl rfl (any_of HT_.out (by kernel_rfl)) (fun _ _ _ h => h) (Or.inl ⟨by rfl, ?_⟩) ?_ ?_
                      rotate_left
                      · intro w'
                        go_simp
                        with_reducible rfl
                      rotate_left
                      · simp only [Act.put, List.setIfInBounds_toArray, List.set_cons_zero, List.set_cons_succ, i64_w, i32_w]
                        rfl
                      refine pure_ (i := 30) (N := some 84) (v := ?_) (a' := ?_) #[true, true, true, true, true, true, true, true, true, true, true, true, true, true, true, true, true, true, true, true, true, true, true, true, true, true, true, true, true, true, true, false, false, false] rfl rfl (any_of HT_.out (by kernel_rfl)) (fun _ _ _ h => h) (Or.inl ⟨by rfl, ?_⟩) ?_ ?_
                      rotate_left
                      · intro w'
                        go_simp
                        with_reducible rfl
                      rotate_left
                      · simp only [Act.put, List.setIfInBounds_toArray, List.set_cons_zero, List.set_cons_succ, i64_w, i32_w]
                        rfl
                      refine one_ (i := 31) (N := some 85) #[true, true, true, true, true, true, true, true, true, true, true, true, true, true, true, true, true, true, true, true, true, true, true, true, true, true, true, true, true, true, true, true, false, false] rfl rfl (one_of HT_.out (by kernel_rfl)) (by decide) (fun K hK => ?_)
                      refine goes_ Try.func13 (by kernel_rfl) rfl #[] (by rfl) rfl rfl (by (try simp only [List.map_toArray, List.map_cons, List.map_nil]); first | done | rfl | (simp only [List.length_drop, List.length_take]; rfl)) ?_
                      with_reducible refine (lapidarylaw09_known.calls k2  t588 _ A56.out).mono ?_
                      rintro e w62 ⟨rfl, hb⟩
                      refine ⟨_, rfl, ?_⟩
                      have n0_ := Aside0.mk (blk_below (g := gb570) (o := .cells #[.int .i64 a0_0, .int .i64 a0_1, .int .i64 a0_2] 23 (0, 0)) (by (with_reducible repeat (first | refine blk_drewN ?_ _ | refine blk_drew ?_ | refine blk_alloc ?_ _)); exact BK570.out) hb)
                      have n1_ := Aside0.mk (blk_below (g := gb571) (o := .cells #[.int .i64 a1_0, .int .i64 a1_1, .int .i64 a1_2] 23 (0, 0)) (by (with_reducible repeat (first | refine blk_drewN ?_ _ | refine blk_drew ?_ | refine blk_alloc ?_ _)); exact BK571.out) hb)
                      have n2_ := Aside0.mk (below_step (by repeat (first | (with_reducible first | exact HB.out | apply below_alloc | apply pw_below_drewN | apply below_drew1 | refine below_set ?_ GE570.out | refine below_set ?_ GE571.out) | exact HB.out)) hb)
                      clear BK570
                      clear BK571
                      clear HB
                      have BK570 := n0_
                      have BK571 := n1_
                      have HB := n2_
                      clear n0_ n1_ n2_
                      (try clear hb)
                      (try clear hb2)
                      (try clear hk)
                      (try clear hi)
                      refine hK.out _ _ ⟨(blk_cell BK570.out 0).trans rfl, (blk_cell BK570.out 1).trans rfl, (blk_cell BK570.out 2).trans rfl, (blk_cell BK571.out 0).trans rfl, (blk_cell BK571.out 1).trans rfl, (blk_cell BK571.out 2).trans rfl⟩ (fun hHeld => ?_)
                      clear hK K
                      refine norm_ (a' := ?_) ?_ ?_
                      rotate_left
                      · show Act.put _ (some 85) _ = _
                        simp only [Act.put, List.setIfInBounds_toArray, List.set_cons_zero, List.set_cons_succ, i64_w, i32_w]
                        rfl
                      refine pure_ (i := 32) (N := some 86) (v := ?_) (a' := ?_) #[true, true, true, true, true, true, true, true, true, true, true, true, true, true, true, true, true, true, true, true, true, true, true, true, true, true, true, true, true, true, true, true, true, false] rfl rfl (any_of HT_.out (by kernel_rfl)) (fun _ _ _ h => h) (Or.inl ⟨by rfl, ?_⟩) ?_ ?_
                      rotate_left
                      · intro w'
                        go_simp
                        with_reducible rfl
                      rotate_left
                      · simp only [Act.put, List.setIfInBounds_toArray, List.set_cons_zero, List.set_cons_succ, i64_w, i32_w]
                        rfl
                      refine pure_ (i := 33) (N := some 6) (v := ?_) (a' := ?_) #[true, true, true, true, true, true, true, true, true, true, true, true, true, true, true, true, true, true, true, true, true, true, true, true, true, true, true, true, true, true, true, true, true, true] rfl rfl (any_of HT_.out (by kernel_rfl)) (fun _ _ _ h => h) (Or.inl ⟨by rfl, ?_⟩) ?_ ?_
                      rotate_left
                      · intro w'
                        go_simp
                        with_reducible rfl
                      rotate_left
                      · simp only [Act.put, List.setIfInBounds_toArray, List.set_cons_zero, List.set_cons_succ, i64_w, i32_w]
                        rfl
                      refine done_ (done_of HT_.out (by kernel_rfl)) ?_
                      try go_wp2
                      go_ret
                      exact ⟨by first | rfl | (simp [errW_none, errW_some] <;> rfl) | (simp [*, errW_none, errW_some] <;> rfl), by repeat (first | (with_reducible first | exact HB.out | apply below_alloc | apply pw_below_drewN | apply below_drew1 | refine below_set ?_ GE570.out | refine below_set ?_ GE571.out) | exact HB.out)⟩
                    · rw [if_neg c55] at H
                      exact absurd H (by simp)
                  · rw [if_neg c53] at H
                    exact absurd H (by simp)
                · replace c51 := Bool.eq_false_iff.mpr c51
                  subst c51
                  have H1 : (none) = some r := by rw [if_neg (show ¬ (false = true) by decide)] at H; exact H
                  clear H
                  have H := H1
                  clear H1
                  exact absurd H (by simp)
              · replace c49 := Bool.eq_false_iff.mpr c49
                subst c49
                have H1 : (none) = some r := by rw [if_neg (show ¬ (false = true) by decide)] at H; exact H
                clear H
                have H := H1
                clear H1
                exact absurd H (by simp)

end Go.Proofs.Ytlnjbpapbifjfaa.P
