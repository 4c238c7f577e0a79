/- Written for this claim by a program of this session (a turned copy of the print): Go functions as Lean functions, and that the Go code comes to just these answers; or a statement proved out of them. No condition. -/
import Derived.Test.YtlnjbpapbifjfaaPx0
import Derived.Test.YtlnjbpapbifjfaaPx3
import Derived.Test.YtlnjbpapbifjfaaPx12
import Derived.Test.YtlnjbpapbifjfaaPx17
import Derived.Test.YtlnjbpapbifjfaaPx23
import Derived.Test.YtlnjbpapbifjfaaPx25
import Derived.Test.YtlnjbpapbifjfaaPx30
import Derived.Test.YtlnjbpapbifjfaaPx40
namespace Go.Proofs.Ytlnjbpapbifjfaa.P
open Go.RowKit Go.Proofs.YtlnjbpapbifjfaaW.PrintWords Go.Proofs.YtlnjbpapbifjfaaW.PrintLast Go.Proofs.YtlnjbpapbifjfaaW.PrintMore Go.Proofs.Ytlnjbpapbifjfaa.X
attribute [local go_sem] max2_int min2_int max_two min_two max_three min_three max_four min_four add64_0 add64_1 add64   -- for this text's walks alone
set_option linter.unusedVariables false
set_option linter.unusedSimpArgs false

/-! ### lapidarylaw09_GeomTurns: function 6 -/
def lapidarylaw09_GeomTurns.f (k : Nat) (a0_0 : Int) (a0_1 : Int) (a0_2 : Int) (a1_0 : Int) (a1_1 : Int) (a1_2 : Int) (a2_0 : Int) (a2_1 : Int) (a2_2 : Int) : Option (Bool) := (geom_Turn.f k a0_0 a0_1 a0_2 a1_0 a1_1 a1_2 a2_0 a2_1 a2_2).bind fun t478 => ((lapidaryref09_Turn.f k a0_0 a0_1 a0_2 a1_0 a1_1 a1_2 a2_0 a2_1 a2_2).bind fun t479 => (if t478 = t479 then ((geom_On.f k a2_0 a2_1 a2_2 a0_0 a0_1 a0_2 a1_0 a1_1 a1_2).bind fun t480 => ((lapidaryref09_On.f k a2_0 a2_1 a2_2 a0_0 a0_1 a0_2 a1_0 a1_1 a1_2).bind fun t481 => (if (t480 == t481) = true then ((geom_Right.f k (([(⟨a0_0, a0_1, a0_2⟩ : S23), (⟨a1_0, a1_1, a1_2⟩ : S23), (⟨a2_0, a2_1, a2_2⟩ : S23)] : List (S23)))).bind fun t485 => ((lapidaryref09_Right.f k (([(⟨a0_0, a0_1, a0_2⟩ : S23), (⟨a1_0, a1_1, a1_2⟩ : S23), (⟨a2_0, a2_1, a2_2⟩ : S23)] : List (S23)))).bind fun t489 => (if (t485 == t489) = true then ((lapidarylaw09_known.f k).bind fun t490 => (some t490)) else (none)))) else (none)))) else (none)))
theorem lapidarylaw09_GeomTurns.mono : ∀ a0 a1 a2 a3 a4 a5 a6 a7 a8 k, LeO (lapidarylaw09_GeomTurns.f k a0 a1 a2 a3 a4 a5 a6 a7 a8) (lapidarylaw09_GeomTurns.f (k + 1) a0 a1 a2 a3 a4 a5 a6 a7 a8) := by
  intro a0 a1 a2 a3 a4 a5 a6 a7 a8 k
  unfold lapidarylaw09_GeomTurns.f
  repeat' first
      | (with_reducible exact geom_On.mono _ _ _ _ _ _ _ _ _ _)
      | (with_reducible exact geom_Right.mono _ _)
      | (with_reducible exact geom_Turn.mono _ _ _ _ _ _ _ _ _ _)
      | (with_reducible exact lapidarylaw09_known.mono _)
      | (with_reducible exact lapidaryref09_On.mono _ _ _ _ _ _ _ _ _ _)
      | (with_reducible exact lapidaryref09_Right.mono _ _)
      | (with_reducible exact lapidaryref09_Turn.mono _ _ _ _ _ _ _ _ _ _)
      | (with_reducible exact LeO.refl _)
      | (with_reducible exact LeO.none _)
      | (with_reducible refine LeO.ite ?_ ?_)
      | (with_reducible refine LeO.bind ?_ (fun _ => ?_))
      | exact geom_On.mono _ _ _ _ _ _ _ _ _ _
      | exact geom_Right.mono _ _
      | exact geom_Turn.mono _ _ _ _ _ _ _ _ _ _
      | exact lapidarylaw09_known.mono _
      | exact lapidaryref09_On.mono _ _ _ _ _ _ _ _ _ _
      | exact lapidaryref09_Right.mono _ _
      | exact lapidaryref09_Turn.mono _ _ _ _ _ _ _ _ _ _
      | exact LeO.none _
      | refine LeO.ite ?_ ?_
      | refine LeO.bind ?_ (fun _ => ?_)
def lapidarylaw09_GeomTurns.T1 : Bool × List (List Nat × List Nat) := (true, [([], []), ([], []), ([], []), ([0, 1, 2], [0, 1, 2]), ([], []), ([], []), ([], []), ([4, 5, 6, 3], [4, 5, 6]), ([3, 7], [3, 7]), ([8, 7], [8]), ([9], [9]), ([9], [9]), ([9], [9]), ([10, 11, 12, 9, 9], [9, 10, 11, 12]), ([9], [9]), ([9], [9]), ([9], [9]), ([14, 15, 16, 13, 9], [9, 14, 15, 16]), ([13, 17, 9], [9, 13, 17]), ([9, 18], [9, 18]), ([19, 17], [19]), ([20], [20]), ([20], [20]), ([20], [20]), ([21, 22, 23, 20], [20, 21, 22, 23]), ([24, 20, 20], [20, 24]), ([20], [20]), ([20], [20]), ([20], [20]), ([26, 27, 28, 20], [20, 26, 27, 28]), ([29, 25, 20], [20, 29]), ([25, 30, 20], [20, 25, 30]), ([20, 31], [20, 31]), ([32, 30], [32]), ([33, 33], [33]), ([33, 34], [33, 34]), ([35, 34, 0, 1, 2, 3, 4, 5, 6, 7, 8, 9, 10, 11, 12, 13, 14, 15, 16, 17, 18, 19, 20, 21, 22, 23, 24, 25, 26, 27, 28, 29, 30, 31, 32, 33, 34, 35], [35])])
def lapidarylaw09_GeomTurns.B1 : List Nat := [0, 0, 0, 7, 0, 0, 0, 127, 255, 511, 1023, 1023, 1023, 8191, 1023, 1023, 1023, 131071, 262143, 524287, 1048575, 2097151, 2097151, 2097151, 16777215, 33554431, 2097151, 2097151, 2097151, 471859199, 1073741823, 2147483647, 4294967295, 8589934591, 17179869183, 34359738367, 68719476735]
theorem lapidarylaw09_GeomTurns.tab1 : rtab .any (opsOf Try.f6 1) = lapidarylaw09_GeomTurns.T1 := by kernel_rfl
theorem lapidarylaw09_GeomTurns.bits1 : waitsOk lapidarylaw09_GeomTurns.T1.2 lapidarylaw09_GeomTurns.B1 = true := by kernel_rfl
set_option maxHeartbeats 8000000 in
set_option maxRecDepth 100000 in
theorem lapidarylaw09_GeomTurns.calls (k : Nat) (a0_0 : Int) (a0_1 : Int) (a0_2 : Int) (a1_0 : Int) (a1_1 : Int) (a1_2 : Int) (a2_0 : Int) (a2_1 : Int) (a2_2 : Int) (r : Bool) (w : World) (h : lapidarylaw09_GeomTurns.f k a0_0 a0_1 a0_2 a1_0 a1_1 a1_2 a2_0 a2_1 a2_2 = some r) :
    Calls Try.prog 6 #[.agg #[.int .i64 a0_0, .int .i64 a0_1, .int .i64 a0_2], .agg #[.int .i64 a1_0, .int .i64 a1_1, .int .i64 a1_2], .agg #[.int .i64 a2_0, .int .i64 a2_1, .int .i64 a2_2]] w fun e w' => e = .returned (.bool r) ∧ Below w.heap.size w w' := by
  have hu23 := Try.underlying23
  have HB := Aside0.mk (Below.refl w.heap.size w)
  have H : ((geom_Turn.f k a0_0 a0_1 a0_2 a1_0 a1_1 a1_2 a2_0 a2_1 a2_2).bind fun t478 => ((lapidaryref09_Turn.f k a0_0 a0_1 a0_2 a1_0 a1_1 a1_2 a2_0 a2_1 a2_2).bind fun t479 => (if t478 = t479 then ((geom_On.f k a2_0 a2_1 a2_2 a0_0 a0_1 a0_2 a1_0 a1_1 a1_2).bind fun t480 => ((lapidaryref09_On.f k a2_0 a2_1 a2_2 a0_0 a0_1 a0_2 a1_0 a1_1 a1_2).bind fun t481 => (if (t480 == t481) = true then ((geom_Right.f k (([(⟨a0_0, a0_1, a0_2⟩ : S23), (⟨a1_0, a1_1, a1_2⟩ : S23), (⟨a2_0, a2_1, a2_2⟩ : S23)] : List (S23)))).bind fun t485 => ((lapidaryref09_Right.f k (([(⟨a0_0, a0_1, a0_2⟩ : S23), (⟨a1_0, a1_1, a1_2⟩ : S23), (⟨a2_0, a2_1, a2_2⟩ : S23)] : List (S23)))).bind fun t489 => (if (t485 == t489) = true then ((lapidarylaw09_known.f k).bind fun t490 => (some t490)) else (none)))) else (none)))) else (none)))) = some r := h
  clear h
  replace H := Option.bind_eq_some_iff.mp H
  obtain ⟨t478, A40, H⟩ := H
  replace H : ((lapidaryref09_Turn.f k a0_0 a0_1 a0_2 a1_0 a1_1 a1_2 a2_0 a2_1 a2_2).bind fun t479 => (if t478 = t479 then ((geom_On.f k a2_0 a2_1 a2_2 a0_0 a0_1 a0_2 a1_0 a1_1 a1_2).bind fun t480 => ((lapidaryref09_On.f k a2_0 a2_1 a2_2 a0_0 a0_1 a0_2 a1_0 a1_1 a1_2).bind fun t481 => (if (t480 == t481) = true then ((geom_Right.f k (([(⟨a0_0, a0_1, a0_2⟩ : S23), (⟨a1_0, a1_1, a1_2⟩ : S23), (⟨a2_0, a2_1, a2_2⟩ : S23)] : List (S23)))).bind fun t485 => ((lapidaryref09_Right.f k (([(⟨a0_0, a0_1, a0_2⟩ : S23), (⟨a1_0, a1_1, a1_2⟩ : S23), (⟨a2_0, a2_1, a2_2⟩ : S23)] : List (S23)))).bind fun t489 => (if (t485 == t489) = true then ((lapidarylaw09_known.f k).bind fun t490 => (some t490)) else (none)))) else (none)))) else (none))) = some r := H
  have A4 := Aside0.mk A40
  clear A40
  replace H := Option.bind_eq_some_iff.mp H
  obtain ⟨t479, A50, H⟩ := H
  replace H : (if t478 = t479 then ((geom_On.f k a2_0 a2_1 a2_2 a0_0 a0_1 a0_2 a1_0 a1_1 a1_2).bind fun t480 => ((lapidaryref09_On.f k a2_0 a2_1 a2_2 a0_0 a0_1 a0_2 a1_0 a1_1 a1_2).bind fun t481 => (if (t480 == t481) = true then ((geom_Right.f k (([(⟨a0_0, a0_1, a0_2⟩ : S23), (⟨a1_0, a1_1, a1_2⟩ : S23), (⟨a2_0, a2_1, a2_2⟩ : S23)] : List (S23)))).bind fun t485 => ((lapidaryref09_Right.f k (([(⟨a0_0, a0_1, a0_2⟩ : S23), (⟨a1_0, a1_1, a1_2⟩ : S23), (⟨a2_0, a2_1, a2_2⟩ : S23)] : List (S23)))).bind fun t489 => (if (t485 == t489) = true then ((lapidarylaw09_known.f k).bind fun t490 => (some t490)) else (none)))) else (none)))) else (none)) = some r := H
  have A5 := Aside0.mk A50
  clear A50
  by_cases c6 : t478 = t479
  · rw [if_pos c6] at H
    have c6b0 : (t478 == t479) = true := beq_iff_eq.mpr c6
    have c6b1 : (t478 != t479) = false := bne_eq_false_iff_eq.mpr c6
    clear c6
    replace H := Option.bind_eq_some_iff.mp H
    obtain ⟨t480, A70, H⟩ := H
    replace H : ((lapidaryref09_On.f k a2_0 a2_1 a2_2 a0_0 a0_1 a0_2 a1_0 a1_1 a1_2).bind fun t481 => (if (t480 == t481) = true then ((geom_Right.f k (([(⟨a0_0, a0_1, a0_2⟩ : S23), (⟨a1_0, a1_1, a1_2⟩ : S23), (⟨a2_0, a2_1, a2_2⟩ : S23)] : List (S23)))).bind fun t485 => ((lapidaryref09_Right.f k (([(⟨a0_0, a0_1, a0_2⟩ : S23), (⟨a1_0, a1_1, a1_2⟩ : S23), (⟨a2_0, a2_1, a2_2⟩ : S23)] : List (S23)))).bind fun t489 => (if (t485 == t489) = true then ((lapidarylaw09_known.f k).bind fun t490 => (some t490)) else (none)))) else (none))) = some r := H
    have A7 := Aside0.mk A70
    clear A70
    replace H := Option.bind_eq_some_iff.mp H
    obtain ⟨t481, A80, H⟩ := H
    replace H : (if (t480 == t481) = true then ((geom_Right.f k (([(⟨a0_0, a0_1, a0_2⟩ : S23), (⟨a1_0, a1_1, a1_2⟩ : S23), (⟨a2_0, a2_1, a2_2⟩ : S23)] : List (S23)))).bind fun t485 => ((lapidaryref09_Right.f k (([(⟨a0_0, a0_1, a0_2⟩ : S23), (⟨a1_0, a1_1, a1_2⟩ : S23), (⟨a2_0, a2_1, a2_2⟩ : S23)] : List (S23)))).bind fun t489 => (if (t485 == t489) = true then ((lapidarylaw09_known.f k).bind fun t490 => (some t490)) else (none)))) else (none)) = some r := H
    have A8 := Aside0.mk A80
    clear A80
    by_cases c9 : (t480 == t481) = true
    · rw [if_pos c9] at H
      have c9b0 : (t480 == t481) = true := c9
      (try (have c9b1 : decide (t480 = t481) = true := by simpa using c9))
      (try (have c9b2 : (t480 == t481) = true := by simpa using c9))
      clear c9
      obtain ⟨y482, hy482⟩ : ∃ y_ : List (S23), y_ = (([(⟨a0_0, a0_1, a0_2⟩ : S23), (⟨a1_0, a1_1, a1_2⟩ : S23), (⟨a2_0, a2_1, a2_2⟩ : S23)] : List (S23))) := ⟨_, rfl⟩
      replace H : ((geom_Right.f k y482).bind fun t485 => ((lapidaryref09_Right.f k (([(⟨a0_0, a0_1, a0_2⟩ : S23), (⟨a1_0, a1_1, a1_2⟩ : S23), (⟨a2_0, a2_1, a2_2⟩ : S23)] : List (S23)))).bind fun t489 => (if (t485 == t489) = true then ((lapidarylaw09_known.f k).bind fun t490 => (some t490)) else (none)))) = some r := by first | (rw [hy482]; with_reducible exact H) | (have H2_ := (Option.bind_some _ _).symm.trans H; rw [hy482]; with_reducible exact H2_) | (have H2_ := (Option.bind_some _ _).symm.trans H; with_reducible exact H2_) | with_reducible exact H | (rw [hy482]; exact H) | exact H
      have Ny482 := Aside0.mk hy482
      clear hy482
      replace H := Option.bind_eq_some_iff.mp H
      obtain ⟨t485, A100, H⟩ := H
      replace H : ((lapidaryref09_Right.f k (([(⟨a0_0, a0_1, a0_2⟩ : S23), (⟨a1_0, a1_1, a1_2⟩ : S23), (⟨a2_0, a2_1, a2_2⟩ : S23)] : List (S23)))).bind fun t489 => (if (t485 == t489) = true then ((lapidarylaw09_known.f k).bind fun t490 => (some t490)) else (none))) = some r := H
      have A10 := Aside0.mk A100
      clear A100
      obtain ⟨y486, hy486⟩ : ∃ y_ : List (S23), y_ = (([(⟨a0_0, a0_1, a0_2⟩ : S23), (⟨a1_0, a1_1, a1_2⟩ : S23), (⟨a2_0, a2_1, a2_2⟩ : S23)] : List (S23))) := ⟨_, rfl⟩
      replace H : ((lapidaryref09_Right.f k y486).bind fun t489 => (if (t485 == t489) = true then ((lapidarylaw09_known.f k).bind fun t490 => (some t490)) else (none))) = some r := by first | (rw [hy486]; with_reducible exact H) | (have H2_ := (Option.bind_some _ _).symm.trans H; rw [hy486]; with_reducible exact H2_) | (have H2_ := (Option.bind_some _ _).symm.trans H; with_reducible exact H2_) | with_reducible exact H | (rw [hy486]; exact H) | exact H
      have Ny486 := Aside0.mk hy486
      clear hy486
      replace H := Option.bind_eq_some_iff.mp H
      obtain ⟨t489, A110, H⟩ := H
      replace H : (if (t485 == t489) = true then ((lapidarylaw09_known.f k).bind fun t490 => (some t490)) else (none)) = some r := H
      have A11 := Aside0.mk A110
      clear A110
      by_cases c12 : (t485 == t489) = true
      · rw [if_pos c12] at H
        have c12b0 : (t485 == t489) = true := c12
        (try (have c12b1 : decide (t485 = t489) = true := by simpa using c12))
        (try (have c12b2 : (t485 == t489) = true := by simpa using c12))
        clear c12
        replace H := Option.bind_eq_some_iff.mp H
        obtain ⟨t490, A130, H⟩ := H
        replace H : (some t490) = some r := H
        have A13 := Aside0.mk A130
        clear A130
        obtain rfl := Option.some.inj H
        go_enter Try.func6, Try.ntmps6
        try go_wp2_with (first | ((with_reducible refine gate_dst (N := 3) rfl ?_); (try (refine gate_guard (by rfl) ?_; dsimp only)); refine box_event ?hg (N := 3) ?hd (cs := #[.int .i64 a0_0, .int .i64 a0_1, .int .i64 a0_2]) (t := 23) ?hr ?_; (case hd => rfl); (case hg => rfl); (case hr => first | (go_simp; done) | (go_simp; rfl)); intro gb475 hg w14 hbox hb; have n0_ := Aside0.mk (below_step (by repeat (first | (with_reducible first | exact HB.out | apply below_alloc | apply pw_below_drewN | apply below_drew1) | exact HB.out)) hb); have n1_ := Aside0.mk (hbox); have n2_ := Aside0.mk ((by rw [hg]; exact (below_size (by repeat (first | (with_reducible first | exact HB.out | apply below_alloc | apply pw_below_drewN | apply below_drew1) | exact HB.out))) : w.heap.size ≤ gb475)); have n3_ := Aside0.mk ((by rw [hg]; exact (below_size (by repeat (first | (with_reducible first | exact HB.out | apply below_alloc | apply pw_below_drewN | apply below_drew1) | exact HB.out))) : w.heap.size ≤ gb475)); clear HB; have HB := n0_; have BK475 := n1_; have GW475 := n2_; have GE475 := n3_; clear n0_ n1_ n2_ n3_; clear hb hbox hg) | ((with_reducible refine gate_dst (N := 4) rfl ?_); (try (refine gate_guard (by rfl) ?_; dsimp only)); refine box_event ?hg (N := 4) ?hd (cs := #[.int .i64 a1_0, .int .i64 a1_1, .int .i64 a1_2]) (t := 23) ?hr ?_; (case hd => rfl); (case hg => rfl); (case hr => first | (go_simp; done) | (go_simp; rfl)); intro gb476 hg w15 hbox hb; have n0_ := Aside0.mk (blk_below (g := gb475) (o := .cells #[.int .i64 a0_0, .int .i64 a0_1, .int .i64 a0_2] 23 (0, 0)) (by (with_reducible repeat (first | refine blk_drewN ?_ _ | refine blk_drew ?_ | refine blk_alloc ?_ _)); exact BK475.out) hb); have n1_ := Aside0.mk (below_step (by repeat (first | (with_reducible first | exact HB.out | apply below_alloc | apply pw_below_drewN | apply below_drew1 | refine below_set ?_ GE475.out) | exact HB.out)) hb); have n2_ := Aside0.mk (hbox); have n3_ := Aside0.mk ((by rw [hg]; exact (below_size (by repeat (first | (with_reducible first | exact HB.out | apply below_alloc | apply pw_below_drewN | apply below_drew1 | refine below_set ?_ GE475.out) | exact HB.out))) : w.heap.size ≤ gb476)); have n4_ := Aside0.mk ((by rw [hg]; exact (below_size (by repeat (first | (with_reducible first | exact HB.out | apply below_alloc | apply pw_below_drewN | apply below_drew1 | refine below_set ?_ GE475.out) | exact HB.out))) : w.heap.size ≤ gb476)); have n5_ := Aside0.mk ((by rw [hg]; exact Nat.ne_of_lt (blk_lt (g := gb475) (o := .cells #[.int .i64 a0_0, .int .i64 a0_1, .int .i64 a0_2] 23 (0, 0)) (by (with_reducible repeat (first | refine blk_drewN ?_ _ | refine blk_drew ?_ | refine blk_alloc ?_ _)); exact BK475.out)) : gb475 ≠ gb476)); have n6_ := Aside0.mk ((by rw [hg]; exact Nat.ne_of_gt (blk_lt (g := gb475) (o := .cells #[.int .i64 a0_0, .int .i64 a0_1, .int .i64 a0_2] 23 (0, 0)) (by (with_reducible repeat (first | refine blk_drewN ?_ _ | refine blk_drew ?_ | refine blk_alloc ?_ _)); exact BK475.out)) : gb476 ≠ gb475)); clear BK475; clear HB; have BK475 := n0_; have HB := n1_; have BK476 := n2_; have GW476 := n3_; have GE476 := n4_; have NB475_476 := n5_; have NB476_475 := n6_; clear n0_ n1_ n2_ n3_ n4_ n5_ n6_; clear hb hbox hg) | ((with_reducible refine gate_dst (N := 5) rfl ?_); (try (refine gate_guard (by rfl) ?_; dsimp only)); refine box_event ?hg (N := 5) ?hd (cs := #[.int .i64 a2_0, .int .i64 a2_1, .int .i64 a2_2]) (t := 23) ?hr ?_; (case hd => rfl); (case hg => rfl); (case hr => first | (go_simp; done) | (go_simp; rfl)); intro gb477 hg w16 hbox hb; have n0_ := Aside0.mk (blk_below (g := gb475) (o := .cells #[.int .i64 a0_0, .int .i64 a0_1, .int .i64 a0_2] 23 (0, 0)) (by (with_reducible repeat (first | refine blk_drewN ?_ _ | refine blk_drew ?_ | refine blk_alloc ?_ _)); exact BK475.out) hb); have n1_ := Aside0.mk (blk_below (g := gb476) (o := .cells #[.int .i64 a1_0, .int .i64 a1_1, .int .i64 a1_2] 23 (0, 0)) (by (with_reducible repeat (first | refine blk_drewN ?_ _ | refine blk_drew ?_ | refine blk_alloc ?_ _)); exact BK476.out) hb); have n2_ := Aside0.mk (below_step (by repeat (first | (with_reducible first | exact HB.out | apply below_alloc | apply pw_below_drewN | apply below_drew1 | refine below_set ?_ GE475.out | refine below_set ?_ GE476.out) | exact HB.out)) hb); have n3_ := Aside0.mk (hbox); have n4_ := Aside0.mk ((by rw [hg]; exact (below_size (by repeat (first | (with_reducible first | exact HB.out | apply below_alloc | apply pw_below_drewN | apply below_drew1 | refine below_set ?_ GE475.out | refine below_set ?_ GE476.out) | exact HB.out))) : w.heap.size ≤ gb477)); have n5_ := Aside0.mk ((by rw [hg]; exact (below_size (by repeat (first | (with_reducible first | exact HB.out | apply below_alloc | apply pw_below_drewN | apply below_drew1 | refine below_set ?_ GE475.out | refine below_set ?_ GE476.out) | exact HB.out))) : w.heap.size ≤ gb477)); have n6_ := Aside0.mk ((by rw [hg]; exact Nat.ne_of_lt (blk_lt (g := gb475) (o := .cells #[.int .i64 a0_0, .int .i64 a0_1, .int .i64 a0_2] 23 (0, 0)) (by (with_reducible repeat (first | refine blk_drewN ?_ _ | refine blk_drew ?_ | refine blk_alloc ?_ _)); exact BK475.out)) : gb475 ≠ gb477)); have n7_ := Aside0.mk ((by rw [hg]; exact Nat.ne_of_gt (blk_lt (g := gb475) (o := .cells #[.int .i64 a0_0, .int .i64 a0_1, .int .i64 a0_2] 23 (0, 0)) (by (with_reducible repeat (first | refine blk_drewN ?_ _ | refine blk_drew ?_ | refine blk_alloc ?_ _)); exact BK475.out)) : gb477 ≠ gb475)); have n8_ := Aside0.mk ((by rw [hg]; exact Nat.ne_of_lt (blk_lt (g := gb476) (o := .cells #[.int .i64 a1_0, .int .i64 a1_1, .int .i64 a1_2] 23 (0, 0)) (by (with_reducible repeat (first | refine blk_drewN ?_ _ | refine blk_drew ?_ | refine blk_alloc ?_ _)); exact BK476.out)) : gb476 ≠ gb477)); have n9_ := Aside0.mk ((by rw [hg]; exact Nat.ne_of_gt (blk_lt (g := gb476) (o := .cells #[.int .i64 a1_0, .int .i64 a1_1, .int .i64 a1_2] 23 (0, 0)) (by (with_reducible repeat (first | refine blk_drewN ?_ _ | refine blk_drew ?_ | refine blk_alloc ?_ _)); exact BK476.out)) : gb477 ≠ gb476)); clear BK475; clear BK476; clear HB; have BK475 := n0_; have BK476 := n1_; have HB := n2_; have BK477 := n3_; have GW477 := n4_; have GE477 := n5_; have NB475_477 := n6_; have NB477_475 := n7_; have NB476_477 := n8_; have NB477_476 := n9_; clear n0_ n1_ n2_ n3_ n4_ n5_ n6_ n7_ n8_ n9_; clear hb hbox hg))
        have n0_ := Aside0.mk (blk_drew BK475.out)
        have n1_ := Aside0.mk (blk_drew BK476.out)
        have n2_ := Aside0.mk (blk_drew BK477.out)
        have n3_ := Aside0.mk (below_drew1 HB.out)
        clear BK475
        clear BK476
        clear BK477
        clear HB
        have BK475 := n0_
        have BK476 := n1_
        have BK477 := n2_
        have HB := n3_
        clear n0_ n1_ n2_ n3_
        refine start_ (n := 37) (S := fun w' => True) (ds := []) #[false, false, false, false, false, false, false, false, false, false, false, false, false, false, false, false, false, false, false, false, false, false, false, false, false, false, false, false, false, false, false, false, false, false, false, false, false] (by kernel_rfl) rfl rfl trivial (fun hHeld => ?_); refine with_tabW lapidarylaw09_GeomTurns.tab1 lapidarylaw09_GeomTurns.bits1 (fun HT_ HW_ => ?_)
        generalize w16.drew = w17 at BK475 BK476 BK477 HB hHeld ⊢
        refine inv_at [0, 1, 2, 3, 4, 5, 6, 7, 8, 9, 10, 11, 12, 13, 14, 15, 16, 17, 18, 19, 20, 21, 22, 23, 24, 25, 26, 27, 28, 29, 30, 31, 32, 33, 34, 35, 36] (fun a0_ b a w' => ∃ (v483 : Value) (v487 : Value), a = putSel a0_ b [(0, 7, .agg #[.int .i64 a0_0, .int .i64 a0_1, .int .i64 a0_2]), (1, 8, .agg #[.int .i64 a1_0, .int .i64 a1_1, .int .i64 a1_2]), (2, 9, .agg #[.int .i64 a2_0, .int .i64 a2_1, .int .i64 a2_2]), (3, 10, .int .i64 t478), (4, 11, .agg #[.int .i64 a0_0, .int .i64 a0_1, .int .i64 a0_2]), (5, 12, .agg #[.int .i64 a1_0, .int .i64 a1_1, .int .i64 a1_2]), (6, 13, .agg #[.int .i64 a2_0, .int .i64 a2_1, .int .i64 a2_2]), (7, 14, .int .i64 t479), (8, 15, .bool (t478 == t479)), (9, 16, .bool (t478 == t479)), (10, 17, .agg #[.int .i64 a2_0, .int .i64 a2_1, .int .i64 a2_2]), (11, 18, .agg #[.int .i64 a0_0, .int .i64 a0_1, .int .i64 a0_2]), (12, 19, .agg #[.int .i64 a1_0, .int .i64 a1_1, .int .i64 a1_2]), (13, 20, .bool t480), (14, 21, .agg #[.int .i64 a2_0, .int .i64 a2_1, .int .i64 a2_2]), (15, 22, .agg #[.int .i64 a0_0, .int .i64 a0_1, .int .i64 a0_2]), (16, 23, .agg #[.int .i64 a1_0, .int .i64 a1_1, .int .i64 a1_2]), (17, 24, .bool t481), (18, 25, .bool (t480 == t481)), (19, 26, .bool (t480 == t481)), (20, 27, .bool (t480 == t481)), (21, 28, .agg #[.int .i64 a0_0, .int .i64 a0_1, .int .i64 a0_2]), (22, 29, .agg #[.int .i64 a1_0, .int .i64 a1_1, .int .i64 a1_2]), (23, 30, .agg #[.int .i64 a2_0, .int .i64 a2_1, .int .i64 a2_2]), (24, 31, v483), (25, 32, .bool t485), (26, 33, .agg #[.int .i64 a0_0, .int .i64 a0_1, .int .i64 a0_2]), (27, 34, .agg #[.int .i64 a1_0, .int .i64 a1_1, .int .i64 a1_2]), (28, 35, .agg #[.int .i64 a2_0, .int .i64 a2_1, .int .i64 a2_2]), (29, 36, v487), (30, 37, .bool t489), (31, 38, .bool (t485 == t489)), (32, 39, .bool (t485 == t489)), (33, 40, .bool (t485 == t489)), (34, 41, .bool t490), (35, 42, .bool t490), (36, 6, .bool t490)] ∧ (w'.heap[gb475]? = some (.cells #[.int .i64 a0_0, .int .i64 a0_1, .int .i64 a0_2] 23 (0, 0))) ∧ (w'.heap[gb476]? = some (.cells #[.int .i64 a1_0, .int .i64 a1_1, .int .i64 a1_2] 23 (0, 0))) ∧ (w'.heap[gb477]? = some (.cells #[.int .i64 a2_0, .int .i64 a2_1, .int .i64 a2_2] 23 (0, 0))) ∧ (Below w.heap.size w w') ∧ (b 24 = true → Kd.R k23 23 w' w.heap.size (fun k_ => k_ ≠ gb475 ∧ k_ ≠ gb476 ∧ k_ ≠ gb477) v483 y482) ∧ (b 29 = true → Kd.R k23 23 w' w.heap.size (fun k_ => k_ ≠ gb475 ∧ k_ ≠ gb476 ∧ k_ ≠ gb477) v487 y486)) HT_.out HW_.out (by kernel_rfl) (by kernel_rfl) ?_ ?_ ?_
        · exact ⟨.bool false, .bool false, by simp only [putSel, Bool.false_eq_true, if_false], BK475.out, BK476.out, BK477.out, HB.out, fun h_ => absurd h_ (by decide), fun h_ => absurd h_ (by decide)⟩
        · skip
          clear BK475 BK476 BK477 HB
          refine steps_cons ?_ ?_
          · rintro b a w' ⟨v483, v487, ha, Q_BK475, Q_BK476, Q_BK477, Q_HB, Q_HO484, Q_HO488⟩ hb_ hon hoff
            refine ⟨_, rfl, fun K hK => ?_⟩
            have e3 : a.tmps[3]? = some (.pointer (some ⟨gb475, 0, none⟩)) := by rw [ha]; exact (putSel_off rfl).trans rfl
            replace ha := Aside0.mk ha
            have BK475 := Aside0.mk Q_BK475
            have BK476 := Aside0.mk Q_BK476
            have BK477 := Aside0.mk Q_BK477
            have HB := Aside0.mk Q_HB
            have hc0_ : w'.cell? ⟨gb475, 0, none⟩ = some (.int .i64 a0_0) := (blk_cell BK475.out 0).trans rfl
            have hc1_ : w'.cell? ⟨gb475, 1, none⟩ = some (.int .i64 a0_1) := (blk_cell BK475.out 1).trans rfl
            have hc2_ : w'.cell? ⟨gb475, 2, none⟩ = some (.int .i64 a0_2) := (blk_cell BK475.out 2).trans rfl
            refine value_ (w1 := w') (v := .agg #[.int .i64 a0_0, .int .i64 a0_1, .int .i64 a0_2]) (by rfl) rfl ?_ ?_
            · go_simp
              (try simp only [i64_w])
              try rfl
            refine hK.out _ _ ⟨v483, v487, (by rw [ha.out]; exact putSel_upk 0 hb_ rfl rfl rfl), Q_BK475, Q_BK476, Q_BK477, Q_HB, fun h0_ => absurd ((hoff 24 (by kernel_rfl)).symm.trans h0_) (by decide), fun h0_ => absurd ((hoff 29 (by kernel_rfl)).symm.trans h0_) (by decide)⟩
          refine steps_cons ?_ ?_
          · rintro b a w' ⟨v483, v487, ha, Q_BK475, Q_BK476, Q_BK477, Q_HB, Q_HO484, Q_HO488⟩ hb_ hon hoff
            refine ⟨_, rfl, fun K hK => ?_⟩
            have e4 : a.tmps[4]? = some (.pointer (some ⟨gb476, 0, none⟩)) := by rw [ha]; exact (putSel_off rfl).trans rfl
            replace ha := Aside0.mk ha
            have BK475 := Aside0.mk Q_BK475
            have BK476 := Aside0.mk Q_BK476
            have BK477 := Aside0.mk Q_BK477
            have HB := Aside0.mk Q_HB
            have hc0_ : w'.cell? ⟨gb476, 0, none⟩ = some (.int .i64 a1_0) := (blk_cell BK476.out 0).trans rfl
            have hc1_ : w'.cell? ⟨gb476, 1, none⟩ = some (.int .i64 a1_1) := (blk_cell BK476.out 1).trans rfl
            have hc2_ : w'.cell? ⟨gb476, 2, none⟩ = some (.int .i64 a1_2) := (blk_cell BK476.out 2).trans rfl
            refine value_ (w1 := w') (v := .agg #[.int .i64 a1_0, .int .i64 a1_1, .int .i64 a1_2]) (by rfl) rfl ?_ ?_
            · go_simp
              (try simp only [i64_w])
              try rfl
            refine hK.out _ _ ⟨v483, v487, (by rw [ha.out]; exact putSel_upk 1 hb_ rfl rfl rfl), Q_BK475, Q_BK476, Q_BK477, Q_HB, fun h0_ => absurd ((hoff 24 (by kernel_rfl)).symm.trans h0_) (by decide), fun h0_ => absurd ((hoff 29 (by kernel_rfl)).symm.trans h0_) (by decide)⟩
          refine steps_cons ?_ ?_
          · rintro b a w' ⟨v483, v487, ha, Q_BK475, Q_BK476, Q_BK477, Q_HB, Q_HO484, Q_HO488⟩ hb_ hon hoff
            refine ⟨_, rfl, fun K hK => ?_⟩
            have e5 : a.tmps[5]? = some (.pointer (some ⟨gb477, 0, none⟩)) := by rw [ha]; exact (putSel_off rfl).trans rfl
            replace ha := Aside0.mk ha
            have BK475 := Aside0.mk Q_BK475
            have BK476 := Aside0.mk Q_BK476
            have BK477 := Aside0.mk Q_BK477
            have HB := Aside0.mk Q_HB
            have hc0_ : w'.cell? ⟨gb477, 0, none⟩ = some (.int .i64 a2_0) := (blk_cell BK477.out 0).trans rfl
            have hc1_ : w'.cell? ⟨gb477, 1, none⟩ = some (.int .i64 a2_1) := (blk_cell BK477.out 1).trans rfl
            have hc2_ : w'.cell? ⟨gb477, 2, none⟩ = some (.int .i64 a2_2) := (blk_cell BK477.out 2).trans rfl
            refine value_ (w1 := w') (v := .agg #[.int .i64 a2_0, .int .i64 a2_1, .int .i64 a2_2]) (by rfl) rfl ?_ ?_
            · go_simp
              (try simp only [i64_w])
              try rfl
            refine hK.out _ _ ⟨v483, v487, (by rw [ha.out]; exact putSel_upk 2 hb_ rfl rfl rfl), Q_BK475, Q_BK476, Q_BK477, Q_HB, fun h0_ => absurd ((hoff 24 (by kernel_rfl)).symm.trans h0_) (by decide), fun h0_ => absurd ((hoff 29 (by kernel_rfl)).symm.trans h0_) (by decide)⟩
          refine steps_cons ?_ ?_
          · rintro b a w' ⟨v483, v487, ha, Q_BK475, Q_BK476, Q_BK477, Q_HB, Q_HO484, Q_HO488⟩ hb_ hon hoff
            refine ⟨_, rfl, fun K hK => ?_⟩
            have e7 : a.tmps[7]? = some (.agg #[.int .i64 a0_0, .int .i64 a0_1, .int .i64 a0_2]) := by rw [ha]; exact putSel_on (e := (0, 7, .agg #[.int .i64 a0_0, .int .i64 a0_1, .int .i64 a0_2])) 0 rfl rfl (hon 0 (by kernel_rfl)) rfl
            have e8 : a.tmps[8]? = some (.agg #[.int .i64 a1_0, .int .i64 a1_1, .int .i64 a1_2]) := by rw [ha]; exact putSel_on (e := (1, 8, .agg #[.int .i64 a1_0, .int .i64 a1_1, .int .i64 a1_2])) 1 rfl rfl (hon 1 (by kernel_rfl)) rfl
            have e9 : a.tmps[9]? = some (.agg #[.int .i64 a2_0, .int .i64 a2_1, .int .i64 a2_2]) := by rw [ha]; exact putSel_on (e := (2, 9, .agg #[.int .i64 a2_0, .int .i64 a2_1, .int .i64 a2_2])) 2 rfl rfl (hon 2 (by kernel_rfl)) rfl
            replace ha := Aside0.mk ha
            have BK475 := Aside0.mk Q_BK475
            have BK476 := Aside0.mk Q_BK476
            have BK477 := Aside0.mk Q_BK477
            have HB := Aside0.mk Q_HB
            refine goes_ Try.func20 (by kernel_rfl) rfl #[.agg #[.int .i64 a0_0, .int .i64 a0_1, .int .i64 a0_2], .agg #[.int .i64 a1_0, .int .i64 a1_1, .int .i64 a1_2], .agg #[.int .i64 a2_0, .int .i64 a2_1, .int .i64 a2_2]] (by rfl) rfl rfl (by first | (simp only [List.map_toArray, List.map_cons, List.map_nil, Act.eval, Array.getD_eq_getD_getElem?, Option.getD_some, e7, e8, e9]; done) | (simp only [List.map_toArray, List.map_cons, List.map_nil, Act.eval, Array.getD_eq_getD_getElem?, Option.getD_some, e7, e8, e9]; rfl)) ?_
            with_reducible refine (geom_Turn.calls k a0_0 a0_1 a0_2 a1_0 a1_1 a1_2 a2_0 a2_1 a2_2 t478 _ A4.out).mono ?_
            rintro e w18 ⟨rfl, hb⟩
            refine ⟨_, rfl, ?_⟩
            have n0_ := Aside0.mk (blk_below (g := gb475) (o := .cells #[.int .i64 a0_0, .int .i64 a0_1, .int .i64 a0_2] 23 (0, 0)) (by (with_reducible repeat (first | refine blk_drewN ?_ _ | refine blk_drew ?_ | refine blk_alloc ?_ _)); exact BK475.out) hb)
            have n1_ := Aside0.mk (blk_below (g := gb476) (o := .cells #[.int .i64 a1_0, .int .i64 a1_1, .int .i64 a1_2] 23 (0, 0)) (by (with_reducible repeat (first | refine blk_drewN ?_ _ | refine blk_drew ?_ | refine blk_alloc ?_ _)); exact BK476.out) hb)
            have n2_ := Aside0.mk (blk_below (g := gb477) (o := .cells #[.int .i64 a2_0, .int .i64 a2_1, .int .i64 a2_2] 23 (0, 0)) (by (with_reducible repeat (first | refine blk_drewN ?_ _ | refine blk_drew ?_ | refine blk_alloc ?_ _)); exact BK477.out) hb)
            have n3_ := Aside0.mk (below_step (by repeat (first | (with_reducible first | exact HB.out | apply below_alloc | apply pw_below_drewN | apply below_drew1 | refine below_set ?_ GE475.out | refine below_set ?_ GE476.out | refine below_set ?_ GE477.out) | exact HB.out)) hb)
            clear BK475
            clear BK476
            clear BK477
            clear HB
            have BK475 := n0_
            have BK476 := n1_
            have BK477 := n2_
            have HB := n3_
            clear n0_ n1_ n2_ n3_
            (try clear hb)
            (try clear hb2)
            (try clear hk)
            (try clear hi)
            refine hK.out _ _ ⟨v483, v487, (by rw [ha.out]; exact putSel_upk 3 hb_ rfl rfl rfl), (by (with_reducible repeat (first | refine blk_drewN ?_ _ | refine blk_drew ?_ | refine blk_alloc ?_ _)); exact BK475.out), (by (with_reducible repeat (first | refine blk_drewN ?_ _ | refine blk_drew ?_ | refine blk_alloc ?_ _)); exact BK476.out), (by (with_reducible repeat (first | refine blk_drewN ?_ _ | refine blk_drew ?_ | refine blk_alloc ?_ _)); exact BK477.out), (by repeat (first | (with_reducible first | exact HB.out | apply below_alloc | apply pw_below_drewN | apply below_drew1 | refine below_set ?_ GE475.out | refine below_set ?_ GE476.out | refine below_set ?_ GE477.out) | exact HB.out)), fun h0_ => absurd ((hoff 24 (by kernel_rfl)).symm.trans h0_) (by decide), fun h0_ => absurd ((hoff 29 (by kernel_rfl)).symm.trans h0_) (by decide)⟩
          refine steps_cons ?_ ?_
          · rintro b a w' ⟨v483, v487, ha, Q_BK475, Q_BK476, Q_BK477, Q_HB, Q_HO484, Q_HO488⟩ hb_ hon hoff
            refine ⟨_, rfl, fun K hK => ?_⟩
            have e3 : a.tmps[3]? = some (.pointer (some ⟨gb475, 0, none⟩)) := by rw [ha]; exact (putSel_off rfl).trans rfl
            replace ha := Aside0.mk ha
            have BK475 := Aside0.mk Q_BK475
            have BK476 := Aside0.mk Q_BK476
            have BK477 := Aside0.mk Q_BK477
            have HB := Aside0.mk Q_HB
            have hc0_ : w'.cell? ⟨gb475, 0, none⟩ = some (.int .i64 a0_0) := (blk_cell BK475.out 0).trans rfl
            have hc1_ : w'.cell? ⟨gb475, 1, none⟩ = some (.int .i64 a0_1) := (blk_cell BK475.out 1).trans rfl
            have hc2_ : w'.cell? ⟨gb475, 2, none⟩ = some (.int .i64 a0_2) := (blk_cell BK475.out 2).trans rfl
            refine value_ (w1 := w') (v := .agg #[.int .i64 a0_0, .int .i64 a0_1, .int .i64 a0_2]) (by rfl) rfl ?_ ?_
            · go_simp
              (try simp only [i64_w])
              try rfl
            refine hK.out _ _ ⟨v483, v487, (by rw [ha.out]; exact putSel_upk 4 hb_ rfl rfl rfl), Q_BK475, Q_BK476, Q_BK477, Q_HB, fun h0_ => absurd ((hoff 24 (by kernel_rfl)).symm.trans h0_) (by decide), fun h0_ => absurd ((hoff 29 (by kernel_rfl)).symm.trans h0_) (by decide)⟩
          refine steps_cons ?_ ?_
          · rintro b a w' ⟨v483, v487, ha, Q_BK475, Q_BK476, Q_BK477, Q_HB, Q_HO484, Q_HO488⟩ hb_ hon hoff
            refine ⟨_, rfl, fun K hK => ?_⟩
            have e4 : a.tmps[4]? = some (.pointer (some ⟨gb476, 0, none⟩)) := by rw [ha]; exact (putSel_off rfl).trans rfl
            replace ha := Aside0.mk ha
            have BK475 := Aside0.mk Q_BK475
            have BK476 := Aside0.mk Q_BK476
            have BK477 := Aside0.mk Q_BK477
            have HB := Aside0.mk Q_HB
            have hc0_ : w'.cell? ⟨gb476, 0, none⟩ = some (.int .i64 a1_0) := (blk_cell BK476.out 0).trans rfl
            have hc1_ : w'.cell? ⟨gb476, 1, none⟩ = some (.int .i64 a1_1) := (blk_cell BK476.out 1).trans rfl
            have hc2_ : w'.cell? ⟨gb476, 2, none⟩ = some (.int .i64 a1_2) := (blk_cell BK476.out 2).trans rfl
            refine value_ (w1 := w') (v := .agg #[.int .i64 a1_0, .int .i64 a1_1, .int .i64 a1_2]) (by rfl) rfl ?_ ?_
            · go_simp
              (try simp only [i64_w])
              try rfl
            refine hK.out _ _ ⟨v483, v487, (by rw [ha.out]; exact putSel_upk 5 hb_ rfl rfl rfl), Q_BK475, Q_BK476, Q_BK477, Q_HB, fun h0_ => absurd ((hoff 24 (by kernel_rfl)).symm.trans h0_) (by decide), fun h0_ => absurd ((hoff 29 (by kernel_rfl)).symm.trans h0_) (by decide)⟩
          refine steps_cons ?_ ?_
          · rintro b a w' ⟨v483, v487, ha, Q_BK475, Q_BK476, Q_BK477, Q_HB, Q_HO484, Q_HO488⟩ hb_ hon hoff
            refine ⟨_, rfl, fun K hK => ?_⟩
            have e5 : a.tmps[5]? = some (.pointer (some ⟨gb477, 0, none⟩)) := by rw [ha]; exact (putSel_off rfl).trans rfl
            replace ha := Aside0.mk ha
            have BK475 := Aside0.mk Q_BK475
            have BK476 := Aside0.mk Q_BK476
            have BK477 := Aside0.mk Q_BK477
            have HB := Aside0.mk Q_HB
            have hc0_ : w'.cell? ⟨gb477, 0, none⟩ = some (.int .i64 a2_0) := (blk_cell BK477.out 0).trans rfl
            have hc1_ : w'.cell? ⟨gb477, 1, none⟩ = some (.int .i64 a2_1) := (blk_cell BK477.out 1).trans rfl
            have hc2_ : w'.cell? ⟨gb477, 2, none⟩ = some (.int .i64 a2_2) := (blk_cell BK477.out 2).trans rfl
            refine value_ (w1 := w') (v := .agg #[.int .i64 a2_0, .int .i64 a2_1, .int .i64 a2_2]) (by rfl) rfl ?_ ?_
            · go_simp
              (try simp only [i64_w])
              try rfl
            refine hK.out _ _ ⟨v483, v487, (by rw [ha.out]; exact putSel_upk 6 hb_ rfl rfl rfl), Q_BK475, Q_BK476, Q_BK477, Q_HB, fun h0_ => absurd ((hoff 24 (by kernel_rfl)).symm.trans h0_) (by decide), fun h0_ => absurd ((hoff 29 (by kernel_rfl)).symm.trans h0_) (by decide)⟩
          refine steps_cons ?_ ?_
          · rintro b a w' ⟨v483, v487, ha, Q_BK475, Q_BK476, Q_BK477, Q_HB, Q_HO484, Q_HO488⟩ hb_ hon hoff
            refine ⟨_, rfl, fun K hK => ?_⟩
            have e11 : a.tmps[11]? = some (.agg #[.int .i64 a0_0, .int .i64 a0_1, .int .i64 a0_2]) := by rw [ha]; exact putSel_on (e := (4, 11, .agg #[.int .i64 a0_0, .int .i64 a0_1, .int .i64 a0_2])) 4 rfl rfl (hon 4 (by kernel_rfl)) rfl
            have e12 : a.tmps[12]? = some (.agg #[.int .i64 a1_0, .int .i64 a1_1, .int .i64 a1_2]) := by rw [ha]; exact putSel_on (e := (5, 12, .agg #[.int .i64 a1_0, .int .i64 a1_1, .int .i64 a1_2])) 5 rfl rfl (hon 5 (by kernel_rfl)) rfl
            have e13 : a.tmps[13]? = some (.agg #[.int .i64 a2_0, .int .i64 a2_1, .int .i64 a2_2]) := by rw [ha]; exact putSel_on (e := (6, 13, .agg #[.int .i64 a2_0, .int .i64 a2_1, .int .i64 a2_2])) 6 rfl rfl (hon 6 (by kernel_rfl)) rfl
            replace ha := Aside0.mk ha
            have BK475 := Aside0.mk Q_BK475
            have BK476 := Aside0.mk Q_BK476
            have BK477 := Aside0.mk Q_BK477
            have HB := Aside0.mk Q_HB
            refine goes_ Try.func21 (by kernel_rfl) rfl #[.agg #[.int .i64 a0_0, .int .i64 a0_1, .int .i64 a0_2], .agg #[.int .i64 a1_0, .int .i64 a1_1, .int .i64 a1_2], .agg #[.int .i64 a2_0, .int .i64 a2_1, .int .i64 a2_2]] (by rfl) rfl rfl (by first | (simp only [List.map_toArray, List.map_cons, List.map_nil, Act.eval, Array.getD_eq_getD_getElem?, Option.getD_some, e11, e12, e13]; done) | (simp only [List.map_toArray, List.map_cons, List.map_nil, Act.eval, Array.getD_eq_getD_getElem?, Option.getD_some, e11, e12, e13]; rfl)) ?_
            with_reducible refine (lapidaryref09_Turn.calls k a0_0 a0_1 a0_2 a1_0 a1_1 a1_2 a2_0 a2_1 a2_2 t479 _ A5.out).mono ?_
            rintro e w20 ⟨rfl, hb⟩
            refine ⟨_, rfl, ?_⟩
            have n0_ := Aside0.mk (blk_below (g := gb475) (o := .cells #[.int .i64 a0_0, .int .i64 a0_1, .int .i64 a0_2] 23 (0, 0)) (by (with_reducible repeat (first | refine blk_drewN ?_ _ | refine blk_drew ?_ | refine blk_alloc ?_ _)); exact BK475.out) hb)
            have n1_ := Aside0.mk (blk_below (g := gb476) (o := .cells #[.int .i64 a1_0, .int .i64 a1_1, .int .i64 a1_2] 23 (0, 0)) (by (with_reducible repeat (first | refine blk_drewN ?_ _ | refine blk_drew ?_ | refine blk_alloc ?_ _)); exact BK476.out) hb)
            have n2_ := Aside0.mk (blk_below (g := gb477) (o := .cells #[.int .i64 a2_0, .int .i64 a2_1, .int .i64 a2_2] 23 (0, 0)) (by (with_reducible repeat (first | refine blk_drewN ?_ _ | refine blk_drew ?_ | refine blk_alloc ?_ _)); exact BK477.out) hb)
            have n3_ := Aside0.mk (below_step (by repeat (first | (with_reducible first | exact HB.out | apply below_alloc | apply pw_below_drewN | apply below_drew1 | refine below_set ?_ GE475.out | refine below_set ?_ GE476.out | refine below_set ?_ GE477.out) | exact HB.out)) hb)
            clear BK475
            clear BK476
            clear BK477
            clear HB
            have BK475 := n0_
            have BK476 := n1_
            have BK477 := n2_
            have HB := n3_
            clear n0_ n1_ n2_ n3_
            (try clear hb)
            (try clear hb2)
            (try clear hk)
            (try clear hi)
            refine hK.out _ _ ⟨v483, v487, (by rw [ha.out]; exact putSel_upk 7 hb_ rfl rfl rfl), (by (with_reducible repeat (first | refine blk_drewN ?_ _ | refine blk_drew ?_ | refine blk_alloc ?_ _)); exact BK475.out), (by (with_reducible repeat (first | refine blk_drewN ?_ _ | refine blk_drew ?_ | refine blk_alloc ?_ _)); exact BK476.out), (by (with_reducible repeat (first | refine blk_drewN ?_ _ | refine blk_drew ?_ | refine blk_alloc ?_ _)); exact BK477.out), (by repeat (first | (with_reducible first | exact HB.out | apply below_alloc | apply pw_below_drewN | apply below_drew1 | refine below_set ?_ GE475.out | refine below_set ?_ GE476.out | refine below_set ?_ GE477.out) | exact HB.out)), fun h0_ => absurd ((hoff 24 (by kernel_rfl)).symm.trans h0_) (by decide), fun h0_ => absurd ((hoff 29 (by kernel_rfl)).symm.trans h0_) (by decide)⟩
          refine steps_cons ?_ ?_
          · rintro b a w' ⟨v483, v487, ha, Q_BK475, Q_BK476, Q_BK477, Q_HB, Q_HO484, Q_HO488⟩ hb_ hon hoff
            refine ⟨_, rfl, fun K hK => ?_⟩
            have e10 : a.tmps[10]? = some (.int .i64 t478) := by rw [ha]; exact putSel_on (e := (3, 10, .int .i64 t478)) 3 rfl rfl (hon 3 (by kernel_rfl)) rfl
            have e14 : a.tmps[14]? = some (.int .i64 t479) := by rw [ha]; exact putSel_on (e := (7, 14, .int .i64 t479)) 7 rfl rfl (hon 7 (by kernel_rfl)) rfl
            replace ha := Aside0.mk ha
            have BK475 := Aside0.mk Q_BK475
            have BK476 := Aside0.mk Q_BK476
            have BK477 := Aside0.mk Q_BK477
            have HB := Aside0.mk Q_HB
            refine value_ (w1 := w') (v := .bool (t478 == t479)) (by rfl) rfl ?_ ?_
            · go_simp
              (try simp only [i64_w])
              try rfl
            refine hK.out _ _ ⟨v483, v487, (by rw [ha.out]; exact putSel_upk 8 hb_ rfl rfl rfl), Q_BK475, Q_BK476, Q_BK477, Q_HB, fun h0_ => absurd ((hoff 24 (by kernel_rfl)).symm.trans h0_) (by decide), fun h0_ => absurd ((hoff 29 (by kernel_rfl)).symm.trans h0_) (by decide)⟩
          refine steps_cons ?_ ?_
          · rintro b a w' ⟨v483, v487, ha, Q_BK475, Q_BK476, Q_BK477, Q_HB, Q_HO484, Q_HO488⟩ hb_ hon hoff
            refine ⟨_, rfl, fun K hK => ?_⟩
            have e15 : a.tmps[15]? = some (.bool (t478 == t479)) := by rw [ha]; exact putSel_on (e := (8, 15, .bool (t478 == t479))) 8 rfl rfl (hon 8 (by kernel_rfl)) rfl
            replace ha := Aside0.mk ha
            have BK475 := Aside0.mk Q_BK475
            have BK476 := Aside0.mk Q_BK476
            have BK477 := Aside0.mk Q_BK477
            have HB := Aside0.mk Q_HB
            refine value_ (w1 := w') (v := .bool (t478 == t479)) (by rfl) rfl ?_ ?_
            · go_simp
              (try simp only [i64_w])
              try rfl
            refine hK.out _ _ ⟨v483, v487, (by rw [ha.out]; exact putSel_upk 9 hb_ rfl rfl rfl), Q_BK475, Q_BK476, Q_BK477, Q_HB, fun h0_ => absurd ((hoff 24 (by kernel_rfl)).symm.trans h0_) (by decide), fun h0_ => absurd ((hoff 29 (by kernel_rfl)).symm.trans h0_) (by decide)⟩
          refine steps_cons ?_ ?_
          · rintro b a w' ⟨v483, v487, ha, Q_BK475, Q_BK476, Q_BK477, Q_HB, Q_HO484, Q_HO488⟩ hb_ hon hoff
            refine ⟨_, rfl, fun K hK => ?_⟩
            have e5 : a.tmps[5]? = some (.pointer (some ⟨gb477, 0, none⟩)) := by rw [ha]; exact (putSel_off rfl).trans rfl
            have e16 : a.tmps[16]? = some (.bool (t478 == t479)) := by rw [ha]; exact putSel_on (e := (9, 16, .bool (t478 == t479))) 9 rfl rfl (hon 9 (by kernel_rfl)) rfl
            replace ha := Aside0.mk ha
            have BK475 := Aside0.mk Q_BK475
            have BK476 := Aside0.mk Q_BK476
            have BK477 := Aside0.mk Q_BK477
            have HB := Aside0.mk Q_HB
            have hc0_ : w'.cell? ⟨gb477, 0, none⟩ = some (.int .i64 a2_0) := (blk_cell BK477.out 0).trans rfl
            have hc1_ : w'.cell? ⟨gb477, 1, none⟩ = some (.int .i64 a2_1) := (blk_cell BK477.out 1).trans rfl
            have hc2_ : w'.cell? ⟨gb477, 2, none⟩ = some (.int .i64 a2_2) := (blk_cell BK477.out 2).trans rfl
            refine value_ (w1 := w') (v := .agg #[.int .i64 a2_0, .int .i64 a2_1, .int .i64 a2_2]) (wanted_on rfl rfl rfl (e16.trans (by first | rfl | (simp [*]; done)))) rfl ?_ ?_
            · go_simp
              (try simp only [i64_w])
              try rfl
            refine hK.out _ _ ⟨v483, v487, (by rw [ha.out]; exact putSel_upk 10 hb_ rfl rfl rfl), Q_BK475, Q_BK476, Q_BK477, Q_HB, fun h0_ => absurd ((hoff 24 (by kernel_rfl)).symm.trans h0_) (by decide), fun h0_ => absurd ((hoff 29 (by kernel_rfl)).symm.trans h0_) (by decide)⟩
          refine steps_cons ?_ ?_
          · rintro b a w' ⟨v483, v487, ha, Q_BK475, Q_BK476, Q_BK477, Q_HB, Q_HO484, Q_HO488⟩ hb_ hon hoff
            refine ⟨_, rfl, fun K hK => ?_⟩
            have e3 : a.tmps[3]? = some (.pointer (some ⟨gb475, 0, none⟩)) := by rw [ha]; exact (putSel_off rfl).trans rfl
            have e16 : a.tmps[16]? = some (.bool (t478 == t479)) := by rw [ha]; exact putSel_on (e := (9, 16, .bool (t478 == t479))) 9 rfl rfl (hon 9 (by kernel_rfl)) rfl
            replace ha := Aside0.mk ha
            have BK475 := Aside0.mk Q_BK475
            have BK476 := Aside0.mk Q_BK476
            have BK477 := Aside0.mk Q_BK477
            have HB := Aside0.mk Q_HB
            have hc0_ : w'.cell? ⟨gb475, 0, none⟩ = some (.int .i64 a0_0) := (blk_cell BK475.out 0).trans rfl
            have hc1_ : w'.cell? ⟨gb475, 1, none⟩ = some (.int .i64 a0_1) := (blk_cell BK475.out 1).trans rfl
            have hc2_ : w'.cell? ⟨gb475, 2, none⟩ = some (.int .i64 a0_2) := (blk_cell BK475.out 2).trans rfl
            refine value_ (w1 := w') (v := .agg #[.int .i64 a0_0, .int .i64 a0_1, .int .i64 a0_2]) (wanted_on rfl rfl rfl (e16.trans (by first | rfl | (simp [*]; done)))) rfl ?_ ?_
            · go_simp
              (try simp only [i64_w])
              try rfl
            refine hK.out _ _ ⟨v483, v487, (by rw [ha.out]; exact putSel_upk 11 hb_ rfl rfl rfl), Q_BK475, Q_BK476, Q_BK477, Q_HB, fun h0_ => absurd ((hoff 24 (by kernel_rfl)).symm.trans h0_) (by decide), fun h0_ => absurd ((hoff 29 (by kernel_rfl)).symm.trans h0_) (by decide)⟩
          refine steps_cons ?_ ?_
          · rintro b a w' ⟨v483, v487, ha, Q_BK475, Q_BK476, Q_BK477, Q_HB, Q_HO484, Q_HO488⟩ hb_ hon hoff
            refine ⟨_, rfl, fun K hK => ?_⟩
            have e4 : a.tmps[4]? = some (.pointer (some ⟨gb476, 0, none⟩)) := by rw [ha]; exact (putSel_off rfl).trans rfl
            have e16 : a.tmps[16]? = some (.bool (t478 == t479)) := by rw [ha]; exact putSel_on (e := (9, 16, .bool (t478 == t479))) 9 rfl rfl (hon 9 (by kernel_rfl)) rfl
            replace ha := Aside0.mk ha
            have BK475 := Aside0.mk Q_BK475
            have BK476 := Aside0.mk Q_BK476
            have BK477 := Aside0.mk Q_BK477
            have HB := Aside0.mk Q_HB
            have hc0_ : w'.cell? ⟨gb476, 0, none⟩ = some (.int .i64 a1_0) := (blk_cell BK476.out 0).trans rfl
            have hc1_ : w'.cell? ⟨gb476, 1, none⟩ = some (.int .i64 a1_1) := (blk_cell BK476.out 1).trans rfl
            have hc2_ : w'.cell? ⟨gb476, 2, none⟩ = some (.int .i64 a1_2) := (blk_cell BK476.out 2).trans rfl
            refine value_ (w1 := w') (v := .agg #[.int .i64 a1_0, .int .i64 a1_1, .int .i64 a1_2]) (wanted_on rfl rfl rfl (e16.trans (by first | rfl | (simp [*]; done)))) rfl ?_ ?_
            · go_simp
              (try simp only [i64_w])
              try rfl
            refine hK.out _ _ ⟨v483, v487, (by rw [ha.out]; exact putSel_upk 12 hb_ rfl rfl rfl), Q_BK475, Q_BK476, Q_BK477, Q_HB, fun h0_ => absurd ((hoff 24 (by kernel_rfl)).symm.trans h0_) (by decide), fun h0_ => absurd ((hoff 29 (by kernel_rfl)).symm.trans h0_) (by decide)⟩
          refine steps_cons ?_ ?_
          · rintro b a w' ⟨v483, v487, ha, Q_BK475, Q_BK476, Q_BK477, Q_HB, Q_HO484, Q_HO488⟩ hb_ hon hoff
            refine ⟨_, rfl, fun K hK => ?_⟩
            have e17 : a.tmps[17]? = some (.agg #[.int .i64 a2_0, .int .i64 a2_1, .int .i64 a2_2]) := by rw [ha]; exact putSel_on (e := (10, 17, .agg #[.int .i64 a2_0, .int .i64 a2_1, .int .i64 a2_2])) 10 rfl rfl (hon 10 (by kernel_rfl)) rfl
            have e18 : a.tmps[18]? = some (.agg #[.int .i64 a0_0, .int .i64 a0_1, .int .i64 a0_2]) := by rw [ha]; exact putSel_on (e := (11, 18, .agg #[.int .i64 a0_0, .int .i64 a0_1, .int .i64 a0_2])) 11 rfl rfl (hon 11 (by kernel_rfl)) rfl
            have e19 : a.tmps[19]? = some (.agg #[.int .i64 a1_0, .int .i64 a1_1, .int .i64 a1_2]) := by rw [ha]; exact putSel_on (e := (12, 19, .agg #[.int .i64 a1_0, .int .i64 a1_1, .int .i64 a1_2])) 12 rfl rfl (hon 12 (by kernel_rfl)) rfl
            have e16 : a.tmps[16]? = some (.bool (t478 == t479)) := by rw [ha]; exact putSel_on (e := (9, 16, .bool (t478 == t479))) 9 rfl rfl (hon 9 (by kernel_rfl)) rfl
            replace ha := Aside0.mk ha
            have BK475 := Aside0.mk Q_BK475
            have BK476 := Aside0.mk Q_BK476
            have BK477 := Aside0.mk Q_BK477
            have HB := Aside0.mk Q_HB
            refine goes_ Try.func14 (by kernel_rfl) rfl #[.agg #[.int .i64 a2_0, .int .i64 a2_1, .int .i64 a2_2], .agg #[.int .i64 a0_0, .int .i64 a0_1, .int .i64 a0_2], .agg #[.int .i64 a1_0, .int .i64 a1_1, .int .i64 a1_2]] (by first | rfl | exact (wanted_on rfl rfl rfl (e16.trans (by first | rfl | (simp [*]; done))))) rfl rfl (by first | (simp only [List.map_toArray, List.map_cons, List.map_nil, Act.eval, Array.getD_eq_getD_getElem?, Option.getD_some, e17, e18, e19, e16]; done) | (simp only [List.map_toArray, List.map_cons, List.map_nil, Act.eval, Array.getD_eq_getD_getElem?, Option.getD_some, e17, e18, e19, e16]; rfl)) ?_
            with_reducible refine (geom_On.calls k a2_0 a2_1 a2_2 a0_0 a0_1 a0_2 a1_0 a1_1 a1_2 t480 _ A7.out).mono ?_
            rintro e w21 ⟨rfl, hb⟩
            refine ⟨_, rfl, ?_⟩
            have n0_ := Aside0.mk (blk_below (g := gb475) (o := .cells #[.int .i64 a0_0, .int .i64 a0_1, .int .i64 a0_2] 23 (0, 0)) (by (with_reducible repeat (first | refine blk_drewN ?_ _ | refine blk_drew ?_ | refine blk_alloc ?_ _)); exact BK475.out) hb)
            have n1_ := Aside0.mk (blk_below (g := gb476) (o := .cells #[.int .i64 a1_0, .int .i64 a1_1, .int .i64 a1_2] 23 (0, 0)) (by (with_reducible repeat (first | refine blk_drewN ?_ _ | refine blk_drew ?_ | refine blk_alloc ?_ _)); exact BK476.out) hb)
            have n2_ := Aside0.mk (blk_below (g := gb477) (o := .cells #[.int .i64 a2_0, .int .i64 a2_1, .int .i64 a2_2] 23 (0, 0)) (by (with_reducible repeat (first | refine blk_drewN ?_ _ | refine blk_drew ?_ | refine blk_alloc ?_ _)); exact BK477.out) hb)
            have n3_ := Aside0.mk (below_step (by repeat (first | (with_reducible first | exact HB.out | apply below_alloc | apply pw_below_drewN | apply below_drew1 | refine below_set ?_ GE475.out | refine below_set ?_ GE476.out | refine below_set ?_ GE477.out) | exact HB.out)) hb)
            clear BK475
            clear BK476
            clear BK477
            clear HB
            have BK475 := n0_
            have BK476 := n1_
            have BK477 := n2_
            have HB := n3_
            clear n0_ n1_ n2_ n3_
            (try clear hb)
            (try clear hb2)
            (try clear hk)
            (try clear hi)
            refine hK.out _ _ ⟨v483, v487, (by rw [ha.out]; exact putSel_upk 13 hb_ rfl rfl rfl), (by (with_reducible repeat (first | refine blk_drewN ?_ _ | refine blk_drew ?_ | refine blk_alloc ?_ _)); exact BK475.out), (by (with_reducible repeat (first | refine blk_drewN ?_ _ | refine blk_drew ?_ | refine blk_alloc ?_ _)); exact BK476.out), (by (with_reducible repeat (first | refine blk_drewN ?_ _ | refine blk_drew ?_ | refine blk_alloc ?_ _)); exact BK477.out), (by repeat (first | (with_reducible first | exact HB.out | apply below_alloc | apply pw_below_drewN | apply below_drew1 | refine below_set ?_ GE475.out | refine below_set ?_ GE476.out | refine below_set ?_ GE477.out) | exact HB.out)), fun h0_ => absurd ((hoff 24 (by kernel_rfl)).symm.trans h0_) (by decide), fun h0_ => absurd ((hoff 29 (by kernel_rfl)).symm.trans h0_) (by decide)⟩
          refine steps_cons ?_ ?_
          · rintro b a w' ⟨v483, v487, ha, Q_BK475, Q_BK476, Q_BK477, Q_HB, Q_HO484, Q_HO488⟩ hb_ hon hoff
            refine ⟨_, rfl, fun K hK => ?_⟩
            have e5 : a.tmps[5]? = some (.pointer (some ⟨gb477, 0, none⟩)) := by rw [ha]; exact (putSel_off rfl).trans rfl
            have e16 : a.tmps[16]? = some (.bool (t478 == t479)) := by rw [ha]; exact putSel_on (e := (9, 16, .bool (t478 == t479))) 9 rfl rfl (hon 9 (by kernel_rfl)) rfl
            replace ha := Aside0.mk ha
            have BK475 := Aside0.mk Q_BK475
            have BK476 := Aside0.mk Q_BK476
            have BK477 := Aside0.mk Q_BK477
            have HB := Aside0.mk Q_HB
            have hc0_ : w'.cell? ⟨gb477, 0, none⟩ = some (.int .i64 a2_0) := (blk_cell BK477.out 0).trans rfl
            have hc1_ : w'.cell? ⟨gb477, 1, none⟩ = some (.int .i64 a2_1) := (blk_cell BK477.out 1).trans rfl
            have hc2_ : w'.cell? ⟨gb477, 2, none⟩ = some (.int .i64 a2_2) := (blk_cell BK477.out 2).trans rfl
            refine value_ (w1 := w') (v := .agg #[.int .i64 a2_0, .int .i64 a2_1, .int .i64 a2_2]) (wanted_on rfl rfl rfl (e16.trans (by first | rfl | (simp [*]; done)))) rfl ?_ ?_
            · go_simp
              (try simp only [i64_w])
              try rfl
            refine hK.out _ _ ⟨v483, v487, (by rw [ha.out]; exact putSel_upk 14 hb_ rfl rfl rfl), Q_BK475, Q_BK476, Q_BK477, Q_HB, fun h0_ => absurd ((hoff 24 (by kernel_rfl)).symm.trans h0_) (by decide), fun h0_ => absurd ((hoff 29 (by kernel_rfl)).symm.trans h0_) (by decide)⟩
          refine steps_cons ?_ ?_
          · rintro b a w' ⟨v483, v487, ha, Q_BK475, Q_BK476, Q_BK477, Q_HB, Q_HO484, Q_HO488⟩ hb_ hon hoff
            refine ⟨_, rfl, fun K hK => ?_⟩
            have e3 : a.tmps[3]? = some (.pointer (some ⟨gb475, 0, none⟩)) := by rw [ha]; exact (putSel_off rfl).trans rfl
            have e16 : a.tmps[16]? = some (.bool (t478 == t479)) := by rw [ha]; exact putSel_on (e := (9, 16, .bool (t478 == t479))) 9 rfl rfl (hon 9 (by kernel_rfl)) rfl
            replace ha := Aside0.mk ha
            have BK475 := Aside0.mk Q_BK475
            have BK476 := Aside0.mk Q_BK476
            have BK477 := Aside0.mk Q_BK477
            have HB := Aside0.mk Q_HB
            have hc0_ : w'.cell? ⟨gb475, 0, none⟩ = some (.int .i64 a0_0) := (blk_cell BK475.out 0).trans rfl
            have hc1_ : w'.cell? ⟨gb475, 1, none⟩ = some (.int .i64 a0_1) := (blk_cell BK475.out 1).trans rfl
            have hc2_ : w'.cell? ⟨gb475, 2, none⟩ = some (.int .i64 a0_2) := (blk_cell BK475.out 2).trans rfl
            refine value_ (w1 := w') (v := .agg #[.int .i64 a0_0, .int .i64 a0_1, .int .i64 a0_2]) (wanted_on rfl rfl rfl (e16.trans (by first | rfl | (simp [*]; done)))) rfl ?_ ?_
            · go_simp
              (try simp only [i64_w])
              try rfl
            refine hK.out _ _ ⟨v483, v487, (by rw [ha.out]; exact putSel_upk 15 hb_ rfl rfl rfl), Q_BK475, Q_BK476, Q_BK477, Q_HB, fun h0_ => absurd ((hoff 24 (by kernel_rfl)).symm.trans h0_) (by decide), fun h0_ => absurd ((hoff 29 (by kernel_rfl)).symm.trans h0_) (by decide)⟩
          refine steps_cons ?_ ?_
          · rintro b a w' ⟨v483, v487, ha, Q_BK475, Q_BK476, Q_BK477, Q_HB, Q_HO484, Q_HO488⟩ hb_ hon hoff
            refine ⟨_, rfl, fun K hK => ?_⟩
            have e4 : a.tmps[4]? = some (.pointer (some ⟨gb476, 0, none⟩)) := by rw [ha]; exact (putSel_off rfl).trans rfl
            have e16 : a.tmps[16]? = some (.bool (t478 == t479)) := by rw [ha]; exact putSel_on (e := (9, 16, .bool (t478 == t479))) 9 rfl rfl (hon 9 (by kernel_rfl)) rfl
            replace ha := Aside0.mk ha
            have BK475 := Aside0.mk Q_BK475
            have BK476 := Aside0.mk Q_BK476
            have BK477 := Aside0.mk Q_BK477
            have HB := Aside0.mk Q_HB
            have hc0_ : w'.cell? ⟨gb476, 0, none⟩ = some (.int .i64 a1_0) := (blk_cell BK476.out 0).trans rfl
            have hc1_ : w'.cell? ⟨gb476, 1, none⟩ = some (.int .i64 a1_1) := (blk_cell BK476.out 1).trans rfl
            have hc2_ : w'.cell? ⟨gb476, 2, none⟩ = some (.int .i64 a1_2) := (blk_cell BK476.out 2).trans rfl
            refine value_ (w1 := w') (v := .agg #[.int .i64 a1_0, .int .i64 a1_1, .int .i64 a1_2]) (wanted_on rfl rfl rfl (e16.trans (by first | rfl | (simp [*]; done)))) rfl ?_ ?_
            · go_simp
              (try simp only [i64_w])
              try rfl
            refine hK.out _ _ ⟨v483, v487, (by rw [ha.out]; exact putSel_upk 16 hb_ rfl rfl rfl), Q_BK475, Q_BK476, Q_BK477, Q_HB, fun h0_ => absurd ((hoff 24 (by kernel_rfl)).symm.trans h0_) (by decide), fun h0_ => absurd ((hoff 29 (by kernel_rfl)).symm.trans h0_) (by decide)⟩
          refine steps_cons ?_ ?_
          · rintro b a w' ⟨v483, v487, ha, Q_BK475, Q_BK476, Q_BK477, Q_HB, Q_HO484, Q_HO488⟩ hb_ hon hoff
            refine ⟨_, rfl, fun K hK => ?_⟩
            have e21 : a.tmps[21]? = some (.agg #[.int .i64 a2_0, .int .i64 a2_1, .int .i64 a2_2]) := by rw [ha]; exact putSel_on (e := (14, 21, .agg #[.int .i64 a2_0, .int .i64 a2_1, .int .i64 a2_2])) 14 rfl rfl (hon 14 (by kernel_rfl)) rfl
            have e22 : a.tmps[22]? = some (.agg #[.int .i64 a0_0, .int .i64 a0_1, .int .i64 a0_2]) := by rw [ha]; exact putSel_on (e := (15, 22, .agg #[.int .i64 a0_0, .int .i64 a0_1, .int .i64 a0_2])) 15 rfl rfl (hon 15 (by kernel_rfl)) rfl
            have e23 : a.tmps[23]? = some (.agg #[.int .i64 a1_0, .int .i64 a1_1, .int .i64 a1_2]) := by rw [ha]; exact putSel_on (e := (16, 23, .agg #[.int .i64 a1_0, .int .i64 a1_1, .int .i64 a1_2])) 16 rfl rfl (hon 16 (by kernel_rfl)) rfl
            have e16 : a.tmps[16]? = some (.bool (t478 == t479)) := by rw [ha]; exact putSel_on (e := (9, 16, .bool (t478 == t479))) 9 rfl rfl (hon 9 (by kernel_rfl)) rfl
            replace ha := Aside0.mk ha
            have BK475 := Aside0.mk Q_BK475
            have BK476 := Aside0.mk Q_BK476
            have BK477 := Aside0.mk Q_BK477
            have HB := Aside0.mk Q_HB
            refine goes_ Try.func15 (by kernel_rfl) rfl #[.agg #[.int .i64 a2_0, .int .i64 a2_1, .int .i64 a2_2], .agg #[.int .i64 a0_0, .int .i64 a0_1, .int .i64 a0_2], .agg #[.int .i64 a1_0, .int .i64 a1_1, .int .i64 a1_2]] (by first | rfl | exact (wanted_on rfl rfl rfl (e16.trans (by first | rfl | (simp [*]; done))))) rfl rfl (by first | (simp only [List.map_toArray, List.map_cons, List.map_nil, Act.eval, Array.getD_eq_getD_getElem?, Option.getD_some, e21, e22, e23, e16]; done) | (simp only [List.map_toArray, List.map_cons, List.map_nil, Act.eval, Array.getD_eq_getD_getElem?, Option.getD_some, e21, e22, e23, e16]; rfl)) ?_
            with_reducible refine (lapidaryref09_On.calls k a2_0 a2_1 a2_2 a0_0 a0_1 a0_2 a1_0 a1_1 a1_2 t481 _ A8.out).mono ?_
            rintro e w22 ⟨rfl, hb⟩
            refine ⟨_, rfl, ?_⟩
            have n0_ := Aside0.mk (blk_below (g := gb475) (o := .cells #[.int .i64 a0_0, .int .i64 a0_1, .int .i64 a0_2] 23 (0, 0)) (by (with_reducible repeat (first | refine blk_drewN ?_ _ | refine blk_drew ?_ | refine blk_alloc ?_ _)); exact BK475.out) hb)
            have n1_ := Aside0.mk (blk_below (g := gb476) (o := .cells #[.int .i64 a1_0, .int .i64 a1_1, .int .i64 a1_2] 23 (0, 0)) (by (with_reducible repeat (first | refine blk_drewN ?_ _ | refine blk_drew ?_ | refine blk_alloc ?_ _)); exact BK476.out) hb)
            have n2_ := Aside0.mk (blk_below (g := gb477) (o := .cells #[.int .i64 a2_0, .int .i64 a2_1, .int .i64 a2_2] 23 (0, 0)) (by (with_reducible repeat (first | refine blk_drewN ?_ _ | refine blk_drew ?_ | refine blk_alloc ?_ _)); exact BK477.out) hb)
            have n3_ := Aside0.mk (below_step (by repeat (first | (with_reducible first | exact HB.out | apply below_alloc | apply pw_below_drewN | apply below_drew1 | refine below_set ?_ GE475.out | refine below_set ?_ GE476.out | refine below_set ?_ GE477.out) | exact HB.out)) hb)
            clear BK475
            clear BK476
            clear BK477
            clear HB
            have BK475 := n0_
            have BK476 := n1_
            have BK477 := n2_
            have HB := n3_
            clear n0_ n1_ n2_ n3_
            (try clear hb)
            (try clear hb2)
            (try clear hk)
            (try clear hi)
            refine hK.out _ _ ⟨v483, v487, (by rw [ha.out]; exact putSel_upk 17 hb_ rfl rfl rfl), (by (with_reducible repeat (first | refine blk_drewN ?_ _ | refine blk_drew ?_ | refine blk_alloc ?_ _)); exact BK475.out), (by (with_reducible repeat (first | refine blk_drewN ?_ _ | refine blk_drew ?_ | refine blk_alloc ?_ _)); exact BK476.out), (by (with_reducible repeat (first | refine blk_drewN ?_ _ | refine blk_drew ?_ | refine blk_alloc ?_ _)); exact BK477.out), (by repeat (first | (with_reducible first | exact HB.out | apply below_alloc | apply pw_below_drewN | apply below_drew1 | refine below_set ?_ GE475.out | refine below_set ?_ GE476.out | refine below_set ?_ GE477.out) | exact HB.out)), fun h0_ => absurd ((hoff 24 (by kernel_rfl)).symm.trans h0_) (by decide), fun h0_ => absurd ((hoff 29 (by kernel_rfl)).symm.trans h0_) (by decide)⟩
          refine steps_cons ?_ ?_
          · rintro b a w' ⟨v483, v487, ha, Q_BK475, Q_BK476, Q_BK477, Q_HB, Q_HO484, Q_HO488⟩ hb_ hon hoff
            refine ⟨_, rfl, fun K hK => ?_⟩
            have e20 : a.tmps[20]? = some (.bool t480) := by rw [ha]; exact putSel_on (e := (13, 20, .bool t480)) 13 rfl rfl (hon 13 (by kernel_rfl)) rfl
            have e24 : a.tmps[24]? = some (.bool t481) := by rw [ha]; exact putSel_on (e := (17, 24, .bool t481)) 17 rfl rfl (hon 17 (by kernel_rfl)) rfl
            have e16 : a.tmps[16]? = some (.bool (t478 == t479)) := by rw [ha]; exact putSel_on (e := (9, 16, .bool (t478 == t479))) 9 rfl rfl (hon 9 (by kernel_rfl)) rfl
            replace ha := Aside0.mk ha
            have BK475 := Aside0.mk Q_BK475
            have BK476 := Aside0.mk Q_BK476
            have BK477 := Aside0.mk Q_BK477
            have HB := Aside0.mk Q_HB
            refine value_ (w1 := w') (v := .bool (t480 == t481)) (wanted_on rfl rfl rfl (e16.trans (by first | rfl | (simp [*]; done)))) rfl ?_ ?_
            · go_simp
              (try simp only [i64_w])
              try rfl
            refine hK.out _ _ ⟨v483, v487, (by rw [ha.out]; exact putSel_upk 18 hb_ rfl rfl rfl), Q_BK475, Q_BK476, Q_BK477, Q_HB, fun h0_ => absurd ((hoff 24 (by kernel_rfl)).symm.trans h0_) (by decide), fun h0_ => absurd ((hoff 29 (by kernel_rfl)).symm.trans h0_) (by decide)⟩
          refine steps_cons ?_ ?_
          · rintro b a w' ⟨v483, v487, ha, Q_BK475, Q_BK476, Q_BK477, Q_HB, Q_HO484, Q_HO488⟩ hb_ hon hoff
            refine ⟨_, rfl, fun K hK => ?_⟩
            have e16 : a.tmps[16]? = some (.bool (t478 == t479)) := by rw [ha]; exact putSel_on (e := (9, 16, .bool (t478 == t479))) 9 rfl rfl (hon 9 (by kernel_rfl)) rfl
            have e25 : a.tmps[25]? = some (.bool (t480 == t481)) := by rw [ha]; exact putSel_on (e := (18, 25, .bool (t480 == t481))) 18 rfl rfl (hon 18 (by kernel_rfl)) rfl
            replace ha := Aside0.mk ha
            have BK475 := Aside0.mk Q_BK475
            have BK476 := Aside0.mk Q_BK476
            have BK477 := Aside0.mk Q_BK477
            have HB := Aside0.mk Q_HB
            refine value_ (w1 := w') (v := .bool (t480 == t481)) (by rfl) rfl ?_ ?_
            · go_simp
              (try simp only [i64_w])
              try rfl
            refine hK.out _ _ ⟨v483, v487, (by rw [ha.out]; exact putSel_upk 19 hb_ rfl rfl rfl), Q_BK475, Q_BK476, Q_BK477, Q_HB, fun h0_ => absurd ((hoff 24 (by kernel_rfl)).symm.trans h0_) (by decide), fun h0_ => absurd ((hoff 29 (by kernel_rfl)).symm.trans h0_) (by decide)⟩
          refine steps_cons ?_ ?_
          · rintro b a w' ⟨v483, v487, ha, Q_BK475, Q_BK476, Q_BK477, Q_HB, Q_HO484, Q_HO488⟩ hb_ hon hoff
            refine ⟨_, rfl, fun K hK => ?_⟩
            have e26 : a.tmps[26]? = some (.bool (t480 == t481)) := by rw [ha]; exact putSel_on (e := (19, 26, .bool (t480 == t481))) 19 rfl rfl (hon 19 (by kernel_rfl)) rfl
            replace ha := Aside0.mk ha
            have BK475 := Aside0.mk Q_BK475
            have BK476 := Aside0.mk Q_BK476
            have BK477 := Aside0.mk Q_BK477
            have HB := Aside0.mk Q_HB
            refine value_ (w1 := w') (v := .bool (t480 == t481)) (by rfl) rfl ?_ ?_
            · go_simp
              (try simp only [i64_w])
              try rfl
            refine hK.out _ _ ⟨v483, v487, (by rw [ha.out]; exact putSel_upk 20 hb_ rfl rfl rfl), Q_BK475, Q_BK476, Q_BK477, Q_HB, fun h0_ => absurd ((hoff 24 (by kernel_rfl)).symm.trans h0_) (by decide), fun h0_ => absurd ((hoff 29 (by kernel_rfl)).symm.trans h0_) (by decide)⟩
          refine steps_cons ?_ ?_
          · rintro b a w' ⟨v483, v487, ha, Q_BK475, Q_BK476, Q_BK477, Q_HB, Q_HO484, Q_HO488⟩ hb_ hon hoff
            refine ⟨_, rfl, fun K hK => ?_⟩
            have e3 : a.tmps[3]? = some (.pointer (some ⟨gb475, 0, none⟩)) := by rw [ha]; exact (putSel_off rfl).trans rfl
            have e27 : a.tmps[27]? = some (.bool (t480 == t481)) := by rw [ha]; exact putSel_on (e := (20, 27, .bool (t480 == t481))) 20 rfl rfl (hon 20 (by kernel_rfl)) rfl
            replace ha := Aside0.mk ha
            have BK475 := Aside0.mk Q_BK475
            have BK476 := Aside0.mk Q_BK476
            have BK477 := Aside0.mk Q_BK477
            have HB := Aside0.mk Q_HB
            have hc0_ : w'.cell? ⟨gb475, 0, none⟩ = some (.int .i64 a0_0) := (blk_cell BK475.out 0).trans rfl
            have hc1_ : w'.cell? ⟨gb475, 1, none⟩ = some (.int .i64 a0_1) := (blk_cell BK475.out 1).trans rfl
            have hc2_ : w'.cell? ⟨gb475, 2, none⟩ = some (.int .i64 a0_2) := (blk_cell BK475.out 2).trans rfl
            refine value_ (w1 := w') (v := .agg #[.int .i64 a0_0, .int .i64 a0_1, .int .i64 a0_2]) (wanted_on rfl rfl rfl (e27.trans (by first | rfl | (simp [*]; done)))) rfl ?_ ?_
            · go_simp
              (try simp only [i64_w])
              try rfl
            refine hK.out _ _ ⟨v483, v487, (by rw [ha.out]; exact putSel_upk 21 hb_ rfl rfl rfl), Q_BK475, Q_BK476, Q_BK477, Q_HB, fun h0_ => absurd ((hoff 24 (by kernel_rfl)).symm.trans h0_) (by decide), Q_HO488⟩
          refine steps_cons ?_ ?_
          · rintro b a w' ⟨v483, v487, ha, Q_BK475, Q_BK476, Q_BK477, Q_HB, Q_HO484, Q_HO488⟩ hb_ hon hoff
            refine ⟨_, rfl, fun K hK => ?_⟩
            have e4 : a.tmps[4]? = some (.pointer (some ⟨gb476, 0, none⟩)) := by rw [ha]; exact (putSel_off rfl).trans rfl
            have e27 : a.tmps[27]? = some (.bool (t480 == t481)) := by rw [ha]; exact putSel_on (e := (20, 27, .bool (t480 == t481))) 20 rfl rfl (hon 20 (by kernel_rfl)) rfl
            replace ha := Aside0.mk ha
            have BK475 := Aside0.mk Q_BK475
            have BK476 := Aside0.mk Q_BK476
            have BK477 := Aside0.mk Q_BK477
            have HB := Aside0.mk Q_HB
            have hc0_ : w'.cell? ⟨gb476, 0, none⟩ = some (.int .i64 a1_0) := (blk_cell BK476.out 0).trans rfl
            have hc1_ : w'.cell? ⟨gb476, 1, none⟩ = some (.int .i64 a1_1) := (blk_cell BK476.out 1).trans rfl
            have hc2_ : w'.cell? ⟨gb476, 2, none⟩ = some (.int .i64 a1_2) := (blk_cell BK476.out 2).trans rfl
            refine value_ (w1 := w') (v := .agg #[.int .i64 a1_0, .int .i64 a1_1, .int .i64 a1_2]) (wanted_on rfl rfl rfl (e27.trans (by first | rfl | (simp [*]; done)))) rfl ?_ ?_
            · go_simp
              (try simp only [i64_w])
              try rfl
            refine hK.out _ _ ⟨v483, v487, (by rw [ha.out]; exact putSel_upk 22 hb_ rfl rfl rfl), Q_BK475, Q_BK476, Q_BK477, Q_HB, fun h0_ => absurd ((hoff 24 (by kernel_rfl)).symm.trans h0_) (by decide), Q_HO488⟩
          refine steps_cons ?_ ?_
          · rintro b a w' ⟨v483, v487, ha, Q_BK475, Q_BK476, Q_BK477, Q_HB, Q_HO484, Q_HO488⟩ hb_ hon hoff
            refine ⟨_, rfl, fun K hK => ?_⟩
            have e5 : a.tmps[5]? = some (.pointer (some ⟨gb477, 0, none⟩)) := by rw [ha]; exact (putSel_off rfl).trans rfl
            have e27 : a.tmps[27]? = some (.bool (t480 == t481)) := by rw [ha]; exact putSel_on (e := (20, 27, .bool (t480 == t481))) 20 rfl rfl (hon 20 (by kernel_rfl)) rfl
            replace ha := Aside0.mk ha
            have BK475 := Aside0.mk Q_BK475
            have BK476 := Aside0.mk Q_BK476
            have BK477 := Aside0.mk Q_BK477
            have HB := Aside0.mk Q_HB
            have hc0_ : w'.cell? ⟨gb477, 0, none⟩ = some (.int .i64 a2_0) := (blk_cell BK477.out 0).trans rfl
            have hc1_ : w'.cell? ⟨gb477, 1, none⟩ = some (.int .i64 a2_1) := (blk_cell BK477.out 1).trans rfl
            have hc2_ : w'.cell? ⟨gb477, 2, none⟩ = some (.int .i64 a2_2) := (blk_cell BK477.out 2).trans rfl
            refine value_ (w1 := w') (v := .agg #[.int .i64 a2_0, .int .i64 a2_1, .int .i64 a2_2]) (wanted_on rfl rfl rfl (e27.trans (by first | rfl | (simp [*]; done)))) rfl ?_ ?_
            · go_simp
              (try simp only [i64_w])
              try rfl
            refine hK.out _ _ ⟨v483, v487, (by rw [ha.out]; exact putSel_upk 23 hb_ rfl rfl rfl), Q_BK475, Q_BK476, Q_BK477, Q_HB, fun h0_ => absurd ((hoff 24 (by kernel_rfl)).symm.trans h0_) (by decide), Q_HO488⟩
          refine steps_cons ?_ ?_
          · rintro b a w' ⟨v483, v487, ha, Q_BK475, Q_BK476, Q_BK477, Q_HB, Q_HO484, Q_HO488⟩ hb_ hon hoff
            refine ⟨_, rfl, fun K hK => ?_⟩
            have e28 : a.tmps[28]? = some (.agg #[.int .i64 a0_0, .int .i64 a0_1, .int .i64 a0_2]) := by rw [ha]; exact putSel_on (e := (21, 28, .agg #[.int .i64 a0_0, .int .i64 a0_1, .int .i64 a0_2])) 21 rfl rfl (hon 21 (by kernel_rfl)) rfl
            have e29 : a.tmps[29]? = some (.agg #[.int .i64 a1_0, .int .i64 a1_1, .int .i64 a1_2]) := by rw [ha]; exact putSel_on (e := (22, 29, .agg #[.int .i64 a1_0, .int .i64 a1_1, .int .i64 a1_2])) 22 rfl rfl (hon 22 (by kernel_rfl)) rfl
            have e30 : a.tmps[30]? = some (.agg #[.int .i64 a2_0, .int .i64 a2_1, .int .i64 a2_2]) := by rw [ha]; exact putSel_on (e := (23, 30, .agg #[.int .i64 a2_0, .int .i64 a2_1, .int .i64 a2_2])) 23 rfl rfl (hon 23 (by kernel_rfl)) rfl
            have e27 : a.tmps[27]? = some (.bool (t480 == t481)) := by rw [ha]; exact putSel_on (e := (20, 27, .bool (t480 == t481))) 20 rfl rfl (hon 20 (by kernel_rfl)) rfl
            replace ha := Aside0.mk ha
            have BK475 := Aside0.mk Q_BK475
            have BK476 := Aside0.mk Q_BK476
            have BK477 := Aside0.mk Q_BK477
            have HB := Aside0.mk Q_HB
            refine Kd.R_lit_step k23 _ 23 ?hg (N := 31) ?hd (xs := ([(⟨a0_0, a0_1, a0_2⟩ : S23), (⟨a1_0, a1_1, a1_2⟩ : S23), (⟨a2_0, a2_1, a2_2⟩ : S23)] : List (S23))) (inner := [.int .i64 a0_0, .int .i64 a0_1, .int .i64 a0_2, .int .i64 a1_0, .int .i64 a1_1, .int .i64 a1_2, .int .i64 a2_0, .int .i64 a2_1, .int .i64 a2_2]) (ok := fun _ => True) (okp := fun _ => True) ?hr ?hp (fun _ hk => hk) trivial (Below.refl _ _) (Nat.le_refl _) (by simp) ?_; (case hd => rfl); (case hg => first | rfl | exact (wanted_on rfl rfl rfl (e27.trans (by first | rfl | (simp [*]; done))))); (case hr => first | (go_simp; done) | (go_simp; rfl)); (case hp => exact (Reps.c3 (show Kd.M k23 _ _ _ (⟨a0_0, a0_1, a0_2⟩ : S23) [.int .i64 a0_0, .int .i64 a0_1, .int .i64 a0_2] from (k23_mkM _ _ _ (⟨a0_0, a0_1, a0_2⟩ : S23) )) (Reps.c3 (show Kd.M k23 _ _ _ (⟨a1_0, a1_1, a1_2⟩ : S23) [.int .i64 a1_0, .int .i64 a1_1, .int .i64 a1_2] from (k23_mkM _ _ _ (⟨a1_0, a1_1, a1_2⟩ : S23) )) (Reps.c3 (show Kd.M k23 _ _ _ (⟨a2_0, a2_1, a2_2⟩ : S23) [.int .i64 a2_0, .int .i64 a2_1, .int .i64 a2_2] from (k23_mkM _ _ _ (⟨a2_0, a2_1, a2_2⟩ : S23) )) (Reps.none _ _)))))
            intro v483 w23 ho24 hb hg_ hnew_
            clear hg_ hnew_
            (first | rw [← Ny482.out] at ho24 | (simp only [Int.reduceToNat] at ho24; rw [← Ny482.out] at ho24))
            have n0_ := Aside0.mk (Kd.R_lower (Kd.R_newB (Kd.R_newB (Kd.R_newB ho24 (g := gb475) (o := .cells #[.int .i64 a0_0, .int .i64 a0_1, .int .i64 a0_2] 23 (0, 0)) (by (with_reducible repeat (first | refine blk_drewN ?_ _ | refine blk_drew ?_ | refine blk_alloc ?_ _)); exact BK475.out)) (g := gb476) (o := .cells #[.int .i64 a1_0, .int .i64 a1_1, .int .i64 a1_2] 23 (0, 0)) (by (with_reducible repeat (first | refine blk_drewN ?_ _ | refine blk_drew ?_ | refine blk_alloc ?_ _)); exact BK476.out)) (g := gb477) (o := .cells #[.int .i64 a2_0, .int .i64 a2_1, .int .i64 a2_2] 23 (0, 0)) (by (with_reducible repeat (first | refine blk_drewN ?_ _ | refine blk_drew ?_ | refine blk_alloc ?_ _)); exact BK477.out)) (below_size (by repeat (first | (with_reducible first | exact HB.out | apply below_alloc | apply pw_below_drewN | apply below_drew1 | refine below_set ?_ GE475.out | refine below_set ?_ GE476.out | refine below_set ?_ GE477.out) | exact HB.out))))
            have n1_ := Aside0.mk (blk_below (g := gb475) (o := .cells #[.int .i64 a0_0, .int .i64 a0_1, .int .i64 a0_2] 23 (0, 0)) (by (with_reducible repeat (first | refine blk_drewN ?_ _ | refine blk_drew ?_ | refine blk_alloc ?_ _)); exact BK475.out) hb)
            have n2_ := Aside0.mk (blk_below (g := gb476) (o := .cells #[.int .i64 a1_0, .int .i64 a1_1, .int .i64 a1_2] 23 (0, 0)) (by (with_reducible repeat (first | refine blk_drewN ?_ _ | refine blk_drew ?_ | refine blk_alloc ?_ _)); exact BK476.out) hb)
            have n3_ := Aside0.mk (blk_below (g := gb477) (o := .cells #[.int .i64 a2_0, .int .i64 a2_1, .int .i64 a2_2] 23 (0, 0)) (by (with_reducible repeat (first | refine blk_drewN ?_ _ | refine blk_drew ?_ | refine blk_alloc ?_ _)); exact BK477.out) hb)
            have n4_ := Aside0.mk (below_step (by repeat (first | (with_reducible first | exact HB.out | apply below_alloc | apply pw_below_drewN | apply below_drew1 | refine below_set ?_ GE475.out | refine below_set ?_ GE476.out | refine below_set ?_ GE477.out) | exact HB.out)) hb)
            have z_HO488 := fun (h0_ : b 29 = true) => (show Kd.R k23 23 w23 w.heap.size (fun k_ => k_ ≠ gb475 ∧ k_ ≠ gb476 ∧ k_ ≠ gb477) v487 y486 from by first | exact (Kd.R_elder' (by (with_reducible repeat (first | apply Kd.R_alloc | apply Kd.R_drewN | apply Kd.R_drew)); exact (Q_HO488 h0_)) (Kd.R_base ho24) hb) | exact Kd.R_mono (Kd.R_elder' (by (with_reducible repeat (first | apply Kd.R_alloc | apply Kd.R_drewN | apply Kd.R_drew)); exact (Q_HO488 h0_)) (Kd.R_base ho24) hb) (fun _ h_ => by first | trivial | exact h_ | exact h_.1))
            clear BK475
            clear BK476
            clear BK477
            clear HB
            have HO484 := n0_
            have BK475 := n1_
            have BK476 := n2_
            have BK477 := n3_
            have HB := n4_
            clear n0_ n1_ n2_ n3_ n4_
            clear hb ho24
            refine hK.out _ _ ⟨v483, v487, (by rw [ha.out]; exact putSel_upk 24 hb_ rfl rfl rfl), (by (with_reducible repeat (first | refine blk_drewN ?_ _ | refine blk_drew ?_ | refine blk_alloc ?_ _)); exact BK475.out), (by (with_reducible repeat (first | refine blk_drewN ?_ _ | refine blk_drew ?_ | refine blk_alloc ?_ _)); exact BK476.out), (by (with_reducible repeat (first | refine blk_drewN ?_ _ | refine blk_drew ?_ | refine blk_alloc ?_ _)); exact BK477.out), (by repeat (first | (with_reducible first | exact HB.out | apply below_alloc | apply pw_below_drewN | apply below_drew1 | refine below_set ?_ GE475.out | refine below_set ?_ GE476.out | refine below_set ?_ GE477.out) | exact HB.out)), fun _ => (by (with_reducible repeat (first | apply Kd.R_alloc | apply Kd.R_drewN | apply Kd.R_drew)); exact Kd.R_mono HO484.out (fun _ hk => ⟨hk.1.1.2, ⟨hk.1.2, hk.2⟩⟩)), z_HO488⟩
          refine steps_cons ?_ ?_
          · rintro b a w' ⟨v483, v487, ha, Q_BK475, Q_BK476, Q_BK477, Q_HB, Q_HO484, Q_HO488⟩ hb_ hon hoff
            refine ⟨_, rfl, fun K hK => ?_⟩
            have e31 : a.tmps[31]? = some (v483) := by rw [ha]; exact putSel_on (e := (24, 31, v483)) 24 rfl rfl (hon 24 (by kernel_rfl)) rfl
            have e27 : a.tmps[27]? = some (.bool (t480 == t481)) := by rw [ha]; exact putSel_on (e := (20, 27, .bool (t480 == t481))) 20 rfl rfl (hon 20 (by kernel_rfl)) rfl
            replace ha := Aside0.mk ha
            have BK475 := Aside0.mk Q_BK475
            have BK476 := Aside0.mk Q_BK476
            have BK477 := Aside0.mk Q_BK477
            have HB := Aside0.mk Q_HB
            have HO484 := Aside0.mk (Q_HO484 (hon 24 (by kernel_rfl)))
            obtain ⟨Ao25, co25, eo25⟩ := Kd.R_slice HO484.out
            (first | subst eo25 | (injection eo25 with f1_ f2_ f3_; have f4_ := f1_.symm; have f5_ := f3_.symm; clear f1_ f2_ f3_; subst f4_; subst f5_))
            refine goes_ Try.func22 (by kernel_rfl) rfl #[.slice Ao25 y482.length co25] (by first | rfl | exact (wanted_on rfl rfl rfl (e27.trans (by first | rfl | (simp [*]; done))))) rfl rfl (by first | (simp only [List.map_toArray, List.map_cons, List.map_nil, Act.eval, Array.getD_eq_getD_getElem?, Option.getD_some, e31, e27]; done) | (simp only [List.map_toArray, List.map_cons, List.map_nil, Act.eval, Array.getD_eq_getD_getElem?, Option.getD_some, e31, e27]; rfl)) ?_
            with_reducible refine (geom_Right.calls k _ _ y482 t485 _ ?side1 ?side2 A10.out).mono ?_
            (case side1 => repeat (first | exact (Kd.R_reads' HO484.out).2.2 | (with_reducible refine Kd.C_alloc ?_ _) | (with_reducible refine Kd.C_drewN ?_ _) | (with_reducible refine Kd.C_drew ?_)))
            (case side2 => exact (Kd.R_reads' HO484.out).2.1)
            rintro e w26 ⟨rfl, hb⟩
            refine ⟨_, rfl, ?_⟩
            have n0_ := Aside0.mk (Kd.R_below (by (with_reducible repeat (first | apply Kd.R_alloc | apply Kd.R_drewN | apply Kd.R_drew)); exact HO484.out) hb)
            have n1_ := Aside0.mk (blk_below (g := gb475) (o := .cells #[.int .i64 a0_0, .int .i64 a0_1, .int .i64 a0_2] 23 (0, 0)) (by (with_reducible repeat (first | refine blk_drewN ?_ _ | refine blk_drew ?_ | refine blk_alloc ?_ _)); exact BK475.out) hb)
            have n2_ := Aside0.mk (blk_below (g := gb476) (o := .cells #[.int .i64 a1_0, .int .i64 a1_1, .int .i64 a1_2] 23 (0, 0)) (by (with_reducible repeat (first | refine blk_drewN ?_ _ | refine blk_drew ?_ | refine blk_alloc ?_ _)); exact BK476.out) hb)
            have n3_ := Aside0.mk (blk_below (g := gb477) (o := .cells #[.int .i64 a2_0, .int .i64 a2_1, .int .i64 a2_2] 23 (0, 0)) (by (with_reducible repeat (first | refine blk_drewN ?_ _ | refine blk_drew ?_ | refine blk_alloc ?_ _)); exact BK477.out) hb)
            have n4_ := Aside0.mk (below_step (by repeat (first | (with_reducible first | exact HB.out | apply below_alloc | apply pw_below_drewN | apply below_drew1 | refine below_set ?_ GE475.out | refine below_set ?_ GE476.out | refine below_set ?_ GE477.out) | exact HB.out)) hb)
            have z_HO488 := fun (h0_ : b 29 = true) => (show Kd.R k23 23 w26 w.heap.size (fun k_ => k_ ≠ gb475 ∧ k_ ≠ gb476 ∧ k_ ≠ gb477) v487 y486 from by first | exact (Kd.R_below (by (with_reducible repeat (first | apply Kd.R_alloc | apply Kd.R_drewN | apply Kd.R_drew)); exact (Q_HO488 h0_)) hb) | exact Kd.R_mono (Kd.R_below (by (with_reducible repeat (first | apply Kd.R_alloc | apply Kd.R_drewN | apply Kd.R_drew)); exact (Q_HO488 h0_)) hb) (fun _ h_ => by first | trivial | exact h_ | exact h_.1))
            clear HO484
            clear BK475
            clear BK476
            clear BK477
            clear HB
            have HO484 := n0_
            have BK475 := n1_
            have BK476 := n2_
            have BK477 := n3_
            have HB := n4_
            clear n0_ n1_ n2_ n3_ n4_
            (try clear hb)
            (try clear hb2)
            (try clear hk)
            (try clear hi)
            refine hK.out _ _ ⟨.slice Ao25 y482.length co25, v487, (by rw [ha.out]; exact putSel_upk 25 hb_ rfl rfl rfl), (by (with_reducible repeat (first | refine blk_drewN ?_ _ | refine blk_drew ?_ | refine blk_alloc ?_ _)); exact BK475.out), (by (with_reducible repeat (first | refine blk_drewN ?_ _ | refine blk_drew ?_ | refine blk_alloc ?_ _)); exact BK476.out), (by (with_reducible repeat (first | refine blk_drewN ?_ _ | refine blk_drew ?_ | refine blk_alloc ?_ _)); exact BK477.out), (by repeat (first | (with_reducible first | exact HB.out | apply below_alloc | apply pw_below_drewN | apply below_drew1 | refine below_set ?_ GE475.out | refine below_set ?_ GE476.out | refine below_set ?_ GE477.out) | exact HB.out)), fun _ => (by (with_reducible repeat (first | apply Kd.R_alloc | apply Kd.R_drewN | apply Kd.R_drew)); exact HO484.out), z_HO488⟩
          refine steps_cons ?_ ?_
          · rintro b a w' ⟨v483, v487, ha, Q_BK475, Q_BK476, Q_BK477, Q_HB, Q_HO484, Q_HO488⟩ hb_ hon hoff
            refine ⟨_, rfl, fun K hK => ?_⟩
            have e3 : a.tmps[3]? = some (.pointer (some ⟨gb475, 0, none⟩)) := by rw [ha]; exact (putSel_off rfl).trans rfl
            have e27 : a.tmps[27]? = some (.bool (t480 == t481)) := by rw [ha]; exact putSel_on (e := (20, 27, .bool (t480 == t481))) 20 rfl rfl (hon 20 (by kernel_rfl)) rfl
            replace ha := Aside0.mk ha
            have BK475 := Aside0.mk Q_BK475
            have BK476 := Aside0.mk Q_BK476
            have BK477 := Aside0.mk Q_BK477
            have HB := Aside0.mk Q_HB
            have hc0_ : w'.cell? ⟨gb475, 0, none⟩ = some (.int .i64 a0_0) := (blk_cell BK475.out 0).trans rfl
            have hc1_ : w'.cell? ⟨gb475, 1, none⟩ = some (.int .i64 a0_1) := (blk_cell BK475.out 1).trans rfl
            have hc2_ : w'.cell? ⟨gb475, 2, none⟩ = some (.int .i64 a0_2) := (blk_cell BK475.out 2).trans rfl
            refine value_ (w1 := w') (v := .agg #[.int .i64 a0_0, .int .i64 a0_1, .int .i64 a0_2]) (wanted_on rfl rfl rfl (e27.trans (by first | rfl | (simp [*]; done)))) rfl ?_ ?_
            · go_simp
              (try simp only [i64_w])
              try rfl
            refine hK.out _ _ ⟨v483, v487, (by rw [ha.out]; exact putSel_upk 26 hb_ rfl rfl rfl), Q_BK475, Q_BK476, Q_BK477, Q_HB, Q_HO484, fun h0_ => absurd ((hoff 29 (by kernel_rfl)).symm.trans h0_) (by decide)⟩
          refine steps_cons ?_ ?_
          · rintro b a w' ⟨v483, v487, ha, Q_BK475, Q_BK476, Q_BK477, Q_HB, Q_HO484, Q_HO488⟩ hb_ hon hoff
            refine ⟨_, rfl, fun K hK => ?_⟩
            have e4 : a.tmps[4]? = some (.pointer (some ⟨gb476, 0, none⟩)) := by rw [ha]; exact (putSel_off rfl).trans rfl
            have e27 : a.tmps[27]? = some (.bool (t480 == t481)) := by rw [ha]; exact putSel_on (e := (20, 27, .bool (t480 == t481))) 20 rfl rfl (hon 20 (by kernel_rfl)) rfl
            replace ha := Aside0.mk ha
            have BK475 := Aside0.mk Q_BK475
            have BK476 := Aside0.mk Q_BK476
            have BK477 := Aside0.mk Q_BK477
            have HB := Aside0.mk Q_HB
            have hc0_ : w'.cell? ⟨gb476, 0, none⟩ = some (.int .i64 a1_0) := (blk_cell BK476.out 0).trans rfl
            have hc1_ : w'.cell? ⟨gb476, 1, none⟩ = some (.int .i64 a1_1) := (blk_cell BK476.out 1).trans rfl
            have hc2_ : w'.cell? ⟨gb476, 2, none⟩ = some (.int .i64 a1_2) := (blk_cell BK476.out 2).trans rfl
            refine value_ (w1 := w') (v := .agg #[.int .i64 a1_0, .int .i64 a1_1, .int .i64 a1_2]) (wanted_on rfl rfl rfl (e27.trans (by first | rfl | (simp [*]; done)))) rfl ?_ ?_
            · go_simp
              (try simp only [i64_w])
              try rfl
            refine hK.out _ _ ⟨v483, v487, (by rw [ha.out]; exact putSel_upk 27 hb_ rfl rfl rfl), Q_BK475, Q_BK476, Q_BK477, Q_HB, Q_HO484, fun h0_ => absurd ((hoff 29 (by kernel_rfl)).symm.trans h0_) (by decide)⟩
          refine steps_cons ?_ ?_
          · rintro b a w' ⟨v483, v487, ha, Q_BK475, Q_BK476, Q_BK477, Q_HB, Q_HO484, Q_HO488⟩ hb_ hon hoff
            refine ⟨_, rfl, fun K hK => ?_⟩
            have e5 : a.tmps[5]? = some (.pointer (some ⟨gb477, 0, none⟩)) := by rw [ha]; exact (putSel_off rfl).trans rfl
            have e27 : a.tmps[27]? = some (.bool (t480 == t481)) := by rw [ha]; exact putSel_on (e := (20, 27, .bool (t480 == t481))) 20 rfl rfl (hon 20 (by kernel_rfl)) rfl
            replace ha := Aside0.mk ha
            have BK475 := Aside0.mk Q_BK475
            have BK476 := Aside0.mk Q_BK476
            have BK477 := Aside0.mk Q_BK477
            have HB := Aside0.mk Q_HB
            have hc0_ : w'.cell? ⟨gb477, 0, none⟩ = some (.int .i64 a2_0) := (blk_cell BK477.out 0).trans rfl
            have hc1_ : w'.cell? ⟨gb477, 1, none⟩ = some (.int .i64 a2_1) := (blk_cell BK477.out 1).trans rfl
            have hc2_ : w'.cell? ⟨gb477, 2, none⟩ = some (.int .i64 a2_2) := (blk_cell BK477.out 2).trans rfl
            refine value_ (w1 := w') (v := .agg #[.int .i64 a2_0, .int .i64 a2_1, .int .i64 a2_2]) (wanted_on rfl rfl rfl (e27.trans (by first | rfl | (simp [*]; done)))) rfl ?_ ?_
            · go_simp
              (try simp only [i64_w])
              try rfl
            refine hK.out _ _ ⟨v483, v487, (by rw [ha.out]; exact putSel_upk 28 hb_ rfl rfl rfl), Q_BK475, Q_BK476, Q_BK477, Q_HB, Q_HO484, fun h0_ => absurd ((hoff 29 (by kernel_rfl)).symm.trans h0_) (by decide)⟩
          refine steps_cons ?_ ?_
          · rintro b a w' ⟨v483, v487, ha, Q_BK475, Q_BK476, Q_BK477, Q_HB, Q_HO484, Q_HO488⟩ hb_ hon hoff
            refine ⟨_, rfl, fun K hK => ?_⟩
            have e33 : a.tmps[33]? = some (.agg #[.int .i64 a0_0, .int .i64 a0_1, .int .i64 a0_2]) := by rw [ha]; exact putSel_on (e := (26, 33, .agg #[.int .i64 a0_0, .int .i64 a0_1, .int .i64 a0_2])) 26 rfl rfl (hon 26 (by kernel_rfl)) rfl
            have e34 : a.tmps[34]? = some (.agg #[.int .i64 a1_0, .int .i64 a1_1, .int .i64 a1_2]) := by rw [ha]; exact putSel_on (e := (27, 34, .agg #[.int .i64 a1_0, .int .i64 a1_1, .int .i64 a1_2])) 27 rfl rfl (hon 27 (by kernel_rfl)) rfl
            have e35 : a.tmps[35]? = some (.agg #[.int .i64 a2_0, .int .i64 a2_1, .int .i64 a2_2]) := by rw [ha]; exact putSel_on (e := (28, 35, .agg #[.int .i64 a2_0, .int .i64 a2_1, .int .i64 a2_2])) 28 rfl rfl (hon 28 (by kernel_rfl)) rfl
            have e27 : a.tmps[27]? = some (.bool (t480 == t481)) := by rw [ha]; exact putSel_on (e := (20, 27, .bool (t480 == t481))) 20 rfl rfl (hon 20 (by kernel_rfl)) rfl
            replace ha := Aside0.mk ha
            have BK475 := Aside0.mk Q_BK475
            have BK476 := Aside0.mk Q_BK476
            have BK477 := Aside0.mk Q_BK477
            have HB := Aside0.mk Q_HB
            refine Kd.R_lit_step k23 _ 23 ?hg (N := 36) ?hd (xs := ([(⟨a0_0, a0_1, a0_2⟩ : S23), (⟨a1_0, a1_1, a1_2⟩ : S23), (⟨a2_0, a2_1, a2_2⟩ : S23)] : List (S23))) (inner := [.int .i64 a0_0, .int .i64 a0_1, .int .i64 a0_2, .int .i64 a1_0, .int .i64 a1_1, .int .i64 a1_2, .int .i64 a2_0, .int .i64 a2_1, .int .i64 a2_2]) (ok := fun _ => True) (okp := fun _ => True) ?hr ?hp (fun _ hk => hk) trivial (Below.refl _ _) (Nat.le_refl _) (by simp) ?_; (case hd => rfl); (case hg => first | rfl | exact (wanted_on rfl rfl rfl (e27.trans (by first | rfl | (simp [*]; done))))); (case hr => first | (go_simp; done) | (go_simp; rfl)); (case hp => exact (Reps.c3 (show Kd.M k23 _ _ _ (⟨a0_0, a0_1, a0_2⟩ : S23) [.int .i64 a0_0, .int .i64 a0_1, .int .i64 a0_2] from (k23_mkM _ _ _ (⟨a0_0, a0_1, a0_2⟩ : S23) )) (Reps.c3 (show Kd.M k23 _ _ _ (⟨a1_0, a1_1, a1_2⟩ : S23) [.int .i64 a1_0, .int .i64 a1_1, .int .i64 a1_2] from (k23_mkM _ _ _ (⟨a1_0, a1_1, a1_2⟩ : S23) )) (Reps.c3 (show Kd.M k23 _ _ _ (⟨a2_0, a2_1, a2_2⟩ : S23) [.int .i64 a2_0, .int .i64 a2_1, .int .i64 a2_2] from (k23_mkM _ _ _ (⟨a2_0, a2_1, a2_2⟩ : S23) )) (Reps.none _ _)))))
            intro v487 w23 ho24 hb hg_ hnew_
            clear hg_ hnew_
            (first | rw [← Ny486.out] at ho24 | (simp only [Int.reduceToNat] at ho24; rw [← Ny486.out] at ho24))
            have n0_ := Aside0.mk (Kd.R_lower (Kd.R_newB (Kd.R_newB (Kd.R_newB ho24 (g := gb475) (o := .cells #[.int .i64 a0_0, .int .i64 a0_1, .int .i64 a0_2] 23 (0, 0)) (by (with_reducible repeat (first | refine blk_drewN ?_ _ | refine blk_drew ?_ | refine blk_alloc ?_ _)); exact BK475.out)) (g := gb476) (o := .cells #[.int .i64 a1_0, .int .i64 a1_1, .int .i64 a1_2] 23 (0, 0)) (by (with_reducible repeat (first | refine blk_drewN ?_ _ | refine blk_drew ?_ | refine blk_alloc ?_ _)); exact BK476.out)) (g := gb477) (o := .cells #[.int .i64 a2_0, .int .i64 a2_1, .int .i64 a2_2] 23 (0, 0)) (by (with_reducible repeat (first | refine blk_drewN ?_ _ | refine blk_drew ?_ | refine blk_alloc ?_ _)); exact BK477.out)) (below_size (by repeat (first | (with_reducible first | exact HB.out | apply below_alloc | apply pw_below_drewN | apply below_drew1 | refine below_set ?_ GE475.out | refine below_set ?_ GE476.out | refine below_set ?_ GE477.out) | exact HB.out))))
            have n1_ := Aside0.mk (blk_below (g := gb475) (o := .cells #[.int .i64 a0_0, .int .i64 a0_1, .int .i64 a0_2] 23 (0, 0)) (by (with_reducible repeat (first | refine blk_drewN ?_ _ | refine blk_drew ?_ | refine blk_alloc ?_ _)); exact BK475.out) hb)
            have n2_ := Aside0.mk (blk_below (g := gb476) (o := .cells #[.int .i64 a1_0, .int .i64 a1_1, .int .i64 a1_2] 23 (0, 0)) (by (with_reducible repeat (first | refine blk_drewN ?_ _ | refine blk_drew ?_ | refine blk_alloc ?_ _)); exact BK476.out) hb)
            have n3_ := Aside0.mk (blk_below (g := gb477) (o := .cells #[.int .i64 a2_0, .int .i64 a2_1, .int .i64 a2_2] 23 (0, 0)) (by (with_reducible repeat (first | refine blk_drewN ?_ _ | refine blk_drew ?_ | refine blk_alloc ?_ _)); exact BK477.out) hb)
            have n4_ := Aside0.mk (below_step (by repeat (first | (with_reducible first | exact HB.out | apply below_alloc | apply pw_below_drewN | apply below_drew1 | refine below_set ?_ GE475.out | refine below_set ?_ GE476.out | refine below_set ?_ GE477.out) | exact HB.out)) hb)
            have z_HO484 := fun (h0_ : b 24 = true) => (show Kd.R k23 23 w23 w.heap.size (fun k_ => k_ ≠ gb475 ∧ k_ ≠ gb476 ∧ k_ ≠ gb477) v483 y482 from by first | exact (Kd.R_elder' (by (with_reducible repeat (first | apply Kd.R_alloc | apply Kd.R_drewN | apply Kd.R_drew)); exact (Q_HO484 h0_)) (Kd.R_base ho24) hb) | exact Kd.R_mono (Kd.R_elder' (by (with_reducible repeat (first | apply Kd.R_alloc | apply Kd.R_drewN | apply Kd.R_drew)); exact (Q_HO484 h0_)) (Kd.R_base ho24) hb) (fun _ h_ => by first | trivial | exact h_ | exact h_.1))
            clear BK475
            clear BK476
            clear BK477
            clear HB
            have HO488 := n0_
            have BK475 := n1_
            have BK476 := n2_
            have BK477 := n3_
            have HB := n4_
            clear n0_ n1_ n2_ n3_ n4_
            clear hb ho24
            refine hK.out _ _ ⟨v483, v487, (by rw [ha.out]; exact putSel_upk 29 hb_ rfl rfl rfl), (by (with_reducible repeat (first | refine blk_drewN ?_ _ | refine blk_drew ?_ | refine blk_alloc ?_ _)); exact BK475.out), (by (with_reducible repeat (first | refine blk_drewN ?_ _ | refine blk_drew ?_ | refine blk_alloc ?_ _)); exact BK476.out), (by (with_reducible repeat (first | refine blk_drewN ?_ _ | refine blk_drew ?_ | refine blk_alloc ?_ _)); exact BK477.out), (by repeat (first | (with_reducible first | exact HB.out | apply below_alloc | apply pw_below_drewN | apply below_drew1 | refine below_set ?_ GE475.out | refine below_set ?_ GE476.out | refine below_set ?_ GE477.out) | exact HB.out)), z_HO484, fun _ => (by (with_reducible repeat (first | apply Kd.R_alloc | apply Kd.R_drewN | apply Kd.R_drew)); exact Kd.R_mono HO488.out (fun _ hk => ⟨hk.1.1.2, ⟨hk.1.2, hk.2⟩⟩))⟩
          refine steps_cons ?_ ?_
          · rintro b a w' ⟨v483, v487, ha, Q_BK475, Q_BK476, Q_BK477, Q_HB, Q_HO484, Q_HO488⟩ hb_ hon hoff
            refine ⟨_, rfl, fun K hK => ?_⟩
            have e36 : a.tmps[36]? = some (v487) := by rw [ha]; exact putSel_on (e := (29, 36, v487)) 29 rfl rfl (hon 29 (by kernel_rfl)) rfl
            have e27 : a.tmps[27]? = some (.bool (t480 == t481)) := by rw [ha]; exact putSel_on (e := (20, 27, .bool (t480 == t481))) 20 rfl rfl (hon 20 (by kernel_rfl)) rfl
            replace ha := Aside0.mk ha
            have BK475 := Aside0.mk Q_BK475
            have BK476 := Aside0.mk Q_BK476
            have BK477 := Aside0.mk Q_BK477
            have HB := Aside0.mk Q_HB
            have HO484 := Aside0.mk (Q_HO484 (hon 24 (by kernel_rfl)))
            have HO488 := Aside0.mk (Q_HO488 (hon 29 (by kernel_rfl)))
            obtain ⟨Ao29, co29, eo29⟩ := Kd.R_slice HO488.out
            (first | subst eo29 | (injection eo29 with f1_ f2_ f3_; have f4_ := f1_.symm; have f5_ := f3_.symm; clear f1_ f2_ f3_; subst f4_; subst f5_))
            refine goes_ Try.func23 (by kernel_rfl) rfl #[.slice Ao29 y486.length co29] (by first | rfl | exact (wanted_on rfl rfl rfl (e27.trans (by first | rfl | (simp [*]; done))))) rfl rfl (by first | (simp only [List.map_toArray, List.map_cons, List.map_nil, Act.eval, Array.getD_eq_getD_getElem?, Option.getD_some, e36, e27]; done) | (simp only [List.map_toArray, List.map_cons, List.map_nil, Act.eval, Array.getD_eq_getD_getElem?, Option.getD_some, e36, e27]; rfl)) ?_
            with_reducible refine (lapidaryref09_Right.calls k _ _ y486 t489 _ ?side1 ?side2 A11.out).mono ?_
            (case side1 => repeat (first | exact (Kd.R_reads' HO488.out).2.2 | (with_reducible refine Kd.C_alloc ?_ _) | (with_reducible refine Kd.C_drewN ?_ _) | (with_reducible refine Kd.C_drew ?_)))
            (case side2 => exact (Kd.R_reads' HO488.out).2.1)
            rintro e w30 ⟨rfl, hb⟩
            refine ⟨_, rfl, ?_⟩
            have n0_ := Aside0.mk (Kd.R_below (by (with_reducible repeat (first | apply Kd.R_alloc | apply Kd.R_drewN | apply Kd.R_drew)); exact HO484.out) hb)
            have n1_ := Aside0.mk (Kd.R_below (by (with_reducible repeat (first | apply Kd.R_alloc | apply Kd.R_drewN | apply Kd.R_drew)); exact HO488.out) hb)
            have n2_ := Aside0.mk (blk_below (g := gb475) (o := .cells #[.int .i64 a0_0, .int .i64 a0_1, .int .i64 a0_2] 23 (0, 0)) (by (with_reducible repeat (first | refine blk_drewN ?_ _ | refine blk_drew ?_ | refine blk_alloc ?_ _)); exact BK475.out) hb)
            have n3_ := Aside0.mk (blk_below (g := gb476) (o := .cells #[.int .i64 a1_0, .int .i64 a1_1, .int .i64 a1_2] 23 (0, 0)) (by (with_reducible repeat (first | refine blk_drewN ?_ _ | refine blk_drew ?_ | refine blk_alloc ?_ _)); exact BK476.out) hb)
            have n4_ := Aside0.mk (blk_below (g := gb477) (o := .cells #[.int .i64 a2_0, .int .i64 a2_1, .int .i64 a2_2] 23 (0, 0)) (by (with_reducible repeat (first | refine blk_drewN ?_ _ | refine blk_drew ?_ | refine blk_alloc ?_ _)); exact BK477.out) hb)
            have n5_ := Aside0.mk (below_step (by repeat (first | (with_reducible first | exact HB.out | apply below_alloc | apply pw_below_drewN | apply below_drew1 | refine below_set ?_ GE475.out | refine below_set ?_ GE476.out | refine below_set ?_ GE477.out) | exact HB.out)) hb)
            clear HO484
            clear HO488
            clear BK475
            clear BK476
            clear BK477
            clear HB
            have HO484 := n0_
            have HO488 := n1_
            have BK475 := n2_
            have BK476 := n3_
            have BK477 := n4_
            have HB := n5_
            clear n0_ n1_ n2_ n3_ n4_ n5_
            (try clear hb)
            (try clear hb2)
            (try clear hk)
            (try clear hi)
            refine hK.out _ _ ⟨v483, .slice Ao29 y486.length co29, (by rw [ha.out]; exact putSel_upk 30 hb_ rfl rfl rfl), (by (with_reducible repeat (first | refine blk_drewN ?_ _ | refine blk_drew ?_ | refine blk_alloc ?_ _)); exact BK475.out), (by (with_reducible repeat (first | refine blk_drewN ?_ _ | refine blk_drew ?_ | refine blk_alloc ?_ _)); exact BK476.out), (by (with_reducible repeat (first | refine blk_drewN ?_ _ | refine blk_drew ?_ | refine blk_alloc ?_ _)); exact BK477.out), (by repeat (first | (with_reducible first | exact HB.out | apply below_alloc | apply pw_below_drewN | apply below_drew1 | refine below_set ?_ GE475.out | refine below_set ?_ GE476.out | refine below_set ?_ GE477.out) | exact HB.out)), fun _ => (by (with_reducible repeat (first | apply Kd.R_alloc | apply Kd.R_drewN | apply Kd.R_drew)); exact HO484.out), fun _ => (by (with_reducible repeat (first | apply Kd.R_alloc | apply Kd.R_drewN | apply Kd.R_drew)); exact HO488.out)⟩
          refine steps_cons ?_ ?_
          · rintro b a w' ⟨v483, v487, ha, Q_BK475, Q_BK476, Q_BK477, Q_HB, Q_HO484, Q_HO488⟩ hb_ hon hoff
            refine ⟨_, rfl, fun K hK => ?_⟩
            have e32 : a.tmps[32]? = some (.bool t485) := by rw [ha]; exact putSel_on (e := (25, 32, .bool t485)) 25 rfl rfl (hon 25 (by kernel_rfl)) rfl
            have e37 : a.tmps[37]? = some (.bool t489) := by rw [ha]; exact putSel_on (e := (30, 37, .bool t489)) 30 rfl rfl (hon 30 (by kernel_rfl)) rfl
            have e27 : a.tmps[27]? = some (.bool (t480 == t481)) := by rw [ha]; exact putSel_on (e := (20, 27, .bool (t480 == t481))) 20 rfl rfl (hon 20 (by kernel_rfl)) rfl
            replace ha := Aside0.mk ha
            have BK475 := Aside0.mk Q_BK475
            have BK476 := Aside0.mk Q_BK476
            have BK477 := Aside0.mk Q_BK477
            have HB := Aside0.mk Q_HB
            have HO484 := Aside0.mk (Q_HO484 (hon 24 (by kernel_rfl)))
            have HO488 := Aside0.mk (Q_HO488 (hon 29 (by kernel_rfl)))
            refine value_ (w1 := w') (v := .bool (t485 == t489)) (wanted_on rfl rfl rfl (e27.trans (by first | rfl | (simp [*]; done)))) rfl ?_ ?_
            · go_simp
              (try simp only [i64_w])
              try rfl
            refine hK.out _ _ ⟨v483, v487, (by rw [ha.out]; exact putSel_upk 31 hb_ rfl rfl rfl), Q_BK475, Q_BK476, Q_BK477, Q_HB, Q_HO484, Q_HO488⟩
          refine steps_cons ?_ ?_
          · rintro b a w' ⟨v483, v487, ha, Q_BK475, Q_BK476, Q_BK477, Q_HB, Q_HO484, Q_HO488⟩ hb_ hon hoff
            refine ⟨_, rfl, fun K hK => ?_⟩
            have e27 : a.tmps[27]? = some (.bool (t480 == t481)) := by rw [ha]; exact putSel_on (e := (20, 27, .bool (t480 == t481))) 20 rfl rfl (hon 20 (by kernel_rfl)) rfl
            have e38 : a.tmps[38]? = some (.bool (t485 == t489)) := by rw [ha]; exact putSel_on (e := (31, 38, .bool (t485 == t489))) 31 rfl rfl (hon 31 (by kernel_rfl)) rfl
            replace ha := Aside0.mk ha
            have BK475 := Aside0.mk Q_BK475
            have BK476 := Aside0.mk Q_BK476
            have BK477 := Aside0.mk Q_BK477
            have HB := Aside0.mk Q_HB
            have HO484 := Aside0.mk (Q_HO484 (hon 24 (by kernel_rfl)))
            have HO488 := Aside0.mk (Q_HO488 (hon 29 (by kernel_rfl)))
            refine value_ (w1 := w') (v := .bool (t485 == t489)) (by rfl) rfl ?_ ?_
            · go_simp
              (try simp only [i64_w])
              try rfl
            refine hK.out _ _ ⟨v483, v487, (by rw [ha.out]; exact putSel_upk 32 hb_ rfl rfl rfl), Q_BK475, Q_BK476, Q_BK477, Q_HB, Q_HO484, Q_HO488⟩
          refine steps_cons ?_ ?_
          · rintro b a w' ⟨v483, v487, ha, Q_BK475, Q_BK476, Q_BK477, Q_HB, Q_HO484, Q_HO488⟩ hb_ hon hoff
            refine ⟨_, rfl, fun K hK => ?_⟩
            have e39 : a.tmps[39]? = some (.bool (t485 == t489)) := by rw [ha]; exact putSel_on (e := (32, 39, .bool (t485 == t489))) 32 rfl rfl (hon 32 (by kernel_rfl)) rfl
            replace ha := Aside0.mk ha
            have BK475 := Aside0.mk Q_BK475
            have BK476 := Aside0.mk Q_BK476
            have BK477 := Aside0.mk Q_BK477
            have HB := Aside0.mk Q_HB
            have HO484 := Aside0.mk (Q_HO484 (hon 24 (by kernel_rfl)))
            have HO488 := Aside0.mk (Q_HO488 (hon 29 (by kernel_rfl)))
            refine value_ (w1 := w') (v := .bool (t485 == t489)) (by rfl) rfl ?_ ?_
            · go_simp
              (try simp only [i64_w])
              try rfl
            refine hK.out _ _ ⟨v483, v487, (by rw [ha.out]; exact putSel_upk 33 hb_ rfl rfl rfl), Q_BK475, Q_BK476, Q_BK477, Q_HB, Q_HO484, Q_HO488⟩
          refine steps_cons ?_ ?_
          · rintro b a w' ⟨v483, v487, ha, Q_BK475, Q_BK476, Q_BK477, Q_HB, Q_HO484, Q_HO488⟩ hb_ hon hoff
            refine ⟨_, rfl, fun K hK => ?_⟩
            have e40 : a.tmps[40]? = some (.bool (t485 == t489)) := by rw [ha]; exact putSel_on (e := (33, 40, .bool (t485 == t489))) 33 rfl rfl (hon 33 (by kernel_rfl)) rfl
            replace ha := Aside0.mk ha
            have BK475 := Aside0.mk Q_BK475
            have BK476 := Aside0.mk Q_BK476
            have BK477 := Aside0.mk Q_BK477
            have HB := Aside0.mk Q_HB
            have HO484 := Aside0.mk (Q_HO484 (hon 24 (by kernel_rfl)))
            have HO488 := Aside0.mk (Q_HO488 (hon 29 (by kernel_rfl)))
            refine goes_ Try.func13 (by kernel_rfl) rfl #[] (by first | rfl | exact (wanted_on rfl rfl rfl (e40.trans (by first | rfl | (simp [*]; done))))) rfl rfl (by first | (simp only [List.map_toArray, List.map_cons, List.map_nil, Act.eval, Array.getD_eq_getD_getElem?, Option.getD_some, e40]; done) | (simp only [List.map_toArray, List.map_cons, List.map_nil, Act.eval, Array.getD_eq_getD_getElem?, Option.getD_some, e40]; rfl)) ?_
            with_reducible refine (lapidarylaw09_known.calls k  t490 _ A13.out).mono ?_
            rintro e w31 ⟨rfl, hb⟩
            refine ⟨_, rfl, ?_⟩
            have n0_ := Aside0.mk (Kd.R_below (by (with_reducible repeat (first | apply Kd.R_alloc | apply Kd.R_drewN | apply Kd.R_drew)); exact HO484.out) hb)
            have n1_ := Aside0.mk (Kd.R_below (by (with_reducible repeat (first | apply Kd.R_alloc | apply Kd.R_drewN | apply Kd.R_drew)); exact HO488.out) hb)
            have n2_ := Aside0.mk (blk_below (g := gb475) (o := .cells #[.int .i64 a0_0, .int .i64 a0_1, .int .i64 a0_2] 23 (0, 0)) (by (with_reducible repeat (first | refine blk_drewN ?_ _ | refine blk_drew ?_ | refine blk_alloc ?_ _)); exact BK475.out) hb)
            have n3_ := Aside0.mk (blk_below (g := gb476) (o := .cells #[.int .i64 a1_0, .int .i64 a1_1, .int .i64 a1_2] 23 (0, 0)) (by (with_reducible repeat (first | refine blk_drewN ?_ _ | refine blk_drew ?_ | refine blk_alloc ?_ _)); exact BK476.out) hb)
            have n4_ := Aside0.mk (blk_below (g := gb477) (o := .cells #[.int .i64 a2_0, .int .i64 a2_1, .int .i64 a2_2] 23 (0, 0)) (by (with_reducible repeat (first | refine blk_drewN ?_ _ | refine blk_drew ?_ | refine blk_alloc ?_ _)); exact BK477.out) hb)
            have n5_ := Aside0.mk (below_step (by repeat (first | (with_reducible first | exact HB.out | apply below_alloc | apply pw_below_drewN | apply below_drew1 | refine below_set ?_ GE475.out | refine below_set ?_ GE476.out | refine below_set ?_ GE477.out) | exact HB.out)) hb)
            clear HO484
            clear HO488
            clear BK475
            clear BK476
            clear BK477
            clear HB
            have HO484 := n0_
            have HO488 := n1_
            have BK475 := n2_
            have BK476 := n3_
            have BK477 := n4_
            have HB := n5_
            clear n0_ n1_ n2_ n3_ n4_ n5_
            (try clear hb)
            (try clear hb2)
            (try clear hk)
            (try clear hi)
            refine hK.out _ _ ⟨v483, v487, (by rw [ha.out]; exact putSel_upk 34 hb_ rfl rfl rfl), (by (with_reducible repeat (first | refine blk_drewN ?_ _ | refine blk_drew ?_ | refine blk_alloc ?_ _)); exact BK475.out), (by (with_reducible repeat (first | refine blk_drewN ?_ _ | refine blk_drew ?_ | refine blk_alloc ?_ _)); exact BK476.out), (by (with_reducible repeat (first | refine blk_drewN ?_ _ | refine blk_drew ?_ | refine blk_alloc ?_ _)); exact BK477.out), (by repeat (first | (with_reducible first | exact HB.out | apply below_alloc | apply pw_below_drewN | apply below_drew1 | refine below_set ?_ GE475.out | refine below_set ?_ GE476.out | refine below_set ?_ GE477.out) | exact HB.out)), fun _ => (by (with_reducible repeat (first | apply Kd.R_alloc | apply Kd.R_drewN | apply Kd.R_drew)); exact HO484.out), fun _ => (by (with_reducible repeat (first | apply Kd.R_alloc | apply Kd.R_drewN | apply Kd.R_drew)); exact HO488.out)⟩
          refine steps_cons ?_ ?_
          · rintro b a w' ⟨v483, v487, ha, Q_BK475, Q_BK476, Q_BK477, Q_HB, Q_HO484, Q_HO488⟩ hb_ hon hoff
            refine ⟨_, rfl, fun K hK => ?_⟩
            have e40 : a.tmps[40]? = some (.bool (t485 == t489)) := by rw [ha]; exact putSel_on (e := (33, 40, .bool (t485 == t489))) 33 rfl rfl (hon 33 (by kernel_rfl)) rfl
            have e41 : a.tmps[41]? = some (.bool t490) := by rw [ha]; exact putSel_on (e := (34, 41, .bool t490)) 34 rfl rfl (hon 34 (by kernel_rfl)) rfl
            replace ha := Aside0.mk ha
            have BK475 := Aside0.mk Q_BK475
            have BK476 := Aside0.mk Q_BK476
            have BK477 := Aside0.mk Q_BK477
            have HB := Aside0.mk Q_HB
            have HO484 := Aside0.mk (Q_HO484 (hon 24 (by kernel_rfl)))
            have HO488 := Aside0.mk (Q_HO488 (hon 29 (by kernel_rfl)))
            refine value_ (w1 := w') (v := .bool t490) (by rfl) rfl ?_ ?_
            · go_simp
              (try simp only [i64_w])
              try rfl
            refine hK.out _ _ ⟨v483, v487, (by rw [ha.out]; exact putSel_upk 35 hb_ rfl rfl rfl), Q_BK475, Q_BK476, Q_BK477, Q_HB, Q_HO484, Q_HO488⟩
          refine steps_cons ?_ ?_
          · rintro b a w' ⟨v483, v487, ha, Q_BK475, Q_BK476, Q_BK477, Q_HB, Q_HO484, Q_HO488⟩ hb_ hon hoff
            refine ⟨_, rfl, fun K hK => ?_⟩
            have e42 : a.tmps[42]? = some (.bool t490) := by rw [ha]; exact putSel_on (e := (35, 42, .bool t490)) 35 rfl rfl (hon 35 (by kernel_rfl)) rfl
            replace ha := Aside0.mk ha
            have BK475 := Aside0.mk Q_BK475
            have BK476 := Aside0.mk Q_BK476
            have BK477 := Aside0.mk Q_BK477
            have HB := Aside0.mk Q_HB
            have HO484 := Aside0.mk (Q_HO484 (hon 24 (by kernel_rfl)))
            have HO488 := Aside0.mk (Q_HO488 (hon 29 (by kernel_rfl)))
            refine value_ (w1 := w') (v := .bool t490) (by rfl) rfl ?_ ?_
            · go_simp
              (try simp only [i64_w])
              try rfl
            refine hK.out _ _ ⟨v483, v487, (by rw [ha.out]; exact putSel_upk 36 hb_ rfl rfl rfl), Q_BK475, Q_BK476, Q_BK477, Q_HB, Q_HO484, Q_HO488⟩
          exact steps_nil
        rintro b a w31 hall ⟨v483, v487, ha, Q_BK475, Q_BK476, Q_BK477, Q_HB, Q_HO484, Q_HO488⟩
        clear BK475 BK476 BK477 HB
        have hb0_ := hall 0 (by kernel_rfl)
        have hb1_ := hall 1 (by kernel_rfl)
        have hb2_ := hall 2 (by kernel_rfl)
        have hb3_ := hall 3 (by kernel_rfl)
        have hb4_ := hall 4 (by kernel_rfl)
        have hb5_ := hall 5 (by kernel_rfl)
        have hb6_ := hall 6 (by kernel_rfl)
        have hb7_ := hall 7 (by kernel_rfl)
        have hb8_ := hall 8 (by kernel_rfl)
        have hb9_ := hall 9 (by kernel_rfl)
        have hb10_ := hall 10 (by kernel_rfl)
        have hb11_ := hall 11 (by kernel_rfl)
        have hb12_ := hall 12 (by kernel_rfl)
        have hb13_ := hall 13 (by kernel_rfl)
        have hb14_ := hall 14 (by kernel_rfl)
        have hb15_ := hall 15 (by kernel_rfl)
        have hb16_ := hall 16 (by kernel_rfl)
        have hb17_ := hall 17 (by kernel_rfl)
        have hb18_ := hall 18 (by kernel_rfl)
        have hb19_ := hall 19 (by kernel_rfl)
        have hb20_ := hall 20 (by kernel_rfl)
        have hb21_ := hall 21 (by kernel_rfl)
        have hb22_ := hall 22 (by kernel_rfl)
        have hb23_ := hall 23 (by kernel_rfl)
        have hb24_ := hall 24 (by kernel_rfl)
        have hb25_ := hall 25 (by kernel_rfl)
        have hb26_ := hall 26 (by kernel_rfl)
        have hb27_ := hall 27 (by kernel_rfl)
        have hb28_ := hall 28 (by kernel_rfl)
        have hb29_ := hall 29 (by kernel_rfl)
        have hb30_ := hall 30 (by kernel_rfl)
        have hb31_ := hall 31 (by kernel_rfl)
        have hb32_ := hall 32 (by kernel_rfl)
        have hb33_ := hall 33 (by kernel_rfl)
        have hb34_ := hall 34 (by kernel_rfl)
        have hb35_ := hall 35 (by kernel_rfl)
        have hb36_ := hall 36 (by kernel_rfl)
        subst ha
        simp only [putSel, hb0_, hb1_, hb2_, hb3_, hb4_, hb5_, hb6_, hb7_, hb8_, hb9_, hb10_, hb11_, hb12_, hb13_, hb14_, hb15_, hb16_, hb17_, hb18_, hb19_, hb20_, hb21_, hb22_, hb23_, hb24_, hb25_, hb26_, hb27_, hb28_, hb29_, hb30_, hb31_, hb32_, hb33_, hb34_, hb35_, hb36_, if_true, Act.put, List.setIfInBounds_toArray, List.set_cons_zero, List.set_cons_succ]
        have BK475 := Aside0.mk Q_BK475
        clear Q_BK475
        have BK476 := Aside0.mk Q_BK476
        clear Q_BK476
        have BK477 := Aside0.mk Q_BK477
        clear Q_BK477
        have HB := Aside0.mk Q_HB
        clear Q_HB
        have HO484 := Aside0.mk (Q_HO484 hb24_)
        clear Q_HO484
        have HO488 := Aside0.mk (Q_HO488 hb29_)
        clear Q_HO488
        clear hall hb0_ hb1_ hb2_ hb3_ hb4_ hb5_ hb6_ hb7_ hb8_ hb9_ hb10_ hb11_ hb12_ hb13_ hb14_ hb15_ hb16_ hb17_ hb18_ hb19_ hb20_ hb21_ hb22_ hb23_ hb24_ hb25_ hb26_ hb27_ hb28_ hb29_ hb30_ hb31_ hb32_ hb33_ hb34_ hb35_ hb36_
        try go_wp2
        go_ret
        exact ⟨by first | rfl | (simp [errW_none, errW_some] <;> rfl) | (simp [*, errW_none, errW_some] <;> rfl), by repeat (first | (with_reducible first | exact HB.out | apply below_alloc | apply pw_below_drewN | apply below_drew1 | refine below_set ?_ GE475.out | refine below_set ?_ GE476.out | refine below_set ?_ GE477.out) | exact HB.out)⟩
      · rw [if_neg c12] at H
        exact absurd H (by simp)
    · rw [if_neg c9] at H
      exact absurd H (by simp)
  · rw [if_neg c6] at H
    exact absurd H (by simp)

end Go.Proofs.Ytlnjbpapbifjfaa.P
