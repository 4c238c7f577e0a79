/- Written for this claim by a program of this session (a turned copy of the print): Go functions as Lean functions, and that the Go code comes to just these answers; or a statement proved out of them. No condition. -/
import Derived.Test.YtaaeaihmhdlpfaaPx0
import Derived.Test.YtaaeaihmhdlpfaaPx8
import Derived.Test.YtaaeaihmhdlpfaaPx10
import Derived.Test.YtaaeaihmhdlpfaaPx20
namespace Go.Proofs.Ytaaeaihmhdlpfaa.P
open Go.RowKit Go.Proofs.YtaaeaihmhdlpfaaW.PrintWords Go.Proofs.YtaaeaihmhdlpfaaW.PrintLast Go.Proofs.YtaaeaihmhdlpfaaW.PrintMore Go.Proofs.Ytaaeaihmhdlpfaa.X
attribute [local go_sem] max2_int min2_int max_two min_two max_three min_three max_four min_four add64_0 add64_1 add64   -- for this text's walks alone
set_option linter.unusedVariables false
set_option linter.unusedSimpArgs false

/-! ### lapidarylaw08_WideInts: function 9 -/
def lapidarylaw08_WideInts.f (k : Nat) (a0 : Int) (a1 : Int) : Option (Bool) := (wide_Of.f a0).bind fun bt400 => ((wide_Int.f bt400.1 bt400.2).bind fun bt402 => ((wide_Int.f a1 (IntKind.u64.wrap (a0))).bind fun bt405 => (if a1 = 0 then (if a0 ≥ 0 then (if bt402.1 = a0 then (if bt402.2 = true then (if (bt405.2 == true) = true then (if bt405.2 = true then (if bt405.1 = a0 then ((lapidarylaw08_known.f k).bind fun t407 => (some t407)) else (none)) else (if bt405.1 = 0 then ((lapidarylaw08_known.f k).bind fun t408 => (some t408)) else (none))) else (none)) else (none)) else (none)) else (if a1 = (-1) then (if bt402.1 = a0 then (if bt402.2 = true then (if (bt405.2 == (decide (a0 < 0))) = true then (if bt405.2 = true then (if bt405.1 = a0 then ((lapidarylaw08_known.f k).bind fun t409 => (some t409)) else (none)) else (if bt405.1 = 0 then ((lapidarylaw08_known.f k).bind fun t410 => (some t410)) else (none))) else (none)) else (none)) else (none)) else (if bt402.1 = a0 then (if bt402.2 = true then (if (bt405.2 == false) = true then (if bt405.2 = true then (if bt405.1 = a0 then ((lapidarylaw08_known.f k).bind fun t411 => (some t411)) else (none)) else (if bt405.1 = 0 then ((lapidarylaw08_known.f k).bind fun t412 => (some t412)) else (none))) else (none)) else (none)) else (none)))) else (if a1 = (-1) then (if bt402.1 = a0 then (if bt402.2 = true then (if (bt405.2 == (decide (a0 < 0))) = true then (if bt405.2 = true then (if bt405.1 = a0 then ((lapidarylaw08_known.f k).bind fun t413 => (some t413)) else (none)) else (if bt405.1 = 0 then ((lapidarylaw08_known.f k).bind fun t414 => (some t414)) else (none))) else (none)) else (none)) else (none)) else (if bt402.1 = a0 then (if bt402.2 = true then (if (bt405.2 == false) = true then (if bt405.2 = true then (if bt405.1 = a0 then ((lapidarylaw08_known.f k).bind fun t415 => (some t415)) else (none)) else (if bt405.1 = 0 then ((lapidarylaw08_known.f k).bind fun t416 => (some t416)) else (none))) else (none)) else (none)) else (none))))))
theorem lapidarylaw08_WideInts.mono : ∀ a0 a1 k, LeO (lapidarylaw08_WideInts.f k a0 a1) (lapidarylaw08_WideInts.f (k + 1) a0 a1) := by
  intro a0 a1 k
  unfold lapidarylaw08_WideInts.f
  repeat' first
      | (with_reducible exact lapidarylaw08_known.mono _)
      | (with_reducible exact LeO.refl _)
      | (with_reducible exact LeO.none _)
      | (with_reducible refine LeO.ite ?_ ?_)
      | (with_reducible refine LeO.bind ?_ (fun _ => ?_))
      | exact lapidarylaw08_known.mono _
      | exact LeO.none _
      | refine LeO.ite ?_ ?_
      | refine LeO.bind ?_ (fun _ => ?_)
set_option maxHeartbeats 8000000 in
set_option maxRecDepth 100000 in
theorem lapidarylaw08_WideInts.calls (k : Nat) (a0 : Int) (a1 : Int) (r : Bool) (w : World) (h : lapidarylaw08_WideInts.f k a0 a1 = some r) :
    Calls Try.prog 9 #[.int .i64 a0, .int .i64 a1] w fun e w' => e = .returned (.bool r) ∧ Below w.heap.size w w' := by
  have hu25 := Try.underlying25
  have HB := Aside0.mk (Below.refl w.heap.size w)
  have H : ((wide_Of.f a0).bind fun bt400 => ((wide_Int.f bt400.1 bt400.2).bind fun bt402 => ((wide_Int.f a1 (IntKind.u64.wrap (a0))).bind fun bt405 => (if a1 = 0 then (if a0 ≥ 0 then (if bt402.1 = a0 then (if bt402.2 = true then (if (bt405.2 == true) = true then (if bt405.2 = true then (if bt405.1 = a0 then ((lapidarylaw08_known.f k).bind fun t407 => (some t407)) else (none)) else (if bt405.1 = 0 then ((lapidarylaw08_known.f k).bind fun t408 => (some t408)) else (none))) else (none)) else (none)) else (none)) else (if a1 = (-1) then (if bt402.1 = a0 then (if bt402.2 = true then (if (bt405.2 == (decide (a0 < 0))) = true then (if bt405.2 = true then (if bt405.1 = a0 then ((lapidarylaw08_known.f k).bind fun t409 => (some t409)) else (none)) else (if bt405.1 = 0 then ((lapidarylaw08_known.f k).bind fun t410 => (some t410)) else (none))) else (none)) else (none)) else (none)) else (if bt402.1 = a0 then (if bt402.2 = true then (if (bt405.2 == false) = true then (if bt405.2 = true then (if bt405.1 = a0 then ((lapidarylaw08_known.f k).bind fun t411 => (some t411)) else (none)) else (if bt405.1 = 0 then ((lapidarylaw08_known.f k).bind fun t412 => (some t412)) else (none))) else (none)) else (none)) else (none)))) else (if a1 = (-1) then (if bt402.1 = a0 then (if bt402.2 = true then (if (bt405.2 == (decide (a0 < 0))) = true then (if bt405.2 = true then (if bt405.1 = a0 then ((lapidarylaw08_known.f k).bind fun t413 => (some t413)) else (none)) else (if bt405.1 = 0 then ((lapidarylaw08_known.f k).bind fun t414 => (some t414)) else (none))) else (none)) else (none)) else (none)) else (if bt402.1 = a0 then (if bt402.2 = true then (if (bt405.2 == false) = true then (if bt405.2 = true then (if bt405.1 = a0 then ((lapidarylaw08_known.f k).bind fun t415 => (some t415)) else (none)) else (if bt405.1 = 0 then ((lapidarylaw08_known.f k).bind fun t416 => (some t416)) else (none))) else (none)) else (none)) else (none))))))) = some r := h
  clear h
  replace H := Option.bind_eq_some_iff.mp H
  obtain ⟨⟨t400, t401⟩, A30, H⟩ := H
  replace H : ((wide_Int.f t400 t401).bind fun bt402 => ((wide_Int.f a1 (IntKind.u64.wrap (a0))).bind fun bt405 => (if a1 = 0 then (if a0 ≥ 0 then (if bt402.1 = a0 then (if bt402.2 = true then (if (bt405.2 == true) = true then (if bt405.2 = true then (if bt405.1 = a0 then ((lapidarylaw08_known.f k).bind fun t407 => (some t407)) else (none)) else (if bt405.1 = 0 then ((lapidarylaw08_known.f k).bind fun t408 => (some t408)) else (none))) else (none)) else (none)) else (none)) else (if a1 = (-1) then (if bt402.1 = a0 then (if bt402.2 = true then (if (bt405.2 == (decide (a0 < 0))) = true then (if bt405.2 = true then (if bt405.1 = a0 then ((lapidarylaw08_known.f k).bind fun t409 => (some t409)) else (none)) else (if bt405.1 = 0 then ((lapidarylaw08_known.f k).bind fun t410 => (some t410)) else (none))) else (none)) else (none)) else (none)) else (if bt402.1 = a0 then (if bt402.2 = true then (if (bt405.2 == false) = true then (if bt405.2 = true then (if bt405.1 = a0 then ((lapidarylaw08_known.f k).bind fun t411 => (some t411)) else (none)) else (if bt405.1 = 0 then ((lapidarylaw08_known.f k).bind fun t412 => (some t412)) else (none))) else (none)) else (none)) else (none)))) else (if a1 = (-1) then (if bt402.1 = a0 then (if bt402.2 = true then (if (bt405.2 == (decide (a0 < 0))) = true then (if bt405.2 = true then (if bt405.1 = a0 then ((lapidarylaw08_known.f k).bind fun t413 => (some t413)) else (none)) else (if bt405.1 = 0 then ((lapidarylaw08_known.f k).bind fun t414 => (some t414)) else (none))) else (none)) else (none)) else (none)) else (if bt402.1 = a0 then (if bt402.2 = true then (if (bt405.2 == false) = true then (if bt405.2 = true then (if bt405.1 = a0 then ((lapidarylaw08_known.f k).bind fun t415 => (some t415)) else (none)) else (if bt405.1 = 0 then ((lapidarylaw08_known.f k).bind fun t416 => (some t416)) else (none))) else (none)) else (none)) else (none)))))) = some r := H
  have A3 := Aside0.mk A30
  clear A30
  replace H := Option.bind_eq_some_iff.mp H
  obtain ⟨⟨t402, t403⟩, A40, H⟩ := H
  replace H : ((wide_Int.f a1 (IntKind.u64.wrap (a0))).bind fun bt405 => (if a1 = 0 then (if a0 ≥ 0 then (if t402 = a0 then (if t403 = true then (if (bt405.2 == true) = true then (if bt405.2 = true then (if bt405.1 = a0 then ((lapidarylaw08_known.f k).bind fun t407 => (some t407)) else (none)) else (if bt405.1 = 0 then ((lapidarylaw08_known.f k).bind fun t408 => (some t408)) else (none))) else (none)) else (none)) else (none)) else (if a1 = (-1) then (if t402 = a0 then (if t403 = true then (if (bt405.2 == (decide (a0 < 0))) = true then (if bt405.2 = true then (if bt405.1 = a0 then ((lapidarylaw08_known.f k).bind fun t409 => (some t409)) else (none)) else (if bt405.1 = 0 then ((lapidarylaw08_known.f k).bind fun t410 => (some t410)) else (none))) else (none)) else (none)) else (none)) else (if t402 = a0 then (if t403 = true then (if (bt405.2 == false) = true then (if bt405.2 = true then (if bt405.1 = a0 then ((lapidarylaw08_known.f k).bind fun t411 => (some t411)) else (none)) else (if bt405.1 = 0 then ((lapidarylaw08_known.f k).bind fun t412 => (some t412)) else (none))) else (none)) else (none)) else (none)))) else (if a1 = (-1) then (if t402 = a0 then (if t403 = true then (if (bt405.2 == (decide (a0 < 0))) = true then (if bt405.2 = true then (if bt405.1 = a0 then ((lapidarylaw08_known.f k).bind fun t413 => (some t413)) else (none)) else (if bt405.1 = 0 then ((lapidarylaw08_known.f k).bind fun t414 => (some t414)) else (none))) else (none)) else (none)) else (none)) else (if t402 = a0 then (if t403 = true then (if (bt405.2 == false) = true then (if bt405.2 = true then (if bt405.1 = a0 then ((lapidarylaw08_known.f k).bind fun t415 => (some t415)) else (none)) else (if bt405.1 = 0 then ((lapidarylaw08_known.f k).bind fun t416 => (some t416)) else (none))) else (none)) else (none)) else (none))))) = some r := H
  have A4 := Aside0.mk A40
  clear A40
  replace H := Option.bind_eq_some_iff.mp H
  obtain ⟨⟨t405, t406⟩, A50, H⟩ := H
  replace H : (if a1 = 0 then (if a0 ≥ 0 then (if t402 = a0 then (if t403 = true then (if (t406 == true) = true then (if t406 = true then (if t405 = a0 then ((lapidarylaw08_known.f k).bind fun t407 => (some t407)) else (none)) else (if t405 = 0 then ((lapidarylaw08_known.f k).bind fun t408 => (some t408)) else (none))) else (none)) else (none)) else (none)) else (if a1 = (-1) then (if t402 = a0 then (if t403 = true then (if (t406 == (decide (a0 < 0))) = true then (if t406 = true then (if t405 = a0 then ((lapidarylaw08_known.f k).bind fun t409 => (some t409)) else (none)) else (if t405 = 0 then ((lapidarylaw08_known.f k).bind fun t410 => (some t410)) else (none))) else (none)) else (none)) else (none)) else (if t402 = a0 then (if t403 = true then (if (t406 == false) = true then (if t406 = true then (if t405 = a0 then ((lapidarylaw08_known.f k).bind fun t411 => (some t411)) else (none)) else (if t405 = 0 then ((lapidarylaw08_known.f k).bind fun t412 => (some t412)) else (none))) else (none)) else (none)) else (none)))) else (if a1 = (-1) then (if t402 = a0 then (if t403 = true then (if (t406 == (decide (a0 < 0))) = true then (if t406 = true then (if t405 = a0 then ((lapidarylaw08_known.f k).bind fun t413 => (some t413)) else (none)) else (if t405 = 0 then ((lapidarylaw08_known.f k).bind fun t414 => (some t414)) else (none))) else (none)) else (none)) else (none)) else (if t402 = a0 then (if t403 = true then (if (t406 == false) = true then (if t406 = true then (if t405 = a0 then ((lapidarylaw08_known.f k).bind fun t415 => (some t415)) else (none)) else (if t405 = 0 then ((lapidarylaw08_known.f k).bind fun t416 => (some t416)) else (none))) else (none)) else (none)) else (none)))) = some r := H
  have A5 := Aside0.mk A50
  clear A50
  by_cases c6 : a1 = 0
  · rw [if_pos c6] at H
    have c6b0 : (a1 == 0) = true := beq_iff_eq.mpr c6
    have c6b1 : (a1 != 0) = false := bne_eq_false_iff_eq.mpr c6
    clear c6
    by_cases c7 : a0 ≥ 0
    · rw [if_pos c7] at H
      have c7b0 : decide (0 ≤ a0) = true := decide_eq_true c7
      clear c7
      by_cases c8 : t402 = a0
      · rw [if_pos c8] at H
        have c8b0 : (t402 == a0) = true := beq_iff_eq.mpr c8
        have c8b1 : (t402 != a0) = false := bne_eq_false_iff_eq.mpr c8
        clear c8
        by_cases c9 : t403 = true
        · subst c9
          have H1 : (if (t406 == true) = true then (if t406 = true then (if t405 = a0 then ((lapidarylaw08_known.f k).bind fun t407 => (some t407)) else (none)) else (if t405 = 0 then ((lapidarylaw08_known.f k).bind fun t408 => (some t408)) else (none))) else (none)) = some r := by rw [if_pos rfl] at H; exact H
          clear H
          have H := H1
          clear H1
          by_cases c10 : (t406 == true) = true
          · rw [if_pos c10] at H
            have c10b0 : (t406 == true) = true := c10
            (try (have c10b1 : decide (t406 = true) = true := by simpa using c10))
            (try (have c10b2 : (t406 == true) = true := by simpa using c10))
            clear c10
            by_cases c11 : t406 = true
            · subst c11
              have H1 : (if t405 = a0 then ((lapidarylaw08_known.f k).bind fun t407 => (some t407)) else (none)) = some r := by rw [if_pos rfl] at H; exact H
              clear H
              have H := H1
              clear H1
              by_cases c12 : t405 = a0
              · rw [if_pos c12] at H
                have c12b0 : (t405 == a0) = true := beq_iff_eq.mpr c12
                have c12b1 : (t405 != a0) = false := bne_eq_false_iff_eq.mpr c12
                clear c12
                replace H := Option.bind_eq_some_iff.mp H
                obtain ⟨t407, A130, H⟩ := H
                replace H : (some t407) = some r := H
                have A13 := Aside0.mk A130
                clear A130
                obtain rfl := Option.some.inj H
                go_enter Try.func9, Try.ntmps9
                go_wp2_with (first | ((with_reducible refine gate_callee (f := 15) rfl ?_); refine goesL_ (some 13) rfl rfl Try.func15 (by kernel_rfl) rfl #[.int .i64 a0] rfl (by (try simp only [List.map_toArray, List.map_cons, List.map_nil]); first | done | rfl | (simp only [List.length_drop, List.length_take]; rfl)) ?_; (with_reducible refine (wide_Of.calls a0 t400 t401 _ A3.out).mono ?_); rintro e w14 ⟨rfl, hb⟩; refine ⟨_, rfl, ?_⟩; have n0_ := Aside0.mk (below_step (by repeat (first | (with_reducible first | exact HB.out | apply below_alloc | apply pw_below_drewN | apply below_drew1) | exact HB.out)) hb); clear HB; have HB := n0_; clear n0_; (try clear hb); (try clear hb2); (try clear hk); (try clear hi)) | ((with_reducible refine gate_callee (f := 27) rfl ?_); refine goesL_ (some 14) rfl rfl Try.func27 (by kernel_rfl) rfl #[.agg #[.int .i64 t400, .int .u64 t401]] rfl (by (try simp only [List.map_toArray, List.map_cons, List.map_nil]); first | done | rfl | (simp only [List.length_drop, List.length_take]; rfl)) ?_; (with_reducible refine (wide_Int.calls t400 t401 t402 true _ A4.out).mono ?_); rintro e w15 ⟨rfl, hb⟩; refine ⟨_, rfl, ?_⟩; have n0_ := Aside0.mk (below_step (by repeat (first | (with_reducible first | exact HB.out | apply below_alloc | apply pw_below_drewN | apply below_drew1) | exact HB.out)) hb); clear HB; have HB := n0_; clear n0_; (try clear hb); (try clear hb2); (try clear hk); (try clear hi)) | ((with_reducible refine gate_dst (N := 7) rfl ?_); refine box_event ?hg (N := 7) ?hd (cs := #[.int .i64 0, .int .u64 0]) (t := 25) ?hr ?_; (case hd => rfl); (case hg => rfl); (case hr => first | (go_simp; done) | (go_simp; rfl)); intro gb404 hg w16 hbox hb; have n0_ := Aside0.mk (below_step (by repeat (first | (with_reducible first | exact HB.out | apply below_alloc | apply pw_below_drewN | apply below_drew1) | exact HB.out)) hb); have n1_ := Aside0.mk (hbox); have n2_ := Aside0.mk ((by rw [hg]; exact (below_size (by repeat (first | (with_reducible first | exact HB.out | apply below_alloc | apply pw_below_drewN | apply below_drew1) | exact HB.out))) : w.heap.size ≤ gb404)); have n3_ := Aside0.mk ((by rw [hg]; exact (below_size (by repeat (first | (with_reducible first | exact HB.out | apply below_alloc | apply pw_below_drewN | apply below_drew1) | exact HB.out))) : w.heap.size ≤ gb404)); clear HB; have HB := n0_; have BK404 := n1_; have GW404 := n2_; have GE404 := n3_; clear n0_ n1_ n2_ n3_; clear hb hbox hg; have hcz17_0 : w16.cell? ⟨gb404, 0, none⟩ = some (.int .i64 0) := (blk_cell BK404.out 0).trans rfl; have hcz17_1 : w16.cell? ⟨gb404, 1, none⟩ = some (.int .u64 0) := (blk_cell BK404.out 1).trans rfl; have hfz17_0 := blk_frozen BK404.out 0; have hfz17_1 := blk_frozen BK404.out 1) | ((with_reducible refine gate_callee (f := 27) rfl ?_); refine goesL_ (some 23) rfl rfl Try.func27 (by kernel_rfl) rfl #[.agg #[.int .i64 a1, .int .u64 (IntKind.u64.wrap (a0))]] rfl (by (try simp only [List.map_toArray, List.map_cons, List.map_nil]); first | done | rfl | (simp only [List.length_drop, List.length_take]; rfl)) ?_; (with_reducible refine (wide_Int.calls a1 (IntKind.u64.wrap (a0)) t405 true _ A5.out).mono ?_); rintro e w18 ⟨rfl, hb⟩; refine ⟨_, rfl, ?_⟩; have n0_ := Aside0.mk (blk_below (g := gb404) (o := .cells #[.int .i64 a1, .int .u64 (IntKind.u64.wrap (a0))] 25 (0, 0)) (by (with_reducible repeat (first | refine blk_drewN ?_ _ | refine blk_drew ?_ | refine blk_alloc ?_ _)); refine blk_put (cs := #[.int .i64 a1, .int .u64 0]) ?_ 1 _ rfl; (with_reducible repeat (first | refine blk_drewN ?_ _ | refine blk_drew ?_ | refine blk_alloc ?_ _)); refine blk_put (cs := #[.int .i64 0, .int .u64 0]) ?_ 0 _ rfl; (with_reducible repeat (first | refine blk_drewN ?_ _ | refine blk_drew ?_ | refine blk_alloc ?_ _)); exact BK404.out) hb); have n1_ := Aside0.mk (below_step (by repeat (first | (with_reducible first | exact HB.out | apply below_alloc | apply pw_below_drewN | apply below_drew1 | refine below_set ?_ GE404.out) | exact HB.out)) hb); clear BK404; clear HB; have BK404 := n0_; have HB := n1_; clear n0_ n1_; (try clear hb); (try clear hb2); (try clear hk); (try clear hi)) | (go_at_call 16; (with_reducible refine (lapidarylaw08_known.calls k  t407 _ A13.out).mono ?_); rintro e w19 ⟨rfl, hb⟩; have n0_ := Aside0.mk (blk_below (g := gb404) (o := .cells #[.int .i64 a1, .int .u64 (IntKind.u64.wrap (a0))] 25 (0, 0)) (by (with_reducible repeat (first | refine blk_drewN ?_ _ | refine blk_drew ?_ | refine blk_alloc ?_ _)); exact BK404.out) hb); have n1_ := Aside0.mk (below_step (by repeat (first | (with_reducible first | exact HB.out | apply below_alloc | apply pw_below_drewN | apply below_drew1 | refine below_set ?_ GE404.out) | exact HB.out)) hb); clear BK404; clear HB; have BK404 := n0_; have HB := n1_; clear n0_ n1_; (try clear hb); (try clear hb2); (try clear hk); (try clear hi)))
                go_ret
                exact ⟨by first | rfl | (simp [errW_none, errW_some] <;> rfl) | (simp [*, errW_none, errW_some] <;> rfl), by repeat (first | (with_reducible first | exact HB.out | apply below_alloc | apply pw_below_drewN | apply below_drew1 | refine below_set ?_ GE404.out) | exact HB.out)⟩
              · rw [if_neg c12] at H
                exact absurd H (by simp)
            · replace c11 := Bool.eq_false_iff.mpr c11
              subst c11
              have H1 : (if t405 = 0 then ((lapidarylaw08_known.f k).bind fun t408 => (some t408)) else (none)) = some r := by rw [if_neg (show ¬ (false = true) by decide)] at H; exact H
              clear H
              have H := H1
              clear H1
              by_cases c20 : t405 = 0
              · rw [if_pos c20] at H
                have c20b0 : (t405 == 0) = true := beq_iff_eq.mpr c20
                have c20b1 : (t405 != 0) = false := bne_eq_false_iff_eq.mpr c20
                clear c20
                replace H := Option.bind_eq_some_iff.mp H
                obtain ⟨t408, A210, H⟩ := H
                replace H : (some t408) = some r := H
                have A21 := Aside0.mk A210
                clear A210
                obtain rfl := Option.some.inj H
                go_enter Try.func9, Try.ntmps9
                go_wp2_with (first | ((with_reducible refine gate_callee (f := 15) rfl ?_); refine goesL_ (some 13) rfl rfl Try.func15 (by kernel_rfl) rfl #[.int .i64 a0] rfl (by (try simp only [List.map_toArray, List.map_cons, List.map_nil]); first | done | rfl | (simp only [List.length_drop, List.length_take]; rfl)) ?_; (with_reducible refine (wide_Of.calls a0 t400 t401 _ A3.out).mono ?_); rintro e w22 ⟨rfl, hb⟩; refine ⟨_, rfl, ?_⟩; have n0_ := Aside0.mk (below_step (by repeat (first | (with_reducible first | exact HB.out | apply below_alloc | apply pw_below_drewN | apply below_drew1) | exact HB.out)) hb); clear HB; have HB := n0_; clear n0_; (try clear hb); (try clear hb2); (try clear hk); (try clear hi)) | ((with_reducible refine gate_callee (f := 27) rfl ?_); refine goesL_ (some 14) rfl rfl Try.func27 (by kernel_rfl) rfl #[.agg #[.int .i64 t400, .int .u64 t401]] rfl (by (try simp only [List.map_toArray, List.map_cons, List.map_nil]); first | done | rfl | (simp only [List.length_drop, List.length_take]; rfl)) ?_; (with_reducible refine (wide_Int.calls t400 t401 t402 true _ A4.out).mono ?_); rintro e w23 ⟨rfl, hb⟩; refine ⟨_, rfl, ?_⟩; have n0_ := Aside0.mk (below_step (by repeat (first | (with_reducible first | exact HB.out | apply below_alloc | apply pw_below_drewN | apply below_drew1) | exact HB.out)) hb); clear HB; have HB := n0_; clear n0_; (try clear hb); (try clear hb2); (try clear hk); (try clear hi)) | ((with_reducible refine gate_dst (N := 7) rfl ?_); refine box_event ?hg (N := 7) ?hd (cs := #[.int .i64 0, .int .u64 0]) (t := 25) ?hr ?_; (case hd => rfl); (case hg => rfl); (case hr => first | (go_simp; done) | (go_simp; rfl)); intro gb404 hg w24 hbox hb; have n0_ := Aside0.mk (below_step (by repeat (first | (with_reducible first | exact HB.out | apply below_alloc | apply pw_below_drewN | apply below_drew1) | exact HB.out)) hb); have n1_ := Aside0.mk (hbox); have n2_ := Aside0.mk ((by rw [hg]; exact (below_size (by repeat (first | (with_reducible first | exact HB.out | apply below_alloc | apply pw_below_drewN | apply below_drew1) | exact HB.out))) : w.heap.size ≤ gb404)); have n3_ := Aside0.mk ((by rw [hg]; exact (below_size (by repeat (first | (with_reducible first | exact HB.out | apply below_alloc | apply pw_below_drewN | apply below_drew1) | exact HB.out))) : w.heap.size ≤ gb404)); clear HB; have HB := n0_; have BK404 := n1_; have GW404 := n2_; have GE404 := n3_; clear n0_ n1_ n2_ n3_; clear hb hbox hg; have hcz25_0 : w24.cell? ⟨gb404, 0, none⟩ = some (.int .i64 0) := (blk_cell BK404.out 0).trans rfl; have hcz25_1 : w24.cell? ⟨gb404, 1, none⟩ = some (.int .u64 0) := (blk_cell BK404.out 1).trans rfl; have hfz25_0 := blk_frozen BK404.out 0; have hfz25_1 := blk_frozen BK404.out 1) | ((with_reducible refine gate_callee (f := 27) rfl ?_); refine goesL_ (some 23) rfl rfl Try.func27 (by kernel_rfl) rfl #[.agg #[.int .i64 a1, .int .u64 (IntKind.u64.wrap (a0))]] rfl (by (try simp only [List.map_toArray, List.map_cons, List.map_nil]); first | done | rfl | (simp only [List.length_drop, List.length_take]; rfl)) ?_; (with_reducible refine (wide_Int.calls a1 (IntKind.u64.wrap (a0)) t405 false _ A5.out).mono ?_); rintro e w26 ⟨rfl, hb⟩; refine ⟨_, rfl, ?_⟩; have n0_ := Aside0.mk (blk_below (g := gb404) (o := .cells #[.int .i64 a1, .int .u64 (IntKind.u64.wrap (a0))] 25 (0, 0)) (by (with_reducible repeat (first | refine blk_drewN ?_ _ | refine blk_drew ?_ | refine blk_alloc ?_ _)); refine blk_put (cs := #[.int .i64 a1, .int .u64 0]) ?_ 1 _ rfl; (with_reducible repeat (first | refine blk_drewN ?_ _ | refine blk_drew ?_ | refine blk_alloc ?_ _)); refine blk_put (cs := #[.int .i64 0, .int .u64 0]) ?_ 0 _ rfl; (with_reducible repeat (first | refine blk_drewN ?_ _ | refine blk_drew ?_ | refine blk_alloc ?_ _)); exact BK404.out) hb); have n1_ := Aside0.mk (below_step (by repeat (first | (with_reducible first | exact HB.out | apply below_alloc | apply pw_below_drewN | apply below_drew1 | refine below_set ?_ GE404.out) | exact HB.out)) hb); clear BK404; clear HB; have BK404 := n0_; have HB := n1_; clear n0_ n1_; (try clear hb); (try clear hb2); (try clear hk); (try clear hi)) | (go_at_call 16; (with_reducible refine (lapidarylaw08_known.calls k  t408 _ A21.out).mono ?_); rintro e w27 ⟨rfl, hb⟩; have n0_ := Aside0.mk (blk_below (g := gb404) (o := .cells #[.int .i64 a1, .int .u64 (IntKind.u64.wrap (a0))] 25 (0, 0)) (by (with_reducible repeat (first | refine blk_drewN ?_ _ | refine blk_drew ?_ | refine blk_alloc ?_ _)); exact BK404.out) hb); have n1_ := Aside0.mk (below_step (by repeat (first | (with_reducible first | exact HB.out | apply below_alloc | apply pw_below_drewN | apply below_drew1 | refine below_set ?_ GE404.out) | exact HB.out)) hb); clear BK404; clear HB; have BK404 := n0_; have HB := n1_; clear n0_ n1_; (try clear hb); (try clear hb2); (try clear hk); (try clear hi)))
                go_ret
                exact ⟨by first | rfl | (simp [errW_none, errW_some] <;> rfl) | (simp [*, errW_none, errW_some] <;> rfl), by repeat (first | (with_reducible first | exact HB.out | apply below_alloc | apply pw_below_drewN | apply below_drew1 | refine below_set ?_ GE404.out) | exact HB.out)⟩
              · rw [if_neg c20] at H
                exact absurd H (by simp)
          · rw [if_neg c10] at H
            exact absurd H (by simp)
        · replace c9 := Bool.eq_false_iff.mpr c9
          subst c9
          have H1 : (none) = some r := by rw [if_neg (show ¬ (false = true) by decide)] at H; exact H
          clear H
          have H := H1
          clear H1
          exact absurd H (by simp)
      · rw [if_neg c8] at H
        exact absurd H (by simp)
    · rw [if_neg c7] at H
      have c7b0 : decide (0 ≤ a0) = false := decide_eq_false c7
      clear c7
      by_cases c28 : a1 = (-1)
      · rw [if_pos c28] at H
        have c28b0 : (a1 == (-1)) = true := beq_iff_eq.mpr c28
        have c28b1 : (a1 != (-1)) = false := bne_eq_false_iff_eq.mpr c28
        clear c28
        by_cases c29 : t402 = a0
        · rw [if_pos c29] at H
          have c29b0 : (t402 == a0) = true := beq_iff_eq.mpr c29
          have c29b1 : (t402 != a0) = false := bne_eq_false_iff_eq.mpr c29
          clear c29
          by_cases c30 : t403 = true
          · subst c30
            have H1 : (if (t406 == (decide (a0 < 0))) = true then (if t406 = true then (if t405 = a0 then ((lapidarylaw08_known.f k).bind fun t409 => (some t409)) else (none)) else (if t405 = 0 then ((lapidarylaw08_known.f k).bind fun t410 => (some t410)) else (none))) else (none)) = some r := by rw [if_pos rfl] at H; exact H
            clear H
            have H := H1
            clear H1
            by_cases c31 : (t406 == (decide (a0 < 0))) = true
            · rw [if_pos c31] at H
              have c31b0 : (t406 == (decide (a0 < 0))) = true := c31
              (try (have c31b1 : decide (t406 = (decide (a0 < 0))) = true := by simpa using c31))
              (try (have c31b2 : (t406 == (decide (a0 < 0))) = true := by simpa using c31))
              clear c31
              by_cases c32 : t406 = true
              · subst c32
                have H1 : (if t405 = a0 then ((lapidarylaw08_known.f k).bind fun t409 => (some t409)) else (none)) = some r := by rw [if_pos rfl] at H; exact H
                clear H
                have H := H1
                clear H1
                by_cases c33 : t405 = a0
                · rw [if_pos c33] at H
                  have c33b0 : (t405 == a0) = true := beq_iff_eq.mpr c33
                  have c33b1 : (t405 != a0) = false := bne_eq_false_iff_eq.mpr c33
                  clear c33
                  replace H := Option.bind_eq_some_iff.mp H
                  obtain ⟨t409, A340, H⟩ := H
                  replace H : (some t409) = some r := H
                  have A34 := Aside0.mk A340
                  clear A340
                  obtain rfl := Option.some.inj H
                  go_enter Try.func9, Try.ntmps9
                  go_wp2_with (first | ((with_reducible refine gate_callee (f := 15) rfl ?_); refine goesL_ (some 13) rfl rfl Try.func15 (by kernel_rfl) rfl #[.int .i64 a0] rfl (by (try simp only [List.map_toArray, List.map_cons, List.map_nil]); first | done | rfl | (simp only [List.length_drop, List.length_take]; rfl)) ?_; (with_reducible refine (wide_Of.calls a0 t400 t401 _ A3.out).mono ?_); rintro e w35 ⟨rfl, hb⟩; refine ⟨_, rfl, ?_⟩; have n0_ := Aside0.mk (below_step (by repeat (first | (with_reducible first | exact HB.out | apply below_alloc | apply pw_below_drewN | apply below_drew1) | exact HB.out)) hb); clear HB; have HB := n0_; clear n0_; (try clear hb); (try clear hb2); (try clear hk); (try clear hi)) | ((with_reducible refine gate_callee (f := 27) rfl ?_); refine goesL_ (some 14) rfl rfl Try.func27 (by kernel_rfl) rfl #[.agg #[.int .i64 t400, .int .u64 t401]] rfl (by (try simp only [List.map_toArray, List.map_cons, List.map_nil]); first | done | rfl | (simp only [List.length_drop, List.length_take]; rfl)) ?_; (with_reducible refine (wide_Int.calls t400 t401 t402 true _ A4.out).mono ?_); rintro e w36 ⟨rfl, hb⟩; refine ⟨_, rfl, ?_⟩; have n0_ := Aside0.mk (below_step (by repeat (first | (with_reducible first | exact HB.out | apply below_alloc | apply pw_below_drewN | apply below_drew1) | exact HB.out)) hb); clear HB; have HB := n0_; clear n0_; (try clear hb); (try clear hb2); (try clear hk); (try clear hi)) | ((with_reducible refine gate_dst (N := 7) rfl ?_); refine box_event ?hg (N := 7) ?hd (cs := #[.int .i64 0, .int .u64 0]) (t := 25) ?hr ?_; (case hd => rfl); (case hg => rfl); (case hr => first | (go_simp; done) | (go_simp; rfl)); intro gb404 hg w37 hbox hb; have n0_ := Aside0.mk (below_step (by repeat (first | (with_reducible first | exact HB.out | apply below_alloc | apply pw_below_drewN | apply below_drew1) | exact HB.out)) hb); have n1_ := Aside0.mk (hbox); have n2_ := Aside0.mk ((by rw [hg]; exact (below_size (by repeat (first | (with_reducible first | exact HB.out | apply below_alloc | apply pw_below_drewN | apply below_drew1) | exact HB.out))) : w.heap.size ≤ gb404)); have n3_ := Aside0.mk ((by rw [hg]; exact (below_size (by repeat (first | (with_reducible first | exact HB.out | apply below_alloc | apply pw_below_drewN | apply below_drew1) | exact HB.out))) : w.heap.size ≤ gb404)); clear HB; have HB := n0_; have BK404 := n1_; have GW404 := n2_; have GE404 := n3_; clear n0_ n1_ n2_ n3_; clear hb hbox hg; have hcz38_0 : w37.cell? ⟨gb404, 0, none⟩ = some (.int .i64 0) := (blk_cell BK404.out 0).trans rfl; have hcz38_1 : w37.cell? ⟨gb404, 1, none⟩ = some (.int .u64 0) := (blk_cell BK404.out 1).trans rfl; have hfz38_0 := blk_frozen BK404.out 0; have hfz38_1 := blk_frozen BK404.out 1) | ((with_reducible refine gate_callee (f := 27) rfl ?_); refine goesL_ (some 23) rfl rfl Try.func27 (by kernel_rfl) rfl #[.agg #[.int .i64 a1, .int .u64 (IntKind.u64.wrap (a0))]] rfl (by (try simp only [List.map_toArray, List.map_cons, List.map_nil]); first | done | rfl | (simp only [List.length_drop, List.length_take]; rfl)) ?_; (with_reducible refine (wide_Int.calls a1 (IntKind.u64.wrap (a0)) t405 true _ A5.out).mono ?_); rintro e w39 ⟨rfl, hb⟩; refine ⟨_, rfl, ?_⟩; have n0_ := Aside0.mk (blk_below (g := gb404) (o := .cells #[.int .i64 a1, .int .u64 (IntKind.u64.wrap (a0))] 25 (0, 0)) (by (with_reducible repeat (first | refine blk_drewN ?_ _ | refine blk_drew ?_ | refine blk_alloc ?_ _)); refine blk_put (cs := #[.int .i64 a1, .int .u64 0]) ?_ 1 _ rfl; (with_reducible repeat (first | refine blk_drewN ?_ _ | refine blk_drew ?_ | refine blk_alloc ?_ _)); refine blk_put (cs := #[.int .i64 0, .int .u64 0]) ?_ 0 _ rfl; (with_reducible repeat (first | refine blk_drewN ?_ _ | refine blk_drew ?_ | refine blk_alloc ?_ _)); exact BK404.out) hb); have n1_ := Aside0.mk (below_step (by repeat (first | (with_reducible first | exact HB.out | apply below_alloc | apply pw_below_drewN | apply below_drew1 | refine below_set ?_ GE404.out) | exact HB.out)) hb); clear BK404; clear HB; have BK404 := n0_; have HB := n1_; clear n0_ n1_; (try clear hb); (try clear hb2); (try clear hk); (try clear hi)) | (go_at_call 16; (with_reducible refine (lapidarylaw08_known.calls k  t409 _ A34.out).mono ?_); rintro e w40 ⟨rfl, hb⟩; have n0_ := Aside0.mk (blk_below (g := gb404) (o := .cells #[.int .i64 a1, .int .u64 (IntKind.u64.wrap (a0))] 25 (0, 0)) (by (with_reducible repeat (first | refine blk_drewN ?_ _ | refine blk_drew ?_ | refine blk_alloc ?_ _)); exact BK404.out) hb); have n1_ := Aside0.mk (below_step (by repeat (first | (with_reducible first | exact HB.out | apply below_alloc | apply pw_below_drewN | apply below_drew1 | refine below_set ?_ GE404.out) | exact HB.out)) hb); clear BK404; clear HB; have BK404 := n0_; have HB := n1_; clear n0_ n1_; (try clear hb); (try clear hb2); (try clear hk); (try clear hi)))
                  go_ret
                  exact ⟨by first | rfl | (simp [errW_none, errW_some] <;> rfl) | (simp [*, errW_none, errW_some] <;> rfl), by repeat (first | (with_reducible first | exact HB.out | apply below_alloc | apply pw_below_drewN | apply below_drew1 | refine below_set ?_ GE404.out) | exact HB.out)⟩
                · rw [if_neg c33] at H
                  exact absurd H (by simp)
              · replace c32 := Bool.eq_false_iff.mpr c32
                subst c32
                have H1 : (if t405 = 0 then ((lapidarylaw08_known.f k).bind fun t410 => (some t410)) else (none)) = some r := by rw [if_neg (show ¬ (false = true) by decide)] at H; exact H
                clear H
                have H := H1
                clear H1
                by_cases c41 : t405 = 0
                · rw [if_pos c41] at H
                  have c41b0 : (t405 == 0) = true := beq_iff_eq.mpr c41
                  have c41b1 : (t405 != 0) = false := bne_eq_false_iff_eq.mpr c41
                  clear c41
                  replace H := Option.bind_eq_some_iff.mp H
                  obtain ⟨t410, A420, H⟩ := H
                  replace H : (some t410) = some r := H
                  have A42 := Aside0.mk A420
                  clear A420
                  obtain rfl := Option.some.inj H
                  go_enter Try.func9, Try.ntmps9
                  go_wp2_with (first | ((with_reducible refine gate_callee (f := 15) rfl ?_); refine goesL_ (some 13) rfl rfl Try.func15 (by kernel_rfl) rfl #[.int .i64 a0] rfl (by (try simp only [List.map_toArray, List.map_cons, List.map_nil]); first | done | rfl | (simp only [List.length_drop, List.length_take]; rfl)) ?_; (with_reducible refine (wide_Of.calls a0 t400 t401 _ A3.out).mono ?_); rintro e w43 ⟨rfl, hb⟩; refine ⟨_, rfl, ?_⟩; have n0_ := Aside0.mk (below_step (by repeat (first | (with_reducible first | exact HB.out | apply below_alloc | apply pw_below_drewN | apply below_drew1) | exact HB.out)) hb); clear HB; have HB := n0_; clear n0_; (try clear hb); (try clear hb2); (try clear hk); (try clear hi)) | ((with_reducible refine gate_callee (f := 27) rfl ?_); refine goesL_ (some 14) rfl rfl Try.func27 (by kernel_rfl) rfl #[.agg #[.int .i64 t400, .int .u64 t401]] rfl (by (try simp only [List.map_toArray, List.map_cons, List.map_nil]); first | done | rfl | (simp only [List.length_drop, List.length_take]; rfl)) ?_; (with_reducible refine (wide_Int.calls t400 t401 t402 true _ A4.out).mono ?_); rintro e w44 ⟨rfl, hb⟩; refine ⟨_, rfl, ?_⟩; have n0_ := Aside0.mk (below_step (by repeat (first | (with_reducible first | exact HB.out | apply below_alloc | apply pw_below_drewN | apply below_drew1) | exact HB.out)) hb); clear HB; have HB := n0_; clear n0_; (try clear hb); (try clear hb2); (try clear hk); (try clear hi)) | ((with_reducible refine gate_dst (N := 7) rfl ?_); refine box_event ?hg (N := 7) ?hd (cs := #[.int .i64 0, .int .u64 0]) (t := 25) ?hr ?_; (case hd => rfl); (case hg => rfl); (case hr => first | (go_simp; done) | (go_simp; rfl)); intro gb404 hg w45 hbox hb; have n0_ := Aside0.mk (below_step (by repeat (first | (with_reducible first | exact HB.out | apply below_alloc | apply pw_below_drewN | apply below_drew1) | exact HB.out)) hb); have n1_ := Aside0.mk (hbox); have n2_ := Aside0.mk ((by rw [hg]; exact (below_size (by repeat (first | (with_reducible first | exact HB.out | apply below_alloc | apply pw_below_drewN | apply below_drew1) | exact HB.out))) : w.heap.size ≤ gb404)); have n3_ := Aside0.mk ((by rw [hg]; exact (below_size (by repeat (first | (with_reducible first | exact HB.out | apply below_alloc | apply pw_below_drewN | apply below_drew1) | exact HB.out))) : w.heap.size ≤ gb404)); clear HB; have HB := n0_; have BK404 := n1_; have GW404 := n2_; have GE404 := n3_; clear n0_ n1_ n2_ n3_; clear hb hbox hg; have hcz46_0 : w45.cell? ⟨gb404, 0, none⟩ = some (.int .i64 0) := (blk_cell BK404.out 0).trans rfl; have hcz46_1 : w45.cell? ⟨gb404, 1, none⟩ = some (.int .u64 0) := (blk_cell BK404.out 1).trans rfl; have hfz46_0 := blk_frozen BK404.out 0; have hfz46_1 := blk_frozen BK404.out 1) | ((with_reducible refine gate_callee (f := 27) rfl ?_); refine goesL_ (some 23) rfl rfl Try.func27 (by kernel_rfl) rfl #[.agg #[.int .i64 a1, .int .u64 (IntKind.u64.wrap (a0))]] rfl (by (try simp only [List.map_toArray, List.map_cons, List.map_nil]); first | done | rfl | (simp only [List.length_drop, List.length_take]; rfl)) ?_; (with_reducible refine (wide_Int.calls a1 (IntKind.u64.wrap (a0)) t405 false _ A5.out).mono ?_); rintro e w47 ⟨rfl, hb⟩; refine ⟨_, rfl, ?_⟩; have n0_ := Aside0.mk (blk_below (g := gb404) (o := .cells #[.int .i64 a1, .int .u64 (IntKind.u64.wrap (a0))] 25 (0, 0)) (by (with_reducible repeat (first | refine blk_drewN ?_ _ | refine blk_drew ?_ | refine blk_alloc ?_ _)); refine blk_put (cs := #[.int .i64 a1, .int .u64 0]) ?_ 1 _ rfl; (with_reducible repeat (first | refine blk_drewN ?_ _ | refine blk_drew ?_ | refine blk_alloc ?_ _)); refine blk_put (cs := #[.int .i64 0, .int .u64 0]) ?_ 0 _ rfl; (with_reducible repeat (first | refine blk_drewN ?_ _ | refine blk_drew ?_ | refine blk_alloc ?_ _)); exact BK404.out) hb); have n1_ := Aside0.mk (below_step (by repeat (first | (with_reducible first | exact HB.out | apply below_alloc | apply pw_below_drewN | apply below_drew1 | refine below_set ?_ GE404.out) | exact HB.out)) hb); clear BK404; clear HB; have BK404 := n0_; have HB := n1_; clear n0_ n1_; (try clear hb); (try clear hb2); (try clear hk); (try clear hi)) | (go_at_call 16; (with_reducible refine (lapidarylaw08_known.calls k  t410 _ A42.out).mono ?_); rintro e w48 ⟨rfl, hb⟩; have n0_ := Aside0.mk (blk_below (g := gb404) (o := .cells #[.int .i64 a1, .int .u64 (IntKind.u64.wrap (a0))] 25 (0, 0)) (by (with_reducible repeat (first | refine blk_drewN ?_ _ | refine blk_drew ?_ | refine blk_alloc ?_ _)); exact BK404.out) hb); have n1_ := Aside0.mk (below_step (by repeat (first | (with_reducible first | exact HB.out | apply below_alloc | apply pw_below_drewN | apply below_drew1 | refine below_set ?_ GE404.out) | exact HB.out)) hb); clear BK404; clear HB; have BK404 := n0_; have HB := n1_; clear n0_ n1_; (try clear hb); (try clear hb2); (try clear hk); (try clear hi)))
                  go_ret
                  exact ⟨by first | rfl | (simp [errW_none, errW_some] <;> rfl) | (simp [*, errW_none, errW_some] <;> rfl), by repeat (first | (with_reducible first | exact HB.out | apply below_alloc | apply pw_below_drewN | apply below_drew1 | refine below_set ?_ GE404.out) | exact HB.out)⟩
                · rw [if_neg c41] at H
                  exact absurd H (by simp)
            · rw [if_neg c31] at H
              exact absurd H (by simp)
          · replace c30 := Bool.eq_false_iff.mpr c30
            subst c30
            have H1 : (none) = some r := by rw [if_neg (show ¬ (false = true) by decide)] at H; exact H
            clear H
            have H := H1
            clear H1
            exact absurd H (by simp)
        · rw [if_neg c29] at H
          exact absurd H (by simp)
      · rw [if_neg c28] at H
        have c28b0 : (a1 == (-1)) = false := beq_eq_false_iff_ne.mpr c28
        have c28b1 : (a1 != (-1)) = true := bne_iff_ne.mpr c28
        by_cases c49 : t402 = a0
        · rw [if_pos c49] at H
          have c49b0 : (t402 == a0) = true := beq_iff_eq.mpr c49
          have c49b1 : (t402 != a0) = false := bne_eq_false_iff_eq.mpr c49
          clear c49
          by_cases c50 : t403 = true
          · subst c50
            have H1 : (if (t406 == false) = true then (if t406 = true then (if t405 = a0 then ((lapidarylaw08_known.f k).bind fun t411 => (some t411)) else (none)) else (if t405 = 0 then ((lapidarylaw08_known.f k).bind fun t412 => (some t412)) else (none))) else (none)) = some r := by rw [if_pos rfl] at H; exact H
            clear H
            have H := H1
            clear H1
            by_cases c51 : (t406 == false) = true
            · rw [if_pos c51] at H
              have c51b0 : (t406 == false) = true := c51
              (try (have c51b1 : decide (t406 = false) = true := by simpa using c51))
              (try (have c51b2 : (t406 == false) = true := by simpa using c51))
              clear c51
              by_cases c52 : t406 = true
              · subst c52
                have H1 : (if t405 = a0 then ((lapidarylaw08_known.f k).bind fun t411 => (some t411)) else (none)) = some r := by rw [if_pos rfl] at H; exact H
                clear H
                have H := H1
                clear H1
                by_cases c53 : t405 = a0
                · rw [if_pos c53] at H
                  have c53b0 : (t405 == a0) = true := beq_iff_eq.mpr c53
                  have c53b1 : (t405 != a0) = false := bne_eq_false_iff_eq.mpr c53
                  clear c53
                  replace H := Option.bind_eq_some_iff.mp H
                  obtain ⟨t411, A540, H⟩ := H
                  replace H : (some t411) = some r := H
                  have A54 := Aside0.mk A540
                  clear A540
                  obtain rfl := Option.some.inj H
                  go_enter Try.func9, Try.ntmps9
                  go_wp2_with (first | ((with_reducible refine gate_callee (f := 15) rfl ?_); refine goesL_ (some 13) rfl rfl Try.func15 (by kernel_rfl) rfl #[.int .i64 a0] rfl (by (try simp only [List.map_toArray, List.map_cons, List.map_nil]); first | done | rfl | (simp only [List.length_drop, List.length_take]; rfl)) ?_; (with_reducible refine (wide_Of.calls a0 t400 t401 _ A3.out).mono ?_); rintro e w55 ⟨rfl, hb⟩; refine ⟨_, rfl, ?_⟩; have n0_ := Aside0.mk (below_step (by repeat (first | (with_reducible first | exact HB.out | apply below_alloc | apply pw_below_drewN | apply below_drew1) | exact HB.out)) hb); clear HB; have HB := n0_; clear n0_; (try clear hb); (try clear hb2); (try clear hk); (try clear hi)) | ((with_reducible refine gate_callee (f := 27) rfl ?_); refine goesL_ (some 14) rfl rfl Try.func27 (by kernel_rfl) rfl #[.agg #[.int .i64 t400, .int .u64 t401]] rfl (by (try simp only [List.map_toArray, List.map_cons, List.map_nil]); first | done | rfl | (simp only [List.length_drop, List.length_take]; rfl)) ?_; (with_reducible refine (wide_Int.calls t400 t401 t402 true _ A4.out).mono ?_); rintro e w56 ⟨rfl, hb⟩; refine ⟨_, rfl, ?_⟩; have n0_ := Aside0.mk (below_step (by repeat (first | (with_reducible first | exact HB.out | apply below_alloc | apply pw_below_drewN | apply below_drew1) | exact HB.out)) hb); clear HB; have HB := n0_; clear n0_; (try clear hb); (try clear hb2); (try clear hk); (try clear hi)) | ((with_reducible refine gate_dst (N := 7) rfl ?_); refine box_event ?hg (N := 7) ?hd (cs := #[.int .i64 0, .int .u64 0]) (t := 25) ?hr ?_; (case hd => rfl); (case hg => rfl); (case hr => first | (go_simp; done) | (go_simp; rfl)); intro gb404 hg w57 hbox hb; have n0_ := Aside0.mk (below_step (by repeat (first | (with_reducible first | exact HB.out | apply below_alloc | apply pw_below_drewN | apply below_drew1) | exact HB.out)) hb); have n1_ := Aside0.mk (hbox); have n2_ := Aside0.mk ((by rw [hg]; exact (below_size (by repeat (first | (with_reducible first | exact HB.out | apply below_alloc | apply pw_below_drewN | apply below_drew1) | exact HB.out))) : w.heap.size ≤ gb404)); have n3_ := Aside0.mk ((by rw [hg]; exact (below_size (by repeat (first | (with_reducible first | exact HB.out | apply below_alloc | apply pw_below_drewN | apply below_drew1) | exact HB.out))) : w.heap.size ≤ gb404)); clear HB; have HB := n0_; have BK404 := n1_; have GW404 := n2_; have GE404 := n3_; clear n0_ n1_ n2_ n3_; clear hb hbox hg; have hcz58_0 : w57.cell? ⟨gb404, 0, none⟩ = some (.int .i64 0) := (blk_cell BK404.out 0).trans rfl; have hcz58_1 : w57.cell? ⟨gb404, 1, none⟩ = some (.int .u64 0) := (blk_cell BK404.out 1).trans rfl; have hfz58_0 := blk_frozen BK404.out 0; have hfz58_1 := blk_frozen BK404.out 1) | ((with_reducible refine gate_callee (f := 27) rfl ?_); refine goesL_ (some 23) rfl rfl Try.func27 (by kernel_rfl) rfl #[.agg #[.int .i64 a1, .int .u64 (IntKind.u64.wrap (a0))]] rfl (by (try simp only [List.map_toArray, List.map_cons, List.map_nil]); first | done | rfl | (simp only [List.length_drop, List.length_take]; rfl)) ?_; (with_reducible refine (wide_Int.calls a1 (IntKind.u64.wrap (a0)) t405 true _ A5.out).mono ?_); rintro e w59 ⟨rfl, hb⟩; refine ⟨_, rfl, ?_⟩; have n0_ := Aside0.mk (blk_below (g := gb404) (o := .cells #[.int .i64 a1, .int .u64 (IntKind.u64.wrap (a0))] 25 (0, 0)) (by (with_reducible repeat (first | refine blk_drewN ?_ _ | refine blk_drew ?_ | refine blk_alloc ?_ _)); refine blk_put (cs := #[.int .i64 a1, .int .u64 0]) ?_ 1 _ rfl; (with_reducible repeat (first | refine blk_drewN ?_ _ | refine blk_drew ?_ | refine blk_alloc ?_ _)); refine blk_put (cs := #[.int .i64 0, .int .u64 0]) ?_ 0 _ rfl; (with_reducible repeat (first | refine blk_drewN ?_ _ | refine blk_drew ?_ | refine blk_alloc ?_ _)); exact BK404.out) hb); have n1_ := Aside0.mk (below_step (by repeat (first | (with_reducible first | exact HB.out | apply below_alloc | apply pw_below_drewN | apply below_drew1 | refine below_set ?_ GE404.out) | exact HB.out)) hb); clear BK404; clear HB; have BK404 := n0_; have HB := n1_; clear n0_ n1_; (try clear hb); (try clear hb2); (try clear hk); (try clear hi)) | (go_at_call 16; (with_reducible refine (lapidarylaw08_known.calls k  t411 _ A54.out).mono ?_); rintro e w60 ⟨rfl, hb⟩; have n0_ := Aside0.mk (blk_below (g := gb404) (o := .cells #[.int .i64 a1, .int .u64 (IntKind.u64.wrap (a0))] 25 (0, 0)) (by (with_reducible repeat (first | refine blk_drewN ?_ _ | refine blk_drew ?_ | refine blk_alloc ?_ _)); exact BK404.out) hb); have n1_ := Aside0.mk (below_step (by repeat (first | (with_reducible first | exact HB.out | apply below_alloc | apply pw_below_drewN | apply below_drew1 | refine below_set ?_ GE404.out) | exact HB.out)) hb); clear BK404; clear HB; have BK404 := n0_; have HB := n1_; clear n0_ n1_; (try clear hb); (try clear hb2); (try clear hk); (try clear hi)))
                  go_ret
                  exact ⟨by first | rfl | (simp [errW_none, errW_some] <;> rfl) | (simp [*, errW_none, errW_some] <;> rfl), by repeat (first | (with_reducible first | exact HB.out | apply below_alloc | apply pw_below_drewN | apply below_drew1 | refine below_set ?_ GE404.out) | exact HB.out)⟩
                · rw [if_neg c53] at H
                  exact absurd H (by simp)
              · replace c52 := Bool.eq_false_iff.mpr c52
                subst c52
                have H1 : (if t405 = 0 then ((lapidarylaw08_known.f k).bind fun t412 => (some t412)) else (none)) = some r := by rw [if_neg (show ¬ (false = true) by decide)] at H; exact H
                clear H
                have H := H1
                clear H1
                by_cases c61 : t405 = 0
                · rw [if_pos c61] at H
                  have c61b0 : (t405 == 0) = true := beq_iff_eq.mpr c61
                  have c61b1 : (t405 != 0) = false := bne_eq_false_iff_eq.mpr c61
                  clear c61
                  replace H := Option.bind_eq_some_iff.mp H
                  obtain ⟨t412, A620, H⟩ := H
                  replace H : (some t412) = some r := H
                  have A62 := Aside0.mk A620
                  clear A620
                  obtain rfl := Option.some.inj H
                  go_enter Try.func9, Try.ntmps9
                  go_wp2_with (first | ((with_reducible refine gate_callee (f := 15) rfl ?_); refine goesL_ (some 13) rfl rfl Try.func15 (by kernel_rfl) rfl #[.int .i64 a0] rfl (by (try simp only [List.map_toArray, List.map_cons, List.map_nil]); first | done | rfl | (simp only [List.length_drop, List.length_take]; rfl)) ?_; (with_reducible refine (wide_Of.calls a0 t400 t401 _ A3.out).mono ?_); rintro e w63 ⟨rfl, hb⟩; refine ⟨_, rfl, ?_⟩; have n0_ := Aside0.mk (below_step (by repeat (first | (with_reducible first | exact HB.out | apply below_alloc | apply pw_below_drewN | apply below_drew1) | exact HB.out)) hb); clear HB; have HB := n0_; clear n0_; (try clear hb); (try clear hb2); (try clear hk); (try clear hi)) | ((with_reducible refine gate_callee (f := 27) rfl ?_); refine goesL_ (some 14) rfl rfl Try.func27 (by kernel_rfl) rfl #[.agg #[.int .i64 t400, .int .u64 t401]] rfl (by (try simp only [List.map_toArray, List.map_cons, List.map_nil]); first | done | rfl | (simp only [List.length_drop, List.length_take]; rfl)) ?_; (with_reducible refine (wide_Int.calls t400 t401 t402 true _ A4.out).mono ?_); rintro e w64 ⟨rfl, hb⟩; refine ⟨_, rfl, ?_⟩; have n0_ := Aside0.mk (below_step (by repeat (first | (with_reducible first | exact HB.out | apply below_alloc | apply pw_below_drewN | apply below_drew1) | exact HB.out)) hb); clear HB; have HB := n0_; clear n0_; (try clear hb); (try clear hb2); (try clear hk); (try clear hi)) | ((with_reducible refine gate_dst (N := 7) rfl ?_); refine box_event ?hg (N := 7) ?hd (cs := #[.int .i64 0, .int .u64 0]) (t := 25) ?hr ?_; (case hd => rfl); (case hg => rfl); (case hr => first | (go_simp; done) | (go_simp; rfl)); intro gb404 hg w65 hbox hb; have n0_ := Aside0.mk (below_step (by repeat (first | (with_reducible first | exact HB.out | apply below_alloc | apply pw_below_drewN | apply below_drew1) | exact HB.out)) hb); have n1_ := Aside0.mk (hbox); have n2_ := Aside0.mk ((by rw [hg]; exact (below_size (by repeat (first | (with_reducible first | exact HB.out | apply below_alloc | apply pw_below_drewN | apply below_drew1) | exact HB.out))) : w.heap.size ≤ gb404)); have n3_ := Aside0.mk ((by rw [hg]; exact (below_size (by repeat (first | (with_reducible first | exact HB.out | apply below_alloc | apply pw_below_drewN | apply below_drew1) | exact HB.out))) : w.heap.size ≤ gb404)); clear HB; have HB := n0_; have BK404 := n1_; have GW404 := n2_; have GE404 := n3_; clear n0_ n1_ n2_ n3_; clear hb hbox hg; have hcz66_0 : w65.cell? ⟨gb404, 0, none⟩ = some (.int .i64 0) := (blk_cell BK404.out 0).trans rfl; have hcz66_1 : w65.cell? ⟨gb404, 1, none⟩ = some (.int .u64 0) := (blk_cell BK404.out 1).trans rfl; have hfz66_0 := blk_frozen BK404.out 0; have hfz66_1 := blk_frozen BK404.out 1) | ((with_reducible refine gate_callee (f := 27) rfl ?_); refine goesL_ (some 23) rfl rfl Try.func27 (by kernel_rfl) rfl #[.agg #[.int .i64 a1, .int .u64 (IntKind.u64.wrap (a0))]] rfl (by (try simp only [List.map_toArray, List.map_cons, List.map_nil]); first | done | rfl | (simp only [List.length_drop, List.length_take]; rfl)) ?_; (with_reducible refine (wide_Int.calls a1 (IntKind.u64.wrap (a0)) t405 false _ A5.out).mono ?_); rintro e w67 ⟨rfl, hb⟩; refine ⟨_, rfl, ?_⟩; have n0_ := Aside0.mk (blk_below (g := gb404) (o := .cells #[.int .i64 a1, .int .u64 (IntKind.u64.wrap (a0))] 25 (0, 0)) (by (with_reducible repeat (first | refine blk_drewN ?_ _ | refine blk_drew ?_ | refine blk_alloc ?_ _)); refine blk_put (cs := #[.int .i64 a1, .int .u64 0]) ?_ 1 _ rfl; (with_reducible repeat (first | refine blk_drewN ?_ _ | refine blk_drew ?_ | refine blk_alloc ?_ _)); refine blk_put (cs := #[.int .i64 0, .int .u64 0]) ?_ 0 _ rfl; (with_reducible repeat (first | refine blk_drewN ?_ _ | refine blk_drew ?_ | refine blk_alloc ?_ _)); exact BK404.out) hb); have n1_ := Aside0.mk (below_step (by repeat (first | (with_reducible first | exact HB.out | apply below_alloc | apply pw_below_drewN | apply below_drew1 | refine below_set ?_ GE404.out) | exact HB.out)) hb); clear BK404; clear HB; have BK404 := n0_; have HB := n1_; clear n0_ n1_; (try clear hb); (try clear hb2); (try clear hk); (try clear hi)) | (go_at_call 16; (with_reducible refine (lapidarylaw08_known.calls k  t412 _ A62.out).mono ?_); rintro e w68 ⟨rfl, hb⟩; have n0_ := Aside0.mk (blk_below (g := gb404) (o := .cells #[.int .i64 a1, .int .u64 (IntKind.u64.wrap (a0))] 25 (0, 0)) (by (with_reducible repeat (first | refine blk_drewN ?_ _ | refine blk_drew ?_ | refine blk_alloc ?_ _)); exact BK404.out) hb); have n1_ := Aside0.mk (below_step (by repeat (first | (with_reducible first | exact HB.out | apply below_alloc | apply pw_below_drewN | apply below_drew1 | refine below_set ?_ GE404.out) | exact HB.out)) hb); clear BK404; clear HB; have BK404 := n0_; have HB := n1_; clear n0_ n1_; (try clear hb); (try clear hb2); (try clear hk); (try clear hi)))
                  go_ret
                  exact ⟨by first | rfl | (simp [errW_none, errW_some] <;> rfl) | (simp [*, errW_none, errW_some] <;> rfl), by repeat (first | (with_reducible first | exact HB.out | apply below_alloc | apply pw_below_drewN | apply below_drew1 | refine below_set ?_ GE404.out) | exact HB.out)⟩
                · rw [if_neg c61] at H
                  exact absurd H (by simp)
            · rw [if_neg c51] at H
              exact absurd H (by simp)
          · replace c50 := Bool.eq_false_iff.mpr c50
            subst c50
            have H1 : (none) = some r := by rw [if_neg (show ¬ (false = true) by decide)] at H; exact H
            clear H
            have H := H1
            clear H1
            exact absurd H (by simp)
        · rw [if_neg c49] at H
          exact absurd H (by simp)
  · rw [if_neg c6] at H
    have c6b0 : (a1 == 0) = false := beq_eq_false_iff_ne.mpr c6
    have c6b1 : (a1 != 0) = true := bne_iff_ne.mpr c6
    by_cases c69 : a1 = (-1)
    · rw [if_pos c69] at H
      have c69b0 : (a1 == (-1)) = true := beq_iff_eq.mpr c69
      have c69b1 : (a1 != (-1)) = false := bne_eq_false_iff_eq.mpr c69
      clear c69
      by_cases c70 : t402 = a0
      · rw [if_pos c70] at H
        have c70b0 : (t402 == a0) = true := beq_iff_eq.mpr c70
        have c70b1 : (t402 != a0) = false := bne_eq_false_iff_eq.mpr c70
        clear c70
        by_cases c71 : t403 = true
        · subst c71
          have H1 : (if (t406 == (decide (a0 < 0))) = true then (if t406 = true then (if t405 = a0 then ((lapidarylaw08_known.f k).bind fun t413 => (some t413)) else (none)) else (if t405 = 0 then ((lapidarylaw08_known.f k).bind fun t414 => (some t414)) else (none))) else (none)) = some r := by rw [if_pos rfl] at H; exact H
          clear H
          have H := H1
          clear H1
          by_cases c72 : (t406 == (decide (a0 < 0))) = true
          · rw [if_pos c72] at H
            have c72b0 : (t406 == (decide (a0 < 0))) = true := c72
            (try (have c72b1 : decide (t406 = (decide (a0 < 0))) = true := by simpa using c72))
            (try (have c72b2 : (t406 == (decide (a0 < 0))) = true := by simpa using c72))
            clear c72
            by_cases c73 : t406 = true
            · subst c73
              have H1 : (if t405 = a0 then ((lapidarylaw08_known.f k).bind fun t413 => (some t413)) else (none)) = some r := by rw [if_pos rfl] at H; exact H
              clear H
              have H := H1
              clear H1
              by_cases c74 : t405 = a0
              · rw [if_pos c74] at H
                have c74b0 : (t405 == a0) = true := beq_iff_eq.mpr c74
                have c74b1 : (t405 != a0) = false := bne_eq_false_iff_eq.mpr c74
                clear c74
                replace H := Option.bind_eq_some_iff.mp H
                obtain ⟨t413, A750, H⟩ := H
                replace H : (some t413) = some r := H
                have A75 := Aside0.mk A750
                clear A750
                obtain rfl := Option.some.inj H
                go_enter Try.func9, Try.ntmps9
                go_wp2_with (first | ((with_reducible refine gate_callee (f := 15) rfl ?_); refine goesL_ (some 13) rfl rfl Try.func15 (by kernel_rfl) rfl #[.int .i64 a0] rfl (by (try simp only [List.map_toArray, List.map_cons, List.map_nil]); first | done | rfl | (simp only [List.length_drop, List.length_take]; rfl)) ?_; (with_reducible refine (wide_Of.calls a0 t400 t401 _ A3.out).mono ?_); rintro e w76 ⟨rfl, hb⟩; refine ⟨_, rfl, ?_⟩; have n0_ := Aside0.mk (below_step (by repeat (first | (with_reducible first | exact HB.out | apply below_alloc | apply pw_below_drewN | apply below_drew1) | exact HB.out)) hb); clear HB; have HB := n0_; clear n0_; (try clear hb); (try clear hb2); (try clear hk); (try clear hi)) | ((with_reducible refine gate_callee (f := 27) rfl ?_); refine goesL_ (some 14) rfl rfl Try.func27 (by kernel_rfl) rfl #[.agg #[.int .i64 t400, .int .u64 t401]] rfl (by (try simp only [List.map_toArray, List.map_cons, List.map_nil]); first | done | rfl | (simp only [List.length_drop, List.length_take]; rfl)) ?_; (with_reducible refine (wide_Int.calls t400 t401 t402 true _ A4.out).mono ?_); rintro e w77 ⟨rfl, hb⟩; refine ⟨_, rfl, ?_⟩; have n0_ := Aside0.mk (below_step (by repeat (first | (with_reducible first | exact HB.out | apply below_alloc | apply pw_below_drewN | apply below_drew1) | exact HB.out)) hb); clear HB; have HB := n0_; clear n0_; (try clear hb); (try clear hb2); (try clear hk); (try clear hi)) | ((with_reducible refine gate_dst (N := 7) rfl ?_); refine box_event ?hg (N := 7) ?hd (cs := #[.int .i64 0, .int .u64 0]) (t := 25) ?hr ?_; (case hd => rfl); (case hg => rfl); (case hr => first | (go_simp; done) | (go_simp; rfl)); intro gb404 hg w78 hbox hb; have n0_ := Aside0.mk (below_step (by repeat (first | (with_reducible first | exact HB.out | apply below_alloc | apply pw_below_drewN | apply below_drew1) | exact HB.out)) hb); have n1_ := Aside0.mk (hbox); have n2_ := Aside0.mk ((by rw [hg]; exact (below_size (by repeat (first | (with_reducible first | exact HB.out | apply below_alloc | apply pw_below_drewN | apply below_drew1) | exact HB.out))) : w.heap.size ≤ gb404)); have n3_ := Aside0.mk ((by rw [hg]; exact (below_size (by repeat (first | (with_reducible first | exact HB.out | apply below_alloc | apply pw_below_drewN | apply below_drew1) | exact HB.out))) : w.heap.size ≤ gb404)); clear HB; have HB := n0_; have BK404 := n1_; have GW404 := n2_; have GE404 := n3_; clear n0_ n1_ n2_ n3_; clear hb hbox hg; have hcz79_0 : w78.cell? ⟨gb404, 0, none⟩ = some (.int .i64 0) := (blk_cell BK404.out 0).trans rfl; have hcz79_1 : w78.cell? ⟨gb404, 1, none⟩ = some (.int .u64 0) := (blk_cell BK404.out 1).trans rfl; have hfz79_0 := blk_frozen BK404.out 0; have hfz79_1 := blk_frozen BK404.out 1) | ((with_reducible refine gate_callee (f := 27) rfl ?_); refine goesL_ (some 23) rfl rfl Try.func27 (by kernel_rfl) rfl #[.agg #[.int .i64 a1, .int .u64 (IntKind.u64.wrap (a0))]] rfl (by (try simp only [List.map_toArray, List.map_cons, List.map_nil]); first | done | rfl | (simp only [List.length_drop, List.length_take]; rfl)) ?_; (with_reducible refine (wide_Int.calls a1 (IntKind.u64.wrap (a0)) t405 true _ A5.out).mono ?_); rintro e w80 ⟨rfl, hb⟩; refine ⟨_, rfl, ?_⟩; have n0_ := Aside0.mk (blk_below (g := gb404) (o := .cells #[.int .i64 a1, .int .u64 (IntKind.u64.wrap (a0))] 25 (0, 0)) (by (with_reducible repeat (first | refine blk_drewN ?_ _ | refine blk_drew ?_ | refine blk_alloc ?_ _)); refine blk_put (cs := #[.int .i64 a1, .int .u64 0]) ?_ 1 _ rfl; (with_reducible repeat (first | refine blk_drewN ?_ _ | refine blk_drew ?_ | refine blk_alloc ?_ _)); refine blk_put (cs := #[.int .i64 0, .int .u64 0]) ?_ 0 _ rfl; (with_reducible repeat (first | refine blk_drewN ?_ _ | refine blk_drew ?_ | refine blk_alloc ?_ _)); exact BK404.out) hb); have n1_ := Aside0.mk (below_step (by repeat (first | (with_reducible first | exact HB.out | apply below_alloc | apply pw_below_drewN | apply below_drew1 | refine below_set ?_ GE404.out) | exact HB.out)) hb); clear BK404; clear HB; have BK404 := n0_; have HB := n1_; clear n0_ n1_; (try clear hb); (try clear hb2); (try clear hk); (try clear hi)) | (go_at_call 16; (with_reducible refine (lapidarylaw08_known.calls k  t413 _ A75.out).mono ?_); rintro e w81 ⟨rfl, hb⟩; have n0_ := Aside0.mk (blk_below (g := gb404) (o := .cells #[.int .i64 a1, .int .u64 (IntKind.u64.wrap (a0))] 25 (0, 0)) (by (with_reducible repeat (first | refine blk_drewN ?_ _ | refine blk_drew ?_ | refine blk_alloc ?_ _)); exact BK404.out) hb); have n1_ := Aside0.mk (below_step (by repeat (first | (with_reducible first | exact HB.out | apply below_alloc | apply pw_below_drewN | apply below_drew1 | refine below_set ?_ GE404.out) | exact HB.out)) hb); clear BK404; clear HB; have BK404 := n0_; have HB := n1_; clear n0_ n1_; (try clear hb); (try clear hb2); (try clear hk); (try clear hi)))
                go_ret
                exact ⟨by first | rfl | (simp [errW_none, errW_some] <;> rfl) | (simp [*, errW_none, errW_some] <;> rfl), by repeat (first | (with_reducible first | exact HB.out | apply below_alloc | apply pw_below_drewN | apply below_drew1 | refine below_set ?_ GE404.out) | exact HB.out)⟩
              · rw [if_neg c74] at H
                exact absurd H (by simp)
            · replace c73 := Bool.eq_false_iff.mpr c73
              subst c73
              have H1 : (if t405 = 0 then ((lapidarylaw08_known.f k).bind fun t414 => (some t414)) else (none)) = some r := by rw [if_neg (show ¬ (false = true) by decide)] at H; exact H
              clear H
              have H := H1
              clear H1
              by_cases c82 : t405 = 0
              · rw [if_pos c82] at H
                have c82b0 : (t405 == 0) = true := beq_iff_eq.mpr c82
                have c82b1 : (t405 != 0) = false := bne_eq_false_iff_eq.mpr c82
                clear c82
                replace H := Option.bind_eq_some_iff.mp H
                obtain ⟨t414, A830, H⟩ := H
                replace H : (some t414) = some r := H
                have A83 := Aside0.mk A830
                clear A830
                obtain rfl := Option.some.inj H
                go_enter Try.func9, Try.ntmps9
                go_wp2_with (first | ((with_reducible refine gate_callee (f := 15) rfl ?_); refine goesL_ (some 13) rfl rfl Try.func15 (by kernel_rfl) rfl #[.int .i64 a0] rfl (by (try simp only [List.map_toArray, List.map_cons, List.map_nil]); first | done | rfl | (simp only [List.length_drop, List.length_take]; rfl)) ?_; (with_reducible refine (wide_Of.calls a0 t400 t401 _ A3.out).mono ?_); rintro e w84 ⟨rfl, hb⟩; refine ⟨_, rfl, ?_⟩; have n0_ := Aside0.mk (below_step (by repeat (first | (with_reducible first | exact HB.out | apply below_alloc | apply pw_below_drewN | apply below_drew1) | exact HB.out)) hb); clear HB; have HB := n0_; clear n0_; (try clear hb); (try clear hb2); (try clear hk); (try clear hi)) | ((with_reducible refine gate_callee (f := 27) rfl ?_); refine goesL_ (some 14) rfl rfl Try.func27 (by kernel_rfl) rfl #[.agg #[.int .i64 t400, .int .u64 t401]] rfl (by (try simp only [List.map_toArray, List.map_cons, List.map_nil]); first | done | rfl | (simp only [List.length_drop, List.length_take]; rfl)) ?_; (with_reducible refine (wide_Int.calls t400 t401 t402 true _ A4.out).mono ?_); rintro e w85 ⟨rfl, hb⟩; refine ⟨_, rfl, ?_⟩; have n0_ := Aside0.mk (below_step (by repeat (first | (with_reducible first | exact HB.out | apply below_alloc | apply pw_below_drewN | apply below_drew1) | exact HB.out)) hb); clear HB; have HB := n0_; clear n0_; (try clear hb); (try clear hb2); (try clear hk); (try clear hi)) | ((with_reducible refine gate_dst (N := 7) rfl ?_); refine box_event ?hg (N := 7) ?hd (cs := #[.int .i64 0, .int .u64 0]) (t := 25) ?hr ?_; (case hd => rfl); (case hg => rfl); (case hr => first | (go_simp; done) | (go_simp; rfl)); intro gb404 hg w86 hbox hb; have n0_ := Aside0.mk (below_step (by repeat (first | (with_reducible first | exact HB.out | apply below_alloc | apply pw_below_drewN | apply below_drew1) | exact HB.out)) hb); have n1_ := Aside0.mk (hbox); have n2_ := Aside0.mk ((by rw [hg]; exact (below_size (by repeat (first | (with_reducible first | exact HB.out | apply below_alloc | apply pw_below_drewN | apply below_drew1) | exact HB.out))) : w.heap.size ≤ gb404)); have n3_ := Aside0.mk ((by rw [hg]; exact (below_size (by repeat (first | (with_reducible first | exact HB.out | apply below_alloc | apply pw_below_drewN | apply below_drew1) | exact HB.out))) : w.heap.size ≤ gb404)); clear HB; have HB := n0_; have BK404 := n1_; have GW404 := n2_; have GE404 := n3_; clear n0_ n1_ n2_ n3_; clear hb hbox hg; have hcz87_0 : w86.cell? ⟨gb404, 0, none⟩ = some (.int .i64 0) := (blk_cell BK404.out 0).trans rfl; have hcz87_1 : w86.cell? ⟨gb404, 1, none⟩ = some (.int .u64 0) := (blk_cell BK404.out 1).trans rfl; have hfz87_0 := blk_frozen BK404.out 0; have hfz87_1 := blk_frozen BK404.out 1) | ((with_reducible refine gate_callee (f := 27) rfl ?_); refine goesL_ (some 23) rfl rfl Try.func27 (by kernel_rfl) rfl #[.agg #[.int .i64 a1, .int .u64 (IntKind.u64.wrap (a0))]] rfl (by (try simp only [List.map_toArray, List.map_cons, List.map_nil]); first | done | rfl | (simp only [List.length_drop, List.length_take]; rfl)) ?_; (with_reducible refine (wide_Int.calls a1 (IntKind.u64.wrap (a0)) t405 false _ A5.out).mono ?_); rintro e w88 ⟨rfl, hb⟩; refine ⟨_, rfl, ?_⟩; have n0_ := Aside0.mk (blk_below (g := gb404) (o := .cells #[.int .i64 a1, .int .u64 (IntKind.u64.wrap (a0))] 25 (0, 0)) (by (with_reducible repeat (first | refine blk_drewN ?_ _ | refine blk_drew ?_ | refine blk_alloc ?_ _)); refine blk_put (cs := #[.int .i64 a1, .int .u64 0]) ?_ 1 _ rfl; (with_reducible repeat (first | refine blk_drewN ?_ _ | refine blk_drew ?_ | refine blk_alloc ?_ _)); refine blk_put (cs := #[.int .i64 0, .int .u64 0]) ?_ 0 _ rfl; (with_reducible repeat (first | refine blk_drewN ?_ _ | refine blk_drew ?_ | refine blk_alloc ?_ _)); exact BK404.out) hb); have n1_ := Aside0.mk (below_step (by repeat (first | (with_reducible first | exact HB.out | apply below_alloc | apply pw_below_drewN | apply below_drew1 | refine below_set ?_ GE404.out) | exact HB.out)) hb); clear BK404; clear HB; have BK404 := n0_; have HB := n1_; clear n0_ n1_; (try clear hb); (try clear hb2); (try clear hk); (try clear hi)) | (go_at_call 16; (with_reducible refine (lapidarylaw08_known.calls k  t414 _ A83.out).mono ?_); rintro e w89 ⟨rfl, hb⟩; have n0_ := Aside0.mk (blk_below (g := gb404) (o := .cells #[.int .i64 a1, .int .u64 (IntKind.u64.wrap (a0))] 25 (0, 0)) (by (with_reducible repeat (first | refine blk_drewN ?_ _ | refine blk_drew ?_ | refine blk_alloc ?_ _)); exact BK404.out) hb); have n1_ := Aside0.mk (below_step (by repeat (first | (with_reducible first | exact HB.out | apply below_alloc | apply pw_below_drewN | apply below_drew1 | refine below_set ?_ GE404.out) | exact HB.out)) hb); clear BK404; clear HB; have BK404 := n0_; have HB := n1_; clear n0_ n1_; (try clear hb); (try clear hb2); (try clear hk); (try clear hi)))
                go_ret
                exact ⟨by first | rfl | (simp [errW_none, errW_some] <;> rfl) | (simp [*, errW_none, errW_some] <;> rfl), by repeat (first | (with_reducible first | exact HB.out | apply below_alloc | apply pw_below_drewN | apply below_drew1 | refine below_set ?_ GE404.out) | exact HB.out)⟩
              · rw [if_neg c82] at H
                exact absurd H (by simp)
          · rw [if_neg c72] at H
            exact absurd H (by simp)
        · replace c71 := Bool.eq_false_iff.mpr c71
          subst c71
          have H1 : (none) = some r := by rw [if_neg (show ¬ (false = true) by decide)] at H; exact H
          clear H
          have H := H1
          clear H1
          exact absurd H (by simp)
      · rw [if_neg c70] at H
        exact absurd H (by simp)
    · rw [if_neg c69] at H
      have c69b0 : (a1 == (-1)) = false := beq_eq_false_iff_ne.mpr c69
      have c69b1 : (a1 != (-1)) = true := bne_iff_ne.mpr c69
      by_cases c90 : t402 = a0
      · rw [if_pos c90] at H
        have c90b0 : (t402 == a0) = true := beq_iff_eq.mpr c90
        have c90b1 : (t402 != a0) = false := bne_eq_false_iff_eq.mpr c90
        clear c90
        by_cases c91 : t403 = true
        · subst c91
          have H1 : (if (t406 == false) = true then (if t406 = true then (if t405 = a0 then ((lapidarylaw08_known.f k).bind fun t415 => (some t415)) else (none)) else (if t405 = 0 then ((lapidarylaw08_known.f k).bind fun t416 => (some t416)) else (none))) else (none)) = some r := by rw [if_pos rfl] at H; exact H
          clear H
          have H := H1
          clear H1
          by_cases c92 : (t406 == false) = true
          · rw [if_pos c92] at H
            have c92b0 : (t406 == false) = true := c92
            (try (have c92b1 : decide (t406 = false) = true := by simpa using c92))
            (try (have c92b2 : (t406 == false) = true := by simpa using c92))
            clear c92
            by_cases c93 : t406 = true
            · subst c93
              have H1 : (if t405 = a0 then ((lapidarylaw08_known.f k).bind fun t415 => (some t415)) else (none)) = some r := by rw [if_pos rfl] at H; exact H
              clear H
              have H := H1
              clear H1
              by_cases c94 : t405 = a0
              · rw [if_pos c94] at H
                have c94b0 : (t405 == a0) = true := beq_iff_eq.mpr c94
                have c94b1 : (t405 != a0) = false := bne_eq_false_iff_eq.mpr c94
                clear c94
                replace H := Option.bind_eq_some_iff.mp H
                obtain ⟨t415, A950, H⟩ := H
                replace H : (some t415) = some r := H
                have A95 := Aside0.mk A950
                clear A950
                obtain rfl := Option.some.inj H
                go_enter Try.func9, Try.ntmps9
                go_wp2_with (first | ((with_reducible refine gate_callee (f := 15) rfl ?_); refine goesL_ (some 13) rfl rfl Try.func15 (by kernel_rfl) rfl #[.int .i64 a0] rfl (by (try simp only [List.map_toArray, List.map_cons, List.map_nil]); first | done | rfl | (simp only [List.length_drop, List.length_take]; rfl)) ?_; (with_reducible refine (wide_Of.calls a0 t400 t401 _ A3.out).mono ?_); rintro e w96 ⟨rfl, hb⟩; refine ⟨_, rfl, ?_⟩; have n0_ := Aside0.mk (below_step (by repeat (first | (with_reducible first | exact HB.out | apply below_alloc | apply pw_below_drewN | apply below_drew1) | exact HB.out)) hb); clear HB; have HB := n0_; clear n0_; (try clear hb); (try clear hb2); (try clear hk); (try clear hi)) | ((with_reducible refine gate_callee (f := 27) rfl ?_); refine goesL_ (some 14) rfl rfl Try.func27 (by kernel_rfl) rfl #[.agg #[.int .i64 t400, .int .u64 t401]] rfl (by (try simp only [List.map_toArray, List.map_cons, List.map_nil]); first | done | rfl | (simp only [List.length_drop, List.length_take]; rfl)) ?_; (with_reducible refine (wide_Int.calls t400 t401 t402 true _ A4.out).mono ?_); rintro e w97 ⟨rfl, hb⟩; refine ⟨_, rfl, ?_⟩; have n0_ := Aside0.mk (below_step (by repeat (first | (with_reducible first | exact HB.out | apply below_alloc | apply pw_below_drewN | apply below_drew1) | exact HB.out)) hb); clear HB; have HB := n0_; clear n0_; (try clear hb); (try clear hb2); (try clear hk); (try clear hi)) | ((with_reducible refine gate_dst (N := 7) rfl ?_); refine box_event ?hg (N := 7) ?hd (cs := #[.int .i64 0, .int .u64 0]) (t := 25) ?hr ?_; (case hd => rfl); (case hg => rfl); (case hr => first | (go_simp; done) | (go_simp; rfl)); intro gb404 hg w98 hbox hb; have n0_ := Aside0.mk (below_step (by repeat (first | (with_reducible first | exact HB.out | apply below_alloc | apply pw_below_drewN | apply below_drew1) | exact HB.out)) hb); have n1_ := Aside0.mk (hbox); have n2_ := Aside0.mk ((by rw [hg]; exact (below_size (by repeat (first | (with_reducible first | exact HB.out | apply below_alloc | apply pw_below_drewN | apply below_drew1) | exact HB.out))) : w.heap.size ≤ gb404)); have n3_ := Aside0.mk ((by rw [hg]; exact (below_size (by repeat (first | (with_reducible first | exact HB.out | apply below_alloc | apply pw_below_drewN | apply below_drew1) | exact HB.out))) : w.heap.size ≤ gb404)); clear HB; have HB := n0_; have BK404 := n1_; have GW404 := n2_; have GE404 := n3_; clear n0_ n1_ n2_ n3_; clear hb hbox hg; have hcz99_0 : w98.cell? ⟨gb404, 0, none⟩ = some (.int .i64 0) := (blk_cell BK404.out 0).trans rfl; have hcz99_1 : w98.cell? ⟨gb404, 1, none⟩ = some (.int .u64 0) := (blk_cell BK404.out 1).trans rfl; have hfz99_0 := blk_frozen BK404.out 0; have hfz99_1 := blk_frozen BK404.out 1) | ((with_reducible refine gate_callee (f := 27) rfl ?_); refine goesL_ (some 23) rfl rfl Try.func27 (by kernel_rfl) rfl #[.agg #[.int .i64 a1, .int .u64 (IntKind.u64.wrap (a0))]] rfl (by (try simp only [List.map_toArray, List.map_cons, List.map_nil]); first | done | rfl | (simp only [List.length_drop, List.length_take]; rfl)) ?_; (with_reducible refine (wide_Int.calls a1 (IntKind.u64.wrap (a0)) t405 true _ A5.out).mono ?_); rintro e w100 ⟨rfl, hb⟩; refine ⟨_, rfl, ?_⟩; have n0_ := Aside0.mk (blk_below (g := gb404) (o := .cells #[.int .i64 a1, .int .u64 (IntKind.u64.wrap (a0))] 25 (0, 0)) (by (with_reducible repeat (first | refine blk_drewN ?_ _ | refine blk_drew ?_ | refine blk_alloc ?_ _)); refine blk_put (cs := #[.int .i64 a1, .int .u64 0]) ?_ 1 _ rfl; (with_reducible repeat (first | refine blk_drewN ?_ _ | refine blk_drew ?_ | refine blk_alloc ?_ _)); refine blk_put (cs := #[.int .i64 0, .int .u64 0]) ?_ 0 _ rfl; (with_reducible repeat (first | refine blk_drewN ?_ _ | refine blk_drew ?_ | refine blk_alloc ?_ _)); exact BK404.out) hb); have n1_ := Aside0.mk (below_step (by repeat (first | (with_reducible first | exact HB.out | apply below_alloc | apply pw_below_drewN | apply below_drew1 | refine below_set ?_ GE404.out) | exact HB.out)) hb); clear BK404; clear HB; have BK404 := n0_; have HB := n1_; clear n0_ n1_; (try clear hb); (try clear hb2); (try clear hk); (try clear hi)) | (go_at_call 16; (with_reducible refine (lapidarylaw08_known.calls k  t415 _ A95.out).mono ?_); rintro e w101 ⟨rfl, hb⟩; have n0_ := Aside0.mk (blk_below (g := gb404) (o := .cells #[.int .i64 a1, .int .u64 (IntKind.u64.wrap (a0))] 25 (0, 0)) (by (with_reducible repeat (first | refine blk_drewN ?_ _ | refine blk_drew ?_ | refine blk_alloc ?_ _)); exact BK404.out) hb); have n1_ := Aside0.mk (below_step (by repeat (first | (with_reducible first | exact HB.out | apply below_alloc | apply pw_below_drewN | apply below_drew1 | refine below_set ?_ GE404.out) | exact HB.out)) hb); clear BK404; clear HB; have BK404 := n0_; have HB := n1_; clear n0_ n1_; (try clear hb); (try clear hb2); (try clear hk); (try clear hi)))
                go_ret
                exact ⟨by first | rfl | (simp [errW_none, errW_some] <;> rfl) | (simp [*, errW_none, errW_some] <;> rfl), by repeat (first | (with_reducible first | exact HB.out | apply below_alloc | apply pw_below_drewN | apply below_drew1 | refine below_set ?_ GE404.out) | exact HB.out)⟩
              · rw [if_neg c94] at H
                exact absurd H (by simp)
            · replace c93 := Bool.eq_false_iff.mpr c93
              subst c93
              have H1 : (if t405 = 0 then ((lapidarylaw08_known.f k).bind fun t416 => (some t416)) else (none)) = some r := by rw [if_neg (show ¬ (false = true) by decide)] at H; exact H
              clear H
              have H := H1
              clear H1
              by_cases c102 : t405 = 0
              · rw [if_pos c102] at H
                have c102b0 : (t405 == 0) = true := beq_iff_eq.mpr c102
                have c102b1 : (t405 != 0) = false := bne_eq_false_iff_eq.mpr c102
                clear c102
                replace H := Option.bind_eq_some_iff.mp H
                obtain ⟨t416, A1030, H⟩ := H
                replace H : (some t416) = some r := H
                have A103 := Aside0.mk A1030
                clear A1030
                obtain rfl := Option.some.inj H
                go_enter Try.func9, Try.ntmps9
                go_wp2_with (first | ((with_reducible refine gate_callee (f := 15) rfl ?_); refine goesL_ (some 13) rfl rfl Try.func15 (by kernel_rfl) rfl #[.int .i64 a0] rfl (by (try simp only [List.map_toArray, List.map_cons, List.map_nil]); first | done | rfl | (simp only [List.length_drop, List.length_take]; rfl)) ?_; (with_reducible refine (wide_Of.calls a0 t400 t401 _ A3.out).mono ?_); rintro e w104 ⟨rfl, hb⟩; refine ⟨_, rfl, ?_⟩; have n0_ := Aside0.mk (below_step (by repeat (first | (with_reducible first | exact HB.out | apply below_alloc | apply pw_below_drewN | apply below_drew1) | exact HB.out)) hb); clear HB; have HB := n0_; clear n0_; (try clear hb); (try clear hb2); (try clear hk); (try clear hi)) | ((with_reducible refine gate_callee (f := 27) rfl ?_); refine goesL_ (some 14) rfl rfl Try.func27 (by kernel_rfl) rfl #[.agg #[.int .i64 t400, .int .u64 t401]] rfl (by (try simp only [List.map_toArray, List.map_cons, List.map_nil]); first | done | rfl | (simp only [List.length_drop, List.length_take]; rfl)) ?_; (with_reducible refine (wide_Int.calls t400 t401 t402 true _ A4.out).mono ?_); rintro e w105 ⟨rfl, hb⟩; refine ⟨_, rfl, ?_⟩; have n0_ := Aside0.mk (below_step (by repeat (first | (with_reducible first | exact HB.out | apply below_alloc | apply pw_below_drewN | apply below_drew1) | exact HB.out)) hb); clear HB; have HB := n0_; clear n0_; (try clear hb); (try clear hb2); (try clear hk); (try clear hi)) | ((with_reducible refine gate_dst (N := 7) rfl ?_); refine box_event ?hg (N := 7) ?hd (cs := #[.int .i64 0, .int .u64 0]) (t := 25) ?hr ?_; (case hd => rfl); (case hg => rfl); (case hr => first | (go_simp; done) | (go_simp; rfl)); intro gb404 hg w106 hbox hb; have n0_ := Aside0.mk (below_step (by repeat (first | (with_reducible first | exact HB.out | apply below_alloc | apply pw_below_drewN | apply below_drew1) | exact HB.out)) hb); have n1_ := Aside0.mk (hbox); have n2_ := Aside0.mk ((by rw [hg]; exact (below_size (by repeat (first | (with_reducible first | exact HB.out | apply below_alloc | apply pw_below_drewN | apply below_drew1) | exact HB.out))) : w.heap.size ≤ gb404)); have n3_ := Aside0.mk ((by rw [hg]; exact (below_size (by repeat (first | (with_reducible first | exact HB.out | apply below_alloc | apply pw_below_drewN | apply below_drew1) | exact HB.out))) : w.heap.size ≤ gb404)); clear HB; have HB := n0_; have BK404 := n1_; have GW404 := n2_; have GE404 := n3_; clear n0_ n1_ n2_ n3_; clear hb hbox hg; have hcz107_0 : w106.cell? ⟨gb404, 0, none⟩ = some (.int .i64 0) := (blk_cell BK404.out 0).trans rfl; have hcz107_1 : w106.cell? ⟨gb404, 1, none⟩ = some (.int .u64 0) := (blk_cell BK404.out 1).trans rfl; have hfz107_0 := blk_frozen BK404.out 0; have hfz107_1 := blk_frozen BK404.out 1) | ((with_reducible refine gate_callee (f := 27) rfl ?_); refine goesL_ (some 23) rfl rfl Try.func27 (by kernel_rfl) rfl #[.agg #[.int .i64 a1, .int .u64 (IntKind.u64.wrap (a0))]] rfl (by (try simp only [List.map_toArray, List.map_cons, List.map_nil]); first | done | rfl | (simp only [List.length_drop, List.length_take]; rfl)) ?_; (with_reducible refine (wide_Int.calls a1 (IntKind.u64.wrap (a0)) t405 false _ A5.out).mono ?_); rintro e w108 ⟨rfl, hb⟩; refine ⟨_, rfl, ?_⟩; have n0_ := Aside0.mk (blk_below (g := gb404) (o := .cells #[.int .i64 a1, .int .u64 (IntKind.u64.wrap (a0))] 25 (0, 0)) (by (with_reducible repeat (first | refine blk_drewN ?_ _ | refine blk_drew ?_ | refine blk_alloc ?_ _)); refine blk_put (cs := #[.int .i64 a1, .int .u64 0]) ?_ 1 _ rfl; (with_reducible repeat (first | refine blk_drewN ?_ _ | refine blk_drew ?_ | refine blk_alloc ?_ _)); refine blk_put (cs := #[.int .i64 0, .int .u64 0]) ?_ 0 _ rfl; (with_reducible repeat (first | refine blk_drewN ?_ _ | refine blk_drew ?_ | refine blk_alloc ?_ _)); exact BK404.out) hb); have n1_ := Aside0.mk (below_step (by repeat (first | (with_reducible first | exact HB.out | apply below_alloc | apply pw_below_drewN | apply below_drew1 | refine below_set ?_ GE404.out) | exact HB.out)) hb); clear BK404; clear HB; have BK404 := n0_; have HB := n1_; clear n0_ n1_; (try clear hb); (try clear hb2); (try clear hk); (try clear hi)) | (go_at_call 16; (with_reducible refine (lapidarylaw08_known.calls k  t416 _ A103.out).mono ?_); rintro e w109 ⟨rfl, hb⟩; have n0_ := Aside0.mk (blk_below (g := gb404) (o := .cells #[.int .i64 a1, .int .u64 (IntKind.u64.wrap (a0))] 25 (0, 0)) (by (with_reducible repeat (first | refine blk_drewN ?_ _ | refine blk_drew ?_ | refine blk_alloc ?_ _)); exact BK404.out) hb); have n1_ := Aside0.mk (below_step (by repeat (first | (with_reducible first | exact HB.out | apply below_alloc | apply pw_below_drewN | apply below_drew1 | refine below_set ?_ GE404.out) | exact HB.out)) hb); clear BK404; clear HB; have BK404 := n0_; have HB := n1_; clear n0_ n1_; (try clear hb); (try clear hb2); (try clear hk); (try clear hi)))
                go_ret
                exact ⟨by first | rfl | (simp [errW_none, errW_some] <;> rfl) | (simp [*, errW_none, errW_some] <;> rfl), by repeat (first | (with_reducible first | exact HB.out | apply below_alloc | apply pw_below_drewN | apply below_drew1 | refine below_set ?_ GE404.out) | exact HB.out)⟩
              · rw [if_neg c102] at H
                exact absurd H (by simp)
          · rw [if_neg c92] at H
            exact absurd H (by simp)
        · replace c91 := Bool.eq_false_iff.mpr c91
          subst c91
          have H1 : (none) = some r := by rw [if_neg (show ¬ (false = true) by decide)] at H; exact H
          clear H
          have H := H1
          clear H1
          exact absurd H (by simp)
      · rw [if_neg c90] at H
        exact absurd H (by simp)

/-- THE ONE PURE STATEMENT of lapidarylaw08_WideInts: yours. -/
def lapidarylaw08_WideInts.Pure : Prop := ∀ (a0 : Int) (a1 : Int), (Lit.int .i64 a0).wf = true → (Lit.int .i64 a1).wf = true → ∃ k, lapidarylaw08_WideInts.f k a0 a1 = some true
theorem lapidarylaw08_WideInts.walk (P : lapidarylaw08_WideInts.Pure) (a0 : Int) (a1 : Int) (w : World) (w0 : (Lit.int .i64 a0).wf = true) (w1 : (Lit.int .i64 a1).wf = true) :
    Calls Try.prog 9 #[.int .i64 a0, .int .i64 a1] w fun e w' => e = .returned (.bool true) ∧ Below w.heap.size w w' := by
  obtain ⟨k, h⟩ := P a0 a1 w0 w1
  refine (lapidarylaw08_WideInts.calls k a0 a1 true w h).mono ?_
  rintro e w' ⟨rfl, hd⟩
  exact ⟨rfl, hd⟩

end Go.Proofs.Ytaaeaihmhdlpfaa.P
