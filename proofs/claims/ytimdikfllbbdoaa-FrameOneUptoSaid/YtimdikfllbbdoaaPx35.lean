/- Written for this claim by a program of this session (a turned copy of the print): Go functions as Lean functions, and that the Go code comes to just these answers; or a statement proved out of them. No condition. -/
import Derived.Test.YtimdikfllbbdoaaPx0
import Derived.Test.YtimdikfllbbdoaaPx10
import Derived.Test.YtimdikfllbbdoaaPx13
import Derived.Test.YtimdikfllbbdoaaPx19
import Derived.Test.YtimdikfllbbdoaaPx24
namespace Go.Proofs.Ytimdikfllbbdoaa.P
open Go.RowKit Go.Proofs.YtimdikfllbbdoaaW.PrintWords Go.Proofs.YtimdikfllbbdoaaW.PrintLast Go.Proofs.YtimdikfllbbdoaaW.PrintMore Go.Proofs.Ytimdikfllbbdoaa.X
attribute [local go_sem] max2_int min2_int max_two min_two max_three min_three max_four min_four   -- for this text's walks alone
set_option linter.unusedVariables false
set_option linter.unusedSimpArgs false

/-! ### lapidarylaw03_FrameOne: function 6 -/
def lapidarylaw03_FrameOne.f (k : Nat) (a0_0 : Int) (l0_1 : List Int) : Option (Bool) := if (l0_1.length : Int) > 1000 then ((lapidarylaw03_known.f k).bind fun t434 => (some t434)) else ((frame_One.f k a0_0 l0_1).bind fun bt435 => ((lapidaryref03_One.f k a0_0 l0_1).bind fun bt439 => ((lapidaryref00_Same.f bt435.1 bt439.1).bind fun t443 => (if t443 = true then (if bt435.2 = bt439.2 then ((lapidarylaw03_known.f k).bind fun t444 => (some t444)) else (none)) else (none)))))
theorem lapidarylaw03_FrameOne.mono : ∀ a0 a1 k, LeO (lapidarylaw03_FrameOne.f k a0 a1) (lapidarylaw03_FrameOne.f (k + 1) a0 a1) := by
 intro a0 a1 k
 unfold lapidarylaw03_FrameOne.f
 repeat' first
   | (with_reducible exact frame_One.mono _ _ _)
   | (with_reducible exact lapidarylaw03_known.mono _)
   | (with_reducible exact lapidaryref03_One.mono _ _ _)
   | (with_reducible exact LeO.refl _)
   | (with_reducible exact LeO.none _)
   | (with_reducible refine LeO.ite ?_ ?_)
   | (with_reducible refine LeO.bind ?_ (fun _ => ?_))
   | exact frame_One.mono _ _ _
   | exact lapidarylaw03_known.mono _
   | exact lapidaryref03_One.mono _ _ _
   | exact LeO.none _
   | refine LeO.ite ?_ ?_
   | refine LeO.bind ?_ (fun _ => ?_)
set_option maxHeartbeats 8000000 in
set_option maxRecDepth 100000 in
theorem lapidarylaw03_FrameOne.calls (k : Nat) (a0_0 : Int) (A0_1 : Option Addr) (c0_1 : Nat) (l0_1 : List Int) (r : Bool) (w : World) (hr0_1 : Kd.C (Kd.int .u8) w A0_1 l0_1.length l0_1) (hc0_1 : l0_1.length ≤ c0_1) (h : lapidarylaw03_FrameOne.f k a0_0 l0_1 = some r) :
  Calls Try.prog 6 #[.agg #[.int .i64 a0_0, .slice A0_1 l0_1.length c0_1]] w fun e w' => e = .returned (.bool r) ∧ Below w.heap.size w w' := by
 have hu33 := Try.underlying33
 have HR0_1 := Aside0.mk hr0_1
 have HC0_1 := Aside0.mk hc0_1
 clear hr0_1 hc0_1
 have HB := Aside0.mk (Below.refl w.heap.size w)
 have H : (if (l0_1.length : Int) > 1000 then ((lapidarylaw03_known.f k).bind fun t434 => (some t434)) else ((frame_One.f k a0_0 l0_1).bind fun bt435 => ((lapidaryref03_One.f k a0_0 l0_1).bind fun bt439 => ((lapidaryref00_Same.f bt435.1 bt439.1).bind fun t443 => (if t443 = true then (if bt435.2 = bt439.2 then ((lapidarylaw03_known.f k).bind fun t444 => (some t444)) else (none)) else (none)))))) = some r := h
 clear h
 have HC2 := Aside0.mk H
 clear H
 go_enter Try.func6, Try.ntmps6
 go_upto_if 10 with (first | ((with_reducible refine gate_dst (N := 1) rfl ?_); refine box_event ?hg (N := 1) ?hd (cs := #[.int .i64 a0_0, .slice A0_1 l0_1.length c0_1]) (t := 33) ?hr ?_; (case hd => rfl); (case hg => rfl); (case hr => first | (go_simp; done) | (go_simp; rfl)); intro gb433 hg w3 hbox hb; have n0_ := Aside0.mk (below_step (bH HB) hb); have n1_ := Aside0.mk (hbox); have n2_ := Aside0.mk ((by rw [hg]; exact (below_size (bH HB)) : w.heap.size ≤ gb433)); have n3_ := n2_; clear HB; have HB := n0_; have BK433 := n1_; have GW433 := n2_; have GE433 := n3_; clear n0_ n1_ n2_ n3_; clear hb hbox hg; have hcz4_0 : w3.cell? ⟨gb433, 0, none⟩ = some (.int .i64 a0_0) := (blk_cell BK433.out 0).trans rfl; have hcz4_1 : w3.cell? ⟨gb433, 1, none⟩ = some (.slice A0_1 l0_1.length c0_1) := (blk_cell BK433.out 1).trans rfl; have hfz4_0 := blk_frozen BK433.out 0; have hfz4_1 := blk_frozen BK433.out 1))
 (try simp only [Act.put, List.setIfInBounds_toArray, List.set_cons_zero, List.set_cons_succ])
 have H := HC2.out
 clear HC2
 by_cases c5 : (l0_1.length : Int) > 1000
 ·rw [if_pos c5] at H
  have c5b0 : decide (1000 < (l0_1.length : Int)) = true := decide_eq_true c5
  have c5b1 : decide (1000 < l0_1.length) = true := decide_eq_true (by omega)
  clear c5
  (first | rw [c5b0] | (simp only [i64_w, i32_w]; rw [c5b0]) | skip)
  replace H := Option.bind_eq_some_iff.mp H
  obtain ⟨t434, A60, H⟩ := H
  replace H : (some t434) = some r := H
  have A6 := Aside0.mk A60
  clear A60
  obtain rfl := Option.some.inj H
  go_wp2_with (first | ((with_reducible refine gate_callee (f := 9) rfl ?_); refine goesL_ (some 11) rfl rfl Try.func9 (by kernel_rfl) rfl #[] rfl (by (try simp only [List.map_toArray, List.map_cons, List.map_nil]); first | done | rfl | (simp only [List.length_drop, List.length_take]; rfl)) ?_; (with_reducible refine (lapidarylaw03_known.calls k  t434 _ A6.out).mono ?_); rintro e w7 ⟨rfl, hb⟩; refine ⟨_, rfl, ?_⟩; have n0_ := Aside0.mk (blk_below (g := gb433) (o := .cells #[.int .i64 a0_0, .slice A0_1 l0_1.length c0_1] 33 (0, 0)) (bK BK433) hb); have n1_ := Aside0.mk (below_step (bH HB) hb); clear BK433; clear HB; have BK433 := n0_; have HB := n1_; clear n0_ n1_; (try clear hb); (try clear hb2); (try clear hk); (try clear hi)))
  go_ret
  exact ⟨by first | rfl | (simp [errW_none, errW_some] <;> rfl) | (simp [*, errW_none, errW_some] <;> rfl), bH HB⟩
 ·rw [if_neg c5] at H
  have c5b0 : decide (1000 < (l0_1.length : Int)) = false := decide_eq_false c5
  have c5b1 : decide (1000 < l0_1.length) = false := decide_eq_false (by omega)
  clear c5
  (first | rw [c5b0] | (simp only [i64_w, i32_w]; rw [c5b0]) | skip)
  replace H := Option.bind_eq_some_iff.mp H
  obtain ⟨⟨t435, t438⟩, A80, H⟩ := H
  replace H : ((lapidaryref03_One.f k a0_0 l0_1).bind fun bt439 => ((lapidaryref00_Same.f t435 bt439.1).bind fun t443 => (if t443 = true then (if t438 = bt439.2 then ((lapidarylaw03_known.f k).bind fun t444 => (some t444)) else (none)) else (none)))) = some r := H
  have A8 := Aside0.mk A80
  clear A80
  replace H := Option.bind_eq_some_iff.mp H
  obtain ⟨⟨t439, t442⟩, A90, H⟩ := H
  replace H : ((lapidaryref00_Same.f t435 t439).bind fun t443 => (if t443 = true then (if t438 = t442 then ((lapidarylaw03_known.f k).bind fun t444 => (some t444)) else (none)) else (none))) = some r := H
  have A9 := Aside0.mk A90
  clear A90
  replace H := Option.bind_eq_some_iff.mp H
  obtain ⟨t443, A100, H⟩ := H
  replace H : (if t443 = true then (if t438 = t442 then ((lapidarylaw03_known.f k).bind fun t444 => (some t444)) else (none)) else (none)) = some r := H
  have A10 := Aside0.mk A100
  clear A100
  by_cases c11 : t443 = true
  ·subst c11
   have H1 : (if t438 = t442 then ((lapidarylaw03_known.f k).bind fun t444 => (some t444)) else (none)) = some r := by rw [if_pos rfl] at H; exact H
   clear H
   have H := H1
   clear H1
   by_cases c12 : t438 = t442
   ·rw [if_pos c12] at H
    have c12b0 : (t438 == t442) = true := beq_iff_eq.mpr c12
    have c12b1 : (t438 != t442) = false := bne_eq_false_iff_eq.mpr c12
    clear c12
    replace H := Option.bind_eq_some_iff.mp H
    obtain ⟨t444, A130, H⟩ := H
    replace H : (some t444) = some r := H
    have A13 := Aside0.mk A130
    clear A130
    obtain rfl := Option.some.inj H
    have hcz14_0 : w3.cell? ⟨gb433, 0, none⟩ = some (.int .i64 a0_0) := (blk_cell BK433.out 0).trans rfl
    have hcz14_1 : w3.cell? ⟨gb433, 1, none⟩ = some (.slice A0_1 l0_1.length c0_1) := (blk_cell BK433.out 1).trans rfl
    have hfz14_0 := blk_frozen BK433.out 0
    have hfz14_1 := blk_frozen BK433.out 1
    go_wp2_with (first | ((with_reducible refine gate_callee (f := 12) rfl ?_); refine goesL_ (some 14) rfl rfl Try.func12 (by kernel_rfl) rfl #[.agg #[.int .i64 a0_0, .slice A0_1 l0_1.length c0_1]] rfl (by (try simp only [List.map_toArray, List.map_cons, List.map_nil]); first | done | rfl | (simp only [List.length_drop, List.length_take]; rfl)) ?_; (with_reducible refine (frame_One.calls k a0_0 _ _ l0_1 t435 t438 _ ?side1 ?side2 A8.out).mono ?_); (case side1 => repeat (first | exact (Kd.C_below HR0_1.out HB.out) | (with_reducible refine Kd.C_alloc ?_ _) | (with_reducible refine Kd.C_drewN ?_ _) | (with_reducible refine Kd.C_drew ?_))); (case side2 => exact HC0_1.out); rintro e w15 ⟨v436, rfl, ho0, hb⟩; refine ⟨_, rfl, ?_⟩; have n0_ := Aside0.mk (Kd.R_lower ho0 (below_size (bH HB))); have n1_ := Aside0.mk (blk_below (g := gb433) (o := .cells #[.int .i64 a0_0, .slice A0_1 l0_1.length c0_1] 33 (0, 0)) (bK BK433) hb); have n2_ := Aside0.mk (below_step (bH HB) hb); clear BK433; clear HB; have HO437 := n0_; have BK433 := n1_; have HB := n2_; clear n0_ n1_ n2_; (try clear hb); (try clear hb2); (try clear hk); (try clear hi); (try clear ho0); have hcz16_0 : w15.cell? ⟨gb433, 0, none⟩ = some (.int .i64 a0_0) := (blk_cell BK433.out 0).trans rfl; have hcz16_1 : w15.cell? ⟨gb433, 1, none⟩ = some (.slice A0_1 l0_1.length c0_1) := (blk_cell BK433.out 1).trans rfl; have hfz16_0 := blk_frozen BK433.out 0; have hfz16_1 := blk_frozen BK433.out 1) | ((with_reducible refine gate_callee (f := 13) rfl ?_); refine goesL_ (some 19) rfl rfl Try.func13 (by kernel_rfl) rfl #[.agg #[.int .i64 a0_0, .slice A0_1 l0_1.length c0_1]] rfl (by (try simp only [List.map_toArray, List.map_cons, List.map_nil]); first | done | rfl | (simp only [List.length_drop, List.length_take]; rfl)) ?_; (with_reducible refine (lapidaryref03_One.calls k a0_0 _ _ l0_1 t439 t442 _ ?side1 ?side2 A9.out).mono ?_); (case side1 => repeat (first | exact (Kd.C_below HR0_1.out HB.out) | (with_reducible refine Kd.C_alloc ?_ _) | (with_reducible refine Kd.C_drewN ?_ _) | (with_reducible refine Kd.C_drew ?_))); (case side2 => exact HC0_1.out); rintro e w17 ⟨v440, rfl, ho0, hb⟩; refine ⟨_, rfl, ?_⟩; have n0_ := Aside0.mk (Kd.R_elder' (rK HO437) (Kd.R_base ho0) hb); have n1_ := Aside0.mk (Kd.R_lower (Kd.R_new' ho0 (Kd.R_lt (rK HO437))) (below_size (bH HB))); have n2_ := Aside0.mk (blk_below (g := gb433) (o := .cells #[.int .i64 a0_0, .slice A0_1 l0_1.length c0_1] 33 (0, 0)) (bK BK433) hb); have n3_ := Aside0.mk (below_step (bH HB) hb); clear HO437; clear BK433; clear HB; have HO437 := n0_; have HO441 := n1_; have BK433 := n2_; have HB := n3_; clear n0_ n1_ n2_ n3_; (try clear hb); (try clear hb2); (try clear hk); (try clear hi); (try clear ho0); obtain ⟨Ao18, co18, eo18⟩ := Kd.R_slice HO437.out; subst eo18; obtain ⟨Ao19, co19, eo19⟩ := Kd.R_slice HO441.out; subst eo19) | ((with_reducible refine gate_callee (f := 14) rfl ?_); refine goesL_ (some 24) rfl rfl Try.func14 (by kernel_rfl) rfl #[.slice Ao18 t435.length co18, .slice Ao19 t439.length co19] rfl (by (try simp only [List.map_toArray, List.map_cons, List.map_nil]); first | done | rfl | (simp only [List.length_drop, List.length_take]; rfl)) ?_; (with_reducible refine (lapidaryref00_Same.calls _ _ t435 _ _ t439 true _ ?side1 ?side2 ?side3 ?side4 A10.out).mono ?_); (case side1 => repeat (first | exact (Kd.R_reads' HO437.out).2.2 | (with_reducible refine Kd.C_alloc ?_ _) | (with_reducible refine Kd.C_drewN ?_ _) | (with_reducible refine Kd.C_drew ?_))); (case side2 => exact (Kd.R_reads' HO437.out).2.1); (case side3 => repeat (first | exact (Kd.R_reads' HO441.out).2.2 | (with_reducible refine Kd.C_alloc ?_ _) | (with_reducible refine Kd.C_drewN ?_ _) | (with_reducible refine Kd.C_drew ?_))); (case side4 => exact (Kd.R_reads' HO441.out).2.1); rintro e w' ⟨rfl, ⟨nd, rfl⟩⟩; refine ⟨_, rfl, ?_⟩) | (go_at_call 9; (with_reducible refine (lapidarylaw03_known.calls k  t444 _ A13.out).mono ?_); rintro e w20 ⟨rfl, hb⟩; have n0_ := Aside0.mk (Kd.R_below (rK HO437) hb); have n1_ := Aside0.mk (Kd.R_below (rK HO441) hb); have n2_ := Aside0.mk (blk_below (g := gb433) (o := .cells #[.int .i64 a0_0, .slice A0_1 l0_1.length c0_1] 33 (0, 0)) (bK BK433) hb); have n3_ := Aside0.mk (below_step (bH HB) hb); clear HO437; clear HO441; clear BK433; clear HB; have HO437 := n0_; have HO441 := n1_; have BK433 := n2_; have HB := n3_; clear n0_ n1_ n2_ n3_; (try clear hb); (try clear hb2); (try clear hk); (try clear hi)))
    go_ret
    exact ⟨by first | rfl | (simp [errW_none, errW_some] <;> rfl) | (simp [*, errW_none, errW_some] <;> rfl), bH HB⟩
   ·rw [if_neg c12] at H
    exact absurd H (by simp)
  ·replace c11 := Bool.eq_false_iff.mpr c11
   subst c11
   have H1 : (none) = some r := by rw [if_neg (show ¬ (false = true) by decide)] at H; exact H
   clear H
   have H := H1
   clear H1
   exact absurd H (by simp)

end Go.Proofs.Ytimdikfllbbdoaa.P
