/- Written for this claim by a program of this session (a turned copy of the print): Go functions as Lean functions, and that the Go code comes to just these answers; or a statement proved out of them. No condition. -/
import Derived.Test.YtlnjbpapbifjfaaPx0
import Derived.Test.YtlnjbpapbifjfaaPx30
import Derived.Test.YtlnjbpapbifjfaaPx43
import Derived.Test.YtlnjbpapbifjfaaPx44
namespace Go.Proofs.Ytlnjbpapbifjfaa.P
open Go.RowKit Go.Proofs.YtlnjbpapbifjfaaW.PrintWords Go.Proofs.YtlnjbpapbifjfaaW.PrintLast Go.Proofs.YtlnjbpapbifjfaaW.PrintMore Go.Proofs.Ytlnjbpapbifjfaa.X
attribute [local go_sem] max2_int min2_int max_two min_two max_three min_three max_four min_four add64_0 add64_1 add64   -- for this text's walks alone
set_option linter.unusedVariables false
set_option linter.unusedSimpArgs false

/-! ### lapidarylaw09_GeomIns: function 10 -/
mutual
def lapidarylaw09_GeomIns.j0 : Nat → List (S23) → Int → Int → Int → Int → Int → Option (Bool)
 | 0, _, _, _, _, _, _ => none
 | k + 1, x1, x7, x8, x590000, x590001, x590002 => lapidarylaw09_GeomIns.l0 k x1 x7 x8 ([] : List (S23)) 0 x590000 x590001 x590002
def lapidarylaw09_GeomIns.l0 : Nat → List (S23) → Int → Int → List (S23) → Int → Int → Int → Int → Option (Bool)
 | 0, _, _, _, _, _, _, _, _ => none
 | k + 1, x1, x7, x8, x9, x10, x590000, x590001, x590002 => if x10 < (x1.length : Int) then (if (x1.length : Int) = 0 then (none) else (if 0 ≤ (Int.tmod (wrap64 ((wrap64 ((wrap64 ((wrap64 (2 * (x1.length : Int))) - 1)) - x10)) + x8)) (x1.length : Int)) then (if (Int.tmod (wrap64 ((wrap64 ((wrap64 ((wrap64 (2 * (x1.length : Int))) - 1)) - x10)) + x8)) (x1.length : Int)) < (x1.length : Int) then (if x9.length < 5864062014805 then (lapidarylaw09_GeomIns.l0 k x1 x7 x8 (x9 ++ [(⟨(rd_T23 x1 (Int.tmod (wrap64 ((wrap64 ((wrap64 ((wrap64 (2 * (x1.length : Int))) - 1)) - x10)) + x8)) (x1.length : Int))).f0, (rd_T23 x1 (Int.tmod (wrap64 ((wrap64 ((wrap64 ((wrap64 (2 * (x1.length : Int))) - 1)) - x10)) + x8)) (x1.length : Int))).f1, (rd_T23 x1 (Int.tmod (wrap64 ((wrap64 ((wrap64 ((wrap64 (2 * (x1.length : Int))) - 1)) - x10)) + x8)) (x1.length : Int))).f2⟩ : S23)]) (wrap64 (x10 + 1)) x590000 x590001 x590002) else (none)) else (none)) else (none))) else ((lapidaryref09_In.f k x590000 x590001 x590002 x1).bind fun t596 => (if x7 = t596 then ((geom_In.f k x590000 x590001 x590002 x9).bind fun t597 => (if t597 = x7 then ((lapidarylaw09_known.f k).bind fun t598 => (some t598)) else (none))) else (none)))
end
def lapidarylaw09_GeomIns.f (k : Nat) (a0_0 : Int) (a0_1 : Int) (a0_2 : Int) (l1 : List (S23)) (a2 : Int) : Option (Bool) := if (l1.length : Int) > 60 then ((lapidarylaw09_known.f k).bind fun t590 => (some t590)) else ((geom_In.f k a0_0 a0_1 a0_2 l1).bind fun t591 => (if (l1.length : Int) > 0 then (if (l1.length : Int) = 0 then (none) else (lapidarylaw09_GeomIns.j0 k l1 t591 (Int.tmod (wrap64 (a2)) (l1.length : Int)) a0_0 a0_1 a0_2)) else (lapidarylaw09_GeomIns.j0 k l1 t591 0 a0_0 a0_1 a0_2)))
theorem lapidarylaw09_GeomIns.mono_l : ∀ k, (∀ y0 y1 y2 y3 y4 y5, LeO (lapidarylaw09_GeomIns.j0 k y0 y1 y2 y3 y4 y5) (lapidarylaw09_GeomIns.j0 (k + 1) y0 y1 y2 y3 y4 y5)) ∧ (∀ y0 y1 y2 y3 y4 y5 y6 y7, LeO (lapidarylaw09_GeomIns.l0 k y0 y1 y2 y3 y4 y5 y6 y7) (lapidarylaw09_GeomIns.l0 (k + 1) y0 y1 y2 y3 y4 y5 y6 y7))
 | 0 => ⟨fun _ _ _ _ _ _ r h => by simp [lapidarylaw09_GeomIns.j0] at h, fun _ _ _ _ _ _ _ _ r h => by simp [lapidarylaw09_GeomIns.l0] at h⟩
 | k + 1 => by
  obtain ⟨ih0, ih1⟩ := lapidarylaw09_GeomIns.mono_l k
  refine ⟨?_, ?_⟩
  ·intro y0 y1 y2 y3 y4 y5
   unfold lapidarylaw09_GeomIns.j0
   repeat' first
   | (with_reducible exact ih0 _ _ _ _ _ _)
   | (with_reducible exact ih1 _ _ _ _ _ _ _ _)
   | (with_reducible exact geom_In.mono _ _ _ _ _)
   | (with_reducible exact lapidarylaw09_known.mono _)
   | (with_reducible exact lapidaryref09_In.mono _ _ _ _ _)
   | (with_reducible exact LeO.refl _)
   | (with_reducible exact LeO.none _)
   | (with_reducible refine LeO.ite ?_ ?_)
   | (with_reducible refine LeO.bind ?_ (fun _ => ?_))
   | exact ih0 _ _ _ _ _ _
   | exact ih1 _ _ _ _ _ _ _ _
   | exact geom_In.mono _ _ _ _ _
   | exact lapidarylaw09_known.mono _
   | exact lapidaryref09_In.mono _ _ _ _ _
   | exact LeO.none _
   | refine LeO.ite ?_ ?_
   | refine LeO.bind ?_ (fun _ => ?_)
  ·intro y0 y1 y2 y3 y4 y5 y6 y7
   unfold lapidarylaw09_GeomIns.l0
   repeat' first
   | (with_reducible exact ih0 _ _ _ _ _ _)
   | (with_reducible exact ih1 _ _ _ _ _ _ _ _)
   | (with_reducible exact geom_In.mono _ _ _ _ _)
   | (with_reducible exact lapidarylaw09_known.mono _)
   | (with_reducible exact lapidaryref09_In.mono _ _ _ _ _)
   | (with_reducible exact LeO.refl _)
   | (with_reducible exact LeO.none _)
   | (with_reducible refine LeO.ite ?_ ?_)
   | (with_reducible refine LeO.bind ?_ (fun _ => ?_))
   | exact ih0 _ _ _ _ _ _
   | exact ih1 _ _ _ _ _ _ _ _
   | exact geom_In.mono _ _ _ _ _
   | exact lapidarylaw09_known.mono _
   | exact lapidaryref09_In.mono _ _ _ _ _
   | exact LeO.none _
   | refine LeO.ite ?_ ?_
   | refine LeO.bind ?_ (fun _ => ?_)
theorem lapidarylaw09_GeomIns.mono : ∀ a0 a1 a2 a3 a4 k, LeO (lapidarylaw09_GeomIns.f k a0 a1 a2 a3 a4) (lapidarylaw09_GeomIns.f (k + 1) a0 a1 a2 a3 a4) := by
 intro a0 a1 a2 a3 a4 k
 obtain ⟨ih0, ih1⟩ := lapidarylaw09_GeomIns.mono_l k
 unfold lapidarylaw09_GeomIns.f
 repeat' first
   | (with_reducible exact ih0 _ _ _ _ _ _)
   | (with_reducible exact ih1 _ _ _ _ _ _ _ _)
   | (with_reducible exact geom_In.mono _ _ _ _ _)
   | (with_reducible exact lapidarylaw09_known.mono _)
   | (with_reducible exact lapidaryref09_In.mono _ _ _ _ _)
   | (with_reducible exact LeO.refl _)
   | (with_reducible exact LeO.none _)
   | (with_reducible refine LeO.ite ?_ ?_)
   | (with_reducible refine LeO.bind ?_ (fun _ => ?_))
   | exact ih0 _ _ _ _ _ _
   | exact ih1 _ _ _ _ _ _ _ _
   | exact geom_In.mono _ _ _ _ _
   | exact lapidarylaw09_known.mono _
   | exact lapidaryref09_In.mono _ _ _ _ _
   | exact LeO.none _
   | refine LeO.ite ?_ ?_
   | refine LeO.bind ?_ (fun _ => ?_)
set_option maxHeartbeats 8000000 in
set_option maxRecDepth 100000 in
theorem lapidarylaw09_GeomIns.calls (k : Nat) (a0_0 : Int) (a0_1 : Int) (a0_2 : Int) (A1 : Option Addr) (c1 : Nat) (l1 : List (S23)) (a2 : Int) (r : Bool) (w : World) (hr1 : Kd.C k23 w A1 l1.length l1) (hc1 : l1.length ≤ c1) (h : lapidarylaw09_GeomIns.f k a0_0 a0_1 a0_2 l1 a2 = some r) :
  Calls Try.prog 10 #[.agg #[.int .i64 a0_0, .int .i64 a0_1, .int .i64 a0_2], .slice A1 l1.length c1, .int .u8 a2] w fun e w' => e = .returned (.bool r) ∧ Below w.heap.size w w' := by
 have hu23 := Try.underlying23
 have HR1 := Aside0.mk hr1
 have HC1 := Aside0.mk hc1
 clear hr1 hc1
 have HB := Aside0.mk (Below.refl w.heap.size w)
 have H : (if (l1.length : Int) > 60 then ((lapidarylaw09_known.f k).bind fun t590 => (some t590)) else ((geom_In.f k a0_0 a0_1 a0_2 l1).bind fun t591 => (if (l1.length : Int) > 0 then (if (l1.length : Int) = 0 then (none) else (lapidarylaw09_GeomIns.j0 k l1 t591 (Int.tmod (wrap64 (a2)) (l1.length : Int)) a0_0 a0_1 a0_2)) else (lapidarylaw09_GeomIns.j0 k l1 t591 0 a0_0 a0_1 a0_2)))) = some r := h
 clear h
 have HC4 := Aside0.mk H
 clear H
 go_enter Try.func10, Try.ntmps10
 go_upto_if 13 with (first | ((with_reducible refine gate_dst (N := 3) rfl ?_); refine box_event ?hg (N := 3) ?hd (cs := #[.int .i64 a0_0, .int .i64 a0_1, .int .i64 a0_2]) (t := 23) ?hr ?_; (case hd => rfl); (case hg => rfl); (case hr => first | (go_simp; done) | (go_simp; rfl)); intro gb589 hg w5 hbox hb; have n0_ := Aside0.mk (below_step (bH HB) hb); have n1_ := Aside0.mk (hbox); have n2_ := Aside0.mk ((by rw [hg]; exact (below_size (bH HB)) : w.heap.size ≤ gb589)); have n3_ := n2_; clear HB; have HB := n0_; have BK589 := n1_; have GW589 := n2_; have GE589 := n3_; clear n0_ n1_ n2_ n3_; clear hb hbox hg))
 (try simp only [Act.put, List.setIfInBounds_toArray, List.set_cons_zero, List.set_cons_succ])
 have H := HC4.out
 clear HC4
 by_cases c6 : (l1.length : Int) > 60
 ·rw [if_pos c6] at H
  have c6b0 : decide (60 < (l1.length : Int)) = true := decide_eq_true c6
  have c6b1 : decide (60 < l1.length) = true := decide_eq_true (by omega)
  clear c6
  (first | rw [c6b0] | (simp only [i64_w, i32_w]; rw [c6b0]) | skip)
  replace H := Option.bind_eq_some_iff.mp H
  obtain ⟨t590, A70, H⟩ := H
  replace H : (some t590) = some r := H
  have A7 := Aside0.mk A70
  clear A70
  obtain rfl := Option.some.inj H
  go_wp2_with (first | ((with_reducible refine gate_callee (f := 13) rfl ?_); refine goesL_ (some 14) rfl rfl Try.func13 (by kernel_rfl) rfl #[] rfl (by (try simp only [List.map_toArray, List.map_cons, List.map_nil]); first | done | rfl | (simp only [List.length_drop, List.length_take]; rfl)) ?_; (with_reducible refine (lapidarylaw09_known.calls k  t590 _ A7.out).mono ?_); rintro e w8 ⟨rfl, hb⟩; refine ⟨_, rfl, ?_⟩; have n0_ := Aside0.mk (blk_below (g := gb589) (o := .cells #[.int .i64 a0_0, .int .i64 a0_1, .int .i64 a0_2] 23 (0, 0)) (bK BK589) hb); have n1_ := Aside0.mk (below_step (bH HB) hb); clear BK589; clear HB; have BK589 := n0_; have HB := n1_; clear n0_ n1_; (try clear hb); (try clear hb2); (try clear hk); (try clear hi)))
  go_ret
  exact ⟨by first | rfl | (simp [errW_none, errW_some] <;> rfl) | (simp [*, errW_none, errW_some] <;> rfl), bH HB⟩
 ·rw [if_neg c6] at H
  have c6b0 : decide (60 < (l1.length : Int)) = false := decide_eq_false c6
  have c6b1 : decide (60 < l1.length) = false := decide_eq_false (by omega)
  clear c6
  (first | rw [c6b0] | (simp only [i64_w, i32_w]; rw [c6b0]) | skip)
  replace H := Option.bind_eq_some_iff.mp H
  obtain ⟨t591, A90, H⟩ := H
  replace H : (if (l1.length : Int) > 0 then (if (l1.length : Int) = 0 then (none) else (lapidarylaw09_GeomIns.j0 k l1 t591 (Int.tmod (wrap64 (a2)) (l1.length : Int)) a0_0 a0_1 a0_2)) else (lapidarylaw09_GeomIns.j0 k l1 t591 0 a0_0 a0_1 a0_2)) = some r := H
  have A9 := Aside0.mk A90
  clear A90
  have HC10 := Aside0.mk H
  clear H
  have hcz11_0 : w5.cell? ⟨gb589, 0, none⟩ = some (.int .i64 a0_0) := (blk_cell BK589.out 0).trans rfl
  have hcz11_1 : w5.cell? ⟨gb589, 1, none⟩ = some (.int .i64 a0_1) := (blk_cell BK589.out 1).trans rfl
  have hcz11_2 : w5.cell? ⟨gb589, 2, none⟩ = some (.int .i64 a0_2) := (blk_cell BK589.out 2).trans rfl
  have hfz11_0 := blk_frozen BK589.out 0
  have hfz11_1 := blk_frozen BK589.out 1
  have hfz11_2 := blk_frozen BK589.out 2
  go_upto_if 20 with (first | ((with_reducible refine gate_callee (f := 25) rfl ?_); refine goesL_ (some 17) rfl rfl Try.func25 (by kernel_rfl) rfl #[.agg #[.int .i64 a0_0, .int .i64 a0_1, .int .i64 a0_2], .slice A1 l1.length c1] rfl (by (try simp only [List.map_toArray, List.map_cons, List.map_nil]); first | done | rfl | (simp only [List.length_drop, List.length_take]; rfl)) ?_; (with_reducible refine (geom_In.calls k a0_0 a0_1 a0_2 _ _ l1 t591 _ ?side1 ?side2 A9.out).mono ?_); (case side1 => repeat (first | exact (Kd.C_below HR1.out HB.out) | (with_reducible refine Kd.C_alloc ?_ _) | (with_reducible refine Kd.C_drewN ?_ _) | (with_reducible refine Kd.C_drew ?_))); (case side2 => exact HC1.out); rintro e w12 ⟨rfl, hb⟩; refine ⟨_, rfl, ?_⟩; have n0_ := Aside0.mk (blk_below (g := gb589) (o := .cells #[.int .i64 a0_0, .int .i64 a0_1, .int .i64 a0_2] 23 (0, 0)) (bK BK589) hb); have n1_ := Aside0.mk (below_step (bH HB) hb); clear BK589; clear HB; have BK589 := n0_; have HB := n1_; clear n0_ n1_; (try clear hb); (try clear hb2); (try clear hk); (try clear hi)))
  (try simp only [Act.put, List.setIfInBounds_toArray, List.set_cons_zero, List.set_cons_succ])
  go_cut [8] (fun v8 wc => ∃ (kq : Nat) (x8_9 : Int), v8 = .int .i64 x8_9 ∧ Aside0 (lapidarylaw09_GeomIns.j0 kq l1 t591 x8_9 a0_0 a0_1 a0_2 = some r) ∧ Aside0 (kq ≤ k) ∧ Aside0 (wc.heap[gb589]? = some (.cells #[.int .i64 a0_0, .int .i64 a0_1, .int .i64 a0_2] 23 (0, 0))) ∧ Aside0 (Below w.heap.size w wc))
  case first =>
   have H := HC10.out
   clear HC10
   by_cases c13 : (l1.length : Int) > 0
   ·rw [if_pos c13] at H
    have c13b0 : decide (0 < (l1.length : Int)) = true := decide_eq_true c13
    have c13b1 : decide (0 < l1.length) = true := decide_eq_true (by omega)
    clear c13
    (first | rw [c13b0] | (simp only [i64_w, i32_w]; rw [c13b0]) | skip)
    by_cases c14 : (l1.length : Int) = 0
    ·rw [if_pos c14] at H
     exact absurd H (by simp)
    ·rw [if_neg c14] at H
     have c14b0 : ((l1.length : Int) == 0) = false := beq_eq_false_iff_ne.mpr c14
     have c14b1 : ((l1.length : Int) != 0) = true := bne_iff_ne.mpr c14
     have c14b2 : ¬ (l1 = []) := fun h_ => c14 (by rw [h_]; rfl)
     have H' := Aside0.mk H
     clear H
     go_wp2
     go_meet
     case rel => exact ⟨_, (Int.tmod (wrap64 (a2)) (l1.length : Int)), (by first | rfl | (simp; done) | (simp [*]; done)), H', ⟨by first | omega | exact Nat.le_refl _⟩, ⟨bK BK589⟩, ⟨ bH HB⟩⟩
   ·rw [if_neg c13] at H
    have c13b0 : decide (0 < (l1.length : Int)) = false := decide_eq_false c13
    have c13b1 : decide (0 < l1.length) = false := decide_eq_false (by omega)
    have c13b2 : ¬ (0 < l1.length) := by omega
    clear c13
    (first | rw [c13b0] | (simp only [i64_w, i32_w]; rw [c13b0]) | skip)
    have H' := Aside0.mk H
    clear H
    go_wp2
    go_meet
    case rel => exact ⟨_, (0), (by first | rfl | (simp; done) | (simp [*]; done)), H', ⟨by first | omega | exact Nat.le_refl _⟩, ⟨bK BK589⟩, ⟨ bH HB⟩⟩
  case rest =>
   clear HC10
   try clear c1
   try clear c2
   try clear p2
   try clear c6
   try clear c6b0
   try clear c6b1
   try clear p6
   try clear c10
   try clear c13
   try clear c13b0
   try clear c13b1
   try clear c13b2
   try clear c14
   try clear c14b0
   try clear c14b1
   try clear c14b2
   try clear hcz11_0
   try clear hcz11_1
   try clear hcz11_2
   try clear hfz11_0
   try clear hfz11_1
   try clear hfz11_2
   obtain ⟨kq, x8_9, rfl, HA, HJ9, BK589, HB⟩ := hcut
   cases kq with
   | zero => exact absurd HA.out (by simp [lapidarylaw09_GeomIns.j0])
   | succ kj9 =>
    have H := HA.out
    clear HA
    simp only [lapidarylaw09_GeomIns.j0] at H
    have H' := Aside0.mk H
    clear H
    go_wp2
    go_loopg [9, 10] kj9 (fun kq v9 v10 w' => ∃ (x9_2 : List (S23)) (x10_2 : Int), v10 = .int .i64 x10_2 ∧ Aside0 (lapidarylaw09_GeomIns.l0 kq l1 t591 x8_9 x9_2 x10_2 a0_0 a0_1 a0_2 = some r) ∧ Aside0 (kq ≤ kj9) ∧ Aside0 (Kd.R k23 23 w' w.heap.size (fun k_ => k_ ≠ gb589) v9 x9_2) ∧ Aside0 (w'.heap[gb589]? = some (.cells #[.int .i64 a0_0, .int .i64 a0_1, .int .i64 a0_2] 23 (0, 0))) ∧ Aside0 (Below w.heap.size w w'))
    case atStart => exact ⟨(([] : List (S23))), (0), (by first | rfl | (simp; done) | (simp [*]; done)), H', ⟨Nat.le_refl _⟩, ⟨by first | exact Kd.R_nil _ _ _ _ _ | exact Kd.N_nil _ _ _ _ _ | exact Kd.V_nil _ _ _ _ _ | exact Kd.Q_nil _ _ _ _ _ | exact Kd.S_nil _ _ _ _ _⟩, ⟨bK BK589⟩, ⟨ bH HB⟩⟩
    case round =>
     clear H'
     try clear c1
     try clear c2
     try clear p2
     try clear c6
     try clear c6b0
     try clear c6b1
     try clear p6
     try clear c10
     try clear c13
     try clear c13b0
     try clear c13b1
     try clear c13b2
     try clear c14
     try clear c14b0
     try clear c14b1
     try clear c14b2
     try clear hcz11_0
     try clear hcz11_1
     try clear hcz11_2
     try clear hfz11_0
     try clear hfz11_1
     try clear hfz11_2
     try clear p2
     try clear p6
     obtain ⟨x9_2, x10_2, rfl, HA, HK2, HO_9, BK589, HB⟩ := hrel
     cases gk with
     | zero => exact absurd HA.out (by simp [lapidarylaw09_GeomIns.l0])
     | succ k2 =>
      have H := HA.out
      clear HA
      simp only [lapidarylaw09_GeomIns.l0] at H
      by_cases c15 : x10_2 < (l1.length : Int)
      ·rw [if_pos c15] at H
       have c15b0 : decide (x10_2 < (l1.length : Int)) = true := decide_eq_true c15
       clear c15
       by_cases c16 : (l1.length : Int) = 0
       ·rw [if_pos c16] at H
        exact absurd H (by simp)
       ·rw [if_neg c16] at H
        have c16b0 : ((l1.length : Int) == 0) = false := beq_eq_false_iff_ne.mpr c16
        have c16b1 : ((l1.length : Int) != 0) = true := bne_iff_ne.mpr c16
        have c16b2 : ¬ (l1 = []) := fun h_ => c16 (by rw [h_]; rfl)
        obtain ⟨ji17, hji17⟩ : ∃ j_ : Int, (Int.tmod (wrap64 ((wrap64 ((wrap64 ((wrap64 (2 * (l1.length : Int))) - 1)) - x10_2)) + x8_9)) (l1.length : Int)) = j_ := ⟨_, rfl⟩
        replace H : (if 0 ≤ (ji17) then (if (ji17) < (l1.length : Int) then (if x9_2.length < 5864062014805 then (lapidarylaw09_GeomIns.l0 k2 l1 t591 x8_9 (x9_2 ++ [(⟨(rd_T23 l1 (ji17)).f0, (rd_T23 l1 (ji17)).f1, (rd_T23 l1 (ji17)).f2⟩ : S23)]) (wrap64 (x10_2 + 1)) a0_0 a0_1 a0_2) else (none)) else (none)) else (none)) = some r := by first | (rw [hji17] at H; exact H) | (simp only [hji17] at H ⊢; exact H)
        by_cases c18 : 0 ≤ (ji17)
        ·rw [if_pos c18] at H
         have c18b0 : decide (0 ≤ (ji17)) = true := decide_eq_true c18
         clear c18
         by_cases c19 : (ji17) < (l1.length : Int)
         ·rw [if_pos c19] at H
          have c19b0 : decide ((ji17) < (l1.length : Int)) = true := decide_eq_true c19
          clear c19
          by_cases c20 : x9_2.length < 5864062014805
          ·rw [if_pos c20] at H
           have LMc20 := Aside0.mk c20
           clear c20
           obtain ⟨y593, hy593⟩ : ∃ y_ : List (S23), y_ = (x9_2 ++ [(⟨(rd_T23 l1 (ji17)).f0, (rd_T23 l1 (ji17)).f1, (rd_T23 l1 (ji17)).f2⟩ : S23)]) := ⟨_, rfl⟩
           replace H : (lapidarylaw09_GeomIns.l0 k2 l1 t591 x8_9 y593 (wrap64 (x10_2 + 1)) a0_0 a0_1 a0_2) = some r := by first | (rw [hy593]; with_reducible exact H) | (have H2_ := (Option.bind_some _ _).symm.trans H; rw [hy593]; with_reducible exact H2_) | (have H2_ := (Option.bind_some _ _).symm.trans H; with_reducible exact H2_) | with_reducible exact H | (rw [hy593]; exact H) | exact H
           have Ny593 := Aside0.mk hy593
           clear hy593
           have H' := Aside0.mk H
           clear H
           have p592 : 0 ≤ ((ji17) : Int) := of_decide_eq_true (by first | (with_reducible assumption) | assumption)
           have q592 : (ji17) < (l1.length : Int) := of_decide_eq_true (by first | (with_reducible assumption) | assumption)
           obtain ⟨ad592, e592, hx592_0, hx592_1, hx592_2⟩ := at_T23 HR1.out (ji17) p592 q592
           cases e592
           replace hx592_0 := (HB.out.cell (World.block_lt_of_cell? w _ hx592_0)).trans hx592_0
           replace hx592_1 := (HB.out.cell (World.block_lt_of_cell? w _ hx592_1)).trans hx592_1
           replace hx592_2 := (HB.out.cell (World.block_lt_of_cell? w _ hx592_2)).trans hx592_2
           replace p592 := eq_true p592
           replace q592 := eq_true q592
           go_wp2_with (first | ((with_reducible refine gate_builtin (b := .append) (xs := #[.tmp 32, .tmp 47]) rfl ?_); at_builtin; refine Kd.R_append k23 (w0 := w) w.heap.size rfl (.tmp 32) (.tmp 47) 28 23 (.agg #[(.int .i64 0), (.int .i64 0), (.int .i64 0)]) 24 rfl Try.underlying28 info23 rfl (by decide) (by omega) u9 x9_2 (⟨(rd_T23 l1 (ji17)).f0, (rd_T23 l1 (ji17)).f1, (rd_T23 l1 (ji17)).f2⟩ : S23) [.int .i64 ((rd_T23 l1 (ji17)).f0), .int .i64 ((rd_T23 l1 (ji17)).f1), .int .i64 ((rd_T23 l1 (ji17)).f2)] (fun k_ => k_ ≠ gb589) (fun _ => False) rfl rfl ?aP (fun _ hk => hk.elim) ?aF ?aO ?aB ?aS ?aL ?_; (case aP => exact k23_mkM _ _ _ (⟨(rd_T23 l1 (ji17)).f0, (rd_T23 l1 (ji17)).f1, (rd_T23 l1 (ji17)).f2⟩ : S23)); (case aB => exact (bH HB)); (case aF => exact (fun k_ hk => Kd.freshB (g := gb589) (o := .cells #[.int .i64 a0_0, .int .i64 a0_1, .int .i64 a0_2] 23 (0, 0)) (bK BK589) k_ hk)); (case aO => exact (rK HO_9)); (case aS => exact (below_size (bH HB))); (case aL => have := LMc20.out; omega); intro v594 w21 ho hb hg hat; rw [← Ny593.out] at ho; have n0_ := Aside0.mk (blk_grown (g := gb589) (o := .cells #[.int .i64 a0_0, .int .i64 a0_1, .int .i64 a0_2] 23 (0, 0)) (bK BK589) hg (Kd.R_away HO_9.out (fun _ hk => hk))); have n1_ := Aside0.mk (hb); have n2_ := Aside0.mk (ho); clear BK589; clear HB; clear HO_9; have BK589 := n0_; have HB := n1_; have HO595 := n2_; clear n0_ n1_ n2_; clear ho hb hg hat))
           go_roundg k2
           case measure => have := HJ9.out; have := HK2.out; omega
           case rel => exact ⟨(y593), (wrap64 (x10_2 + 1)), (by first | rfl | (simp; done) | (simp [*]; done)), H', ⟨by have := HJ9.out; have := HK2.out; omega⟩, ⟨by (with_reducible repeat (first | apply Kd.R_alloc | apply Kd.R_drewN | apply Kd.R_drew)); exact HO595.out⟩, ⟨bK BK589⟩, ⟨ bH HB⟩⟩
          ·rw [if_neg c20] at H
           exact absurd H (by simp)
         ·rw [if_neg c19] at H
          exact absurd H (by simp)
        ·rw [if_neg c18] at H
         exact absurd H (by simp)
      ·rw [if_neg c15] at H
       have c15b0 : decide (x10_2 < (l1.length : Int)) = false := decide_eq_false c15
       clear c15
       replace H := Option.bind_eq_some_iff.mp H
       obtain ⟨t596, A220, H⟩ := H
       replace H : (if t591 = t596 then ((geom_In.f k2 a0_0 a0_1 a0_2 x9_2).bind fun t597 => (if t597 = t591 then ((lapidarylaw09_known.f k2).bind fun t598 => (some t598)) else (none))) else (none)) = some r := H
       have A22 := Aside0.mk A220
       clear A220
       by_cases c23 : t591 = t596
       ·rw [if_pos c23] at H
        have c23b0 : (t591 == t596) = true := beq_iff_eq.mpr c23
        have c23b1 : (t591 != t596) = false := bne_eq_false_iff_eq.mpr c23
        clear c23
        replace H := Option.bind_eq_some_iff.mp H
        obtain ⟨t597, A240, H⟩ := H
        replace H : (if t597 = t591 then ((lapidarylaw09_known.f k2).bind fun t598 => (some t598)) else (none)) = some r := H
        have A24 := Aside0.mk A240
        clear A240
        by_cases c25 : t597 = t591
        ·rw [if_pos c25] at H
         have c25b0 : (t597 == t591) = true := beq_iff_eq.mpr c25
         have c25b1 : (t597 != t591) = false := bne_eq_false_iff_eq.mpr c25
         clear c25
         replace H := Option.bind_eq_some_iff.mp H
         obtain ⟨t598, A260, H⟩ := H
         replace H : (some t598) = some r := H
         have A26 := Aside0.mk A260
         clear A260
         obtain rfl := Option.some.inj H
         have hcz27_0 : wr.cell? ⟨gb589, 0, none⟩ = some (.int .i64 a0_0) := (blk_cell BK589.out 0).trans rfl
         have hcz27_1 : wr.cell? ⟨gb589, 1, none⟩ = some (.int .i64 a0_1) := (blk_cell BK589.out 1).trans rfl
         have hcz27_2 : wr.cell? ⟨gb589, 2, none⟩ = some (.int .i64 a0_2) := (blk_cell BK589.out 2).trans rfl
         have hfz27_0 := blk_frozen BK589.out 0
         have hfz27_1 := blk_frozen BK589.out 1
         have hfz27_2 := blk_frozen BK589.out 2
         go_wp2_with (first | ((with_reducible refine gate_callee (f := 26) rfl ?_); refine goesL_ (some 52) rfl rfl Try.func26 (by kernel_rfl) rfl #[.agg #[.int .i64 a0_0, .int .i64 a0_1, .int .i64 a0_2], .slice A1 l1.length c1] rfl (by (try simp only [List.map_toArray, List.map_cons, List.map_nil]); first | done | rfl | (simp only [List.length_drop, List.length_take]; rfl)) ?_; (with_reducible refine (lapidaryref09_In.calls k2 a0_0 a0_1 a0_2 _ _ l1 t596 _ ?side1 ?side2 A22.out).mono ?_); (case side1 => repeat (first | exact (Kd.C_below HR1.out HB.out) | (with_reducible refine Kd.C_alloc ?_ _) | (with_reducible refine Kd.C_drewN ?_ _) | (with_reducible refine Kd.C_drew ?_))); (case side2 => exact HC1.out); rintro e w28 ⟨rfl, hb⟩; refine ⟨_, rfl, ?_⟩; have n0_ := Aside0.mk (Kd.R_below (rK HO_9) hb); have n1_ := Aside0.mk (blk_below (g := gb589) (o := .cells #[.int .i64 a0_0, .int .i64 a0_1, .int .i64 a0_2] 23 (0, 0)) (bK BK589) hb); have n2_ := Aside0.mk (below_step (bH HB) hb); clear HO_9; clear BK589; clear HB; have HO_9 := n0_; have BK589 := n1_; have HB := n2_; clear n0_ n1_ n2_; (try clear hb); (try clear hb2); (try clear hk); (try clear hi); have hcz29_0 : w28.cell? ⟨gb589, 0, none⟩ = some (.int .i64 a0_0) := (blk_cell BK589.out 0).trans rfl; have hcz29_1 : w28.cell? ⟨gb589, 1, none⟩ = some (.int .i64 a0_1) := (blk_cell BK589.out 1).trans rfl; have hcz29_2 : w28.cell? ⟨gb589, 2, none⟩ = some (.int .i64 a0_2) := (blk_cell BK589.out 2).trans rfl; have hfz29_0 := blk_frozen BK589.out 0; have hfz29_1 := blk_frozen BK589.out 1; have hfz29_2 := blk_frozen BK589.out 2; obtain ⟨Ao30, co30, eo30⟩ := Kd.R_slice HO_9.out; subst eo30) | (go_at_call 25; (with_reducible refine (geom_In.calls k2 a0_0 a0_1 a0_2 _ _ x9_2 t597 _ ?side1 ?side2 A24.out).mono ?_); (case side1 => repeat (first | exact (Kd.R_reads' HO_9.out).2.2 | (with_reducible refine Kd.C_alloc ?_ _) | (with_reducible refine Kd.C_drewN ?_ _) | (with_reducible refine Kd.C_drew ?_))); (case side2 => exact (Kd.R_reads' HO_9.out).2.1); rintro e w31 ⟨rfl, hb⟩; have n0_ := Aside0.mk (Kd.R_below (rK HO_9) hb); have n1_ := Aside0.mk (blk_below (g := gb589) (o := .cells #[.int .i64 a0_0, .int .i64 a0_1, .int .i64 a0_2] 23 (0, 0)) (bK BK589) hb); have n2_ := Aside0.mk (below_step (bH HB) hb); clear HO_9; clear BK589; clear HB; have HO_9 := n0_; have BK589 := n1_; have HB := n2_; clear n0_ n1_ n2_; (try clear hb); (try clear hb2); (try clear hk); (try clear hi)) | (go_at_call 13; (with_reducible refine (lapidarylaw09_known.calls k2  t598 _ A26.out).mono ?_); rintro e w32 ⟨rfl, hb⟩; have n0_ := Aside0.mk (Kd.R_below (rK HO_9) hb); have n1_ := Aside0.mk (blk_below (g := gb589) (o := .cells #[.int .i64 a0_0, .int .i64 a0_1, .int .i64 a0_2] 23 (0, 0)) (bK BK589) hb); have n2_ := Aside0.mk (below_step (bH HB) hb); clear HO_9; clear BK589; clear HB; have HO_9 := n0_; have BK589 := n1_; have HB := n2_; clear n0_ n1_ n2_; (try clear hb); (try clear hb2); (try clear hk); (try clear hi)))
         go_ret
         exact ⟨by first | rfl | (simp [errW_none, errW_some] <;> rfl) | (simp [*, errW_none, errW_some] <;> rfl), bH HB⟩
        ·rw [if_neg c25] at H
         exact absurd H (by simp)
       ·rw [if_neg c23] at H
        exact absurd H (by simp)

end Go.Proofs.Ytlnjbpapbifjfaa.P
