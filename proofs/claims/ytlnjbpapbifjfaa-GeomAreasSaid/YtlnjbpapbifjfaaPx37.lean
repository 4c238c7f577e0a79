/- Written for this claim by a program of this session (a turned copy of the print): Go functions as Lean functions, and that the Go code comes to just these answers; or a statement proved out of them. No condition. -/
import Derived.Test.YtlnjbpapbifjfaaPx0
import Derived.Test.YtlnjbpapbifjfaaPx17
import Derived.Test.YtlnjbpapbifjfaaPx19
import Derived.Test.YtlnjbpapbifjfaaPx22
import Derived.Test.YtlnjbpapbifjfaaPx35
import Derived.Test.YtlnjbpapbifjfaaPx36
namespace Go.Proofs.Ytlnjbpapbifjfaa.P
open Go.RowKit Go.Proofs.YtlnjbpapbifjfaaW.PrintWords Go.Proofs.YtlnjbpapbifjfaaW.PrintLast Go.Proofs.YtlnjbpapbifjfaaW.PrintMore Go.Proofs.Ytlnjbpapbifjfaa.X
attribute [local go_sem] max2_int min2_int max_two min_two max_three min_three max_four min_four add64_0 add64_1 add64   -- for this text's walks alone
set_option linter.unusedVariables false
set_option linter.unusedSimpArgs false

/-! ### lapidaryref09_Area: function 18 -/
mutual
def lapidaryref09_Area.l0 : Nat → List (S23) → Int → List Int → Option (List Int)
 | 0, _, _, _ => none
 | k + 1, x0, x4, x405000 => if x4 < (x0.length : Int) then (if (wrap64 (x4 + 1)) = (x0.length : Int) then (lapidaryref09_Area.j1 k x0 x4 0 x405000) else (lapidaryref09_Area.j1 k x0 x4 (wrap64 (x4 + 1)) x405000)) else (some x405000)
def lapidaryref09_Area.j1 : Nat → List (S23) → Int → Int → List Int → Option (List Int)
 | 0, _, _, _, _ => none
 | k + 1, x0, x4, x5, x405000 => if 0 ≤ x4 then (if x4 < (x0.length : Int) then (if 0 ≤ x5 then (if x5 < (x0.length : Int) then ((lapidaryref09_product.f k ((rd_T23 x0 x4).f0) ((rd_T23 x0 x5).f1)).bind fun t408 => ((lapidaryref08_Add.f k x405000 t408).bind fun t411 => ((lapidaryref09_product.f k ((rd_T23 x0 x4).f1) ((rd_T23 x0 x5).f0)).bind fun t416 => ((lapidaryref08_Neg.f k t416).bind fun t419 => ((lapidaryref08_Add.f k t411 t419).bind fun t422 => (lapidaryref09_Area.l0 k x0 (wrap64 (x4 + 1)) t422)))))) else (none)) else (none)) else (none)) else (none)
end
def lapidaryref09_Area.f (k : Nat) (l0 : List (S23)) : Option (List Int) := (lapidaryref08_Of.f k 0).bind fun t401 => ((lapidaryref09_Right.f k l0).bind fun t405 => (if t405 = true then (lapidaryref09_Area.l0 k l0 0 t401) else (some t401)))
theorem lapidaryref09_Area.mono_l : ∀ k, (∀ y0 y1 y2, LeO (lapidaryref09_Area.l0 k y0 y1 y2) (lapidaryref09_Area.l0 (k + 1) y0 y1 y2)) ∧ (∀ y0 y1 y2 y3, LeO (lapidaryref09_Area.j1 k y0 y1 y2 y3) (lapidaryref09_Area.j1 (k + 1) y0 y1 y2 y3))
 | 0 => ⟨fun _ _ _ r h => by simp [lapidaryref09_Area.l0] at h, fun _ _ _ _ r h => by simp [lapidaryref09_Area.j1] at h⟩
 | k + 1 => by
  obtain ⟨ih0, ih1⟩ := lapidaryref09_Area.mono_l k
  refine ⟨?_, ?_⟩
  ·intro y0 y1 y2
   unfold lapidaryref09_Area.l0
   repeat' first
   | (with_reducible exact ih0 _ _ _)
   | (with_reducible exact ih1 _ _ _ _)
   | (with_reducible exact lapidaryref08_Add.mono _ _ _)
   | (with_reducible exact lapidaryref08_Neg.mono _ _)
   | (with_reducible exact lapidaryref08_Of.mono _ _)
   | (with_reducible exact lapidaryref09_Right.mono _ _)
   | (with_reducible exact lapidaryref09_product.mono _ _ _)
   | (with_reducible exact LeO.refl _)
   | (with_reducible exact LeO.none _)
   | (with_reducible refine LeO.ite ?_ ?_)
   | (with_reducible refine LeO.bind ?_ (fun _ => ?_))
   | exact ih0 _ _ _
   | exact ih1 _ _ _ _
   | exact lapidaryref08_Add.mono _ _ _
   | exact lapidaryref08_Neg.mono _ _
   | exact lapidaryref08_Of.mono _ _
   | exact lapidaryref09_Right.mono _ _
   | exact lapidaryref09_product.mono _ _ _
   | exact LeO.none _
   | refine LeO.ite ?_ ?_
   | refine LeO.bind ?_ (fun _ => ?_)
  ·intro y0 y1 y2 y3
   unfold lapidaryref09_Area.j1
   repeat' first
   | (with_reducible exact ih0 _ _ _)
   | (with_reducible exact ih1 _ _ _ _)
   | (with_reducible exact lapidaryref08_Add.mono _ _ _)
   | (with_reducible exact lapidaryref08_Neg.mono _ _)
   | (with_reducible exact lapidaryref08_Of.mono _ _)
   | (with_reducible exact lapidaryref09_Right.mono _ _)
   | (with_reducible exact lapidaryref09_product.mono _ _ _)
   | (with_reducible exact LeO.refl _)
   | (with_reducible exact LeO.none _)
   | (with_reducible refine LeO.ite ?_ ?_)
   | (with_reducible refine LeO.bind ?_ (fun _ => ?_))
   | exact ih0 _ _ _
   | exact ih1 _ _ _ _
   | exact lapidaryref08_Add.mono _ _ _
   | exact lapidaryref08_Neg.mono _ _
   | exact lapidaryref08_Of.mono _ _
   | exact lapidaryref09_Right.mono _ _
   | exact lapidaryref09_product.mono _ _ _
   | exact LeO.none _
   | refine LeO.ite ?_ ?_
   | refine LeO.bind ?_ (fun _ => ?_)
theorem lapidaryref09_Area.mono : ∀ a0 k, LeO (lapidaryref09_Area.f k a0) (lapidaryref09_Area.f (k + 1) a0) := by
 intro a0 k
 obtain ⟨ih0, ih1⟩ := lapidaryref09_Area.mono_l k
 unfold lapidaryref09_Area.f
 repeat' first
   | (with_reducible exact ih0 _ _ _)
   | (with_reducible exact ih1 _ _ _ _)
   | (with_reducible exact lapidaryref08_Add.mono _ _ _)
   | (with_reducible exact lapidaryref08_Neg.mono _ _)
   | (with_reducible exact lapidaryref08_Of.mono _ _)
   | (with_reducible exact lapidaryref09_Right.mono _ _)
   | (with_reducible exact lapidaryref09_product.mono _ _ _)
   | (with_reducible exact LeO.refl _)
   | (with_reducible exact LeO.none _)
   | (with_reducible refine LeO.ite ?_ ?_)
   | (with_reducible refine LeO.bind ?_ (fun _ => ?_))
   | exact ih0 _ _ _
   | exact ih1 _ _ _ _
   | exact lapidaryref08_Add.mono _ _ _
   | exact lapidaryref08_Neg.mono _ _
   | exact lapidaryref08_Of.mono _ _
   | exact lapidaryref09_Right.mono _ _
   | exact lapidaryref09_product.mono _ _ _
   | exact LeO.none _
   | refine LeO.ite ?_ ?_
   | refine LeO.bind ?_ (fun _ => ?_)
def lapidaryref09_Area.T10 : Bool × List (List Nat × List Nat) := (true, [([], []), ([], []), ([], []), ([1, 2], [1, 2]), ([3], [3]), ([4], [4]), ([], []), ([], []), ([6, 7], [6, 7]), ([8], [8]), ([9], [9]), ([5, 10], [5, 10]), ([0, 11, 11], [0, 11]), ([12, 12, 0, 1, 2, 3, 4, 5, 6, 7, 8, 9, 10, 11, 12], [12])])
def lapidaryref09_Area.B10 : List Nat := [0, 0, 0, 6, 14, 30, 0, 0, 192, 448, 960, 2046, 4095, 8191]
theorem lapidaryref09_Area.tab10 : rtab .any (opsOf Try.f18 10) = lapidaryref09_Area.T10 := by kernel_rfl
theorem lapidaryref09_Area.bits10 : waitsOk lapidaryref09_Area.T10.2 lapidaryref09_Area.B10 = true := by kernel_rfl
def lapidaryref09_Area.T11 : Bool × List (List Nat × List Nat) := (true, [([], []), ([], []), ([], []), ([1, 2], [1, 2]), ([3], [3]), ([4], [4]), ([], []), ([], []), ([6, 7], [6, 7]), ([8], [8]), ([9], [9]), ([5, 10], [5, 10]), ([11, 11], [11]), ([0, 12, 12], [0, 12]), ([13, 13, 0, 1, 2, 3, 4, 5, 6, 7, 8, 9, 10, 11, 12, 13], [13])])
def lapidaryref09_Area.B11 : List Nat := [0, 0, 0, 6, 14, 30, 0, 0, 192, 448, 960, 2046, 4094, 8191, 16383]
theorem lapidaryref09_Area.tab11 : rtab .any (opsOf Try.f18 11) = lapidaryref09_Area.T11 := by kernel_rfl
theorem lapidaryref09_Area.bits11 : waitsOk lapidaryref09_Area.T11.2 lapidaryref09_Area.B11 = true := by kernel_rfl
set_option maxHeartbeats 8000000 in
set_option maxRecDepth 100000 in
theorem lapidaryref09_Area.calls (k : Nat) (A0 : Option Addr) (c0 : Nat) (l0 : List (S23)) (r : List Int) (w : World) (hr0 : Kd.C k23 w A0 l0.length l0) (hc0 : l0.length ≤ c0) (h : lapidaryref09_Area.f k l0 = some r) :
  Calls Try.prog 18 #[.slice A0 l0.length c0] w fun e w' => ∃ v0_ : Value, e = .returned (.agg #[v0_]) ∧ Kd.R (Kd.int .i64) 3 w' w.heap.size (fun _ => True) v0_ r ∧ Below w.heap.size w w' := by
 have hu36 := Try.underlying36
 have HR0 := Aside0.mk hr0
 have HC0 := Aside0.mk hc0
 clear hr0 hc0
 have HB := Aside0.mk (Below.refl w.heap.size w)
 have H : ((lapidaryref08_Of.f k 0).bind fun t401 => ((lapidaryref09_Right.f k l0).bind fun t405 => (if t405 = true then (lapidaryref09_Area.l0 k l0 0 t401) else (some t401)))) = some r := h
 clear h
 replace H := Option.bind_eq_some_iff.mp H
 obtain ⟨t401, A20, H⟩ := H
 replace H : ((lapidaryref09_Right.f k l0).bind fun t405 => (if t405 = true then (lapidaryref09_Area.l0 k l0 0 t401) else (some t401))) = some r := H
 have A2 := Aside0.mk A20
 clear A20
 replace H := Option.bind_eq_some_iff.mp H
 obtain ⟨t405, A30, H⟩ := H
 replace H : (if t405 = true then (lapidaryref09_Area.l0 k l0 0 t401) else (some t401)) = some r := H
 have A3 := Aside0.mk A30
 clear A30
 have HC4 := Aside0.mk H
 clear H
 go_enter Try.func18, Try.ntmps18
 go_upto_if 9 with (first | ((with_reducible refine gate_dst (N := 2) rfl ?_); refine box_event ?hg (N := 2) ?hd (cs := #[.slice none 0 0]) (t := 36) ?hr ?_; (case hd => rfl); (case hg => rfl); (case hr => first | (go_simp; done) | (go_simp; rfl)); intro gb400 hg w5 hbox hb; have n0_ := Aside0.mk (below_step (bH HB) hb); have n1_ := Aside0.mk (hbox); have n2_ := Aside0.mk ((by rw [hg]; exact (below_size (bH HB)) : w.heap.size ≤ gb400)); have n3_ := n2_; clear HB; have HB := n0_; have BK400 := n1_; have GW400 := n2_; have GE400 := n3_; clear n0_ n1_ n2_ n3_; clear hb hbox hg) | ((with_reducible refine gate_callee (f := 36) rfl ?_); refine goesL_ (some 6) rfl rfl Try.func36 (by kernel_rfl) rfl #[.int .i64 0] rfl (by (try simp only [List.map_toArray, List.map_cons, List.map_nil]); first | done | rfl | (simp only [List.length_drop, List.length_take]; rfl)) ?_; (with_reducible refine (lapidaryref08_Of.calls k 0 t401 _ A2.out).mono ?_); rintro e w6 ⟨v402, rfl, ho0, hb⟩; refine ⟨_, rfl, ?_⟩; have n0_ := Aside0.mk (Kd.R_lower ho0 (below_size (bH HB))); have n1_ := Aside0.mk (blk_below (g := gb400) (o := .cells #[.slice none 0 0] 36 (0, 0)) (bK BK400) hb); have n2_ := Aside0.mk (below_step (bH HB) hb); clear BK400; clear HB; have HO403 := n0_; have BK400 := n1_; have HB := n2_; clear n0_ n1_ n2_; (try clear hb); (try clear hb2); (try clear hk); (try clear hi); (try clear ho0)) | ((with_reducible refine gate_dst (N := 3) rfl ?_); refine box_event ?hg (N := 3) ?hd (cs := #[.slice none 0 0]) (t := 36) ?hr ?_; (case hd => rfl); (case hg => rfl); (case hr => first | (go_simp; done) | (go_simp; rfl)); intro gb404 hg w7 hbox hb; have n0_ := Aside0.mk (Kd.R_below (rK HO403) hb); have n1_ := Aside0.mk (blk_below (g := gb400) (o := .cells #[.slice none 0 0] 36 (0, 0)) (bK BK400) hb); have n2_ := Aside0.mk (below_step (bH HB) hb); have n3_ := Aside0.mk (hbox); have n4_ := Aside0.mk ((by rw [hg]; exact (below_size (bH HB)) : w.heap.size ≤ gb404)); have n5_ := n4_; have n6_ := Aside0.mk ((by rw [hg]; exact Nat.ne_of_lt (blk_lt (bK BK400)) : gb400 ≠ gb404)); have n7_ := Aside0.mk ((by rw [hg]; exact Nat.ne_of_gt (blk_lt (bK BK400)) : gb404 ≠ gb400)); clear HO403; clear BK400; clear HB; have HO403 := n0_; have BK400 := n1_; have HB := n2_; have BK404 := n3_; have GW404 := n4_; have GE404 := n5_; have NB400_404 := n6_; have NB404_400 := n7_; clear n0_ n1_ n2_ n3_ n4_ n5_ n6_ n7_; clear hb hbox hg; obtain ⟨Ao8, co8, eo8⟩ := Kd.R_slice HO403.out; subst eo8; have hnb9 := NB404_400.out; have hnc9 := NB400_404.out; have hcz10_0 : w7.cell? ⟨gb404, 0, none⟩ = some (.slice none 0 0) := (blk_cell BK404.out 0).trans rfl; have hfz10_0 := blk_frozen BK404.out 0) | ((with_reducible refine gate_callee (f := 23) rfl ?_); refine goesL_ (some 8) rfl rfl Try.func23 (by kernel_rfl) rfl #[.slice A0 l0.length c0] rfl (by (try simp only [List.map_toArray, List.map_cons, List.map_nil]); first | done | rfl | (simp only [List.length_drop, List.length_take]; rfl)) ?_; (with_reducible refine (lapidaryref09_Right.calls k _ _ l0 t405 _ ?side1 ?side2 A3.out).mono ?_); (case side1 => exact Kd.C_below HR0.out (bH HB)); (case side2 => exact HC0.out); rintro e w11 ⟨rfl, hb⟩; refine ⟨_, rfl, ?_⟩; have n0_ := Aside0.mk (Kd.R_below (by (with_reducible repeat (first | apply Kd.R_alloc | apply Kd.R_drewN | apply Kd.R_drew)); exact (Kd.R_mono (Kd.R_far (p := ⟨gb404, 0, none⟩) (Kd.R_types HO403.out BK404.out (by decide)) (fun _ hk => hk.2) (.slice Ao8 t401.length co8)) (fun _ h_ => h_.1))) hb); have n1_ := Aside0.mk (blk_below (g := gb400) (o := .cells #[.slice none 0 0] 36 (0, 0)) (bK BK400) hb); have n2_ := Aside0.mk (blk_below (g := gb404) (o := .cells #[.slice Ao8 t401.length co8] 36 (0, 0)) (by (with_reducible repeat (first | refine blk_drewN ?_ _ | refine blk_drew ?_ | refine blk_alloc ?_ _)); refine blk_put (cs := #[.slice none 0 0]) ?_ 0 _ rfl; (with_reducible repeat (first | refine blk_drewN ?_ _ | refine blk_drew ?_ | refine blk_alloc ?_ _)); exact BK404.out) hb); have n3_ := Aside0.mk (below_step (bH HB) hb); clear HO403; clear BK400; clear BK404; clear HB; have HO403 := n0_; have BK400 := n1_; have BK404 := n2_; have HB := n3_; clear n0_ n1_ n2_ n3_; (try clear hb); (try clear hb2); (try clear hk); (try clear hi)))
 (try simp only [Act.put, List.setIfInBounds_toArray, List.set_cons_zero, List.set_cons_succ])
 have H := HC4.out
 clear HC4
 by_cases c12 : t405 = true
 ·subst c12
  have H1 : (lapidaryref09_Area.l0 k l0 0 t401) = some r := by rw [if_pos rfl] at H; exact H
  clear H
  have H := H1
  clear H1
  have H' := Aside0.mk H
  clear H
  go_wp2
  go_loopg [4] k (fun kq v4 w' => ∃ (x4_1 : Int) (x405000_1 : List Int) (u405000 : Value), v4 = .int .i64 x4_1 ∧ Aside0 (lapidaryref09_Area.l0 kq l0 x4_1 x405000_1 = some r) ∧ Aside0 (kq ≤ k) ∧ Aside0 (Kd.R (Kd.int .i64) 3 w' w.heap.size (fun _ => True) u405000 x405000_1) ∧ Aside0 (w'.heap[gb400]? = some (.cells #[(.slice none 0 0)] 36 (0, 0))) ∧ Aside0 (w'.heap[gb404]? = some (.cells #[u405000] 36 (0, 0))) ∧ Aside0 (Below w.heap.size w w'))
  case atStart => exact ⟨(0), (t401), (.slice Ao8 t401.length co8), (by first | rfl | (simp; done) | (simp [*]; done)), H', ⟨Nat.le_refl _⟩, ⟨by (with_reducible repeat (first | apply Kd.R_alloc | apply Kd.R_drewN | apply Kd.R_drew)); exact HO403.out⟩, ⟨bK BK400⟩, ⟨bK BK404⟩, ⟨ bH HB⟩⟩
  case round =>
   clear H'
   try clear c1
   try clear c2
   try clear p2
   try clear c3
   try clear c9
   try clear c12
   try clear hcz10_0
   try clear hfz10_0
   obtain ⟨x4_1, x405000_1, u405000, rfl, HA, HK1, HO_405000, BK400, BK404, HB⟩ := hrel
   cases gk with
   | zero => exact absurd HA.out (by simp [lapidaryref09_Area.l0])
   | succ k1 =>
    have H := HA.out
    clear HA
    simp only [lapidaryref09_Area.l0] at H
    by_cases c13 : x4_1 < (l0.length : Int)
    ·rw [if_pos c13] at H
     have c13b0 : decide (x4_1 < (l0.length : Int)) = true := decide_eq_true c13
     clear c13
     (first | rw [c13b0] | (simp only [i64_w, i32_w]; rw [c13b0]) | skip)
     have HC14 := Aside0.mk H
     clear H
     go_upto_if 22 with (fail)
     go_cut [5] (fun v5 wc => ∃ (kq : Nat) (x5_13 : Int), v5 = .int .i64 x5_13 ∧ Aside0 (lapidaryref09_Area.j1 kq l0 x4_1 x5_13 x405000_1 = some r) ∧ Aside0 (kq ≤ k1) ∧ Aside0 (Kd.R (Kd.int .i64) 3 wc w.heap.size (fun _ => True) u405000 x405000_1) ∧ Aside0 (wc.heap[gb400]? = some (.cells #[(.slice none 0 0)] 36 (0, 0))) ∧ Aside0 (wc.heap[gb404]? = some (.cells #[u405000] 36 (0, 0))) ∧ Aside0 (Below w.heap.size w wc))
     case first =>
      have H := HC14.out
      clear HC14
      by_cases c15 : (wrap64 (x4_1 + 1)) = (l0.length : Int)
      ·rw [if_pos c15] at H
       have c15b0 : ((wrap64 (x4_1 + 1)) == (l0.length : Int)) = true := beq_iff_eq.mpr c15
       have c15b1 : ((wrap64 (x4_1 + 1)) != (l0.length : Int)) = false := bne_eq_false_iff_eq.mpr c15
       clear c15
       (first | rw [c15b0] | (simp only [i64_w, i32_w]; rw [c15b0]) | skip)
       have H' := Aside0.mk H
       clear H
       go_wp2
       go_meet
       case rel => exact ⟨_, (0), (by first | rfl | (simp; done) | (simp [*]; done)), H', ⟨by have := HK1.out; first | omega | exact Nat.le_refl _⟩, ⟨by (with_reducible repeat (first | apply Kd.R_alloc | apply Kd.R_drewN | apply Kd.R_drew)); exact HO_405000.out⟩, ⟨bK BK400⟩, ⟨bK BK404⟩, ⟨ bH HB⟩⟩
      ·rw [if_neg c15] at H
       have c15b0 : ((wrap64 (x4_1 + 1)) == (l0.length : Int)) = false := beq_eq_false_iff_ne.mpr c15
       have c15b1 : ((wrap64 (x4_1 + 1)) != (l0.length : Int)) = true := bne_iff_ne.mpr c15
       (first | rw [c15b0] | (simp only [i64_w, i32_w]; rw [c15b0]) | skip)
       have H' := Aside0.mk H
       clear H
       go_wp2
       go_meet
       case rel => exact ⟨_, (wrap64 (x4_1 + 1)), (by first | rfl | (simp; done) | (simp [*]; done)), H', ⟨by have := HK1.out; first | omega | exact Nat.le_refl _⟩, ⟨by (with_reducible repeat (first | apply Kd.R_alloc | apply Kd.R_drewN | apply Kd.R_drew)); exact HO_405000.out⟩, ⟨bK BK400⟩, ⟨bK BK404⟩, ⟨ bH HB⟩⟩
     case rest =>
      clear HC14
      try clear c1
      try clear c2
      try clear p2
      try clear c3
      try clear p6
      try clear c9
      try clear c12
      try clear c13
      try clear c13b0
      try clear c15
      try clear c15b0
      try clear c15b1
      try clear hcz10_0
      try clear hfz10_0
      try clear p2
      obtain ⟨kq, x5_13, rfl, HA, HJ13, HO_405000, BK400, BK404, HB⟩ := hcut
      cases kq with
      | zero => exact absurd HA.out (by simp [lapidaryref09_Area.j1])
      | succ kj13 =>
       have H := HA.out
       clear HA
       simp only [lapidaryref09_Area.j1] at H
       by_cases c16 : 0 ≤ x4_1
       ·rw [if_pos c16] at H
        have c16b0 : decide (0 ≤ x4_1) = true := decide_eq_true c16
        clear c16
        by_cases c17 : x4_1 < (l0.length : Int)
        ·rw [if_pos c17] at H
         have c17b0 : decide (x4_1 < (l0.length : Int)) = true := decide_eq_true c17
         clear c17
         by_cases c18 : 0 ≤ x5_13
         ·rw [if_pos c18] at H
          have c18b0 : decide (0 ≤ x5_13) = true := decide_eq_true c18
          clear c18
          by_cases c19 : x5_13 < (l0.length : Int)
          ·rw [if_pos c19] at H
           have c19b0 : decide (x5_13 < (l0.length : Int)) = true := decide_eq_true c19
           clear c19
           replace H := Option.bind_eq_some_iff.mp H
           obtain ⟨t408, A200, H⟩ := H
           replace H : ((lapidaryref08_Add.f kj13 x405000_1 t408).bind fun t411 => ((lapidaryref09_product.f kj13 ((rd_T23 l0 x4_1).f1) ((rd_T23 l0 x5_13).f0)).bind fun t416 => ((lapidaryref08_Neg.f kj13 t416).bind fun t419 => ((lapidaryref08_Add.f kj13 t411 t419).bind fun t422 => (lapidaryref09_Area.l0 kj13 l0 (wrap64 (x4_1 + 1)) t422))))) = some r := H
           have A20 := Aside0.mk A200
           clear A200
           replace H := Option.bind_eq_some_iff.mp H
           obtain ⟨t411, A210, H⟩ := H
           replace H : ((lapidaryref09_product.f kj13 ((rd_T23 l0 x4_1).f1) ((rd_T23 l0 x5_13).f0)).bind fun t416 => ((lapidaryref08_Neg.f kj13 t416).bind fun t419 => ((lapidaryref08_Add.f kj13 t411 t419).bind fun t422 => (lapidaryref09_Area.l0 kj13 l0 (wrap64 (x4_1 + 1)) t422)))) = some r := H
           have A21 := Aside0.mk A210
           clear A210
           replace H := Option.bind_eq_some_iff.mp H
           obtain ⟨t416, A220, H⟩ := H
           replace H : ((lapidaryref08_Neg.f kj13 t416).bind fun t419 => ((lapidaryref08_Add.f kj13 t411 t419).bind fun t422 => (lapidaryref09_Area.l0 kj13 l0 (wrap64 (x4_1 + 1)) t422))) = some r := H
           have A22 := Aside0.mk A220
           clear A220
           replace H := Option.bind_eq_some_iff.mp H
           obtain ⟨t419, A230, H⟩ := H
           replace H : ((lapidaryref08_Add.f kj13 t411 t419).bind fun t422 => (lapidaryref09_Area.l0 kj13 l0 (wrap64 (x4_1 + 1)) t422)) = some r := H
           have A23 := Aside0.mk A230
           clear A230
           replace H := Option.bind_eq_some_iff.mp H
           obtain ⟨t422, A240, H⟩ := H
           replace H : (lapidaryref09_Area.l0 kj13 l0 (wrap64 (x4_1 + 1)) t422) = some r := H
           have A24 := Aside0.mk A240
           clear A240
           have H' := Aside0.mk H
           clear H
           try go_wp2
           have n0_ := Aside0.mk (Kd.R_drew HO_405000.out)
           have n1_ := Aside0.mk (blk_drew BK400.out)
           have n2_ := Aside0.mk (blk_drew BK404.out)
           have n3_ := Aside0.mk (below_drew1 HB.out)
           clear HO_405000
           clear BK400
           clear BK404
           clear HB
           have HO_405000 := n0_
           have BK400 := n1_
           have BK404 := n2_
           have HB := n3_
           clear n0_ n1_ n2_ n3_
           have p406 : 0 ≤ (x4_1 : Int) := of_decide_eq_true (by first | (with_reducible assumption) | assumption)
           have q406 : x4_1 < (l0.length : Int) := of_decide_eq_true (by first | (with_reducible assumption) | assumption)
           obtain ⟨ad406, e406, hx406_0, hx406_1, hx406_2⟩ := at_T23 HR0.out x4_1 p406 q406
           have hw406_2 := hx406_2
           have hw406_1 := hx406_1
           have hw406_0 := hx406_0
           cases e406
           replace hx406_0 := (HB.out.cell (World.block_lt_of_cell? w _ hx406_0)).trans hx406_0
           replace hx406_1 := (HB.out.cell (World.block_lt_of_cell? w _ hx406_1)).trans hx406_1
           replace hx406_2 := (HB.out.cell (World.block_lt_of_cell? w _ hx406_2)).trans hx406_2
           replace p406 := eq_true p406
           replace q406 := eq_true q406
           have p407 : 0 ≤ (x5_13 : Int) := of_decide_eq_true (by first | (with_reducible assumption) | assumption)
           have q407 : x5_13 < (l0.length : Int) := of_decide_eq_true (by first | (with_reducible assumption) | assumption)
           obtain ⟨ad407, e407, hx407_0, hx407_1, hx407_2⟩ := at_T23 HR0.out x5_13 p407 q407
           have hw407_2 := hx407_2
           have hw407_1 := hx407_1
           have hw407_0 := hx407_0
           obtain rfl : ad406 = ad407 := (by injection e407)
           replace hx407_0 := (HB.out.cell (World.block_lt_of_cell? w _ hx407_0)).trans hx407_0
           replace hx407_1 := (HB.out.cell (World.block_lt_of_cell? w _ hx407_1)).trans hx407_1
           replace hx407_2 := (HB.out.cell (World.block_lt_of_cell? w _ hx407_2)).trans hx407_2
           replace p407 := eq_true p407
           replace q407 := eq_true q407
           refine start_ (n := 14) (S := fun w' => w'.cell? ⟨gb404, 0, none⟩ = some (u405000) ∧ w'.cell? (ad406.add ((x4_1).toNat * 3)) = some (.int .i64 ((rd_T23 l0 x4_1).f0)) ∧ w'.cell? ⟨(ad406.add ((x4_1).toNat * 3)).block, (ad406.add ((x4_1).toNat * 3)).off + 1, none⟩ = some (.int .i64 ((rd_T23 l0 x4_1).f1)) ∧ w'.cell? ⟨(ad406.add ((x4_1).toNat * 3)).block, (ad406.add ((x4_1).toNat * 3)).off + 2, none⟩ = some (.int .i64 ((rd_T23 l0 x4_1).f2)) ∧ w'.cell? (ad406.add ((x5_13).toNat * 3)) = some (.int .i64 ((rd_T23 l0 x5_13).f0)) ∧ w'.cell? ⟨(ad406.add ((x5_13).toNat * 3)).block, (ad406.add ((x5_13).toNat * 3)).off + 1, none⟩ = some (.int .i64 ((rd_T23 l0 x5_13).f1)) ∧ w'.cell? ⟨(ad406.add ((x5_13).toNat * 3)).block, (ad406.add ((x5_13).toNat * 3)).off + 2, none⟩ = some (.int .i64 ((rd_T23 l0 x5_13).f2))) (ds := [13]) #[false, false, false, false, false, false, false, false, false, false, false, false, false, false] (by kernel_rfl) rfl rfl ⟨(blk_cell BK404.out 0).trans rfl, ((HB.out.cell (World.block_lt_of_cell? w _ hw406_0)).trans hw406_0), ((HB.out.cell (World.block_lt_of_cell? w _ hw406_1)).trans hw406_1), ((HB.out.cell (World.block_lt_of_cell? w _ hw406_2)).trans hw406_2), ((HB.out.cell (World.block_lt_of_cell? w _ hw407_0)).trans hw407_0), ((HB.out.cell (World.block_lt_of_cell? w _ hw407_1)).trans hw407_1), ((HB.out.cell (World.block_lt_of_cell? w _ hw407_2)).trans hw407_2)⟩ (fun hHeld => ?_); refine with_tabW lapidaryref09_Area.tab10 lapidaryref09_Area.bits10 (fun HT_ HW_ => ?_)
           generalize wc.drew = w25 at HO_405000 BK400 BK404 HB hx406_0 hx406_1 hx406_2 hx407_0 hx407_1 hx407_2 hHeld ⊢
           refine pure_ (i := 1) (N := some 24) (v := ?_) (a' := ?_) #[false, true, false, false, false, false, false, false, false, false, false, false, false, false] rfl rfl (any_of HT_.out (by kernel_rfl)) (fun _ _ _ h => h) (Or.inl ⟨by rfl, ?_⟩) ?_ ?_
           rotate_left
           ·intro w'
            go_simp
            with_reducible rfl
           rotate_left
           ·simp only [Act.put, List.setIfInBounds_toArray, List.set_cons_zero, List.set_cons_succ, i64_w, i32_w]
            rfl
           refine pure_ (i := 2) (N := some 25) (v := ?_) (a' := ?_) #[false, true, true, false, false, false, false, false, false, false, false, false, false, false] rfl rfl (any_of HT_.out (by kernel_rfl)) (fun _ _ _ h => h) (Or.inl ⟨by rfl, ?_⟩) ?_ ?_
           rotate_left
           ·intro w'
            go_simp
            with_reducible rfl
           rotate_left
           ·simp only [Act.put, List.setIfInBounds_toArray, List.set_cons_zero, List.set_cons_succ, i64_w, i32_w]
            rfl
           refine pure_ (i := 3) (N := some 26) (v := ?_) (a' := ?_) #[false, true, true, true, false, false, false, false, false, false, false, false, false, false] rfl rfl (any_of HT_.out (by kernel_rfl)) (fun _ _ _ h => h) (Or.inl ⟨by rfl, ?_⟩) ?_ ?_
           rotate_left
           ·intro w'
            go_simp
            with_reducible rfl
           rotate_left
           ·simp only [Act.put, List.setIfInBounds_toArray, List.set_cons_zero, List.set_cons_succ, i64_w, i32_w]
            rfl
           refine pure_ (i := 4) (N := some 27) (v := ?_) (a' := ?_) #[false, true, true, true, true, false, false, false, false, false, false, false, false, false] rfl rfl (any_of HT_.out (by kernel_rfl)) (fun _ _ _ h => h) (Or.inl ⟨by rfl, ?_⟩) ?_ ?_
           rotate_left
           ·intro w'
            go_simp
            with_reducible rfl
           rotate_left
           ·simp only [Act.put, List.setIfInBounds_toArray, List.set_cons_zero, List.set_cons_succ, i64_w, i32_w]
            rfl
           refine pure_ (i := 6) (N := some 29) (v := ?_) (a' := ?_) #[false, true, true, true, true, false, true, false, false, false, false, false, false, false] rfl rfl (any_of HT_.out (by kernel_rfl)) (fun _ _ _ h => h) (Or.inl ⟨by rfl, ?_⟩) ?_ ?_
           rotate_left
           ·intro w'
            go_simp
            with_reducible rfl
           rotate_left
           ·simp only [Act.put, List.setIfInBounds_toArray, List.set_cons_zero, List.set_cons_succ, i64_w, i32_w]
            rfl
           refine pure_ (i := 7) (N := some 30) (v := ?_) (a' := ?_) #[false, true, true, true, true, false, true, true, false, false, false, false, false, false] rfl rfl (any_of HT_.out (by kernel_rfl)) (fun _ _ _ h => h) (Or.inl ⟨by rfl, ?_⟩) ?_ ?_
           rotate_left
           ·intro w'
            go_simp
            with_reducible rfl
           rotate_left
           ·simp only [Act.put, List.setIfInBounds_toArray, List.set_cons_zero, List.set_cons_succ, i64_w, i32_w]
            rfl
           refine pure_ (i := 8) (N := some 31) (v := ?_) (a' := ?_) #[false, true, true, true, true, false, true, true, true, false, false, false, false, false] rfl rfl (any_of HT_.out (by kernel_rfl)) (fun _ _ _ h => h) (Or.inl ⟨by rfl, ?_⟩) ?_ ?_
           rotate_left
           ·intro w'
            go_simp
            with_reducible rfl
           rotate_left
           ·simp only [Act.put, List.setIfInBounds_toArray, List.set_cons_zero, List.set_cons_succ, i64_w, i32_w]
            rfl
           refine pure_ (i := 9) (N := some 32) (v := ?_) (a' := ?_) #[false, true, true, true, true, false, true, true, true, true, false, false, false, false] rfl rfl (any_of HT_.out (by kernel_rfl)) (fun _ _ _ h => h) (Or.inl ⟨by rfl, ?_⟩) ?_ ?_
           rotate_left
           ·intro w'
            go_simp
            with_reducible rfl
           rotate_left
           ·simp only [Act.put, List.setIfInBounds_toArray, List.set_cons_zero, List.set_cons_succ, i64_w, i32_w]
            rfl
           refine take_ (i := 0) (N := some 23) (v := ?_) (a' := ?_) #[true, true, true, true, true, false, true, true, true, true, false, false, false, false] rfl rfl (take_ofW HT_.out HW_.out (by kernel_rfl)) (fun _ _ _ h => h) (Or.inl ⟨by rfl, ?_⟩) hHeld ?_ ?_
           rotate_left
           ·rintro w' ⟨s0, s1, s2, s3, s4, s5, s6⟩
            go_simp
            with_reducible rfl
           rotate_left
           ·simp only [Act.put, List.setIfInBounds_toArray, List.set_cons_zero, List.set_cons_succ, i64_w, i32_w]
            rfl
           refine take_ (i := 5) (N := some 28) (v := ?_) (a' := ?_) #[true, true, true, true, true, true, true, true, true, true, false, false, false, false] rfl rfl (take_ofW HT_.out HW_.out (by kernel_rfl)) (fun _ _ _ h => h) (Or.inl ⟨by rfl, ?_⟩) hHeld ?_ ?_
           rotate_left
           ·rintro w' ⟨s0, s1, s2, s3, s4, s5, s6⟩
            go_simp
            with_reducible rfl
           rotate_left
           ·simp only [Act.put, List.setIfInBounds_toArray, List.set_cons_zero, List.set_cons_succ, i64_w, i32_w]
            rfl
           refine take_ (i := 10) (N := some 33) (v := ?_) (a' := ?_) #[true, true, true, true, true, true, true, true, true, true, true, false, false, false] rfl rfl (take_ofW HT_.out HW_.out (by kernel_rfl)) (fun _ _ _ h => h) (Or.inl ⟨by rfl, ?_⟩) hHeld ?_ ?_
           rotate_left
           ·rintro w' ⟨s0, s1, s2, s3, s4, s5, s6⟩
            go_simp
            with_reducible rfl
           rotate_left
           ·simp only [Act.put, List.setIfInBounds_toArray, List.set_cons_zero, List.set_cons_succ, i64_w, i32_w]
            rfl
           refine one_ (i := 11) (N := some 34) #[true, true, true, true, true, true, true, true, true, true, true, true, false, false] rfl rfl (one_of HT_.out (by kernel_rfl)) (by decide) (fun K hK => ?_)
           refine goes_ Try.func38 (by kernel_rfl) rfl #[.int .i64 ((rd_T23 l0 x4_1).f0), .int .i64 ((rd_T23 l0 x5_13).f1)] (by rfl) rfl rfl (by (try simp only [List.map_toArray, List.map_cons, List.map_nil]); first | done | rfl | (simp only [List.length_drop, List.length_take]; rfl)) ?_
           with_reducible refine (lapidaryref09_product.calls kj13 ((rd_T23 l0 x4_1).f0) ((rd_T23 l0 x5_13).f1) t408 _ A20.out).mono ?_
           rintro e w26 ⟨v409, rfl, ho0, hb⟩
           refine ⟨_, rfl, ?_⟩
           have n0_ := Aside0.mk (Kd.R_elder' (rK HO_405000) (Kd.R_base ho0) hb)
           have n1_ := Aside0.mk (Kd.R_lower (Kd.R_new' ho0 (Kd.R_lt (rK HO_405000))) (below_size (bH HB)))
           have n2_ := Aside0.mk (blk_below (g := gb400) (o := .cells #[.slice none 0 0] 36 (0, 0)) (bK BK400) hb)
           have n3_ := Aside0.mk (blk_below (g := gb404) (o := .cells #[u405000] 36 (0, 0)) (bK BK404) hb)
           have n4_ := Aside0.mk (below_step (bH HB) hb)
           clear HO_405000
           clear BK400
           clear BK404
           clear HB
           have HO_405000 := n0_
           have HO410 := n1_
           have BK400 := n2_
           have BK404 := n3_
           have HB := n4_
           clear n0_ n1_ n2_ n3_ n4_
           (try clear hb)
           (try clear hb2)
           (try clear hk)
           (try clear hi)
           (try clear ho0)
           obtain ⟨Ao27, co27, eo27⟩ := Kd.R_slice HO_405000.out
           (first | subst eo27 | (injection eo27 with f1_ f2_ f3_; have f4_ := f1_.symm; have f5_ := f3_.symm; clear f1_ f2_ f3_; subst f4_; subst f5_))
           obtain ⟨Ao28, co28, eo28⟩ := Kd.R_slice HO410.out
           (first | subst eo28 | (injection eo28 with f1_ f2_ f3_; have f4_ := f1_.symm; have f5_ := f3_.symm; clear f1_ f2_ f3_; subst f4_; subst f5_))
           refine hK.out _ _ ⟨(blk_cell BK404.out 0).trans rfl, ((HB.out.cell (World.block_lt_of_cell? w _ hw406_0)).trans hw406_0), ((HB.out.cell (World.block_lt_of_cell? w _ hw406_1)).trans hw406_1), ((HB.out.cell (World.block_lt_of_cell? w _ hw406_2)).trans hw406_2), ((HB.out.cell (World.block_lt_of_cell? w _ hw407_0)).trans hw407_0), ((HB.out.cell (World.block_lt_of_cell? w _ hw407_1)).trans hw407_1), ((HB.out.cell (World.block_lt_of_cell? w _ hw407_2)).trans hw407_2)⟩ (fun hHeld => ?_)
           clear hK K
           refine norm_ (a' := ?_) ?_ ?_
           rotate_left
           ·show Act.put _ (some 34) _ = _
            simp only [Act.put, List.setIfInBounds_toArray, List.set_cons_zero, List.set_cons_succ, i64_w, i32_w]
            rfl
           refine one_ (i := 12) (N := some 35) #[true, true, true, true, true, true, true, true, true, true, true, true, true, false] rfl rfl (one_of HT_.out (by kernel_rfl)) (by decide) (fun K hK => ?_)
           refine goes_ Try.func37 (by kernel_rfl) rfl #[.agg #[.slice Ao27 x405000_1.length co27], .agg #[.slice Ao28 t408.length co28]] (by rfl) rfl rfl (by (try simp only [List.map_toArray, List.map_cons, List.map_nil]); first | done | rfl | (simp only [List.length_drop, List.length_take]; rfl)) ?_
           with_reducible refine (lapidaryref08_Add.calls kj13 _ _ x405000_1 _ _ t408 t411 _ ?side1 ?side2 ?side3 ?side4 A21.out).mono ?_
           (case side1 => repeat (first | exact (Kd.R_reads' HO_405000.out).2.2 | (with_reducible refine Kd.C_alloc ?_ _) | (with_reducible refine Kd.C_drewN ?_ _) | (with_reducible refine Kd.C_drew ?_)))
           (case side2 => exact (Kd.R_reads' HO_405000.out).2.1)
           (case side3 => repeat (first | exact (Kd.R_reads' HO410.out).2.2 | (with_reducible refine Kd.C_alloc ?_ _) | (with_reducible refine Kd.C_drewN ?_ _) | (with_reducible refine Kd.C_drew ?_)))
           (case side4 => exact (Kd.R_reads' HO410.out).2.1)
           rintro e w29 ⟨v412, rfl, ho0, hb⟩
           refine ⟨_, rfl, ?_⟩
           have n0_ := Aside0.mk (Kd.R_elder' (rK HO_405000) (Kd.R_base ho0) hb)
           have n1_ := Aside0.mk (Kd.R_elder' (rK HO410) (Kd.R_base ho0) hb)
           have n2_ := Aside0.mk (Kd.R_lower (Kd.R_new' (Kd.R_new' ho0 (Kd.R_lt (rK HO_405000))) (Kd.R_lt (rK HO410))) (below_size (bH HB)))
           have n3_ := Aside0.mk (blk_below (g := gb400) (o := .cells #[.slice none 0 0] 36 (0, 0)) (bK BK400) hb)
           have n4_ := Aside0.mk (blk_below (g := gb404) (o := .cells #[.slice Ao27 x405000_1.length co27] 36 (0, 0)) (bK BK404) hb)
           have n5_ := Aside0.mk (below_step (bH HB) hb)
           clear HO_405000
           clear HO410
           clear BK400
           clear BK404
           clear HB
           have HO_405000 := n0_
           have HO410 := n1_
           have HO413 := n2_
           have BK400 := n3_
           have BK404 := n4_
           have HB := n5_
           clear n0_ n1_ n2_ n3_ n4_ n5_
           (try clear hb)
           (try clear hb2)
           (try clear hk)
           (try clear hi)
           (try clear ho0)
           obtain ⟨Ao30, co30, eo30⟩ := Kd.R_slice HO413.out
           (first | subst eo30 | (injection eo30 with f1_ f2_ f3_; have f4_ := f1_.symm; have f5_ := f3_.symm; clear f1_ f2_ f3_; subst f4_; subst f5_))
           refine hK.out _ _ ⟨(blk_cell BK404.out 0).trans rfl, ((HB.out.cell (World.block_lt_of_cell? w _ hw406_0)).trans hw406_0), ((HB.out.cell (World.block_lt_of_cell? w _ hw406_1)).trans hw406_1), ((HB.out.cell (World.block_lt_of_cell? w _ hw406_2)).trans hw406_2), ((HB.out.cell (World.block_lt_of_cell? w _ hw407_0)).trans hw407_0), ((HB.out.cell (World.block_lt_of_cell? w _ hw407_1)).trans hw407_1), ((HB.out.cell (World.block_lt_of_cell? w _ hw407_2)).trans hw407_2)⟩ (fun hHeld => ?_)
           clear hK K
           refine norm_ (a' := ?_) ?_ ?_
           rotate_left
           ·show Act.put _ (some 35) _ = _
            simp only [Act.put, List.setIfInBounds_toArray, List.set_cons_zero, List.set_cons_succ, i64_w, i32_w]
            rfl
           refine last_ (i := 13) (N := none) #[true, true, true, true, true, true, true, true, true, true, true, true, true, true] rfl rfl (one_of HT_.out (by kernel_rfl)) (by decide) (fun K hK => ?_)
           have hs31 : w29.cell? ⟨gb404, 0, none⟩ = some (.slice Ao27 x405000_1.length co27) := (blk_cell BK404.out 0).trans rfl
           have hfs31 := blk_frozen BK404.out 0
           have hns31_0 := NB400_404.out
           have hms31_0 := NB404_400.out
           refine skip_ (w1 := ?_) (by rfl) rfl ?_ ?_
           rotate_left
           ·go_simp
            rfl
           refine hK.out _ _ ?_
           clear hK K
           refine done_ (done_of HT_.out (by kernel_rfl)) ?_
           try go_wp2
           have n0_ : Aside0 (Kd.R (Kd.int .i64) 3 (w29.setCell ⟨gb404, 0, none⟩ (.slice Ao30 t411.length co30)) w.heap.size (fun k_ => some k_ ≠ (.slice Ao28 t408.length co28 : Value).ownBlock ∧ some k_ ≠ (.slice Ao30 t411.length co30 : Value).ownBlock) (.slice Ao27 x405000_1.length co27) x405000_1) := ⟨by (with_reducible repeat (first | apply Kd.R_alloc | apply Kd.R_drewN | apply Kd.R_drew)); exact Kd.R_mono (Kd.R_far (p := ⟨gb404, 0, none⟩) (Kd.R_types HO_405000.out BK404.out (by decide)) (fun _ hk => hk.2) (.slice Ao30 t411.length co30)) (fun _ hk => ⟨hk.1.1.2, hk.1.2⟩)⟩
           have n1_ : Aside0 (Kd.R (Kd.int .i64) 3 (w29.setCell ⟨gb404, 0, none⟩ (.slice Ao30 t411.length co30)) w.heap.size (fun k_ => some k_ ≠ (.slice Ao27 x405000_1.length co27 : Value).ownBlock ∧ some k_ ≠ (.slice Ao30 t411.length co30 : Value).ownBlock) (.slice Ao28 t408.length co28) t408) := ⟨by (with_reducible repeat (first | apply Kd.R_alloc | apply Kd.R_drewN | apply Kd.R_drew)); exact Kd.R_mono (Kd.R_far (p := ⟨gb404, 0, none⟩) (Kd.R_types HO410.out BK404.out (by decide)) (fun _ hk => hk.2) (.slice Ao30 t411.length co30)) (fun _ hk => ⟨hk.1.1.2, hk.1.2⟩)⟩
           have n2_ : Aside0 (Kd.R (Kd.int .i64) 3 (w29.setCell ⟨gb404, 0, none⟩ (.slice Ao30 t411.length co30)) w.heap.size (fun k_ => some k_ ≠ (.slice Ao27 x405000_1.length co27 : Value).ownBlock ∧ some k_ ≠ (.slice Ao28 t408.length co28 : Value).ownBlock) (.slice Ao30 t411.length co30) t411) := ⟨by (with_reducible repeat (first | apply Kd.R_alloc | apply Kd.R_drewN | apply Kd.R_drew)); exact Kd.R_mono (Kd.R_far (p := ⟨gb404, 0, none⟩) (Kd.R_types HO413.out BK404.out (by decide)) (fun _ hk => hk.2) (.slice Ao30 t411.length co30)) (fun _ hk => ⟨hk.1.1.2, hk.1.2⟩)⟩
           have n3_ : Aside0 ((w29.setCell ⟨gb404, 0, none⟩ (.slice Ao30 t411.length co30)).heap[gb400]? = some (.cells #[.slice none 0 0] 36 (0, 0))) := ⟨bK BK400⟩
           have n4_ : Aside0 ((w29.setCell ⟨gb404, 0, none⟩ (.slice Ao30 t411.length co30)).heap[gb404]? = some (.cells #[.slice Ao30 t411.length co30] 36 (0, 0))) := ⟨by (with_reducible repeat (first | refine blk_drewN ?_ _ | refine blk_drew ?_ | refine blk_alloc ?_ _)); refine blk_put (cs := #[.slice Ao27 x405000_1.length co27]) ?_ 0 _ rfl; (with_reducible repeat (first | refine blk_drewN ?_ _ | refine blk_drew ?_ | refine blk_alloc ?_ _)); exact BK404.out⟩
           have n5_ : Aside0 (Below w.heap.size w (w29.setCell ⟨gb404, 0, none⟩ (.slice Ao30 t411.length co30))) := ⟨ bH HB⟩
           (try clear HO_405000)
           (try clear HO410)
           (try clear HO413)
           (try clear BK400)
           (try clear BK404)
           (try clear HB)
           generalize (w29.setCell ⟨gb404, 0, none⟩ (.slice Ao30 t411.length co30)) = w32 at n0_ n1_ n2_ n3_ n4_ n5_ ⊢
           have HO_405000 := n0_
           have HO410 := n1_
           have HO413 := n2_
           have BK400 := n3_
           have BK404 := n4_
           have HB := n5_
           clear n0_ n1_ n2_ n3_ n4_ n5_
           have n0_ := Aside0.mk (Kd.R_drew HO_405000.out)
           have n1_ := Aside0.mk (Kd.R_drew HO410.out)
           have n2_ := Aside0.mk (Kd.R_drew HO413.out)
           have n3_ := Aside0.mk (blk_drew BK400.out)
           have n4_ := Aside0.mk (blk_drew BK404.out)
           have n5_ := Aside0.mk (below_drew1 HB.out)
           clear HO_405000
           clear HO410
           clear HO413
           clear BK400
           clear BK404
           clear HB
           have HO_405000 := n0_
           have HO410 := n1_
           have HO413 := n2_
           have BK400 := n3_
           have BK404 := n4_
           have HB := n5_
           clear n0_ n1_ n2_ n3_ n4_ n5_
           have p414 : 0 ≤ (x4_1 : Int) := of_decide_eq_true (by first | (with_reducible assumption) | assumption)
           have q414 : x4_1 < (l0.length : Int) := of_decide_eq_true (by first | (with_reducible assumption) | assumption)
           obtain ⟨ad414, e414, hx414_0, hx414_1, hx414_2⟩ := at_T23 HR0.out x4_1 p414 q414
           have hw414_2 := hx414_2
           have hw414_1 := hx414_1
           have hw414_0 := hx414_0
           obtain rfl : ad406 = ad414 := (by injection e414)
           replace hx414_0 := (HB.out.cell (World.block_lt_of_cell? w _ hx414_0)).trans hx414_0
           replace hx414_1 := (HB.out.cell (World.block_lt_of_cell? w _ hx414_1)).trans hx414_1
           replace hx414_2 := (HB.out.cell (World.block_lt_of_cell? w _ hx414_2)).trans hx414_2
           replace p414 := eq_true p414
           replace q414 := eq_true q414
           have p415 : 0 ≤ (x5_13 : Int) := of_decide_eq_true (by first | (with_reducible assumption) | assumption)
           have q415 : x5_13 < (l0.length : Int) := of_decide_eq_true (by first | (with_reducible assumption) | assumption)
           obtain ⟨ad415, e415, hx415_0, hx415_1, hx415_2⟩ := at_T23 HR0.out x5_13 p415 q415
           have hw415_2 := hx415_2
           have hw415_1 := hx415_1
           have hw415_0 := hx415_0
           obtain rfl : ad406 = ad415 := (by injection e415)
           replace hx415_0 := (HB.out.cell (World.block_lt_of_cell? w _ hx415_0)).trans hx415_0
           replace hx415_1 := (HB.out.cell (World.block_lt_of_cell? w _ hx415_1)).trans hx415_1
           replace hx415_2 := (HB.out.cell (World.block_lt_of_cell? w _ hx415_2)).trans hx415_2
           replace p415 := eq_true p415
           replace q415 := eq_true q415
           refine start_ (n := 15) (S := fun w' => w'.cell? ⟨gb404, 0, none⟩ = some (.slice Ao30 t411.length co30) ∧ w'.cell? (ad406.add ((x4_1).toNat * 3)) = some (.int .i64 ((rd_T23 l0 x4_1).f0)) ∧ w'.cell? ⟨(ad406.add ((x4_1).toNat * 3)).block, (ad406.add ((x4_1).toNat * 3)).off + 1, none⟩ = some (.int .i64 ((rd_T23 l0 x4_1).f1)) ∧ w'.cell? ⟨(ad406.add ((x4_1).toNat * 3)).block, (ad406.add ((x4_1).toNat * 3)).off + 2, none⟩ = some (.int .i64 ((rd_T23 l0 x4_1).f2)) ∧ w'.cell? (ad406.add ((x5_13).toNat * 3)) = some (.int .i64 ((rd_T23 l0 x5_13).f0)) ∧ w'.cell? ⟨(ad406.add ((x5_13).toNat * 3)).block, (ad406.add ((x5_13).toNat * 3)).off + 1, none⟩ = some (.int .i64 ((rd_T23 l0 x5_13).f1)) ∧ w'.cell? ⟨(ad406.add ((x5_13).toNat * 3)).block, (ad406.add ((x5_13).toNat * 3)).off + 2, none⟩ = some (.int .i64 ((rd_T23 l0 x5_13).f2))) (ds := [14]) #[false, false, false, false, false, false, false, false, false, false, false, false, false, false, false] (by kernel_rfl) rfl rfl ⟨(blk_cell BK404.out 0).trans rfl, ((HB.out.cell (World.block_lt_of_cell? w _ hw414_0)).trans hw414_0), ((HB.out.cell (World.block_lt_of_cell? w _ hw414_1)).trans hw414_1), ((HB.out.cell (World.block_lt_of_cell? w _ hw414_2)).trans hw414_2), ((HB.out.cell (World.block_lt_of_cell? w _ hw415_0)).trans hw415_0), ((HB.out.cell (World.block_lt_of_cell? w _ hw415_1)).trans hw415_1), ((HB.out.cell (World.block_lt_of_cell? w _ hw415_2)).trans hw415_2)⟩ (fun hHeld => ?_); refine with_tabW lapidaryref09_Area.tab11 lapidaryref09_Area.bits11 (fun HT_ HW_ => ?_)
           generalize w32.drew = w33 at HO_405000 HO410 HO413 BK400 BK404 HB hx414_0 hx414_1 hx414_2 hx415_0 hx415_1 hx415_2 hHeld ⊢
           refine pure_ (i := 1) (N := some 37) (v := ?_) (a' := ?_) #[false, true, false, false, false, false, false, false, false, false, false, false, false, false, false] rfl rfl (any_of HT_.out (by kernel_rfl)) (fun _ _ _ h => h) (Or.inl ⟨by rfl, ?_⟩) ?_ ?_
           rotate_left
           ·intro w'
            go_simp
            with_reducible rfl
           rotate_left
           ·simp only [Act.put, List.setIfInBounds_toArray, List.set_cons_zero, List.set_cons_succ, i64_w, i32_w]
            rfl
           refine pure_ (i := 2) (N := some 38) (v := ?_) (a' := ?_) #[false, true, true, false, false, false, false, false, false, false, false, false, false, false, false] rfl rfl (any_of HT_.out (by kernel_rfl)) (fun _ _ _ h => h) (Or.inl ⟨by rfl, ?_⟩) ?_ ?_
           rotate_left
           ·intro w'
            go_simp
            with_reducible rfl
           rotate_left
           ·simp only [Act.put, List.setIfInBounds_toArray, List.set_cons_zero, List.set_cons_succ, i64_w, i32_w]
            rfl
           refine pure_ (i := 3) (N := some 39) (v := ?_) (a' := ?_) #[false, true, true, true, false, false, false, false, false, false, false, false, false, false, false] rfl rfl (any_of HT_.out (by kernel_rfl)) (fun _ _ _ h => h) (Or.inl ⟨by rfl, ?_⟩) ?_ ?_
           rotate_left
           ·intro w'
            go_simp
            with_reducible rfl
           rotate_left
           ·simp only [Act.put, List.setIfInBounds_toArray, List.set_cons_zero, List.set_cons_succ, i64_w, i32_w]
            rfl
           refine pure_ (i := 4) (N := some 40) (v := ?_) (a' := ?_) #[false, true, true, true, true, false, false, false, false, false, false, false, false, false, false] rfl rfl (any_of HT_.out (by kernel_rfl)) (fun _ _ _ h => h) (Or.inl ⟨by rfl, ?_⟩) ?_ ?_
           rotate_left
           ·intro w'
            go_simp
            with_reducible rfl
           rotate_left
           ·simp only [Act.put, List.setIfInBounds_toArray, List.set_cons_zero, List.set_cons_succ, i64_w, i32_w]
            rfl
           refine pure_ (i := 6) (N := some 42) (v := ?_) (a' := ?_) #[false, true, true, true, true, false, true, false, false, false, false, false, false, false, false] rfl rfl (any_of HT_.out (by kernel_rfl)) (fun _ _ _ h => h) (Or.inl ⟨by rfl, ?_⟩) ?_ ?_
           rotate_left
           ·intro w'
            go_simp
            with_reducible rfl
           rotate_left
           ·simp only [Act.put, List.setIfInBounds_toArray, List.set_cons_zero, List.set_cons_succ, i64_w, i32_w]
            rfl
           refine pure_ (i := 7) (N := some 43) (v := ?_) (a' := ?_) #[false, true, true, true, true, false, true, true, false, false, false, false, false, false, false] rfl rfl (any_of HT_.out (by kernel_rfl)) (fun _ _ _ h => h) (Or.inl ⟨by rfl, ?_⟩) ?_ ?_
           rotate_left
           ·intro w'
            go_simp
            with_reducible rfl
           rotate_left
           ·simp only [Act.put, List.setIfInBounds_toArray, List.set_cons_zero, List.set_cons_succ, i64_w, i32_w]
            rfl
           refine pure_ (i := 8) (N := some 44) (v := ?_) (a' := ?_) #[false, true, true, true, true, false, true, true, true, false, false, false, false, false, false] rfl rfl (any_of HT_.out (by kernel_rfl)) (fun _ _ _ h => h) (Or.inl ⟨by rfl, ?_⟩) ?_ ?_
           rotate_left
           ·intro w'
            go_simp
            with_reducible rfl
           rotate_left
           ·simp only [Act.put, List.setIfInBounds_toArray, List.set_cons_zero, List.set_cons_succ, i64_w, i32_w]
            rfl
           refine pure_ (i := 9) (N := some 45) (v := ?_) (a' := ?_) #[false, true, true, true, true, false, true, true, true, true, false, false, false, false, false] rfl rfl (any_of HT_.out (by kernel_rfl)) (fun _ _ _ h => h) (Or.inl ⟨by rfl, ?_⟩) ?_ ?_
           rotate_left
           ·intro w'
            go_simp
            with_reducible rfl
           rotate_left
           ·simp only [Act.put, List.setIfInBounds_toArray, List.set_cons_zero, List.set_cons_succ, i64_w, i32_w]
            rfl
           refine take_ (i := 0) (N := some 36) (v := ?_) (a' := ?_) #[true, true, true, true, true, false, true, true, true, true, false, false, false, false, false] rfl rfl (take_ofW HT_.out HW_.out (by kernel_rfl)) (fun _ _ _ h => h) (Or.inl ⟨by rfl, ?_⟩) hHeld ?_ ?_
           rotate_left
           ·rintro w' ⟨s0, s1, s2, s3, s4, s5, s6⟩
            go_simp
            with_reducible rfl
           rotate_left
           ·simp only [Act.put, List.setIfInBounds_toArray, List.set_cons_zero, List.set_cons_succ, i64_w, i32_w]
            rfl
           refine take_ (i := 5) (N := some 41) (v := ?_) (a' := ?_) #[true, true, true, true, true, true, true, true, true, true, false, false, false, false, false] rfl rfl (take_ofW HT_.out HW_.out (by kernel_rfl)) (fun _ _ _ h => h) (Or.inl ⟨by rfl, ?_⟩) hHeld ?_ ?_
           rotate_left
           ·rintro w' ⟨s0, s1, s2, s3, s4, s5, s6⟩
            go_simp
            with_reducible rfl
           rotate_left
           ·simp only [Act.put, List.setIfInBounds_toArray, List.set_cons_zero, List.set_cons_succ, i64_w, i32_w]
            rfl
           refine take_ (i := 10) (N := some 46) (v := ?_) (a' := ?_) #[true, true, true, true, true, true, true, true, true, true, true, false, false, false, false] rfl rfl (take_ofW HT_.out HW_.out (by kernel_rfl)) (fun _ _ _ h => h) (Or.inl ⟨by rfl, ?_⟩) hHeld ?_ ?_
           rotate_left
           ·rintro w' ⟨s0, s1, s2, s3, s4, s5, s6⟩
            go_simp
            with_reducible rfl
           rotate_left
           ·simp only [Act.put, List.setIfInBounds_toArray, List.set_cons_zero, List.set_cons_succ, i64_w, i32_w]
            rfl
           refine one_ (i := 11) (N := some 47) #[true, true, true, true, true, true, true, true, true, true, true, true, false, false, false] rfl rfl (one_of HT_.out (by kernel_rfl)) (by decide) (fun K hK => ?_)
           refine goes_ Try.func38 (by kernel_rfl) rfl #[.int .i64 ((rd_T23 l0 x4_1).f1), .int .i64 ((rd_T23 l0 x5_13).f0)] (by rfl) rfl rfl (by (try simp only [List.map_toArray, List.map_cons, List.map_nil]); first | done | rfl | (simp only [List.length_drop, List.length_take]; rfl)) ?_
           with_reducible refine (lapidaryref09_product.calls kj13 ((rd_T23 l0 x4_1).f1) ((rd_T23 l0 x5_13).f0) t416 _ A22.out).mono ?_
           rintro e w34 ⟨v417, rfl, ho0, hb⟩
           refine ⟨_, rfl, ?_⟩
           have n0_ := Aside0.mk (Kd.R_elder' (rK HO_405000) (Kd.R_base ho0) hb)
           have n1_ := Aside0.mk (Kd.R_elder' (rK HO410) (Kd.R_base ho0) hb)
           have n2_ := Aside0.mk (Kd.R_elder' (rK HO413) (Kd.R_base ho0) hb)
           have n3_ := Aside0.mk (Kd.R_lower (Kd.R_new' (Kd.R_new' (Kd.R_new' ho0 (Kd.R_lt (rK HO_405000))) (Kd.R_lt (rK HO410))) (Kd.R_lt (rK HO413))) (below_size (bH HB)))
           have n4_ := Aside0.mk (blk_below (g := gb400) (o := .cells #[.slice none 0 0] 36 (0, 0)) (bK BK400) hb)
           have n5_ := Aside0.mk (blk_below (g := gb404) (o := .cells #[.slice Ao30 t411.length co30] 36 (0, 0)) (bK BK404) hb)
           have n6_ := Aside0.mk (below_step (bH HB) hb)
           clear HO_405000
           clear HO410
           clear HO413
           clear BK400
           clear BK404
           clear HB
           have HO_405000 := n0_
           have HO410 := n1_
           have HO413 := n2_
           have HO418 := n3_
           have BK400 := n4_
           have BK404 := n5_
           have HB := n6_
           clear n0_ n1_ n2_ n3_ n4_ n5_ n6_
           (try clear hb)
           (try clear hb2)
           (try clear hk)
           (try clear hi)
           (try clear ho0)
           obtain ⟨Ao35, co35, eo35⟩ := Kd.R_slice HO418.out
           (first | subst eo35 | (injection eo35 with f1_ f2_ f3_; have f4_ := f1_.symm; have f5_ := f3_.symm; clear f1_ f2_ f3_; subst f4_; subst f5_))
           refine hK.out _ _ ⟨(blk_cell BK404.out 0).trans rfl, ((HB.out.cell (World.block_lt_of_cell? w _ hw414_0)).trans hw414_0), ((HB.out.cell (World.block_lt_of_cell? w _ hw414_1)).trans hw414_1), ((HB.out.cell (World.block_lt_of_cell? w _ hw414_2)).trans hw414_2), ((HB.out.cell (World.block_lt_of_cell? w _ hw415_0)).trans hw415_0), ((HB.out.cell (World.block_lt_of_cell? w _ hw415_1)).trans hw415_1), ((HB.out.cell (World.block_lt_of_cell? w _ hw415_2)).trans hw415_2)⟩ (fun hHeld => ?_)
           clear hK K
           refine norm_ (a' := ?_) ?_ ?_
           rotate_left
           ·show Act.put _ (some 47) _ = _
            simp only [Act.put, List.setIfInBounds_toArray, List.set_cons_zero, List.set_cons_succ, i64_w, i32_w]
            rfl
           refine one_ (i := 12) (N := some 48) #[true, true, true, true, true, true, true, true, true, true, true, true, true, false, false] rfl rfl (one_of HT_.out (by kernel_rfl)) (by decide) (fun K hK => ?_)
           refine goes_ Try.func39 (by kernel_rfl) rfl #[.agg #[.slice Ao35 t416.length co35]] (by rfl) rfl rfl (by (try simp only [List.map_toArray, List.map_cons, List.map_nil]); first | done | rfl | (simp only [List.length_drop, List.length_take]; rfl)) ?_
           with_reducible refine (lapidaryref08_Neg.calls kj13 _ _ t416 t419 _ ?side1 ?side2 A23.out).mono ?_
           (case side1 => repeat (first | exact (Kd.R_reads' HO418.out).2.2 | (with_reducible refine Kd.C_alloc ?_ _) | (with_reducible refine Kd.C_drewN ?_ _) | (with_reducible refine Kd.C_drew ?_)))
           (case side2 => exact (Kd.R_reads' HO418.out).2.1)
           rintro e w36 ⟨v420, rfl, ho0, hb⟩
           refine ⟨_, rfl, ?_⟩
           have n0_ := Aside0.mk (Kd.R_elder' (rK HO_405000) (Kd.R_base ho0) hb)
           have n1_ := Aside0.mk (Kd.R_elder' (rK HO410) (Kd.R_base ho0) hb)
           have n2_ := Aside0.mk (Kd.R_elder' (rK HO413) (Kd.R_base ho0) hb)
           have n3_ := Aside0.mk (Kd.R_elder' (rK HO418) (Kd.R_base ho0) hb)
           have n4_ := Aside0.mk (Kd.R_lower (Kd.R_new' (Kd.R_new' (Kd.R_new' (Kd.R_new' ho0 (Kd.R_lt (rK HO_405000))) (Kd.R_lt (rK HO410))) (Kd.R_lt (rK HO413))) (Kd.R_lt (rK HO418))) (below_size (bH HB)))
           have n5_ := Aside0.mk (blk_below (g := gb400) (o := .cells #[.slice none 0 0] 36 (0, 0)) (bK BK400) hb)
           have n6_ := Aside0.mk (blk_below (g := gb404) (o := .cells #[.slice Ao30 t411.length co30] 36 (0, 0)) (bK BK404) hb)
           have n7_ := Aside0.mk (below_step (bH HB) hb)
           clear HO_405000
           clear HO410
           clear HO413
           clear HO418
           clear BK400
           clear BK404
           clear HB
           have HO_405000 := n0_
           have HO410 := n1_
           have HO413 := n2_
           have HO418 := n3_
           have HO421 := n4_
           have BK400 := n5_
           have BK404 := n6_
           have HB := n7_
           clear n0_ n1_ n2_ n3_ n4_ n5_ n6_ n7_
           (try clear hb)
           (try clear hb2)
           (try clear hk)
           (try clear hi)
           (try clear ho0)
           obtain ⟨Ao37, co37, eo37⟩ := Kd.R_slice HO421.out
           (first | subst eo37 | (injection eo37 with f1_ f2_ f3_; have f4_ := f1_.symm; have f5_ := f3_.symm; clear f1_ f2_ f3_; subst f4_; subst f5_))
           refine hK.out _ _ ⟨(blk_cell BK404.out 0).trans rfl, ((HB.out.cell (World.block_lt_of_cell? w _ hw414_0)).trans hw414_0), ((HB.out.cell (World.block_lt_of_cell? w _ hw414_1)).trans hw414_1), ((HB.out.cell (World.block_lt_of_cell? w _ hw414_2)).trans hw414_2), ((HB.out.cell (World.block_lt_of_cell? w _ hw415_0)).trans hw415_0), ((HB.out.cell (World.block_lt_of_cell? w _ hw415_1)).trans hw415_1), ((HB.out.cell (World.block_lt_of_cell? w _ hw415_2)).trans hw415_2)⟩ (fun hHeld => ?_)
           clear hK K
           refine norm_ (a' := ?_) ?_ ?_
           rotate_left
           ·show Act.put _ (some 48) _ = _
            simp only [Act.put, List.setIfInBounds_toArray, List.set_cons_zero, List.set_cons_succ, i64_w, i32_w]
            rfl
           refine one_ (i := 13) (N := some 49) #[true, true, true, true, true, true, true, true, true, true, true, true, true, true, false] rfl rfl (one_of HT_.out (by kernel_rfl)) (by decide) (fun K hK => ?_)
           refine goes_ Try.func37 (by kernel_rfl) rfl #[.agg #[.slice Ao30 t411.length co30], .agg #[.slice Ao37 t419.length co37]] (by rfl) rfl rfl (by (try simp only [List.map_toArray, List.map_cons, List.map_nil]); first | done | rfl | (simp only [List.length_drop, List.length_take]; rfl)) ?_
           with_reducible refine (lapidaryref08_Add.calls kj13 _ _ t411 _ _ t419 t422 _ ?side1 ?side2 ?side3 ?side4 A24.out).mono ?_
           (case side1 => repeat (first | exact (Kd.R_reads' HO413.out).2.2 | (with_reducible refine Kd.C_alloc ?_ _) | (with_reducible refine Kd.C_drewN ?_ _) | (with_reducible refine Kd.C_drew ?_)))
           (case side2 => exact (Kd.R_reads' HO413.out).2.1)
           (case side3 => repeat (first | exact (Kd.R_reads' HO421.out).2.2 | (with_reducible refine Kd.C_alloc ?_ _) | (with_reducible refine Kd.C_drewN ?_ _) | (with_reducible refine Kd.C_drew ?_)))
           (case side4 => exact (Kd.R_reads' HO421.out).2.1)
           rintro e w38 ⟨v423, rfl, ho0, hb⟩
           refine ⟨_, rfl, ?_⟩
           have n0_ := Aside0.mk (Kd.R_elder' (rK HO_405000) (Kd.R_base ho0) hb)
           have n1_ := Aside0.mk (Kd.R_elder' (rK HO410) (Kd.R_base ho0) hb)
           have n2_ := Aside0.mk (Kd.R_elder' (rK HO413) (Kd.R_base ho0) hb)
           have n3_ := Aside0.mk (Kd.R_elder' (rK HO418) (Kd.R_base ho0) hb)
           have n4_ := Aside0.mk (Kd.R_elder' (rK HO421) (Kd.R_base ho0) hb)
           have n5_ := Aside0.mk (Kd.R_lower (Kd.R_new' (Kd.R_new' (Kd.R_new' (Kd.R_new' (Kd.R_new' ho0 (Kd.R_lt (rK HO_405000))) (Kd.R_lt (rK HO410))) (Kd.R_lt (rK HO413))) (Kd.R_lt (rK HO418))) (Kd.R_lt (rK HO421))) (below_size (bH HB)))
           have n6_ := Aside0.mk (blk_below (g := gb400) (o := .cells #[.slice none 0 0] 36 (0, 0)) (bK BK400) hb)
           have n7_ := Aside0.mk (blk_below (g := gb404) (o := .cells #[.slice Ao30 t411.length co30] 36 (0, 0)) (bK BK404) hb)
           have n8_ := Aside0.mk (below_step (bH HB) hb)
           clear HO_405000
           clear HO410
           clear HO413
           clear HO418
           clear HO421
           clear BK400
           clear BK404
           clear HB
           have HO_405000 := n0_
           have HO410 := n1_
           have HO413 := n2_
           have HO418 := n3_
           have HO421 := n4_
           have HO424 := n5_
           have BK400 := n6_
           have BK404 := n7_
           have HB := n8_
           clear n0_ n1_ n2_ n3_ n4_ n5_ n6_ n7_ n8_
           (try clear hb)
           (try clear hb2)
           (try clear hk)
           (try clear hi)
           (try clear ho0)
           obtain ⟨Ao39, co39, eo39⟩ := Kd.R_slice HO424.out
           (first | subst eo39 | (injection eo39 with f1_ f2_ f3_; have f4_ := f1_.symm; have f5_ := f3_.symm; clear f1_ f2_ f3_; subst f4_; subst f5_))
           refine hK.out _ _ ⟨(blk_cell BK404.out 0).trans rfl, ((HB.out.cell (World.block_lt_of_cell? w _ hw414_0)).trans hw414_0), ((HB.out.cell (World.block_lt_of_cell? w _ hw414_1)).trans hw414_1), ((HB.out.cell (World.block_lt_of_cell? w _ hw414_2)).trans hw414_2), ((HB.out.cell (World.block_lt_of_cell? w _ hw415_0)).trans hw415_0), ((HB.out.cell (World.block_lt_of_cell? w _ hw415_1)).trans hw415_1), ((HB.out.cell (World.block_lt_of_cell? w _ hw415_2)).trans hw415_2)⟩ (fun hHeld => ?_)
           clear hK K
           refine norm_ (a' := ?_) ?_ ?_
           rotate_left
           ·show Act.put _ (some 49) _ = _
            simp only [Act.put, List.setIfInBounds_toArray, List.set_cons_zero, List.set_cons_succ, i64_w, i32_w]
            rfl
           refine last_ (i := 14) (N := none) #[true, true, true, true, true, true, true, true, true, true, true, true, true, true, true] rfl rfl (one_of HT_.out (by kernel_rfl)) (by decide) (fun K hK => ?_)
           have hs40 : w38.cell? ⟨gb404, 0, none⟩ = some (.slice Ao30 t411.length co30) := (blk_cell BK404.out 0).trans rfl
           have hfs40 := blk_frozen BK404.out 0
           have hns40_0 := NB400_404.out
           have hms40_0 := NB404_400.out
           refine skip_ (w1 := ?_) (by rfl) rfl ?_ ?_
           rotate_left
           ·go_simp
            rfl
           refine hK.out _ _ ?_
           clear hK K
           refine done_ (done_of HT_.out (by kernel_rfl)) ?_
           try go_wp2
           go_roundg kj13
           case measure => have := HK1.out; have := HJ13.out; omega
           case rel => exact ⟨(wrap64 (x4_1 + 1)), (t422), (.slice Ao39 t422.length co39), (by first | rfl | (simp; done) | (simp [*]; done)), H', ⟨by have := HK1.out; have := HJ13.out; omega⟩, ⟨by (with_reducible repeat (first | apply Kd.R_alloc | apply Kd.R_drewN | apply Kd.R_drew)); exact Kd.R_mono (Kd.R_far (p := ⟨gb404, 0, none⟩) (Kd.R_types HO424.out BK404.out (by decide)) (fun _ hk => hk.2) (.slice Ao39 t422.length co39)) (fun _ hk => trivial)⟩, ⟨bK BK400⟩, ⟨by (with_reducible repeat (first | refine blk_drewN ?_ _ | refine blk_drew ?_ | refine blk_alloc ?_ _)); refine blk_put (cs := #[.slice Ao30 t411.length co30]) ?_ 0 _ rfl; (with_reducible repeat (first | refine blk_drewN ?_ _ | refine blk_drew ?_ | refine blk_alloc ?_ _)); exact BK404.out⟩, ⟨ bH HB⟩⟩
          ·rw [if_neg c19] at H
           exact absurd H (by simp)
         ·rw [if_neg c18] at H
          exact absurd H (by simp)
        ·rw [if_neg c17] at H
         exact absurd H (by simp)
       ·rw [if_neg c16] at H
        exact absurd H (by simp)
    ·rw [if_neg c13] at H
     have c13b0 : decide (x4_1 < (l0.length : Int)) = false := decide_eq_false c13
     clear c13
     (first | rw [c13b0] | (simp only [i64_w, i32_w]; rw [c13b0]) | skip)
     obtain rfl := Option.some.inj H
     have hnb41 := NB404_400.out
     have hnc41 := NB400_404.out
     have hcz42_0 : wr.cell? ⟨gb404, 0, none⟩ = some (u405000) := (blk_cell BK404.out 0).trans rfl
     have hfz42_0 := blk_frozen BK404.out 0
     obtain ⟨Ao43, co43, eo43⟩ := Kd.R_slice HO_405000.out
     subst eo43
     have hcz44_0 : wr.cell? ⟨gb400, 0, none⟩ = some (.slice none 0 0) := (blk_cell BK400.out 0).trans rfl
     have hfz44_0 := blk_frozen BK400.out 0
     go_wp2
     refine bodyPost_ret (results_cell_row rfl _ _ gb400 36 #[.slice Ao43 x405000_1.length co43] (0, 0) _ rfl (by (with_reducible repeat (first | refine blk_drewN ?_ _ | refine blk_drew ?_ | refine blk_alloc ?_ _)); refine blk_put (cs := #[.slice none 0 0]) ?_ 0 _ rfl; (with_reducible repeat (first | refine blk_drewN ?_ _ | refine blk_drew ?_ | refine blk_alloc ?_ _)); exact BK400.out) Try.underlying36 rfl (by kernel_rfl)) rfl ?_
     exact ⟨_, by first | rfl | (simp [errW_none, errW_some] <;> rfl) | (simp [*, errW_none, errW_some] <;> rfl), by (with_reducible repeat (first | apply Kd.R_alloc | apply Kd.R_drewN | apply Kd.R_drew)); exact Kd.R_mono (Kd.R_far (p := ⟨gb400, 0, none⟩) (Kd.R_types HO_405000.out BK400.out (by decide)) (fun _ hk => hk.2) (.slice Ao43 x405000_1.length co43)) (fun _ hk => trivial), bH HB⟩
 ·replace c12 := Bool.eq_false_iff.mpr c12
  subst c12
  have H1 : (some t401) = some r := by rw [if_neg (show ¬ (false = true) by decide)] at H; exact H
  clear H
  have H := H1
  clear H1
  obtain rfl := Option.some.inj H
  have hnb45 := NB404_400.out
  have hnc45 := NB400_404.out
  have hcz46_0 : w11.cell? ⟨gb404, 0, none⟩ = some (.slice Ao8 t401.length co8) := (blk_cell BK404.out 0).trans rfl
  have hfz46_0 := blk_frozen BK404.out 0
  have hcz47_0 : w11.cell? ⟨gb400, 0, none⟩ = some (.slice none 0 0) := (blk_cell BK400.out 0).trans rfl
  have hfz47_0 := blk_frozen BK400.out 0
  go_wp2
  refine bodyPost_ret (results_cell_row rfl _ _ gb400 36 #[.slice Ao8 t401.length co8] (0, 0) _ rfl (by (with_reducible repeat (first | refine blk_drewN ?_ _ | refine blk_drew ?_ | refine blk_alloc ?_ _)); refine blk_put (cs := #[.slice none 0 0]) ?_ 0 _ rfl; (with_reducible repeat (first | refine blk_drewN ?_ _ | refine blk_drew ?_ | refine blk_alloc ?_ _)); exact BK400.out) Try.underlying36 rfl (by kernel_rfl)) rfl ?_
  exact ⟨_, by first | rfl | (simp [errW_none, errW_some] <;> rfl) | (simp [*, errW_none, errW_some] <;> rfl), by (with_reducible repeat (first | apply Kd.R_alloc | apply Kd.R_drewN | apply Kd.R_drew)); exact Kd.R_mono (Kd.R_far (p := ⟨gb400, 0, none⟩) (Kd.R_types HO403.out BK400.out (by decide)) (fun _ hk => hk.2) (.slice Ao8 t401.length co8)) (fun _ hk => trivial), bH HB⟩

end Go.Proofs.Ytlnjbpapbifjfaa.P
