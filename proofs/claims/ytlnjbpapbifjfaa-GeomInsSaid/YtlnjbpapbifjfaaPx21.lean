/- Written for this claim by a program of this session (a turned copy of the print): Go functions as Lean functions, and that the Go code comes to just these answers; or a statement proved out of them. No condition. -/
import Derived.Test.YtlnjbpapbifjfaaPx0
import Derived.Test.YtlnjbpapbifjfaaPx20
namespace Go.Proofs.Ytlnjbpapbifjfaa.P
open Go.RowKit Go.Proofs.YtlnjbpapbifjfaaW.PrintWords Go.Proofs.YtlnjbpapbifjfaaW.PrintLast Go.Proofs.YtlnjbpapbifjfaaW.PrintMore Go.Proofs.Ytlnjbpapbifjfaa.X
attribute [local go_sem] max2_int min2_int max_two min_two max_three min_three max_four min_four add64_0 add64_1 add64   -- for this text's walks alone
set_option linter.unusedVariables false
set_option linter.unusedSimpArgs false

/-! ### lapidaryref08_Mul: function 46 -/
mutual
def lapidaryref08_Mul.l0 : Nat → List Int → Int → List Int → List Int → Option (List Int)
 | 0, _, _, _, _ => none
 | k + 1, x5, x6, x208000, x209000 => if x6 < 8 then (lapidaryref08_Mul.l1 k x5 x6 0 x208000 x209000) else ((lapidaryref08_settled.f k x5).bind fun t213 => (some t213))
def lapidaryref08_Mul.l1 : Nat → List Int → Int → Int → List Int → List Int → Option (List Int)
 | 0, _, _, _, _, _ => none
 | k + 1, x5, x6, x7, x208000, x209000 => if (wrap64 (x6 + x7)) < 8 then (if 0 ≤ (wrap64 (x6 + x7)) then (if (wrap64 (x6 + x7)) < (x5.length : Int) then (if 0 ≤ x6 then (if x6 < (x208000.length : Int) then (if 0 ≤ x7 then (if x7 < (x209000.length : Int) then (lapidaryref08_Mul.l1 k (x5.set ((wrap64 (x6 + x7)) : Int).toNat (wrap64 ((rd x5 (wrap64 (x6 + x7))) + (wrap64 ((rd x208000 x6) * (rd x209000 x7)))))) x6 (wrap64 (x7 + 1)) x208000 x209000) else (none)) else (none)) else (none)) else (none)) else (none)) else (none)) else (lapidaryref08_Mul.l0 k x5 (wrap64 (x6 + 1)) x208000 x209000)
end
def lapidaryref08_Mul.f (k : Nat) (l0_0 : List Int) (l1_0 : List Int) : Option (List Int) := if 8 ≤ 35184372088832 then (lapidaryref08_Mul.l0 k (List.replicate 8 0) 0 l0_0 l1_0) else (none)
theorem lapidaryref08_Mul.mono_l : ∀ k, (∀ y0 y1 y2 y3, LeO (lapidaryref08_Mul.l0 k y0 y1 y2 y3) (lapidaryref08_Mul.l0 (k + 1) y0 y1 y2 y3)) ∧ (∀ y0 y1 y2 y3 y4, LeO (lapidaryref08_Mul.l1 k y0 y1 y2 y3 y4) (lapidaryref08_Mul.l1 (k + 1) y0 y1 y2 y3 y4))
 | 0 => ⟨fun _ _ _ _ r h => by simp [lapidaryref08_Mul.l0] at h, fun _ _ _ _ _ r h => by simp [lapidaryref08_Mul.l1] at h⟩
 | k + 1 => by
  obtain ⟨ih0, ih1⟩ := lapidaryref08_Mul.mono_l k
  refine ⟨?_, ?_⟩
  ·intro y0 y1 y2 y3
   unfold lapidaryref08_Mul.l0
   repeat' first
   | (with_reducible exact ih0 _ _ _ _)
   | (with_reducible exact ih1 _ _ _ _ _)
   | (with_reducible exact lapidaryref08_settled.mono _ _)
   | (with_reducible exact LeO.refl _)
   | (with_reducible exact LeO.none _)
   | (with_reducible refine LeO.ite ?_ ?_)
   | (with_reducible refine LeO.bind ?_ (fun _ => ?_))
   | exact ih0 _ _ _ _
   | exact ih1 _ _ _ _ _
   | exact lapidaryref08_settled.mono _ _
   | exact LeO.none _
   | refine LeO.ite ?_ ?_
   | refine LeO.bind ?_ (fun _ => ?_)
  ·intro y0 y1 y2 y3 y4
   unfold lapidaryref08_Mul.l1
   repeat' first
   | (with_reducible exact ih0 _ _ _ _)
   | (with_reducible exact ih1 _ _ _ _ _)
   | (with_reducible exact lapidaryref08_settled.mono _ _)
   | (with_reducible exact LeO.refl _)
   | (with_reducible exact LeO.none _)
   | (with_reducible refine LeO.ite ?_ ?_)
   | (with_reducible refine LeO.bind ?_ (fun _ => ?_))
   | exact ih0 _ _ _ _
   | exact ih1 _ _ _ _ _
   | exact lapidaryref08_settled.mono _ _
   | exact LeO.none _
   | refine LeO.ite ?_ ?_
   | refine LeO.bind ?_ (fun _ => ?_)
theorem lapidaryref08_Mul.mono : ∀ a0 a1 k, LeO (lapidaryref08_Mul.f k a0 a1) (lapidaryref08_Mul.f (k + 1) a0 a1) := by
 intro a0 a1 k
 obtain ⟨ih0, ih1⟩ := lapidaryref08_Mul.mono_l k
 unfold lapidaryref08_Mul.f
 repeat' first
   | (with_reducible exact ih0 _ _ _ _)
   | (with_reducible exact ih1 _ _ _ _ _)
   | (with_reducible exact lapidaryref08_settled.mono _ _)
   | (with_reducible exact LeO.refl _)
   | (with_reducible exact LeO.none _)
   | (with_reducible refine LeO.ite ?_ ?_)
   | (with_reducible refine LeO.bind ?_ (fun _ => ?_))
   | exact ih0 _ _ _ _
   | exact ih1 _ _ _ _ _
   | exact lapidaryref08_settled.mono _ _
   | exact LeO.none _
   | refine LeO.ite ?_ ?_
   | refine LeO.bind ?_ (fun _ => ?_)
def lapidaryref08_Mul.T8 : Bool × List (List Nat × List Nat) := (true, [([], []), ([], []), ([], []), ([1, 2], [1, 2]), ([], []), ([], []), ([], []), ([5, 6], [5, 6]), ([4, 7], [4, 7]), ([8], [8]), ([], []), ([10], [10]), ([], []), ([11, 12], [11, 12]), ([13], [13]), ([], []), ([15], [15]), ([], []), ([16, 17], [16, 17]), ([18], [18]), ([14, 19], [14, 19]), ([9, 20], [9, 20]), ([0, 3, 0, 1, 2, 3, 4, 5, 6, 7, 8, 9, 10, 11, 12, 13, 14, 15, 16, 17, 18, 19, 20, 21], [0, 3]), ([22, 21, 0, 1, 2, 3, 4, 5, 6, 7, 8, 9, 10, 11, 12, 13, 14, 15, 16, 17, 18, 19, 20, 21], [21, 22])])
def lapidaryref08_Mul.B8 : List Nat := [0, 0, 0, 6, 0, 0, 0, 96, 240, 496, 0, 1024, 0, 7168, 15360, 0, 32768, 0, 229376, 491520, 1047552, 2097136, 4194303, 8388607]
theorem lapidaryref08_Mul.tab8 : rtab .any (opsOf Try.f46 8) = lapidaryref08_Mul.T8 := by kernel_rfl
theorem lapidaryref08_Mul.bits8 : waitsOk lapidaryref08_Mul.T8.2 lapidaryref08_Mul.B8 = true := by kernel_rfl
set_option maxHeartbeats 8000000 in
set_option maxRecDepth 100000 in
theorem lapidaryref08_Mul.calls (k : Nat) (A0_0 : Option Addr) (c0_0 : Nat) (l0_0 : List Int) (A1_0 : Option Addr) (c1_0 : Nat) (l1_0 : List Int) (r : List Int) (w : World) (hr0_0 : Kd.C (Kd.int .i64) w A0_0 l0_0.length l0_0) (hc0_0 : l0_0.length ≤ c0_0) (hr1_0 : Kd.C (Kd.int .i64) w A1_0 l1_0.length l1_0) (hc1_0 : l1_0.length ≤ c1_0) (h : lapidaryref08_Mul.f k l0_0 l1_0 = some r) :
  Calls Try.prog 46 #[.agg #[.slice A0_0 l0_0.length c0_0], .agg #[.slice A1_0 l1_0.length c1_0]] w fun e w' => ∃ v0_ : Value, e = .returned (.agg #[v0_]) ∧ Kd.R (Kd.int .i64) 3 w' w.heap.size (fun _ => True) v0_ r ∧ Below w.heap.size w w' := by
 have hu36 := Try.underlying36
 have HR0_0 := Aside0.mk hr0_0
 have HC0_0 := Aside0.mk hc0_0
 clear hr0_0 hc0_0
 have HR1_0 := Aside0.mk hr1_0
 have HC1_0 := Aside0.mk hc1_0
 clear hr1_0 hc1_0
 have HB := Aside0.mk (Below.refl w.heap.size w)
 have H : (if 8 ≤ 35184372088832 then (lapidaryref08_Mul.l0 k (List.replicate 8 0) 0 l0_0 l1_0) else (none)) = some r := h
 clear h
 by_cases c3 : 8 ≤ 35184372088832
 ·rw [if_pos c3] at H
  have c3b0 := eq_true c3
  have c3b1 : decide (8 ≤ 35184372088832) = true := decide_eq_true c3
  clear c3
  obtain ⟨y210, hy210⟩ : ∃ y_ : List Int, y_ = (List.replicate 8 0) := ⟨_, rfl⟩
  replace H : (lapidaryref08_Mul.l0 k y210 0 l0_0 l1_0) = some r := by first | (rw [hy210]; with_reducible exact H) | (have H2_ := (Option.bind_some _ _).symm.trans H; rw [hy210]; with_reducible exact H2_) | (have H2_ := (Option.bind_some _ _).symm.trans H; with_reducible exact H2_) | with_reducible exact H | (rw [hy210]; exact H) | exact H
  have Ny210 := Aside0.mk hy210
  clear hy210
  have H' := Aside0.mk H
  clear H
  go_enter Try.func46, Try.ntmps46
  go_wp2_with (first | ((with_reducible refine gate_dst (N := 2) rfl ?_); refine box_event ?hg (N := 2) ?hd (cs := #[.slice A0_0 l0_0.length c0_0]) (t := 36) ?hr ?_; (case hd => rfl); (case hg => rfl); (case hr => first | (go_simp; done) | (go_simp; rfl)); intro gb207 hg w4 hbox hb; have n0_ := Aside0.mk (below_step (bH HB) hb); have n1_ := Aside0.mk (hbox); have n2_ := Aside0.mk ((by rw [hg]; exact (below_size (bH HB)) : w.heap.size ≤ gb207)); have n3_ := n2_; clear HB; have HB := n0_; have BK207 := n1_; have GW207 := n2_; have GE207 := n3_; clear n0_ n1_ n2_ n3_; clear hb hbox hg) | ((with_reducible refine gate_dst (N := 3) rfl ?_); refine box_event ?hg (N := 3) ?hd (cs := #[.slice A1_0 l1_0.length c1_0]) (t := 36) ?hr ?_; (case hd => rfl); (case hg => rfl); (case hr => first | (go_simp; done) | (go_simp; rfl)); intro gb208 hg w5 hbox hb; have n0_ := Aside0.mk (blk_below (g := gb207) (o := .cells #[.slice A0_0 l0_0.length c0_0] 36 (0, 0)) (bK BK207) hb); have n1_ := Aside0.mk (below_step (bH HB) hb); have n2_ := Aside0.mk (hbox); have n3_ := Aside0.mk ((by rw [hg]; exact (below_size (bH HB)) : w.heap.size ≤ gb208)); have n4_ := n3_; have n5_ := Aside0.mk ((by rw [hg]; exact Nat.ne_of_lt (blk_lt (bK BK207)) : gb207 ≠ gb208)); have n6_ := Aside0.mk ((by rw [hg]; exact Nat.ne_of_gt (blk_lt (bK BK207)) : gb208 ≠ gb207)); clear BK207; clear HB; have BK207 := n0_; have HB := n1_; have BK208 := n2_; have GW208 := n3_; have GE208 := n4_; have NB207_208 := n5_; have NB208_207 := n6_; clear n0_ n1_ n2_ n3_ n4_ n5_ n6_; clear hb hbox hg) | ((with_reducible refine gate_dst (N := 4) rfl ?_); refine box_event ?hg (N := 4) ?hd (cs := #[.slice none 0 0]) (t := 36) ?hr ?_; (case hd => rfl); (case hg => rfl); (case hr => first | (go_simp; done) | (go_simp; rfl)); intro gb209 hg w6 hbox hb; have n0_ := Aside0.mk (blk_below (g := gb207) (o := .cells #[.slice A0_0 l0_0.length c0_0] 36 (0, 0)) (bK BK207) hb); have n1_ := Aside0.mk (blk_below (g := gb208) (o := .cells #[.slice A1_0 l1_0.length c1_0] 36 (0, 0)) (bK BK208) hb); have n2_ := Aside0.mk (below_step (bH HB) hb); have n3_ := Aside0.mk (hbox); have n4_ := Aside0.mk ((by rw [hg]; exact (below_size (bH HB)) : w.heap.size ≤ gb209)); have n5_ := n4_; have n6_ := Aside0.mk ((by rw [hg]; exact Nat.ne_of_lt (blk_lt (bK BK207)) : gb207 ≠ gb209)); have n7_ := Aside0.mk ((by rw [hg]; exact Nat.ne_of_gt (blk_lt (bK BK207)) : gb209 ≠ gb207)); have n8_ := Aside0.mk ((by rw [hg]; exact Nat.ne_of_lt (blk_lt (bK BK208)) : gb208 ≠ gb209)); have n9_ := Aside0.mk ((by rw [hg]; exact Nat.ne_of_gt (blk_lt (bK BK208)) : gb209 ≠ gb208)); clear BK207; clear BK208; clear HB; have BK207 := n0_; have BK208 := n1_; have HB := n2_; have BK209 := n3_; have GW209 := n4_; have GE209 := n5_; have NB207_209 := n6_; have NB209_207 := n7_; have NB208_209 := n8_; have NB209_208 := n9_; clear n0_ n1_ n2_ n3_ n4_ n5_ n6_ n7_ n8_ n9_; clear hb hbox hg) | ((with_reducible refine gate_dst (N := 8) rfl ?_); refine Kd.R_make (Kd.int .i64) _ 3 rfl (N := 8) rfl 34 _ _ rfl 8 rfl rfl Try.underlying34 (.int .i64 0) 8 info3 rfl (by decide) (by omega) 0 (ok := fun _ => True) (okp := fun _ => True) rfl (fun _ hk => hk) trivial (by omega) (by omega) (Below.refl _ _) (Nat.le_refl _) ?_; intro v211 w7 ho8 hb hg_ hnew_; clear hg_ hnew_; (first | rw [← Ny210.out] at ho8 | (simp only [Int.reduceToNat] at ho8; rw [← Ny210.out] at ho8)); have n0_ := Aside0.mk (Kd.R_lower ho8 (below_size (bH HB))); have n1_ := Aside0.mk (blk_below (g := gb207) (o := .cells #[.slice A0_0 l0_0.length c0_0] 36 (0, 0)) (bK BK207) hb); have n2_ := Aside0.mk (blk_below (g := gb208) (o := .cells #[.slice A1_0 l1_0.length c1_0] 36 (0, 0)) (bK BK208) hb); have n3_ := Aside0.mk (blk_below (g := gb209) (o := .cells #[.slice none 0 0] 36 (0, 0)) (bK BK209) hb); have n4_ := Aside0.mk (below_step (bH HB) hb); clear BK207; clear BK208; clear BK209; clear HB; have HO212 := n0_; have BK207 := n1_; have BK208 := n2_; have BK209 := n3_; have HB := n4_; clear n0_ n1_ n2_ n3_ n4_; clear hb ho8))
  go_loopg [6] k (fun kq v6 w' => ∃ (x5_1 : List Int) (x6_1 : Int), v6 = .int .i64 x6_1 ∧ Aside0 (lapidaryref08_Mul.l0 kq x5_1 x6_1 l0_0 l1_0 = some r) ∧ Aside0 (kq ≤ k) ∧ Aside0 (Kd.R (Kd.int .i64) 3 w' w.heap.size (fun _ => True) v211 x5_1) ∧ Aside0 (w'.heap[gb207]? = some (.cells #[(.slice A0_0 l0_0.length c0_0)] 36 (0, 0))) ∧ Aside0 (w'.heap[gb208]? = some (.cells #[(.slice A1_0 l1_0.length c1_0)] 36 (0, 0))) ∧ Aside0 (w'.heap[gb209]? = some (.cells #[(.slice none 0 0)] 36 (0, 0))) ∧ Aside0 (Below w.heap.size w w'))
  case atStart => exact ⟨(y210), (0), (by first | rfl | (simp; done) | (simp [*]; done)), H', ⟨Nat.le_refl _⟩, ⟨by (with_reducible repeat (first | apply Kd.R_alloc | apply Kd.R_drewN | apply Kd.R_drew)); exact HO212.out⟩, ⟨bK BK207⟩, ⟨bK BK208⟩, ⟨bK BK209⟩, ⟨ bH HB⟩⟩
  case round =>
   clear H'
   try clear c1
   try clear p2
   try clear c3
   try clear c3b0
   try clear c3b1
   try clear c4
   obtain ⟨x5_1, x6_1, rfl, HA, HK1, HO_5, BK207, BK208, BK209, HB⟩ := hrel
   cases gk with
   | zero => exact absurd HA.out (by simp [lapidaryref08_Mul.l0])
   | succ k1 =>
    have H := HA.out
    clear HA
    simp only [lapidaryref08_Mul.l0] at H
    by_cases c9 : x6_1 < 8
    ·rw [if_pos c9] at H
     have c9b0 : decide (x6_1 < 8) = true := decide_eq_true c9
     clear c9
     have H' := Aside0.mk H
     clear H
     go_wp2
     go_loopg [7] k1 (fun kq v7 w' => ∃ (x5_2 : List Int) (x7_2 : Int), v7 = .int .i64 x7_2 ∧ Aside0 (lapidaryref08_Mul.l1 kq x5_2 x6_1 x7_2 l0_0 l1_0 = some r) ∧ Aside0 (kq ≤ k1) ∧ Aside0 (Kd.R (Kd.int .i64) 3 w' w.heap.size (fun _ => True) v211 x5_2) ∧ Aside0 (w'.heap[gb207]? = some (.cells #[(.slice A0_0 l0_0.length c0_0)] 36 (0, 0))) ∧ Aside0 (w'.heap[gb208]? = some (.cells #[(.slice A1_0 l1_0.length c1_0)] 36 (0, 0))) ∧ Aside0 (w'.heap[gb209]? = some (.cells #[(.slice none 0 0)] 36 (0, 0))) ∧ Aside0 (Below w.heap.size w w'))
     case atStart => exact ⟨(x5_1), (0), (by first | rfl | (simp; done) | (simp [*]; done)), H', ⟨Nat.le_refl _⟩, ⟨by (with_reducible repeat (first | apply Kd.R_alloc | apply Kd.R_drewN | apply Kd.R_drew)); exact HO_5.out⟩, ⟨bK BK207⟩, ⟨bK BK208⟩, ⟨bK BK209⟩, ⟨ bH HB⟩⟩
     case round =>
      clear H'
      try clear c1
      try clear p2
      try clear c3
      try clear c3b0
      try clear c3b1
      try clear c4
      try clear c9
      try clear c9b0
      try clear p2
      obtain ⟨x5_2, x7_2, rfl, HA, HK2, HO_5, BK207, BK208, BK209, HB⟩ := hrel
      cases gk with
      | zero => exact absurd HA.out (by simp [lapidaryref08_Mul.l1])
      | succ k2 =>
       have H := HA.out
       clear HA
       simp only [lapidaryref08_Mul.l1] at H
       by_cases c10 : (wrap64 (x6_1 + x7_2)) < 8
       ·rw [if_pos c10] at H
        have c10b0 : decide ((wrap64 (x6_1 + x7_2)) < 8) = true := decide_eq_true c10
        clear c10
        obtain ⟨ji11, hji11⟩ : ∃ j_ : Int, (wrap64 (x6_1 + x7_2)) = j_ := ⟨_, rfl⟩
        replace H : (if 0 ≤ (ji11) then (if (ji11) < (x5_2.length : Int) then (if 0 ≤ x6_1 then (if x6_1 < (l0_0.length : Int) then (if 0 ≤ x7_2 then (if x7_2 < (l1_0.length : Int) then (lapidaryref08_Mul.l1 k2 (x5_2.set ((ji11) : Int).toNat (wrap64 ((rd x5_2 (ji11)) + (wrap64 ((rd l0_0 x6_1) * (rd l1_0 x7_2)))))) x6_1 (wrap64 (x7_2 + 1)) l0_0 l1_0) else (none)) else (none)) else (none)) else (none)) else (none)) else (none)) = some r := by first | (rw [hji11] at H; exact H) | (simp only [hji11] at H ⊢; exact H)
        (try rw [hji11] at c10b0)
        have hji11w : (IntKind.i64.wrap (x6_1 + x7_2)) = ji11 := (i64_w _).trans hji11
        by_cases c12 : 0 ≤ (ji11)
        ·rw [if_pos c12] at H
         have c12b0 : decide (0 ≤ (ji11)) = true := decide_eq_true c12
         clear c12
         by_cases c13 : (ji11) < (x5_2.length : Int)
         ·rw [if_pos c13] at H
          have c13b0 : decide ((ji11) < (x5_2.length : Int)) = true := decide_eq_true c13
          clear c13
          by_cases c14 : 0 ≤ x6_1
          ·rw [if_pos c14] at H
           have c14b0 : decide (0 ≤ x6_1) = true := decide_eq_true c14
           clear c14
           by_cases c15 : x6_1 < (l0_0.length : Int)
           ·rw [if_pos c15] at H
            have c15b0 : decide (x6_1 < (l0_0.length : Int)) = true := decide_eq_true c15
            clear c15
            by_cases c16 : 0 ≤ x7_2
            ·rw [if_pos c16] at H
             have c16b0 : decide (0 ≤ x7_2) = true := decide_eq_true c16
             clear c16
             by_cases c17 : x7_2 < (l1_0.length : Int)
             ·rw [if_pos c17] at H
              have c17b0 : decide (x7_2 < (l1_0.length : Int)) = true := decide_eq_true c17
              clear c17
              obtain ⟨y219, hy219⟩ : ∃ y_ : List Int, y_ = (x5_2.set ((ji11) : Int).toNat (wrap64 ((rd x5_2 (ji11)) + (wrap64 ((rd l0_0 x6_1) * (rd l1_0 x7_2)))))) := ⟨_, rfl⟩
              replace H : (lapidaryref08_Mul.l1 k2 y219 x6_1 (wrap64 (x7_2 + 1)) l0_0 l1_0) = some r := by first | (rw [hy219]; with_reducible exact H) | (have H2_ := (Option.bind_some _ _).symm.trans H; rw [hy219]; with_reducible exact H2_) | (have H2_ := (Option.bind_some _ _).symm.trans H; with_reducible exact H2_) | with_reducible exact H | (rw [hy219]; exact H) | exact H
              have Ny219 := Aside0.mk hy219
              clear hy219
              have H' := Aside0.mk H
              clear H
              try go_wp2
              have n0_ := Aside0.mk (Kd.R_drew HO_5.out)
              have n1_ := Aside0.mk (blk_drew BK207.out)
              have n2_ := Aside0.mk (blk_drew BK208.out)
              have n3_ := Aside0.mk (blk_drew BK209.out)
              have n4_ := Aside0.mk (below_drew1 HB.out)
              clear HO_5
              clear BK207
              clear BK208
              clear BK209
              clear HB
              have HO_5 := n0_
              have BK207 := n1_
              have BK208 := n2_
              have BK209 := n3_
              have HB := n4_
              clear n0_ n1_ n2_ n3_ n4_
              obtain ⟨Ao20, co20, eo20⟩ := Kd.R_slice HO_5.out
              (first | subst eo20 | (injection eo20 with f1_ f2_ f3_; have f4_ := f1_.symm; have f5_ := f3_.symm; clear f1_ f2_ f3_; subst f4_; subst f5_))
              have p216 : 0 ≤ ((ji11) : Int) := of_decide_eq_true (by first | (with_reducible assumption) | assumption)
              have q216 : (ji11) < (x5_2.length : Int) := of_decide_eq_true (by first | (with_reducible assumption) | assumption)
              obtain ⟨ad216, e216, hx216_0⟩ := Kd.at_int (Kd.R_reads' HO_5.out).2.2 (ji11) p216 q216
              cases e216
              replace p216 := eq_true p216
              replace q216 := eq_true q216
              have p217 : 0 ≤ (x6_1 : Int) := of_decide_eq_true (by first | (with_reducible assumption) | assumption)
              have q217 : x6_1 < (l0_0.length : Int) := of_decide_eq_true (by first | (with_reducible assumption) | assumption)
              obtain ⟨ad217, e217, hx217_0⟩ := Kd.at_int HR0_0.out x6_1 p217 q217
              have hw217_0 := hx217_0
              cases e217
              replace hx217_0 := (HB.out.cell (World.block_lt_of_cell? w _ hx217_0)).trans hx217_0
              replace p217 := eq_true p217
              replace q217 := eq_true q217
              have p218 : 0 ≤ (x7_2 : Int) := of_decide_eq_true (by first | (with_reducible assumption) | assumption)
              have q218 : x7_2 < (l1_0.length : Int) := of_decide_eq_true (by first | (with_reducible assumption) | assumption)
              obtain ⟨ad218, e218, hx218_0⟩ := Kd.at_int HR1_0.out x7_2 p218 q218
              have hw218_0 := hx218_0
              cases e218
              replace hx218_0 := (HB.out.cell (World.block_lt_of_cell? w _ hx218_0)).trans hx218_0
              replace p218 := eq_true p218
              replace q218 := eq_true q218
              have p18 : 0 ≤ ((ji11) : Int) := of_decide_eq_true (by first | (with_reducible assumption) | assumption)
              have q18 : ((ji11) : Int) < ((x5_2.length : Int) : Int) := of_decide_eq_true (by first | (with_reducible assumption) | assumption)
              obtain ⟨go18, co18, eo18, gb18, gl18, cl18, HG18⟩ := Kd.R_form HO_5.out (by omega)
              (first | cases eo18 | (injection eo18 with ea_ en_ ec_; (first | subst ea_ | (injection ea_ with ea_; subst ea_)); subst ec_; clear en_))
              have GB18 := Aside0.mk gb18
              have GG18 := Aside0.mk HG18
              clear gb18 gl18 HG18
              (first | simp only [add_plain] at hx216_0 | skip)
              obtain ⟨hx18_0, hf18_0⟩ := Kd.R_celln 0 HO_5.out ((ji11) : Int) p18 q18
              replace p18 := eq_true p18
              replace q18 := eq_true q18
              have HP21 := Kd.R_putn HO_5.out ((ji11) : Int) (wrap64 ((rd x5_2 (ji11)) + (wrap64 ((rd l0_0 x6_1) * (rd l1_0 x7_2)))))
              rw [← Ny219.out] at HP21
              have HQ21 := Aside0.mk HP21
              clear HP21
              refine start_ (n := 24) (S := fun w' => w'.cell? ⟨gb207, 0, none⟩ = some (.slice (some ad217) l0_0.length c0_0) ∧ w'.cell? ⟨gb208, 0, none⟩ = some (.slice (some ad218) l1_0.length c1_0) ∧ w'.cell? ⟨go18, ((ji11)).toNat, none⟩ = some (.int .i64 (rd x5_2 (ji11))) ∧ w'.cell? (ad217.add (x6_1).toNat) = some (.int .i64 (rd l0_0 x6_1)) ∧ w'.cell? (ad218.add (x7_2).toNat) = some (.int .i64 (rd l1_0 x7_2))) (ds := [23]) #[false, false, false, false, false, false, false, false, false, false, false, false, false, false, false, false, false, false, false, false, false, false, false, false] (by kernel_rfl) rfl rfl ⟨(blk_cell BK207.out 0).trans rfl, (blk_cell BK208.out 0).trans rfl, hx216_0, ((HB.out.cell (World.block_lt_of_cell? w _ hw217_0)).trans hw217_0), ((HB.out.cell (World.block_lt_of_cell? w _ hw218_0)).trans hw218_0)⟩ (fun hHeld => ?_); refine with_tabW lapidaryref08_Mul.tab8 lapidaryref08_Mul.bits8 (fun HT_ HW_ => ?_)
              generalize wr.drew = w19 at HO_5 BK207 BK208 BK209 HB GG18 HQ21 hf18_0 hx18_0 hx216_0 hx217_0 hx218_0 hHeld ⊢
              refine pure_ (i := 0) (N := some 19) (v := ?_) (a' := ?_) #[true, false, false, false, false, false, false, false, false, false, false, false, false, false, false, false, false, false, false, false, false, false, false, false] rfl rfl (any_of HT_.out (by kernel_rfl)) (fun _ _ _ h => h) (Or.inl ⟨by rfl, ?_⟩) ?_ ?_
              rotate_left
              ·intro w'
               go_simp
               with_reducible rfl
              rotate_left
              ·simp only [Act.put, List.setIfInBounds_toArray, List.set_cons_zero, List.set_cons_succ, i64_w, i32_w]
               rfl
              refine pure_ (i := 1) (N := some 20) (v := ?_) (a' := ?_) #[true, true, false, false, false, false, false, false, false, false, false, false, false, false, false, false, false, false, false, false, false, false, false, false] rfl rfl (any_of HT_.out (by kernel_rfl)) (fun _ _ _ h => h) (Or.inl ⟨by rfl, ?_⟩) ?_ ?_
              rotate_left
              ·intro w'
               go_simp
               with_reducible rfl
              rotate_left
              ·simp only [Act.put, List.setIfInBounds_toArray, List.set_cons_zero, List.set_cons_succ, i64_w, i32_w]
               rfl
              refine pure_ (i := 2) (N := some 21) (v := ?_) (a' := ?_) #[true, true, true, false, false, false, false, false, false, false, false, false, false, false, false, false, false, false, false, false, false, false, false, false] rfl rfl (any_of HT_.out (by kernel_rfl)) (fun _ _ _ h => h) (Or.inl ⟨by rfl, ?_⟩) ?_ ?_
              rotate_left
              ·intro w'
               go_simp
               with_reducible rfl
              rotate_left
              ·simp only [Act.put, List.setIfInBounds_toArray, List.set_cons_zero, List.set_cons_succ, i64_w, i32_w]
               rfl
              refine pure_ (i := 3) (N := some 22) (v := ?_) (a' := ?_) #[true, true, true, true, false, false, false, false, false, false, false, false, false, false, false, false, false, false, false, false, false, false, false, false] rfl rfl (any_of HT_.out (by kernel_rfl)) (fun _ _ _ h => h) (Or.inl ⟨by rfl, ?_⟩) ?_ ?_
              rotate_left
              ·intro w'
               go_simp
               with_reducible rfl
              rotate_left
              ·simp only [Act.put, List.setIfInBounds_toArray, List.set_cons_zero, List.set_cons_succ, i64_w, i32_w]
               rfl
              refine pure_ (i := 4) (N := some 23) (v := ?_) (a' := ?_) #[true, true, true, true, true, false, false, false, false, false, false, false, false, false, false, false, false, false, false, false, false, false, false, false] rfl rfl (any_of HT_.out (by kernel_rfl)) (fun _ _ _ h => h) (Or.inl ⟨by rfl, ?_⟩) ?_ ?_
              rotate_left
              ·intro w'
               go_simp
               with_reducible rfl
              rotate_left
              ·simp only [Act.put, List.setIfInBounds_toArray, List.set_cons_zero, List.set_cons_succ, i64_w, i32_w]
               rfl
              refine pure_ (i := 5) (N := some 24) (v := ?_) (a' := ?_) #[true, true, true, true, true, true, false, false, false, false, false, false, false, false, false, false, false, false, false, false, false, false, false, false] rfl rfl (any_of HT_.out (by kernel_rfl)) (fun _ _ _ h => h) (Or.inl ⟨by rfl, ?_⟩) ?_ ?_
              rotate_left
              ·intro w'
               go_simp
               with_reducible rfl
              rotate_left
              ·simp only [Act.put, List.setIfInBounds_toArray, List.set_cons_zero, List.set_cons_succ, i64_w, i32_w]
               rfl
              refine pure_ (i := 6) (N := some 25) (v := ?_) (a' := ?_) #[true, true, true, true, true, true, true, false, false, false, false, false, false, false, false, false, false, false, false, false, false, false, false, false] rfl rfl (any_of HT_.out (by kernel_rfl)) (fun _ _ _ h => h) (Or.inl ⟨by rfl, ?_⟩) ?_ ?_
              rotate_left
              ·intro w'
               go_simp
               with_reducible rfl
              rotate_left
              ·simp only [Act.put, List.setIfInBounds_toArray, List.set_cons_zero, List.set_cons_succ, i64_w, i32_w]
               rfl
              refine pure_ (i := 7) (N := some 26) (v := ?_) (a' := ?_) #[true, true, true, true, true, true, true, true, false, false, false, false, false, false, false, false, false, false, false, false, false, false, false, false] rfl rfl (any_of HT_.out (by kernel_rfl)) (fun _ _ _ h => h) (Or.inl ⟨by rfl, ?_⟩) ?_ ?_
              rotate_left
              ·intro w'
               go_simp
               with_reducible rfl
              rotate_left
              ·simp only [Act.put, List.setIfInBounds_toArray, List.set_cons_zero, List.set_cons_succ, i64_w, i32_w]
               rfl
              refine pure_ (i := 8) (N := some 27) (v := ?_) (a' := ?_) #[true, true, true, true, true, true, true, true, true, false, false, false, false, false, false, false, false, false, false, false, false, false, false, false] rfl rfl (any_of HT_.out (by kernel_rfl)) (fun _ _ _ h => h) (Or.inl ⟨by rfl, ?_⟩) ?_ ?_
              rotate_left
              ·intro w'
               go_simp
               with_reducible rfl
              rotate_left
              ·simp only [Act.put, List.setIfInBounds_toArray, List.set_cons_zero, List.set_cons_succ, i64_w, i32_w]
               rfl
              refine pure_ (i := 10) (N := some 29) (v := ?_) (a' := ?_) #[true, true, true, true, true, true, true, true, true, false, true, false, false, false, false, false, false, false, false, false, false, false, false, false] rfl rfl (any_of HT_.out (by kernel_rfl)) (fun _ _ _ h => h) (Or.inl ⟨by rfl, ?_⟩) ?_ ?_
              rotate_left
              ·intro w'
               go_simp
               with_reducible rfl
              rotate_left
              ·simp only [Act.put, List.setIfInBounds_toArray, List.set_cons_zero, List.set_cons_succ, i64_w, i32_w]
               rfl
              refine pure_ (i := 12) (N := some 31) (v := ?_) (a' := ?_) #[true, true, true, true, true, true, true, true, true, false, true, false, true, false, false, false, false, false, false, false, false, false, false, false] rfl rfl (any_of HT_.out (by kernel_rfl)) (fun _ _ _ h => h) (Or.inl ⟨by rfl, ?_⟩) ?_ ?_
              rotate_left
              ·intro w'
               go_simp
               with_reducible rfl
              rotate_left
              ·simp only [Act.put, List.setIfInBounds_toArray, List.set_cons_zero, List.set_cons_succ, i64_w, i32_w]
               rfl
              refine pure_ (i := 15) (N := some 34) (v := ?_) (a' := ?_) #[true, true, true, true, true, true, true, true, true, false, true, false, true, false, false, true, false, false, false, false, false, false, false, false] rfl rfl (any_of HT_.out (by kernel_rfl)) (fun _ _ _ h => h) (Or.inl ⟨by rfl, ?_⟩) ?_ ?_
              rotate_left
              ·intro w'
               go_simp
               with_reducible rfl
              rotate_left
              ·simp only [Act.put, List.setIfInBounds_toArray, List.set_cons_zero, List.set_cons_succ, i64_w, i32_w]
               rfl
              refine pure_ (i := 17) (N := some 36) (v := ?_) (a' := ?_) #[true, true, true, true, true, true, true, true, true, false, true, false, true, false, false, true, false, true, false, false, false, false, false, false] rfl rfl (any_of HT_.out (by kernel_rfl)) (fun _ _ _ h => h) (Or.inl ⟨by rfl, ?_⟩) ?_ ?_
              rotate_left
              ·intro w'
               go_simp
               with_reducible rfl
              rotate_left
              ·simp only [Act.put, List.setIfInBounds_toArray, List.set_cons_zero, List.set_cons_succ, i64_w, i32_w]
               rfl
              refine take_ (i := 9) (N := some 28) (v := ?_) (a' := ?_) #[true, true, true, true, true, true, true, true, true, true, true, false, true, false, false, true, false, true, false, false, false, false, false, false] rfl rfl (take_ofW HT_.out HW_.out (by kernel_rfl)) (fun _ _ _ h => h) (Or.inl ⟨by rfl, ?_⟩) hHeld ?_ ?_
              rotate_left
              ·rintro w' ⟨s0, s1, s2, s3, s4⟩
               go_simp
               with_reducible rfl
              rotate_left
              ·simp only [Act.put, List.setIfInBounds_toArray, List.set_cons_zero, List.set_cons_succ, i64_w, i32_w]
               rfl
              refine take_ (i := 11) (N := some 30) (v := ?_) (a' := ?_) #[true, true, true, true, true, true, true, true, true, true, true, true, true, false, false, true, false, true, false, false, false, false, false, false] rfl rfl (take_ofW HT_.out HW_.out (by kernel_rfl)) (fun _ _ _ h => h) (Or.inl ⟨by rfl, ?_⟩) hHeld ?_ ?_
              rotate_left
              ·rintro w' ⟨s0, s1, s2, s3, s4⟩
               go_simp
               with_reducible rfl
              rotate_left
              ·simp only [Act.put, List.setIfInBounds_toArray, List.set_cons_zero, List.set_cons_succ, i64_w, i32_w]
               rfl
              refine pure_ (i := 13) (N := some 32) (v := ?_) (a' := ?_) #[true, true, true, true, true, true, true, true, true, true, true, true, true, true, false, true, false, true, false, false, false, false, false, false] rfl rfl (any_of HT_.out (by kernel_rfl)) (fun _ _ _ h => h) (Or.inl ⟨by rfl, ?_⟩) ?_ ?_
              rotate_left
              ·intro w'
               go_simp
               with_reducible rfl
              rotate_left
              ·simp only [Act.put, List.setIfInBounds_toArray, List.set_cons_zero, List.set_cons_succ, i64_w, i32_w]
               rfl
              refine take_ (i := 14) (N := some 33) (v := ?_) (a' := ?_) #[true, true, true, true, true, true, true, true, true, true, true, true, true, true, true, true, false, true, false, false, false, false, false, false] rfl rfl (take_ofW HT_.out HW_.out (by kernel_rfl)) (fun _ _ _ h => h) (Or.inl ⟨by rfl, ?_⟩) hHeld ?_ ?_
              rotate_left
              ·rintro w' ⟨s0, s1, s2, s3, s4⟩
               go_simp
               with_reducible rfl
              rotate_left
              ·simp only [Act.put, List.setIfInBounds_toArray, List.set_cons_zero, List.set_cons_succ, i64_w, i32_w]
               rfl
              refine take_ (i := 16) (N := some 35) (v := ?_) (a' := ?_) #[true, true, true, true, true, true, true, true, true, true, true, true, true, true, true, true, true, true, false, false, false, false, false, false] rfl rfl (take_ofW HT_.out HW_.out (by kernel_rfl)) (fun _ _ _ h => h) (Or.inl ⟨by rfl, ?_⟩) hHeld ?_ ?_
              rotate_left
              ·rintro w' ⟨s0, s1, s2, s3, s4⟩
               go_simp
               with_reducible rfl
              rotate_left
              ·simp only [Act.put, List.setIfInBounds_toArray, List.set_cons_zero, List.set_cons_succ, i64_w, i32_w]
               rfl
              refine pure_ (i := 18) (N := some 37) (v := ?_) (a' := ?_) #[true, true, true, true, true, true, true, true, true, true, true, true, true, true, true, true, true, true, true, false, false, false, false, false] rfl rfl (any_of HT_.out (by kernel_rfl)) (fun _ _ _ h => h) (Or.inl ⟨by rfl, ?_⟩) ?_ ?_
              rotate_left
              ·intro w'
               go_simp
               with_reducible rfl
              rotate_left
              ·simp only [Act.put, List.setIfInBounds_toArray, List.set_cons_zero, List.set_cons_succ, i64_w, i32_w]
               rfl
              refine take_ (i := 19) (N := some 38) (v := ?_) (a' := ?_) #[true, true, true, true, true, true, true, true, true, true, true, true, true, true, true, true, true, true, true, true, false, false, false, false] rfl rfl (take_ofW HT_.out HW_.out (by kernel_rfl)) (fun _ _ _ h => h) (Or.inl ⟨by rfl, ?_⟩) hHeld ?_ ?_
              rotate_left
              ·rintro w' ⟨s0, s1, s2, s3, s4⟩
               go_simp
               with_reducible rfl
              rotate_left
              ·simp only [Act.put, List.setIfInBounds_toArray, List.set_cons_zero, List.set_cons_succ, i64_w, i32_w]
               rfl
              refine pure_ (i := 20) (N := some 39) (v := ?_) (a' := ?_) #[true, true, true, true, true, true, true, true, true, true, true, true, true, true, true, true, true, true, true, true, true, false, false, false] rfl rfl (any_of HT_.out (by kernel_rfl)) (fun _ _ _ h => h) (Or.inl ⟨by rfl, ?_⟩) ?_ ?_
              rotate_left
              ·intro w'
               go_simp
               with_reducible rfl
              rotate_left
              ·simp only [Act.put, List.setIfInBounds_toArray, List.set_cons_zero, List.set_cons_succ, i64_w, i32_w]
               rfl
              refine pure_ (i := 21) (N := some 40) (v := ?_) (a' := ?_) #[true, true, true, true, true, true, true, true, true, true, true, true, true, true, true, true, true, true, true, true, true, true, false, false] rfl rfl (any_of HT_.out (by kernel_rfl)) (fun _ _ _ h => h) (Or.inl ⟨by rfl, ?_⟩) ?_ ?_
              rotate_left
              ·intro w'
               go_simp
               with_reducible rfl
              rotate_left
              ·simp only [Act.put, List.setIfInBounds_toArray, List.set_cons_zero, List.set_cons_succ, i64_w, i32_w]
               rfl
              refine pure_ (i := 22) (N := some 41) (v := ?_) (a' := ?_) #[true, true, true, true, true, true, true, true, true, true, true, true, true, true, true, true, true, true, true, true, true, true, true, false] rfl rfl (any_of HT_.out (by kernel_rfl)) (fun _ _ _ h => h) (Or.inl ⟨by rfl, ?_⟩) ?_ ?_
              rotate_left
              ·intro w'
               go_simp
               with_reducible rfl
              rotate_left
              ·simp only [Act.put, List.setIfInBounds_toArray, List.set_cons_zero, List.set_cons_succ, i64_w, i32_w]
               rfl
              refine last_ (i := 23) (N := none) #[true, true, true, true, true, true, true, true, true, true, true, true, true, true, true, true, true, true, true, true, true, true, true, true] rfl rfl (one_of HT_.out (by kernel_rfl)) (by decide) (fun K hK => ?_)
              refine skip_ (w1 := ?_) (by rfl) rfl ?_ ?_
              rotate_left
              ·go_simp
               rfl
              refine hK.out _ _ ?_
              clear hK K
              refine done_ (done_of HT_.out (by kernel_rfl)) ?_
              try go_wp2
              go_roundg k2
              case measure => have := HK1.out; have := HK2.out; omega
              case rel => exact ⟨(y219), (wrap64 (x7_2 + 1)), (by first | rfl | (simp; done) | (simp [*]; done)), H', ⟨by have := HK1.out; have := HK2.out; omega⟩, ⟨by (with_reducible repeat (first | apply Kd.R_alloc | apply Kd.R_drewN | apply Kd.R_drew)); exact HQ21.out⟩, ⟨by (with_reducible repeat (first | refine blk_drewN ?_ _ | refine blk_drew ?_ | refine blk_alloc ?_ _)); refine blk_far ?_ (by have h_ := Kd.R_ne HO_5.out BK207.out (by decide); intro e_; exact h_ (by rw [e_]; rfl)) _; (with_reducible repeat (first | refine blk_drewN ?_ _ | refine blk_drew ?_ | refine blk_alloc ?_ _)); exact BK207.out⟩, ⟨by (with_reducible repeat (first | refine blk_drewN ?_ _ | refine blk_drew ?_ | refine blk_alloc ?_ _)); refine blk_far ?_ (by have h_ := Kd.R_ne HO_5.out BK208.out (by decide); intro e_; exact h_ (by rw [e_]; rfl)) _; (with_reducible repeat (first | refine blk_drewN ?_ _ | refine blk_drew ?_ | refine blk_alloc ?_ _)); exact BK208.out⟩, ⟨by (with_reducible repeat (first | refine blk_drewN ?_ _ | refine blk_drew ?_ | refine blk_alloc ?_ _)); refine blk_far ?_ (by have h_ := Kd.R_ne HO_5.out BK209.out (by decide); intro e_; exact h_ (by rw [e_]; rfl)) _; (with_reducible repeat (first | refine blk_drewN ?_ _ | refine blk_drew ?_ | refine blk_alloc ?_ _)); exact BK209.out⟩, ⟨by repeat (first | (with_reducible first | exact HB.out | apply below_alloc | apply pw_below_drewN | apply below_drew1 | refine below_set ?_ GB18.out | refine below_set ?_ GE207.out | refine below_set ?_ GE208.out | refine below_set ?_ GE209.out) | exact HB.out)⟩⟩
             ·rw [if_neg c17] at H
              exact absurd H (by simp)
            ·rw [if_neg c16] at H
             exact absurd H (by simp)
           ·rw [if_neg c15] at H
            exact absurd H (by simp)
          ·rw [if_neg c14] at H
           exact absurd H (by simp)
         ·rw [if_neg c13] at H
          exact absurd H (by simp)
        ·rw [if_neg c12] at H
         exact absurd H (by simp)
       ·rw [if_neg c10] at H
        have c10b0 : decide ((wrap64 (x6_1 + x7_2)) < 8) = false := decide_eq_false c10
        clear c10
        have H' := Aside0.mk H
        clear H
        go_wp2
        go_roundg k2
        case measure => have := HK1.out; have := HK2.out; omega
        case rel => exact ⟨(x5_2), (wrap64 (x6_1 + 1)), (by first | rfl | (simp; done) | (simp [*]; done)), H', ⟨by have := HK1.out; have := HK2.out; omega⟩, ⟨by (with_reducible repeat (first | apply Kd.R_alloc | apply Kd.R_drewN | apply Kd.R_drew)); exact HO_5.out⟩, ⟨bK BK207⟩, ⟨bK BK208⟩, ⟨bK BK209⟩, ⟨ bH HB⟩⟩
    ·rw [if_neg c9] at H
     have c9b0 : decide (x6_1 < 8) = false := decide_eq_false c9
     clear c9
     replace H := Option.bind_eq_some_iff.mp H
     obtain ⟨t213, A220, H⟩ := H
     replace H : (some t213) = some r := H
     have A22 := Aside0.mk A220
     clear A220
     obtain rfl := Option.some.inj H
     obtain ⟨Ao23, co23, eo23⟩ := Kd.R_slice HO_5.out
     subst eo23
     go_wp2_with (first | ((with_reducible refine gate_callee (f := 45) rfl ?_); refine goesL_ (some 43) rfl rfl Try.func45 (by kernel_rfl) rfl #[.slice Ao23 x5_1.length co23] rfl (by (try simp only [List.map_toArray, List.map_cons, List.map_nil]); first | done | rfl | (simp only [List.length_drop, List.length_take]; rfl)) ?_; (with_reducible refine (lapidaryref08_settled.calls k1 _ _ x5_1 t213 _ ?side1 ?side2 A22.out).mono ?_); (case side1 => repeat (first | exact (Kd.R_reads' HO_5.out).2.2 | (with_reducible refine Kd.C_alloc ?_ _) | (with_reducible refine Kd.C_drewN ?_ _) | (with_reducible refine Kd.C_drew ?_))); (case side2 => exact (Kd.R_reads' HO_5.out).2.1); rintro e w24 ⟨v214, rfl, ho0, hb⟩; refine ⟨_, rfl, ?_⟩; have n0_ := Aside0.mk (Kd.R_elder' (rK HO_5) (Kd.R_base ho0) hb); have n1_ := Aside0.mk (Kd.R_lower (Kd.R_new' ho0 (Kd.R_lt (rK HO_5))) (below_size (bH HB))); have n2_ := Aside0.mk (blk_below (g := gb207) (o := .cells #[.slice A0_0 l0_0.length c0_0] 36 (0, 0)) (bK BK207) hb); have n3_ := Aside0.mk (blk_below (g := gb208) (o := .cells #[.slice A1_0 l1_0.length c1_0] 36 (0, 0)) (bK BK208) hb); have n4_ := Aside0.mk (blk_below (g := gb209) (o := .cells #[.slice none 0 0] 36 (0, 0)) (bK BK209) hb); have n5_ := Aside0.mk (below_step (bH HB) hb); clear HO_5; clear BK207; clear BK208; clear BK209; clear HB; have HO_5 := n0_; have HO215 := n1_; have BK207 := n2_; have BK208 := n3_; have BK209 := n4_; have HB := n5_; clear n0_ n1_ n2_ n3_ n4_ n5_; (try clear hb); (try clear hb2); (try clear hk); (try clear hi); (try clear ho0); obtain ⟨Ao25, co25, eo25⟩ := Kd.R_slice HO215.out; subst eo25; have hnb26 := NB209_207.out; have hnc26 := NB207_209.out; have hnb27 := NB209_208.out; have hnc27 := NB208_209.out; have hcz28_0 : w24.cell? ⟨gb209, 0, none⟩ = some (.slice none 0 0) := (blk_cell BK209.out 0).trans rfl; have hfz28_0 := blk_frozen BK209.out 0))
     refine bodyPost_ret (results_cell_row rfl _ _ gb209 36 #[.slice Ao25 t213.length co25] (0, 0) _ rfl (by (with_reducible repeat (first | refine blk_drewN ?_ _ | refine blk_drew ?_ | refine blk_alloc ?_ _)); refine blk_put (cs := #[.slice none 0 0]) ?_ 0 _ rfl; (with_reducible repeat (first | refine blk_drewN ?_ _ | refine blk_drew ?_ | refine blk_alloc ?_ _)); exact BK209.out) Try.underlying36 rfl (by kernel_rfl)) rfl ?_
     exact ⟨_, by first | rfl | (simp [errW_none, errW_some] <;> rfl) | (simp [*, errW_none, errW_some] <;> rfl), by (with_reducible repeat (first | apply Kd.R_alloc | apply Kd.R_drewN | apply Kd.R_drew)); exact Kd.R_mono (Kd.R_far (p := ⟨gb209, 0, none⟩) (Kd.R_types HO215.out BK209.out (by decide)) (fun _ hk => hk.2) (.slice Ao25 t213.length co25)) (fun _ hk => trivial), bH HB⟩
 ·rw [if_neg c3] at H
  exact absurd H (by simp)

end Go.Proofs.Ytlnjbpapbifjfaa.P
