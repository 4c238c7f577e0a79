/- Written for this claim by a program of this session (a turned copy of the print): Go functions as Lean functions, and that the Go code comes to just these answers; or a statement proved out of them. No condition. -/
import Derived.Test.YtbonkedecfjmdaaZ2

namespace Go.Proofs.Ytbonkedecfjmdaa.P
open Go.RowKit Go.Proofs.YtbonkedecfjmdaaW.PrintWords Go.Proofs.YtbonkedecfjmdaaW.PrintLast Go.Proofs.YtbonkedecfjmdaaW.PrintMore Go.Proofs.Ytbonkedecfjmdaa.X
attribute [local go_sem] max2_int min2_int max_two min_two max_three min_three max_four min_four add64_0 add64_1 add64   -- for this text's walks alone
set_option linter.unusedVariables false
set_option linter.unusedSimpArgs false

/-! ### plan_sides: function 76 -/
mutual
def plan_sides.l0 : Nat → List (S109) → List (List (S27)) → Int → Int → Option ((List (S109)))
 | 0, _, _, _, _ => none
 | k + 1, x3, x8, x9, x10 => if x10 < x9 then (if 0 ≤ x10 then (if x10 < (x8.length : Int) then (plan_sides.l1 k x3 x10 (rd_L2 x8 x10) 1 x8 x9 x10) else (none)) else (none)) else (some x3)
def plan_sides.l1 : Nat → List (S109) → Int → List (S27) → Int → List (List (S27)) → Int → Int → Option ((List (S109)))
 | 0, _, _, _, _, _, _, _ => none
 | k + 1, x3, x4, x5, x6, x8, x9, x10 => if x6 < (x5.length : Int) then (if 0 ≤ (wrap64 (x6 - 1)) then (if (wrap64 (x6 - 1)) < (x5.length : Int) then (if 0 ≤ x6 then (if x3.length < 1954687338268 then (plan_sides.l1 k (x3 ++ [(⟨(⟨(rd_T27 x5 (wrap64 (x6 - 1))).f0, (rd_T27 x5 (wrap64 (x6 - 1))).f1, (rd_T27 x5 (wrap64 (x6 - 1))).f2⟩ : S27), (⟨(rd_T27 x5 x6).f0, (rd_T27 x5 x6).f1, (rd_T27 x5 x6).f2⟩ : S27), x4, x6, (x6 == 1), (x6 == (wrap64 ((x5.length : Int) - 1)))⟩ : S109)]) x4 x5 (wrap64 (x6 + 1)) x8 x9 x10) else (none)) else (none)) else (none)) else (none)) else (plan_sides.l0 k x3 x8 x9 (wrap64 (x10 + 1)))
end
def plan_sides.f (k : Nat) (l0_0 : List (List (S27))) (l0_1 : List (List Int)) (l0_2 : List (List Int)) : Option ((List (S109))) := plan_sides.l0 k ([] : List (S109)) l0_0 (l0_0.length : Int) 0
theorem plan_sides.mono_l : ∀ k, (∀ y0 y1 y2 y3, LeO (plan_sides.l0 k y0 y1 y2 y3) (plan_sides.l0 (k + 1) y0 y1 y2 y3)) ∧ (∀ y0 y1 y2 y3 y4 y5 y6, LeO (plan_sides.l1 k y0 y1 y2 y3 y4 y5 y6) (plan_sides.l1 (k + 1) y0 y1 y2 y3 y4 y5 y6))
 | 0 => ⟨fun _ _ _ _ r h => by simp [plan_sides.l0] at h, fun _ _ _ _ _ _ _ r h => by simp [plan_sides.l1] at h⟩
 | k + 1 => by
  obtain ⟨ih0, ih1⟩ := plan_sides.mono_l k
  refine ⟨?_, ?_⟩
  ·intro y0 y1 y2 y3
   unfold plan_sides.l0
   repeat' first
   | (with_reducible exact ih0 _ _ _ _)
   | (with_reducible exact ih1 _ _ _ _ _ _ _)
   | (with_reducible exact LeO.refl _)
   | (with_reducible exact LeO.none _)
   | (with_reducible refine LeO.ite ?_ ?_)
   | (with_reducible refine LeO.bind ?_ (fun _ => ?_))
   | exact ih0 _ _ _ _
   | exact ih1 _ _ _ _ _ _ _
   | exact LeO.none _
   | refine LeO.ite ?_ ?_
   | refine LeO.bind ?_ (fun _ => ?_)
  ·intro y0 y1 y2 y3 y4 y5 y6
   unfold plan_sides.l1
   repeat' first
   | (with_reducible exact ih0 _ _ _ _)
   | (with_reducible exact ih1 _ _ _ _ _ _ _)
   | (with_reducible exact LeO.refl _)
   | (with_reducible exact LeO.none _)
   | (with_reducible refine LeO.ite ?_ ?_)
   | (with_reducible refine LeO.bind ?_ (fun _ => ?_))
   | exact ih0 _ _ _ _
   | exact ih1 _ _ _ _ _ _ _
   | exact LeO.none _
   | refine LeO.ite ?_ ?_
   | refine LeO.bind ?_ (fun _ => ?_)
theorem plan_sides.mono : ∀ a0 a1 a2 k, LeO (plan_sides.f k a0 a1 a2) (plan_sides.f (k + 1) a0 a1 a2) := by
 intro a0 a1 a2 k
 obtain ⟨ih0, ih1⟩ := plan_sides.mono_l k
 unfold plan_sides.f
 repeat' first
   | (with_reducible exact ih0 _ _ _ _)
   | (with_reducible exact ih1 _ _ _ _ _ _ _)
   | (with_reducible exact LeO.refl _)
   | (with_reducible exact LeO.none _)
   | (with_reducible refine LeO.ite ?_ ?_)
   | (with_reducible refine LeO.bind ?_ (fun _ => ?_))
   | exact ih0 _ _ _ _
   | exact ih1 _ _ _ _ _ _ _
   | exact LeO.none _
   | refine LeO.ite ?_ ?_
   | refine LeO.bind ?_ (fun _ => ?_)
def plan_sides.T8 : Bool × List (List Nat × List Nat) := (true, [([], []), ([], []), ([], []), ([2], [2]), ([1, 3], [1, 3]), ([4], [4]), ([], []), ([], []), ([6, 7], [6, 7]), ([8], [8]), ([], []), ([], []), ([], []), ([12], [12]), ([], []), ([], []), ([15], [15]), ([16], [16]), ([14, 17], [14, 17]), ([5, 9, 10, 11, 13, 18], [5, 9, 10, 11, 13, 18]), ([19], [19]), ([0, 20], [0, 20]), ([21, 21, 0, 1, 2, 3, 4, 5, 6, 7, 8, 9, 10, 11, 12, 13, 14, 15, 16, 17, 18, 19, 20, 21], [0, 21])])
def plan_sides.B8 : List Nat := [0, 0, 0, 4, 14, 30, 0, 0, 192, 448, 0, 0, 0, 4096, 0, 0, 32768, 98304, 245760, 524286, 1048574, 2097151, 4194303]
theorem plan_sides.tab8 : rtab .any (opsOf Try.f76 8) = plan_sides.T8 := by kernel_rfl
theorem plan_sides.bits8 : waitsOk plan_sides.T8.2 plan_sides.B8 = true := by kernel_rfl
set_option maxHeartbeats 8000000 in
set_option maxRecDepth 100000 in
theorem plan_sides.calls (k : Nat) (A0_0 : Option Addr) (c0_0 : Nat) (l0_0 : List (List (S27))) (A0_1 : Option Addr) (c0_1 : Nat) (l0_1 : List (List Int)) (A0_2 : Option Addr) (c0_2 : Nat) (l0_2 : List (List Int)) (r : List (S109)) (w : World) (hr0_0 : Kd.C (Kd.slice 27 k27) w A0_0 l0_0.length l0_0) (hc0_0 : l0_0.length ≤ c0_0) (hr0_1 : Kd.C (Kd.slice 3 (Kd.int .i64)) w A0_1 l0_1.length l0_1) (hc0_1 : l0_1.length ≤ c0_1) (hr0_2 : Kd.C (Kd.slice 3 (Kd.int .i64)) w A0_2 l0_2.length l0_2) (hc0_2 : l0_2.length ≤ c0_2) (h : plan_sides.f k l0_0 l0_1 l0_2 = some r) :
  Calls Try.prog 76 #[.agg #[.slice A0_0 l0_0.length c0_0, .slice A0_1 l0_1.length c0_1, .slice A0_2 l0_2.length c0_2]] w fun e w' => ∃ v0_ : Value, e = .returned (v0_) ∧ Kd.R k109 109 w' w.heap.size (fun _ => True) v0_ r ∧ Below w.heap.size w w' := by
 have hu25 := Try.underlying25
 have hu27 := Try.underlying27
 have hu109 := Try.underlying109
 have HR0_0 := Aside0.mk hr0_0
 have HC0_0 := Aside0.mk hc0_0
 clear hr0_0 hc0_0
 have HR0_1 := Aside0.mk hr0_1
 have HC0_1 := Aside0.mk hc0_1
 clear hr0_1 hc0_1
 have HR0_2 := Aside0.mk hr0_2
 have HC0_2 := Aside0.mk hc0_2
 clear hr0_2 hc0_2
 have HB := Aside0.mk (Below.refl w.heap.size w)
 have H : (plan_sides.l0 k ([] : List (S109)) l0_0 (l0_0.length : Int) 0) = some r := h
 clear h
 have H' := Aside0.mk H
 clear H
 go_enter Try.func76, Try.ntmps76
 go_wp2_with (first | ((with_reducible refine gate_dst (N := 1) rfl ?_); refine box_event ?hg (N := 1) ?hd (cs := #[.slice A0_0 l0_0.length c0_0, .slice A0_1 l0_1.length c0_1, .slice A0_2 l0_2.length c0_2]) (t := 25) ?hr ?_; (case hd => rfl); (case hg => rfl); (case hr => first | (go_simp; done) | (go_simp; rfl)); intro gb545 hg w2 hbox hb; have n0_ := Aside0.mk (below_step (bH HB) hb); have n1_ := Aside0.mk (hbox); have n2_ := Aside0.mk ((by rw [hg]; exact (below_size (bH HB)) : w.heap.size ≤ gb545)); have n3_ := n2_; clear HB; have HB := n0_; have BK545 := n1_; have GW545 := n2_; have GE545 := n3_; clear n0_ n1_ n2_ n3_; clear hb hbox hg; have hcz3_0 : w2.cell? ⟨gb545, 0, none⟩ = some (.slice A0_0 l0_0.length c0_0) := (blk_cell BK545.out 0).trans rfl; have hcz3_1 : w2.cell? ⟨gb545, 1, none⟩ = some (.slice A0_1 l0_1.length c0_1) := (blk_cell BK545.out 1).trans rfl; have hcz3_2 : w2.cell? ⟨gb545, 2, none⟩ = some (.slice A0_2 l0_2.length c0_2) := (blk_cell BK545.out 2).trans rfl; have hfz3_0 := blk_frozen BK545.out 0; have hfz3_1 := blk_frozen BK545.out 1; have hfz3_2 := blk_frozen BK545.out 2))
 go_loopg [3, 10] k (fun kq v3 v10 w' => ∃ (x3_1 : List (S109)) (x10_1 : Int), v10 = .int .i64 x10_1 ∧ Aside0 (plan_sides.l0 kq x3_1 l0_0 (l0_0.length : Int) x10_1 = some r) ∧ Aside0 (kq ≤ k) ∧ Aside0 (Kd.R k109 109 w' w.heap.size (fun _ => True) v3 x3_1) ∧ Aside0 (w'.heap[gb545]? = some (.cells #[(.slice A0_0 l0_0.length c0_0), (.slice A0_1 l0_1.length c0_1), (.slice A0_2 l0_2.length c0_2)] 25 (0, 0))) ∧ Aside0 (Below w.heap.size w w'))
 case atStart => exact ⟨(([] : List (S109))), (0), (by first | rfl | (simp; done) | (simp [*]; done)), H', ⟨Nat.le_refl _⟩, ⟨by first | exact Kd.R_nil _ _ _ _ _ | exact Kd.N_nil _ _ _ _ _ | exact Kd.V_nil _ _ _ _ _ | exact Kd.Q_nil _ _ _ _ _ | exact Kd.S_nil _ _ _ _ _⟩, ⟨bK BK545⟩, ⟨ bH HB⟩⟩
 case round =>
  clear H'
  try clear p2
  try clear hcz3_0
  try clear hcz3_1
  try clear hcz3_2
  try clear hfz3_0
  try clear hfz3_1
  try clear hfz3_2
  obtain ⟨x3_1, x10_1, rfl, HA, HK1, HO_3, BK545, HB⟩ := hrel
  cases gk with
  | zero => exact absurd HA.out (by simp [plan_sides.l0])
  | succ k1 =>
   have H := HA.out
   clear HA
   simp only [plan_sides.l0] at H
   by_cases c4 : x10_1 < (l0_0.length : Int)
   ·rw [if_pos c4] at H
    have c4b0 : decide (x10_1 < (l0_0.length : Int)) = true := decide_eq_true c4
    clear c4
    by_cases c5 : 0 ≤ x10_1
    ·rw [if_pos c5] at H
     have c5b0 : decide (0 ≤ x10_1) = true := decide_eq_true c5
     clear c5
     by_cases c6 : x10_1 < (l0_0.length : Int)
     ·rw [if_pos c6] at H
      have c6b0 : decide (x10_1 < (l0_0.length : Int)) = true := decide_eq_true c6
      clear c6
      have H' := Aside0.mk H
      clear H
      have p546 : 0 ≤ (x10_1 : Int) := of_decide_eq_true (by first | (with_reducible assumption) | assumption)
      have q546 : x10_1 < (l0_0.length : Int) := of_decide_eq_true (by first | (with_reducible assumption) | assumption)
      obtain ⟨ad546, A546_0, c546_0, e546, hx546_0, hl546_0, hi546_0⟩ := at_L2 HR0_0.out x10_1 p546 q546
      cases e546
      replace hx546_0 := (HB.out.cell (World.block_lt_of_cell? w _ hx546_0)).trans hx546_0
      have HR546_0 := Aside0.mk hi546_0
      have HC546_0 := Aside0.mk hl546_0
      clear hi546_0 hl546_0
      replace p546 := eq_true p546
      replace q546 := eq_true q546
      go_wp2
      go_loopg [3, 6] k1 (fun kq v3 v6 w' => ∃ (x3_2 : List (S109)) (x6_2 : Int), v6 = .int .i64 x6_2 ∧ Aside0 (plan_sides.l1 kq x3_2 x10_1 (rd_L2 l0_0 x10_1) x6_2 l0_0 (l0_0.length : Int) x10_1 = some r) ∧ Aside0 (kq ≤ k1) ∧ Aside0 (Kd.R k109 109 w' w.heap.size (fun _ => True) v3 x3_2) ∧ Aside0 (w'.heap[gb545]? = some (.cells #[(.slice (some ad546) l0_0.length c0_0), (.slice A0_1 l0_1.length c0_1), (.slice A0_2 l0_2.length c0_2)] 25 (0, 0))) ∧ Aside0 (Below w.heap.size w w'))
      case atStart => exact ⟨(x3_1), (1), (by first | rfl | (simp; done) | (simp [*]; done)), H', ⟨Nat.le_refl _⟩, ⟨by (with_reducible repeat (first | apply Kd.R_alloc | apply Kd.R_drewN | apply Kd.R_drew)); exact HO_3.out⟩, ⟨bK BK545⟩, ⟨ bH HB⟩⟩
      case round =>
       clear H'
       try clear p2
       try clear c4
       try clear c4b0
       try clear c5
       try clear c5b0
       try clear p5
       try clear q5
       try clear hx5
       try clear c6
       try clear c6b0
       try clear hcz3_0
       try clear hcz3_1
       try clear hcz3_2
       try clear hfz3_0
       try clear hfz3_1
       try clear hfz3_2
       try clear hx546_0
       try clear p2
       try clear p546
       try clear q546
       obtain ⟨x3_2, x6_2, rfl, HA, HK2, HO_3, BK545, HB⟩ := hrel
       cases gk with
       | zero => exact absurd HA.out (by simp [plan_sides.l1])
       | succ k2 =>
        have H := HA.out
        clear HA
        simp only [plan_sides.l1] at H
        by_cases c7 : x6_2 < ((rd_L2 l0_0 x10_1).length : Int)
        ·rw [if_pos c7] at H
         have c7b0 : decide (x6_2 < ((rd_L2 l0_0 x10_1).length : Int)) = true := decide_eq_true c7
         clear c7
         obtain ⟨ji8, hji8⟩ : ∃ j_ : Int, (wrap64 (x6_2 - 1)) = j_ := ⟨_, rfl⟩
         replace H : (if 0 ≤ (ji8) then (if (ji8) < ((rd_L2 l0_0 x10_1).length : Int) then (if 0 ≤ x6_2 then (if x3_2.length < 1954687338268 then (plan_sides.l1 k2 (x3_2 ++ [(⟨(⟨(rd_T27 (rd_L2 l0_0 x10_1) (ji8)).f0, (rd_T27 (rd_L2 l0_0 x10_1) (ji8)).f1, (rd_T27 (rd_L2 l0_0 x10_1) (ji8)).f2⟩ : S27), (⟨(rd_T27 (rd_L2 l0_0 x10_1) x6_2).f0, (rd_T27 (rd_L2 l0_0 x10_1) x6_2).f1, (rd_T27 (rd_L2 l0_0 x10_1) x6_2).f2⟩ : S27), x10_1, x6_2, (x6_2 == 1), (x6_2 == (wrap64 (((rd_L2 l0_0 x10_1).length : Int) - 1)))⟩ : S109)]) x10_1 (rd_L2 l0_0 x10_1) (wrap64 (x6_2 + 1)) l0_0 (l0_0.length : Int) x10_1) else (none)) else (none)) else (none)) else (none)) = some r := by first | (rw [hji8] at H; exact H) | (simp only [hji8] at H ⊢; exact H)
         have hji8w : (IntKind.i64.wrap (x6_2 - 1)) = ji8 := (i64_w _).trans hji8
         by_cases c9 : 0 ≤ (ji8)
         ·rw [if_pos c9] at H
          have c9b0 : decide (0 ≤ (ji8)) = true := decide_eq_true c9
          clear c9
          by_cases c10 : (ji8) < ((rd_L2 l0_0 x10_1).length : Int)
          ·rw [if_pos c10] at H
           have c10b0 : decide ((ji8) < ((rd_L2 l0_0 x10_1).length : Int)) = true := decide_eq_true c10
           clear c10
           by_cases c11 : 0 ≤ x6_2
           ·rw [if_pos c11] at H
            have c11b0 : decide (0 ≤ x6_2) = true := decide_eq_true c11
            clear c11
            by_cases c12 : x3_2.length < 1954687338268
            ·rw [if_pos c12] at H
             have LMc12 := Aside0.mk c12
             clear c12
             obtain ⟨y549, hy549⟩ : ∃ y_ : List (S109), y_ = (x3_2 ++ [(⟨(⟨(rd_T27 (rd_L2 l0_0 x10_1) (ji8)).f0, (rd_T27 (rd_L2 l0_0 x10_1) (ji8)).f1, (rd_T27 (rd_L2 l0_0 x10_1) (ji8)).f2⟩ : S27), (⟨(rd_T27 (rd_L2 l0_0 x10_1) x6_2).f0, (rd_T27 (rd_L2 l0_0 x10_1) x6_2).f1, (rd_T27 (rd_L2 l0_0 x10_1) x6_2).f2⟩ : S27), x10_1, x6_2, (x6_2 == 1), (x6_2 == (wrap64 (((rd_L2 l0_0 x10_1).length : Int) - 1)))⟩ : S109)]) := ⟨_, rfl⟩
             replace H : (plan_sides.l1 k2 y549 x10_1 (rd_L2 l0_0 x10_1) (wrap64 (x6_2 + 1)) l0_0 (l0_0.length : Int) x10_1) = some r := by first | (rw [hy549]; with_reducible exact H) | (have H2_ := (Option.bind_some _ _).symm.trans H; rw [hy549]; with_reducible exact H2_) | (have H2_ := (Option.bind_some _ _).symm.trans H; with_reducible exact H2_) | with_reducible exact H | (rw [hy549]; exact H) | exact H
             have Ny549 := Aside0.mk hy549
             clear hy549
             have H' := Aside0.mk H
             clear H
             try go_wp2
             have n0_ := Aside0.mk (Kd.R_drew HO_3.out)
             have n1_ := Aside0.mk (blk_drew BK545.out)
             have n2_ := Aside0.mk (below_drew1 HB.out)
             clear HO_3
             clear BK545
             clear HB
             have HO_3 := n0_
             have BK545 := n1_
             have HB := n2_
             clear n0_ n1_ n2_
             have p547 : 0 ≤ ((ji8) : Int) := of_decide_eq_true (by first | (with_reducible assumption) | assumption)
             have q547 : (ji8) < ((rd_L2 l0_0 x10_1).length : Int) := of_decide_eq_true (by first | (with_reducible assumption) | assumption)
             obtain ⟨ad547, e547, hx547_0, hx547_1, hx547_2⟩ := at_T27 HR546_0.out (ji8) p547 q547
             have hw547_2 := hx547_2
             have hw547_1 := hx547_1
             have hw547_0 := hx547_0
             cases e547
             replace hx547_0 := (HB.out.cell (World.block_lt_of_cell? w _ hx547_0)).trans hx547_0
             replace hx547_1 := (HB.out.cell (World.block_lt_of_cell? w _ hx547_1)).trans hx547_1
             replace hx547_2 := (HB.out.cell (World.block_lt_of_cell? w _ hx547_2)).trans hx547_2
             replace p547 := eq_true p547
             replace q547 := eq_true q547
             have p548 : 0 ≤ (x6_2 : Int) := of_decide_eq_true (by first | (with_reducible assumption) | assumption)
             have q548 : x6_2 < ((rd_L2 l0_0 x10_1).length : Int) := of_decide_eq_true (by first | (with_reducible assumption) | assumption)
             obtain ⟨ad548, e548, hx548_0, hx548_1, hx548_2⟩ := at_T27 HR546_0.out x6_2 p548 q548
             have hw548_2 := hx548_2
             have hw548_1 := hx548_1
             have hw548_0 := hx548_0
             obtain rfl : ad547 = ad548 := (by injection e548)
             replace hx548_0 := (HB.out.cell (World.block_lt_of_cell? w _ hx548_0)).trans hx548_0
             replace hx548_1 := (HB.out.cell (World.block_lt_of_cell? w _ hx548_1)).trans hx548_1
             replace hx548_2 := (HB.out.cell (World.block_lt_of_cell? w _ hx548_2)).trans hx548_2
             replace p548 := eq_true p548
             replace q548 := eq_true q548
             refine start_ (n := 23) (S := fun w' => w'.cell? (ad547.add (((ji8)).toNat * 3)) = some (.int .i64 ((rd_T27 (rd_L2 l0_0 x10_1) (ji8)).f0)) ∧ w'.cell? ⟨(ad547.add (((ji8)).toNat * 3)).block, (ad547.add (((ji8)).toNat * 3)).off + 1, none⟩ = some (.int .i64 ((rd_T27 (rd_L2 l0_0 x10_1) (ji8)).f1)) ∧ w'.cell? ⟨(ad547.add (((ji8)).toNat * 3)).block, (ad547.add (((ji8)).toNat * 3)).off + 2, none⟩ = some (.int .i64 ((rd_T27 (rd_L2 l0_0 x10_1) (ji8)).f2)) ∧ w'.cell? (ad547.add ((x6_2).toNat * 3)) = some (.int .i64 ((rd_T27 (rd_L2 l0_0 x10_1) x6_2).f0)) ∧ w'.cell? ⟨(ad547.add ((x6_2).toNat * 3)).block, (ad547.add ((x6_2).toNat * 3)).off + 1, none⟩ = some (.int .i64 ((rd_T27 (rd_L2 l0_0 x10_1) x6_2).f1)) ∧ w'.cell? ⟨(ad547.add ((x6_2).toNat * 3)).block, (ad547.add ((x6_2).toNat * 3)).off + 2, none⟩ = some (.int .i64 ((rd_T27 (rd_L2 l0_0 x10_1) x6_2).f2))) (ds := []) #[false, false, false, false, false, false, false, false, false, false, false, false, false, false, false, false, false, false, false, false, false, false, false] (by kernel_rfl) rfl rfl ⟨((HB.out.cell (World.block_lt_of_cell? w _ hw547_0)).trans hw547_0), ((HB.out.cell (World.block_lt_of_cell? w _ hw547_1)).trans hw547_1), ((HB.out.cell (World.block_lt_of_cell? w _ hw547_2)).trans hw547_2), ((HB.out.cell (World.block_lt_of_cell? w _ hw548_0)).trans hw548_0), ((HB.out.cell (World.block_lt_of_cell? w _ hw548_1)).trans hw548_1), ((HB.out.cell (World.block_lt_of_cell? w _ hw548_2)).trans hw548_2)⟩ (fun hHeld => ?_); refine with_tabW plan_sides.tab8 plan_sides.bits8 (fun HT_ HW_ => ?_)
             generalize wr.drew = w13 at HO_3 BK545 HB hx547_0 hx547_1 hx547_2 hx548_0 hx548_1 hx548_2 hHeld ⊢
             refine pure_ (i := 0) (N := some 21) (v := ?_) (a' := ?_) #[true, false, false, false, false, false, false, false, false, false, false, false, false, false, false, false, false, false, false, false, false, false, false] rfl rfl (any_of HT_.out (by kernel_rfl)) (fun _ _ _ h => h) (Or.inl ⟨by rfl, ?_⟩) ?_ ?_
             rotate_left
             ·intro w'
              go_simp
              with_reducible rfl
             rotate_left
             ·simp only [Act.put, List.setIfInBounds_toArray, List.set_cons_zero, List.set_cons_succ, i64_w, i32_w]
              rfl
             refine pure_ (i := 1) (N := some 22) (v := ?_) (a' := ?_) #[true, true, false, false, false, false, false, false, false, false, false, false, false, false, false, false, false, false, false, false, false, false, false] rfl rfl (any_of HT_.out (by kernel_rfl)) (fun _ _ _ h => h) (Or.inl ⟨by rfl, ?_⟩) ?_ ?_
             rotate_left
             ·intro w'
              go_simp
              with_reducible rfl
             rotate_left
             ·simp only [Act.put, List.setIfInBounds_toArray, List.set_cons_zero, List.set_cons_succ, i64_w, i32_w]
              rfl
             refine pure_ (i := 2) (N := some 23) (v := ?_) (a' := ?_) #[true, true, true, false, false, false, false, false, false, false, false, false, false, false, false, false, false, false, false, false, false, false, false] rfl rfl (any_of HT_.out (by kernel_rfl)) (fun _ _ _ h => h) (Or.inl ⟨by rfl, ?_⟩) ?_ ?_
             rotate_left
             ·intro w'
              go_simp
              with_reducible rfl
             rotate_left
             ·simp only [Act.put, List.setIfInBounds_toArray, List.set_cons_zero, List.set_cons_succ, i64_w, i32_w]
              rfl
             refine pure_ (i := 3) (N := some 24) (v := ?_) (a' := ?_) #[true, true, true, true, false, false, false, false, false, false, false, false, false, false, false, false, false, false, false, false, false, false, false] rfl rfl (any_of HT_.out (by kernel_rfl)) (fun _ _ _ h => h) (Or.inl ⟨by rfl, ?_⟩) ?_ ?_
             rotate_left
             ·intro w'
              go_simp
              with_reducible rfl
             rotate_left
             ·simp only [Act.put, List.setIfInBounds_toArray, List.set_cons_zero, List.set_cons_succ, i64_w, i32_w]
              rfl
             refine pure_ (i := 4) (N := some 25) (v := ?_) (a' := ?_) #[true, true, true, true, true, false, false, false, false, false, false, false, false, false, false, false, false, false, false, false, false, false, false] rfl rfl (any_of HT_.out (by kernel_rfl)) (fun _ _ _ h => h) (Or.inl ⟨by rfl, ?_⟩) ?_ ?_
             rotate_left
             ·intro w'
              go_simp
              with_reducible rfl
             rotate_left
             ·simp only [Act.put, List.setIfInBounds_toArray, List.set_cons_zero, List.set_cons_succ, i64_w, i32_w]
              rfl
             refine pure_ (i := 6) (N := some 27) (v := ?_) (a' := ?_) #[true, true, true, true, true, false, true, false, false, false, false, false, false, false, false, false, false, false, false, false, false, false, false] rfl rfl (any_of HT_.out (by kernel_rfl)) (fun _ _ _ h => h) (Or.inl ⟨by rfl, ?_⟩) ?_ ?_
             rotate_left
             ·intro w'
              go_simp
              with_reducible rfl
             rotate_left
             ·simp only [Act.put, List.setIfInBounds_toArray, List.set_cons_zero, List.set_cons_succ, i64_w, i32_w]
              rfl
             refine pure_ (i := 7) (N := some 28) (v := ?_) (a' := ?_) #[true, true, true, true, true, false, true, true, false, false, false, false, false, false, false, false, false, false, false, false, false, false, false] rfl rfl (any_of HT_.out (by kernel_rfl)) (fun _ _ _ h => h) (Or.inl ⟨by rfl, ?_⟩) ?_ ?_
             rotate_left
             ·intro w'
              go_simp
              with_reducible rfl
             rotate_left
             ·simp only [Act.put, List.setIfInBounds_toArray, List.set_cons_zero, List.set_cons_succ, i64_w, i32_w]
              rfl
             refine pure_ (i := 8) (N := some 29) (v := ?_) (a' := ?_) #[true, true, true, true, true, false, true, true, true, false, false, false, false, false, false, false, false, false, false, false, false, false, false] rfl rfl (any_of HT_.out (by kernel_rfl)) (fun _ _ _ h => h) (Or.inl ⟨by rfl, ?_⟩) ?_ ?_
             rotate_left
             ·intro w'
              go_simp
              with_reducible rfl
             rotate_left
             ·simp only [Act.put, List.setIfInBounds_toArray, List.set_cons_zero, List.set_cons_succ, i64_w, i32_w]
              rfl
             refine pure_ (i := 10) (N := some 31) (v := ?_) (a' := ?_) #[true, true, true, true, true, false, true, true, true, false, true, false, false, false, false, false, false, false, false, false, false, false, false] rfl rfl (any_of HT_.out (by kernel_rfl)) (fun _ _ _ h => h) (Or.inl ⟨by rfl, ?_⟩) ?_ ?_
             rotate_left
             ·intro w'
              go_simp
              with_reducible rfl
             rotate_left
             ·simp only [Act.put, List.setIfInBounds_toArray, List.set_cons_zero, List.set_cons_succ, i64_w, i32_w]
              rfl
             refine pure_ (i := 11) (N := some 32) (v := ?_) (a' := ?_) #[true, true, true, true, true, false, true, true, true, false, true, true, false, false, false, false, false, false, false, false, false, false, false] rfl rfl (any_of HT_.out (by kernel_rfl)) (fun _ _ _ h => h) (Or.inl ⟨by rfl, ?_⟩) ?_ ?_
             rotate_left
             ·intro w'
              go_simp
              with_reducible rfl
             rotate_left
             ·simp only [Act.put, List.setIfInBounds_toArray, List.set_cons_zero, List.set_cons_succ, i64_w, i32_w]
              rfl
             refine pure_ (i := 12) (N := some 33) (v := ?_) (a' := ?_) #[true, true, true, true, true, false, true, true, true, false, true, true, true, false, false, false, false, false, false, false, false, false, false] rfl rfl (any_of HT_.out (by kernel_rfl)) (fun _ _ _ h => h) (Or.inl ⟨by rfl, ?_⟩) ?_ ?_
             rotate_left
             ·intro w'
              go_simp
              with_reducible rfl
             rotate_left
             ·simp only [Act.put, List.setIfInBounds_toArray, List.set_cons_zero, List.set_cons_succ, i64_w, i32_w]
              rfl
             refine pure_ (i := 13) (N := some 34) (v := ?_) (a' := ?_) #[true, true, true, true, true, false, true, true, true, false, true, true, true, true, false, false, false, false, false, false, false, false, false] rfl rfl (any_of HT_.out (by kernel_rfl)) (fun _ _ _ h => h) (Or.inl ⟨by rfl, ?_⟩) ?_ ?_
             rotate_left
             ·intro w'
              go_simp
              with_reducible rfl
             rotate_left
             ·simp only [Act.put, List.setIfInBounds_toArray, List.set_cons_zero, List.set_cons_succ, i64_w, i32_w]
              rfl
             refine pure_ (i := 14) (N := some 35) (v := ?_) (a' := ?_) #[true, true, true, true, true, false, true, true, true, false, true, true, true, true, true, false, false, false, false, false, false, false, false] rfl rfl (any_of HT_.out (by kernel_rfl)) (fun _ _ _ h => h) (Or.inl ⟨by rfl, ?_⟩) ?_ ?_
             rotate_left
             ·intro w'
              go_simp
              with_reducible rfl
             rotate_left
             ·simp only [Act.put, List.setIfInBounds_toArray, List.set_cons_zero, List.set_cons_succ, i64_w, i32_w]
              rfl
             refine pure_ (i := 15) (N := some 36) (v := ?_) (a' := ?_) #[true, true, true, true, true, false, true, true, true, false, true, true, true, true, true, true, false, false, false, false, false, false, false] rfl rfl (any_of HT_.out (by kernel_rfl)) (fun _ _ _ h => h) (Or.inl ⟨by rfl, ?_⟩) ?_ ?_
             rotate_left
             ·intro w'
              go_simp
              with_reducible rfl
             rotate_left
             ·simp only [Act.put, List.setIfInBounds_toArray, List.set_cons_zero, List.set_cons_succ, i64_w, i32_w]
              rfl
             refine pure_ (i := 16) (N := some 37) (v := ?_) (a' := ?_) #[true, true, true, true, true, false, true, true, true, false, true, true, true, true, true, true, true, false, false, false, false, false, false] rfl rfl (any_of HT_.out (by kernel_rfl)) (fun _ _ _ h => h) (Or.inl ⟨by rfl, ?_⟩) ?_ ?_
             rotate_left
             ·intro w'
              go_simp
              with_reducible rfl
             rotate_left
             ·simp only [Act.put, List.setIfInBounds_toArray, List.set_cons_zero, List.set_cons_succ, i64_w, i32_w]
              rfl
             refine pure_ (i := 17) (N := some 38) (v := ?_) (a' := ?_) #[true, true, true, true, true, false, true, true, true, false, true, true, true, true, true, true, true, true, false, false, false, false, false] rfl rfl (any_of HT_.out (by kernel_rfl)) (fun _ _ _ h => h) (Or.inl ⟨by rfl, ?_⟩) ?_ ?_
             rotate_left
             ·intro w'
              go_simp
              with_reducible rfl
             rotate_left
             ·simp only [Act.put, List.setIfInBounds_toArray, List.set_cons_zero, List.set_cons_succ, i64_w, i32_w]
              rfl
             refine pure_ (i := 18) (N := some 39) (v := ?_) (a' := ?_) #[true, true, true, true, true, false, true, true, true, false, true, true, true, true, true, true, true, true, true, false, false, false, false] rfl rfl (any_of HT_.out (by kernel_rfl)) (fun _ _ _ h => h) (Or.inl ⟨by rfl, ?_⟩) ?_ ?_
             rotate_left
             ·intro w'
              go_simp
              with_reducible rfl
             rotate_left
             ·simp only [Act.put, List.setIfInBounds_toArray, List.set_cons_zero, List.set_cons_succ, i64_w, i32_w]
              rfl
             refine take_ (i := 5) (N := some 26) (v := ?_) (a' := ?_) #[true, true, true, true, true, true, true, true, true, false, true, true, true, true, true, true, true, true, true, false, false, false, false] rfl rfl (take_ofW HT_.out HW_.out (by kernel_rfl)) (fun _ _ _ h => h) (Or.inl ⟨by rfl, ?_⟩) hHeld ?_ ?_
             rotate_left
             ·rintro w' ⟨s0, s1, s2, s3, s4, s5⟩
              go_simp
              with_reducible rfl
             rotate_left
             ·simp only [Act.put, List.setIfInBounds_toArray, List.set_cons_zero, List.set_cons_succ, i64_w, i32_w]
              rfl
             refine take_ (i := 9) (N := some 30) (v := ?_) (a' := ?_) #[true, true, true, true, true, true, true, true, true, true, true, true, true, true, true, true, true, true, true, false, false, false, false] rfl rfl (take_ofW HT_.out HW_.out (by kernel_rfl)) (fun _ _ _ h => h) (Or.inl ⟨by rfl, ?_⟩) hHeld ?_ ?_
             rotate_left
             ·rintro w' ⟨s0, s1, s2, s3, s4, s5⟩
              go_simp
              with_reducible rfl
             rotate_left
             ·simp only [Act.put, List.setIfInBounds_toArray, List.set_cons_zero, List.set_cons_succ, i64_w, i32_w]
              rfl
             refine pure_ (i := 19) (N := some 40) (v := ?_) (a' := ?_) #[true, true, true, true, true, true, true, true, true, true, true, true, true, true, true, true, true, true, true, true, false, false, false] rfl rfl (any_of HT_.out (by kernel_rfl)) (fun _ _ _ h => h) (Or.inl ⟨by rfl, ?_⟩) ?_ ?_
             rotate_left
             ·intro w'
              go_simp
              with_reducible rfl
             rotate_left
             ·simp only [Act.put, List.setIfInBounds_toArray, List.set_cons_zero, List.set_cons_succ, i64_w, i32_w]
              rfl
             refine one_ (i := 20) (N := some 41) #[true, true, true, true, true, true, true, true, true, true, true, true, true, true, true, true, true, true, true, true, true, false, false] rfl rfl (one_of HT_.out (by kernel_rfl)) (by decide) (fun K hK => ?_)
             refine value_ (w1 := ?_) (v := ?_) (by rfl) rfl ?_ ?_
             rotate_left 2
             ·go_simp
              constructor
              ·rfl
              ·rfl
             refine hK.out _ _ ⟨(World.cell?_alloc_lt _ _ _ (World.block_lt_of_cell? _ _ (((HB.out.cell (World.block_lt_of_cell? w _ hw547_0)).trans hw547_0)))).trans (((HB.out.cell (World.block_lt_of_cell? w _ hw547_0)).trans hw547_0)), (World.cell?_alloc_lt _ _ _ (World.block_lt_of_cell? _ _ (((HB.out.cell (World.block_lt_of_cell? w _ hw547_1)).trans hw547_1)))).trans (((HB.out.cell (World.block_lt_of_cell? w _ hw547_1)).trans hw547_1)), (World.cell?_alloc_lt _ _ _ (World.block_lt_of_cell? _ _ (((HB.out.cell (World.block_lt_of_cell? w _ hw547_2)).trans hw547_2)))).trans (((HB.out.cell (World.block_lt_of_cell? w _ hw547_2)).trans hw547_2)), (World.cell?_alloc_lt _ _ _ (World.block_lt_of_cell? _ _ (((HB.out.cell (World.block_lt_of_cell? w _ hw548_0)).trans hw548_0)))).trans (((HB.out.cell (World.block_lt_of_cell? w _ hw548_0)).trans hw548_0)), (World.cell?_alloc_lt _ _ _ (World.block_lt_of_cell? _ _ (((HB.out.cell (World.block_lt_of_cell? w _ hw548_1)).trans hw548_1)))).trans (((HB.out.cell (World.block_lt_of_cell? w _ hw548_1)).trans hw548_1)), (World.cell?_alloc_lt _ _ _ (World.block_lt_of_cell? _ _ (((HB.out.cell (World.block_lt_of_cell? w _ hw548_2)).trans hw548_2)))).trans (((HB.out.cell (World.block_lt_of_cell? w _ hw548_2)).trans hw548_2))⟩ (fun hHeld => ?_)
             clear hK K
             refine norm_ (a' := ?_) ?_ ?_
             rotate_left
             ·show Act.put _ (some 41) _ = _
              simp only [Act.put, List.setIfInBounds_toArray, List.set_cons_zero, List.set_cons_succ, i64_w, i32_w]
              rfl
             refine one_ (i := 21) (N := some 42) #[true, true, true, true, true, true, true, true, true, true, true, true, true, true, true, true, true, true, true, true, true, true, false] rfl rfl (one_of HT_.out (by kernel_rfl)) (by decide) (fun K hK => ?_)
             refine Kd.R_append_step k109 (w0 := w) w.heap.size (by rfl) (.tmp 21) (.tmp 41) 106 109 (.agg #[(.int .i64 0), (.int .i64 0), (.int .i64 0), (.int .i64 0), (.int .i64 0), (.int .i64 0), (.int .i64 0), (.int .i64 0), (.bool false), (.bool false)]) 72 rfl Try.underlying106 info109 rfl (by decide) (by omega) u3 x3_2 (⟨(⟨(rd_T27 (rd_L2 l0_0 x10_1) (ji8)).f0, (rd_T27 (rd_L2 l0_0 x10_1) (ji8)).f1, (rd_T27 (rd_L2 l0_0 x10_1) (ji8)).f2⟩ : S27), (⟨(rd_T27 (rd_L2 l0_0 x10_1) x6_2).f0, (rd_T27 (rd_L2 l0_0 x10_1) x6_2).f1, (rd_T27 (rd_L2 l0_0 x10_1) x6_2).f2⟩ : S27), x10_1, x6_2, (x6_2 == 1), (x6_2 == (wrap64 (((rd_L2 l0_0 x10_1).length : Int) - 1)))⟩ : S109) [.int .i64 ((rd_T27 (rd_L2 l0_0 x10_1) (ji8)).f0), .int .i64 ((rd_T27 (rd_L2 l0_0 x10_1) (ji8)).f1), .int .i64 ((rd_T27 (rd_L2 l0_0 x10_1) (ji8)).f2), .int .i64 ((rd_T27 (rd_L2 l0_0 x10_1) x6_2).f0), .int .i64 ((rd_T27 (rd_L2 l0_0 x10_1) x6_2).f1), .int .i64 ((rd_T27 (rd_L2 l0_0 x10_1) x6_2).f2), .int .i64 x10_1, .int .i64 x6_2, .bool (x6_2 == 1), .bool (x6_2 == (wrap64 (((rd_L2 l0_0 x10_1).length : Int) - 1)))] (fun _ => True) (fun _ => False) rfl rfl ?aP (fun _ hk => hk.elim) ?aF ?aO ?aB ?aS ?aL ?_
             (case aP => exact k109_mkM _ _ _ (⟨(⟨(rd_T27 (rd_L2 l0_0 x10_1) (ji8)).f0, (rd_T27 (rd_L2 l0_0 x10_1) (ji8)).f1, (rd_T27 (rd_L2 l0_0 x10_1) (ji8)).f2⟩ : S27), (⟨(rd_T27 (rd_L2 l0_0 x10_1) x6_2).f0, (rd_T27 (rd_L2 l0_0 x10_1) x6_2).f1, (rd_T27 (rd_L2 l0_0 x10_1) x6_2).f2⟩ : S27), x10_1, x6_2, (x6_2 == 1), (x6_2 == (wrap64 (((rd_L2 l0_0 x10_1).length : Int) - 1)))⟩ : S109))
             (case aB => exact (bH HB))
             (case aF => exact (fun _ _ => trivial))
             (case aO => exact (rK HO_3))
             (case aS => exact (below_size (bH HB)))
             (case aL => have := LMc12.out; omega)
             intro v550 w14 ho hb hg hat
             rw [← Ny549.out] at ho
             have n0_ := Aside0.mk (blk_grown (g := gb545) (o := .cells #[.slice (some ad546) l0_0.length c0_0, .slice A0_1 l0_1.length c0_1, .slice A0_2 l0_2.length c0_2] 25 (0, 0)) (bK BK545) hg (Kd.R_ne HO_3.out BK545.out (by decide)))
             have n1_ := Aside0.mk (hb)
             have n2_ := Aside0.mk (ho)
             clear BK545
             clear HB
             clear HO_3
             have BK545 := n0_
             have HB := n1_
             have HO551 := n2_
             clear n0_ n1_ n2_
             clear ho hb hg hat
             refine hK.out _ _ ⟨((HB.out.cell (World.block_lt_of_cell? w _ hw547_0)).trans hw547_0), ((HB.out.cell (World.block_lt_of_cell? w _ hw547_1)).trans hw547_1), ((HB.out.cell (World.block_lt_of_cell? w _ hw547_2)).trans hw547_2), ((HB.out.cell (World.block_lt_of_cell? w _ hw548_0)).trans hw548_0), ((HB.out.cell (World.block_lt_of_cell? w _ hw548_1)).trans hw548_1), ((HB.out.cell (World.block_lt_of_cell? w _ hw548_2)).trans hw548_2)⟩ (fun hHeld => ?_)
             clear hK K
             refine norm_ (a' := ?_) ?_ ?_
             rotate_left
             ·show Act.put _ (some 42) _ = _
              simp only [Act.put, List.setIfInBounds_toArray, List.set_cons_zero, List.set_cons_succ, i64_w, i32_w]
              rfl
             refine pure_ (i := 22) (N := some 3) (v := ?_) (a' := ?_) #[true, true, true, true, true, true, true, true, true, true, true, true, true, true, true, true, true, true, true, true, true, true, true] rfl rfl (any_of HT_.out (by kernel_rfl)) (fun _ _ _ h => h) (Or.inl ⟨by rfl, ?_⟩) ?_ ?_
             rotate_left
             ·intro w'
              go_simp
              with_reducible rfl
             rotate_left
             ·simp only [Act.put, List.setIfInBounds_toArray, List.set_cons_zero, List.set_cons_succ, i64_w, i32_w]
              rfl
             refine done_ (done_of HT_.out (by kernel_rfl)) ?_
             try go_wp2
             go_roundg k2
             case measure => have := HK1.out; have := HK2.out; omega
             case rel => exact ⟨(y549), (wrap64 (x6_2 + 1)), (by first | rfl | (simp; done) | (simp [*]; done)), H', ⟨by have := HK1.out; have := HK2.out; omega⟩, ⟨by (with_reducible repeat (first | apply Kd.R_alloc | apply Kd.R_drewN | apply Kd.R_drew)); exact HO551.out⟩, ⟨bK BK545⟩, ⟨ bH HB⟩⟩
            ·rw [if_neg c12] at H
             exact absurd H (by simp)
           ·rw [if_neg c11] at H
            exact absurd H (by simp)
          ·rw [if_neg c10] at H
           exact absurd H (by simp)
         ·rw [if_neg c9] at H
          exact absurd H (by simp)
        ·rw [if_neg c7] at H
         have c7b0 : decide (x6_2 < ((rd_L2 l0_0 x10_1).length : Int)) = false := decide_eq_false c7
         clear c7
         have H' := Aside0.mk H
         clear H
         go_wp2
         go_roundg k2
         case measure => have := HK1.out; have := HK2.out; omega
         case rel => exact ⟨(x3_2), (wrap64 (x10_1 + 1)), (by first | rfl | (simp; done) | (simp [*]; done)), H', ⟨by have := HK1.out; have := HK2.out; omega⟩, ⟨by (with_reducible repeat (first | apply Kd.R_alloc | apply Kd.R_drewN | apply Kd.R_drew)); exact HO_3.out⟩, ⟨bK BK545⟩, ⟨ bH HB⟩⟩
     ·rw [if_neg c6] at H
      exact absurd H (by simp)
    ·rw [if_neg c5] at H
     exact absurd H (by simp)
   ·rw [if_neg c4] at H
    have c4b0 : decide (x10_1 < (l0_0.length : Int)) = false := decide_eq_false c4
    clear c4
    obtain rfl := Option.some.inj H
    go_wp2
    go_ret
    exact ⟨_, by first | rfl | (simp [errW_none, errW_some] <;> rfl) | (simp [*, errW_none, errW_some] <;> rfl), by (with_reducible repeat (first | apply Kd.R_alloc | apply Kd.R_drewN | apply Kd.R_drew)); exact HO_3.out, bH HB⟩

end Go.Proofs.Ytbonkedecfjmdaa.P
