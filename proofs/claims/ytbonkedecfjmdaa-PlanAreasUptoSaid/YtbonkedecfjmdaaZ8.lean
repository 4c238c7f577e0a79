/- Written for this claim by a program of this session (a turned copy of the print): Go functions as Lean functions, and that the Go code comes to just these answers; or a statement proved out of them. No condition. -/
import Derived.Test.YtbonkedecfjmdaaZ2

namespace Go.Proofs.Ytbonkedecfjmdaa.P
open Go.RowKit Go.Proofs.YtbonkedecfjmdaaW.PrintWords Go.Proofs.YtbonkedecfjmdaaW.PrintLast Go.Proofs.YtbonkedecfjmdaaW.PrintMore Go.Proofs.Ytbonkedecfjmdaa.X
attribute [local go_sem] max2_int min2_int max_two min_two max_three min_three max_four min_four add64_0 add64_1 add64   -- for this text's walks alone
set_option linter.unusedVariables false
set_option linter.unusedSimpArgs false

/-! ### geom_Right: function 32 -/
def geom_Right.l0 : Nat → List (S27) → Int → Int → Option (Bool)
 | 0, _, _, _ => none
 | k + 1, x5, x6, x7 => if x7 < x6 then (if 0 ≤ x7 then (if x7 < (x5.length : Int) then (if ((rd_T27 x5 x7).f2) = 0 then (if ((rd_T27 x5 x7).f0) < (-2147483648) then (some false) else (if ((rd_T27 x5 x7).f0) > 2147483647 then (some false) else (if ((rd_T27 x5 x7).f1) < (-2147483648) then (some false) else (if ((rd_T27 x5 x7).f1) > 2147483647 then (some false) else (geom_Right.l0 k x5 x6 (wrap64 (x7 + 1))))))) else (some false)) else (none)) else (none)) else (some true)
def geom_Right.f (k : Nat) (l0 : List (S27)) : Option (Bool) := geom_Right.l0 k l0 (l0.length : Int) 0
theorem geom_Right.mono_l : ∀ k, (∀ y0 y1 y2, LeO (geom_Right.l0 k y0 y1 y2) (geom_Right.l0 (k + 1) y0 y1 y2))
 | 0 => fun _ _ _ r h => by simp [geom_Right.l0] at h
 | k + 1 => by
  have ih0 := geom_Right.mono_l k
  ·intro y0 y1 y2
   unfold geom_Right.l0
   repeat' first
   | (with_reducible exact ih0 _ _ _)
   | (with_reducible exact LeO.refl _)
   | (with_reducible exact LeO.none _)
   | (with_reducible refine LeO.ite ?_ ?_)
   | (with_reducible refine LeO.bind ?_ (fun _ => ?_))
   | exact ih0 _ _ _
   | exact LeO.none _
   | refine LeO.ite ?_ ?_
   | refine LeO.bind ?_ (fun _ => ?_)
theorem geom_Right.mono : ∀ a0 k, LeO (geom_Right.f k a0) (geom_Right.f (k + 1) a0) := by
 intro a0 k
 have ih0 := geom_Right.mono_l k
 unfold geom_Right.f
 repeat' first
   | (with_reducible exact ih0 _ _ _)
   | (with_reducible exact LeO.refl _)
   | (with_reducible exact LeO.none _)
   | (with_reducible refine LeO.ite ?_ ?_)
   | (with_reducible refine LeO.bind ?_ (fun _ => ?_))
   | exact ih0 _ _ _
   | exact LeO.none _
   | refine LeO.ite ?_ ?_
   | refine LeO.bind ?_ (fun _ => ?_)
set_option maxHeartbeats 8000000 in
set_option maxRecDepth 100000 in
theorem geom_Right.calls (k : Nat) (A0 : Option Addr) (c0 : Nat) (l0 : List (S27)) (r : Bool) (w : World) (hr0 : Kd.C k27 w A0 l0.length l0) (hc0 : l0.length ≤ c0) (h : geom_Right.f k l0 = some r) :
  Calls Try.prog 32 #[.slice A0 l0.length c0] w fun e w' => e = .returned (.bool r) ∧ Below w.heap.size w w' := by
 have hu27 := Try.underlying27
 have HR0 := Aside0.mk hr0
 have HC0 := Aside0.mk hc0
 clear hr0 hc0
 have HB := Aside0.mk (Below.refl w.heap.size w)
 have H : (geom_Right.l0 k l0 (l0.length : Int) 0) = some r := h
 clear h
 have H' := Aside0.mk H
 clear H
 go_enter Try.func32, Try.ntmps32
 go_wp2
 go_loopg [7] k (fun kq v7 w' => ∃ (x7_1 : Int), v7 = .int .i64 x7_1 ∧ Aside0 (geom_Right.l0 kq l0 (l0.length : Int) x7_1 = some r) ∧ Aside0 (kq ≤ k) ∧ Aside0 (Below w.heap.size w w'))
 case atStart => exact ⟨(0), (by first | rfl | (simp; done) | (simp [*]; done)), H', ⟨Nat.le_refl _⟩, ⟨ bH HB⟩⟩
 case round =>
  clear H'
  obtain ⟨x7_1, rfl, HA, HK1, HB⟩ := hrel
  cases gk with
  | zero => exact absurd HA.out (by simp [geom_Right.l0])
  | succ k1 =>
   have H := HA.out
   clear HA
   simp only [geom_Right.l0] at H
   by_cases c2 : x7_1 < (l0.length : Int)
   ·rw [if_pos c2] at H
    have c2b0 : decide (x7_1 < (l0.length : Int)) = true := decide_eq_true c2
    clear c2
    by_cases c3 : 0 ≤ x7_1
    ·rw [if_pos c3] at H
     have c3b0 : decide (0 ≤ x7_1) = true := decide_eq_true c3
     clear c3
     by_cases c4 : x7_1 < (l0.length : Int)
     ·rw [if_pos c4] at H
      have c4b0 : decide (x7_1 < (l0.length : Int)) = true := decide_eq_true c4
      clear c4
      by_cases c5 : ((rd_T27 l0 x7_1).f2) = 0
      ·rw [if_pos c5] at H
       have c5b0 : (((rd_T27 l0 x7_1).f2) == 0) = true := beq_iff_eq.mpr c5
       have c5b1 : (((rd_T27 l0 x7_1).f2) != 0) = false := bne_eq_false_iff_eq.mpr c5
       clear c5
       by_cases c6 : ((rd_T27 l0 x7_1).f0) < (-2147483648)
       ·rw [if_pos c6] at H
        have c6b0 : decide (((rd_T27 l0 x7_1).f0) < (-2147483648)) = true := decide_eq_true c6
        clear c6
        obtain rfl := Option.some.inj H
        have p552 : 0 ≤ (x7_1 : Int) := of_decide_eq_true (by first | (with_reducible assumption) | assumption)
        have q552 : x7_1 < (l0.length : Int) := of_decide_eq_true (by first | (with_reducible assumption) | assumption)
        obtain ⟨ad552, e552, hx552_0, hx552_1, hx552_2⟩ := at_T27 HR0.out x7_1 p552 q552
        cases e552
        replace hx552_0 := (HB.out.cell (World.block_lt_of_cell? w _ hx552_0)).trans hx552_0
        replace hx552_1 := (HB.out.cell (World.block_lt_of_cell? w _ hx552_1)).trans hx552_1
        replace hx552_2 := (HB.out.cell (World.block_lt_of_cell? w _ hx552_2)).trans hx552_2
        replace p552 := eq_true p552
        replace q552 := eq_true q552
        go_wp2_with (first | ((with_reducible refine gate_dst (N := 4) rfl ?_); refine box_event ?hg (N := 4) ?hd (cs := #[.int .i64 0, .int .i64 0, .int .i64 0]) (t := 27) ?hr ?_; (case hd => rfl); (case hg => rfl); (case hr => first | (go_simp; done) | (go_simp; rfl)); intro gb553 hg w7 hbox hb; have n0_ := Aside0.mk (below_step (bH HB) hb); have n1_ := Aside0.mk (hbox); have n2_ := Aside0.mk ((by rw [hg]; exact (below_size (bH HB)) : w.heap.size ≤ gb553)); have n3_ := n2_; clear HB; have HB := n0_; have BK553 := n1_; have GW553 := n2_; have GE553 := n3_; clear n0_ n1_ n2_ n3_; clear hb hbox hg; have hcz8_0 : w7.cell? ⟨gb553, 0, none⟩ = some (.int .i64 0) := (blk_cell BK553.out 0).trans rfl; have hcz8_1 : w7.cell? ⟨gb553, 1, none⟩ = some (.int .i64 0) := (blk_cell BK553.out 1).trans rfl; have hcz8_2 : w7.cell? ⟨gb553, 2, none⟩ = some (.int .i64 0) := (blk_cell BK553.out 2).trans rfl; have hfz8_0 := blk_frozen BK553.out 0; have hfz8_1 := blk_frozen BK553.out 1; have hfz8_2 := blk_frozen BK553.out 2))
        go_ret
        exact ⟨by first | rfl | (simp [errW_none, errW_some] <;> rfl) | (simp [*, errW_none, errW_some] <;> rfl), bH HB⟩
       ·rw [if_neg c6] at H
        have c6b0 : decide (((rd_T27 l0 x7_1).f0) < (-2147483648)) = false := decide_eq_false c6
        clear c6
        by_cases c9 : ((rd_T27 l0 x7_1).f0) > 2147483647
        ·rw [if_pos c9] at H
         have c9b0 : decide (2147483647 < ((rd_T27 l0 x7_1).f0)) = true := decide_eq_true c9
         clear c9
         obtain rfl := Option.some.inj H
         have p552 : 0 ≤ (x7_1 : Int) := of_decide_eq_true (by first | (with_reducible assumption) | assumption)
         have q552 : x7_1 < (l0.length : Int) := of_decide_eq_true (by first | (with_reducible assumption) | assumption)
         obtain ⟨ad552, e552, hx552_0, hx552_1, hx552_2⟩ := at_T27 HR0.out x7_1 p552 q552
         cases e552
         replace hx552_0 := (HB.out.cell (World.block_lt_of_cell? w _ hx552_0)).trans hx552_0
         replace hx552_1 := (HB.out.cell (World.block_lt_of_cell? w _ hx552_1)).trans hx552_1
         replace hx552_2 := (HB.out.cell (World.block_lt_of_cell? w _ hx552_2)).trans hx552_2
         replace p552 := eq_true p552
         replace q552 := eq_true q552
         go_wp2_with (first | ((with_reducible refine gate_dst (N := 4) rfl ?_); refine box_event ?hg (N := 4) ?hd (cs := #[.int .i64 0, .int .i64 0, .int .i64 0]) (t := 27) ?hr ?_; (case hd => rfl); (case hg => rfl); (case hr => first | (go_simp; done) | (go_simp; rfl)); intro gb553 hg w10 hbox hb; have n0_ := Aside0.mk (below_step (bH HB) hb); have n1_ := Aside0.mk (hbox); have n2_ := Aside0.mk ((by rw [hg]; exact (below_size (bH HB)) : w.heap.size ≤ gb553)); have n3_ := n2_; clear HB; have HB := n0_; have BK553 := n1_; have GW553 := n2_; have GE553 := n3_; clear n0_ n1_ n2_ n3_; clear hb hbox hg; have hcz11_0 : w10.cell? ⟨gb553, 0, none⟩ = some (.int .i64 0) := (blk_cell BK553.out 0).trans rfl; have hcz11_1 : w10.cell? ⟨gb553, 1, none⟩ = some (.int .i64 0) := (blk_cell BK553.out 1).trans rfl; have hcz11_2 : w10.cell? ⟨gb553, 2, none⟩ = some (.int .i64 0) := (blk_cell BK553.out 2).trans rfl; have hfz11_0 := blk_frozen BK553.out 0; have hfz11_1 := blk_frozen BK553.out 1; have hfz11_2 := blk_frozen BK553.out 2))
         go_ret
         exact ⟨by first | rfl | (simp [errW_none, errW_some] <;> rfl) | (simp [*, errW_none, errW_some] <;> rfl), bH HB⟩
        ·rw [if_neg c9] at H
         have c9b0 : decide (2147483647 < ((rd_T27 l0 x7_1).f0)) = false := decide_eq_false c9
         clear c9
         by_cases c12 : ((rd_T27 l0 x7_1).f1) < (-2147483648)
         ·rw [if_pos c12] at H
          have c12b0 : decide (((rd_T27 l0 x7_1).f1) < (-2147483648)) = true := decide_eq_true c12
          clear c12
          obtain rfl := Option.some.inj H
          have p552 : 0 ≤ (x7_1 : Int) := of_decide_eq_true (by first | (with_reducible assumption) | assumption)
          have q552 : x7_1 < (l0.length : Int) := of_decide_eq_true (by first | (with_reducible assumption) | assumption)
          obtain ⟨ad552, e552, hx552_0, hx552_1, hx552_2⟩ := at_T27 HR0.out x7_1 p552 q552
          cases e552
          replace hx552_0 := (HB.out.cell (World.block_lt_of_cell? w _ hx552_0)).trans hx552_0
          replace hx552_1 := (HB.out.cell (World.block_lt_of_cell? w _ hx552_1)).trans hx552_1
          replace hx552_2 := (HB.out.cell (World.block_lt_of_cell? w _ hx552_2)).trans hx552_2
          replace p552 := eq_true p552
          replace q552 := eq_true q552
          go_wp2_with (first | ((with_reducible refine gate_dst (N := 4) rfl ?_); refine box_event ?hg (N := 4) ?hd (cs := #[.int .i64 0, .int .i64 0, .int .i64 0]) (t := 27) ?hr ?_; (case hd => rfl); (case hg => rfl); (case hr => first | (go_simp; done) | (go_simp; rfl)); intro gb553 hg w13 hbox hb; have n0_ := Aside0.mk (below_step (bH HB) hb); have n1_ := Aside0.mk (hbox); have n2_ := Aside0.mk ((by rw [hg]; exact (below_size (bH HB)) : w.heap.size ≤ gb553)); have n3_ := n2_; clear HB; have HB := n0_; have BK553 := n1_; have GW553 := n2_; have GE553 := n3_; clear n0_ n1_ n2_ n3_; clear hb hbox hg; have hcz14_0 : w13.cell? ⟨gb553, 0, none⟩ = some (.int .i64 0) := (blk_cell BK553.out 0).trans rfl; have hcz14_1 : w13.cell? ⟨gb553, 1, none⟩ = some (.int .i64 0) := (blk_cell BK553.out 1).trans rfl; have hcz14_2 : w13.cell? ⟨gb553, 2, none⟩ = some (.int .i64 0) := (blk_cell BK553.out 2).trans rfl; have hfz14_0 := blk_frozen BK553.out 0; have hfz14_1 := blk_frozen BK553.out 1; have hfz14_2 := blk_frozen BK553.out 2))
          go_ret
          exact ⟨by first | rfl | (simp [errW_none, errW_some] <;> rfl) | (simp [*, errW_none, errW_some] <;> rfl), bH HB⟩
         ·rw [if_neg c12] at H
          have c12b0 : decide (((rd_T27 l0 x7_1).f1) < (-2147483648)) = false := decide_eq_false c12
          clear c12
          have HC15 := Aside0.mk H
          clear H
          have p552 : 0 ≤ (x7_1 : Int) := of_decide_eq_true (by first | (with_reducible assumption) | assumption)
          have q552 : x7_1 < (l0.length : Int) := of_decide_eq_true (by first | (with_reducible assumption) | assumption)
          obtain ⟨ad552, e552, hx552_0, hx552_1, hx552_2⟩ := at_T27 HR0.out x7_1 p552 q552
          cases e552
          replace hx552_0 := (HB.out.cell (World.block_lt_of_cell? w _ hx552_0)).trans hx552_0
          replace hx552_1 := (HB.out.cell (World.block_lt_of_cell? w _ hx552_1)).trans hx552_1
          replace hx552_2 := (HB.out.cell (World.block_lt_of_cell? w _ hx552_2)).trans hx552_2
          replace p552 := eq_true p552
          replace q552 := eq_true q552
          go_upto_if 33 with (first | ((with_reducible refine gate_dst (N := 4) rfl ?_); refine box_event ?hg (N := 4) ?hd (cs := #[.int .i64 0, .int .i64 0, .int .i64 0]) (t := 27) ?hr ?_; (case hd => rfl); (case hg => rfl); (case hr => first | (go_simp; done) | (go_simp; rfl)); intro gb553 hg w16 hbox hb; have n0_ := Aside0.mk (below_step (bH HB) hb); have n1_ := Aside0.mk (hbox); have n2_ := Aside0.mk ((by rw [hg]; exact (below_size (bH HB)) : w.heap.size ≤ gb553)); have n3_ := n2_; clear HB; have HB := n0_; have BK553 := n1_; have GW553 := n2_; have GE553 := n3_; clear n0_ n1_ n2_ n3_; clear hb hbox hg; have hcz17_0 : w16.cell? ⟨gb553, 0, none⟩ = some (.int .i64 0) := (blk_cell BK553.out 0).trans rfl; have hcz17_1 : w16.cell? ⟨gb553, 1, none⟩ = some (.int .i64 0) := (blk_cell BK553.out 1).trans rfl; have hcz17_2 : w16.cell? ⟨gb553, 2, none⟩ = some (.int .i64 0) := (blk_cell BK553.out 2).trans rfl; have hfz17_0 := blk_frozen BK553.out 0; have hfz17_1 := blk_frozen BK553.out 1; have hfz17_2 := blk_frozen BK553.out 2))
          (try simp only [Act.put, List.setIfInBounds_toArray, List.set_cons_zero, List.set_cons_succ])
          have H := HC15.out
          clear HC15
          by_cases c18 : ((rd_T27 l0 x7_1).f1) > 2147483647
          ·rw [if_pos c18] at H
           have c18b0 : decide (2147483647 < ((rd_T27 l0 x7_1).f1)) = true := decide_eq_true c18
           clear c18
           (first | rw [c18b0] | (simp only [i64_w, i32_w]; rw [c18b0]) | skip)
           obtain rfl := Option.some.inj H
           go_wp2
           go_ret
           exact ⟨by first | rfl | (simp [errW_none, errW_some] <;> rfl) | (simp [*, errW_none, errW_some] <;> rfl), bH HB⟩
          ·rw [if_neg c18] at H
           have c18b0 : decide (2147483647 < ((rd_T27 l0 x7_1).f1)) = false := decide_eq_false c18
           clear c18
           (first | rw [c18b0] | (simp only [i64_w, i32_w]; rw [c18b0]) | skip)
           have H' := Aside0.mk H
           clear H
           go_wp2
           go_roundg k1
           case measure => have := HK1.out; omega
           case rel => exact ⟨(wrap64 (x7_1 + 1)), (by first | rfl | (simp; done) | (simp [*]; done)), H', ⟨by have := HK1.out; omega⟩, ⟨ bH HB⟩⟩
      ·rw [if_neg c5] at H
       have c5b0 : (((rd_T27 l0 x7_1).f2) == 0) = false := beq_eq_false_iff_ne.mpr c5
       have c5b1 : (((rd_T27 l0 x7_1).f2) != 0) = true := bne_iff_ne.mpr c5
       obtain rfl := Option.some.inj H
       have p552 : 0 ≤ (x7_1 : Int) := of_decide_eq_true (by first | (with_reducible assumption) | assumption)
       have q552 : x7_1 < (l0.length : Int) := of_decide_eq_true (by first | (with_reducible assumption) | assumption)
       obtain ⟨ad552, e552, hx552_0, hx552_1, hx552_2⟩ := at_T27 HR0.out x7_1 p552 q552
       cases e552
       replace hx552_0 := (HB.out.cell (World.block_lt_of_cell? w _ hx552_0)).trans hx552_0
       replace hx552_1 := (HB.out.cell (World.block_lt_of_cell? w _ hx552_1)).trans hx552_1
       replace hx552_2 := (HB.out.cell (World.block_lt_of_cell? w _ hx552_2)).trans hx552_2
       replace p552 := eq_true p552
       replace q552 := eq_true q552
       go_wp2_with (first | ((with_reducible refine gate_dst (N := 4) rfl ?_); refine box_event ?hg (N := 4) ?hd (cs := #[.int .i64 0, .int .i64 0, .int .i64 0]) (t := 27) ?hr ?_; (case hd => rfl); (case hg => rfl); (case hr => first | (go_simp; done) | (go_simp; rfl)); intro gb553 hg w19 hbox hb; have n0_ := Aside0.mk (below_step (bH HB) hb); have n1_ := Aside0.mk (hbox); have n2_ := Aside0.mk ((by rw [hg]; exact (below_size (bH HB)) : w.heap.size ≤ gb553)); have n3_ := n2_; clear HB; have HB := n0_; have BK553 := n1_; have GW553 := n2_; have GE553 := n3_; clear n0_ n1_ n2_ n3_; clear hb hbox hg; have hcz20_0 : w19.cell? ⟨gb553, 0, none⟩ = some (.int .i64 0) := (blk_cell BK553.out 0).trans rfl; have hcz20_1 : w19.cell? ⟨gb553, 1, none⟩ = some (.int .i64 0) := (blk_cell BK553.out 1).trans rfl; have hcz20_2 : w19.cell? ⟨gb553, 2, none⟩ = some (.int .i64 0) := (blk_cell BK553.out 2).trans rfl; have hfz20_0 := blk_frozen BK553.out 0; have hfz20_1 := blk_frozen BK553.out 1; have hfz20_2 := blk_frozen BK553.out 2))
       go_ret
       exact ⟨by first | rfl | (simp [errW_none, errW_some] <;> rfl) | (simp [*, errW_none, errW_some] <;> rfl), bH HB⟩
     ·rw [if_neg c4] at H
      exact absurd H (by simp)
    ·rw [if_neg c3] at H
     exact absurd H (by simp)
   ·rw [if_neg c2] at H
    have c2b0 : decide (x7_1 < (l0.length : Int)) = false := decide_eq_false c2
    clear c2
    obtain rfl := Option.some.inj H
    go_wp2
    go_ret
    exact ⟨by first | rfl | (simp [errW_none, errW_some] <;> rfl) | (simp [*, errW_none, errW_some] <;> rfl), bH HB⟩

end Go.Proofs.Ytbonkedecfjmdaa.P

namespace Go.Proofs.Ytbonkedecfjmdaa.P
open Go.RowKit Go.Proofs.YtbonkedecfjmdaaW.PrintWords Go.Proofs.YtbonkedecfjmdaaW.PrintLast Go.Proofs.YtbonkedecfjmdaaW.PrintMore Go.Proofs.Ytbonkedecfjmdaa.X
attribute [local go_sem] max2_int min2_int max_two min_two max_three min_three max_four min_four add64_0 add64_1 add64   -- for this text's walks alone
set_option linter.unusedVariables false
set_option linter.unusedSimpArgs false

theorem eqA50 (d : Nat) (w : World) (x0 y0 : Int) (x1 y1 : Int) :
  (Op.equalIn (d + 2) 50 (.agg #[.int .i64 x0, .int .u64 x1]) (.agg #[.int .i64 y0, .int .u64 y1])).run Try.prog w = .ok (x0 == y0 && (x1 == y1)) w := by
 refine eqA_of Try.underlying50 (by kernel_rfl) ?_
 refine eqf_cons (by rfl) (by go_simp; rfl) (by go_simp; rfl) (by go_simp) ?_
 exact eqf_last (by rfl) (by go_simp; rfl) (by go_simp; rfl) (by go_simp)
end Go.Proofs.Ytbonkedecfjmdaa.P

namespace Go.Proofs.Ytbonkedecfjmdaa.P
open Go.RowKit Go.Proofs.YtbonkedecfjmdaaW.PrintWords Go.Proofs.YtbonkedecfjmdaaW.PrintLast Go.Proofs.YtbonkedecfjmdaaW.PrintMore Go.Proofs.Ytbonkedecfjmdaa.X
attribute [local go_sem] max2_int min2_int max_two min_two max_three min_three max_four min_four add64_0 add64_1 add64   -- for this text's walks alone
set_option linter.unusedVariables false
set_option linter.unusedSimpArgs false

attribute [local go_sem high] eqA50
/-! ### wide_Cmp: function 53 -/
def wide_Cmp.f (a0_0 : Int) (a0_1 : Int) (a1_0 : Int) (a1_1 : Int) : Option (Int) := if (a0_0 == a1_0 && (a0_1 == a1_1)) = true then (some 0) else (if a0_0 < a1_0 then (some (-1)) else (if a0_0 = a1_0 then (if a0_1 < a1_1 then (some (-1)) else (some 1)) else (some 1)))
set_option maxHeartbeats 8000000 in
set_option maxRecDepth 100000 in
theorem wide_Cmp.calls (a0_0 : Int) (a0_1 : Int) (a1_0 : Int) (a1_1 : Int) (r : Int) (w : World) (h : wide_Cmp.f a0_0 a0_1 a1_0 a1_1 = some r) :
  Calls Try.prog 53 #[.agg #[.int .i64 a0_0, .int .u64 a0_1], .agg #[.int .i64 a1_0, .int .u64 a1_1]] w fun e w' => e = .returned (.int .i64 r) ∧ Below w.heap.size w w' := by
 have hu50 := Try.underlying50
 have HB := Aside0.mk (Below.refl w.heap.size w)
 have H : (if (a0_0 == a1_0 && (a0_1 == a1_1)) = true then (some 0) else (if a0_0 < a1_0 then (some (-1)) else (if a0_0 = a1_0 then (if a0_1 < a1_1 then (some (-1)) else (some 1)) else (some 1)))) = some r := h
 clear h
 have HC3 := Aside0.mk H
 clear H
 go_enter Try.func53, Try.ntmps53
 go_upto_if 5 with (first | ((with_reducible refine gate_dst (N := 2) rfl ?_); refine box_event ?hg (N := 2) ?hd (cs := #[.int .i64 a0_0, .int .u64 a0_1]) (t := 50) ?hr ?_; (case hd => rfl); (case hg => rfl); (case hr => first | (go_simp; done) | (go_simp; rfl)); intro gb554 hg w4 hbox hb; have n0_ := Aside0.mk (below_step (bH HB) hb); have n1_ := Aside0.mk (hbox); have n2_ := Aside0.mk ((by rw [hg]; exact (below_size (bH HB)) : w.heap.size ≤ gb554)); have n3_ := n2_; clear HB; have HB := n0_; have BK554 := n1_; have GW554 := n2_; have GE554 := n3_; clear n0_ n1_ n2_ n3_; clear hb hbox hg) | ((with_reducible refine gate_dst (N := 3) rfl ?_); refine box_event ?hg (N := 3) ?hd (cs := #[.int .i64 a1_0, .int .u64 a1_1]) (t := 50) ?hr ?_; (case hd => rfl); (case hg => rfl); (case hr => first | (go_simp; done) | (go_simp; rfl)); intro gb555 hg w5 hbox hb; have n0_ := Aside0.mk (blk_below (g := gb554) (o := .cells #[.int .i64 a0_0, .int .u64 a0_1] 50 (0, 0)) (bK BK554) hb); have n1_ := Aside0.mk (below_step (bH HB) hb); have n2_ := Aside0.mk (hbox); have n3_ := Aside0.mk ((by rw [hg]; exact (below_size (bH HB)) : w.heap.size ≤ gb555)); have n4_ := n3_; have n5_ := Aside0.mk ((by rw [hg]; exact Nat.ne_of_lt (blk_lt (bK BK554)) : gb554 ≠ gb555)); have n6_ := Aside0.mk ((by rw [hg]; exact Nat.ne_of_gt (blk_lt (bK BK554)) : gb555 ≠ gb554)); clear BK554; clear HB; have BK554 := n0_; have HB := n1_; have BK555 := n2_; have GW555 := n3_; have GE555 := n4_; have NB554_555 := n5_; have NB555_554 := n6_; clear n0_ n1_ n2_ n3_ n4_ n5_ n6_; clear hb hbox hg; have hnb6 := NB554_555.out; have hnc6 := NB555_554.out; have hcz7_0 : w5.cell? ⟨gb554, 0, none⟩ = some (.int .i64 a0_0) := (blk_cell BK554.out 0).trans rfl; have hcz7_1 : w5.cell? ⟨gb554, 1, none⟩ = some (.int .u64 a0_1) := (blk_cell BK554.out 1).trans rfl; have hfz7_0 := blk_frozen BK554.out 0; have hfz7_1 := blk_frozen BK554.out 1; have hcz8_0 : w5.cell? ⟨gb555, 0, none⟩ = some (.int .i64 a1_0) := (blk_cell BK555.out 0).trans rfl; have hcz8_1 : w5.cell? ⟨gb555, 1, none⟩ = some (.int .u64 a1_1) := (blk_cell BK555.out 1).trans rfl; have hfz8_0 := blk_frozen BK555.out 0; have hfz8_1 := blk_frozen BK555.out 1))
 (try simp only [Act.put, List.setIfInBounds_toArray, List.set_cons_zero, List.set_cons_succ])
 have H := HC3.out
 clear HC3
 by_cases c9 : (a0_0 == a1_0 && (a0_1 == a1_1)) = true
 ·rw [if_pos c9] at H
  have c9b0 : (a0_0 == a1_0 && (a0_1 == a1_1)) = true := c9
  (try (have c9b1 : decide (a0_0 = a1_0 && (a0_1 == a1_1)) = true := by simpa using c9))
  (try (have c9b2 : (a0_0 == a1_0 && (a0_1 == a1_1)) = true := by simpa using c9))
  clear c9
  (first | rw [c9b0] | (simp only [i64_w, i32_w]; rw [c9b0]) | skip)
  obtain rfl := Option.some.inj H
  go_wp2
  go_ret
  exact ⟨by first | rfl | (simp [errW_none, errW_some] <;> rfl) | (simp [*, errW_none, errW_some] <;> rfl), bH HB⟩
 ·rw [if_neg c9] at H
  have c9b0 : (a0_0 == a1_0 && (a0_1 == a1_1)) = false := by simpa using c9
  (try (have c9b1 : decide (a0_0 = a1_0 && (a0_1 == a1_1)) = false := by simpa using c9))
  (try (have c9b2 : (a0_0 == a1_0 && (a0_1 == a1_1)) = false := by simpa using c9))
  (try (have c9b3 : ¬ (a0_0 = a1_0 && (a0_1 == a1_1)) := by simpa using c9))
  clear c9
  (first | rw [c9b0] | (simp only [i64_w, i32_w]; rw [c9b0]) | skip)
  by_cases c10 : a0_0 < a1_0
  ·rw [if_pos c10] at H
   have c10b0 : decide (a0_0 < a1_0) = true := decide_eq_true c10
   clear c10
   obtain rfl := Option.some.inj H
   have hnb11 := NB554_555.out
   have hnc11 := NB555_554.out
   have hcz12_0 : w5.cell? ⟨gb554, 0, none⟩ = some (.int .i64 a0_0) := (blk_cell BK554.out 0).trans rfl
   have hcz12_1 : w5.cell? ⟨gb554, 1, none⟩ = some (.int .u64 a0_1) := (blk_cell BK554.out 1).trans rfl
   have hfz12_0 := blk_frozen BK554.out 0
   have hfz12_1 := blk_frozen BK554.out 1
   have hcz13_0 : w5.cell? ⟨gb555, 0, none⟩ = some (.int .i64 a1_0) := (blk_cell BK555.out 0).trans rfl
   have hcz13_1 : w5.cell? ⟨gb555, 1, none⟩ = some (.int .u64 a1_1) := (blk_cell BK555.out 1).trans rfl
   have hfz13_0 := blk_frozen BK555.out 0
   have hfz13_1 := blk_frozen BK555.out 1
   go_wp2
   go_ret
   exact ⟨by first | rfl | (simp [errW_none, errW_some] <;> rfl) | (simp [*, errW_none, errW_some] <;> rfl), bH HB⟩
  ·rw [if_neg c10] at H
   have c10b0 : decide (a0_0 < a1_0) = false := decide_eq_false c10
   clear c10
   by_cases c14 : a0_0 = a1_0
   ·rw [if_pos c14] at H
    have c14b0 : (a0_0 == a1_0) = true := beq_iff_eq.mpr c14
    have c14b1 : (a0_0 != a1_0) = false := bne_eq_false_iff_eq.mpr c14
    have c14b9 : (a0_1 == a1_1) = false := by
     have h0_ := c9b0
     rw [c14b0] at h0_
     simpa using h0_
    clear c14
    by_cases c15 : a0_1 < a1_1
    ·rw [if_pos c15] at H
     have c15b0 : decide (a0_1 < a1_1) = true := decide_eq_true c15
     clear c15
     obtain rfl := Option.some.inj H
     have hnb16 := NB554_555.out
     have hnc16 := NB555_554.out
     have hcz17_0 : w5.cell? ⟨gb554, 0, none⟩ = some (.int .i64 a0_0) := (blk_cell BK554.out 0).trans rfl
     have hcz17_1 : w5.cell? ⟨gb554, 1, none⟩ = some (.int .u64 a0_1) := (blk_cell BK554.out 1).trans rfl
     have hfz17_0 := blk_frozen BK554.out 0
     have hfz17_1 := blk_frozen BK554.out 1
     have hcz18_0 : w5.cell? ⟨gb555, 0, none⟩ = some (.int .i64 a1_0) := (blk_cell BK555.out 0).trans rfl
     have hcz18_1 : w5.cell? ⟨gb555, 1, none⟩ = some (.int .u64 a1_1) := (blk_cell BK555.out 1).trans rfl
     have hfz18_0 := blk_frozen BK555.out 0
     have hfz18_1 := blk_frozen BK555.out 1
     go_wp2
     go_ret
     exact ⟨by first | rfl | (simp [errW_none, errW_some] <;> rfl) | (simp [*, errW_none, errW_some] <;> rfl), bH HB⟩
    ·rw [if_neg c15] at H
     have c15b0 : decide (a0_1 < a1_1) = false := decide_eq_false c15
     clear c15
     obtain rfl := Option.some.inj H
     have hnb19 := NB554_555.out
     have hnc19 := NB555_554.out
     have hcz20_0 : w5.cell? ⟨gb554, 0, none⟩ = some (.int .i64 a0_0) := (blk_cell BK554.out 0).trans rfl
     have hcz20_1 : w5.cell? ⟨gb554, 1, none⟩ = some (.int .u64 a0_1) := (blk_cell BK554.out 1).trans rfl
     have hfz20_0 := blk_frozen BK554.out 0
     have hfz20_1 := blk_frozen BK554.out 1
     have hcz21_0 : w5.cell? ⟨gb555, 0, none⟩ = some (.int .i64 a1_0) := (blk_cell BK555.out 0).trans rfl
     have hcz21_1 : w5.cell? ⟨gb555, 1, none⟩ = some (.int .u64 a1_1) := (blk_cell BK555.out 1).trans rfl
     have hfz21_0 := blk_frozen BK555.out 0
     have hfz21_1 := blk_frozen BK555.out 1
     go_wp2
     go_ret
     exact ⟨by first | rfl | (simp [errW_none, errW_some] <;> rfl) | (simp [*, errW_none, errW_some] <;> rfl), bH HB⟩
   ·rw [if_neg c14] at H
    have c14b0 : (a0_0 == a1_0) = false := beq_eq_false_iff_ne.mpr c14
    have c14b1 : (a0_0 != a1_0) = true := bne_iff_ne.mpr c14
    obtain rfl := Option.some.inj H
    have hnb22 := NB554_555.out
    have hnc22 := NB555_554.out
    have hcz23_0 : w5.cell? ⟨gb554, 0, none⟩ = some (.int .i64 a0_0) := (blk_cell BK554.out 0).trans rfl
    have hcz23_1 : w5.cell? ⟨gb554, 1, none⟩ = some (.int .u64 a0_1) := (blk_cell BK554.out 1).trans rfl
    have hfz23_0 := blk_frozen BK554.out 0
    have hfz23_1 := blk_frozen BK554.out 1
    have hcz24_0 : w5.cell? ⟨gb555, 0, none⟩ = some (.int .i64 a1_0) := (blk_cell BK555.out 0).trans rfl
    have hcz24_1 : w5.cell? ⟨gb555, 1, none⟩ = some (.int .u64 a1_1) := (blk_cell BK555.out 1).trans rfl
    have hfz24_0 := blk_frozen BK555.out 0
    have hfz24_1 := blk_frozen BK555.out 1
    go_wp2
    go_ret
    exact ⟨by first | rfl | (simp [errW_none, errW_some] <;> rfl) | (simp [*, errW_none, errW_some] <;> rfl), bH HB⟩

end Go.Proofs.Ytbonkedecfjmdaa.P

namespace Go.Proofs.Ytbonkedecfjmdaa.P
open Go.RowKit Go.Proofs.YtbonkedecfjmdaaW.PrintWords Go.Proofs.YtbonkedecfjmdaaW.PrintLast Go.Proofs.YtbonkedecfjmdaaW.PrintMore Go.Proofs.Ytbonkedecfjmdaa.X
attribute [local go_sem] max2_int min2_int max_two min_two max_three min_three max_four min_four add64_0 add64_1 add64   -- for this text's walks alone
set_option linter.unusedVariables false
set_option linter.unusedSimpArgs false

/-! ### wide_Sign: function 24 -/
def wide_Sign.f (a0_0 : Int) (a0_1 : Int) : Option (Int) := (wide_Cmp.f a0_0 a0_1 0 0).bind fun t557 => (some t557)
set_option maxHeartbeats 8000000 in
set_option maxRecDepth 100000 in
theorem wide_Sign.calls (a0_0 : Int) (a0_1 : Int) (r : Int) (w : World) (h : wide_Sign.f a0_0 a0_1 = some r) :
  Calls Try.prog 24 #[.agg #[.int .i64 a0_0, .int .u64 a0_1]] w fun e w' => e = .returned (.int .i64 r) ∧ Below w.heap.size w w' := by
 have hu50 := Try.underlying50
 have HB := Aside0.mk (Below.refl w.heap.size w)
 have H : ((wide_Cmp.f a0_0 a0_1 0 0).bind fun t557 => (some t557)) = some r := h
 clear h
 replace H := Option.bind_eq_some_iff.mp H
 obtain ⟨t557, A20, H⟩ := H
 replace H : (some t557) = some r := H
 have A2 := Aside0.mk A20
 clear A20
 obtain rfl := Option.some.inj H
 go_enter Try.func24, Try.ntmps24
 go_wp2_with (first | ((with_reducible refine gate_dst (N := 1) rfl ?_); refine box_event ?hg (N := 1) ?hd (cs := #[.int .i64 a0_0, .int .u64 a0_1]) (t := 50) ?hr ?_; (case hd => rfl); (case hg => rfl); (case hr => first | (go_simp; done) | (go_simp; rfl)); intro gb556 hg w3 hbox hb; have n0_ := Aside0.mk (below_step (bH HB) hb); have n1_ := Aside0.mk (hbox); have n2_ := Aside0.mk ((by rw [hg]; exact (below_size (bH HB)) : w.heap.size ≤ gb556)); have n3_ := n2_; clear HB; have HB := n0_; have BK556 := n1_; have GW556 := n2_; have GE556 := n3_; clear n0_ n1_ n2_ n3_; clear hb hbox hg; have hcz4_0 : w3.cell? ⟨gb556, 0, none⟩ = some (.int .i64 a0_0) := (blk_cell BK556.out 0).trans rfl; have hcz4_1 : w3.cell? ⟨gb556, 1, none⟩ = some (.int .u64 a0_1) := (blk_cell BK556.out 1).trans rfl; have hfz4_0 := blk_frozen BK556.out 0; have hfz4_1 := blk_frozen BK556.out 1) | ((with_reducible refine gate_callee (f := 53) rfl ?_); refine goesL_ (some 5) rfl rfl Try.func53 (by kernel_rfl) rfl #[.agg #[.int .i64 a0_0, .int .u64 a0_1], .agg #[.int .i64 0, .int .u64 0]] rfl (by (try simp only [List.map_toArray, List.map_cons, List.map_nil]); first | done | rfl | (simp only [List.length_drop, List.length_take]; rfl)) ?_; (with_reducible refine (wide_Cmp.calls a0_0 a0_1 0 0 t557 _ A2.out).mono ?_); rintro e w5 ⟨rfl, hb⟩; refine ⟨_, rfl, ?_⟩; have n0_ := Aside0.mk (blk_below (g := gb556) (o := .cells #[.int .i64 a0_0, .int .u64 a0_1] 50 (0, 0)) (bK BK556) hb); have n1_ := Aside0.mk (below_step (bH HB) hb); clear BK556; clear HB; have BK556 := n0_; have HB := n1_; clear n0_ n1_; (try clear hb); (try clear hb2); (try clear hk); (try clear hi)))
 go_ret
 exact ⟨by first | rfl | (simp [errW_none, errW_some] <;> rfl) | (simp [*, errW_none, errW_some] <;> rfl), bH HB⟩

end Go.Proofs.Ytbonkedecfjmdaa.P

namespace Go.Proofs.Ytbonkedecfjmdaa.P
open Go.RowKit Go.Proofs.YtbonkedecfjmdaaW.PrintWords Go.Proofs.YtbonkedecfjmdaaW.PrintLast Go.Proofs.YtbonkedecfjmdaaW.PrintMore Go.Proofs.Ytbonkedecfjmdaa.X
attribute [local go_sem] max2_int min2_int max_two min_two max_three min_three max_four min_four add64_0 add64_1 add64   -- for this text's walks alone
set_option linter.unusedVariables false
set_option linter.unusedSimpArgs false

attribute [local go_sem high] eqA50
/-! ### wide_Add: function 25 -/
def wide_Add.l0 : Nat → List (S50) → Int → Int → Int → Int → Option (Int × Int)
 | 0, _, _, _, _, _ => none
 | k + 1, x11, x12, x13, x559000, x559001 => if x13 < x12 then (if 0 ≤ x13 then (if x13 < (x11.length : Int) then (if (((rd_T50 x11 x13).f0) == 0 && (((rd_T50 x11 x13).f1) == 0)) = true then (wide_Add.l0 k x11 x12 (wrap64 (x13 + 1)) x559000 x559001) else (if (a64hi x559001 ((rd_T50 x11 x13).f1) 0) ≤ 1 then (wide_Add.l0 k x11 x12 (wrap64 (x13 + 1)) (wrap64 (a64lo (IntKind.u64.wrap (x559000)) (IntKind.u64.wrap ((rd_T50 x11 x13).f0)) (a64hi x559001 ((rd_T50 x11 x13).f1) 0))) (a64lo x559001 ((rd_T50 x11 x13).f1) 0)) else (none))) else (none)) else (none)) else (some (x559000, x559001))
def wide_Add.f (k : Nat) (a0_0 : Int) (a0_1 : Int) (l1 : List (S50)) : Option (Int × Int) := wide_Add.l0 k l1 (l1.length : Int) 0 a0_0 a0_1
theorem wide_Add.mono_l : ∀ k, (∀ y0 y1 y2 y3 y4, LeO (wide_Add.l0 k y0 y1 y2 y3 y4) (wide_Add.l0 (k + 1) y0 y1 y2 y3 y4))
 | 0 => fun _ _ _ _ _ r h => by simp [wide_Add.l0] at h
 | k + 1 => by
  have ih0 := wide_Add.mono_l k
  ·intro y0 y1 y2 y3 y4
   unfold wide_Add.l0
   repeat' first
   | (with_reducible exact ih0 _ _ _ _ _)
   | (with_reducible exact LeO.refl _)
   | (with_reducible exact LeO.none _)
   | (with_reducible refine LeO.ite ?_ ?_)
   | (with_reducible refine LeO.bind ?_ (fun _ => ?_))
   | exact ih0 _ _ _ _ _
   | exact LeO.none _
   | refine LeO.ite ?_ ?_
   | refine LeO.bind ?_ (fun _ => ?_)
theorem wide_Add.mono : ∀ a0 a1 a2 k, LeO (wide_Add.f k a0 a1 a2) (wide_Add.f (k + 1) a0 a1 a2) := by
 intro a0 a1 a2 k
 have ih0 := wide_Add.mono_l k
 unfold wide_Add.f
 repeat' first
   | (with_reducible exact ih0 _ _ _ _ _)
   | (with_reducible exact LeO.refl _)
   | (with_reducible exact LeO.none _)
   | (with_reducible refine LeO.ite ?_ ?_)
   | (with_reducible refine LeO.bind ?_ (fun _ => ?_))
   | exact ih0 _ _ _ _ _
   | exact LeO.none _
   | refine LeO.ite ?_ ?_
   | refine LeO.bind ?_ (fun _ => ?_)
set_option maxHeartbeats 8000000 in
set_option maxRecDepth 100000 in
theorem wide_Add.calls (k : Nat) (a0_0 : Int) (a0_1 : Int) (A1 : Option Addr) (c1 : Nat) (l1 : List (S50)) (r1 : Int) (r2 : Int) (w : World) (hr1 : Kd.C k50 w A1 l1.length l1) (hc1 : l1.length ≤ c1) (h : wide_Add.f k a0_0 a0_1 l1 = some (r1, r2)) :
  Calls Try.prog 25 #[.agg #[.int .i64 a0_0, .int .u64 a0_1], .slice A1 l1.length c1] w fun e w' => e = .returned (.agg #[.int .i64 r1, .int .u64 r2]) ∧ Below w.heap.size w w' := by
 have hu50 := Try.underlying50
 have HR1 := Aside0.mk hr1
 have HC1 := Aside0.mk hc1
 clear hr1 hc1
 have HB := Aside0.mk (Below.refl w.heap.size w)
 have H : (wide_Add.l0 k l1 (l1.length : Int) 0 a0_0 a0_1) = some (r1, r2) := h
 clear h
 have H' := Aside0.mk H
 clear H
 go_enter Try.func25, Try.ntmps25
 go_wp2_with (first | go_step3 | ((with_reducible refine gate_dst (N := 2) rfl ?_); refine box_event ?hg (N := 2) ?hd (cs := #[.int .i64 a0_0, .int .u64 a0_1]) (t := 50) ?hr ?_; (case hd => rfl); (case hg => rfl); (case hr => first | (go_simp; done) | (go_simp; rfl)); intro gb558 hg w3 hbox hb; have n0_ := Aside0.mk (below_step (bH HB) hb); have n1_ := Aside0.mk (hbox); have n2_ := Aside0.mk ((by rw [hg]; exact (below_size (bH HB)) : w.heap.size ≤ gb558)); have n3_ := n2_; clear HB; have HB := n0_; have BK558 := n1_; have GW558 := n2_; have GE558 := n3_; clear n0_ n1_ n2_ n3_; clear hb hbox hg) | ((with_reducible refine gate_dst (N := 4) rfl ?_); refine box_event ?hg (N := 4) ?hd (cs := #[.int .i64 0, .int .u64 0]) (t := 50) ?hr ?_; (case hd => rfl); (case hg => rfl); (case hr => first | (go_simp; done) | (go_simp; rfl)); intro gb559 hg w4 hbox hb; have n0_ := Aside0.mk (blk_below (g := gb558) (o := .cells #[.int .i64 a0_0, .int .u64 a0_1] 50 (0, 0)) (bK BK558) hb); have n1_ := Aside0.mk (below_step (bH HB) hb); have n2_ := Aside0.mk (hbox); have n3_ := Aside0.mk ((by rw [hg]; exact (below_size (bH HB)) : w.heap.size ≤ gb559)); have n4_ := n3_; have n5_ := Aside0.mk ((by rw [hg]; exact Nat.ne_of_lt (blk_lt (bK BK558)) : gb558 ≠ gb559)); have n6_ := Aside0.mk ((by rw [hg]; exact Nat.ne_of_gt (blk_lt (bK BK558)) : gb559 ≠ gb558)); clear BK558; clear HB; have BK558 := n0_; have HB := n1_; have BK559 := n2_; have GW559 := n3_; have GE559 := n4_; have NB558_559 := n5_; have NB559_558 := n6_; clear n0_ n1_ n2_ n3_ n4_ n5_ n6_; clear hb hbox hg))
 go_loopg [13] k (fun kq v13 w' => ∃ (x13_1 : Int) (x559000_1 : Int) (x559001_1 : Int), v13 = .int .i64 x13_1 ∧ Aside0 (wide_Add.l0 kq l1 (l1.length : Int) x13_1 x559000_1 x559001_1 = some (r1, r2)) ∧ Aside0 (kq ≤ k) ∧ Aside0 (w'.heap[gb558]? = some (.cells #[.int .i64 x559000_1, .int .u64 x559001_1] 50 (0, 0))) ∧ Aside0 (w'.heap[gb559]? = some (.cells #[.int .i64 0, .int .u64 0] 50 (0, 0))) ∧ Aside0 (Below w.heap.size w w'))
 case atStart => exact ⟨(0), (a0_0), (a0_1), (by first | rfl | (simp; done) | (simp [*]; done)), H', ⟨Nat.le_refl _⟩, ⟨bK BK558⟩, ⟨bK BK559⟩, ⟨ bH HB⟩⟩
 case round =>
  clear H'
  try clear c1
  try clear c2
  try clear p2
  obtain ⟨x13_1, x559000_1, x559001_1, rfl, HA, HK1, BK558, BK559, HB⟩ := hrel
  cases gk with
  | zero => exact absurd HA.out (by simp [wide_Add.l0])
  | succ k1 =>
   have H := HA.out
   clear HA
   simp only [wide_Add.l0] at H
   by_cases c5 : x13_1 < (l1.length : Int)
   ·rw [if_pos c5] at H
    have c5b0 : decide (x13_1 < (l1.length : Int)) = true := decide_eq_true c5
    clear c5
    by_cases c6 : 0 ≤ x13_1
    ·rw [if_pos c6] at H
     have c6b0 : decide (0 ≤ x13_1) = true := decide_eq_true c6
     clear c6
     by_cases c7 : x13_1 < (l1.length : Int)
     ·rw [if_pos c7] at H
      have c7b0 : decide (x13_1 < (l1.length : Int)) = true := decide_eq_true c7
      clear c7
      have HC8 := Aside0.mk H
      clear H
      have p560 : 0 ≤ (x13_1 : Int) := of_decide_eq_true (by first | (with_reducible assumption) | assumption)
      have q560 : x13_1 < (l1.length : Int) := of_decide_eq_true (by first | (with_reducible assumption) | assumption)
      obtain ⟨ad560, e560, hx560_0, hx560_1⟩ := at_T50 HR1.out x13_1 p560 q560
      cases e560
      replace hx560_0 := (HB.out.cell (World.block_lt_of_cell? w _ hx560_0)).trans hx560_0
      replace hx560_1 := (HB.out.cell (World.block_lt_of_cell? w _ hx560_1)).trans hx560_1
      replace p560 := eq_true p560
      replace q560 := eq_true q560
      go_upto_if 19 with (first | go_step3 | ((with_reducible refine gate_dst (N := 6) rfl ?_); refine box_event ?hg (N := 6) ?hd (cs := #[.int .i64 0, .int .u64 0]) (t := 50) ?hr ?_; (case hd => rfl); (case hg => rfl); (case hr => first | (go_simp; done) | (go_simp; rfl)); intro gb561 hg w9 hbox hb; have n0_ := Aside0.mk (blk_below (g := gb558) (o := .cells #[.int .i64 x559000_1, .int .u64 x559001_1] 50 (0, 0)) (bK BK558) hb); have n1_ := Aside0.mk (blk_below (g := gb559) (o := .cells #[.int .i64 0, .int .u64 0] 50 (0, 0)) (bK BK559) hb); have n2_ := Aside0.mk (below_step (bH HB) hb); have n3_ := Aside0.mk (hbox); have n4_ := Aside0.mk ((by rw [hg]; exact (below_size (bH HB)) : w.heap.size ≤ gb561)); have n5_ := n4_; have n6_ := Aside0.mk ((by rw [hg]; exact Nat.ne_of_lt (blk_lt (bK BK558)) : gb558 ≠ gb561)); have n7_ := Aside0.mk ((by rw [hg]; exact Nat.ne_of_gt (blk_lt (bK BK558)) : gb561 ≠ gb558)); have n8_ := Aside0.mk ((by rw [hg]; exact Nat.ne_of_lt (blk_lt (bK BK559)) : gb559 ≠ gb561)); have n9_ := Aside0.mk ((by rw [hg]; exact Nat.ne_of_gt (blk_lt (bK BK559)) : gb561 ≠ gb559)); clear BK558; clear BK559; clear HB; have BK558 := n0_; have BK559 := n1_; have HB := n2_; have BK561 := n3_; have GW561 := n4_; have GE561 := n5_; have NB558_561 := n6_; have NB561_558 := n7_; have NB559_561 := n8_; have NB561_559 := n9_; clear n0_ n1_ n2_ n3_ n4_ n5_ n6_ n7_ n8_ n9_; clear hb hbox hg; have hnb10 := NB561_558.out; have hnc10 := NB558_561.out; have hnb11 := NB561_559.out; have hnc11 := NB559_561.out; have hcz12_0 : w9.cell? ⟨gb561, 0, none⟩ = some (.int .i64 0) := (blk_cell BK561.out 0).trans rfl; have hcz12_1 : w9.cell? ⟨gb561, 1, none⟩ = some (.int .u64 0) := (blk_cell BK561.out 1).trans rfl; have hfz12_0 := blk_frozen BK561.out 0; have hfz12_1 := blk_frozen BK561.out 1))
      (try simp only [Act.put, List.setIfInBounds_toArray, List.set_cons_zero, List.set_cons_succ])
      have H := HC8.out
      clear HC8
      by_cases c13 : (((rd_T50 l1 x13_1).f0) == 0 && (((rd_T50 l1 x13_1).f1) == 0)) = true
      ·rw [if_pos c13] at H
       have c13b0 : (((rd_T50 l1 x13_1).f0) == 0 && (((rd_T50 l1 x13_1).f1) == 0)) = true := c13
       (try (have c13b1 : decide (((rd_T50 l1 x13_1).f0) = 0 && (((rd_T50 l1 x13_1).f1) == 0)) = true := by simpa using c13))
       (try (have c13b2 : (((rd_T50 l1 x13_1).f0) == 0 && (((rd_T50 l1 x13_1).f1) == 0)) = true := by simpa using c13))
       clear c13
       (first | rw [c13b0] | (simp only [i64_w, i32_w]; rw [c13b0]) | skip)
       have H' := Aside0.mk H
       clear H
       go_wp2_with (go_step3)
       go_roundg k1
       case measure => have := HK1.out; omega
       case rel => exact ⟨(wrap64 (x13_1 + 1)), (x559000_1), (x559001_1), (by first | rfl | (simp; done) | (simp [*]; done)), H', ⟨by have := HK1.out; omega⟩, ⟨bK BK558⟩, ⟨bK BK559⟩, ⟨ bH HB⟩⟩
      ·rw [if_neg c13] at H
       have c13b0 : (((rd_T50 l1 x13_1).f0) == 0 && (((rd_T50 l1 x13_1).f1) == 0)) = false := by simpa using c13
       (try (have c13b1 : decide (((rd_T50 l1 x13_1).f0) = 0 && (((rd_T50 l1 x13_1).f1) == 0)) = false := by simpa using c13))
       (try (have c13b2 : (((rd_T50 l1 x13_1).f0) == 0 && (((rd_T50 l1 x13_1).f1) == 0)) = false := by simpa using c13))
       (try (have c13b3 : ¬ (((rd_T50 l1 x13_1).f0) = 0 && (((rd_T50 l1 x13_1).f1) == 0)) := by simpa using c13))
       clear c13
       (first | rw [c13b0] | (simp only [i64_w, i32_w]; rw [c13b0]) | skip)
       by_cases c14 : (a64hi x559001_1 ((rd_T50 l1 x13_1).f1) 0) ≤ 1
       ·rw [if_pos c14] at H
        have c14b0 := eq_true c14
        have c14b1 : decide ((a64hi x559001_1 ((rd_T50 l1 x13_1).f1) 0) ≤ 1) = true := decide_eq_true c14
        clear c14
        have H' := Aside0.mk H
        clear H
        have hnb15 := NB558_559.out
        have hnc15 := NB559_558.out
        have hnb16 := NB558_561.out
        have hnc16 := NB561_558.out
        have hcz17_0 : w9.cell? ⟨gb558, 0, none⟩ = some (.int .i64 x559000_1) := (blk_cell BK558.out 0).trans rfl
        have hcz17_1 : w9.cell? ⟨gb558, 1, none⟩ = some (.int .u64 x559001_1) := (blk_cell BK558.out 1).trans rfl
        have hfz17_0 := blk_frozen BK558.out 0
        have hfz17_1 := blk_frozen BK558.out 1
        have hnb18 := NB561_559.out
        have hnc18 := NB559_561.out
        have hcz19_0 : w9.cell? ⟨gb561, 0, none⟩ = some (.int .i64 0) := (blk_cell BK561.out 0).trans rfl
        have hcz19_1 : w9.cell? ⟨gb561, 1, none⟩ = some (.int .u64 0) := (blk_cell BK561.out 1).trans rfl
        have hfz19_0 := blk_frozen BK561.out 0
        have hfz19_1 := blk_frozen BK561.out 1
        go_wp2_with (go_step3)
        go_roundg k1
        case measure => have := HK1.out; omega
        case rel => exact ⟨(wrap64 (x13_1 + 1)), (wrap64 (a64lo (IntKind.u64.wrap (x559000_1)) (IntKind.u64.wrap ((rd_T50 l1 x13_1).f0)) (a64hi x559001_1 ((rd_T50 l1 x13_1).f1) 0))), (a64lo x559001_1 ((rd_T50 l1 x13_1).f1) 0), (by first | rfl | (simp; done) | (simp [*]; done)), H', ⟨by have := HK1.out; omega⟩, ⟨by (with_reducible repeat (first | refine blk_drewN ?_ _ | refine blk_drew ?_ | refine blk_alloc ?_ _)); refine blk_put (cs := #[.int .i64 (wrap64 (a64lo (IntKind.u64.wrap (x559000_1)) (IntKind.u64.wrap ((rd_T50 l1 x13_1).f0)) (a64hi x559001_1 ((rd_T50 l1 x13_1).f1) 0))), .int .u64 x559001_1]) ?_ 1 _ rfl; (with_reducible repeat (first | refine blk_drewN ?_ _ | refine blk_drew ?_ | refine blk_alloc ?_ _)); refine blk_put (cs := #[.int .i64 x559000_1, .int .u64 x559001_1]) ?_ 0 _ rfl; (with_reducible repeat (first | refine blk_drewN ?_ _ | refine blk_drew ?_ | refine blk_alloc ?_ _)); refine blk_far ?_ NB558_561.out _; (with_reducible repeat (first | refine blk_drewN ?_ _ | refine blk_drew ?_ | refine blk_alloc ?_ _)); refine blk_far ?_ NB558_561.out _; (with_reducible repeat (first | refine blk_drewN ?_ _ | refine blk_drew ?_ | refine blk_alloc ?_ _)); exact BK558.out⟩, ⟨bK BK559⟩, ⟨ bH HB⟩⟩
       ·rw [if_neg c14] at H
        exact absurd H (by simp)
     ·rw [if_neg c7] at H
      exact absurd H (by simp)
    ·rw [if_neg c6] at H
     exact absurd H (by simp)
   ·rw [if_neg c5] at H
    have c5b0 : decide (x13_1 < (l1.length : Int)) = false := decide_eq_false c5
    clear c5
    simp only [Option.some.injEq, Prod.mk.injEq] at H
    obtain ⟨rfl, rfl⟩ := H
    have hnb20 := NB558_559.out
    have hnc20 := NB559_558.out
    have hcz21_0 : wr.cell? ⟨gb558, 0, none⟩ = some (.int .i64 x559000_1) := (blk_cell BK558.out 0).trans rfl
    have hcz21_1 : wr.cell? ⟨gb558, 1, none⟩ = some (.int .u64 x559001_1) := (blk_cell BK558.out 1).trans rfl
    have hfz21_0 := blk_frozen BK558.out 0
    have hfz21_1 := blk_frozen BK558.out 1
    have hcz22_0 : wr.cell? ⟨gb559, 0, none⟩ = some (.int .i64 0) := (blk_cell BK559.out 0).trans rfl
    have hcz22_1 : wr.cell? ⟨gb559, 1, none⟩ = some (.int .u64 0) := (blk_cell BK559.out 1).trans rfl
    have hfz22_0 := blk_frozen BK559.out 0
    have hfz22_1 := blk_frozen BK559.out 1
    go_wp2_with (go_step3)
    (try rw [Exit.noGoto_ret])
    refine bodyPost_ret (results_cell_row rfl _ _ gb559 50 #[.int .i64 x559000_1, .int .u64 x559001_1] (0, 0) _ rfl (by (with_reducible repeat (first | refine blk_drewN ?_ _ | refine blk_drew ?_ | refine blk_alloc ?_ _)); refine blk_put (cs := #[.int .i64 x559000_1, .int .u64 0]) ?_ 1 _ rfl; (with_reducible repeat (first | refine blk_drewN ?_ _ | refine blk_drew ?_ | refine blk_alloc ?_ _)); refine blk_put (cs := #[.int .i64 0, .int .u64 0]) ?_ 0 _ rfl; (with_reducible repeat (first | refine blk_drewN ?_ _ | refine blk_drew ?_ | refine blk_alloc ?_ _)); exact BK559.out) Try.underlying50 rfl (by kernel_rfl)) rfl ?_
    exact ⟨by first | rfl | (simp [errW_none, errW_some] <;> rfl) | (simp [*, errW_none, errW_some] <;> rfl), bH HB⟩

end Go.Proofs.Ytbonkedecfjmdaa.P

namespace Go.Proofs.Ytbonkedecfjmdaa.P
open Go.RowKit Go.Proofs.YtbonkedecfjmdaaW.PrintWords Go.Proofs.YtbonkedecfjmdaaW.PrintLast Go.Proofs.YtbonkedecfjmdaaW.PrintMore Go.Proofs.Ytbonkedecfjmdaa.X
attribute [local go_sem] max2_int min2_int max_two min_two max_three min_three max_four min_four add64_0 add64_1 add64   -- for this text's walks alone
set_option linter.unusedVariables false
set_option linter.unusedSimpArgs false

/-! ### bits_Mul64: function 86 -/
def bits_Mul64.f (a0 : Int) (a1 : Int) : Option (Int × Int) := some (IntKind.u64.wrap ((IntKind.u64.wrap ((IntKind.u64.wrap ((a0 / 4294967296) * (a1 / 4294967296))) + ((IntKind.u64.wrap ((IntKind.u64.wrap ((a0 / 4294967296) * (Go.bits .and .u64 a1 4294967295))) + ((IntKind.u64.wrap ((Go.bits .and .u64 a0 4294967295) * (Go.bits .and .u64 a1 4294967295))) / 4294967296))) / 4294967296))) + ((IntKind.u64.wrap ((Go.bits .and .u64 (IntKind.u64.wrap ((IntKind.u64.wrap ((a0 / 4294967296) * (Go.bits .and .u64 a1 4294967295))) + ((IntKind.u64.wrap ((Go.bits .and .u64 a0 4294967295) * (Go.bits .and .u64 a1 4294967295))) / 4294967296))) 4294967295) + (IntKind.u64.wrap ((Go.bits .and .u64 a0 4294967295) * (a1 / 4294967296))))) / 4294967296)), IntKind.u64.wrap (a0 * a1))
set_option maxHeartbeats 8000000 in
set_option maxRecDepth 100000 in
theorem bits_Mul64.calls (a0 : Int) (a1 : Int) (r1 : Int) (r2 : Int) (w : World) (h : bits_Mul64.f a0 a1 = some (r1, r2)) :
  Calls Try.prog 86 #[.int .u64 a0, .int .u64 a1] w fun e w' => e = .returned (.tuple #[.int .u64 r1, .int .u64 r2]) ∧ Drawn0 w w' := by
 have H : (some (IntKind.u64.wrap ((IntKind.u64.wrap ((IntKind.u64.wrap ((a0 / 4294967296) * (a1 / 4294967296))) + ((IntKind.u64.wrap ((IntKind.u64.wrap ((a0 / 4294967296) * (Go.bits .and .u64 a1 4294967295))) + ((IntKind.u64.wrap ((Go.bits .and .u64 a0 4294967295) * (Go.bits .and .u64 a1 4294967295))) / 4294967296))) / 4294967296))) + ((IntKind.u64.wrap ((Go.bits .and .u64 (IntKind.u64.wrap ((IntKind.u64.wrap ((a0 / 4294967296) * (Go.bits .and .u64 a1 4294967295))) + ((IntKind.u64.wrap ((Go.bits .and .u64 a0 4294967295) * (Go.bits .and .u64 a1 4294967295))) / 4294967296))) 4294967295) + (IntKind.u64.wrap ((Go.bits .and .u64 a0 4294967295) * (a1 / 4294967296))))) / 4294967296)), IntKind.u64.wrap (a0 * a1))) = some (r1, r2) := h
 clear h
 simp only [Option.some.injEq, Prod.mk.injEq] at H
 obtain ⟨rfl, rfl⟩ := H
 go_enter Try.func86, Try.ntmps86
 go_wp2
 go_ret2
 exact ⟨by first | rfl | (simp; done) | (simp [*]; done), by repeat (first | exact Drawn0.refl _ | apply Drawn0.step)⟩

end Go.Proofs.Ytbonkedecfjmdaa.P

namespace Go.Proofs.Ytbonkedecfjmdaa.P
open Go.RowKit Go.Proofs.YtbonkedecfjmdaaW.PrintWords Go.Proofs.YtbonkedecfjmdaaW.PrintLast Go.Proofs.YtbonkedecfjmdaaW.PrintMore Go.Proofs.Ytbonkedecfjmdaa.X
attribute [local go_sem] max2_int min2_int max_two min_two max_three min_three max_four min_four add64_0 add64_1 add64   -- for this text's walks alone
set_option linter.unusedVariables false
set_option linter.unusedSimpArgs false

/-! ### wide_Mul: function 81 -/
def wide_Mul.f (a0 : Int) (a1 : Int) : Option (Int × Int) := (bits_Mul64.f (IntKind.u64.wrap (a0)) (IntKind.u64.wrap (a1))).bind fun bt563 => (if a0 < 0 then (if a1 < 0 then (some (wrap64 (IntKind.u64.wrap ((IntKind.u64.wrap (bt563.1 - (IntKind.u64.wrap (a1)))) - (IntKind.u64.wrap (a0)))), bt563.2)) else (some (wrap64 (IntKind.u64.wrap (bt563.1 - (IntKind.u64.wrap (a1)))), bt563.2))) else (if a1 < 0 then (some (wrap64 (IntKind.u64.wrap (bt563.1 - (IntKind.u64.wrap (a0)))), bt563.2)) else (some (wrap64 (bt563.1), bt563.2))))
set_option maxHeartbeats 8000000 in
set_option maxRecDepth 100000 in
theorem wide_Mul.calls (a0 : Int) (a1 : Int) (r1 : Int) (r2 : Int) (w : World) (h : wide_Mul.f a0 a1 = some (r1, r2)) :
  Calls Try.prog 81 #[.int .i64 a0, .int .i64 a1] w fun e w' => e = .returned (.agg #[.int .i64 r1, .int .u64 r2]) ∧ Below w.heap.size w w' := by
 have hu50 := Try.underlying50
 have HB := Aside0.mk (Below.refl w.heap.size w)
 have H : ((bits_Mul64.f (IntKind.u64.wrap (a0)) (IntKind.u64.wrap (a1))).bind fun bt563 => (if a0 < 0 then (if a1 < 0 then (some (wrap64 (IntKind.u64.wrap ((IntKind.u64.wrap (bt563.1 - (IntKind.u64.wrap (a1)))) - (IntKind.u64.wrap (a0)))), bt563.2)) else (some (wrap64 (IntKind.u64.wrap (bt563.1 - (IntKind.u64.wrap (a1)))), bt563.2))) else (if a1 < 0 then (some (wrap64 (IntKind.u64.wrap (bt563.1 - (IntKind.u64.wrap (a0)))), bt563.2)) else (some (wrap64 (bt563.1), bt563.2))))) = some (r1, r2) := h
 clear h
 replace H := Option.bind_eq_some_iff.mp H
 obtain ⟨⟨t563, t564⟩, A30, H⟩ := H
 replace H : (if a0 < 0 then (if a1 < 0 then (some (wrap64 (IntKind.u64.wrap ((IntKind.u64.wrap (t563 - (IntKind.u64.wrap (a1)))) - (IntKind.u64.wrap (a0)))), t564)) else (some (wrap64 (IntKind.u64.wrap (t563 - (IntKind.u64.wrap (a1)))), t564))) else (if a1 < 0 then (some (wrap64 (IntKind.u64.wrap (t563 - (IntKind.u64.wrap (a0)))), t564)) else (some (wrap64 (t563), t564)))) = some (r1, r2) := H
 have A3 := Aside0.mk A30
 clear A30
 have HC4 := Aside0.mk H
 clear H
 go_enter Try.func81, Try.ntmps81
 go_upto_if 16 with (first | ((with_reducible refine gate_dst (N := 4) rfl ?_); refine box_event ?hg (N := 4) ?hd (cs := #[.int .i64 0, .int .u64 0]) (t := 50) ?hr ?_; (case hd => rfl); (case hg => rfl); (case hr => first | (go_simp; done) | (go_simp; rfl)); intro gb562 hg w5 hbox hb; have n0_ := Aside0.mk (below_step (bH HB) hb); have n1_ := Aside0.mk (hbox); have n2_ := Aside0.mk ((by rw [hg]; exact (below_size (bH HB)) : w.heap.size ≤ gb562)); have n3_ := n2_; clear HB; have HB := n0_; have BK562 := n1_; have GW562 := n2_; have GE562 := n3_; clear n0_ n1_ n2_ n3_; clear hb hbox hg) | ((with_reducible refine gate_callee (f := 86) rfl ?_); refine goesL_ (some 12) rfl rfl Try.func86 (by kernel_rfl) rfl #[.int .u64 (IntKind.u64.wrap (a0)), .int .u64 (IntKind.u64.wrap (a1))] rfl (by (try simp only [List.map_toArray, List.map_cons, List.map_nil]); first | done | rfl | (simp only [List.length_drop, List.length_take]; rfl)) ?_; (with_reducible refine (bits_Mul64.calls (IntKind.u64.wrap (a0)) (IntKind.u64.wrap (a1)) t563 t564 _ A3.out).mono ?_); rintro e w' ⟨rfl, ⟨nd, rfl⟩⟩; refine ⟨_, rfl, ?_⟩))
 (try simp only [Act.put, List.setIfInBounds_toArray, List.set_cons_zero, List.set_cons_succ])
 have H := HC4.out
 clear HC4
 by_cases c6 : a0 < 0
 ·rw [if_pos c6] at H
  have c6b0 : decide (a0 < 0) = true := decide_eq_true c6
  clear c6
  (first | rw [c6b0] | (simp only [i64_w, i32_w]; rw [c6b0]) | skip)
  by_cases c7 : a1 < 0
  ·rw [if_pos c7] at H
   have c7b0 : decide (a1 < 0) = true := decide_eq_true c7
   clear c7
   simp only [Option.some.injEq, Prod.mk.injEq] at H
   obtain ⟨rfl, rfl⟩ := H
   have hcz8_0 : w5.cell? ⟨gb562, 0, none⟩ = some (.int .i64 0) := (blk_cell BK562.out 0).trans rfl
   have hcz8_1 : w5.cell? ⟨gb562, 1, none⟩ = some (.int .u64 0) := (blk_cell BK562.out 1).trans rfl
   have hfz8_0 := blk_frozen BK562.out 0
   have hfz8_1 := blk_frozen BK562.out 1
   go_wp2
   refine bodyPost_ret (results_cell_row rfl _ _ gb562 50 #[.int .i64 (wrap64 (IntKind.u64.wrap ((IntKind.u64.wrap (t563 - (IntKind.u64.wrap (a1)))) - (IntKind.u64.wrap (a0))))), .int .u64 t564] (0, 0) _ rfl (by (with_reducible repeat (first | refine blk_drewN ?_ _ | refine blk_drew ?_ | refine blk_alloc ?_ _)); refine blk_put (cs := #[.int .i64 (wrap64 (IntKind.u64.wrap ((IntKind.u64.wrap (t563 - (IntKind.u64.wrap (a1)))) - (IntKind.u64.wrap (a0))))), .int .u64 0]) ?_ 1 _ rfl; (with_reducible repeat (first | refine blk_drewN ?_ _ | refine blk_drew ?_ | refine blk_alloc ?_ _)); refine blk_put (cs := #[.int .i64 0, .int .u64 0]) ?_ 0 _ rfl; (with_reducible repeat (first | refine blk_drewN ?_ _ | refine blk_drew ?_ | refine blk_alloc ?_ _)); exact BK562.out) Try.underlying50 rfl (by kernel_rfl)) rfl ?_
   exact ⟨by first | rfl | (simp [errW_none, errW_some] <;> rfl) | (simp [*, errW_none, errW_some] <;> rfl), bH HB⟩
  ·rw [if_neg c7] at H
   have c7b0 : decide (a1 < 0) = false := decide_eq_false c7
   clear c7
   simp only [Option.some.injEq, Prod.mk.injEq] at H
   obtain ⟨rfl, rfl⟩ := H
   have hcz9_0 : w5.cell? ⟨gb562, 0, none⟩ = some (.int .i64 0) := (blk_cell BK562.out 0).trans rfl
   have hcz9_1 : w5.cell? ⟨gb562, 1, none⟩ = some (.int .u64 0) := (blk_cell BK562.out 1).trans rfl
   have hfz9_0 := blk_frozen BK562.out 0
   have hfz9_1 := blk_frozen BK562.out 1
   go_wp2
   refine bodyPost_ret (results_cell_row rfl _ _ gb562 50 #[.int .i64 (wrap64 (IntKind.u64.wrap (t563 - (IntKind.u64.wrap (a1))))), .int .u64 t564] (0, 0) _ rfl (by (with_reducible repeat (first | refine blk_drewN ?_ _ | refine blk_drew ?_ | refine blk_alloc ?_ _)); refine blk_put (cs := #[.int .i64 (wrap64 (IntKind.u64.wrap (t563 - (IntKind.u64.wrap (a1))))), .int .u64 0]) ?_ 1 _ rfl; (with_reducible repeat (first | refine blk_drewN ?_ _ | refine blk_drew ?_ | refine blk_alloc ?_ _)); refine blk_put (cs := #[.int .i64 0, .int .u64 0]) ?_ 0 _ rfl; (with_reducible repeat (first | refine blk_drewN ?_ _ | refine blk_drew ?_ | refine blk_alloc ?_ _)); exact BK562.out) Try.underlying50 rfl (by kernel_rfl)) rfl ?_
   exact ⟨by first | rfl | (simp [errW_none, errW_some] <;> rfl) | (simp [*, errW_none, errW_some] <;> rfl), bH HB⟩
 ·rw [if_neg c6] at H
  have c6b0 : decide (a0 < 0) = false := decide_eq_false c6
  clear c6
  (first | rw [c6b0] | (simp only [i64_w, i32_w]; rw [c6b0]) | skip)
  by_cases c10 : a1 < 0
  ·rw [if_pos c10] at H
   have c10b0 : decide (a1 < 0) = true := decide_eq_true c10
   clear c10
   simp only [Option.some.injEq, Prod.mk.injEq] at H
   obtain ⟨rfl, rfl⟩ := H
   have hcz11_0 : w5.cell? ⟨gb562, 0, none⟩ = some (.int .i64 0) := (blk_cell BK562.out 0).trans rfl
   have hcz11_1 : w5.cell? ⟨gb562, 1, none⟩ = some (.int .u64 0) := (blk_cell BK562.out 1).trans rfl
   have hfz11_0 := blk_frozen BK562.out 0
   have hfz11_1 := blk_frozen BK562.out 1
   go_wp2
   refine bodyPost_ret (results_cell_row rfl _ _ gb562 50 #[.int .i64 (wrap64 (IntKind.u64.wrap (t563 - (IntKind.u64.wrap (a0))))), .int .u64 t564] (0, 0) _ rfl (by (with_reducible repeat (first | refine blk_drewN ?_ _ | refine blk_drew ?_ | refine blk_alloc ?_ _)); refine blk_put (cs := #[.int .i64 (wrap64 (IntKind.u64.wrap (t563 - (IntKind.u64.wrap (a0))))), .int .u64 0]) ?_ 1 _ rfl; (with_reducible repeat (first | refine blk_drewN ?_ _ | refine blk_drew ?_ | refine blk_alloc ?_ _)); refine blk_put (cs := #[.int .i64 0, .int .u64 0]) ?_ 0 _ rfl; (with_reducible repeat (first | refine blk_drewN ?_ _ | refine blk_drew ?_ | refine blk_alloc ?_ _)); exact BK562.out) Try.underlying50 rfl (by kernel_rfl)) rfl ?_
   exact ⟨by first | rfl | (simp [errW_none, errW_some] <;> rfl) | (simp [*, errW_none, errW_some] <;> rfl), bH HB⟩
  ·rw [if_neg c10] at H
   have c10b0 : decide (a1 < 0) = false := decide_eq_false c10
   clear c10
   simp only [Option.some.injEq, Prod.mk.injEq] at H
   obtain ⟨rfl, rfl⟩ := H
   have hcz12_0 : w5.cell? ⟨gb562, 0, none⟩ = some (.int .i64 0) := (blk_cell BK562.out 0).trans rfl
   have hcz12_1 : w5.cell? ⟨gb562, 1, none⟩ = some (.int .u64 0) := (blk_cell BK562.out 1).trans rfl
   have hfz12_0 := blk_frozen BK562.out 0
   have hfz12_1 := blk_frozen BK562.out 1
   go_wp2
   refine bodyPost_ret (results_cell_row rfl _ _ gb562 50 #[.int .i64 (wrap64 (t563)), .int .u64 t564] (0, 0) _ rfl (by (with_reducible repeat (first | refine blk_drewN ?_ _ | refine blk_drew ?_ | refine blk_alloc ?_ _)); refine blk_put (cs := #[.int .i64 (wrap64 (t563)), .int .u64 0]) ?_ 1 _ rfl; (with_reducible repeat (first | refine blk_drewN ?_ _ | refine blk_drew ?_ | refine blk_alloc ?_ _)); refine blk_put (cs := #[.int .i64 0, .int .u64 0]) ?_ 0 _ rfl; (with_reducible repeat (first | refine blk_drewN ?_ _ | refine blk_drew ?_ | refine blk_alloc ?_ _)); exact BK562.out) Try.underlying50 rfl (by kernel_rfl)) rfl ?_
   exact ⟨by first | rfl | (simp [errW_none, errW_some] <;> rfl) | (simp [*, errW_none, errW_some] <;> rfl), bH HB⟩

end Go.Proofs.Ytbonkedecfjmdaa.P
