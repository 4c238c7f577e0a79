/- Written for this claim by a program of this session (a turned copy of the print): Go functions as Lean functions, and that the Go code comes to just these answers; or a statement proved out of them. No condition. -/
import Derived.Test.YtfbkjgedaadlmaaPx0
import Derived.Test.YtfbkjgedaadlmaaPx1
namespace Go.Proofs.Ytfbkjgedaadlmaa.P
open Go.RowKit Go.Proofs.YtfbkjgedaadlmaaW.PrintWords Go.Proofs.YtfbkjgedaadlmaaW.PrintLast Go.Proofs.YtfbkjgedaadlmaaW.PrintMore Go.Proofs.Ytfbkjgedaadlmaa.X
attribute [local go_sem] max2_int min2_int max_two min_two max_three min_three max_four min_four   -- for this text's walks alone
set_option linter.unusedVariables false
set_option linter.unusedSimpArgs false

attribute [local go_sem high] eqA42
/-! ### arc_Same: function 24 -/
mutual
def arc_Same.l0 : Nat → List (List (S42)) → List (List (S42)) → Int → Int → Option (Bool)
 | 0, _, _, _, _ => none
 | k + 1, x0, x1, x14, x15 => if x15 < x14 then (if 0 ≤ x15 then (if x15 < (x0.length : Int) then (if x15 < (x1.length : Int) then (if ((rd_L2 x0 x15).length : Int) = ((rd_L2 x1 x15).length : Int) then (arc_Same.l1 k x0 x1 x15 x14 x15 (rd_L2 x0 x15) ((rd_L2 x0 x15).length : Int) 0) else (some false)) else (none)) else (none)) else (none)) else (some true)
def arc_Same.l1 : Nat → List (List (S42)) → List (List (S42)) → Int → Int → Int → List (S42) → Int → Int → Option (Bool)
 | 0, _, _, _, _, _, _, _, _ => none
 | k + 1, x0, x1, x5, x14, x15, x32, x33, x34 => if x34 < x33 then (if 0 ≤ x34 then (if x34 < (x32.length : Int) then (if 0 ≤ x5 then (if x5 < (x1.length : Int) then (if x34 < ((rd_L2 x1 x5).length : Int) then (if (!(((rd_T42 x32 x34).f0) == ((rd_T42 (rd_L2 x1 x5) x34).f0)) || (!(((rd_T42 x32 x34).f1) == ((rd_T42 (rd_L2 x1 x5) x34).f1)) || (!(((rd_T42 x32 x34).f2) == ((rd_T42 (rd_L2 x1 x5) x34).f2))))) = true then (some false) else (arc_Same.l1 k x0 x1 x5 x14 x15 x32 x33 (wrap64 (x34 + 1)))) else (none)) else (none)) else (none)) else (none)) else (none)) else (arc_Same.l0 k x0 x1 x14 (wrap64 (x15 + 1)))
end
def arc_Same.f (k : Nat) (l0 : List (List (S42))) (l1 : List (List (S42))) : Option (Bool) := if (l0.length : Int) = (l1.length : Int) then (arc_Same.l0 k l0 l1 (l0.length : Int) 0) else (some false)
theorem arc_Same.mono_l : ∀ k, (∀ y0 y1 y2 y3, LeO (arc_Same.l0 k y0 y1 y2 y3) (arc_Same.l0 (k + 1) y0 y1 y2 y3)) ∧ (∀ y0 y1 y2 y3 y4 y5 y6 y7, LeO (arc_Same.l1 k y0 y1 y2 y3 y4 y5 y6 y7) (arc_Same.l1 (k + 1) y0 y1 y2 y3 y4 y5 y6 y7))
 | 0 => ⟨fun _ _ _ _ r h => by simp [arc_Same.l0] at h, fun _ _ _ _ _ _ _ _ r h => by simp [arc_Same.l1] at h⟩
 | k + 1 => by
  obtain ⟨ih0, ih1⟩ := arc_Same.mono_l k
  refine ⟨?_, ?_⟩
  ·intro y0 y1 y2 y3
   unfold arc_Same.l0
   repeat' first
   | (with_reducible exact ih0 _ _ _ _)
   | (with_reducible exact ih1 _ _ _ _ _ _ _ _)
   | (with_reducible exact LeO.refl _)
   | (with_reducible exact LeO.none _)
   | (with_reducible refine LeO.ite ?_ ?_)
   | (with_reducible refine LeO.bind ?_ (fun _ => ?_))
   | exact ih0 _ _ _ _
   | exact ih1 _ _ _ _ _ _ _ _
   | exact LeO.none _
   | refine LeO.ite ?_ ?_
   | refine LeO.bind ?_ (fun _ => ?_)
  ·intro y0 y1 y2 y3 y4 y5 y6 y7
   unfold arc_Same.l1
   repeat' first
   | (with_reducible exact ih0 _ _ _ _)
   | (with_reducible exact ih1 _ _ _ _ _ _ _ _)
   | (with_reducible exact LeO.refl _)
   | (with_reducible exact LeO.none _)
   | (with_reducible refine LeO.ite ?_ ?_)
   | (with_reducible refine LeO.bind ?_ (fun _ => ?_))
   | exact ih0 _ _ _ _
   | exact ih1 _ _ _ _ _ _ _ _
   | exact LeO.none _
   | refine LeO.ite ?_ ?_
   | refine LeO.bind ?_ (fun _ => ?_)
theorem arc_Same.mono : ∀ a0 a1 k, LeO (arc_Same.f k a0 a1) (arc_Same.f (k + 1) a0 a1) := by
 intro a0 a1 k
 obtain ⟨ih0, ih1⟩ := arc_Same.mono_l k
 unfold arc_Same.f
 repeat' first
   | (with_reducible exact ih0 _ _ _ _)
   | (with_reducible exact ih1 _ _ _ _ _ _ _ _)
   | (with_reducible exact LeO.refl _)
   | (with_reducible exact LeO.none _)
   | (with_reducible refine LeO.ite ?_ ?_)
   | (with_reducible refine LeO.bind ?_ (fun _ => ?_))
   | exact ih0 _ _ _ _
   | exact ih1 _ _ _ _ _ _ _ _
   | exact LeO.none _
   | refine LeO.ite ?_ ?_
   | refine LeO.bind ?_ (fun _ => ?_)
set_option maxHeartbeats 8000000 in
set_option maxRecDepth 100000 in
theorem arc_Same.calls (k : Nat) (A0 : Option Addr) (c0 : Nat) (l0 : List (List (S42))) (A1 : Option Addr) (c1 : Nat) (l1 : List (List (S42))) (r : Bool) (w : World) (hr0 : Kd.C (Kd.slice 42 k42) w A0 l0.length l0) (hc0 : l0.length ≤ c0) (hr1 : Kd.C (Kd.slice 42 k42) w A1 l1.length l1) (hc1 : l1.length ≤ c1) (h : arc_Same.f k l0 l1 = some r) :
  Calls Try.prog 24 #[.slice A0 l0.length c0, .slice A1 l1.length c1] w fun e w' => e = .returned (.bool r) ∧ Below w.heap.size w w' := by
 have hu42 := Try.underlying42
 have HR0 := Aside0.mk hr0
 have HC0 := Aside0.mk hc0
 clear hr0 hc0
 have HR1 := Aside0.mk hr1
 have HC1 := Aside0.mk hc1
 clear hr1 hc1
 have HB := Aside0.mk (Below.refl w.heap.size w)
 have H : (if (l0.length : Int) = (l1.length : Int) then (arc_Same.l0 k l0 l1 (l0.length : Int) 0) else (some false)) = some r := h
 clear h
 by_cases c3 : (l0.length : Int) = (l1.length : Int)
 ·rw [if_pos c3] at H
  have c3b0 : ((l0.length : Int) == (l1.length : Int)) = true := beq_iff_eq.mpr c3
  have c3b1 : ((l0.length : Int) != (l1.length : Int)) = false := bne_eq_false_iff_eq.mpr c3
  have c3b2 : (l0.length == l1.length) = true := by first | simpa using c3 | (simp at c3 ⊢; omega)
  clear c3
  have H' := Aside0.mk H
  clear H
  go_enter Try.func24, Try.ntmps24
  go_wp2
  repeat (go_quiet (fail); try go_wp2)
  go_loopg [15] k (fun kq v15 w' => ∃ (x15_1 : Int), v15 = .int .i64 x15_1 ∧ Aside0 (arc_Same.l0 kq l0 l1 (l0.length : Int) x15_1 = some r) ∧ Aside0 (kq ≤ k) ∧ Aside0 (Below w.heap.size w w'))
  case atStart => exact ⟨(0), (by first | rfl | (simp; done) | (simp [*]; done)), H', ⟨Nat.le_refl _⟩, ⟨ bH HB⟩⟩
  case round =>
   clear H'
   try clear c1
   try clear c2
   try clear p2
   try clear c3
   try clear c3b0
   try clear c3b1
   try clear c3b2
   obtain ⟨x15_1, rfl, HA, HK1, HB⟩ := hrel
   cases gk with
   | zero => exact absurd HA.out (by simp [arc_Same.l0])
   | succ k1 =>
    have H := HA.out
    clear HA
    simp only [arc_Same.l0] at H
    by_cases c4 : x15_1 < (l0.length : Int)
    ·rw [if_pos c4] at H
     have c4b0 : decide (x15_1 < (l0.length : Int)) = true := decide_eq_true c4
     clear c4
     by_cases c5 : 0 ≤ x15_1
     ·rw [if_pos c5] at H
      have c5b0 : decide (0 ≤ x15_1) = true := decide_eq_true c5
      clear c5
      by_cases c6 : x15_1 < (l0.length : Int)
      ·rw [if_pos c6] at H
       have c6b0 : decide (x15_1 < (l0.length : Int)) = true := decide_eq_true c6
       clear c6
       by_cases c7 : x15_1 < (l1.length : Int)
       ·rw [if_pos c7] at H
        have c7b0 : decide (x15_1 < (l1.length : Int)) = true := decide_eq_true c7
        clear c7
        by_cases c8 : ((rd_L2 l0 x15_1).length : Int) = ((rd_L2 l1 x15_1).length : Int)
        ·rw [if_pos c8] at H
         have c8b0 : (((rd_L2 l0 x15_1).length : Int) == ((rd_L2 l1 x15_1).length : Int)) = true := beq_iff_eq.mpr c8
         have c8b1 : (((rd_L2 l0 x15_1).length : Int) != ((rd_L2 l1 x15_1).length : Int)) = false := bne_eq_false_iff_eq.mpr c8
         have c8b2 : ((rd_L2 l0 x15_1).length == (rd_L2 l1 x15_1).length) = true := by first | simpa using c8 | (simp at c8 ⊢; omega)
         clear c8
         have H' := Aside0.mk H
         clear H
         have p168 : 0 ≤ (x15_1 : Int) := of_decide_eq_true (by first | (with_reducible assumption) | assumption)
         have q168 : x15_1 < (l0.length : Int) := of_decide_eq_true (by first | (with_reducible assumption) | assumption)
         obtain ⟨ad168, A168_0, c168_0, e168, hx168_0, hl168_0, hi168_0⟩ := at_L2 HR0.out x15_1 p168 q168
         cases e168
         replace hx168_0 := (HB.out.cell (World.block_lt_of_cell? w _ hx168_0)).trans hx168_0
         have HR168_0 := Aside0.mk hi168_0
         have HC168_0 := Aside0.mk hl168_0
         clear hi168_0 hl168_0
         replace p168 := eq_true p168
         replace q168 := eq_true q168
         have p169 : 0 ≤ (x15_1 : Int) := of_decide_eq_true (by first | (with_reducible assumption) | assumption)
         have q169 : x15_1 < (l1.length : Int) := of_decide_eq_true (by first | (with_reducible assumption) | assumption)
         obtain ⟨ad169, A169_0, c169_0, e169, hx169_0, hl169_0, hi169_0⟩ := at_L2 HR1.out x15_1 p169 q169
         cases e169
         replace hx169_0 := (HB.out.cell (World.block_lt_of_cell? w _ hx169_0)).trans hx169_0
         have HR169_0 := Aside0.mk hi169_0
         have HC169_0 := Aside0.mk hl169_0
         clear hi169_0 hl169_0
         replace p169 := eq_true p169
         replace q169 := eq_true q169
         have p170 : 0 ≤ (x15_1 : Int) := of_decide_eq_true (by first | (with_reducible assumption) | assumption)
         have q170 : x15_1 < (l0.length : Int) := of_decide_eq_true (by first | (with_reducible assumption) | assumption)
         obtain ⟨ad170, A170_0, c170_0, e170, hx170_0, hl170_0, hi170_0⟩ := at_L2 HR0.out x15_1 p170 q170
         obtain rfl : ad168 = ad170 := (by injection e170)
         replace hx170_0 := (HB.out.cell (World.block_lt_of_cell? w _ hx170_0)).trans hx170_0
         have HR170_0 := Aside0.mk hi170_0
         have HC170_0 := Aside0.mk hl170_0
         clear hi170_0 hl170_0
         replace p170 := eq_true p170
         replace q170 := eq_true q170
         have ea_ := Option.some.inj (hx168_0.symm.trans hx170_0)
         injection ea_ with ea_ en_ ec_
         subst ea_
         subst ec_
         clear en_
         go_wp2
         repeat (go_quiet (fail); try go_wp2)
         go_loopg [34] k1 (fun kq v34 w' => ∃ (x34_2 : Int), v34 = .int .i64 x34_2 ∧ Aside0 (arc_Same.l1 kq l0 l1 x15_1 (l0.length : Int) x15_1 (rd_L2 l0 x15_1) ((rd_L2 l0 x15_1).length : Int) x34_2 = some r) ∧ Aside0 (kq ≤ k1) ∧ Aside0 (Below w.heap.size w w'))
         case atStart => exact ⟨(0), (by first | rfl | (simp; done) | (simp [*]; done)), H', ⟨Nat.le_refl _⟩, ⟨ bH HB⟩⟩
         case round =>
          clear H'
          try clear c1
          try clear p1
          try clear q1
          try clear hx1
          try clear c2
          try clear p2
          try clear c3
          try clear c3b0
          try clear c3b1
          try clear c3b2
          try clear c4
          try clear c4b0
          try clear c5
          try clear c5b0
          try clear c6
          try clear c6b0
          try clear c7
          try clear c7b0
          try clear c8
          try clear c8b0
          try clear c8b1
          try clear c8b2
          try clear hx168_0
          try clear hx169_0
          try clear hx170_0
          try clear p168
          try clear p169
          try clear p170
          try clear p2
          try clear q168
          try clear q169
          try clear q170
          obtain ⟨x34_2, rfl, HA, HK2, HB⟩ := hrel
          cases gk with
          | zero => exact absurd HA.out (by simp [arc_Same.l1])
          | succ k2 =>
           have H := HA.out
           clear HA
           simp only [arc_Same.l1] at H
           by_cases c9 : x34_2 < ((rd_L2 l0 x15_1).length : Int)
           ·rw [if_pos c9] at H
            have c9b0 : decide (x34_2 < ((rd_L2 l0 x15_1).length : Int)) = true := decide_eq_true c9
            clear c9
            by_cases c10 : 0 ≤ x34_2
            ·rw [if_pos c10] at H
             have c10b0 : decide (0 ≤ x34_2) = true := decide_eq_true c10
             clear c10
             by_cases c11 : x34_2 < ((rd_L2 l0 x15_1).length : Int)
             ·rw [if_pos c11] at H
              have c11b0 : decide (x34_2 < ((rd_L2 l0 x15_1).length : Int)) = true := decide_eq_true c11
              clear c11
              by_cases c12 : 0 ≤ x15_1
              ·rw [if_pos c12] at H
               have c12b0 : decide (0 ≤ x15_1) = true := decide_eq_true c12
               clear c12
               by_cases c13 : x15_1 < (l1.length : Int)
               ·rw [if_pos c13] at H
                have c13b0 : decide (x15_1 < (l1.length : Int)) = true := decide_eq_true c13
                clear c13
                by_cases c14 : x34_2 < ((rd_L2 l1 x15_1).length : Int)
                ·rw [if_pos c14] at H
                 have c14b0 : decide (x34_2 < ((rd_L2 l1 x15_1).length : Int)) = true := decide_eq_true c14
                 clear c14
                 by_cases c15 : (!(((rd_T42 (rd_L2 l0 x15_1) x34_2).f0) == ((rd_T42 (rd_L2 l1 x15_1) x34_2).f0)) || (!(((rd_T42 (rd_L2 l0 x15_1) x34_2).f1) == ((rd_T42 (rd_L2 l1 x15_1) x34_2).f1)) || (!(((rd_T42 (rd_L2 l0 x15_1) x34_2).f2) == ((rd_T42 (rd_L2 l1 x15_1) x34_2).f2))))) = true
                 ·rw [if_pos c15] at H
                  have c15b0 : (!(((rd_T42 (rd_L2 l0 x15_1) x34_2).f0) == ((rd_T42 (rd_L2 l1 x15_1) x34_2).f0)) || (!(((rd_T42 (rd_L2 l0 x15_1) x34_2).f1) == ((rd_T42 (rd_L2 l1 x15_1) x34_2).f1)) || (!(((rd_T42 (rd_L2 l0 x15_1) x34_2).f2) == ((rd_T42 (rd_L2 l1 x15_1) x34_2).f2))))) = true := c15
                  clear c15
                  obtain rfl := Option.some.inj H
                  have p171 : 0 ≤ (x34_2 : Int) := of_decide_eq_true (by first | (with_reducible assumption) | assumption)
                  have q171 : x34_2 < ((rd_L2 l0 x15_1).length : Int) := of_decide_eq_true (by first | (with_reducible assumption) | assumption)
                  obtain ⟨ad171, e171, hx171_0, hx171_1, hx171_2⟩ := at_T42 HR170_0.out x34_2 p171 q171
                  cases e171
                  replace hx171_0 := (HB.out.cell (World.block_lt_of_cell? w _ hx171_0)).trans hx171_0
                  replace hx171_1 := (HB.out.cell (World.block_lt_of_cell? w _ hx171_1)).trans hx171_1
                  replace hx171_2 := (HB.out.cell (World.block_lt_of_cell? w _ hx171_2)).trans hx171_2
                  replace p171 := eq_true p171
                  replace q171 := eq_true q171
                  go_wp2_with (first | ((with_reducible refine gate_dst (N := 7) rfl ?_); refine box_event ?hg (N := 7) ?hd (cs := #[.int .i64 0, .int .i64 0, .int .i64 0]) (t := 42) ?hr ?_; (case hd => rfl); (case hg => rfl); (case hr => first | (go_simp; done) | (go_simp; rfl)); intro gb172 hg w16 hbox hb; have n0_ := Aside0.mk (below_step (bH HB) hb); have n1_ := Aside0.mk (hbox); have n2_ := Aside0.mk ((by rw [hg]; exact (below_size (bH HB)) : w.heap.size ≤ gb172)); have n3_ := n2_; clear HB; have HB := n0_; have BK172 := n1_; have GW172 := n2_; have GE172 := n3_; clear n0_ n1_ n2_ n3_; clear hb hbox hg; have hcz17_0 : w16.cell? ⟨gb172, 0, none⟩ = some (.int .i64 0) := (blk_cell BK172.out 0).trans rfl; have hcz17_1 : w16.cell? ⟨gb172, 1, none⟩ = some (.int .i64 0) := (blk_cell BK172.out 1).trans rfl; have hcz17_2 : w16.cell? ⟨gb172, 2, none⟩ = some (.int .i64 0) := (blk_cell BK172.out 2).trans rfl; have hfz17_0 := blk_frozen BK172.out 0; have hfz17_1 := blk_frozen BK172.out 1; have hfz17_2 := blk_frozen BK172.out 2; have p173 : 0 ≤ (x15_1 : Int) := of_decide_eq_true (by first | (with_reducible assumption) | assumption); have q173 : x15_1 < (l1.length : Int) := of_decide_eq_true (by first | (with_reducible assumption) | assumption); obtain ⟨ad173, A173_0, c173_0, e173, hx173_0, hl173_0, hi173_0⟩ := at_L2 HR1.out x15_1 p173 q173; obtain rfl : ad169 = ad173 := (by injection e173); have hn173_0 : ad169.block ≠ gb172 := Nat.ne_of_lt (Nat.lt_of_lt_of_le (by have := World.block_lt_of_cell? _ _ hx173_0; first | rwa [add_block] at this | exact this) GW172.out); have hn173_1 : ad169.block ≠ gb172 := Nat.ne_of_lt (Nat.lt_of_lt_of_le (by have := World.block_lt_of_cell? _ _ hx173_0; first | rwa [add_block] at this | exact this) GW172.out); have hn173_2 : ad169.block ≠ gb172 := Nat.ne_of_lt (Nat.lt_of_lt_of_le (by have := World.block_lt_of_cell? _ _ hx173_0; first | rwa [add_block] at this | exact this) GW172.out); replace hx173_0 := (HB.out.cell (World.block_lt_of_cell? w _ hx173_0)).trans hx173_0; have HR173_0 := Aside0.mk hi173_0; have HC173_0 := Aside0.mk hl173_0; clear hi173_0 hl173_0; replace hx173_0 := (cell_far (p := ⟨gb172, 0, none⟩) (by first | (rw [add_block]; exact hn173_0) | (show (Addr.add _ _).block ≠ _; rw [add_block]; exact hn173_0) | exact hn173_0) (.int .i64 ((rd_T42 (rd_L2 l0 x15_1) x34_2).f0))).trans hx173_0; replace hx173_0 := (cell_far (p := ⟨gb172, 1, none⟩) (by first | (rw [add_block]; exact hn173_1) | (show (Addr.add _ _).block ≠ _; rw [add_block]; exact hn173_1) | exact hn173_1) (.int .i64 ((rd_T42 (rd_L2 l0 x15_1) x34_2).f1))).trans hx173_0; replace hx173_0 := (cell_far (p := ⟨gb172, 2, none⟩) (by first | (rw [add_block]; exact hn173_2) | (show (Addr.add _ _).block ≠ _; rw [add_block]; exact hn173_2) | exact hn173_2) (.int .i64 ((rd_T42 (rd_L2 l0 x15_1) x34_2).f2))).trans hx173_0; (try have hy173_0 := fun (n_ : Nat) => (show (((((w16.drewN n_).setCell ⟨gb172, 0, none⟩ (.int .i64 ((rd_T42 (rd_L2 l0 x15_1) x34_2).f0))).setCell ⟨gb172, 1, none⟩ (.int .i64 ((rd_T42 (rd_L2 l0 x15_1) x34_2).f1))).setCell ⟨gb172, 2, none⟩ (.int .i64 ((rd_T42 (rd_L2 l0 x15_1) x34_2).f2)))).cell? _ = some _ from hx173_0)); clear hn173_0; clear hn173_1; clear hn173_2; replace p173 := eq_true p173; replace q173 := eq_true q173; have p174 : 0 ≤ (x34_2 : Int) := of_decide_eq_true (by first | (with_reducible assumption) | assumption); have q174 : x34_2 < ((rd_L2 l1 x15_1).length : Int) := of_decide_eq_true (by first | (with_reducible assumption) | assumption); obtain ⟨ad174, e174, hx174_0, hx174_1, hx174_2⟩ := at_T42 HR173_0.out x34_2 p174 q174; cases e174; have hn174_0 : ad174.block ≠ gb172 := Nat.ne_of_lt (Nat.lt_of_lt_of_le (by have := World.block_lt_of_cell? _ _ hx174_0; first | rwa [add_block] at this | exact this) GW172.out); have hn174_1 : ad174.block ≠ gb172 := Nat.ne_of_lt (Nat.lt_of_lt_of_le (by have := World.block_lt_of_cell? _ _ hx174_0; first | rwa [add_block] at this | exact this) GW172.out); have hn174_2 : ad174.block ≠ gb172 := Nat.ne_of_lt (Nat.lt_of_lt_of_le (by have := World.block_lt_of_cell? _ _ hx174_0; first | rwa [add_block] at this | exact this) GW172.out); replace hx174_0 := (HB.out.cell (World.block_lt_of_cell? w _ hx174_0)).trans hx174_0; replace hx174_1 := (HB.out.cell (World.block_lt_of_cell? w _ hx174_1)).trans hx174_1; replace hx174_2 := (HB.out.cell (World.block_lt_of_cell? w _ hx174_2)).trans hx174_2; replace hx174_0 := (cell_far (p := ⟨gb172, 0, none⟩) (by first | (rw [add_block]; exact hn174_0) | (show (Addr.add _ _).block ≠ _; rw [add_block]; exact hn174_0) | exact hn174_0) (.int .i64 ((rd_T42 (rd_L2 l0 x15_1) x34_2).f0))).trans hx174_0; replace hx174_1 := (cell_far (p := ⟨gb172, 0, none⟩) (by first | (rw [add_block]; exact hn174_0) | (show (Addr.add _ _).block ≠ _; rw [add_block]; exact hn174_0) | exact hn174_0) (.int .i64 ((rd_T42 (rd_L2 l0 x15_1) x34_2).f0))).trans hx174_1; replace hx174_2 := (cell_far (p := ⟨gb172, 0, none⟩) (by first | (rw [add_block]; exact hn174_0) | (show (Addr.add _ _).block ≠ _; rw [add_block]; exact hn174_0) | exact hn174_0) (.int .i64 ((rd_T42 (rd_L2 l0 x15_1) x34_2).f0))).trans hx174_2; replace hx174_0 := (cell_far (p := ⟨gb172, 1, none⟩) (by first | (rw [add_block]; exact hn174_1) | (show (Addr.add _ _).block ≠ _; rw [add_block]; exact hn174_1) | exact hn174_1) (.int .i64 ((rd_T42 (rd_L2 l0 x15_1) x34_2).f1))).trans hx174_0; replace hx174_1 := (cell_far (p := ⟨gb172, 1, none⟩) (by first | (rw [add_block]; exact hn174_1) | (show (Addr.add _ _).block ≠ _; rw [add_block]; exact hn174_1) | exact hn174_1) (.int .i64 ((rd_T42 (rd_L2 l0 x15_1) x34_2).f1))).trans hx174_1; replace hx174_2 := (cell_far (p := ⟨gb172, 1, none⟩) (by first | (rw [add_block]; exact hn174_1) | (show (Addr.add _ _).block ≠ _; rw [add_block]; exact hn174_1) | exact hn174_1) (.int .i64 ((rd_T42 (rd_L2 l0 x15_1) x34_2).f1))).trans hx174_2; replace hx174_0 := (cell_far (p := ⟨gb172, 2, none⟩) (by first | (rw [add_block]; exact hn174_2) | (show (Addr.add _ _).block ≠ _; rw [add_block]; exact hn174_2) | exact hn174_2) (.int .i64 ((rd_T42 (rd_L2 l0 x15_1) x34_2).f2))).trans hx174_0; replace hx174_1 := (cell_far (p := ⟨gb172, 2, none⟩) (by first | (rw [add_block]; exact hn174_2) | (show (Addr.add _ _).block ≠ _; rw [add_block]; exact hn174_2) | exact hn174_2) (.int .i64 ((rd_T42 (rd_L2 l0 x15_1) x34_2).f2))).trans hx174_1; replace hx174_2 := (cell_far (p := ⟨gb172, 2, none⟩) (by first | (rw [add_block]; exact hn174_2) | (show (Addr.add _ _).block ≠ _; rw [add_block]; exact hn174_2) | exact hn174_2) (.int .i64 ((rd_T42 (rd_L2 l0 x15_1) x34_2).f2))).trans hx174_2; (try have hy174_0 := fun (n_ : Nat) => (show (((((w16.drewN n_).setCell ⟨gb172, 0, none⟩ (.int .i64 ((rd_T42 (rd_L2 l0 x15_1) x34_2).f0))).setCell ⟨gb172, 1, none⟩ (.int .i64 ((rd_T42 (rd_L2 l0 x15_1) x34_2).f1))).setCell ⟨gb172, 2, none⟩ (.int .i64 ((rd_T42 (rd_L2 l0 x15_1) x34_2).f2)))).cell? _ = some _ from hx174_0)); (try have hy174_1 := fun (n_ : Nat) => (show (((((w16.drewN n_).setCell ⟨gb172, 0, none⟩ (.int .i64 ((rd_T42 (rd_L2 l0 x15_1) x34_2).f0))).setCell ⟨gb172, 1, none⟩ (.int .i64 ((rd_T42 (rd_L2 l0 x15_1) x34_2).f1))).setCell ⟨gb172, 2, none⟩ (.int .i64 ((rd_T42 (rd_L2 l0 x15_1) x34_2).f2)))).cell? _ = some _ from hx174_1)); (try have hy174_2 := fun (n_ : Nat) => (show (((((w16.drewN n_).setCell ⟨gb172, 0, none⟩ (.int .i64 ((rd_T42 (rd_L2 l0 x15_1) x34_2).f0))).setCell ⟨gb172, 1, none⟩ (.int .i64 ((rd_T42 (rd_L2 l0 x15_1) x34_2).f1))).setCell ⟨gb172, 2, none⟩ (.int .i64 ((rd_T42 (rd_L2 l0 x15_1) x34_2).f2)))).cell? _ = some _ from hx174_2)); clear hn174_0; clear hn174_1; clear hn174_2; replace p174 := eq_true p174; replace q174 := eq_true q174))
                  repeat (go_quiet (first | ((with_reducible refine gate_dst (N := 7) rfl ?_); refine box_event ?hg (N := 7) ?hd (cs := #[.int .i64 0, .int .i64 0, .int .i64 0]) (t := 42) ?hr ?_; (case hd => rfl); (case hg => rfl); (case hr => first | (go_simp; done) | (go_simp; rfl)); intro gb172 hg w16 hbox hb; have n0_ := Aside0.mk (below_step (bH HB) hb); have n1_ := Aside0.mk (hbox); have n2_ := Aside0.mk ((by rw [hg]; exact (below_size (bH HB)) : w.heap.size ≤ gb172)); have n3_ := n2_; clear HB; have HB := n0_; have BK172 := n1_; have GW172 := n2_; have GE172 := n3_; clear n0_ n1_ n2_ n3_; clear hb hbox hg; have hcz17_0 : w16.cell? ⟨gb172, 0, none⟩ = some (.int .i64 0) := (blk_cell BK172.out 0).trans rfl; have hcz17_1 : w16.cell? ⟨gb172, 1, none⟩ = some (.int .i64 0) := (blk_cell BK172.out 1).trans rfl; have hcz17_2 : w16.cell? ⟨gb172, 2, none⟩ = some (.int .i64 0) := (blk_cell BK172.out 2).trans rfl; have hfz17_0 := blk_frozen BK172.out 0; have hfz17_1 := blk_frozen BK172.out 1; have hfz17_2 := blk_frozen BK172.out 2; have p173 : 0 ≤ (x15_1 : Int) := of_decide_eq_true (by first | (with_reducible assumption) | assumption); have q173 : x15_1 < (l1.length : Int) := of_decide_eq_true (by first | (with_reducible assumption) | assumption); obtain ⟨ad173, A173_0, c173_0, e173, hx173_0, hl173_0, hi173_0⟩ := at_L2 HR1.out x15_1 p173 q173; obtain rfl : ad169 = ad173 := (by injection e173); have hn173_0 : ad169.block ≠ gb172 := Nat.ne_of_lt (Nat.lt_of_lt_of_le (by have := World.block_lt_of_cell? _ _ hx173_0; first | rwa [add_block] at this | exact this) GW172.out); have hn173_1 : ad169.block ≠ gb172 := Nat.ne_of_lt (Nat.lt_of_lt_of_le (by have := World.block_lt_of_cell? _ _ hx173_0; first | rwa [add_block] at this | exact this) GW172.out); have hn173_2 : ad169.block ≠ gb172 := Nat.ne_of_lt (Nat.lt_of_lt_of_le (by have := World.block_lt_of_cell? _ _ hx173_0; first | rwa [add_block] at this | exact this) GW172.out); replace hx173_0 := (HB.out.cell (World.block_lt_of_cell? w _ hx173_0)).trans hx173_0; have HR173_0 := Aside0.mk hi173_0; have HC173_0 := Aside0.mk hl173_0; clear hi173_0 hl173_0; replace hx173_0 := (cell_far (p := ⟨gb172, 0, none⟩) (by first | (rw [add_block]; exact hn173_0) | (show (Addr.add _ _).block ≠ _; rw [add_block]; exact hn173_0) | exact hn173_0) (.int .i64 ((rd_T42 (rd_L2 l0 x15_1) x34_2).f0))).trans hx173_0; replace hx173_0 := (cell_far (p := ⟨gb172, 1, none⟩) (by first | (rw [add_block]; exact hn173_1) | (show (Addr.add _ _).block ≠ _; rw [add_block]; exact hn173_1) | exact hn173_1) (.int .i64 ((rd_T42 (rd_L2 l0 x15_1) x34_2).f1))).trans hx173_0; replace hx173_0 := (cell_far (p := ⟨gb172, 2, none⟩) (by first | (rw [add_block]; exact hn173_2) | (show (Addr.add _ _).block ≠ _; rw [add_block]; exact hn173_2) | exact hn173_2) (.int .i64 ((rd_T42 (rd_L2 l0 x15_1) x34_2).f2))).trans hx173_0; (try have hy173_0 := fun (n_ : Nat) => (show (((((w16.drewN n_).setCell ⟨gb172, 0, none⟩ (.int .i64 ((rd_T42 (rd_L2 l0 x15_1) x34_2).f0))).setCell ⟨gb172, 1, none⟩ (.int .i64 ((rd_T42 (rd_L2 l0 x15_1) x34_2).f1))).setCell ⟨gb172, 2, none⟩ (.int .i64 ((rd_T42 (rd_L2 l0 x15_1) x34_2).f2)))).cell? _ = some _ from hx173_0)); clear hn173_0; clear hn173_1; clear hn173_2; replace p173 := eq_true p173; replace q173 := eq_true q173; have p174 : 0 ≤ (x34_2 : Int) := of_decide_eq_true (by first | (with_reducible assumption) | assumption); have q174 : x34_2 < ((rd_L2 l1 x15_1).length : Int) := of_decide_eq_true (by first | (with_reducible assumption) | assumption); obtain ⟨ad174, e174, hx174_0, hx174_1, hx174_2⟩ := at_T42 HR173_0.out x34_2 p174 q174; cases e174; have hn174_0 : ad174.block ≠ gb172 := Nat.ne_of_lt (Nat.lt_of_lt_of_le (by have := World.block_lt_of_cell? _ _ hx174_0; first | rwa [add_block] at this | exact this) GW172.out); have hn174_1 : ad174.block ≠ gb172 := Nat.ne_of_lt (Nat.lt_of_lt_of_le (by have := World.block_lt_of_cell? _ _ hx174_0; first | rwa [add_block] at this | exact this) GW172.out); have hn174_2 : ad174.block ≠ gb172 := Nat.ne_of_lt (Nat.lt_of_lt_of_le (by have := World.block_lt_of_cell? _ _ hx174_0; first | rwa [add_block] at this | exact this) GW172.out); replace hx174_0 := (HB.out.cell (World.block_lt_of_cell? w _ hx174_0)).trans hx174_0; replace hx174_1 := (HB.out.cell (World.block_lt_of_cell? w _ hx174_1)).trans hx174_1; replace hx174_2 := (HB.out.cell (World.block_lt_of_cell? w _ hx174_2)).trans hx174_2; replace hx174_0 := (cell_far (p := ⟨gb172, 0, none⟩) (by first | (rw [add_block]; exact hn174_0) | (show (Addr.add _ _).block ≠ _; rw [add_block]; exact hn174_0) | exact hn174_0) (.int .i64 ((rd_T42 (rd_L2 l0 x15_1) x34_2).f0))).trans hx174_0; replace hx174_1 := (cell_far (p := ⟨gb172, 0, none⟩) (by first | (rw [add_block]; exact hn174_0) | (show (Addr.add _ _).block ≠ _; rw [add_block]; exact hn174_0) | exact hn174_0) (.int .i64 ((rd_T42 (rd_L2 l0 x15_1) x34_2).f0))).trans hx174_1; replace hx174_2 := (cell_far (p := ⟨gb172, 0, none⟩) (by first | (rw [add_block]; exact hn174_0) | (show (Addr.add _ _).block ≠ _; rw [add_block]; exact hn174_0) | exact hn174_0) (.int .i64 ((rd_T42 (rd_L2 l0 x15_1) x34_2).f0))).trans hx174_2; replace hx174_0 := (cell_far (p := ⟨gb172, 1, none⟩) (by first | (rw [add_block]; exact hn174_1) | (show (Addr.add _ _).block ≠ _; rw [add_block]; exact hn174_1) | exact hn174_1) (.int .i64 ((rd_T42 (rd_L2 l0 x15_1) x34_2).f1))).trans hx174_0; replace hx174_1 := (cell_far (p := ⟨gb172, 1, none⟩) (by first | (rw [add_block]; exact hn174_1) | (show (Addr.add _ _).block ≠ _; rw [add_block]; exact hn174_1) | exact hn174_1) (.int .i64 ((rd_T42 (rd_L2 l0 x15_1) x34_2).f1))).trans hx174_1; replace hx174_2 := (cell_far (p := ⟨gb172, 1, none⟩) (by first | (rw [add_block]; exact hn174_1) | (show (Addr.add _ _).block ≠ _; rw [add_block]; exact hn174_1) | exact hn174_1) (.int .i64 ((rd_T42 (rd_L2 l0 x15_1) x34_2).f1))).trans hx174_2; replace hx174_0 := (cell_far (p := ⟨gb172, 2, none⟩) (by first | (rw [add_block]; exact hn174_2) | (show (Addr.add _ _).block ≠ _; rw [add_block]; exact hn174_2) | exact hn174_2) (.int .i64 ((rd_T42 (rd_L2 l0 x15_1) x34_2).f2))).trans hx174_0; replace hx174_1 := (cell_far (p := ⟨gb172, 2, none⟩) (by first | (rw [add_block]; exact hn174_2) | (show (Addr.add _ _).block ≠ _; rw [add_block]; exact hn174_2) | exact hn174_2) (.int .i64 ((rd_T42 (rd_L2 l0 x15_1) x34_2).f2))).trans hx174_1; replace hx174_2 := (cell_far (p := ⟨gb172, 2, none⟩) (by first | (rw [add_block]; exact hn174_2) | (show (Addr.add _ _).block ≠ _; rw [add_block]; exact hn174_2) | exact hn174_2) (.int .i64 ((rd_T42 (rd_L2 l0 x15_1) x34_2).f2))).trans hx174_2; (try have hy174_0 := fun (n_ : Nat) => (show (((((w16.drewN n_).setCell ⟨gb172, 0, none⟩ (.int .i64 ((rd_T42 (rd_L2 l0 x15_1) x34_2).f0))).setCell ⟨gb172, 1, none⟩ (.int .i64 ((rd_T42 (rd_L2 l0 x15_1) x34_2).f1))).setCell ⟨gb172, 2, none⟩ (.int .i64 ((rd_T42 (rd_L2 l0 x15_1) x34_2).f2)))).cell? _ = some _ from hx174_0)); (try have hy174_1 := fun (n_ : Nat) => (show (((((w16.drewN n_).setCell ⟨gb172, 0, none⟩ (.int .i64 ((rd_T42 (rd_L2 l0 x15_1) x34_2).f0))).setCell ⟨gb172, 1, none⟩ (.int .i64 ((rd_T42 (rd_L2 l0 x15_1) x34_2).f1))).setCell ⟨gb172, 2, none⟩ (.int .i64 ((rd_T42 (rd_L2 l0 x15_1) x34_2).f2)))).cell? _ = some _ from hx174_1)); (try have hy174_2 := fun (n_ : Nat) => (show (((((w16.drewN n_).setCell ⟨gb172, 0, none⟩ (.int .i64 ((rd_T42 (rd_L2 l0 x15_1) x34_2).f0))).setCell ⟨gb172, 1, none⟩ (.int .i64 ((rd_T42 (rd_L2 l0 x15_1) x34_2).f1))).setCell ⟨gb172, 2, none⟩ (.int .i64 ((rd_T42 (rd_L2 l0 x15_1) x34_2).f2)))).cell? _ = some _ from hx174_2)); clear hn174_0; clear hn174_1; clear hn174_2; replace p174 := eq_true p174; replace q174 := eq_true q174)); try go_wp2_with (first | ((with_reducible refine gate_dst (N := 7) rfl ?_); refine box_event ?hg (N := 7) ?hd (cs := #[.int .i64 0, .int .i64 0, .int .i64 0]) (t := 42) ?hr ?_; (case hd => rfl); (case hg => rfl); (case hr => first | (go_simp; done) | (go_simp; rfl)); intro gb172 hg w16 hbox hb; have n0_ := Aside0.mk (below_step (bH HB) hb); have n1_ := Aside0.mk (hbox); have n2_ := Aside0.mk ((by rw [hg]; exact (below_size (bH HB)) : w.heap.size ≤ gb172)); have n3_ := n2_; clear HB; have HB := n0_; have BK172 := n1_; have GW172 := n2_; have GE172 := n3_; clear n0_ n1_ n2_ n3_; clear hb hbox hg; have hcz17_0 : w16.cell? ⟨gb172, 0, none⟩ = some (.int .i64 0) := (blk_cell BK172.out 0).trans rfl; have hcz17_1 : w16.cell? ⟨gb172, 1, none⟩ = some (.int .i64 0) := (blk_cell BK172.out 1).trans rfl; have hcz17_2 : w16.cell? ⟨gb172, 2, none⟩ = some (.int .i64 0) := (blk_cell BK172.out 2).trans rfl; have hfz17_0 := blk_frozen BK172.out 0; have hfz17_1 := blk_frozen BK172.out 1; have hfz17_2 := blk_frozen BK172.out 2; have p173 : 0 ≤ (x15_1 : Int) := of_decide_eq_true (by first | (with_reducible assumption) | assumption); have q173 : x15_1 < (l1.length : Int) := of_decide_eq_true (by first | (with_reducible assumption) | assumption); obtain ⟨ad173, A173_0, c173_0, e173, hx173_0, hl173_0, hi173_0⟩ := at_L2 HR1.out x15_1 p173 q173; obtain rfl : ad169 = ad173 := (by injection e173); have hn173_0 : ad169.block ≠ gb172 := Nat.ne_of_lt (Nat.lt_of_lt_of_le (by have := World.block_lt_of_cell? _ _ hx173_0; first | rwa [add_block] at this | exact this) GW172.out); have hn173_1 : ad169.block ≠ gb172 := Nat.ne_of_lt (Nat.lt_of_lt_of_le (by have := World.block_lt_of_cell? _ _ hx173_0; first | rwa [add_block] at this | exact this) GW172.out); have hn173_2 : ad169.block ≠ gb172 := Nat.ne_of_lt (Nat.lt_of_lt_of_le (by have := World.block_lt_of_cell? _ _ hx173_0; first | rwa [add_block] at this | exact this) GW172.out); replace hx173_0 := (HB.out.cell (World.block_lt_of_cell? w _ hx173_0)).trans hx173_0; have HR173_0 := Aside0.mk hi173_0; have HC173_0 := Aside0.mk hl173_0; clear hi173_0 hl173_0; replace hx173_0 := (cell_far (p := ⟨gb172, 0, none⟩) (by first | (rw [add_block]; exact hn173_0) | (show (Addr.add _ _).block ≠ _; rw [add_block]; exact hn173_0) | exact hn173_0) (.int .i64 ((rd_T42 (rd_L2 l0 x15_1) x34_2).f0))).trans hx173_0; replace hx173_0 := (cell_far (p := ⟨gb172, 1, none⟩) (by first | (rw [add_block]; exact hn173_1) | (show (Addr.add _ _).block ≠ _; rw [add_block]; exact hn173_1) | exact hn173_1) (.int .i64 ((rd_T42 (rd_L2 l0 x15_1) x34_2).f1))).trans hx173_0; replace hx173_0 := (cell_far (p := ⟨gb172, 2, none⟩) (by first | (rw [add_block]; exact hn173_2) | (show (Addr.add _ _).block ≠ _; rw [add_block]; exact hn173_2) | exact hn173_2) (.int .i64 ((rd_T42 (rd_L2 l0 x15_1) x34_2).f2))).trans hx173_0; (try have hy173_0 := fun (n_ : Nat) => (show (((((w16.drewN n_).setCell ⟨gb172, 0, none⟩ (.int .i64 ((rd_T42 (rd_L2 l0 x15_1) x34_2).f0))).setCell ⟨gb172, 1, none⟩ (.int .i64 ((rd_T42 (rd_L2 l0 x15_1) x34_2).f1))).setCell ⟨gb172, 2, none⟩ (.int .i64 ((rd_T42 (rd_L2 l0 x15_1) x34_2).f2)))).cell? _ = some _ from hx173_0)); clear hn173_0; clear hn173_1; clear hn173_2; replace p173 := eq_true p173; replace q173 := eq_true q173; have p174 : 0 ≤ (x34_2 : Int) := of_decide_eq_true (by first | (with_reducible assumption) | assumption); have q174 : x34_2 < ((rd_L2 l1 x15_1).length : Int) := of_decide_eq_true (by first | (with_reducible assumption) | assumption); obtain ⟨ad174, e174, hx174_0, hx174_1, hx174_2⟩ := at_T42 HR173_0.out x34_2 p174 q174; cases e174; have hn174_0 : ad174.block ≠ gb172 := Nat.ne_of_lt (Nat.lt_of_lt_of_le (by have := World.block_lt_of_cell? _ _ hx174_0; first | rwa [add_block] at this | exact this) GW172.out); have hn174_1 : ad174.block ≠ gb172 := Nat.ne_of_lt (Nat.lt_of_lt_of_le (by have := World.block_lt_of_cell? _ _ hx174_0; first | rwa [add_block] at this | exact this) GW172.out); have hn174_2 : ad174.block ≠ gb172 := Nat.ne_of_lt (Nat.lt_of_lt_of_le (by have := World.block_lt_of_cell? _ _ hx174_0; first | rwa [add_block] at this | exact this) GW172.out); replace hx174_0 := (HB.out.cell (World.block_lt_of_cell? w _ hx174_0)).trans hx174_0; replace hx174_1 := (HB.out.cell (World.block_lt_of_cell? w _ hx174_1)).trans hx174_1; replace hx174_2 := (HB.out.cell (World.block_lt_of_cell? w _ hx174_2)).trans hx174_2; replace hx174_0 := (cell_far (p := ⟨gb172, 0, none⟩) (by first | (rw [add_block]; exact hn174_0) | (show (Addr.add _ _).block ≠ _; rw [add_block]; exact hn174_0) | exact hn174_0) (.int .i64 ((rd_T42 (rd_L2 l0 x15_1) x34_2).f0))).trans hx174_0; replace hx174_1 := (cell_far (p := ⟨gb172, 0, none⟩) (by first | (rw [add_block]; exact hn174_0) | (show (Addr.add _ _).block ≠ _; rw [add_block]; exact hn174_0) | exact hn174_0) (.int .i64 ((rd_T42 (rd_L2 l0 x15_1) x34_2).f0))).trans hx174_1; replace hx174_2 := (cell_far (p := ⟨gb172, 0, none⟩) (by first | (rw [add_block]; exact hn174_0) | (show (Addr.add _ _).block ≠ _; rw [add_block]; exact hn174_0) | exact hn174_0) (.int .i64 ((rd_T42 (rd_L2 l0 x15_1) x34_2).f0))).trans hx174_2; replace hx174_0 := (cell_far (p := ⟨gb172, 1, none⟩) (by first | (rw [add_block]; exact hn174_1) | (show (Addr.add _ _).block ≠ _; rw [add_block]; exact hn174_1) | exact hn174_1) (.int .i64 ((rd_T42 (rd_L2 l0 x15_1) x34_2).f1))).trans hx174_0; replace hx174_1 := (cell_far (p := ⟨gb172, 1, none⟩) (by first | (rw [add_block]; exact hn174_1) | (show (Addr.add _ _).block ≠ _; rw [add_block]; exact hn174_1) | exact hn174_1) (.int .i64 ((rd_T42 (rd_L2 l0 x15_1) x34_2).f1))).trans hx174_1; replace hx174_2 := (cell_far (p := ⟨gb172, 1, none⟩) (by first | (rw [add_block]; exact hn174_1) | (show (Addr.add _ _).block ≠ _; rw [add_block]; exact hn174_1) | exact hn174_1) (.int .i64 ((rd_T42 (rd_L2 l0 x15_1) x34_2).f1))).trans hx174_2; replace hx174_0 := (cell_far (p := ⟨gb172, 2, none⟩) (by first | (rw [add_block]; exact hn174_2) | (show (Addr.add _ _).block ≠ _; rw [add_block]; exact hn174_2) | exact hn174_2) (.int .i64 ((rd_T42 (rd_L2 l0 x15_1) x34_2).f2))).trans hx174_0; replace hx174_1 := (cell_far (p := ⟨gb172, 2, none⟩) (by first | (rw [add_block]; exact hn174_2) | (show (Addr.add _ _).block ≠ _; rw [add_block]; exact hn174_2) | exact hn174_2) (.int .i64 ((rd_T42 (rd_L2 l0 x15_1) x34_2).f2))).trans hx174_1; replace hx174_2 := (cell_far (p := ⟨gb172, 2, none⟩) (by first | (rw [add_block]; exact hn174_2) | (show (Addr.add _ _).block ≠ _; rw [add_block]; exact hn174_2) | exact hn174_2) (.int .i64 ((rd_T42 (rd_L2 l0 x15_1) x34_2).f2))).trans hx174_2; (try have hy174_0 := fun (n_ : Nat) => (show (((((w16.drewN n_).setCell ⟨gb172, 0, none⟩ (.int .i64 ((rd_T42 (rd_L2 l0 x15_1) x34_2).f0))).setCell ⟨gb172, 1, none⟩ (.int .i64 ((rd_T42 (rd_L2 l0 x15_1) x34_2).f1))).setCell ⟨gb172, 2, none⟩ (.int .i64 ((rd_T42 (rd_L2 l0 x15_1) x34_2).f2)))).cell? _ = some _ from hx174_0)); (try have hy174_1 := fun (n_ : Nat) => (show (((((w16.drewN n_).setCell ⟨gb172, 0, none⟩ (.int .i64 ((rd_T42 (rd_L2 l0 x15_1) x34_2).f0))).setCell ⟨gb172, 1, none⟩ (.int .i64 ((rd_T42 (rd_L2 l0 x15_1) x34_2).f1))).setCell ⟨gb172, 2, none⟩ (.int .i64 ((rd_T42 (rd_L2 l0 x15_1) x34_2).f2)))).cell? _ = some _ from hx174_1)); (try have hy174_2 := fun (n_ : Nat) => (show (((((w16.drewN n_).setCell ⟨gb172, 0, none⟩ (.int .i64 ((rd_T42 (rd_L2 l0 x15_1) x34_2).f0))).setCell ⟨gb172, 1, none⟩ (.int .i64 ((rd_T42 (rd_L2 l0 x15_1) x34_2).f1))).setCell ⟨gb172, 2, none⟩ (.int .i64 ((rd_T42 (rd_L2 l0 x15_1) x34_2).f2)))).cell? _ = some _ from hx174_2)); clear hn174_0; clear hn174_1; clear hn174_2; replace p174 := eq_true p174; replace q174 := eq_true q174)))
                  go_ret
                  exact ⟨by first | rfl | (simp [errW_none, errW_some] <;> rfl) | (simp [*, errW_none, errW_some] <;> rfl), bH HB⟩
                 ·rw [if_neg c15] at H
                  have c15b0 : (!(((rd_T42 (rd_L2 l0 x15_1) x34_2).f0) == ((rd_T42 (rd_L2 l1 x15_1) x34_2).f0)) || (!(((rd_T42 (rd_L2 l0 x15_1) x34_2).f1) == ((rd_T42 (rd_L2 l1 x15_1) x34_2).f1)) || (!(((rd_T42 (rd_L2 l0 x15_1) x34_2).f2) == ((rd_T42 (rd_L2 l1 x15_1) x34_2).f2))))) = false := by simpa using c15
                  clear c15
                  have H' := Aside0.mk H
                  clear H
                  have p171 : 0 ≤ (x34_2 : Int) := of_decide_eq_true (by first | (with_reducible assumption) | assumption)
                  have q171 : x34_2 < ((rd_L2 l0 x15_1).length : Int) := of_decide_eq_true (by first | (with_reducible assumption) | assumption)
                  obtain ⟨ad171, e171, hx171_0, hx171_1, hx171_2⟩ := at_T42 HR170_0.out x34_2 p171 q171
                  cases e171
                  replace hx171_0 := (HB.out.cell (World.block_lt_of_cell? w _ hx171_0)).trans hx171_0
                  replace hx171_1 := (HB.out.cell (World.block_lt_of_cell? w _ hx171_1)).trans hx171_1
                  replace hx171_2 := (HB.out.cell (World.block_lt_of_cell? w _ hx171_2)).trans hx171_2
                  replace p171 := eq_true p171
                  replace q171 := eq_true q171
                  go_wp2_with (first | ((with_reducible refine gate_dst (N := 7) rfl ?_); refine box_event ?hg (N := 7) ?hd (cs := #[.int .i64 0, .int .i64 0, .int .i64 0]) (t := 42) ?hr ?_; (case hd => rfl); (case hg => rfl); (case hr => first | (go_simp; done) | (go_simp; rfl)); intro gb172 hg w18 hbox hb; have n0_ := Aside0.mk (below_step (bH HB) hb); have n1_ := Aside0.mk (hbox); have n2_ := Aside0.mk ((by rw [hg]; exact (below_size (bH HB)) : w.heap.size ≤ gb172)); have n3_ := n2_; clear HB; have HB := n0_; have BK172 := n1_; have GW172 := n2_; have GE172 := n3_; clear n0_ n1_ n2_ n3_; clear hb hbox hg; have hcz19_0 : w18.cell? ⟨gb172, 0, none⟩ = some (.int .i64 0) := (blk_cell BK172.out 0).trans rfl; have hcz19_1 : w18.cell? ⟨gb172, 1, none⟩ = some (.int .i64 0) := (blk_cell BK172.out 1).trans rfl; have hcz19_2 : w18.cell? ⟨gb172, 2, none⟩ = some (.int .i64 0) := (blk_cell BK172.out 2).trans rfl; have hfz19_0 := blk_frozen BK172.out 0; have hfz19_1 := blk_frozen BK172.out 1; have hfz19_2 := blk_frozen BK172.out 2; have p173 : 0 ≤ (x15_1 : Int) := of_decide_eq_true (by first | (with_reducible assumption) | assumption); have q173 : x15_1 < (l1.length : Int) := of_decide_eq_true (by first | (with_reducible assumption) | assumption); obtain ⟨ad173, A173_0, c173_0, e173, hx173_0, hl173_0, hi173_0⟩ := at_L2 HR1.out x15_1 p173 q173; obtain rfl : ad169 = ad173 := (by injection e173); have hn173_0 : ad169.block ≠ gb172 := Nat.ne_of_lt (Nat.lt_of_lt_of_le (by have := World.block_lt_of_cell? _ _ hx173_0; first | rwa [add_block] at this | exact this) GW172.out); have hn173_1 : ad169.block ≠ gb172 := Nat.ne_of_lt (Nat.lt_of_lt_of_le (by have := World.block_lt_of_cell? _ _ hx173_0; first | rwa [add_block] at this | exact this) GW172.out); have hn173_2 : ad169.block ≠ gb172 := Nat.ne_of_lt (Nat.lt_of_lt_of_le (by have := World.block_lt_of_cell? _ _ hx173_0; first | rwa [add_block] at this | exact this) GW172.out); replace hx173_0 := (HB.out.cell (World.block_lt_of_cell? w _ hx173_0)).trans hx173_0; have HR173_0 := Aside0.mk hi173_0; have HC173_0 := Aside0.mk hl173_0; clear hi173_0 hl173_0; replace hx173_0 := (cell_far (p := ⟨gb172, 0, none⟩) (by first | (rw [add_block]; exact hn173_0) | (show (Addr.add _ _).block ≠ _; rw [add_block]; exact hn173_0) | exact hn173_0) (.int .i64 ((rd_T42 (rd_L2 l0 x15_1) x34_2).f0))).trans hx173_0; replace hx173_0 := (cell_far (p := ⟨gb172, 1, none⟩) (by first | (rw [add_block]; exact hn173_1) | (show (Addr.add _ _).block ≠ _; rw [add_block]; exact hn173_1) | exact hn173_1) (.int .i64 ((rd_T42 (rd_L2 l0 x15_1) x34_2).f1))).trans hx173_0; replace hx173_0 := (cell_far (p := ⟨gb172, 2, none⟩) (by first | (rw [add_block]; exact hn173_2) | (show (Addr.add _ _).block ≠ _; rw [add_block]; exact hn173_2) | exact hn173_2) (.int .i64 ((rd_T42 (rd_L2 l0 x15_1) x34_2).f2))).trans hx173_0; (try have hy173_0 := fun (n_ : Nat) => (show (((((w18.drewN n_).setCell ⟨gb172, 0, none⟩ (.int .i64 ((rd_T42 (rd_L2 l0 x15_1) x34_2).f0))).setCell ⟨gb172, 1, none⟩ (.int .i64 ((rd_T42 (rd_L2 l0 x15_1) x34_2).f1))).setCell ⟨gb172, 2, none⟩ (.int .i64 ((rd_T42 (rd_L2 l0 x15_1) x34_2).f2)))).cell? _ = some _ from hx173_0)); clear hn173_0; clear hn173_1; clear hn173_2; replace p173 := eq_true p173; replace q173 := eq_true q173; have p174 : 0 ≤ (x34_2 : Int) := of_decide_eq_true (by first | (with_reducible assumption) | assumption); have q174 : x34_2 < ((rd_L2 l1 x15_1).length : Int) := of_decide_eq_true (by first | (with_reducible assumption) | assumption); obtain ⟨ad174, e174, hx174_0, hx174_1, hx174_2⟩ := at_T42 HR173_0.out x34_2 p174 q174; cases e174; have hn174_0 : ad174.block ≠ gb172 := Nat.ne_of_lt (Nat.lt_of_lt_of_le (by have := World.block_lt_of_cell? _ _ hx174_0; first | rwa [add_block] at this | exact this) GW172.out); have hn174_1 : ad174.block ≠ gb172 := Nat.ne_of_lt (Nat.lt_of_lt_of_le (by have := World.block_lt_of_cell? _ _ hx174_0; first | rwa [add_block] at this | exact this) GW172.out); have hn174_2 : ad174.block ≠ gb172 := Nat.ne_of_lt (Nat.lt_of_lt_of_le (by have := World.block_lt_of_cell? _ _ hx174_0; first | rwa [add_block] at this | exact this) GW172.out); replace hx174_0 := (HB.out.cell (World.block_lt_of_cell? w _ hx174_0)).trans hx174_0; replace hx174_1 := (HB.out.cell (World.block_lt_of_cell? w _ hx174_1)).trans hx174_1; replace hx174_2 := (HB.out.cell (World.block_lt_of_cell? w _ hx174_2)).trans hx174_2; replace hx174_0 := (cell_far (p := ⟨gb172, 0, none⟩) (by first | (rw [add_block]; exact hn174_0) | (show (Addr.add _ _).block ≠ _; rw [add_block]; exact hn174_0) | exact hn174_0) (.int .i64 ((rd_T42 (rd_L2 l0 x15_1) x34_2).f0))).trans hx174_0; replace hx174_1 := (cell_far (p := ⟨gb172, 0, none⟩) (by first | (rw [add_block]; exact hn174_0) | (show (Addr.add _ _).block ≠ _; rw [add_block]; exact hn174_0) | exact hn174_0) (.int .i64 ((rd_T42 (rd_L2 l0 x15_1) x34_2).f0))).trans hx174_1; replace hx174_2 := (cell_far (p := ⟨gb172, 0, none⟩) (by first | (rw [add_block]; exact hn174_0) | (show (Addr.add _ _).block ≠ _; rw [add_block]; exact hn174_0) | exact hn174_0) (.int .i64 ((rd_T42 (rd_L2 l0 x15_1) x34_2).f0))).trans hx174_2; replace hx174_0 := (cell_far (p := ⟨gb172, 1, none⟩) (by first | (rw [add_block]; exact hn174_1) | (show (Addr.add _ _).block ≠ _; rw [add_block]; exact hn174_1) | exact hn174_1) (.int .i64 ((rd_T42 (rd_L2 l0 x15_1) x34_2).f1))).trans hx174_0; replace hx174_1 := (cell_far (p := ⟨gb172, 1, none⟩) (by first | (rw [add_block]; exact hn174_1) | (show (Addr.add _ _).block ≠ _; rw [add_block]; exact hn174_1) | exact hn174_1) (.int .i64 ((rd_T42 (rd_L2 l0 x15_1) x34_2).f1))).trans hx174_1; replace hx174_2 := (cell_far (p := ⟨gb172, 1, none⟩) (by first | (rw [add_block]; exact hn174_1) | (show (Addr.add _ _).block ≠ _; rw [add_block]; exact hn174_1) | exact hn174_1) (.int .i64 ((rd_T42 (rd_L2 l0 x15_1) x34_2).f1))).trans hx174_2; replace hx174_0 := (cell_far (p := ⟨gb172, 2, none⟩) (by first | (rw [add_block]; exact hn174_2) | (show (Addr.add _ _).block ≠ _; rw [add_block]; exact hn174_2) | exact hn174_2) (.int .i64 ((rd_T42 (rd_L2 l0 x15_1) x34_2).f2))).trans hx174_0; replace hx174_1 := (cell_far (p := ⟨gb172, 2, none⟩) (by first | (rw [add_block]; exact hn174_2) | (show (Addr.add _ _).block ≠ _; rw [add_block]; exact hn174_2) | exact hn174_2) (.int .i64 ((rd_T42 (rd_L2 l0 x15_1) x34_2).f2))).trans hx174_1; replace hx174_2 := (cell_far (p := ⟨gb172, 2, none⟩) (by first | (rw [add_block]; exact hn174_2) | (show (Addr.add _ _).block ≠ _; rw [add_block]; exact hn174_2) | exact hn174_2) (.int .i64 ((rd_T42 (rd_L2 l0 x15_1) x34_2).f2))).trans hx174_2; (try have hy174_0 := fun (n_ : Nat) => (show (((((w18.drewN n_).setCell ⟨gb172, 0, none⟩ (.int .i64 ((rd_T42 (rd_L2 l0 x15_1) x34_2).f0))).setCell ⟨gb172, 1, none⟩ (.int .i64 ((rd_T42 (rd_L2 l0 x15_1) x34_2).f1))).setCell ⟨gb172, 2, none⟩ (.int .i64 ((rd_T42 (rd_L2 l0 x15_1) x34_2).f2)))).cell? _ = some _ from hx174_0)); (try have hy174_1 := fun (n_ : Nat) => (show (((((w18.drewN n_).setCell ⟨gb172, 0, none⟩ (.int .i64 ((rd_T42 (rd_L2 l0 x15_1) x34_2).f0))).setCell ⟨gb172, 1, none⟩ (.int .i64 ((rd_T42 (rd_L2 l0 x15_1) x34_2).f1))).setCell ⟨gb172, 2, none⟩ (.int .i64 ((rd_T42 (rd_L2 l0 x15_1) x34_2).f2)))).cell? _ = some _ from hx174_1)); (try have hy174_2 := fun (n_ : Nat) => (show (((((w18.drewN n_).setCell ⟨gb172, 0, none⟩ (.int .i64 ((rd_T42 (rd_L2 l0 x15_1) x34_2).f0))).setCell ⟨gb172, 1, none⟩ (.int .i64 ((rd_T42 (rd_L2 l0 x15_1) x34_2).f1))).setCell ⟨gb172, 2, none⟩ (.int .i64 ((rd_T42 (rd_L2 l0 x15_1) x34_2).f2)))).cell? _ = some _ from hx174_2)); clear hn174_0; clear hn174_1; clear hn174_2; replace p174 := eq_true p174; replace q174 := eq_true q174))
                  repeat (go_quiet (first | ((with_reducible refine gate_dst (N := 7) rfl ?_); refine box_event ?hg (N := 7) ?hd (cs := #[.int .i64 0, .int .i64 0, .int .i64 0]) (t := 42) ?hr ?_; (case hd => rfl); (case hg => rfl); (case hr => first | (go_simp; done) | (go_simp; rfl)); intro gb172 hg w18 hbox hb; have n0_ := Aside0.mk (below_step (bH HB) hb); have n1_ := Aside0.mk (hbox); have n2_ := Aside0.mk ((by rw [hg]; exact (below_size (bH HB)) : w.heap.size ≤ gb172)); have n3_ := n2_; clear HB; have HB := n0_; have BK172 := n1_; have GW172 := n2_; have GE172 := n3_; clear n0_ n1_ n2_ n3_; clear hb hbox hg; have hcz19_0 : w18.cell? ⟨gb172, 0, none⟩ = some (.int .i64 0) := (blk_cell BK172.out 0).trans rfl; have hcz19_1 : w18.cell? ⟨gb172, 1, none⟩ = some (.int .i64 0) := (blk_cell BK172.out 1).trans rfl; have hcz19_2 : w18.cell? ⟨gb172, 2, none⟩ = some (.int .i64 0) := (blk_cell BK172.out 2).trans rfl; have hfz19_0 := blk_frozen BK172.out 0; have hfz19_1 := blk_frozen BK172.out 1; have hfz19_2 := blk_frozen BK172.out 2; have p173 : 0 ≤ (x15_1 : Int) := of_decide_eq_true (by first | (with_reducible assumption) | assumption); have q173 : x15_1 < (l1.length : Int) := of_decide_eq_true (by first | (with_reducible assumption) | assumption); obtain ⟨ad173, A173_0, c173_0, e173, hx173_0, hl173_0, hi173_0⟩ := at_L2 HR1.out x15_1 p173 q173; obtain rfl : ad169 = ad173 := (by injection e173); have hn173_0 : ad169.block ≠ gb172 := Nat.ne_of_lt (Nat.lt_of_lt_of_le (by have := World.block_lt_of_cell? _ _ hx173_0; first | rwa [add_block] at this | exact this) GW172.out); have hn173_1 : ad169.block ≠ gb172 := Nat.ne_of_lt (Nat.lt_of_lt_of_le (by have := World.block_lt_of_cell? _ _ hx173_0; first | rwa [add_block] at this | exact this) GW172.out); have hn173_2 : ad169.block ≠ gb172 := Nat.ne_of_lt (Nat.lt_of_lt_of_le (by have := World.block_lt_of_cell? _ _ hx173_0; first | rwa [add_block] at this | exact this) GW172.out); replace hx173_0 := (HB.out.cell (World.block_lt_of_cell? w _ hx173_0)).trans hx173_0; have HR173_0 := Aside0.mk hi173_0; have HC173_0 := Aside0.mk hl173_0; clear hi173_0 hl173_0; replace hx173_0 := (cell_far (p := ⟨gb172, 0, none⟩) (by first | (rw [add_block]; exact hn173_0) | (show (Addr.add _ _).block ≠ _; rw [add_block]; exact hn173_0) | exact hn173_0) (.int .i64 ((rd_T42 (rd_L2 l0 x15_1) x34_2).f0))).trans hx173_0; replace hx173_0 := (cell_far (p := ⟨gb172, 1, none⟩) (by first | (rw [add_block]; exact hn173_1) | (show (Addr.add _ _).block ≠ _; rw [add_block]; exact hn173_1) | exact hn173_1) (.int .i64 ((rd_T42 (rd_L2 l0 x15_1) x34_2).f1))).trans hx173_0; replace hx173_0 := (cell_far (p := ⟨gb172, 2, none⟩) (by first | (rw [add_block]; exact hn173_2) | (show (Addr.add _ _).block ≠ _; rw [add_block]; exact hn173_2) | exact hn173_2) (.int .i64 ((rd_T42 (rd_L2 l0 x15_1) x34_2).f2))).trans hx173_0; (try have hy173_0 := fun (n_ : Nat) => (show (((((w18.drewN n_).setCell ⟨gb172, 0, none⟩ (.int .i64 ((rd_T42 (rd_L2 l0 x15_1) x34_2).f0))).setCell ⟨gb172, 1, none⟩ (.int .i64 ((rd_T42 (rd_L2 l0 x15_1) x34_2).f1))).setCell ⟨gb172, 2, none⟩ (.int .i64 ((rd_T42 (rd_L2 l0 x15_1) x34_2).f2)))).cell? _ = some _ from hx173_0)); clear hn173_0; clear hn173_1; clear hn173_2; replace p173 := eq_true p173; replace q173 := eq_true q173; have p174 : 0 ≤ (x34_2 : Int) := of_decide_eq_true (by first | (with_reducible assumption) | assumption); have q174 : x34_2 < ((rd_L2 l1 x15_1).length : Int) := of_decide_eq_true (by first | (with_reducible assumption) | assumption); obtain ⟨ad174, e174, hx174_0, hx174_1, hx174_2⟩ := at_T42 HR173_0.out x34_2 p174 q174; cases e174; have hn174_0 : ad174.block ≠ gb172 := Nat.ne_of_lt (Nat.lt_of_lt_of_le (by have := World.block_lt_of_cell? _ _ hx174_0; first | rwa [add_block] at this | exact this) GW172.out); have hn174_1 : ad174.block ≠ gb172 := Nat.ne_of_lt (Nat.lt_of_lt_of_le (by have := World.block_lt_of_cell? _ _ hx174_0; first | rwa [add_block] at this | exact this) GW172.out); have hn174_2 : ad174.block ≠ gb172 := Nat.ne_of_lt (Nat.lt_of_lt_of_le (by have := World.block_lt_of_cell? _ _ hx174_0; first | rwa [add_block] at this | exact this) GW172.out); replace hx174_0 := (HB.out.cell (World.block_lt_of_cell? w _ hx174_0)).trans hx174_0; replace hx174_1 := (HB.out.cell (World.block_lt_of_cell? w _ hx174_1)).trans hx174_1; replace hx174_2 := (HB.out.cell (World.block_lt_of_cell? w _ hx174_2)).trans hx174_2; replace hx174_0 := (cell_far (p := ⟨gb172, 0, none⟩) (by first | (rw [add_block]; exact hn174_0) | (show (Addr.add _ _).block ≠ _; rw [add_block]; exact hn174_0) | exact hn174_0) (.int .i64 ((rd_T42 (rd_L2 l0 x15_1) x34_2).f0))).trans hx174_0; replace hx174_1 := (cell_far (p := ⟨gb172, 0, none⟩) (by first | (rw [add_block]; exact hn174_0) | (show (Addr.add _ _).block ≠ _; rw [add_block]; exact hn174_0) | exact hn174_0) (.int .i64 ((rd_T42 (rd_L2 l0 x15_1) x34_2).f0))).trans hx174_1; replace hx174_2 := (cell_far (p := ⟨gb172, 0, none⟩) (by first | (rw [add_block]; exact hn174_0) | (show (Addr.add _ _).block ≠ _; rw [add_block]; exact hn174_0) | exact hn174_0) (.int .i64 ((rd_T42 (rd_L2 l0 x15_1) x34_2).f0))).trans hx174_2; replace hx174_0 := (cell_far (p := ⟨gb172, 1, none⟩) (by first | (rw [add_block]; exact hn174_1) | (show (Addr.add _ _).block ≠ _; rw [add_block]; exact hn174_1) | exact hn174_1) (.int .i64 ((rd_T42 (rd_L2 l0 x15_1) x34_2).f1))).trans hx174_0; replace hx174_1 := (cell_far (p := ⟨gb172, 1, none⟩) (by first | (rw [add_block]; exact hn174_1) | (show (Addr.add _ _).block ≠ _; rw [add_block]; exact hn174_1) | exact hn174_1) (.int .i64 ((rd_T42 (rd_L2 l0 x15_1) x34_2).f1))).trans hx174_1; replace hx174_2 := (cell_far (p := ⟨gb172, 1, none⟩) (by first | (rw [add_block]; exact hn174_1) | (show (Addr.add _ _).block ≠ _; rw [add_block]; exact hn174_1) | exact hn174_1) (.int .i64 ((rd_T42 (rd_L2 l0 x15_1) x34_2).f1))).trans hx174_2; replace hx174_0 := (cell_far (p := ⟨gb172, 2, none⟩) (by first | (rw [add_block]; exact hn174_2) | (show (Addr.add _ _).block ≠ _; rw [add_block]; exact hn174_2) | exact hn174_2) (.int .i64 ((rd_T42 (rd_L2 l0 x15_1) x34_2).f2))).trans hx174_0; replace hx174_1 := (cell_far (p := ⟨gb172, 2, none⟩) (by first | (rw [add_block]; exact hn174_2) | (show (Addr.add _ _).block ≠ _; rw [add_block]; exact hn174_2) | exact hn174_2) (.int .i64 ((rd_T42 (rd_L2 l0 x15_1) x34_2).f2))).trans hx174_1; replace hx174_2 := (cell_far (p := ⟨gb172, 2, none⟩) (by first | (rw [add_block]; exact hn174_2) | (show (Addr.add _ _).block ≠ _; rw [add_block]; exact hn174_2) | exact hn174_2) (.int .i64 ((rd_T42 (rd_L2 l0 x15_1) x34_2).f2))).trans hx174_2; (try have hy174_0 := fun (n_ : Nat) => (show (((((w18.drewN n_).setCell ⟨gb172, 0, none⟩ (.int .i64 ((rd_T42 (rd_L2 l0 x15_1) x34_2).f0))).setCell ⟨gb172, 1, none⟩ (.int .i64 ((rd_T42 (rd_L2 l0 x15_1) x34_2).f1))).setCell ⟨gb172, 2, none⟩ (.int .i64 ((rd_T42 (rd_L2 l0 x15_1) x34_2).f2)))).cell? _ = some _ from hx174_0)); (try have hy174_1 := fun (n_ : Nat) => (show (((((w18.drewN n_).setCell ⟨gb172, 0, none⟩ (.int .i64 ((rd_T42 (rd_L2 l0 x15_1) x34_2).f0))).setCell ⟨gb172, 1, none⟩ (.int .i64 ((rd_T42 (rd_L2 l0 x15_1) x34_2).f1))).setCell ⟨gb172, 2, none⟩ (.int .i64 ((rd_T42 (rd_L2 l0 x15_1) x34_2).f2)))).cell? _ = some _ from hx174_1)); (try have hy174_2 := fun (n_ : Nat) => (show (((((w18.drewN n_).setCell ⟨gb172, 0, none⟩ (.int .i64 ((rd_T42 (rd_L2 l0 x15_1) x34_2).f0))).setCell ⟨gb172, 1, none⟩ (.int .i64 ((rd_T42 (rd_L2 l0 x15_1) x34_2).f1))).setCell ⟨gb172, 2, none⟩ (.int .i64 ((rd_T42 (rd_L2 l0 x15_1) x34_2).f2)))).cell? _ = some _ from hx174_2)); clear hn174_0; clear hn174_1; clear hn174_2; replace p174 := eq_true p174; replace q174 := eq_true q174)); try go_wp2_with (first | ((with_reducible refine gate_dst (N := 7) rfl ?_); refine box_event ?hg (N := 7) ?hd (cs := #[.int .i64 0, .int .i64 0, .int .i64 0]) (t := 42) ?hr ?_; (case hd => rfl); (case hg => rfl); (case hr => first | (go_simp; done) | (go_simp; rfl)); intro gb172 hg w18 hbox hb; have n0_ := Aside0.mk (below_step (bH HB) hb); have n1_ := Aside0.mk (hbox); have n2_ := Aside0.mk ((by rw [hg]; exact (below_size (bH HB)) : w.heap.size ≤ gb172)); have n3_ := n2_; clear HB; have HB := n0_; have BK172 := n1_; have GW172 := n2_; have GE172 := n3_; clear n0_ n1_ n2_ n3_; clear hb hbox hg; have hcz19_0 : w18.cell? ⟨gb172, 0, none⟩ = some (.int .i64 0) := (blk_cell BK172.out 0).trans rfl; have hcz19_1 : w18.cell? ⟨gb172, 1, none⟩ = some (.int .i64 0) := (blk_cell BK172.out 1).trans rfl; have hcz19_2 : w18.cell? ⟨gb172, 2, none⟩ = some (.int .i64 0) := (blk_cell BK172.out 2).trans rfl; have hfz19_0 := blk_frozen BK172.out 0; have hfz19_1 := blk_frozen BK172.out 1; have hfz19_2 := blk_frozen BK172.out 2; have p173 : 0 ≤ (x15_1 : Int) := of_decide_eq_true (by first | (with_reducible assumption) | assumption); have q173 : x15_1 < (l1.length : Int) := of_decide_eq_true (by first | (with_reducible assumption) | assumption); obtain ⟨ad173, A173_0, c173_0, e173, hx173_0, hl173_0, hi173_0⟩ := at_L2 HR1.out x15_1 p173 q173; obtain rfl : ad169 = ad173 := (by injection e173); have hn173_0 : ad169.block ≠ gb172 := Nat.ne_of_lt (Nat.lt_of_lt_of_le (by have := World.block_lt_of_cell? _ _ hx173_0; first | rwa [add_block] at this | exact this) GW172.out); have hn173_1 : ad169.block ≠ gb172 := Nat.ne_of_lt (Nat.lt_of_lt_of_le (by have := World.block_lt_of_cell? _ _ hx173_0; first | rwa [add_block] at this | exact this) GW172.out); have hn173_2 : ad169.block ≠ gb172 := Nat.ne_of_lt (Nat.lt_of_lt_of_le (by have := World.block_lt_of_cell? _ _ hx173_0; first | rwa [add_block] at this | exact this) GW172.out); replace hx173_0 := (HB.out.cell (World.block_lt_of_cell? w _ hx173_0)).trans hx173_0; have HR173_0 := Aside0.mk hi173_0; have HC173_0 := Aside0.mk hl173_0; clear hi173_0 hl173_0; replace hx173_0 := (cell_far (p := ⟨gb172, 0, none⟩) (by first | (rw [add_block]; exact hn173_0) | (show (Addr.add _ _).block ≠ _; rw [add_block]; exact hn173_0) | exact hn173_0) (.int .i64 ((rd_T42 (rd_L2 l0 x15_1) x34_2).f0))).trans hx173_0; replace hx173_0 := (cell_far (p := ⟨gb172, 1, none⟩) (by first | (rw [add_block]; exact hn173_1) | (show (Addr.add _ _).block ≠ _; rw [add_block]; exact hn173_1) | exact hn173_1) (.int .i64 ((rd_T42 (rd_L2 l0 x15_1) x34_2).f1))).trans hx173_0; replace hx173_0 := (cell_far (p := ⟨gb172, 2, none⟩) (by first | (rw [add_block]; exact hn173_2) | (show (Addr.add _ _).block ≠ _; rw [add_block]; exact hn173_2) | exact hn173_2) (.int .i64 ((rd_T42 (rd_L2 l0 x15_1) x34_2).f2))).trans hx173_0; (try have hy173_0 := fun (n_ : Nat) => (show (((((w18.drewN n_).setCell ⟨gb172, 0, none⟩ (.int .i64 ((rd_T42 (rd_L2 l0 x15_1) x34_2).f0))).setCell ⟨gb172, 1, none⟩ (.int .i64 ((rd_T42 (rd_L2 l0 x15_1) x34_2).f1))).setCell ⟨gb172, 2, none⟩ (.int .i64 ((rd_T42 (rd_L2 l0 x15_1) x34_2).f2)))).cell? _ = some _ from hx173_0)); clear hn173_0; clear hn173_1; clear hn173_2; replace p173 := eq_true p173; replace q173 := eq_true q173; have p174 : 0 ≤ (x34_2 : Int) := of_decide_eq_true (by first | (with_reducible assumption) | assumption); have q174 : x34_2 < ((rd_L2 l1 x15_1).length : Int) := of_decide_eq_true (by first | (with_reducible assumption) | assumption); obtain ⟨ad174, e174, hx174_0, hx174_1, hx174_2⟩ := at_T42 HR173_0.out x34_2 p174 q174; cases e174; have hn174_0 : ad174.block ≠ gb172 := Nat.ne_of_lt (Nat.lt_of_lt_of_le (by have := World.block_lt_of_cell? _ _ hx174_0; first | rwa [add_block] at this | exact this) GW172.out); have hn174_1 : ad174.block ≠ gb172 := Nat.ne_of_lt (Nat.lt_of_lt_of_le (by have := World.block_lt_of_cell? _ _ hx174_0; first | rwa [add_block] at this | exact this) GW172.out); have hn174_2 : ad174.block ≠ gb172 := Nat.ne_of_lt (Nat.lt_of_lt_of_le (by have := World.block_lt_of_cell? _ _ hx174_0; first | rwa [add_block] at this | exact this) GW172.out); replace hx174_0 := (HB.out.cell (World.block_lt_of_cell? w _ hx174_0)).trans hx174_0; replace hx174_1 := (HB.out.cell (World.block_lt_of_cell? w _ hx174_1)).trans hx174_1; replace hx174_2 := (HB.out.cell (World.block_lt_of_cell? w _ hx174_2)).trans hx174_2; replace hx174_0 := (cell_far (p := ⟨gb172, 0, none⟩) (by first | (rw [add_block]; exact hn174_0) | (show (Addr.add _ _).block ≠ _; rw [add_block]; exact hn174_0) | exact hn174_0) (.int .i64 ((rd_T42 (rd_L2 l0 x15_1) x34_2).f0))).trans hx174_0; replace hx174_1 := (cell_far (p := ⟨gb172, 0, none⟩) (by first | (rw [add_block]; exact hn174_0) | (show (Addr.add _ _).block ≠ _; rw [add_block]; exact hn174_0) | exact hn174_0) (.int .i64 ((rd_T42 (rd_L2 l0 x15_1) x34_2).f0))).trans hx174_1; replace hx174_2 := (cell_far (p := ⟨gb172, 0, none⟩) (by first | (rw [add_block]; exact hn174_0) | (show (Addr.add _ _).block ≠ _; rw [add_block]; exact hn174_0) | exact hn174_0) (.int .i64 ((rd_T42 (rd_L2 l0 x15_1) x34_2).f0))).trans hx174_2; replace hx174_0 := (cell_far (p := ⟨gb172, 1, none⟩) (by first | (rw [add_block]; exact hn174_1) | (show (Addr.add _ _).block ≠ _; rw [add_block]; exact hn174_1) | exact hn174_1) (.int .i64 ((rd_T42 (rd_L2 l0 x15_1) x34_2).f1))).trans hx174_0; replace hx174_1 := (cell_far (p := ⟨gb172, 1, none⟩) (by first | (rw [add_block]; exact hn174_1) | (show (Addr.add _ _).block ≠ _; rw [add_block]; exact hn174_1) | exact hn174_1) (.int .i64 ((rd_T42 (rd_L2 l0 x15_1) x34_2).f1))).trans hx174_1; replace hx174_2 := (cell_far (p := ⟨gb172, 1, none⟩) (by first | (rw [add_block]; exact hn174_1) | (show (Addr.add _ _).block ≠ _; rw [add_block]; exact hn174_1) | exact hn174_1) (.int .i64 ((rd_T42 (rd_L2 l0 x15_1) x34_2).f1))).trans hx174_2; replace hx174_0 := (cell_far (p := ⟨gb172, 2, none⟩) (by first | (rw [add_block]; exact hn174_2) | (show (Addr.add _ _).block ≠ _; rw [add_block]; exact hn174_2) | exact hn174_2) (.int .i64 ((rd_T42 (rd_L2 l0 x15_1) x34_2).f2))).trans hx174_0; replace hx174_1 := (cell_far (p := ⟨gb172, 2, none⟩) (by first | (rw [add_block]; exact hn174_2) | (show (Addr.add _ _).block ≠ _; rw [add_block]; exact hn174_2) | exact hn174_2) (.int .i64 ((rd_T42 (rd_L2 l0 x15_1) x34_2).f2))).trans hx174_1; replace hx174_2 := (cell_far (p := ⟨gb172, 2, none⟩) (by first | (rw [add_block]; exact hn174_2) | (show (Addr.add _ _).block ≠ _; rw [add_block]; exact hn174_2) | exact hn174_2) (.int .i64 ((rd_T42 (rd_L2 l0 x15_1) x34_2).f2))).trans hx174_2; (try have hy174_0 := fun (n_ : Nat) => (show (((((w18.drewN n_).setCell ⟨gb172, 0, none⟩ (.int .i64 ((rd_T42 (rd_L2 l0 x15_1) x34_2).f0))).setCell ⟨gb172, 1, none⟩ (.int .i64 ((rd_T42 (rd_L2 l0 x15_1) x34_2).f1))).setCell ⟨gb172, 2, none⟩ (.int .i64 ((rd_T42 (rd_L2 l0 x15_1) x34_2).f2)))).cell? _ = some _ from hx174_0)); (try have hy174_1 := fun (n_ : Nat) => (show (((((w18.drewN n_).setCell ⟨gb172, 0, none⟩ (.int .i64 ((rd_T42 (rd_L2 l0 x15_1) x34_2).f0))).setCell ⟨gb172, 1, none⟩ (.int .i64 ((rd_T42 (rd_L2 l0 x15_1) x34_2).f1))).setCell ⟨gb172, 2, none⟩ (.int .i64 ((rd_T42 (rd_L2 l0 x15_1) x34_2).f2)))).cell? _ = some _ from hx174_1)); (try have hy174_2 := fun (n_ : Nat) => (show (((((w18.drewN n_).setCell ⟨gb172, 0, none⟩ (.int .i64 ((rd_T42 (rd_L2 l0 x15_1) x34_2).f0))).setCell ⟨gb172, 1, none⟩ (.int .i64 ((rd_T42 (rd_L2 l0 x15_1) x34_2).f1))).setCell ⟨gb172, 2, none⟩ (.int .i64 ((rd_T42 (rd_L2 l0 x15_1) x34_2).f2)))).cell? _ = some _ from hx174_2)); clear hn174_0; clear hn174_1; clear hn174_2; replace p174 := eq_true p174; replace q174 := eq_true q174)))
                  go_roundg k2
                  case measure => have := HK1.out; have := HK2.out; omega
                  case rel => exact ⟨(wrap64 (x34_2 + 1)), (by first | rfl | (simp; done) | (simp [*]; done)), H', ⟨by have := HK1.out; have := HK2.out; omega⟩, ⟨ bH HB⟩⟩
                ·rw [if_neg c14] at H
                 exact absurd H (by simp)
               ·rw [if_neg c13] at H
                exact absurd H (by simp)
              ·rw [if_neg c12] at H
               exact absurd H (by simp)
             ·rw [if_neg c11] at H
              exact absurd H (by simp)
            ·rw [if_neg c10] at H
             exact absurd H (by simp)
           ·rw [if_neg c9] at H
            have c9b0 : decide (x34_2 < ((rd_L2 l0 x15_1).length : Int)) = false := decide_eq_false c9
            clear c9
            have H' := Aside0.mk H
            clear H
            go_wp2
            repeat (go_quiet (fail); try go_wp2)
            go_roundg k2
            case measure => have := HK1.out; have := HK2.out; omega
            case rel => exact ⟨(wrap64 (x15_1 + 1)), (by first | rfl | (simp; done) | (simp [*]; done)), H', ⟨by have := HK1.out; have := HK2.out; omega⟩, ⟨ bH HB⟩⟩
        ·rw [if_neg c8] at H
         have c8b0 : (((rd_L2 l0 x15_1).length : Int) == ((rd_L2 l1 x15_1).length : Int)) = false := beq_eq_false_iff_ne.mpr c8
         have c8b1 : (((rd_L2 l0 x15_1).length : Int) != ((rd_L2 l1 x15_1).length : Int)) = true := bne_iff_ne.mpr c8
         have c8b2 : ((rd_L2 l0 x15_1).length == (rd_L2 l1 x15_1).length) = false := by first | simpa using c8 | (simp at c8 ⊢; omega)
         obtain rfl := Option.some.inj H
         have p168 : 0 ≤ (x15_1 : Int) := of_decide_eq_true (by first | (with_reducible assumption) | assumption)
         have q168 : x15_1 < (l0.length : Int) := of_decide_eq_true (by first | (with_reducible assumption) | assumption)
         obtain ⟨ad168, A168_0, c168_0, e168, hx168_0, hl168_0, hi168_0⟩ := at_L2 HR0.out x15_1 p168 q168
         cases e168
         replace hx168_0 := (HB.out.cell (World.block_lt_of_cell? w _ hx168_0)).trans hx168_0
         have HR168_0 := Aside0.mk hi168_0
         have HC168_0 := Aside0.mk hl168_0
         clear hi168_0 hl168_0
         replace p168 := eq_true p168
         replace q168 := eq_true q168
         have p169 : 0 ≤ (x15_1 : Int) := of_decide_eq_true (by first | (with_reducible assumption) | assumption)
         have q169 : x15_1 < (l1.length : Int) := of_decide_eq_true (by first | (with_reducible assumption) | assumption)
         obtain ⟨ad169, A169_0, c169_0, e169, hx169_0, hl169_0, hi169_0⟩ := at_L2 HR1.out x15_1 p169 q169
         cases e169
         replace hx169_0 := (HB.out.cell (World.block_lt_of_cell? w _ hx169_0)).trans hx169_0
         have HR169_0 := Aside0.mk hi169_0
         have HC169_0 := Aside0.mk hl169_0
         clear hi169_0 hl169_0
         replace p169 := eq_true p169
         replace q169 := eq_true q169
         go_wp2
         repeat (go_quiet (fail); try go_wp2)
         go_ret
         exact ⟨by first | rfl | (simp [errW_none, errW_some] <;> rfl) | (simp [*, errW_none, errW_some] <;> rfl), bH HB⟩
       ·rw [if_neg c7] at H
        exact absurd H (by simp)
      ·rw [if_neg c6] at H
       exact absurd H (by simp)
     ·rw [if_neg c5] at H
      exact absurd H (by simp)
    ·rw [if_neg c4] at H
     have c4b0 : decide (x15_1 < (l0.length : Int)) = false := decide_eq_false c4
     clear c4
     obtain rfl := Option.some.inj H
     go_wp2
     repeat (go_quiet (fail); try go_wp2)
     go_ret
     exact ⟨by first | rfl | (simp [errW_none, errW_some] <;> rfl) | (simp [*, errW_none, errW_some] <;> rfl), bH HB⟩
 ·rw [if_neg c3] at H
  have c3b0 : ((l0.length : Int) == (l1.length : Int)) = false := beq_eq_false_iff_ne.mpr c3
  have c3b1 : ((l0.length : Int) != (l1.length : Int)) = true := bne_iff_ne.mpr c3
  have c3b2 : (l0.length == l1.length) = false := by first | simpa using c3 | (simp at c3 ⊢; omega)
  obtain rfl := Option.some.inj H
  go_enter Try.func24, Try.ntmps24
  go_wp2
  repeat (go_quiet (fail); try go_wp2)
  go_ret
  exact ⟨by first | rfl | (simp [errW_none, errW_some] <;> rfl) | (simp [*, errW_none, errW_some] <;> rfl), bH HB⟩

end Go.Proofs.Ytfbkjgedaadlmaa.P
