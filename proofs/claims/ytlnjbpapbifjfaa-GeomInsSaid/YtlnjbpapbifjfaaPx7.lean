/- Written for this claim by a program of this session (a turned copy of the print): Go functions as Lean functions, and that the Go code comes to just these answers; or a statement proved out of them. No condition. -/
import Derived.Test.YtlnjbpapbifjfaaPx0
import Derived.Test.YtlnjbpapbifjfaaPx2
namespace Go.Proofs.Ytlnjbpapbifjfaa.P
open Go.RowKit Go.Proofs.YtlnjbpapbifjfaaW.PrintWords Go.Proofs.YtlnjbpapbifjfaaW.PrintLast Go.Proofs.YtlnjbpapbifjfaaW.PrintMore Go.Proofs.Ytlnjbpapbifjfaa.X
attribute [local go_sem] max2_int min2_int max_two min_two max_three min_three max_four min_four add64_0 add64_1 add64   -- for this text's walks alone
set_option linter.unusedVariables false
set_option linter.unusedSimpArgs false

attribute [local go_sem high] eqA31
/-! ### wide_Add: function 33 -/
def wide_Add.l0 : Nat → List (S31) → Int → Int → Int → Int → Option (Int × Int)
 | 0, _, _, _, _, _ => none
 | k + 1, x11, x12, x13, x108000, x108001 => if x13 < x12 then (if 0 ≤ x13 then (if x13 < (x11.length : Int) then (if (((rd_T31 x11 x13).f0) == 0 && (((rd_T31 x11 x13).f1) == 0)) = true then (wide_Add.l0 k x11 x12 (wrap64 (x13 + 1)) x108000 x108001) else (if (a64hi x108001 ((rd_T31 x11 x13).f1) 0) ≤ 1 then (wide_Add.l0 k x11 x12 (wrap64 (x13 + 1)) (wrap64 (a64lo (IntKind.u64.wrap (x108000)) (IntKind.u64.wrap ((rd_T31 x11 x13).f0)) (a64hi x108001 ((rd_T31 x11 x13).f1) 0))) (a64lo x108001 ((rd_T31 x11 x13).f1) 0)) else (none))) else (none)) else (none)) else (some (x108000, x108001))
def wide_Add.f (k : Nat) (a0_0 : Int) (a0_1 : Int) (l1 : List (S31)) : Option (Int × Int) := wide_Add.l0 k l1 (l1.length : Int) 0 a0_0 a0_1
theorem wide_Add.mono_l : ∀ k, (∀ y0 y1 y2 y3 y4, LeO (wide_Add.l0 k y0 y1 y2 y3 y4) (wide_Add.l0 (k + 1) y0 y1 y2 y3 y4))
 | 0 => fun _ _ _ _ _ r h => by simp [wide_Add.l0] at h
 | k + 1 => by
  have ih0 := wide_Add.mono_l k
  ·intro y0 y1 y2 y3 y4
   unfold wide_Add.l0
   repeat' first
   | (with_reducible exact ih0 _ _ _ _ _)
   | (with_reducible exact LeO.refl _)
   | (with_reducible exact LeO.none _)
   | (with_reducible refine LeO.ite ?_ ?_)
   | (with_reducible refine LeO.bind ?_ (fun _ => ?_))
   | exact ih0 _ _ _ _ _
   | exact LeO.none _
   | refine LeO.ite ?_ ?_
   | refine LeO.bind ?_ (fun _ => ?_)
theorem wide_Add.mono : ∀ a0 a1 a2 k, LeO (wide_Add.f k a0 a1 a2) (wide_Add.f (k + 1) a0 a1 a2) := by
 intro a0 a1 a2 k
 have ih0 := wide_Add.mono_l k
 unfold wide_Add.f
 repeat' first
   | (with_reducible exact ih0 _ _ _ _ _)
   | (with_reducible exact LeO.refl _)
   | (with_reducible exact LeO.none _)
   | (with_reducible refine LeO.ite ?_ ?_)
   | (with_reducible refine LeO.bind ?_ (fun _ => ?_))
   | exact ih0 _ _ _ _ _
   | exact LeO.none _
   | refine LeO.ite ?_ ?_
   | refine LeO.bind ?_ (fun _ => ?_)
set_option maxHeartbeats 8000000 in
set_option maxRecDepth 100000 in
theorem wide_Add.calls (k : Nat) (a0_0 : Int) (a0_1 : Int) (A1 : Option Addr) (c1 : Nat) (l1 : List (S31)) (r1 : Int) (r2 : Int) (w : World) (hr1 : Kd.C k31 w A1 l1.length l1) (hc1 : l1.length ≤ c1) (h : wide_Add.f k a0_0 a0_1 l1 = some (r1, r2)) :
  Calls Try.prog 33 #[.agg #[.int .i64 a0_0, .int .u64 a0_1], .slice A1 l1.length c1] w fun e w' => e = .returned (.agg #[.int .i64 r1, .int .u64 r2]) ∧ Below w.heap.size w w' := by
 have hu31 := Try.underlying31
 have HR1 := Aside0.mk hr1
 have HC1 := Aside0.mk hc1
 clear hr1 hc1
 have HB := Aside0.mk (Below.refl w.heap.size w)
 have H : (wide_Add.l0 k l1 (l1.length : Int) 0 a0_0 a0_1) = some (r1, r2) := h
 clear h
 have H' := Aside0.mk H
 clear H
 go_enter Try.func33, Try.ntmps33
 go_wp2_with (first | go_step3 | ((with_reducible refine gate_dst (N := 2) rfl ?_); refine box_event ?hg (N := 2) ?hd (cs := #[.int .i64 a0_0, .int .u64 a0_1]) (t := 31) ?hr ?_; (case hd => rfl); (case hg => rfl); (case hr => first | (go_simp; done) | (go_simp; rfl)); intro gb107 hg w3 hbox hb; have n0_ := Aside0.mk (below_step (bH HB) hb); have n1_ := Aside0.mk (hbox); have n2_ := Aside0.mk ((by rw [hg]; exact (below_size (bH HB)) : w.heap.size ≤ gb107)); have n3_ := n2_; clear HB; have HB := n0_; have BK107 := n1_; have GW107 := n2_; have GE107 := n3_; clear n0_ n1_ n2_ n3_; clear hb hbox hg) | ((with_reducible refine gate_dst (N := 4) rfl ?_); refine box_event ?hg (N := 4) ?hd (cs := #[.int .i64 0, .int .u64 0]) (t := 31) ?hr ?_; (case hd => rfl); (case hg => rfl); (case hr => first | (go_simp; done) | (go_simp; rfl)); intro gb108 hg w4 hbox hb; have n0_ := Aside0.mk (blk_below (g := gb107) (o := .cells #[.int .i64 a0_0, .int .u64 a0_1] 31 (0, 0)) (bK BK107) hb); have n1_ := Aside0.mk (below_step (bH HB) hb); have n2_ := Aside0.mk (hbox); have n3_ := Aside0.mk ((by rw [hg]; exact (below_size (bH HB)) : w.heap.size ≤ gb108)); have n4_ := n3_; have n5_ := Aside0.mk ((by rw [hg]; exact Nat.ne_of_lt (blk_lt (bK BK107)) : gb107 ≠ gb108)); have n6_ := Aside0.mk ((by rw [hg]; exact Nat.ne_of_gt (blk_lt (bK BK107)) : gb108 ≠ gb107)); clear BK107; clear HB; have BK107 := n0_; have HB := n1_; have BK108 := n2_; have GW108 := n3_; have GE108 := n4_; have NB107_108 := n5_; have NB108_107 := n6_; clear n0_ n1_ n2_ n3_ n4_ n5_ n6_; clear hb hbox hg))
 go_loopg [13] k (fun kq v13 w' => ∃ (x13_1 : Int) (x108000_1 : Int) (x108001_1 : Int), v13 = .int .i64 x13_1 ∧ Aside0 (wide_Add.l0 kq l1 (l1.length : Int) x13_1 x108000_1 x108001_1 = some (r1, r2)) ∧ Aside0 (kq ≤ k) ∧ Aside0 (w'.heap[gb107]? = some (.cells #[.int .i64 x108000_1, .int .u64 x108001_1] 31 (0, 0))) ∧ Aside0 (w'.heap[gb108]? = some (.cells #[.int .i64 0, .int .u64 0] 31 (0, 0))) ∧ Aside0 (Below w.heap.size w w'))
 case atStart => exact ⟨(0), (a0_0), (a0_1), (by first | rfl | (simp; done) | (simp [*]; done)), H', ⟨Nat.le_refl _⟩, ⟨bK BK107⟩, ⟨bK BK108⟩, ⟨ bH HB⟩⟩
 case round =>
  clear H'
  try clear c1
  try clear p2
  try clear c3
  obtain ⟨x13_1, x108000_1, x108001_1, rfl, HA, HK1, BK107, BK108, HB⟩ := hrel
  cases gk with
  | zero => exact absurd HA.out (by simp [wide_Add.l0])
  | succ k1 =>
   have H := HA.out
   clear HA
   simp only [wide_Add.l0] at H
   by_cases c5 : x13_1 < (l1.length : Int)
   ·rw [if_pos c5] at H
    have c5b0 : decide (x13_1 < (l1.length : Int)) = true := decide_eq_true c5
    clear c5
    by_cases c6 : 0 ≤ x13_1
    ·rw [if_pos c6] at H
     have c6b0 : decide (0 ≤ x13_1) = true := decide_eq_true c6
     clear c6
     by_cases c7 : x13_1 < (l1.length : Int)
     ·rw [if_pos c7] at H
      have c7b0 : decide (x13_1 < (l1.length : Int)) = true := decide_eq_true c7
      clear c7
      have HC8 := Aside0.mk H
      clear H
      have p109 : 0 ≤ (x13_1 : Int) := of_decide_eq_true (by first | (with_reducible assumption) | assumption)
      have q109 : x13_1 < (l1.length : Int) := of_decide_eq_true (by first | (with_reducible assumption) | assumption)
      obtain ⟨ad109, e109, hx109_0, hx109_1⟩ := at_T31 HR1.out x13_1 p109 q109
      cases e109
      replace hx109_0 := (HB.out.cell (World.block_lt_of_cell? w _ hx109_0)).trans hx109_0
      replace hx109_1 := (HB.out.cell (World.block_lt_of_cell? w _ hx109_1)).trans hx109_1
      replace p109 := eq_true p109
      replace q109 := eq_true q109
      go_upto_if 19 with (first | go_step3 | ((with_reducible refine gate_dst (N := 6) rfl ?_); refine box_event ?hg (N := 6) ?hd (cs := #[.int .i64 0, .int .u64 0]) (t := 31) ?hr ?_; (case hd => rfl); (case hg => rfl); (case hr => first | (go_simp; done) | (go_simp; rfl)); intro gb110 hg w9 hbox hb; have n0_ := Aside0.mk (blk_below (g := gb107) (o := .cells #[.int .i64 x108000_1, .int .u64 x108001_1] 31 (0, 0)) (bK BK107) hb); have n1_ := Aside0.mk (blk_below (g := gb108) (o := .cells #[.int .i64 0, .int .u64 0] 31 (0, 0)) (bK BK108) hb); have n2_ := Aside0.mk (below_step (bH HB) hb); have n3_ := Aside0.mk (hbox); have n4_ := Aside0.mk ((by rw [hg]; exact (below_size (bH HB)) : w.heap.size ≤ gb110)); have n5_ := n4_; have n6_ := Aside0.mk ((by rw [hg]; exact Nat.ne_of_lt (blk_lt (bK BK107)) : gb107 ≠ gb110)); have n7_ := Aside0.mk ((by rw [hg]; exact Nat.ne_of_gt (blk_lt (bK BK107)) : gb110 ≠ gb107)); have n8_ := Aside0.mk ((by rw [hg]; exact Nat.ne_of_lt (blk_lt (bK BK108)) : gb108 ≠ gb110)); have n9_ := Aside0.mk ((by rw [hg]; exact Nat.ne_of_gt (blk_lt (bK BK108)) : gb110 ≠ gb108)); clear BK107; clear BK108; clear HB; have BK107 := n0_; have BK108 := n1_; have HB := n2_; have BK110 := n3_; have GW110 := n4_; have GE110 := n5_; have NB107_110 := n6_; have NB110_107 := n7_; have NB108_110 := n8_; have NB110_108 := n9_; clear n0_ n1_ n2_ n3_ n4_ n5_ n6_ n7_ n8_ n9_; clear hb hbox hg; have hnb10 := NB110_107.out; have hnc10 := NB107_110.out; have hnb11 := NB110_108.out; have hnc11 := NB108_110.out; have hcz12_0 : w9.cell? ⟨gb110, 0, none⟩ = some (.int .i64 0) := (blk_cell BK110.out 0).trans rfl; have hcz12_1 : w9.cell? ⟨gb110, 1, none⟩ = some (.int .u64 0) := (blk_cell BK110.out 1).trans rfl; have hfz12_0 := blk_frozen BK110.out 0; have hfz12_1 := blk_frozen BK110.out 1))
      (try simp only [Act.put, List.setIfInBounds_toArray, List.set_cons_zero, List.set_cons_succ])
      have H := HC8.out
      clear HC8
      by_cases c13 : (((rd_T31 l1 x13_1).f0) == 0 && (((rd_T31 l1 x13_1).f1) == 0)) = true
      ·rw [if_pos c13] at H
       have c13b0 : (((rd_T31 l1 x13_1).f0) == 0 && (((rd_T31 l1 x13_1).f1) == 0)) = true := c13
       (try (have c13b1 : decide (((rd_T31 l1 x13_1).f0) = 0 && (((rd_T31 l1 x13_1).f1) == 0)) = true := by simpa using c13))
       (try (have c13b2 : (((rd_T31 l1 x13_1).f0) == 0 && (((rd_T31 l1 x13_1).f1) == 0)) = true := by simpa using c13))
       clear c13
       (first | rw [c13b0] | (simp only [i64_w, i32_w]; rw [c13b0]) | skip)
       have H' := Aside0.mk H
       clear H
       go_wp2_with (go_step3)
       go_roundg k1
       case measure => have := HK1.out; omega
       case rel => exact ⟨(wrap64 (x13_1 + 1)), (x108000_1), (x108001_1), (by first | rfl | (simp; done) | (simp [*]; done)), H', ⟨by have := HK1.out; omega⟩, ⟨bK BK107⟩, ⟨bK BK108⟩, ⟨ bH HB⟩⟩
      ·rw [if_neg c13] at H
       have c13b0 : (((rd_T31 l1 x13_1).f0) == 0 && (((rd_T31 l1 x13_1).f1) == 0)) = false := by simpa using c13
       (try (have c13b1 : decide (((rd_T31 l1 x13_1).f0) = 0 && (((rd_T31 l1 x13_1).f1) == 0)) = false := by simpa using c13))
       (try (have c13b2 : (((rd_T31 l1 x13_1).f0) == 0 && (((rd_T31 l1 x13_1).f1) == 0)) = false := by simpa using c13))
       (try (have c13b3 : ¬ (((rd_T31 l1 x13_1).f0) = 0 && (((rd_T31 l1 x13_1).f1) == 0)) := by simpa using c13))
       clear c13
       (first | rw [c13b0] | (simp only [i64_w, i32_w]; rw [c13b0]) | skip)
       by_cases c14 : (a64hi x108001_1 ((rd_T31 l1 x13_1).f1) 0) ≤ 1
       ·rw [if_pos c14] at H
        have c14b0 := eq_true c14
        have c14b1 : decide ((a64hi x108001_1 ((rd_T31 l1 x13_1).f1) 0) ≤ 1) = true := decide_eq_true c14
        clear c14
        have H' := Aside0.mk H
        clear H
        have hnb15 := NB107_108.out
        have hnc15 := NB108_107.out
        have hnb16 := NB107_110.out
        have hnc16 := NB110_107.out
        have hcz17_0 : w9.cell? ⟨gb107, 0, none⟩ = some (.int .i64 x108000_1) := (blk_cell BK107.out 0).trans rfl
        have hcz17_1 : w9.cell? ⟨gb107, 1, none⟩ = some (.int .u64 x108001_1) := (blk_cell BK107.out 1).trans rfl
        have hfz17_0 := blk_frozen BK107.out 0
        have hfz17_1 := blk_frozen BK107.out 1
        have hnb18 := NB110_108.out
        have hnc18 := NB108_110.out
        have hcz19_0 : w9.cell? ⟨gb110, 0, none⟩ = some (.int .i64 0) := (blk_cell BK110.out 0).trans rfl
        have hcz19_1 : w9.cell? ⟨gb110, 1, none⟩ = some (.int .u64 0) := (blk_cell BK110.out 1).trans rfl
        have hfz19_0 := blk_frozen BK110.out 0
        have hfz19_1 := blk_frozen BK110.out 1
        go_wp2_with (go_step3)
        go_roundg k1
        case measure => have := HK1.out; omega
        case rel => exact ⟨(wrap64 (x13_1 + 1)), (wrap64 (a64lo (IntKind.u64.wrap (x108000_1)) (IntKind.u64.wrap ((rd_T31 l1 x13_1).f0)) (a64hi x108001_1 ((rd_T31 l1 x13_1).f1) 0))), (a64lo x108001_1 ((rd_T31 l1 x13_1).f1) 0), (by first | rfl | (simp; done) | (simp [*]; done)), H', ⟨by have := HK1.out; omega⟩, ⟨by (with_reducible repeat (first | refine blk_drewN ?_ _ | refine blk_drew ?_ | refine blk_alloc ?_ _)); refine blk_put (cs := #[.int .i64 (wrap64 (a64lo (IntKind.u64.wrap (x108000_1)) (IntKind.u64.wrap ((rd_T31 l1 x13_1).f0)) (a64hi x108001_1 ((rd_T31 l1 x13_1).f1) 0))), .int .u64 x108001_1]) ?_ 1 _ rfl; (with_reducible repeat (first | refine blk_drewN ?_ _ | refine blk_drew ?_ | refine blk_alloc ?_ _)); refine blk_put (cs := #[.int .i64 x108000_1, .int .u64 x108001_1]) ?_ 0 _ rfl; (with_reducible repeat (first | refine blk_drewN ?_ _ | refine blk_drew ?_ | refine blk_alloc ?_ _)); refine blk_far ?_ NB107_110.out _; (with_reducible repeat (first | refine blk_drewN ?_ _ | refine blk_drew ?_ | refine blk_alloc ?_ _)); refine blk_far ?_ NB107_110.out _; (with_reducible repeat (first | refine blk_drewN ?_ _ | refine blk_drew ?_ | refine blk_alloc ?_ _)); exact BK107.out⟩, ⟨bK BK108⟩, ⟨ bH HB⟩⟩
       ·rw [if_neg c14] at H
        exact absurd H (by simp)
     ·rw [if_neg c7] at H
      exact absurd H (by simp)
    ·rw [if_neg c6] at H
     exact absurd H (by simp)
   ·rw [if_neg c5] at H
    have c5b0 : decide (x13_1 < (l1.length : Int)) = false := decide_eq_false c5
    clear c5
    simp only [Option.some.injEq, Prod.mk.injEq] at H
    obtain ⟨rfl, rfl⟩ := H
    have hnb20 := NB107_108.out
    have hnc20 := NB108_107.out
    have hcz21_0 : wr.cell? ⟨gb107, 0, none⟩ = some (.int .i64 x108000_1) := (blk_cell BK107.out 0).trans rfl
    have hcz21_1 : wr.cell? ⟨gb107, 1, none⟩ = some (.int .u64 x108001_1) := (blk_cell BK107.out 1).trans rfl
    have hfz21_0 := blk_frozen BK107.out 0
    have hfz21_1 := blk_frozen BK107.out 1
    have hcz22_0 : wr.cell? ⟨gb108, 0, none⟩ = some (.int .i64 0) := (blk_cell BK108.out 0).trans rfl
    have hcz22_1 : wr.cell? ⟨gb108, 1, none⟩ = some (.int .u64 0) := (blk_cell BK108.out 1).trans rfl
    have hfz22_0 := blk_frozen BK108.out 0
    have hfz22_1 := blk_frozen BK108.out 1
    go_wp2_with (go_step3)
    (try rw [Exit.noGoto_ret])
    refine bodyPost_ret (results_cell_row rfl _ _ gb108 31 #[.int .i64 x108000_1, .int .u64 x108001_1] (0, 0) _ rfl (by (with_reducible repeat (first | refine blk_drewN ?_ _ | refine blk_drew ?_ | refine blk_alloc ?_ _)); refine blk_put (cs := #[.int .i64 x108000_1, .int .u64 0]) ?_ 1 _ rfl; (with_reducible repeat (first | refine blk_drewN ?_ _ | refine blk_drew ?_ | refine blk_alloc ?_ _)); refine blk_put (cs := #[.int .i64 0, .int .u64 0]) ?_ 0 _ rfl; (with_reducible repeat (first | refine blk_drewN ?_ _ | refine blk_drew ?_ | refine blk_alloc ?_ _)); exact BK108.out) Try.underlying31 rfl (by kernel_rfl)) rfl ?_
    exact ⟨by first | rfl | (simp [errW_none, errW_some] <;> rfl) | (simp [*, errW_none, errW_some] <;> rfl), bH HB⟩

end Go.Proofs.Ytlnjbpapbifjfaa.P
