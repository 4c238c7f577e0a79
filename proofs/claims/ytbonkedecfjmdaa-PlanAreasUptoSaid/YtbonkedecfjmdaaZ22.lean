/- Written for this claim by a program of this session (a turned copy of the print): Go functions as Lean functions, and that the Go code comes to just these answers; or a statement proved out of them. No condition. -/
import Derived.Test.YtbonkedecfjmdaaZ2
import Derived.Test.YtbonkedecfjmdaaZ14

namespace Go.Proofs.Ytbonkedecfjmdaa.P
open Go.RowKit Go.Proofs.YtbonkedecfjmdaaW.PrintWords Go.Proofs.YtbonkedecfjmdaaW.PrintLast Go.Proofs.YtbonkedecfjmdaaW.PrintMore Go.Proofs.Ytbonkedecfjmdaa.X
attribute [local go_sem] max2_int min2_int max_two min_two max_three min_three max_four min_four add64_0 add64_1 add64   -- for this text's walks alone
set_option linter.unusedVariables false
set_option linter.unusedSimpArgs false

/-! ### lapidarylaw17_long: function 7 -/
mutual
def lapidarylaw17_long.l0 : Nat → Int → Int → List (List (S27)) → List (List Int) → List (List Int) → Option (Bool)
 | 0, _, _, _, _, _ => none
 | k + 1, x3, x4, x102000, x102001, x102002 => if x4 < (x102000.length : Int) then (if 0 ≤ x4 then (lapidarylaw17_long.l0 k (wrap64 ((wrap64 (x3 + 1)) + ((rd_L2 x102000 x4).length : Int))) (wrap64 (x4 + 1)) x102000 x102001 x102002) else (none)) else (lapidarylaw17_long.l1 k x3 0 x102000 x102001 x102002)
def lapidarylaw17_long.l1 : Nat → Int → Int → List (List (S27)) → List (List Int) → List (List Int) → Option (Bool)
 | 0, _, _, _, _, _ => none
 | k + 1, x3, x5, x102000, x102001, x102002 => if x5 < (x102001.length : Int) then (if 0 ≤ x5 then (lapidarylaw17_long.l1 k (wrap64 ((wrap64 (x3 + 1)) + ((rd_L3 x102001 x5).length : Int))) (wrap64 (x5 + 1)) x102000 x102001 x102002) else (none)) else (lapidarylaw17_long.l2 k x3 0 x102000 x102001 x102002)
def lapidarylaw17_long.l2 : Nat → Int → Int → List (List (S27)) → List (List Int) → List (List Int) → Option (Bool)
 | 0, _, _, _, _, _ => none
 | k + 1, x3, x6, x102000, x102001, x102002 => if x6 < (x102002.length : Int) then (if 0 ≤ x6 then (lapidarylaw17_long.l2 k (wrap64 ((wrap64 (x3 + 1)) + ((rd_L3 x102002 x6).length : Int))) (wrap64 (x6 + 1)) x102000 x102001 x102002) else (none)) else (some (decide (x3 > 80)))
end
def lapidarylaw17_long.f (k : Nat) (l0_0 : List (List (S27))) (l0_1 : List (List Int)) (l0_2 : List (List Int)) : Option (Bool) := lapidarylaw17_long.l0 k 0 0 l0_0 l0_1 l0_2
theorem lapidarylaw17_long.mono_l : ∀ k, (∀ y0 y1 y2 y3 y4, LeO (lapidarylaw17_long.l0 k y0 y1 y2 y3 y4) (lapidarylaw17_long.l0 (k + 1) y0 y1 y2 y3 y4)) ∧ (∀ y0 y1 y2 y3 y4, LeO (lapidarylaw17_long.l1 k y0 y1 y2 y3 y4) (lapidarylaw17_long.l1 (k + 1) y0 y1 y2 y3 y4)) ∧ (∀ y0 y1 y2 y3 y4, LeO (lapidarylaw17_long.l2 k y0 y1 y2 y3 y4) (lapidarylaw17_long.l2 (k + 1) y0 y1 y2 y3 y4))
 | 0 => ⟨fun _ _ _ _ _ r h => by simp [lapidarylaw17_long.l0] at h, fun _ _ _ _ _ r h => by simp [lapidarylaw17_long.l1] at h, fun _ _ _ _ _ r h => by simp [lapidarylaw17_long.l2] at h⟩
 | k + 1 => by
  obtain ⟨ih0, ih1, ih2⟩ := lapidarylaw17_long.mono_l k
  refine ⟨?_, ?_, ?_⟩
  ·intro y0 y1 y2 y3 y4
   unfold lapidarylaw17_long.l0
   repeat' first
   | (with_reducible exact ih0 _ _ _ _ _)
   | (with_reducible exact ih1 _ _ _ _ _)
   | (with_reducible exact ih2 _ _ _ _ _)
   | (with_reducible exact LeO.refl _)
   | (with_reducible exact LeO.none _)
   | (with_reducible refine LeO.ite ?_ ?_)
   | (with_reducible refine LeO.bind ?_ (fun _ => ?_))
   | exact ih0 _ _ _ _ _
   | exact ih1 _ _ _ _ _
   | exact ih2 _ _ _ _ _
   | exact LeO.none _
   | refine LeO.ite ?_ ?_
   | refine LeO.bind ?_ (fun _ => ?_)
  ·intro y0 y1 y2 y3 y4
   unfold lapidarylaw17_long.l1
   repeat' first
   | (with_reducible exact ih0 _ _ _ _ _)
   | (with_reducible exact ih1 _ _ _ _ _)
   | (with_reducible exact ih2 _ _ _ _ _)
   | (with_reducible exact LeO.refl _)
   | (with_reducible exact LeO.none _)
   | (with_reducible refine LeO.ite ?_ ?_)
   | (with_reducible refine LeO.bind ?_ (fun _ => ?_))
   | exact ih0 _ _ _ _ _
   | exact ih1 _ _ _ _ _
   | exact ih2 _ _ _ _ _
   | exact LeO.none _
   | refine LeO.ite ?_ ?_
   | refine LeO.bind ?_ (fun _ => ?_)
  ·intro y0 y1 y2 y3 y4
   unfold lapidarylaw17_long.l2
   repeat' first
   | (with_reducible exact ih0 _ _ _ _ _)
   | (with_reducible exact ih1 _ _ _ _ _)
   | (with_reducible exact ih2 _ _ _ _ _)
   | (with_reducible exact LeO.refl _)
   | (with_reducible exact LeO.none _)
   | (with_reducible refine LeO.ite ?_ ?_)
   | (with_reducible refine LeO.bind ?_ (fun _ => ?_))
   | exact ih0 _ _ _ _ _
   | exact ih1 _ _ _ _ _
   | exact ih2 _ _ _ _ _
   | exact LeO.none _
   | refine LeO.ite ?_ ?_
   | refine LeO.bind ?_ (fun _ => ?_)
theorem lapidarylaw17_long.mono : ∀ a0 a1 a2 k, LeO (lapidarylaw17_long.f k a0 a1 a2) (lapidarylaw17_long.f (k + 1) a0 a1 a2) := by
 intro a0 a1 a2 k
 obtain ⟨ih0, ih1, ih2⟩ := lapidarylaw17_long.mono_l k
 unfold lapidarylaw17_long.f
 repeat' first
   | (with_reducible exact ih0 _ _ _ _ _)
   | (with_reducible exact ih1 _ _ _ _ _)
   | (with_reducible exact ih2 _ _ _ _ _)
   | (with_reducible exact LeO.refl _)
   | (with_reducible exact LeO.none _)
   | (with_reducible refine LeO.ite ?_ ?_)
   | (with_reducible refine LeO.bind ?_ (fun _ => ?_))
   | exact ih0 _ _ _ _ _
   | exact ih1 _ _ _ _ _
   | exact ih2 _ _ _ _ _
   | exact LeO.none _
   | refine LeO.ite ?_ ?_
   | refine LeO.bind ?_ (fun _ => ?_)
set_option maxHeartbeats 8000000 in
set_option maxRecDepth 100000 in
theorem lapidarylaw17_long.calls (k : Nat) (A0_0 : Option Addr) (c0_0 : Nat) (l0_0 : List (List (S27))) (A0_1 : Option Addr) (c0_1 : Nat) (l0_1 : List (List Int)) (A0_2 : Option Addr) (c0_2 : Nat) (l0_2 : List (List Int)) (r : Bool) (w : World) (hr0_0 : Kd.C (Kd.slice 27 k27) w A0_0 l0_0.length l0_0) (hc0_0 : l0_0.length ≤ c0_0) (hr0_1 : Kd.C (Kd.slice 3 (Kd.int .i64)) w A0_1 l0_1.length l0_1) (hc0_1 : l0_1.length ≤ c0_1) (hr0_2 : Kd.C (Kd.slice 3 (Kd.int .i64)) w A0_2 l0_2.length l0_2) (hc0_2 : l0_2.length ≤ c0_2) (h : lapidarylaw17_long.f k l0_0 l0_1 l0_2 = some r) :
  Calls Try.prog 7 #[.agg #[.slice A0_0 l0_0.length c0_0, .slice A0_1 l0_1.length c0_1, .slice A0_2 l0_2.length c0_2]] w fun e w' => e = .returned (.bool r) ∧ Below w.heap.size w w' := by
 have hu25 := Try.underlying25
 have HR0_0 := Aside0.mk hr0_0
 have HC0_0 := Aside0.mk hc0_0
 clear hr0_0 hc0_0
 have HR0_1 := Aside0.mk hr0_1
 have HC0_1 := Aside0.mk hc0_1
 clear hr0_1 hc0_1
 have HR0_2 := Aside0.mk hr0_2
 have HC0_2 := Aside0.mk hc0_2
 clear hr0_2 hc0_2
 have HB := Aside0.mk (Below.refl w.heap.size w)
 have H : (lapidarylaw17_long.l0 k 0 0 l0_0 l0_1 l0_2) = some r := h
 clear h
 have H' := Aside0.mk H
 clear H
 go_enter Try.func7, Try.ntmps7
 go_wp2_with (first | ((with_reducible refine gate_dst (N := 1) rfl ?_); refine box_event ?hg (N := 1) ?hd (cs := #[.slice A0_0 l0_0.length c0_0, .slice A0_1 l0_1.length c0_1, .slice A0_2 l0_2.length c0_2]) (t := 25) ?hr ?_; (case hd => rfl); (case hg => rfl); (case hr => first | (go_simp; done) | (go_simp; rfl)); intro gb101 hg w2 hbox hb; have n0_ := Aside0.mk (below_step (bH HB) hb); have n1_ := Aside0.mk (hbox); have n2_ := Aside0.mk ((by rw [hg]; exact (below_size (bH HB)) : w.heap.size ≤ gb101)); have n3_ := n2_; clear HB; have HB := n0_; have BK101 := n1_; have GW101 := n2_; have GE101 := n3_; clear n0_ n1_ n2_ n3_; clear hb hbox hg))
 go_loopg [3, 4] k (fun kq v3 v4 w' => ∃ (x3_1 : Int) (x4_1 : Int), v3 = .int .i64 x3_1 ∧ v4 = .int .i64 x4_1 ∧ Aside0 (lapidarylaw17_long.l0 kq x3_1 x4_1 l0_0 l0_1 l0_2 = some r) ∧ Aside0 (kq ≤ k) ∧ Aside0 (w'.heap[gb101]? = some (.cells #[(.slice A0_0 l0_0.length c0_0), (.slice A0_1 l0_1.length c0_1), (.slice A0_2 l0_2.length c0_2)] 25 (0, 0))) ∧ Aside0 (Below w.heap.size w w'))
 case atStart => exact ⟨(0), (0), (by first | rfl | (simp; done) | (simp [*]; done)), (by first | rfl | (simp; done) | (simp [*]; done)), H', ⟨Nat.le_refl _⟩, ⟨bK BK101⟩, ⟨ bH HB⟩⟩
 case round =>
  clear H'
  try clear p2
  obtain ⟨x3_1, x4_1, rfl, rfl, HA, HK1, BK101, HB⟩ := hrel
  cases gk with
  | zero => exact absurd HA.out (by simp [lapidarylaw17_long.l0])
  | succ k1 =>
   have H := HA.out
   clear HA
   simp only [lapidarylaw17_long.l0] at H
   by_cases c3 : x4_1 < (l0_0.length : Int)
   ·rw [if_pos c3] at H
    have c3b0 : decide (x4_1 < (l0_0.length : Int)) = true := decide_eq_true c3
    clear c3
    by_cases c4 : 0 ≤ x4_1
    ·rw [if_pos c4] at H
     have c4b0 : decide (0 ≤ x4_1) = true := decide_eq_true c4
     clear c4
     have H' := Aside0.mk H
     clear H
     have hcz5_0 : wr.cell? ⟨gb101, 0, none⟩ = some (.slice A0_0 l0_0.length c0_0) := (blk_cell BK101.out 0).trans rfl
     have hcz5_1 : wr.cell? ⟨gb101, 1, none⟩ = some (.slice A0_1 l0_1.length c0_1) := (blk_cell BK101.out 1).trans rfl
     have hcz5_2 : wr.cell? ⟨gb101, 2, none⟩ = some (.slice A0_2 l0_2.length c0_2) := (blk_cell BK101.out 2).trans rfl
     have hfz5_0 := blk_frozen BK101.out 0
     have hfz5_1 := blk_frozen BK101.out 1
     have hfz5_2 := blk_frozen BK101.out 2
     have p102 : 0 ≤ (x4_1 : Int) := of_decide_eq_true (by first | (with_reducible assumption) | assumption)
     have q102 : x4_1 < (l0_0.length : Int) := of_decide_eq_true (by first | (with_reducible assumption) | assumption)
     obtain ⟨ad102, A102_0, c102_0, e102, hx102_0, hl102_0, hi102_0⟩ := at_L2 HR0_0.out x4_1 p102 q102
     cases e102
     replace hx102_0 := (HB.out.cell (World.block_lt_of_cell? w _ hx102_0)).trans hx102_0
     have HR102_0 := Aside0.mk hi102_0
     have HC102_0 := Aside0.mk hl102_0
     clear hi102_0 hl102_0
     replace p102 := eq_true p102
     replace q102 := eq_true q102
     go_wp2
     go_roundg k1
     case measure => have := HK1.out; omega
     case rel => exact ⟨(wrap64 ((wrap64 (x3_1 + 1)) + ((rd_L2 l0_0 x4_1).length : Int))), (wrap64 (x4_1 + 1)), (by first | rfl | (simp; done) | (simp [*]; done)), (by first | rfl | (simp; done) | (simp [*]; done)), H', ⟨by have := HK1.out; omega⟩, ⟨bK BK101⟩, ⟨ bH HB⟩⟩
    ·rw [if_neg c4] at H
     exact absurd H (by simp)
   ·rw [if_neg c3] at H
    have c3b0 : decide (x4_1 < (l0_0.length : Int)) = false := decide_eq_false c3
    clear c3
    have H' := Aside0.mk H
    clear H
    have hcz6_0 : wr.cell? ⟨gb101, 0, none⟩ = some (.slice A0_0 l0_0.length c0_0) := (blk_cell BK101.out 0).trans rfl
    have hcz6_1 : wr.cell? ⟨gb101, 1, none⟩ = some (.slice A0_1 l0_1.length c0_1) := (blk_cell BK101.out 1).trans rfl
    have hcz6_2 : wr.cell? ⟨gb101, 2, none⟩ = some (.slice A0_2 l0_2.length c0_2) := (blk_cell BK101.out 2).trans rfl
    have hfz6_0 := blk_frozen BK101.out 0
    have hfz6_1 := blk_frozen BK101.out 1
    have hfz6_2 := blk_frozen BK101.out 2
    go_wp2
    go_loopg [3, 5] k1 (fun kq v3 v5 w' => ∃ (x3_2 : Int) (x5_2 : Int), v3 = .int .i64 x3_2 ∧ v5 = .int .i64 x5_2 ∧ Aside0 (lapidarylaw17_long.l1 kq x3_2 x5_2 l0_0 l0_1 l0_2 = some r) ∧ Aside0 (kq ≤ k1) ∧ Aside0 (w'.heap[gb101]? = some (.cells #[(.slice A0_0 l0_0.length c0_0), (.slice A0_1 l0_1.length c0_1), (.slice A0_2 l0_2.length c0_2)] 25 (0, 0))) ∧ Aside0 (Below w.heap.size w w'))
    case atStart => exact ⟨(x3_1), (0), (by first | rfl | (simp; done) | (simp [*]; done)), (by first | rfl | (simp; done) | (simp [*]; done)), H', ⟨Nat.le_refl _⟩, ⟨bK BK101⟩, ⟨ bH HB⟩⟩
    case round =>
     clear H'
     try clear c1
     try clear p1
     try clear q1
     try clear hx1
     try clear p2
     try clear c3
     try clear c3b0
     try clear c4
     try clear c4b0
     try clear p6
     try clear hcz5_0
     try clear hcz5_1
     try clear hcz5_2
     try clear hcz6_0
     try clear hcz6_1
     try clear hcz6_2
     try clear hfz5_0
     try clear hfz5_1
     try clear hfz5_2
     try clear hfz6_0
     try clear hfz6_1
     try clear hfz6_2
     try clear hx102_0
     try clear p102
     try clear p2
     try clear q102
     obtain ⟨x3_2, x5_2, rfl, rfl, HA, HK2, BK101, HB⟩ := hrel
     cases gk with
     | zero => exact absurd HA.out (by simp [lapidarylaw17_long.l1])
     | succ k2 =>
      have H := HA.out
      clear HA
      simp only [lapidarylaw17_long.l1] at H
      by_cases c7 : x5_2 < (l0_1.length : Int)
      ·rw [if_pos c7] at H
       have c7b0 : decide (x5_2 < (l0_1.length : Int)) = true := decide_eq_true c7
       clear c7
       by_cases c8 : 0 ≤ x5_2
       ·rw [if_pos c8] at H
        have c8b0 : decide (0 ≤ x5_2) = true := decide_eq_true c8
        clear c8
        have H' := Aside0.mk H
        clear H
        have hcz9_0 : wr.cell? ⟨gb101, 0, none⟩ = some (.slice A0_0 l0_0.length c0_0) := (blk_cell BK101.out 0).trans rfl
        have hcz9_1 : wr.cell? ⟨gb101, 1, none⟩ = some (.slice A0_1 l0_1.length c0_1) := (blk_cell BK101.out 1).trans rfl
        have hcz9_2 : wr.cell? ⟨gb101, 2, none⟩ = some (.slice A0_2 l0_2.length c0_2) := (blk_cell BK101.out 2).trans rfl
        have hfz9_0 := blk_frozen BK101.out 0
        have hfz9_1 := blk_frozen BK101.out 1
        have hfz9_2 := blk_frozen BK101.out 2
        have p103 : 0 ≤ (x5_2 : Int) := of_decide_eq_true (by first | (with_reducible assumption) | assumption)
        have q103 : x5_2 < (l0_1.length : Int) := of_decide_eq_true (by first | (with_reducible assumption) | assumption)
        obtain ⟨ad103, A103_0, c103_0, e103, hx103_0, hl103_0, hi103_0⟩ := at_L3 HR0_1.out x5_2 p103 q103
        cases e103
        replace hx103_0 := (HB.out.cell (World.block_lt_of_cell? w _ hx103_0)).trans hx103_0
        have HR103_0 := Aside0.mk hi103_0
        have HC103_0 := Aside0.mk hl103_0
        clear hi103_0 hl103_0
        replace p103 := eq_true p103
        replace q103 := eq_true q103
        go_wp2
        go_roundg k2
        case measure => have := HK1.out; have := HK2.out; omega
        case rel => exact ⟨(wrap64 ((wrap64 (x3_2 + 1)) + ((rd_L3 l0_1 x5_2).length : Int))), (wrap64 (x5_2 + 1)), (by first | rfl | (simp; done) | (simp [*]; done)), (by first | rfl | (simp; done) | (simp [*]; done)), H', ⟨by have := HK1.out; have := HK2.out; omega⟩, ⟨bK BK101⟩, ⟨ bH HB⟩⟩
       ·rw [if_neg c8] at H
        exact absurd H (by simp)
      ·rw [if_neg c7] at H
       have c7b0 : decide (x5_2 < (l0_1.length : Int)) = false := decide_eq_false c7
       clear c7
       have H' := Aside0.mk H
       clear H
       have hcz10_0 : wr.cell? ⟨gb101, 0, none⟩ = some (.slice A0_0 l0_0.length c0_0) := (blk_cell BK101.out 0).trans rfl
       have hcz10_1 : wr.cell? ⟨gb101, 1, none⟩ = some (.slice A0_1 l0_1.length c0_1) := (blk_cell BK101.out 1).trans rfl
       have hcz10_2 : wr.cell? ⟨gb101, 2, none⟩ = some (.slice A0_2 l0_2.length c0_2) := (blk_cell BK101.out 2).trans rfl
       have hfz10_0 := blk_frozen BK101.out 0
       have hfz10_1 := blk_frozen BK101.out 1
       have hfz10_2 := blk_frozen BK101.out 2
       go_wp2
       go_loopg [3, 6] k2 (fun kq v3 v6 w' => ∃ (x3_3 : Int) (x6_3 : Int), v3 = .int .i64 x3_3 ∧ v6 = .int .i64 x6_3 ∧ Aside0 (lapidarylaw17_long.l2 kq x3_3 x6_3 l0_0 l0_1 l0_2 = some r) ∧ Aside0 (kq ≤ k2) ∧ Aside0 (w'.heap[gb101]? = some (.cells #[(.slice A0_0 l0_0.length c0_0), (.slice A0_1 l0_1.length c0_1), (.slice A0_2 l0_2.length c0_2)] 25 (0, 0))) ∧ Aside0 (Below w.heap.size w w'))
       case atStart => exact ⟨(x3_2), (0), (by first | rfl | (simp; done) | (simp [*]; done)), (by first | rfl | (simp; done) | (simp [*]; done)), H', ⟨Nat.le_refl _⟩, ⟨bK BK101⟩, ⟨ bH HB⟩⟩
       case round =>
        clear H'
        try clear c1
        try clear p1
        try clear q1
        try clear hx1
        try clear p2
        try clear c3
        try clear c3b0
        try clear c4
        try clear c4b0
        try clear p6
        try clear c7
        try clear c7b0
        try clear c8
        try clear c8b0
        try clear c10
        try clear p10
        try clear q10
        try clear hx10
        try clear hcz10_0
        try clear hcz10_1
        try clear hcz10_2
        try clear hcz5_0
        try clear hcz5_1
        try clear hcz5_2
        try clear hcz6_0
        try clear hcz6_1
        try clear hcz6_2
        try clear hcz9_0
        try clear hcz9_1
        try clear hcz9_2
        try clear hfz10_0
        try clear hfz10_1
        try clear hfz10_2
        try clear hfz5_0
        try clear hfz5_1
        try clear hfz5_2
        try clear hfz6_0
        try clear hfz6_1
        try clear hfz6_2
        try clear hfz9_0
        try clear hfz9_1
        try clear hfz9_2
        try clear hx102_0
        try clear hx103_0
        try clear p1
        try clear p102
        try clear p103
        try clear p2
        try clear p6
        try clear q1
        try clear q102
        try clear q103
        obtain ⟨x3_3, x6_3, rfl, rfl, HA, HK3, BK101, HB⟩ := hrel
        cases gk with
        | zero => exact absurd HA.out (by simp [lapidarylaw17_long.l2])
        | succ k3 =>
         have H := HA.out
         clear HA
         simp only [lapidarylaw17_long.l2] at H
         by_cases c11 : x6_3 < (l0_2.length : Int)
         ·rw [if_pos c11] at H
          have c11b0 : decide (x6_3 < (l0_2.length : Int)) = true := decide_eq_true c11
          clear c11
          by_cases c12 : 0 ≤ x6_3
          ·rw [if_pos c12] at H
           have c12b0 : decide (0 ≤ x6_3) = true := decide_eq_true c12
           clear c12
           have H' := Aside0.mk H
           clear H
           have hcz13_0 : wr.cell? ⟨gb101, 0, none⟩ = some (.slice A0_0 l0_0.length c0_0) := (blk_cell BK101.out 0).trans rfl
           have hcz13_1 : wr.cell? ⟨gb101, 1, none⟩ = some (.slice A0_1 l0_1.length c0_1) := (blk_cell BK101.out 1).trans rfl
           have hcz13_2 : wr.cell? ⟨gb101, 2, none⟩ = some (.slice A0_2 l0_2.length c0_2) := (blk_cell BK101.out 2).trans rfl
           have hfz13_0 := blk_frozen BK101.out 0
           have hfz13_1 := blk_frozen BK101.out 1
           have hfz13_2 := blk_frozen BK101.out 2
           have p104 : 0 ≤ (x6_3 : Int) := of_decide_eq_true (by first | (with_reducible assumption) | assumption)
           have q104 : x6_3 < (l0_2.length : Int) := of_decide_eq_true (by first | (with_reducible assumption) | assumption)
           obtain ⟨ad104, A104_0, c104_0, e104, hx104_0, hl104_0, hi104_0⟩ := at_L3 HR0_2.out x6_3 p104 q104
           cases e104
           replace hx104_0 := (HB.out.cell (World.block_lt_of_cell? w _ hx104_0)).trans hx104_0
           have HR104_0 := Aside0.mk hi104_0
           have HC104_0 := Aside0.mk hl104_0
           clear hi104_0 hl104_0
           replace p104 := eq_true p104
           replace q104 := eq_true q104
           go_wp2
           go_roundg k3
           case measure => have := HK1.out; have := HK2.out; have := HK3.out; omega
           case rel => exact ⟨(wrap64 ((wrap64 (x3_3 + 1)) + ((rd_L3 l0_2 x6_3).length : Int))), (wrap64 (x6_3 + 1)), (by first | rfl | (simp; done) | (simp [*]; done)), (by first | rfl | (simp; done) | (simp [*]; done)), H', ⟨by have := HK1.out; have := HK2.out; have := HK3.out; omega⟩, ⟨bK BK101⟩, ⟨ bH HB⟩⟩
          ·rw [if_neg c12] at H
           exact absurd H (by simp)
         ·rw [if_neg c11] at H
          have c11b0 : decide (x6_3 < (l0_2.length : Int)) = false := decide_eq_false c11
          clear c11
          obtain rfl := Option.some.inj H
          have hcz14_0 : wr.cell? ⟨gb101, 0, none⟩ = some (.slice A0_0 l0_0.length c0_0) := (blk_cell BK101.out 0).trans rfl
          have hcz14_1 : wr.cell? ⟨gb101, 1, none⟩ = some (.slice A0_1 l0_1.length c0_1) := (blk_cell BK101.out 1).trans rfl
          have hcz14_2 : wr.cell? ⟨gb101, 2, none⟩ = some (.slice A0_2 l0_2.length c0_2) := (blk_cell BK101.out 2).trans rfl
          have hfz14_0 := blk_frozen BK101.out 0
          have hfz14_1 := blk_frozen BK101.out 1
          have hfz14_2 := blk_frozen BK101.out 2
          go_wp2
          go_ret
          exact ⟨by first | rfl | (simp [errW_none, errW_some] <;> rfl) | (simp [*, errW_none, errW_some] <;> rfl), bH HB⟩

end Go.Proofs.Ytbonkedecfjmdaa.P

namespace Go.Proofs.Ytbonkedecfjmdaa.P
open Go.RowKit Go.Proofs.YtbonkedecfjmdaaW.PrintWords Go.Proofs.YtbonkedecfjmdaaW.PrintLast Go.Proofs.YtbonkedecfjmdaaW.PrintMore Go.Proofs.Ytbonkedecfjmdaa.X
attribute [local go_sem] max2_int min2_int max_two min_two max_three min_three max_four min_four add64_0 add64_1 add64   -- for this text's walks alone
set_option linter.unusedVariables false
set_option linter.unusedSimpArgs false

/-! ### api_Point_51: function 51 -/
def api_Point_51.l0 : Nat → List (List (S27)) → List (List (S27)) → Int → Int → Option ((List (List (S27))))
 | 0, _, _, _, _ => none
 | k + 1, x3, x6, x7, x8 => if x8 < x7 then (if 0 ≤ x8 then (if x8 < (x6.length : Int) then ((api_Point_72.f (rd_L2 x6 x8)).bind fun t853 => (if x3.length < 5864062014805 then (api_Point_51.l0 k (x3 ++ [t853]) x6 x7 (wrap64 (x8 + 1))) else (none))) else (none)) else (none)) else (some x3)
def api_Point_51.f (k : Nat) (l0 : List (List (S27))) : Option ((List (List (S27)))) := api_Point_51.l0 k ([] : List (List (S27))) l0 (l0.length : Int) 0
theorem api_Point_51.mono_l : ∀ k, (∀ y0 y1 y2 y3, LeO (api_Point_51.l0 k y0 y1 y2 y3) (api_Point_51.l0 (k + 1) y0 y1 y2 y3))
 | 0 => fun _ _ _ _ r h => by simp [api_Point_51.l0] at h
 | k + 1 => by
  have ih0 := api_Point_51.mono_l k
  ·intro y0 y1 y2 y3
   unfold api_Point_51.l0
   repeat' first
   | (with_reducible exact ih0 _ _ _ _)
   | (with_reducible exact LeO.refl _)
   | (with_reducible exact LeO.none _)
   | (with_reducible refine LeO.ite ?_ ?_)
   | (with_reducible refine LeO.bind ?_ (fun _ => ?_))
   | exact ih0 _ _ _ _
   | exact LeO.none _
   | refine LeO.ite ?_ ?_
   | refine LeO.bind ?_ (fun _ => ?_)
theorem api_Point_51.mono : ∀ a0 k, LeO (api_Point_51.f k a0) (api_Point_51.f (k + 1) a0) := by
 intro a0 k
 have ih0 := api_Point_51.mono_l k
 unfold api_Point_51.f
 repeat' first
   | (with_reducible exact ih0 _ _ _ _)
   | (with_reducible exact LeO.refl _)
   | (with_reducible exact LeO.none _)
   | (with_reducible refine LeO.ite ?_ ?_)
   | (with_reducible refine LeO.bind ?_ (fun _ => ?_))
   | exact ih0 _ _ _ _
   | exact LeO.none _
   | refine LeO.ite ?_ ?_
   | refine LeO.bind ?_ (fun _ => ?_)
set_option maxHeartbeats 8000000 in
set_option maxRecDepth 100000 in
theorem api_Point_51.calls (k : Nat) (A0 : Option Addr) (c0 : Nat) (l0 : List (List (S27))) (r : List (List (S27))) (w : World) (hr0 : Kd.C (Kd.slice 27 k27) w A0 l0.length l0) (hc0 : l0.length ≤ c0) (h : api_Point_51.f k l0 = some r) :
  Calls Try.prog 51 #[.slice A0 l0.length c0] w fun e w' => ∃ v0_ : Value, e = .returned (v0_) ∧ Kd.S (Kd.slice 27 k27) 31 w' w.heap.size (fun _ => True) v0_ r ∧ Below w.heap.size w w' := by
 have HR0 := Aside0.mk hr0
 have HC0 := Aside0.mk hc0
 clear hr0 hc0
 have HB := Aside0.mk (Below.refl w.heap.size w)
 have H : (api_Point_51.l0 k ([] : List (List (S27))) l0 (l0.length : Int) 0) = some r := h
 clear h
 have H' := Aside0.mk H
 clear H
 go_enter Try.func51, Try.ntmps51
 go_wp2
 go_loopg [3, 8] k (fun kq v3 v8 w' => ∃ (x3_1 : List (List (S27))) (x8_1 : Int), v8 = .int .i64 x8_1 ∧ Aside0 (api_Point_51.l0 kq x3_1 l0 (l0.length : Int) x8_1 = some r) ∧ Aside0 (kq ≤ k) ∧ Aside0 (Kd.S (Kd.slice 27 k27) 31 w' w.heap.size (fun _ => True) v3 x3_1) ∧ Aside0 (Below w.heap.size w w'))
 case atStart => exact ⟨(([] : List (List (S27)))), (0), (by first | rfl | (simp; done) | (simp [*]; done)), H', ⟨Nat.le_refl _⟩, ⟨by first | exact Kd.S_nil _ _ _ _ _ | exact Kd.N_nil _ _ _ _ _ | exact Kd.V_nil _ _ _ _ _ | exact Kd.Q_nil _ _ _ _ _ | exact Kd.R_nil _ _ _ _ _⟩, ⟨ bH HB⟩⟩
 case round =>
  clear H'
  obtain ⟨x3_1, x8_1, rfl, HA, HK1, HO_3, HB⟩ := hrel
  cases gk with
  | zero => exact absurd HA.out (by simp [api_Point_51.l0])
  | succ k1 =>
   have H := HA.out
   clear HA
   simp only [api_Point_51.l0] at H
   by_cases c2 : x8_1 < (l0.length : Int)
   ·rw [if_pos c2] at H
    have c2b0 : decide (x8_1 < (l0.length : Int)) = true := decide_eq_true c2
    clear c2
    by_cases c3 : 0 ≤ x8_1
    ·rw [if_pos c3] at H
     have c3b0 : decide (0 ≤ x8_1) = true := decide_eq_true c3
     clear c3
     by_cases c4 : x8_1 < (l0.length : Int)
     ·rw [if_pos c4] at H
      have c4b0 : decide (x8_1 < (l0.length : Int)) = true := decide_eq_true c4
      clear c4
      replace H := Option.bind_eq_some_iff.mp H
      obtain ⟨t853, A50, H⟩ := H
      replace H : (if x3_1.length < 5864062014805 then (api_Point_51.l0 k1 (x3_1 ++ [t853]) l0 (l0.length : Int) (wrap64 (x8_1 + 1))) else (none)) = some r := H
      have A5 := Aside0.mk A50
      clear A50
      by_cases c6 : x3_1.length < 5864062014805
      ·rw [if_pos c6] at H
       have LMc6 := Aside0.mk c6
       clear c6
       obtain ⟨y856, hy856⟩ : ∃ y_ : List (List (S27)), y_ = (x3_1 ++ [t853]) := ⟨_, rfl⟩
       replace H : (api_Point_51.l0 k1 y856 l0 (l0.length : Int) (wrap64 (x8_1 + 1))) = some r := by first | (rw [hy856]; with_reducible exact H) | (have H2_ := (Option.bind_some _ _).symm.trans H; rw [hy856]; with_reducible exact H2_) | (have H2_ := (Option.bind_some _ _).symm.trans H; with_reducible exact H2_) | with_reducible exact H | (rw [hy856]; exact H) | exact H
       have Ny856 := Aside0.mk hy856
       clear hy856
       have H' := Aside0.mk H
       clear H
       have p852 : 0 ≤ (x8_1 : Int) := of_decide_eq_true (by first | (with_reducible assumption) | assumption)
       have q852 : x8_1 < (l0.length : Int) := of_decide_eq_true (by first | (with_reducible assumption) | assumption)
       obtain ⟨ad852, A852_0, c852_0, e852, hx852_0, hl852_0, hi852_0⟩ := at_L2 HR0.out x8_1 p852 q852
       cases e852
       replace hx852_0 := (HB.out.cell (World.block_lt_of_cell? w _ hx852_0)).trans hx852_0
       have HR852_0 := Aside0.mk hi852_0
       have HC852_0 := Aside0.mk hl852_0
       clear hi852_0 hl852_0
       replace p852 := eq_true p852
       replace q852 := eq_true q852
       go_wp2_with (first | ((with_reducible refine gate_callee (f := 72) rfl ?_); refine goesL_ (some 14) rfl rfl Try.func72 (by kernel_rfl) rfl #[.slice A852_0 (rd_L2 l0 x8_1).length c852_0] rfl (by (try simp only [List.map_toArray, List.map_cons, List.map_nil]); first | done | rfl | (simp only [List.length_drop, List.length_take]; rfl)) ?_; (with_reducible refine (api_Point_72.calls _ _ (rd_L2 l0 x8_1) t853 _ ?side1 ?side2 A5.out).mono ?_); (case side1 => repeat (first | exact (Kd.C_below HR852_0.out HB.out) | (with_reducible refine Kd.C_alloc ?_ _) | (with_reducible refine Kd.C_drewN ?_ _) | (with_reducible refine Kd.C_drew ?_))); (case side2 => exact HC852_0.out); rintro e w7 ⟨v854, rfl, ho0, hb⟩; refine ⟨_, rfl, ?_⟩; have n0_ := Aside0.mk (Kd.S_elder' (by (with_reducible repeat (first | apply Kd.S_alloc | apply Kd.S_drewN | apply Kd.S_drew)); exact HO_3.out) (Kd.R_base ho0) hb); have n1_ := Aside0.mk (Kd.R_lower ho0 (below_size (bH HB))); have n2_ := Aside0.mk (below_step (bH HB) hb); clear HO_3; clear HB; have HO_3 := n0_; have HO855 := n1_; have HB := n2_; clear n0_ n1_ n2_; (try clear hb); (try clear hb2); (try clear hk); (try clear hi); (try clear ho0); obtain ⟨Ao9, co9, eo9⟩ := Kd.R_slice HO855.out; subst eo9) | ((with_reducible refine gate_builtin (b := .append) (xs := #[.tmp 12, .tmp 15]) rfl ?_); at_builtin; refine Kd.S_append (Kd.slice 27 k27) (w0 := w) w.heap.size rfl (.tmp 12) (.tmp 15) 22 31 (.slice none 0 0) 24 rfl Try.underlying22 info31 rfl (by decide) (by omega) u3 x3_1 t853 [.slice Ao9 t853.length co9] (fun _ => True) (fun k_ => some k_ = (.slice Ao9 t853.length co9 : Value).ownBlock) rfl rfl ?aP (fun k_ hk_ => ((Kd.R_mono (ok' := fun k_ => ((fun _ => True)) k_ ∧ some k_ ≠ (u3 : Value).ownBlock) (Kd.R_apart' (HO855.out) (Kd.S_typed HO_3.out) (by decide)) (fun k_ hk => ⟨trivial, hk.2⟩))).1 k_ hk_.symm) ?aF ?aO ?aB ?aS ?aL ?_; (case aP => exact Kd.M_row (Kd.R_mono (Kd.R_tight rfl (Kd.R_mono (ok' := fun k_ => ((fun _ => True)) k_ ∧ some k_ ≠ (u3 : Value).ownBlock) (Kd.R_apart' (HO855.out) (Kd.S_typed HO_3.out) (by decide)) (fun k_ hk => ⟨trivial, hk.2⟩))) (fun _ h_ => h_))); (case aB => exact (bH HB)); (case aF => exact (fun _ _ => trivial)); (case aO => exact (by (with_reducible repeat (first | apply Kd.S_alloc | apply Kd.S_drewN | apply Kd.S_drew)); exact Kd.S_mono HO_3.out (fun k_ hk => ⟨trivial, fun e_ => hk.2 e_⟩))); (case aS => exact (below_size (bH HB))); (case aL => have := LMc6.out; omega); intro v857 w8 ho hb hg hat; rw [← Ny856.out] at ho; have n0_ := Aside0.mk (hb); have n1_ := Aside0.mk (ho); clear HB; clear HO_3; clear HO855; have HB := n0_; have HO858 := n1_; clear n0_ n1_; clear ho hb hg hat))
       go_roundg k1
       case measure => have := HK1.out; omega
       case rel => exact ⟨(y856), (wrap64 (x8_1 + 1)), (by first | rfl | (simp; done) | (simp [*]; done)), H', ⟨by have := HK1.out; omega⟩, ⟨by (with_reducible repeat (first | apply Kd.S_alloc | apply Kd.S_drewN | apply Kd.S_drew)); exact HO858.out⟩, ⟨ bH HB⟩⟩
      ·rw [if_neg c6] at H
       exact absurd H (by simp)
     ·rw [if_neg c4] at H
      exact absurd H (by simp)
    ·rw [if_neg c3] at H
     exact absurd H (by simp)
   ·rw [if_neg c2] at H
    have c2b0 : decide (x8_1 < (l0.length : Int)) = false := decide_eq_false c2
    clear c2
    obtain rfl := Option.some.inj H
    go_wp2
    go_ret
    exact ⟨_, by first | rfl | (simp [errW_none, errW_some] <;> rfl) | (simp [*, errW_none, errW_some] <;> rfl), by (with_reducible repeat (first | apply Kd.S_alloc | apply Kd.S_drewN | apply Kd.S_drew)); exact HO_3.out, bH HB⟩

end Go.Proofs.Ytbonkedecfjmdaa.P

namespace Go.Proofs.Ytbonkedecfjmdaa.P
open Go.RowKit Go.Proofs.YtbonkedecfjmdaaW.PrintWords Go.Proofs.YtbonkedecfjmdaaW.PrintLast Go.Proofs.YtbonkedecfjmdaaW.PrintMore Go.Proofs.Ytbonkedecfjmdaa.X
attribute [local go_sem] max2_int min2_int max_two min_two max_three min_three max_four min_four add64_0 add64_1 add64   -- for this text's walks alone
set_option linter.unusedVariables false
set_option linter.unusedSimpArgs false

/-! ### slices_Clone_int_int: function 73 -/
def slices_Clone_int_int.f (l0 : List Int) : Option (List Int) := if l0.length < 17592186044416 then (some l0) else (none)
theorem slices_Clone_int_int.eqnil (w : World) (A : Option Addr) (n c : Nat) : (binOp .eql 32 (.slice A n c) (.slice none 0 0)).run Try.prog w = .ok (.bool A.isNone) w := run_eql_slice_nil w 32 3 A n c Try.underlying32
attribute [local go_sem] slices_Clone_int_int.eqnil
set_option maxHeartbeats 8000000 in
set_option maxRecDepth 100000 in
theorem slices_Clone_int_int.calls (A0 : Option Addr) (c0 : Nat) (l0 : List Int) (r : List Int) (w : World) (hr0 : Kd.C (Kd.int .i64) w A0 l0.length l0) (hc0 : l0.length ≤ c0) (h : slices_Clone_int_int.f l0 = some r) :
  Calls Try.prog 73 #[.slice A0 l0.length c0] w fun e w' => ∃ v0_ : Value, e = .returned (v0_) ∧ Kd.R (Kd.int .i64) 3 w' w.heap.size (fun _ => True) v0_ r ∧ Below w.heap.size w w' := by
 unfold slices_Clone_int_int.f at h
 by_cases hl : l0.length < 17592186044416
 ·rw [if_pos hl] at h
  obtain rfl := Option.some.inj h
  cases A0 with
  | none =>
   have hl0 : l0 = [] := by
    cases l0 with
    | nil => rfl
    | cons x l =>
     obtain ⟨ad, e, _⟩ := hr0.2.2 (by simp)
     cases e
   subst hl0
   go_enter Try.func73, Try.ntmps73
   go_wp2
   go_ret
   exact ⟨_, by first | rfl | (simp; done) | (simp <;> rfl), Kd.R_nil _ _ _ _ _, Below.refl _ _⟩
  | some ad =>
   go_enter Try.func73, Try.ntmps73
   go_wp2_with (first | ((with_reducible refine gate_dst (N := 5) rfl ?_); refine Kd.R_lit (Kd.int .i64) (w0 := w) w.heap.size 3 ?hg (N := 5) ?hd (xs := ([] : List Int)) (inner := []) (ok := fun _ => True) (okp := fun _ => True) ?hr ?hp (fun _ hk => hk) trivial (Below.refl _ _) (Nat.le_refl _) (by simp) ?_; (case hd => rfl); (case hg => rfl); (case hr => first | (go_simp; done) | (go_simp; rfl)); (case hp => exact (Reps.none _ _)); intro v1 w1 ho1 hb1 hg_ hnew_; clear hg_ hnew_) | ((with_reducible refine gate_builtin (b := .append) (xs := #[.tmp 5, .tmp 6]) rfl ?_); at_builtin; refine Kd.R_append_rows (Kd.int .i64) (w0 := w) w.heap.size rfl (.tmp 5) (.tmp 6) 32 3 ((.int .i64 0)) 8 rfl Try.underlying32 info3 rfl (by decide) (by omega) v1 [] l0 _ _ _ (fun _ => True) (fun _ => False) rfl rfl ?aO ?aR (fun _ _ h => h) (fun _ h => h.elim) ?aF ?aB ?aS ?aL ?_; (case aR => exact Kd.C_below hr0 hb1); (case aB => exact hb1); (case aF => exact (fun _ _ => trivial)); (case aO => exact ho1); (case aS => exact below_size hb1); (case aL => simp only [List.length_nil]; omega); intro v2 w2 ho2 hb2 hg2 hat2))
   go_ret
   exact ⟨_, by first | rfl | (simp; done) | (simp <;> rfl), ho2, hb2⟩
 ·rw [if_neg hl] at h; cases h

end Go.Proofs.Ytbonkedecfjmdaa.P

namespace Go.Proofs.Ytbonkedecfjmdaa.P
open Go.RowKit Go.Proofs.YtbonkedecfjmdaaW.PrintWords Go.Proofs.YtbonkedecfjmdaaW.PrintLast Go.Proofs.YtbonkedecfjmdaaW.PrintMore Go.Proofs.Ytbonkedecfjmdaa.X
attribute [local go_sem] max2_int min2_int max_two min_two max_three min_three max_four min_four add64_0 add64_1 add64   -- for this text's walks alone
set_option linter.unusedVariables false
set_option linter.unusedSimpArgs false

/-! ### ring_cloned_int: function 52 -/
def ring_cloned_int.l0 : Nat → List (List Int) → List (List Int) → Int → Int → Option ((List (List Int)))
 | 0, _, _, _, _ => none
 | k + 1, x3, x6, x7, x8 => if x8 < x7 then (if 0 ≤ x8 then (if x8 < (x6.length : Int) then ((slices_Clone_int_int.f (rd_L3 x6 x8)).bind fun t862 => (if x3.length < 5864062014805 then (ring_cloned_int.l0 k (x3 ++ [t862]) x6 x7 (wrap64 (x8 + 1))) else (none))) else (none)) else (none)) else (some x3)
def ring_cloned_int.f (k : Nat) (l0 : List (List Int)) : Option ((List (List Int))) := ring_cloned_int.l0 k ([] : List (List Int)) l0 (l0.length : Int) 0
theorem ring_cloned_int.mono_l : ∀ k, (∀ y0 y1 y2 y3, LeO (ring_cloned_int.l0 k y0 y1 y2 y3) (ring_cloned_int.l0 (k + 1) y0 y1 y2 y3))
 | 0 => fun _ _ _ _ r h => by simp [ring_cloned_int.l0] at h
 | k + 1 => by
  have ih0 := ring_cloned_int.mono_l k
  ·intro y0 y1 y2 y3
   unfold ring_cloned_int.l0
   repeat' first
   | (with_reducible exact ih0 _ _ _ _)
   | (with_reducible exact LeO.refl _)
   | (with_reducible exact LeO.none _)
   | (with_reducible refine LeO.ite ?_ ?_)
   | (with_reducible refine LeO.bind ?_ (fun _ => ?_))
   | exact ih0 _ _ _ _
   | exact LeO.none _
   | refine LeO.ite ?_ ?_
   | refine LeO.bind ?_ (fun _ => ?_)
theorem ring_cloned_int.mono : ∀ a0 k, LeO (ring_cloned_int.f k a0) (ring_cloned_int.f (k + 1) a0) := by
 intro a0 k
 have ih0 := ring_cloned_int.mono_l k
 unfold ring_cloned_int.f
 repeat' first
   | (with_reducible exact ih0 _ _ _ _)
   | (with_reducible exact LeO.refl _)
   | (with_reducible exact LeO.none _)
   | (with_reducible refine LeO.ite ?_ ?_)
   | (with_reducible refine LeO.bind ?_ (fun _ => ?_))
   | exact ih0 _ _ _ _
   | exact LeO.none _
   | refine LeO.ite ?_ ?_
   | refine LeO.bind ?_ (fun _ => ?_)
set_option maxHeartbeats 8000000 in
set_option maxRecDepth 100000 in
theorem ring_cloned_int.calls (k : Nat) (A0 : Option Addr) (c0 : Nat) (l0 : List (List Int)) (r : List (List Int)) (w : World) (hr0 : Kd.C (Kd.slice 3 (Kd.int .i64)) w A0 l0.length l0) (hc0 : l0.length ≤ c0) (h : ring_cloned_int.f k l0 = some r) :
  Calls Try.prog 52 #[.slice A0 l0.length c0] w fun e w' => ∃ v0_ : Value, e = .returned (v0_) ∧ Kd.S (Kd.slice 3 (Kd.int .i64)) 32 w' w.heap.size (fun _ => True) v0_ r ∧ Below w.heap.size w w' := by
 have HR0 := Aside0.mk hr0
 have HC0 := Aside0.mk hc0
 clear hr0 hc0
 have HB := Aside0.mk (Below.refl w.heap.size w)
 have H : (ring_cloned_int.l0 k ([] : List (List Int)) l0 (l0.length : Int) 0) = some r := h
 clear h
 have H' := Aside0.mk H
 clear H
 go_enter Try.func52, Try.ntmps52
 go_wp2
 go_loopg [3, 8] k (fun kq v3 v8 w' => ∃ (x3_1 : List (List Int)) (x8_1 : Int), v8 = .int .i64 x8_1 ∧ Aside0 (ring_cloned_int.l0 kq x3_1 l0 (l0.length : Int) x8_1 = some r) ∧ Aside0 (kq ≤ k) ∧ Aside0 (Kd.S (Kd.slice 3 (Kd.int .i64)) 32 w' w.heap.size (fun _ => True) v3 x3_1) ∧ Aside0 (Below w.heap.size w w'))
 case atStart => exact ⟨(([] : List (List Int))), (0), (by first | rfl | (simp; done) | (simp [*]; done)), H', ⟨Nat.le_refl _⟩, ⟨by first | exact Kd.S_nil _ _ _ _ _ | exact Kd.N_nil _ _ _ _ _ | exact Kd.V_nil _ _ _ _ _ | exact Kd.Q_nil _ _ _ _ _ | exact Kd.R_nil _ _ _ _ _⟩, ⟨ bH HB⟩⟩
 case round =>
  clear H'
  obtain ⟨x3_1, x8_1, rfl, HA, HK1, HO_3, HB⟩ := hrel
  cases gk with
  | zero => exact absurd HA.out (by simp [ring_cloned_int.l0])
  | succ k1 =>
   have H := HA.out
   clear HA
   simp only [ring_cloned_int.l0] at H
   by_cases c2 : x8_1 < (l0.length : Int)
   ·rw [if_pos c2] at H
    have c2b0 : decide (x8_1 < (l0.length : Int)) = true := decide_eq_true c2
    clear c2
    by_cases c3 : 0 ≤ x8_1
    ·rw [if_pos c3] at H
     have c3b0 : decide (0 ≤ x8_1) = true := decide_eq_true c3
     clear c3
     by_cases c4 : x8_1 < (l0.length : Int)
     ·rw [if_pos c4] at H
      have c4b0 : decide (x8_1 < (l0.length : Int)) = true := decide_eq_true c4
      clear c4
      replace H := Option.bind_eq_some_iff.mp H
      obtain ⟨t862, A50, H⟩ := H
      replace H : (if x3_1.length < 5864062014805 then (ring_cloned_int.l0 k1 (x3_1 ++ [t862]) l0 (l0.length : Int) (wrap64 (x8_1 + 1))) else (none)) = some r := H
      have A5 := Aside0.mk A50
      clear A50
      by_cases c6 : x3_1.length < 5864062014805
      ·rw [if_pos c6] at H
       have LMc6 := Aside0.mk c6
       clear c6
       obtain ⟨y865, hy865⟩ : ∃ y_ : List (List Int), y_ = (x3_1 ++ [t862]) := ⟨_, rfl⟩
       replace H : (ring_cloned_int.l0 k1 y865 l0 (l0.length : Int) (wrap64 (x8_1 + 1))) = some r := by first | (rw [hy865]; with_reducible exact H) | (have H2_ := (Option.bind_some _ _).symm.trans H; rw [hy865]; with_reducible exact H2_) | (have H2_ := (Option.bind_some _ _).symm.trans H; with_reducible exact H2_) | with_reducible exact H | (rw [hy865]; exact H) | exact H
       have Ny865 := Aside0.mk hy865
       clear hy865
       have H' := Aside0.mk H
       clear H
       have p861 : 0 ≤ (x8_1 : Int) := of_decide_eq_true (by first | (with_reducible assumption) | assumption)
       have q861 : x8_1 < (l0.length : Int) := of_decide_eq_true (by first | (with_reducible assumption) | assumption)
       obtain ⟨ad861, A861_0, c861_0, e861, hx861_0, hl861_0, hi861_0⟩ := at_L3 HR0.out x8_1 p861 q861
       cases e861
       replace hx861_0 := (HB.out.cell (World.block_lt_of_cell? w _ hx861_0)).trans hx861_0
       have HR861_0 := Aside0.mk hi861_0
       have HC861_0 := Aside0.mk hl861_0
       clear hi861_0 hl861_0
       replace p861 := eq_true p861
       replace q861 := eq_true q861
       go_wp2_with (first | ((with_reducible refine gate_callee (f := 73) rfl ?_); refine goesL_ (some 14) rfl rfl Try.func73 (by kernel_rfl) rfl #[.slice A861_0 (rd_L3 l0 x8_1).length c861_0] rfl (by (try simp only [List.map_toArray, List.map_cons, List.map_nil]); first | done | rfl | (simp only [List.length_drop, List.length_take]; rfl)) ?_; (with_reducible refine (slices_Clone_int_int.calls _ _ (rd_L3 l0 x8_1) t862 _ ?side1 ?side2 A5.out).mono ?_); (case side1 => repeat (first | exact (Kd.C_below HR861_0.out HB.out) | (with_reducible refine Kd.C_alloc ?_ _) | (with_reducible refine Kd.C_drewN ?_ _) | (with_reducible refine Kd.C_drew ?_))); (case side2 => exact HC861_0.out); rintro e w7 ⟨v863, rfl, ho0, hb⟩; refine ⟨_, rfl, ?_⟩; have n0_ := Aside0.mk (Kd.S_elder' (by (with_reducible repeat (first | apply Kd.S_alloc | apply Kd.S_drewN | apply Kd.S_drew)); exact HO_3.out) (Kd.R_base ho0) hb); have n1_ := Aside0.mk (Kd.R_lower ho0 (below_size (bH HB))); have n2_ := Aside0.mk (below_step (bH HB) hb); clear HO_3; clear HB; have HO_3 := n0_; have HO864 := n1_; have HB := n2_; clear n0_ n1_ n2_; (try clear hb); (try clear hb2); (try clear hk); (try clear hi); (try clear ho0); obtain ⟨Ao9, co9, eo9⟩ := Kd.R_slice HO864.out; subst eo9) | ((with_reducible refine gate_builtin (b := .append) (xs := #[.tmp 12, .tmp 15]) rfl ?_); at_builtin; refine Kd.S_append (Kd.slice 3 (Kd.int .i64)) (w0 := w) w.heap.size rfl (.tmp 12) (.tmp 15) 23 32 (.slice none 0 0) 24 rfl Try.underlying23 info32 rfl (by decide) (by omega) u3 x3_1 t862 [.slice Ao9 t862.length co9] (fun _ => True) (fun k_ => some k_ = (.slice Ao9 t862.length co9 : Value).ownBlock) rfl rfl ?aP (fun k_ hk_ => ((Kd.R_mono (ok' := fun k_ => ((fun _ => True)) k_ ∧ some k_ ≠ (u3 : Value).ownBlock) (Kd.R_apart' (HO864.out) (Kd.S_typed HO_3.out) (by decide)) (fun k_ hk => ⟨trivial, hk.2⟩))).1 k_ hk_.symm) ?aF ?aO ?aB ?aS ?aL ?_; (case aP => exact Kd.M_row (Kd.R_mono (Kd.R_tight rfl (Kd.R_mono (ok' := fun k_ => ((fun _ => True)) k_ ∧ some k_ ≠ (u3 : Value).ownBlock) (Kd.R_apart' (HO864.out) (Kd.S_typed HO_3.out) (by decide)) (fun k_ hk => ⟨trivial, hk.2⟩))) (fun _ h_ => h_))); (case aB => exact (bH HB)); (case aF => exact (fun _ _ => trivial)); (case aO => exact (by (with_reducible repeat (first | apply Kd.S_alloc | apply Kd.S_drewN | apply Kd.S_drew)); exact Kd.S_mono HO_3.out (fun k_ hk => ⟨trivial, fun e_ => hk.2 e_⟩))); (case aS => exact (below_size (bH HB))); (case aL => have := LMc6.out; omega); intro v866 w8 ho hb hg hat; rw [← Ny865.out] at ho; have n0_ := Aside0.mk (hb); have n1_ := Aside0.mk (ho); clear HB; clear HO_3; clear HO864; have HB := n0_; have HO867 := n1_; clear n0_ n1_; clear ho hb hg hat))
       go_roundg k1
       case measure => have := HK1.out; omega
       case rel => exact ⟨(y865), (wrap64 (x8_1 + 1)), (by first | rfl | (simp; done) | (simp [*]; done)), H', ⟨by have := HK1.out; omega⟩, ⟨by (with_reducible repeat (first | apply Kd.S_alloc | apply Kd.S_drewN | apply Kd.S_drew)); exact HO867.out⟩, ⟨ bH HB⟩⟩
      ·rw [if_neg c6] at H
       exact absurd H (by simp)
     ·rw [if_neg c4] at H
      exact absurd H (by simp)
    ·rw [if_neg c3] at H
     exact absurd H (by simp)
   ·rw [if_neg c2] at H
    have c2b0 : decide (x8_1 < (l0.length : Int)) = false := decide_eq_false c2
    clear c2
    obtain rfl := Option.some.inj H
    go_wp2
    go_ret
    exact ⟨_, by first | rfl | (simp [errW_none, errW_some] <;> rfl) | (simp [*, errW_none, errW_some] <;> rfl), by (with_reducible repeat (first | apply Kd.S_alloc | apply Kd.S_drewN | apply Kd.S_drew)); exact HO_3.out, bH HB⟩

end Go.Proofs.Ytbonkedecfjmdaa.P
