/- Written for this claim by a program of this session (a turned copy of the print): Go functions as Lean functions, and that the Go code comes to just these answers; or a statement proved out of them. No condition. -/
import Derived.Test.YtlnjbpapbifjfaaPx0
namespace Go.Proofs.Ytlnjbpapbifjfaa.P
open Go.RowKit Go.Proofs.YtlnjbpapbifjfaaW.PrintWords Go.Proofs.YtlnjbpapbifjfaaW.PrintLast Go.Proofs.YtlnjbpapbifjfaaW.PrintMore Go.Proofs.Ytlnjbpapbifjfaa.X
attribute [local go_sem] max2_int min2_int max_two min_two max_three min_three max_four min_four add64_0 add64_1 add64   -- for this text's walks alone
set_option linter.unusedVariables false
set_option linter.unusedSimpArgs false

/-! ### lapidaryref08_Cmp: function 34 -/
mutual
def lapidaryref08_Cmp.l0 : Nat → Int → List Int → List Int → Option (Int)
 | 0, _, _, _ => none
 | k + 1, x5, x192000, x193000 => if x5 ≥ 0 then (if 0 ≤ x5 then (if x5 < (x192000.length : Int) then (if x5 < (x193000.length : Int) then (if x5 = 7 then (lapidaryref08_Cmp.j1 k x5 (Int.tmod (wrap64 ((rd x192000 x5) + 32768)) 65536) (Int.tmod (wrap64 ((rd x193000 x5) + 32768)) 65536) x192000 x193000) else (lapidaryref08_Cmp.j1 k x5 (rd x192000 x5) (rd x193000 x5) x192000 x193000)) else (none)) else (none)) else (none)) else (some 0)
def lapidaryref08_Cmp.j1 : Nat → Int → Int → Int → List Int → List Int → Option (Int)
 | 0, _, _, _, _, _ => none
 | k + 1, x5, x6, x7, x192000, x193000 => if x6 < x7 then (some (-1)) else (if x6 > x7 then (some 1) else (lapidaryref08_Cmp.l0 k (wrap64 (x5 - 1)) x192000 x193000))
end
def lapidaryref08_Cmp.f (k : Nat) (l0_0 : List Int) (l1_0 : List Int) : Option (Int) := lapidaryref08_Cmp.l0 k 7 l0_0 l1_0
theorem lapidaryref08_Cmp.mono_l : ∀ k, (∀ y0 y1 y2, LeO (lapidaryref08_Cmp.l0 k y0 y1 y2) (lapidaryref08_Cmp.l0 (k + 1) y0 y1 y2)) ∧ (∀ y0 y1 y2 y3 y4, LeO (lapidaryref08_Cmp.j1 k y0 y1 y2 y3 y4) (lapidaryref08_Cmp.j1 (k + 1) y0 y1 y2 y3 y4))
 | 0 => ⟨fun _ _ _ r h => by simp [lapidaryref08_Cmp.l0] at h, fun _ _ _ _ _ r h => by simp [lapidaryref08_Cmp.j1] at h⟩
 | k + 1 => by
  obtain ⟨ih0, ih1⟩ := lapidaryref08_Cmp.mono_l k
  refine ⟨?_, ?_⟩
  ·intro y0 y1 y2
   unfold lapidaryref08_Cmp.l0
   repeat' first
   | (with_reducible exact ih0 _ _ _)
   | (with_reducible exact ih1 _ _ _ _ _)
   | (with_reducible exact LeO.refl _)
   | (with_reducible exact LeO.none _)
   | (with_reducible refine LeO.ite ?_ ?_)
   | (with_reducible refine LeO.bind ?_ (fun _ => ?_))
   | exact ih0 _ _ _
   | exact ih1 _ _ _ _ _
   | exact LeO.none _
   | refine LeO.ite ?_ ?_
   | refine LeO.bind ?_ (fun _ => ?_)
  ·intro y0 y1 y2 y3 y4
   unfold lapidaryref08_Cmp.j1
   repeat' first
   | (with_reducible exact ih0 _ _ _)
   | (with_reducible exact ih1 _ _ _ _ _)
   | (with_reducible exact LeO.refl _)
   | (with_reducible exact LeO.none _)
   | (with_reducible refine LeO.ite ?_ ?_)
   | (with_reducible refine LeO.bind ?_ (fun _ => ?_))
   | exact ih0 _ _ _
   | exact ih1 _ _ _ _ _
   | exact LeO.none _
   | refine LeO.ite ?_ ?_
   | refine LeO.bind ?_ (fun _ => ?_)
theorem lapidaryref08_Cmp.mono : ∀ a0 a1 k, LeO (lapidaryref08_Cmp.f k a0 a1) (lapidaryref08_Cmp.f (k + 1) a0 a1) := by
 intro a0 a1 k
 obtain ⟨ih0, ih1⟩ := lapidaryref08_Cmp.mono_l k
 unfold lapidaryref08_Cmp.f
 repeat' first
   | (with_reducible exact ih0 _ _ _)
   | (with_reducible exact ih1 _ _ _ _ _)
   | (with_reducible exact LeO.refl _)
   | (with_reducible exact LeO.none _)
   | (with_reducible refine LeO.ite ?_ ?_)
   | (with_reducible refine LeO.bind ?_ (fun _ => ?_))
   | exact ih0 _ _ _
   | exact ih1 _ _ _ _ _
   | exact LeO.none _
   | refine LeO.ite ?_ ?_
   | refine LeO.bind ?_ (fun _ => ?_)
set_option maxHeartbeats 8000000 in
set_option maxRecDepth 100000 in
theorem lapidaryref08_Cmp.calls (k : Nat) (A0_0 : Option Addr) (c0_0 : Nat) (l0_0 : List Int) (A1_0 : Option Addr) (c1_0 : Nat) (l1_0 : List Int) (r : Int) (w : World) (hr0_0 : Kd.C (Kd.int .i64) w A0_0 l0_0.length l0_0) (hc0_0 : l0_0.length ≤ c0_0) (hr1_0 : Kd.C (Kd.int .i64) w A1_0 l1_0.length l1_0) (hc1_0 : l1_0.length ≤ c1_0) (h : lapidaryref08_Cmp.f k l0_0 l1_0 = some r) :
  Calls Try.prog 34 #[.agg #[.slice A0_0 l0_0.length c0_0], .agg #[.slice A1_0 l1_0.length c1_0]] w fun e w' => e = .returned (.int .i64 r) ∧ Below w.heap.size w w' := by
 have hu36 := Try.underlying36
 have HR0_0 := Aside0.mk hr0_0
 have HC0_0 := Aside0.mk hc0_0
 clear hr0_0 hc0_0
 have HR1_0 := Aside0.mk hr1_0
 have HC1_0 := Aside0.mk hc1_0
 clear hr1_0 hc1_0
 have HB := Aside0.mk (Below.refl w.heap.size w)
 have H : (lapidaryref08_Cmp.l0 k 7 l0_0 l1_0) = some r := h
 clear h
 have H' := Aside0.mk H
 clear H
 go_enter Try.func34, Try.ntmps34
 go_wp2_with (first | ((with_reducible refine gate_dst (N := 2) rfl ?_); refine box_event ?hg (N := 2) ?hd (cs := #[.slice A0_0 l0_0.length c0_0]) (t := 36) ?hr ?_; (case hd => rfl); (case hg => rfl); (case hr => first | (go_simp; done) | (go_simp; rfl)); intro gb191 hg w3 hbox hb; have n0_ := Aside0.mk (below_step (bH HB) hb); have n1_ := Aside0.mk (hbox); have n2_ := Aside0.mk ((by rw [hg]; exact (below_size (bH HB)) : w.heap.size ≤ gb191)); have n3_ := n2_; clear HB; have HB := n0_; have BK191 := n1_; have GW191 := n2_; have GE191 := n3_; clear n0_ n1_ n2_ n3_; clear hb hbox hg) | ((with_reducible refine gate_dst (N := 3) rfl ?_); refine box_event ?hg (N := 3) ?hd (cs := #[.slice A1_0 l1_0.length c1_0]) (t := 36) ?hr ?_; (case hd => rfl); (case hg => rfl); (case hr => first | (go_simp; done) | (go_simp; rfl)); intro gb192 hg w4 hbox hb; have n0_ := Aside0.mk (blk_below (g := gb191) (o := .cells #[.slice A0_0 l0_0.length c0_0] 36 (0, 0)) (bK BK191) hb); have n1_ := Aside0.mk (below_step (bH HB) hb); have n2_ := Aside0.mk (hbox); have n3_ := Aside0.mk ((by rw [hg]; exact (below_size (bH HB)) : w.heap.size ≤ gb192)); have n4_ := n3_; have n5_ := Aside0.mk ((by rw [hg]; exact Nat.ne_of_lt (blk_lt (bK BK191)) : gb191 ≠ gb192)); have n6_ := Aside0.mk ((by rw [hg]; exact Nat.ne_of_gt (blk_lt (bK BK191)) : gb192 ≠ gb191)); clear BK191; clear HB; have BK191 := n0_; have HB := n1_; have BK192 := n2_; have GW192 := n3_; have GE192 := n4_; have NB191_192 := n5_; have NB192_191 := n6_; clear n0_ n1_ n2_ n3_ n4_ n5_ n6_; clear hb hbox hg))
 go_loopg [5] k (fun kq v5 w' => ∃ (x5_1 : Int), v5 = .int .i64 x5_1 ∧ Aside0 (lapidaryref08_Cmp.l0 kq x5_1 l0_0 l1_0 = some r) ∧ Aside0 (kq ≤ k) ∧ Aside0 (w'.heap[gb191]? = some (.cells #[(.slice A0_0 l0_0.length c0_0)] 36 (0, 0))) ∧ Aside0 (w'.heap[gb192]? = some (.cells #[(.slice A1_0 l1_0.length c1_0)] 36 (0, 0))) ∧ Aside0 (Below w.heap.size w w'))
 case atStart => exact ⟨(7), (by first | rfl | (simp; done) | (simp [*]; done)), H', ⟨Nat.le_refl _⟩, ⟨bK BK191⟩, ⟨bK BK192⟩, ⟨ bH HB⟩⟩
 case round =>
  clear H'
  try clear c1
  try clear p2
  try clear c3
  obtain ⟨x5_1, rfl, HA, HK1, BK191, BK192, HB⟩ := hrel
  cases gk with
  | zero => exact absurd HA.out (by simp [lapidaryref08_Cmp.l0])
  | succ k1 =>
   have H := HA.out
   clear HA
   simp only [lapidaryref08_Cmp.l0] at H
   by_cases c5 : x5_1 ≥ 0
   ·rw [if_pos c5] at H
    have c5b0 : decide (0 ≤ x5_1) = true := decide_eq_true c5
    clear c5
    by_cases c6 : 0 ≤ x5_1
    ·rw [if_pos c6] at H
     have c6b0 : decide (0 ≤ x5_1) = true := decide_eq_true c6
     clear c6
     by_cases c7 : x5_1 < (l0_0.length : Int)
     ·rw [if_pos c7] at H
      have c7b0 : decide (x5_1 < (l0_0.length : Int)) = true := decide_eq_true c7
      clear c7
      by_cases c8 : x5_1 < (l1_0.length : Int)
      ·rw [if_pos c8] at H
       have c8b0 : decide (x5_1 < (l1_0.length : Int)) = true := decide_eq_true c8
       clear c8
       have HC9 := Aside0.mk H
       clear H
       have hnb10 := NB191_192.out
       have hnc10 := NB192_191.out
       have hcz11_0 : wr.cell? ⟨gb191, 0, none⟩ = some (.slice A0_0 l0_0.length c0_0) := (blk_cell BK191.out 0).trans rfl
       have hfz11_0 := blk_frozen BK191.out 0
       have p193 : 0 ≤ (x5_1 : Int) := of_decide_eq_true (by first | (with_reducible assumption) | assumption)
       have q193 : x5_1 < (l0_0.length : Int) := of_decide_eq_true (by first | (with_reducible assumption) | assumption)
       obtain ⟨ad193, e193, hx193_0⟩ := Kd.at_int HR0_0.out x5_1 p193 q193
       cases e193
       replace hx193_0 := (HB.out.cell (World.block_lt_of_cell? w _ hx193_0)).trans hx193_0
       replace p193 := eq_true p193
       replace q193 := eq_true q193
       have hcz12_0 : wr.cell? ⟨gb192, 0, none⟩ = some (.slice A1_0 l1_0.length c1_0) := (blk_cell BK192.out 0).trans rfl
       have hfz12_0 := blk_frozen BK192.out 0
       have p194 : 0 ≤ (x5_1 : Int) := of_decide_eq_true (by first | (with_reducible assumption) | assumption)
       have q194 : x5_1 < (l1_0.length : Int) := of_decide_eq_true (by first | (with_reducible assumption) | assumption)
       obtain ⟨ad194, e194, hx194_0⟩ := Kd.at_int HR1_0.out x5_1 p194 q194
       cases e194
       replace hx194_0 := (HB.out.cell (World.block_lt_of_cell? w _ hx194_0)).trans hx194_0
       replace p194 := eq_true p194
       replace q194 := eq_true q194
       go_upto_if 23 with (fail)
       go_cut [6, 7] (fun v6 v7 wc => ∃ (kq : Nat) (x6_8 : Int) (x7_8 : Int), v6 = .int .i64 x6_8 ∧ v7 = .int .i64 x7_8 ∧ Aside0 (lapidaryref08_Cmp.j1 kq x5_1 x6_8 x7_8 l0_0 l1_0 = some r) ∧ Aside0 (kq ≤ k1) ∧ Aside0 (wc.heap[gb191]? = some (.cells #[(.slice (some ad193) l0_0.length c0_0)] 36 (0, 0))) ∧ Aside0 (wc.heap[gb192]? = some (.cells #[(.slice (some ad194) l1_0.length c1_0)] 36 (0, 0))) ∧ Aside0 (Below w.heap.size w wc))
       case first =>
        have H := HC9.out
        clear HC9
        by_cases c13 : x5_1 = 7
        ·rw [if_pos c13] at H
         have c13b0 : (x5_1 == 7) = true := beq_iff_eq.mpr c13
         have c13b1 : (x5_1 != 7) = false := bne_eq_false_iff_eq.mpr c13
         clear c13
         (first | rw [c13b0] | (simp only [i64_w, i32_w]; rw [c13b0]) | skip)
         have H' := Aside0.mk H
         clear H
         go_wp2
         go_meet
         case rel => exact ⟨_, (Int.tmod (wrap64 ((rd l0_0 x5_1) + 32768)) 65536), (Int.tmod (wrap64 ((rd l1_0 x5_1) + 32768)) 65536), (by first | rfl | (simp; done) | (simp [*]; done)), (by first | rfl | (simp; done) | (simp [*]; done)), H', ⟨by have := HK1.out; first | omega | exact Nat.le_refl _⟩, ⟨bK BK191⟩, ⟨bK BK192⟩, ⟨ bH HB⟩⟩
        ·rw [if_neg c13] at H
         have c13b0 : (x5_1 == 7) = false := beq_eq_false_iff_ne.mpr c13
         have c13b1 : (x5_1 != 7) = true := bne_iff_ne.mpr c13
         (first | rw [c13b0] | (simp only [i64_w, i32_w]; rw [c13b0]) | skip)
         have H' := Aside0.mk H
         clear H
         go_wp2
         go_meet
         case rel => exact ⟨_, (rd l0_0 x5_1), (rd l1_0 x5_1), (by first | rfl | (simp; done) | (simp [*]; done)), (by first | rfl | (simp; done) | (simp [*]; done)), H', ⟨by have := HK1.out; first | omega | exact Nat.le_refl _⟩, ⟨bK BK191⟩, ⟨bK BK192⟩, ⟨ bH HB⟩⟩
       case rest =>
        clear HC9
        try clear c1
        try clear p1
        try clear q1
        try clear hx1
        try clear p2
        try clear c3
        try clear c5
        try clear c5b0
        try clear c6
        try clear c6b0
        try clear p6
        try clear c7
        try clear c7b0
        try clear c8
        try clear c8b0
        try clear c10
        try clear c13
        try clear c13b0
        try clear c13b1
        try clear hcz11_0
        try clear hcz12_0
        try clear hfz11_0
        try clear hfz12_0
        try clear hx193_0
        try clear hx194_0
        try clear p193
        try clear p194
        try clear p2
        try clear q193
        try clear q194
        obtain ⟨kq, x6_8, x7_8, rfl, rfl, HA, HJ8, BK191, BK192, HB⟩ := hcut
        cases kq with
        | zero => exact absurd HA.out (by simp [lapidaryref08_Cmp.j1])
        | succ kj8 =>
         have H := HA.out
         clear HA
         simp only [lapidaryref08_Cmp.j1] at H
         by_cases c14 : x6_8 < x7_8
         ·rw [if_pos c14] at H
          have c14b0 : decide (x6_8 < x7_8) = true := decide_eq_true c14
          clear c14
          obtain rfl := Option.some.inj H
          go_wp2
          go_ret
          exact ⟨by first | rfl | (simp [errW_none, errW_some] <;> rfl) | (simp [*, errW_none, errW_some] <;> rfl), bH HB⟩
         ·rw [if_neg c14] at H
          have c14b0 : decide (x6_8 < x7_8) = false := decide_eq_false c14
          clear c14
          by_cases c15 : x6_8 > x7_8
          ·rw [if_pos c15] at H
           have c15b0 : decide (x7_8 < x6_8) = true := decide_eq_true c15
           clear c15
           obtain rfl := Option.some.inj H
           go_wp2
           go_ret
           exact ⟨by first | rfl | (simp [errW_none, errW_some] <;> rfl) | (simp [*, errW_none, errW_some] <;> rfl), bH HB⟩
          ·rw [if_neg c15] at H
           have c15b0 : decide (x7_8 < x6_8) = false := decide_eq_false c15
           clear c15
           have H' := Aside0.mk H
           clear H
           go_wp2
           go_roundg kj8
           case measure => have := HK1.out; have := HJ8.out; omega
           case rel => exact ⟨(wrap64 (x5_1 - 1)), (by first | rfl | (simp; done) | (simp [*]; done)), H', ⟨by have := HK1.out; have := HJ8.out; omega⟩, ⟨bK BK191⟩, ⟨bK BK192⟩, ⟨ bH HB⟩⟩
      ·rw [if_neg c8] at H
       exact absurd H (by simp)
     ·rw [if_neg c7] at H
      exact absurd H (by simp)
    ·rw [if_neg c6] at H
     exact absurd H (by simp)
   ·rw [if_neg c5] at H
    have c5b0 : decide (0 ≤ x5_1) = false := decide_eq_false c5
    clear c5
    obtain rfl := Option.some.inj H
    go_wp2
    go_ret
    exact ⟨by first | rfl | (simp [errW_none, errW_some] <;> rfl) | (simp [*, errW_none, errW_some] <;> rfl), bH HB⟩

end Go.Proofs.Ytlnjbpapbifjfaa.P
