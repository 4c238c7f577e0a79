/- Written for this claim by a program of this session (a turned copy of the print): Go functions as Lean functions, and that the Go code comes to just these answers; or a statement proved out of them. No condition. -/
import Derived.Test.YtglmfnaofpbpfaaZ2
import Derived.Test.YtglmfnaofpbpfaaZ4
import Derived.Test.YtglmfnaofpbpfaaZ3

namespace Go.Proofs.Ytglmfnaofpbpfaa.P
open Go.RowKit Go.Proofs.YtglmfnaofpbpfaaW.PrintWords Go.Proofs.YtglmfnaofpbpfaaW.PrintLast Go.Proofs.YtglmfnaofpbpfaaW.PrintMore Go.Proofs.Ytglmfnaofpbpfaa.X
attribute [local go_sem] max2_int min2_int max_two min_two max_three min_three max_four min_four   -- for this text's walks alone
set_option linter.unusedVariables false
set_option linter.unusedSimpArgs false

/-! ### frame_section: function 24 -/
def frame_section.j0 : Nat → List Int → Int → Int → Bool → Option (Int × List Int × Int × Int)
 | 0, _, _, _, _ => none
 | k + 1, x0, x1, x9, x37 => if x37 = true then (some (0, ([] : List Int), 0, 11)) else ((vint_Get.f k x0 (wrap64 (x1 + 1))).bind fun bt254 => (if bt254.2.2 = 0 then (if bt254.1 > 1048576 then (some (0, ([] : List Int), 0, 3)) else (if (wrap64 ((wrap64 (bt254.1)) + 4)) > (wrap64 ((x0.length : Int) - bt254.2.1)) then (some (0, ([] : List Int), 0, 10)) else (if 0 ≤ x1 then (if x1 ≤ (wrap64 ((wrap64 (bt254.2.1 + (wrap64 (bt254.1)))) + 4)) then (if (wrap64 ((wrap64 (bt254.2.1 + (wrap64 (bt254.1)))) + 4)) ≤ (x0.length : Int) then ((crc_Check.f k ((x0.take ((wrap64 ((wrap64 (bt254.2.1 + (wrap64 (bt254.1)))) + 4)) : Int).toNat).drop (x1 : Int).toNat)).bind fun bt258 => (if bt258.2 = 0 then (if 0 ≤ bt254.2.1 then (if bt254.2.1 ≤ (wrap64 ((wrap64 ((wrap64 (bt254.2.1 + (wrap64 (bt254.1)))) + 4)) - 4)) then (if (wrap64 ((wrap64 ((wrap64 (bt254.2.1 + (wrap64 (bt254.1)))) + 4)) - 4)) ≤ (x0.length : Int) then (if ([] : List Int).length + ((x0.take ((wrap64 ((wrap64 ((wrap64 (bt254.2.1 + (wrap64 (bt254.1)))) + 4)) - 4)) : Int).toNat).drop (bt254.2.1 : Int).toNat).length < 140737488355328 then (some (x9, (([] : List Int) ++ ((x0.take ((wrap64 ((wrap64 ((wrap64 (bt254.2.1 + (wrap64 (bt254.1)))) + 4)) - 4)) : Int).toNat).drop (bt254.2.1 : Int).toNat)), wrap64 ((wrap64 (bt254.2.1 + (wrap64 (bt254.1)))) + 4), 0)) else (none)) else (none)) else (none)) else (none)) else (some (0, ([] : List Int), 0, bt258.2)))) else (none)) else (none)) else (none)))) else (some (0, ([] : List Int), 0, bt254.2.2))))
def frame_section.f (k : Nat) (l0 : List Int) (a1 : Int) (a2 : Int) : Option (Int × List Int × Int × Int) := if a1 = (l0.length : Int) then (some (0, ([] : List Int), 0, 10)) else (if 0 ≤ a1 then (if a1 < (l0.length : Int) then (if (wrap64 (rd l0 a1)) = 0 then (some (0, ([] : List Int), wrap64 (a1 + 1), 0)) else (if (wrap64 (rd l0 a1)) ≤ a2 then (frame_section.j0 k l0 a1 (wrap64 (rd l0 a1)) true) else (frame_section.j0 k l0 a1 (wrap64 (rd l0 a1)) (decide ((wrap64 (rd l0 a1)) > 9))))) else (none)) else (none))
theorem frame_section.mono_l : ∀ k, (∀ y0 y1 y2 y3, LeO (frame_section.j0 k y0 y1 y2 y3) (frame_section.j0 (k + 1) y0 y1 y2 y3))
 | 0 => fun _ _ _ _ r h => by simp [frame_section.j0] at h
 | k + 1 => by
  have ih0 := frame_section.mono_l k
  ·intro y0 y1 y2 y3
   unfold frame_section.j0
   repeat' first
   | (with_reducible exact ih0 _ _ _ _)
   | (with_reducible exact crc_Check.mono _ _)
   | (with_reducible exact vint_Get.mono _ _ _)
   | (with_reducible exact LeO.refl _)
   | (with_reducible exact LeO.none _)
   | (with_reducible refine LeO.ite ?_ ?_)
   | (with_reducible refine LeO.bind ?_ (fun _ => ?_))
   | exact ih0 _ _ _ _
   | exact crc_Check.mono _ _
   | exact vint_Get.mono _ _ _
   | exact LeO.none _
   | refine LeO.ite ?_ ?_
   | refine LeO.bind ?_ (fun _ => ?_)
theorem frame_section.mono : ∀ a0 a1 a2 k, LeO (frame_section.f k a0 a1 a2) (frame_section.f (k + 1) a0 a1 a2) := by
 intro a0 a1 a2 k
 have ih0 := frame_section.mono_l k
 unfold frame_section.f
 repeat' first
   | (with_reducible exact ih0 _ _ _ _)
   | (with_reducible exact crc_Check.mono _ _)
   | (with_reducible exact vint_Get.mono _ _ _)
   | (with_reducible exact LeO.refl _)
   | (with_reducible exact LeO.none _)
   | (with_reducible refine LeO.ite ?_ ?_)
   | (with_reducible refine LeO.bind ?_ (fun _ => ?_))
   | exact ih0 _ _ _ _
   | exact crc_Check.mono _ _
   | exact vint_Get.mono _ _ _
   | exact LeO.none _
   | refine LeO.ite ?_ ?_
   | refine LeO.bind ?_ (fun _ => ?_)
set_option maxHeartbeats 8000000 in
set_option maxRecDepth 100000 in
theorem frame_section.calls (k : Nat) (A0 : Option Addr) (c0 : Nat) (l0 : List Int) (a1 : Int) (a2 : Int) (r1 : Int) (r2 : List Int) (r3 : Int) (r4 : Int) (w : World) (hr0 : Kd.C (Kd.int .u8) w A0 l0.length l0) (hc0 : l0.length ≤ c0) (h : frame_section.f k l0 a1 a2 = some (r1, r2, r3, r4)) :
  Calls Try.prog 24 #[.slice A0 l0.length c0, .int .i64 a1, .int .i64 a2] w fun e w' => ∃ v1_ : Value, e = .returned (.tuple #[.agg #[.int .i64 r1, v1_], .int .i64 r3, .int .i64 r4]) ∧ Kd.R (Kd.int .u8) 5 w' w.heap.size (fun _ => True) v1_ r2 ∧ Below w.heap.size w w' := by
 have hu48 := Try.underlying48
 have HR0 := Aside0.mk hr0
 have HC0 := Aside0.mk hc0
 clear hr0 hc0
 have HB := Aside0.mk (Below.refl w.heap.size w)
 have H : (if a1 = (l0.length : Int) then (some (0, ([] : List Int), 0, 10)) else (if 0 ≤ a1 then (if a1 < (l0.length : Int) then (if (wrap64 (rd l0 a1)) = 0 then (some (0, ([] : List Int), wrap64 (a1 + 1), 0)) else (if (wrap64 (rd l0 a1)) ≤ a2 then (frame_section.j0 k l0 a1 (wrap64 (rd l0 a1)) true) else (frame_section.j0 k l0 a1 (wrap64 (rd l0 a1)) (decide ((wrap64 (rd l0 a1)) > 9))))) else (none)) else (none))) = some (r1, r2, r3, r4) := h
 clear h
 have HC4 := Aside0.mk H
 clear H
 go_enter Try.func24, Try.ntmps24
 go_upto_if 19 with (first | ((with_reducible refine gate_dst (N := 6) rfl ?_); refine box_event ?hg (N := 6) ?hd (cs := #[.int .i64 0, .slice none 0 0]) (t := 48) ?hr ?_; (case hd => rfl); (case hg => rfl); (case hr => first | (go_simp; done) | (go_simp; rfl)); intro gb252 hg w5 hbox hb; have n0_ := Aside0.mk (below_step (bH HB) hb); have n1_ := Aside0.mk (hbox); have n2_ := Aside0.mk ((by rw [hg]; exact (below_size (bH HB)) : w.heap.size ≤ gb252)); have n3_ := n2_; clear HB; have HB := n0_; have BK252 := n1_; have GW252 := n2_; have GE252 := n3_; clear n0_ n1_ n2_ n3_; clear hb hbox hg))
 (try simp only [Act.put, List.setIfInBounds_toArray, List.set_cons_zero, List.set_cons_succ])
 have H := HC4.out
 clear HC4
 by_cases c6 : a1 = (l0.length : Int)
 ·rw [if_pos c6] at H
  have c6b0 : (a1 == (l0.length : Int)) = true := beq_iff_eq.mpr c6
  have c6b1 : (a1 != (l0.length : Int)) = false := bne_eq_false_iff_eq.mpr c6
  clear c6
  (first | rw [c6b0] | (simp only [i64_w, i32_w]; rw [c6b0]) | skip)
  simp only [Option.some.injEq, Prod.mk.injEq] at H
  obtain ⟨rfl, rfl, rfl, rfl⟩ := H
  have hcz7_0 : w5.cell? ⟨gb252, 0, none⟩ = some (.int .i64 0) := (blk_cell BK252.out 0).trans rfl
  have hcz7_1 : w5.cell? ⟨gb252, 1, none⟩ = some (.slice none 0 0) := (blk_cell BK252.out 1).trans rfl
  have hfz7_0 := blk_frozen BK252.out 0
  have hfz7_1 := blk_frozen BK252.out 1
  go_wp2
  refine bodyPost_ret (results_ctt rfl _ _ gb252 48 #[.int .i64 0, .slice none 0 0] (0, 0) _ rfl (by (with_reducible repeat (first | refine blk_drewN ?_ _ | refine blk_drew ?_ | refine blk_alloc ?_ _)); refine blk_put (cs := #[.int .i64 0, .slice none 0 0]) ?_ 1 _ rfl; (with_reducible repeat (first | refine blk_drewN ?_ _ | refine blk_drew ?_ | refine blk_alloc ?_ _)); refine blk_put (cs := #[.int .i64 0, .slice none 0 0]) ?_ 0 _ rfl; (with_reducible repeat (first | refine blk_drewN ?_ _ | refine blk_drew ?_ | refine blk_alloc ?_ _)); exact BK252.out) Try.underlying48 rfl (by kernel_rfl)) rfl ?_
  exact ⟨_, by first | rfl | (simp [errW_none, errW_some] <;> rfl) | (simp [*, errW_none, errW_some] <;> rfl), by first | exact Kd.R_nil _ _ _ _ _ | exact Kd.N_nil _ _ _ _ _ | exact Kd.V_nil _ _ _ _ _ | exact Kd.Q_nil _ _ _ _ _ | exact Kd.S_nil _ _ _ _ _, bH HB⟩
 ·rw [if_neg c6] at H
  have c6b0 : (a1 == (l0.length : Int)) = false := beq_eq_false_iff_ne.mpr c6
  have c6b1 : (a1 != (l0.length : Int)) = true := bne_iff_ne.mpr c6
  (first | rw [c6b0] | (simp only [i64_w, i32_w]; rw [c6b0]) | skip)
  by_cases c8 : 0 ≤ a1
  ·rw [if_pos c8] at H
   have c8b0 : decide (0 ≤ a1) = true := decide_eq_true c8
   clear c8
   by_cases c9 : a1 < (l0.length : Int)
   ·rw [if_pos c9] at H
    have c9b0 : decide (a1 < (l0.length : Int)) = true := decide_eq_true c9
    clear c9
    by_cases c10 : (wrap64 (rd l0 a1)) = 0
    ·rw [if_pos c10] at H
     have c10b0 : ((wrap64 (rd l0 a1)) == 0) = true := beq_iff_eq.mpr c10
     have c10b1 : ((wrap64 (rd l0 a1)) != 0) = false := bne_eq_false_iff_eq.mpr c10
     clear c10
     simp only [Option.some.injEq, Prod.mk.injEq] at H
     obtain ⟨rfl, rfl, rfl, rfl⟩ := H
     have p253 : 0 ≤ (a1 : Int) := of_decide_eq_true (by first | (with_reducible assumption) | assumption)
     have q253 : a1 < (l0.length : Int) := of_decide_eq_true (by first | (with_reducible assumption) | assumption)
     obtain ⟨ad253, e253, hx253_0⟩ := Kd.at_int HR0.out a1 p253 q253
     cases e253
     replace hx253_0 := (HB.out.cell (World.block_lt_of_cell? w _ hx253_0)).trans hx253_0
     replace p253 := eq_true p253
     replace q253 := eq_true q253
     have hcz11_0 : w5.cell? ⟨gb252, 0, none⟩ = some (.int .i64 0) := (blk_cell BK252.out 0).trans rfl
     have hcz11_1 : w5.cell? ⟨gb252, 1, none⟩ = some (.slice none 0 0) := (blk_cell BK252.out 1).trans rfl
     have hfz11_0 := blk_frozen BK252.out 0
     have hfz11_1 := blk_frozen BK252.out 1
     go_wp2
     refine bodyPost_ret (results_ctt rfl _ _ gb252 48 #[.int .i64 0, .slice none 0 0] (0, 0) _ rfl (by (with_reducible repeat (first | refine blk_drewN ?_ _ | refine blk_drew ?_ | refine blk_alloc ?_ _)); refine blk_put (cs := #[.int .i64 0, .slice none 0 0]) ?_ 1 _ rfl; (with_reducible repeat (first | refine blk_drewN ?_ _ | refine blk_drew ?_ | refine blk_alloc ?_ _)); refine blk_put (cs := #[.int .i64 0, .slice none 0 0]) ?_ 0 _ rfl; (with_reducible repeat (first | refine blk_drewN ?_ _ | refine blk_drew ?_ | refine blk_alloc ?_ _)); exact BK252.out) Try.underlying48 rfl (by kernel_rfl)) rfl ?_
     exact ⟨_, by first | rfl | (simp [errW_none, errW_some] <;> rfl) | (simp [*, errW_none, errW_some] <;> rfl), by first | exact Kd.R_nil _ _ _ _ _ | exact Kd.N_nil _ _ _ _ _ | exact Kd.V_nil _ _ _ _ _ | exact Kd.Q_nil _ _ _ _ _ | exact Kd.S_nil _ _ _ _ _, bH HB⟩
    ·rw [if_neg c10] at H
     have c10b0 : ((wrap64 (rd l0 a1)) == 0) = false := beq_eq_false_iff_ne.mpr c10
     have c10b1 : ((wrap64 (rd l0 a1)) != 0) = true := bne_iff_ne.mpr c10
     have HC12 := Aside0.mk H
     clear H
     have p253 : 0 ≤ (a1 : Int) := of_decide_eq_true (by first | (with_reducible assumption) | assumption)
     have q253 : a1 < (l0.length : Int) := of_decide_eq_true (by first | (with_reducible assumption) | assumption)
     obtain ⟨ad253, e253, hx253_0⟩ := Kd.at_int HR0.out a1 p253 q253
     cases e253
     replace hx253_0 := (HB.out.cell (World.block_lt_of_cell? w _ hx253_0)).trans hx253_0
     replace p253 := eq_true p253
     replace q253 := eq_true q253
     go_upto_region 6 with (fail)
     go_cut [37] (fun v37 wc => ∃ (kq : Nat) (x37_11 : Bool), v37 = .bool x37_11 ∧ Aside0 (frame_section.j0 kq l0 a1 (wrap64 (rd l0 a1)) x37_11 = some (r1, r2, r3, r4)) ∧ Aside0 (kq ≤ k) ∧ Aside0 (wc.heap[gb252]? = some (.cells #[.int .i64 0, (.slice none 0 0)] 48 (0, 0))) ∧ Aside0 (Below w.heap.size w wc))
     case first =>
      have H := HC12.out
      clear HC12
      by_cases c13 : (wrap64 (rd l0 a1)) ≤ a2
      ·rw [if_pos c13] at H
       have c13b0 : decide ((wrap64 (rd l0 a1)) ≤ a2) = true := decide_eq_true c13
       clear c13
       (first | rw [c13b0] | (simp only [i64_w, i32_w]; rw [c13b0]) | skip)
       have H' := Aside0.mk H
       clear H
       go_wp2
       go_meet
       case rel => exact ⟨_, (true), (by first | rfl | (simp; done) | (simp [*]; done)), H', ⟨by first | omega | exact Nat.le_refl _⟩, ⟨bK BK252⟩, ⟨ bH HB⟩⟩
      ·rw [if_neg c13] at H
       have c13b0 : decide ((wrap64 (rd l0 a1)) ≤ a2) = false := decide_eq_false c13
       clear c13
       (first | rw [c13b0] | (simp only [i64_w, i32_w]; rw [c13b0]) | skip)
       have H' := Aside0.mk H
       clear H
       go_wp2
       go_meet
       case rel => exact ⟨_, (decide ((wrap64 (rd l0 a1)) > 9)), (by first | rfl | (simp; done) | (simp [*]; done)), H', ⟨by first | omega | exact Nat.le_refl _⟩, ⟨bK BK252⟩, ⟨ bH HB⟩⟩
     case rest =>
      clear HC12
      try clear c1
      try clear c2
      try clear p2
      try clear q2
      try clear hx2
      try clear c6
      try clear c6b0
      try clear c6b1
      try clear p6
      try clear c8
      try clear c8b0
      try clear c9
      try clear c9b0
      try clear c10
      try clear c10b0
      try clear c10b1
      try clear c13
      try clear c13b0
      try clear hcz11_0
      try clear hcz11_1
      try clear hcz7_0
      try clear hcz7_1
      try clear hfz11_0
      try clear hfz11_1
      try clear hfz7_0
      try clear hfz7_1
      try clear hx253_0
      try clear p253
      try clear q253
      obtain ⟨kq, x37_11, rfl, HA, HJ11, BK252, HB⟩ := hcut
      cases kq with
      | zero => exact absurd HA.out (by simp [frame_section.j0])
      | succ kj11 =>
       have H := HA.out
       clear HA
       simp only [frame_section.j0] at H
       by_cases c14 : x37_11 = true
       ·subst c14
        have H1 : (some (0, ([] : List Int), 0, 11)) = some (r1, r2, r3, r4) := by rw [if_pos rfl] at H; exact H
        clear H
        have H := H1
        clear H1
        simp only [Option.some.injEq, Prod.mk.injEq] at H
        obtain ⟨rfl, rfl, rfl, rfl⟩ := H
        have hcz15_0 : wc.cell? ⟨gb252, 0, none⟩ = some (.int .i64 0) := (blk_cell BK252.out 0).trans rfl
        have hcz15_1 : wc.cell? ⟨gb252, 1, none⟩ = some (.slice none 0 0) := (blk_cell BK252.out 1).trans rfl
        have hfz15_0 := blk_frozen BK252.out 0
        have hfz15_1 := blk_frozen BK252.out 1
        go_wp2
        refine bodyPost_ret (results_ctt rfl _ _ gb252 48 #[.int .i64 0, .slice none 0 0] (0, 0) _ rfl (by (with_reducible repeat (first | refine blk_drewN ?_ _ | refine blk_drew ?_ | refine blk_alloc ?_ _)); refine blk_put (cs := #[.int .i64 0, .slice none 0 0]) ?_ 1 _ rfl; (with_reducible repeat (first | refine blk_drewN ?_ _ | refine blk_drew ?_ | refine blk_alloc ?_ _)); refine blk_put (cs := #[.int .i64 0, .slice none 0 0]) ?_ 0 _ rfl; (with_reducible repeat (first | refine blk_drewN ?_ _ | refine blk_drew ?_ | refine blk_alloc ?_ _)); exact BK252.out) Try.underlying48 rfl (by kernel_rfl)) rfl ?_
        exact ⟨_, by first | rfl | (simp [errW_none, errW_some] <;> rfl) | (simp [*, errW_none, errW_some] <;> rfl), by first | exact Kd.R_nil _ _ _ _ _ | exact Kd.N_nil _ _ _ _ _ | exact Kd.V_nil _ _ _ _ _ | exact Kd.Q_nil _ _ _ _ _ | exact Kd.S_nil _ _ _ _ _, bH HB⟩
       ·replace c14 := Bool.eq_false_iff.mpr c14
        subst c14
        have H1 : ((vint_Get.f kj11 l0 (wrap64 (a1 + 1))).bind fun bt254 => (if bt254.2.2 = 0 then (if bt254.1 > 1048576 then (some (0, ([] : List Int), 0, 3)) else (if (wrap64 ((wrap64 (bt254.1)) + 4)) > (wrap64 ((l0.length : Int) - bt254.2.1)) then (some (0, ([] : List Int), 0, 10)) else (if 0 ≤ a1 then (if a1 ≤ (wrap64 ((wrap64 (bt254.2.1 + (wrap64 (bt254.1)))) + 4)) then (if (wrap64 ((wrap64 (bt254.2.1 + (wrap64 (bt254.1)))) + 4)) ≤ (l0.length : Int) then ((crc_Check.f kj11 ((l0.take ((wrap64 ((wrap64 (bt254.2.1 + (wrap64 (bt254.1)))) + 4)) : Int).toNat).drop (a1 : Int).toNat)).bind fun bt258 => (if bt258.2 = 0 then (if 0 ≤ bt254.2.1 then (if bt254.2.1 ≤ (wrap64 ((wrap64 ((wrap64 (bt254.2.1 + (wrap64 (bt254.1)))) + 4)) - 4)) then (if (wrap64 ((wrap64 ((wrap64 (bt254.2.1 + (wrap64 (bt254.1)))) + 4)) - 4)) ≤ (l0.length : Int) then (if ([] : List Int).length + ((l0.take ((wrap64 ((wrap64 ((wrap64 (bt254.2.1 + (wrap64 (bt254.1)))) + 4)) - 4)) : Int).toNat).drop (bt254.2.1 : Int).toNat).length < 140737488355328 then (some ((wrap64 (rd l0 a1)), (([] : List Int) ++ ((l0.take ((wrap64 ((wrap64 ((wrap64 (bt254.2.1 + (wrap64 (bt254.1)))) + 4)) - 4)) : Int).toNat).drop (bt254.2.1 : Int).toNat)), wrap64 ((wrap64 (bt254.2.1 + (wrap64 (bt254.1)))) + 4), 0)) else (none)) else (none)) else (none)) else (none)) else (some (0, ([] : List Int), 0, bt258.2)))) else (none)) else (none)) else (none)))) else (some (0, ([] : List Int), 0, bt254.2.2)))) = some (r1, r2, r3, r4) := by rw [if_neg (show ¬ (false = true) by decide)] at H; exact H
        clear H
        have H := H1
        clear H1
        replace H := Option.bind_eq_some_iff.mp H
        obtain ⟨⟨t254, t255, t256⟩, A160, H⟩ := H
        replace H : (if t256 = 0 then (if t254 > 1048576 then (some (0, ([] : List Int), 0, 3)) else (if (wrap64 ((wrap64 (t254)) + 4)) > (wrap64 ((l0.length : Int) - t255)) then (some (0, ([] : List Int), 0, 10)) else (if 0 ≤ a1 then (if a1 ≤ (wrap64 ((wrap64 (t255 + (wrap64 (t254)))) + 4)) then (if (wrap64 ((wrap64 (t255 + (wrap64 (t254)))) + 4)) ≤ (l0.length : Int) then ((crc_Check.f kj11 ((l0.take ((wrap64 ((wrap64 (t255 + (wrap64 (t254)))) + 4)) : Int).toNat).drop (a1 : Int).toNat)).bind fun bt258 => (if bt258.2 = 0 then (if 0 ≤ t255 then (if t255 ≤ (wrap64 ((wrap64 ((wrap64 (t255 + (wrap64 (t254)))) + 4)) - 4)) then (if (wrap64 ((wrap64 ((wrap64 (t255 + (wrap64 (t254)))) + 4)) - 4)) ≤ (l0.length : Int) then (if ([] : List Int).length + ((l0.take ((wrap64 ((wrap64 ((wrap64 (t255 + (wrap64 (t254)))) + 4)) - 4)) : Int).toNat).drop (t255 : Int).toNat).length < 140737488355328 then (some ((wrap64 (rd l0 a1)), (([] : List Int) ++ ((l0.take ((wrap64 ((wrap64 ((wrap64 (t255 + (wrap64 (t254)))) + 4)) - 4)) : Int).toNat).drop (t255 : Int).toNat)), wrap64 ((wrap64 (t255 + (wrap64 (t254)))) + 4), 0)) else (none)) else (none)) else (none)) else (none)) else (some (0, ([] : List Int), 0, bt258.2)))) else (none)) else (none)) else (none)))) else (some (0, ([] : List Int), 0, t256))) = some (r1, r2, r3, r4) := H
        have A16 := Aside0.mk A160
        clear A160
        have HC17 := Aside0.mk H
        clear H
        go_upto_if 47 with (first | ((with_reducible refine gate_callee (f := 27) rfl ?_); refine goesL_ (some 43) rfl rfl Try.func27 (by kernel_rfl) rfl #[.slice (some ad253) l0.length c0, .int .i64 (wrap64 (a1 + 1))] rfl (by (try simp only [List.map_toArray, List.map_cons, List.map_nil]); first | done | rfl | (simp only [List.length_drop, List.length_take]; rfl)) ?_; (with_reducible refine (vint_Get.calls kj11 _ _ l0 (wrap64 (a1 + 1)) t254 t255 t256 _ ?side1 ?side2 A16.out).mono ?_); (case side1 => repeat (first | exact (Kd.C_below HR0.out HB.out) | (with_reducible refine Kd.C_alloc ?_ _) | (with_reducible refine Kd.C_drewN ?_ _) | (with_reducible refine Kd.C_drew ?_))); (case side2 => exact HC0.out); rintro e w' ⟨rfl, ⟨nd, rfl⟩⟩; refine ⟨_, rfl, ?_⟩))
        (try simp only [Act.put, List.setIfInBounds_toArray, List.set_cons_zero, List.set_cons_succ])
        have H := HC17.out
        clear HC17
        by_cases c18 : t256 = 0
        ·rw [if_pos c18] at H
         have c18b0 : (t256 == 0) = true := beq_iff_eq.mpr c18
         have c18b1 : (t256 != 0) = false := bne_eq_false_iff_eq.mpr c18
         clear c18
         (first | rw [c18b0] | (simp only [i64_w, i32_w]; rw [c18b0]) | skip)
         by_cases c19 : t254 > 1048576
         ·rw [if_pos c19] at H
          have c19b0 : decide (1048576 < t254) = true := decide_eq_true c19
          clear c19
          simp only [Option.some.injEq, Prod.mk.injEq] at H
          obtain ⟨rfl, rfl, rfl, rfl⟩ := H
          have hcz20_0 : wc.cell? ⟨gb252, 0, none⟩ = some (.int .i64 0) := (blk_cell BK252.out 0).trans rfl
          have hcz20_1 : wc.cell? ⟨gb252, 1, none⟩ = some (.slice none 0 0) := (blk_cell BK252.out 1).trans rfl
          have hfz20_0 := blk_frozen BK252.out 0
          have hfz20_1 := blk_frozen BK252.out 1
          go_wp2
          refine bodyPost_ret (results_ctt rfl _ _ gb252 48 #[.int .i64 0, .slice none 0 0] (0, 0) _ rfl (by (with_reducible repeat (first | refine blk_drewN ?_ _ | refine blk_drew ?_ | refine blk_alloc ?_ _)); refine blk_put (cs := #[.int .i64 0, .slice none 0 0]) ?_ 1 _ rfl; (with_reducible repeat (first | refine blk_drewN ?_ _ | refine blk_drew ?_ | refine blk_alloc ?_ _)); refine blk_put (cs := #[.int .i64 0, .slice none 0 0]) ?_ 0 _ rfl; (with_reducible repeat (first | refine blk_drewN ?_ _ | refine blk_drew ?_ | refine blk_alloc ?_ _)); exact BK252.out) Try.underlying48 rfl (by kernel_rfl)) rfl ?_
          exact ⟨_, by first | rfl | (simp [errW_none, errW_some] <;> rfl) | (simp [*, errW_none, errW_some] <;> rfl), by first | exact Kd.R_nil _ _ _ _ _ | exact Kd.N_nil _ _ _ _ _ | exact Kd.V_nil _ _ _ _ _ | exact Kd.Q_nil _ _ _ _ _ | exact Kd.S_nil _ _ _ _ _, bH HB⟩
         ·rw [if_neg c19] at H
          have c19b0 : decide (1048576 < t254) = false := decide_eq_false c19
          clear c19
          by_cases c21 : (wrap64 ((wrap64 (t254)) + 4)) > (wrap64 ((l0.length : Int) - t255))
          ·rw [if_pos c21] at H
           have c21b0 : decide ((wrap64 ((l0.length : Int) - t255)) < (wrap64 ((wrap64 (t254)) + 4))) = true := decide_eq_true c21
           clear c21
           simp only [Option.some.injEq, Prod.mk.injEq] at H
           obtain ⟨rfl, rfl, rfl, rfl⟩ := H
           have hcz22_0 : wc.cell? ⟨gb252, 0, none⟩ = some (.int .i64 0) := (blk_cell BK252.out 0).trans rfl
           have hcz22_1 : wc.cell? ⟨gb252, 1, none⟩ = some (.slice none 0 0) := (blk_cell BK252.out 1).trans rfl
           have hfz22_0 := blk_frozen BK252.out 0
           have hfz22_1 := blk_frozen BK252.out 1
           go_wp2
           refine bodyPost_ret (results_ctt rfl _ _ gb252 48 #[.int .i64 0, .slice none 0 0] (0, 0) _ rfl (by (with_reducible repeat (first | refine blk_drewN ?_ _ | refine blk_drew ?_ | refine blk_alloc ?_ _)); refine blk_put (cs := #[.int .i64 0, .slice none 0 0]) ?_ 1 _ rfl; (with_reducible repeat (first | refine blk_drewN ?_ _ | refine blk_drew ?_ | refine blk_alloc ?_ _)); refine blk_put (cs := #[.int .i64 0, .slice none 0 0]) ?_ 0 _ rfl; (with_reducible repeat (first | refine blk_drewN ?_ _ | refine blk_drew ?_ | refine blk_alloc ?_ _)); exact BK252.out) Try.underlying48 rfl (by kernel_rfl)) rfl ?_
           exact ⟨_, by first | rfl | (simp [errW_none, errW_some] <;> rfl) | (simp [*, errW_none, errW_some] <;> rfl), by first | exact Kd.R_nil _ _ _ _ _ | exact Kd.N_nil _ _ _ _ _ | exact Kd.V_nil _ _ _ _ _ | exact Kd.Q_nil _ _ _ _ _ | exact Kd.S_nil _ _ _ _ _, bH HB⟩
          ·rw [if_neg c21] at H
           have c21b0 : decide ((wrap64 ((l0.length : Int) - t255)) < (wrap64 ((wrap64 (t254)) + 4))) = false := decide_eq_false c21
           clear c21
           by_cases c23 : 0 ≤ a1
           ·rw [if_pos c23] at H
            have c23b0 := eq_true c23
            have c23b1 : decide (0 ≤ a1) = true := decide_eq_true c23
            clear c23
            by_cases c24 : a1 ≤ (wrap64 ((wrap64 (t255 + (wrap64 (t254)))) + 4))
            ·rw [if_pos c24] at H
             have c24b0 := eq_true c24
             have c24b1 : decide (a1 ≤ (wrap64 ((wrap64 (t255 + (wrap64 (t254)))) + 4))) = true := decide_eq_true c24
             by_cases c25 : (wrap64 ((wrap64 (t255 + (wrap64 (t254)))) + 4)) ≤ (l0.length : Int)
             ·rw [if_pos c25] at H
              have c25b0 := eq_true c25
              have c25b1 : decide ((wrap64 ((wrap64 (t255 + (wrap64 (t254)))) + 4)) ≤ (l0.length : Int)) = true := decide_eq_true c25
              replace H := Option.bind_eq_some_iff.mp H
              obtain ⟨⟨t258, t261⟩, A260, H⟩ := H
              replace H : (if t261 = 0 then (if 0 ≤ t255 then (if t255 ≤ (wrap64 ((wrap64 ((wrap64 (t255 + (wrap64 (t254)))) + 4)) - 4)) then (if (wrap64 ((wrap64 ((wrap64 (t255 + (wrap64 (t254)))) + 4)) - 4)) ≤ (l0.length : Int) then (if ([] : List Int).length + ((l0.take ((wrap64 ((wrap64 ((wrap64 (t255 + (wrap64 (t254)))) + 4)) - 4)) : Int).toNat).drop (t255 : Int).toNat).length < 140737488355328 then (some ((wrap64 (rd l0 a1)), (([] : List Int) ++ ((l0.take ((wrap64 ((wrap64 ((wrap64 (t255 + (wrap64 (t254)))) + 4)) - 4)) : Int).toNat).drop (t255 : Int).toNat)), wrap64 ((wrap64 (t255 + (wrap64 (t254)))) + 4), 0)) else (none)) else (none)) else (none)) else (none)) else (some (0, ([] : List Int), 0, t261))) = some (r1, r2, r3, r4) := H
              have A26 := Aside0.mk A260
              clear A260
              have HC27 := Aside0.mk H
              clear H
              obtain ⟨i028, hi028, _, hsz28, _⟩ := info_parts info5
              obtain ⟨A28, hcut28, hA28, hC28⟩ := print_mid_of (P := Try.prog) (Value.int .u8) 0 22 5 .i64 .i64 Try.underlying22 hi028 hsz28 (some ad253) c0 l0 a1 (wrap64 ((wrap64 (t255 + (wrap64 (t254)))) + 4)) (of_decide_eq_true (by first | (with_reducible assumption) | assumption)) (by first | omega | exact of_decide_eq_true (by first | (with_reducible assumption) | assumption)) (of_decide_eq_true (by first | (with_reducible assumption) | assumption)) HC0.out
              have HR257 := Aside0.mk (Kd.C_of_reads (h1 := fun _ => rfl) (hA28 _ (Kd.reads_of_C HR0.out)))
              have HC257 := Aside0.mk hC28
              clear hA28 hC28 hi028 hsz28
              go_upto_if 80 with (first | ((with_reducible refine gate_callee (f := 28) rfl ?_); refine goesL_ (some 76) rfl rfl Try.func28 (by kernel_rfl) rfl #[.slice A28 ((l0.take ((wrap64 ((wrap64 (t255 + (wrap64 (t254)))) + 4)) : Int).toNat).drop (a1 : Int).toNat).length (c0 - a1.toNat)] rfl (by (try simp only [List.map_toArray, List.map_cons, List.map_nil]); first | done | (rw [show ((l0.take ((wrap64 ((wrap64 (t255 + (wrap64 (t254)))) + 4)) : Int).toNat).drop (a1 : Int).toNat).length = ((wrap64 ((wrap64 (t255 + (wrap64 (t254)))) + 4)).toNat - a1.toNat) from (by rw [List.length_drop, List.length_take]; have h_ : ((wrap64 ((wrap64 (t255 + (wrap64 (t254)))) + 4)) : Int) ≤ (l0.length : Int) := of_decide_eq_true (by first | (with_reducible assumption) | assumption); omega)] <;> rfl) | rfl | (simp only [List.length_drop, List.length_take]; rfl)) ?_; (with_reducible refine (crc_Check.calls kj11 (fun k_ => k_ < w.heap.size) _ _ ((l0.take ((wrap64 ((wrap64 (t255 + (wrap64 (t254)))) + 4)) : Int).toNat).drop (a1 : Int).toNat) t258 t261 _ ?side1 A26.out).mono ?_); (case side1 => exact Kd.V_mk HC257.out (Kd.F_below (Kd.C_F (Kd.heap_int .u8) HR257.out) (bH HB))); rintro e w29 ⟨v259, rfl, ho0, hb⟩; refine ⟨_, rfl, ?_⟩; have n0_ := Aside0.mk (Kd.R_lower (Kd.R_mono (ok' := fun k_ => True) ho0 (fun _ hk_ => trivial)) (below_size (bH HB))); have n1_ := Aside0.mk (blk_below (g := gb252) (o := .cells #[.int .i64 0, .slice none 0 0] 48 (0, 0)) (bK BK252) hb); have n2_ := Aside0.mk (below_step (bH HB) hb); clear BK252; clear HB; have HO260 := n0_; have BK252 := n1_; have HB := n2_; clear n0_ n1_ n2_; (try clear hb); (try clear hb2); (try clear hk); (try clear hi); (try clear ho0)))
              (try simp only [Act.put, List.setIfInBounds_toArray, List.set_cons_zero, List.set_cons_succ])
              have H := HC27.out
              clear HC27
              by_cases c30 : t261 = 0
              ·rw [if_pos c30] at H
               have c30b0 : (t261 == 0) = true := beq_iff_eq.mpr c30
               have c30b1 : (t261 != 0) = false := bne_eq_false_iff_eq.mpr c30
               clear c30
               (first | rw [c30b0] | (simp only [i64_w, i32_w]; rw [c30b0]) | skip)
               by_cases c31 : 0 ≤ t255
               ·rw [if_pos c31] at H
                have c31b0 := eq_true c31
                have c31b1 : decide (0 ≤ t255) = true := decide_eq_true c31
                clear c31
                by_cases c32 : t255 ≤ (wrap64 ((wrap64 ((wrap64 (t255 + (wrap64 (t254)))) + 4)) - 4))
                ·rw [if_pos c32] at H
                 have c32b0 := eq_true c32
                 have c32b1 : decide (t255 ≤ (wrap64 ((wrap64 ((wrap64 (t255 + (wrap64 (t254)))) + 4)) - 4))) = true := decide_eq_true c32
                 by_cases c33 : (wrap64 ((wrap64 ((wrap64 (t255 + (wrap64 (t254)))) + 4)) - 4)) ≤ (l0.length : Int)
                 ·rw [if_pos c33] at H
                  have c33b0 := eq_true c33
                  have c33b1 : decide ((wrap64 ((wrap64 ((wrap64 (t255 + (wrap64 (t254)))) + 4)) - 4)) ≤ (l0.length : Int)) = true := decide_eq_true c33
                  by_cases c34 : ([] : List Int).length + ((l0.take ((wrap64 ((wrap64 ((wrap64 (t255 + (wrap64 (t254)))) + 4)) - 4)) : Int).toNat).drop (t255 : Int).toNat).length < 140737488355328
                  ·rw [if_pos c34] at H
                   have LMc34 := Aside0.mk c34
                   clear c34
                   obtain ⟨y263, hy263⟩ : ∃ y_ : List Int, y_ = (([] : List Int) ++ ((l0.take ((wrap64 ((wrap64 ((wrap64 (t255 + (wrap64 (t254)))) + 4)) - 4)) : Int).toNat).drop (t255 : Int).toNat)) := ⟨_, rfl⟩
                   replace H : (some ((wrap64 (rd l0 a1)), y263, wrap64 ((wrap64 (t255 + (wrap64 (t254)))) + 4), 0)) = some (r1, r2, r3, r4) := by first | (rw [hy263]; with_reducible exact H) | (have H2_ := (Option.bind_some _ _).symm.trans H; rw [hy263]; with_reducible exact H2_) | (have H2_ := (Option.bind_some _ _).symm.trans H; with_reducible exact H2_) | with_reducible exact H | (rw [hy263]; exact H) | exact H
                   have Ny263 := Aside0.mk hy263
                   clear hy263
                   simp only [Option.some.injEq, Prod.mk.injEq] at H
                   obtain ⟨rfl, rfl, rfl, rfl⟩ := H
                   obtain ⟨i035, hi035, _, hsz35, _⟩ := info_parts info5
                   obtain ⟨A35, hcut35, hA35, hC35⟩ := print_mid_of (P := Try.prog) (Value.int .u8) 0 22 5 .i64 .i64 Try.underlying22 hi035 hsz35 (some ad253) c0 l0 t255 (wrap64 ((wrap64 ((wrap64 (t255 + (wrap64 (t254)))) + 4)) - 4)) (of_decide_eq_true (by first | (with_reducible assumption) | assumption)) (by first | omega | exact of_decide_eq_true (by first | (with_reducible assumption) | assumption)) (of_decide_eq_true (by first | (with_reducible assumption) | assumption)) HC0.out
                   have HR262 := Aside0.mk (Kd.C_of_reads (h1 := fun _ => rfl) (hA35 _ (Kd.reads_of_C HR0.out)))
                   have HC262 := Aside0.mk hC35
                   clear hA35 hC35 hi035 hsz35
                   go_wp2_with (first | ((with_reducible refine gate_builtin (b := .append) (xs := #[.const (.slice none 0 0), .tmp 88]) rfl ?_); at_builtin; refine Kd.R_append_rows (Kd.int .u8) (w0 := w) w.heap.size rfl (.const (.slice none 0 0)) (.tmp 88) 22 5 (.int .u8 0) 1 rfl Try.underlying22 info5 rfl (by decide) (by omega) (.slice none 0 0) ([] : List Int) ((l0.take ((wrap64 ((wrap64 ((wrap64 (t255 + (wrap64 (t254)))) + 4)) - 4)) : Int).toNat).drop (t255 : Int).toNat) _ _ _ (fun k_ => some k_ ≠ (v259 : Value).ownBlock) (fun _ => False) rfl rfl ?aO ?aR (fun _ _ h => h) (fun _ h => h.elim) ?aF ?aB ?aS ?aL ?_; (case aR => first | (rw [← show ((l0.take ((wrap64 ((wrap64 ((wrap64 (t255 + (wrap64 (t254)))) + 4)) - 4)) : Int).toNat).drop (t255 : Int).toNat).length = ((wrap64 ((wrap64 ((wrap64 (t255 + (wrap64 (t254)))) + 4)) - 4)).toNat - t255.toNat) from (by rw [List.length_drop, List.length_take]; have h_ : ((wrap64 ((wrap64 ((wrap64 (t255 + (wrap64 (t254)))) + 4)) - 4)) : Int) ≤ (l0.length : Int) := of_decide_eq_true (by first | (with_reducible assumption) | assumption); omega)]; repeat (first | exact (Kd.C_below HR262.out HB.out) | (with_reducible refine Kd.C_alloc ?_ _) | (with_reducible refine Kd.C_drewN ?_ _) | (with_reducible refine Kd.C_drew ?_))) | (repeat (first | exact (Kd.C_below HR262.out HB.out) | (with_reducible refine Kd.C_alloc ?_ _) | (with_reducible refine Kd.C_drewN ?_ _) | (with_reducible refine Kd.C_drew ?_)))); (case aB => exact (bH HB)); (case aF => exact (fun k_ hk => Kd.fresh' (Kd.R_lt (rK HO260)) k_ hk)); (case aO => exact ((Kd.R_nil _ _ _ _ (fun k_ => some k_ ≠ (v259 : Value).ownBlock)))); (case aS => exact (below_size (bH HB))); (case aL => have := LMc34.out; have hlx_ := (show ((l0.take ((wrap64 ((wrap64 ((wrap64 (t255 + (wrap64 (t254)))) + 4)) - 4)) : Int).toNat).drop (t255 : Int).toNat).length = ((wrap64 ((wrap64 ((wrap64 (t255 + (wrap64 (t254)))) + 4)) - 4)).toNat - t255.toNat) from (by rw [List.length_drop, List.length_take]; have h_ : ((wrap64 ((wrap64 ((wrap64 (t255 + (wrap64 (t254)))) + 4)) - 4)) : Int) ≤ (l0.length : Int) := of_decide_eq_true (by first | (with_reducible assumption) | assumption); omega)); omega); intro v264 w36 ho hb hg hat; rw [← Ny263.out] at ho; have n0_ := Aside0.mk (blk_grown (g := gb252) (o := .cells #[.int .i64 0, .slice none 0 0] 48 (0, 0)) (bK BK252) hg (by simp [Value.ownBlock])); have n1_ := Aside0.mk (Kd.R_after (Kd.R_apart_nil (rK HO260)) hg hat); have n2_ := Aside0.mk (hb); have n3_ := Aside0.mk (ho); clear BK252; clear HO260; clear HB; have BK252 := n0_; have HO260 := n1_; have HB := n2_; have HO265 := n3_; clear n0_ n1_ n2_ n3_; clear ho hb hg hat; obtain ⟨Ao37, co37, eo37⟩ := Kd.R_slice HO265.out; subst eo37; have hcz38_0 : w36.cell? ⟨gb252, 0, none⟩ = some (.int .i64 0) := (blk_cell BK252.out 0).trans rfl; have hcz38_1 : w36.cell? ⟨gb252, 1, none⟩ = some (.slice none 0 0) := (blk_cell BK252.out 1).trans rfl; have hfz38_0 := blk_frozen BK252.out 0; have hfz38_1 := blk_frozen BK252.out 1))
                   refine bodyPost_ret (results_ctt rfl _ _ gb252 48 #[.int .i64 (wrap64 (rd l0 a1)), .slice Ao37 y263.length co37] (0, 0) _ rfl (by (with_reducible repeat (first | refine blk_drewN ?_ _ | refine blk_drew ?_ | refine blk_alloc ?_ _)); refine blk_put (cs := #[.int .i64 (wrap64 (rd l0 a1)), .slice none 0 0]) ?_ 1 _ rfl; (with_reducible repeat (first | refine blk_drewN ?_ _ | refine blk_drew ?_ | refine blk_alloc ?_ _)); refine blk_put (cs := #[.int .i64 0, .slice none 0 0]) ?_ 0 _ rfl; (with_reducible repeat (first | refine blk_drewN ?_ _ | refine blk_drew ?_ | refine blk_alloc ?_ _)); exact BK252.out) Try.underlying48 rfl (by kernel_rfl)) rfl ?_
                   exact ⟨_, by first | rfl | (simp [errW_none, errW_some] <;> rfl) | (simp [*, errW_none, errW_some] <;> rfl), by (with_reducible repeat (first | apply Kd.R_alloc | apply Kd.R_drewN | apply Kd.R_drew)); exact Kd.R_mono (Kd.R_far (p := ⟨gb252, 1, none⟩) (Kd.R_far (p := ⟨gb252, 0, none⟩) (Kd.R_types HO265.out BK252.out (by decide)) (fun _ hk => hk.2) (.int .i64 (wrap64 (rd l0 a1)))) (fun _ hk => hk.2) (.slice Ao37 y263.length co37)) (fun _ hk => trivial), bH HB⟩
                  ·rw [if_neg c34] at H
                   exact absurd H (by simp)
                 ·rw [if_neg c33] at H
                  exact absurd H (by simp)
                ·rw [if_neg c32] at H
                 exact absurd H (by simp)
               ·rw [if_neg c31] at H
                exact absurd H (by simp)
              ·rw [if_neg c30] at H
               have c30b0 : (t261 == 0) = false := beq_eq_false_iff_ne.mpr c30
               have c30b1 : (t261 != 0) = true := bne_iff_ne.mpr c30
               (first | rw [c30b0] | (simp only [i64_w, i32_w]; rw [c30b0]) | skip)
               simp only [Option.some.injEq, Prod.mk.injEq] at H
               obtain ⟨rfl, rfl, rfl, rfl⟩ := H
               have hcz39_0 : w29.cell? ⟨gb252, 0, none⟩ = some (.int .i64 0) := (blk_cell BK252.out 0).trans rfl
               have hcz39_1 : w29.cell? ⟨gb252, 1, none⟩ = some (.slice none 0 0) := (blk_cell BK252.out 1).trans rfl
               have hfz39_0 := blk_frozen BK252.out 0
               have hfz39_1 := blk_frozen BK252.out 1
               go_wp2
               refine bodyPost_ret (results_ctt rfl _ _ gb252 48 #[.int .i64 0, .slice none 0 0] (0, 0) _ rfl (by (with_reducible repeat (first | refine blk_drewN ?_ _ | refine blk_drew ?_ | refine blk_alloc ?_ _)); refine blk_put (cs := #[.int .i64 0, .slice none 0 0]) ?_ 1 _ rfl; (with_reducible repeat (first | refine blk_drewN ?_ _ | refine blk_drew ?_ | refine blk_alloc ?_ _)); refine blk_put (cs := #[.int .i64 0, .slice none 0 0]) ?_ 0 _ rfl; (with_reducible repeat (first | refine blk_drewN ?_ _ | refine blk_drew ?_ | refine blk_alloc ?_ _)); exact BK252.out) Try.underlying48 rfl (by kernel_rfl)) rfl ?_
               exact ⟨_, by first | rfl | (simp [errW_none, errW_some] <;> rfl) | (simp [*, errW_none, errW_some] <;> rfl), by first | exact Kd.R_nil _ _ _ _ _ | exact Kd.N_nil _ _ _ _ _ | exact Kd.V_nil _ _ _ _ _ | exact Kd.Q_nil _ _ _ _ _ | exact Kd.S_nil _ _ _ _ _, bH HB⟩
             ·rw [if_neg c25] at H
              exact absurd H (by simp)
            ·rw [if_neg c24] at H
             exact absurd H (by simp)
           ·rw [if_neg c23] at H
            exact absurd H (by simp)
        ·rw [if_neg c18] at H
         have c18b0 : (t256 == 0) = false := beq_eq_false_iff_ne.mpr c18
         have c18b1 : (t256 != 0) = true := bne_iff_ne.mpr c18
         (first | rw [c18b0] | (simp only [i64_w, i32_w]; rw [c18b0]) | skip)
         simp only [Option.some.injEq, Prod.mk.injEq] at H
         obtain ⟨rfl, rfl, rfl, rfl⟩ := H
         have hcz40_0 : wc.cell? ⟨gb252, 0, none⟩ = some (.int .i64 0) := (blk_cell BK252.out 0).trans rfl
         have hcz40_1 : wc.cell? ⟨gb252, 1, none⟩ = some (.slice none 0 0) := (blk_cell BK252.out 1).trans rfl
         have hfz40_0 := blk_frozen BK252.out 0
         have hfz40_1 := blk_frozen BK252.out 1
         go_wp2
         refine bodyPost_ret (results_ctt rfl _ _ gb252 48 #[.int .i64 0, .slice none 0 0] (0, 0) _ rfl (by (with_reducible repeat (first | refine blk_drewN ?_ _ | refine blk_drew ?_ | refine blk_alloc ?_ _)); refine blk_put (cs := #[.int .i64 0, .slice none 0 0]) ?_ 1 _ rfl; (with_reducible repeat (first | refine blk_drewN ?_ _ | refine blk_drew ?_ | refine blk_alloc ?_ _)); refine blk_put (cs := #[.int .i64 0, .slice none 0 0]) ?_ 0 _ rfl; (with_reducible repeat (first | refine blk_drewN ?_ _ | refine blk_drew ?_ | refine blk_alloc ?_ _)); exact BK252.out) Try.underlying48 rfl (by kernel_rfl)) rfl ?_
         exact ⟨_, by first | rfl | (simp [errW_none, errW_some] <;> rfl) | (simp [*, errW_none, errW_some] <;> rfl), by first | exact Kd.R_nil _ _ _ _ _ | exact Kd.N_nil _ _ _ _ _ | exact Kd.V_nil _ _ _ _ _ | exact Kd.Q_nil _ _ _ _ _ | exact Kd.S_nil _ _ _ _ _, bH HB⟩
   ·rw [if_neg c9] at H
    exact absurd H (by simp)
  ·rw [if_neg c8] at H
   exact absurd H (by simp)

end Go.Proofs.Ytglmfnaofpbpfaa.P
