/- Written for this claim by a program of this session (a turned copy of the print): Go functions as Lean functions, and that the Go code comes to just these answers; or a statement proved out of them. No condition. -/
import Derived.Test.YtimdikfllbbdoaaPx0
import Derived.Test.YtimdikfllbbdoaaPx10
import Derived.Test.YtimdikfllbbdoaaPx11
namespace Go.Proofs.Ytimdikfllbbdoaa.P
open Go.RowKit Go.Proofs.YtimdikfllbbdoaaW.PrintWords Go.Proofs.YtimdikfllbbdoaaW.PrintLast Go.Proofs.YtimdikfllbbdoaaW.PrintMore Go.Proofs.Ytimdikfllbbdoaa.X
attribute [local go_sem] max2_int min2_int max_two min_two max_three min_three max_four min_four   -- for this text's walks alone
set_option linter.unusedVariables false
set_option linter.unusedSimpArgs false

/-! ### frame_Encode: function 10 -/
def frame_Encode.l0 : Nat → List Int → Int → Bool → List (S33) → Int → Int → Option (List Int × Int)
 | 0, _, _, _, _, _, _ => none
 | k + 1, x4, x5, x6, x12, x13, x14 => if x14 < x13 then (if 0 ≤ x14 then (if x14 < (x12.length : Int) then ((frame_One.f k ((rd_T33 x12 x14).f0) ((rd_T33 x12 x14).f1)).bind fun bt141 => (if bt141.2 = 0 then (if x6 = true then (if x4.length + bt141.1.length < 140737488355328 then (frame_Encode.l0 k (x4 ++ bt141.1) ((rd_T33 x12 x14).f0) (decide (((rd_T33 x12 x14).f0) > x5)) x12 x13 (wrap64 (x14 + 1))) else (none)) else (if x4.length + bt141.1.length < 140737488355328 then (frame_Encode.l0 k (x4 ++ bt141.1) ((rd_T33 x12 x14).f0) false x12 x13 (wrap64 (x14 + 1))) else (none))) else (some (([] : List Int), bt141.2)))) else (none)) else (none)) else (if x4.length < 140737488355328 then ((some (x4 ++ [0] : List Int)).bind fun y151 => (if x6 = true then (if (y151.length : Int) > 1048576 then (some (([] : List Int), 3)) else (some (y151, 0))) else (some (([] : List Int), 2)))) else (none))
def frame_Encode.f (k : Nat) (l0 : List (S33)) : Option (List Int × Int) := (frame_Head.f).bind fun t136 => (frame_Encode.l0 k t136 0 true l0 (l0.length : Int) 0)
theorem frame_Encode.mono_l : ∀ k, (∀ y0 y1 y2 y3 y4 y5, LeO (frame_Encode.l0 k y0 y1 y2 y3 y4 y5) (frame_Encode.l0 (k + 1) y0 y1 y2 y3 y4 y5))
 | 0 => fun _ _ _ _ _ _ r h => by simp [frame_Encode.l0] at h
 | k + 1 => by
  have ih0 := frame_Encode.mono_l k
  ·intro y0 y1 y2 y3 y4 y5
   unfold frame_Encode.l0
   repeat' first
   | (with_reducible exact ih0 _ _ _ _ _ _)
   | (with_reducible exact frame_One.mono _ _ _)
   | (with_reducible exact LeO.refl _)
   | (with_reducible exact LeO.none _)
   | (with_reducible refine LeO.ite ?_ ?_)
   | (with_reducible refine LeO.bind ?_ (fun _ => ?_))
   | exact ih0 _ _ _ _ _ _
   | exact frame_One.mono _ _ _
   | exact LeO.none _
   | refine LeO.ite ?_ ?_
   | refine LeO.bind ?_ (fun _ => ?_)
theorem frame_Encode.mono : ∀ a0 k, LeO (frame_Encode.f k a0) (frame_Encode.f (k + 1) a0) := by
 intro a0 k
 have ih0 := frame_Encode.mono_l k
 unfold frame_Encode.f
 repeat' first
   | (with_reducible exact ih0 _ _ _ _ _ _)
   | (with_reducible exact frame_One.mono _ _ _)
   | (with_reducible exact LeO.refl _)
   | (with_reducible exact LeO.none _)
   | (with_reducible refine LeO.ite ?_ ?_)
   | (with_reducible refine LeO.bind ?_ (fun _ => ?_))
   | exact ih0 _ _ _ _ _ _
   | exact frame_One.mono _ _ _
   | exact LeO.none _
   | refine LeO.ite ?_ ?_
   | refine LeO.bind ?_ (fun _ => ?_)
set_option maxHeartbeats 8000000 in
set_option maxRecDepth 100000 in
theorem frame_Encode.calls (k : Nat) (A0 : Option Addr) (c0 : Nat) (l0 : List (S33)) (r1 : List Int) (r2 : Int) (w : World) (hr0 : Kd.C k33 w A0 l0.length l0) (hc0 : l0.length ≤ c0) (h : frame_Encode.f k l0 = some (r1, r2)) :
  Calls Try.prog 10 #[.slice A0 l0.length c0] w fun e w' => ∃ v0_ : Value, e = .returned (.tuple #[v0_, .int .i64 r2]) ∧ Kd.R (Kd.int .u8) 5 w' w.heap.size (fun _ => True) v0_ r1 ∧ Below w.heap.size w w' := by
 have hu33 := Try.underlying33
 have HR0 := Aside0.mk hr0
 have HC0 := Aside0.mk hc0
 clear hr0 hc0
 have HB := Aside0.mk (Below.refl w.heap.size w)
 have H : ((frame_Head.f).bind fun t136 => (frame_Encode.l0 k t136 0 true l0 (l0.length : Int) 0)) = some (r1, r2) := h
 clear h
 replace H := Option.bind_eq_some_iff.mp H
 obtain ⟨t136, A20, H⟩ := H
 replace H : (frame_Encode.l0 k t136 0 true l0 (l0.length : Int) 0) = some (r1, r2) := H
 have A2 := Aside0.mk A20
 clear A20
 have H' := Aside0.mk H
 clear H
 go_enter Try.func10, Try.ntmps10
 go_wp2_with (first | ((with_reducible refine gate_callee (f := 19) rfl ?_); refine goesL_ (some 11) rfl rfl Try.func19 (by kernel_rfl) rfl #[] rfl (by (try simp only [List.map_toArray, List.map_cons, List.map_nil]); first | done | rfl | (simp only [List.length_drop, List.length_take]; rfl)) ?_; (with_reducible refine (frame_Head.calls  t136 _ A2.out).mono ?_); rintro e w3 ⟨v137, rfl, ho0, hb⟩; refine ⟨_, rfl, ?_⟩; have n0_ := Aside0.mk (Fz.RH_lower ho0 (below_size (bH HB))); have n1_ := Aside0.mk (below_step (bH HB) hb); clear HB; have HO138 := n0_; have HB := n1_; clear n0_ n1_; (try clear hb); (try clear hb2); (try clear hk); (try clear hi); (try clear ho0)))
 go_loopg [4, 5, 6, 14] k (fun kq v4 v5 v6 v14 w' => ∃ (x4_1 : List Int) (x5_1 : Int) (x6_1 : Bool) (x14_1 : Int), v5 = .int .i64 x5_1 ∧ v6 = .bool x6_1 ∧ v14 = .int .i64 x14_1 ∧ Aside0 (frame_Encode.l0 kq x4_1 x5_1 x6_1 l0 (l0.length : Int) x14_1 = some (r1, r2)) ∧ Aside0 (kq ≤ k) ∧ Aside0 (Fz.RH w' w.heap.size (fun _ => True) v4 x4_1) ∧ Aside0 (Below w.heap.size w w'))
 case atStart => exact ⟨(t136), (0), (true), (0), (by first | rfl | (simp; done) | (simp [*]; done)), (by first | rfl | (simp; done) | (simp [*]; done)), (by first | rfl | (simp; done) | (simp [*]; done)), H', ⟨Nat.le_refl _⟩, ⟨by (with_reducible repeat (first | apply Kd.R_alloc | apply Kd.R_drewN | apply Kd.R_drew | apply Fz.RH_alloc | apply Fz.RH_drewN | apply Fz.RH_drew)); exact HO138.out⟩, ⟨ bH HB⟩⟩
 case round =>
  clear H'
  try clear c1
  try clear p2
  obtain ⟨x4_1, x5_1, x6_1, x14_1, rfl, rfl, rfl, HA, HK1, HO_4, HB⟩ := hrel
  cases gk with
  | zero => exact absurd HA.out (by simp [frame_Encode.l0])
  | succ k1 =>
   have H := HA.out
   clear HA
   simp only [frame_Encode.l0] at H
   by_cases c4 : x14_1 < (l0.length : Int)
   ·rw [if_pos c4] at H
    have c4b0 : decide (x14_1 < (l0.length : Int)) = true := decide_eq_true c4
    clear c4
    by_cases c5 : 0 ≤ x14_1
    ·rw [if_pos c5] at H
     have c5b0 : decide (0 ≤ x14_1) = true := decide_eq_true c5
     clear c5
     by_cases c6 : x14_1 < (l0.length : Int)
     ·rw [if_pos c6] at H
      have c6b0 : decide (x14_1 < (l0.length : Int)) = true := decide_eq_true c6
      clear c6
      replace H := Option.bind_eq_some_iff.mp H
      obtain ⟨⟨t141, t144⟩, A70, H⟩ := H
      replace H : (if t144 = 0 then (if x6_1 = true then (if x4_1.length + t141.length < 140737488355328 then (frame_Encode.l0 k1 (x4_1 ++ t141) ((rd_T33 l0 x14_1).f0) (decide (((rd_T33 l0 x14_1).f0) > x5_1)) l0 (l0.length : Int) (wrap64 (x14_1 + 1))) else (none)) else (if x4_1.length + t141.length < 140737488355328 then (frame_Encode.l0 k1 (x4_1 ++ t141) ((rd_T33 l0 x14_1).f0) false l0 (l0.length : Int) (wrap64 (x14_1 + 1))) else (none))) else (some (([] : List Int), t144))) = some (r1, r2) := H
      have A7 := Aside0.mk A70
      clear A70
      have HC8 := Aside0.mk H
      clear H
      have p139 : 0 ≤ (x14_1 : Int) := of_decide_eq_true (by first | (with_reducible assumption) | assumption)
      have q139 : x14_1 < (l0.length : Int) := of_decide_eq_true (by first | (with_reducible assumption) | assumption)
      obtain ⟨ad139, A139_1, c139_1, e139, hx139_0, hx139_1, hl139_1, hi139_1⟩ := at_T33 HR0.out x14_1 p139 q139
      cases e139
      replace hx139_0 := (HB.out.cell (World.block_lt_of_cell? w _ hx139_0)).trans hx139_0
      replace hx139_1 := (HB.out.cell (World.block_lt_of_cell? w _ hx139_1)).trans hx139_1
      have HR139_1 := Aside0.mk hi139_1
      have HC139_1 := Aside0.mk hl139_1
      clear hi139_1 hl139_1
      replace p139 := eq_true p139
      replace q139 := eq_true q139
      go_upto_if 24 with (first | ((with_reducible refine gate_dst (N := 8) rfl ?_); refine box_event ?hg (N := 8) ?hd (cs := #[.int .i64 0, .slice none 0 0]) (t := 33) ?hr ?_; (case hd => rfl); (case hg => rfl); (case hr => first | (go_simp; done) | (go_simp; rfl)); intro gb140 hg w9 hbox hb; have n0_ := Aside0.mk (Fz.RH_below (by (with_reducible repeat (first | apply Kd.R_alloc | apply Kd.R_drewN | apply Kd.R_drew | apply Fz.RH_alloc | apply Fz.RH_drewN | apply Fz.RH_drew)); exact HO_4.out) hb); have n1_ := Aside0.mk (below_step (bH HB) hb); have n2_ := Aside0.mk (hbox); have n3_ := Aside0.mk ((by rw [hg]; exact (below_size (bH HB)) : w.heap.size ≤ gb140)); have n4_ := n3_; clear HO_4; clear HB; have HO_4 := n0_; have HB := n1_; have BK140 := n2_; have GW140 := n3_; have GE140 := n4_; clear n0_ n1_ n2_ n3_ n4_; clear hb hbox hg; have hcz10_0 : w9.cell? ⟨gb140, 0, none⟩ = some (.int .i64 0) := (blk_cell BK140.out 0).trans rfl; have hcz10_1 : w9.cell? ⟨gb140, 1, none⟩ = some (.slice none 0 0) := (blk_cell BK140.out 1).trans rfl; have hfz10_0 := blk_frozen BK140.out 0; have hfz10_1 := blk_frozen BK140.out 1) | ((with_reducible refine gate_callee (f := 12) rfl ?_); refine goesL_ (some 20) rfl rfl Try.func12 (by kernel_rfl) rfl #[.agg #[.int .i64 ((rd_T33 l0 x14_1).f0), .slice A139_1 ((rd_T33 l0 x14_1).f1).length c139_1]] rfl (by (try simp only [List.map_toArray, List.map_cons, List.map_nil]); first | done | rfl | (simp only [List.length_drop, List.length_take]; rfl)) ?_; (with_reducible refine (frame_One.calls k1 ((rd_T33 l0 x14_1).f0) _ _ ((rd_T33 l0 x14_1).f1) t141 t144 _ ?side1 ?side2 A7.out).mono ?_); (case side1 => exact Kd.C_below HR139_1.out (bH HB)); (case side2 => exact HC139_1.out); rintro e w11 ⟨v142, rfl, ho0, hb⟩; refine ⟨_, rfl, ?_⟩; have n0_ := Aside0.mk (Fz.RH_elder' (by (with_reducible repeat (first | apply Kd.R_alloc | apply Kd.R_drewN | apply Kd.R_drew | apply Fz.RH_alloc | apply Fz.RH_drewN | apply Fz.RH_drew)); exact (Fz.RH_mono (Fz.RH_far (p := ⟨gb140, 1, none⟩) (Fz.RH_far (p := ⟨gb140, 0, none⟩) (Fz.RH_types HO_4.out BK140.out (by decide)) (fun _ hk => hk.2) (.int .i64 ((rd_T33 l0 x14_1).f0))) (fun _ hk => hk.2) (.slice A139_1 ((rd_T33 l0 x14_1).f1).length c139_1)) (fun _ h_ => h_.1))) (Kd.R_base ho0) hb); have n1_ := Aside0.mk (Kd.R_lower (Kd.R_new' ho0 (Fz.RH_lt (by (with_reducible repeat (first | apply Kd.R_alloc | apply Kd.R_drewN | apply Kd.R_drew | apply Fz.RH_alloc | apply Fz.RH_drewN | apply Fz.RH_drew)); exact (Fz.RH_mono (Fz.RH_far (p := ⟨gb140, 1, none⟩) (Fz.RH_far (p := ⟨gb140, 0, none⟩) (Fz.RH_types HO_4.out BK140.out (by decide)) (fun _ hk => hk.2) (.int .i64 ((rd_T33 l0 x14_1).f0))) (fun _ hk => hk.2) (.slice A139_1 ((rd_T33 l0 x14_1).f1).length c139_1)) (fun _ h_ => h_.1))))) (below_size (bH HB))); have n2_ := Aside0.mk (blk_below (g := gb140) (o := .cells #[.int .i64 ((rd_T33 l0 x14_1).f0), .slice A139_1 ((rd_T33 l0 x14_1).f1).length c139_1] 33 (0, 0)) (by (with_reducible repeat (first | refine blk_drewN ?_ _ | refine blk_drew ?_ | refine blk_alloc ?_ _)); refine blk_put (cs := #[.int .i64 ((rd_T33 l0 x14_1).f0), .slice none 0 0]) ?_ 1 _ rfl; (with_reducible repeat (first | refine blk_drewN ?_ _ | refine blk_drew ?_ | refine blk_alloc ?_ _)); refine blk_put (cs := #[.int .i64 0, .slice none 0 0]) ?_ 0 _ rfl; (with_reducible repeat (first | refine blk_drewN ?_ _ | refine blk_drew ?_ | refine blk_alloc ?_ _)); exact BK140.out) hb); have n3_ := Aside0.mk (below_step (bH HB) hb); clear HO_4; clear BK140; clear HB; have HO_4 := n0_; have HO143 := n1_; have BK140 := n2_; have HB := n3_; clear n0_ n1_ n2_ n3_; (try clear hb); (try clear hb2); (try clear hk); (try clear hi); (try clear ho0)))
      (try simp only [Act.put, List.setIfInBounds_toArray, List.set_cons_zero, List.set_cons_succ])
      have H := HC8.out
      clear HC8
      by_cases c12 : t144 = 0
      ·rw [if_pos c12] at H
       have c12b0 : (t144 == 0) = true := beq_iff_eq.mpr c12
       have c12b1 : (t144 != 0) = false := bne_eq_false_iff_eq.mpr c12
       clear c12
       (first | rw [c12b0] | (simp only [i64_w, i32_w]; rw [c12b0]) | skip)
       by_cases c13 : x6_1 = true
       ·subst c13
        have H1 : (if x4_1.length + t141.length < 140737488355328 then (frame_Encode.l0 k1 (x4_1 ++ t141) ((rd_T33 l0 x14_1).f0) (decide (((rd_T33 l0 x14_1).f0) > x5_1)) l0 (l0.length : Int) (wrap64 (x14_1 + 1))) else (none)) = some (r1, r2) := by rw [if_pos rfl] at H; exact H
        clear H
        have H := H1
        clear H1
        by_cases c14 : x4_1.length + t141.length < 140737488355328
        ·rw [if_pos c14] at H
         have LMc14 := Aside0.mk c14
         clear c14
         obtain ⟨y145, hy145⟩ : ∃ y_ : List Int, y_ = (x4_1 ++ t141) := ⟨_, rfl⟩
         replace H : (frame_Encode.l0 k1 y145 ((rd_T33 l0 x14_1).f0) (decide (((rd_T33 l0 x14_1).f0) > x5_1)) l0 (l0.length : Int) (wrap64 (x14_1 + 1))) = some (r1, r2) := by first | (rw [hy145]; with_reducible exact H) | (have H2_ := (Option.bind_some _ _).symm.trans H; rw [hy145]; with_reducible exact H2_) | (have H2_ := (Option.bind_some _ _).symm.trans H; with_reducible exact H2_) | with_reducible exact H | (rw [hy145]; exact H) | exact H
         have Ny145 := Aside0.mk hy145
         clear hy145
         have H' := Aside0.mk H
         clear H
         have hcz15_0 : w11.cell? ⟨gb140, 0, none⟩ = some (.int .i64 ((rd_T33 l0 x14_1).f0)) := (blk_cell BK140.out 0).trans rfl
         have hcz15_1 : w11.cell? ⟨gb140, 1, none⟩ = some (.slice A139_1 ((rd_T33 l0 x14_1).f1).length c139_1) := (blk_cell BK140.out 1).trans rfl
         have hfz15_0 := blk_frozen BK140.out 0
         have hfz15_1 := blk_frozen BK140.out 1
         obtain ⟨Ao17, co17, eo17⟩ := Kd.R_slice HO143.out
         subst eo17
         go_wp2_with (first | ((with_reducible refine gate_builtin (b := .append) (xs := #[.tmp 35, .tmp 36]) rfl ?_); at_builtin; refine Fz.RH_append_rows (w0 := w) w.heap.size rfl (.tmp 35) (.tmp 36) 25 rfl Try.underlying25 info5 u4 x4_1 t141 _ _ _ (fun k_ => some k_ ≠ (.slice Ao17 t141.length co17 : Value).ownBlock) rfl rfl ?aO ?aR ?aF ?aB ?aS ?aL ?_; (case aR => repeat (first | exact (Kd.R_reads' HO143.out).2.2 | (with_reducible refine Kd.C_alloc ?_ _) | (with_reducible refine Kd.C_drewN ?_ _) | (with_reducible refine Kd.C_drew ?_))); (case aB => exact (bH HB)); (case aF => exact (fun k_ hk => Kd.fresh' (Kd.R_lt (by (with_reducible repeat (first | apply Kd.R_alloc | apply Kd.R_drewN | apply Kd.R_drew | apply Fz.RH_alloc | apply Fz.RH_drewN | apply Fz.RH_drew)); exact HO143.out)) k_ hk)); (case aO => exact (by (with_reducible repeat (first | apply Kd.R_alloc | apply Kd.R_drewN | apply Kd.R_drew | apply Fz.RH_alloc | apply Fz.RH_drewN | apply Fz.RH_drew)); exact Fz.RH_mono HO_4.out (fun _ hk => hk.2))); (case aS => exact (below_size (bH HB))); (case aL => have := LMc14.out; omega); intro v146 w16 ho hb hg hat; rw [← Ny145.out] at ho; have n0_ := Aside0.mk (blk_grown (g := gb140) (o := .cells #[.int .i64 ((rd_T33 l0 x14_1).f0), .slice A139_1 ((rd_T33 l0 x14_1).f1).length c139_1] 33 (0, 0)) (bK BK140) hg (Fz.RH_ne HO_4.out BK140.out (by decide))); have n1_ := Aside0.mk (Kd.R_after (ok := (fun _ => True)) (by (with_reducible repeat (first | apply Kd.R_alloc | apply Kd.R_drewN | apply Kd.R_drew | apply Fz.RH_alloc | apply Fz.RH_drewN | apply Fz.RH_drew)); exact HO143.out) hg hat); have n2_ := Aside0.mk (hb); have n3_ := Aside0.mk (ho); clear BK140; clear HO143; clear HB; clear HO_4; have BK140 := n0_; have HO143 := n1_; have HB := n2_; have HO147 := n3_; clear n0_ n1_ n2_ n3_; clear ho hb hg hat))
         go_roundg k1
         case measure => have := HK1.out; omega
         case rel => exact ⟨(y145), ((rd_T33 l0 x14_1).f0), (decide (((rd_T33 l0 x14_1).f0) > x5_1)), (wrap64 (x14_1 + 1)), (by first | rfl | (simp; done) | (simp [*]; done)), (by first | rfl | (simp; done) | (simp [*]; done)), (by first | rfl | (simp; done) | (simp [*]; done)), H', ⟨by have := HK1.out; omega⟩, ⟨by (with_reducible repeat (first | apply Kd.R_alloc | apply Kd.R_drewN | apply Kd.R_drew | apply Fz.RH_alloc | apply Fz.RH_drewN | apply Fz.RH_drew)); exact Fz.RH_mono HO147.out (fun _ hk => trivial)⟩, ⟨ bH HB⟩⟩
        ·rw [if_neg c14] at H
         exact absurd H (by simp)
       ·replace c13 := Bool.eq_false_iff.mpr c13
        subst c13
        have H1 : (if x4_1.length + t141.length < 140737488355328 then (frame_Encode.l0 k1 (x4_1 ++ t141) ((rd_T33 l0 x14_1).f0) false l0 (l0.length : Int) (wrap64 (x14_1 + 1))) else (none)) = some (r1, r2) := by rw [if_neg (show ¬ (false = true) by decide)] at H; exact H
        clear H
        have H := H1
        clear H1
        by_cases c18 : x4_1.length + t141.length < 140737488355328
        ·rw [if_pos c18] at H
         have LMc18 := Aside0.mk c18
         clear c18
         obtain ⟨y148, hy148⟩ : ∃ y_ : List Int, y_ = (x4_1 ++ t141) := ⟨_, rfl⟩
         replace H : (frame_Encode.l0 k1 y148 ((rd_T33 l0 x14_1).f0) false l0 (l0.length : Int) (wrap64 (x14_1 + 1))) = some (r1, r2) := by first | (rw [hy148]; with_reducible exact H) | (have H2_ := (Option.bind_some _ _).symm.trans H; rw [hy148]; with_reducible exact H2_) | (have H2_ := (Option.bind_some _ _).symm.trans H; with_reducible exact H2_) | with_reducible exact H | (rw [hy148]; exact H) | exact H
         have Ny148 := Aside0.mk hy148
         clear hy148
         have H' := Aside0.mk H
         clear H
         have hcz19_0 : w11.cell? ⟨gb140, 0, none⟩ = some (.int .i64 ((rd_T33 l0 x14_1).f0)) := (blk_cell BK140.out 0).trans rfl
         have hcz19_1 : w11.cell? ⟨gb140, 1, none⟩ = some (.slice A139_1 ((rd_T33 l0 x14_1).f1).length c139_1) := (blk_cell BK140.out 1).trans rfl
         have hfz19_0 := blk_frozen BK140.out 0
         have hfz19_1 := blk_frozen BK140.out 1
         obtain ⟨Ao21, co21, eo21⟩ := Kd.R_slice HO143.out
         subst eo21
         go_wp2_with (first | ((with_reducible refine gate_builtin (b := .append) (xs := #[.tmp 35, .tmp 36]) rfl ?_); at_builtin; refine Fz.RH_append_rows (w0 := w) w.heap.size rfl (.tmp 35) (.tmp 36) 25 rfl Try.underlying25 info5 u4 x4_1 t141 _ _ _ (fun k_ => some k_ ≠ (.slice Ao21 t141.length co21 : Value).ownBlock) rfl rfl ?aO ?aR ?aF ?aB ?aS ?aL ?_; (case aR => repeat (first | exact (Kd.R_reads' HO143.out).2.2 | (with_reducible refine Kd.C_alloc ?_ _) | (with_reducible refine Kd.C_drewN ?_ _) | (with_reducible refine Kd.C_drew ?_))); (case aB => exact (bH HB)); (case aF => exact (fun k_ hk => Kd.fresh' (Kd.R_lt (by (with_reducible repeat (first | apply Kd.R_alloc | apply Kd.R_drewN | apply Kd.R_drew | apply Fz.RH_alloc | apply Fz.RH_drewN | apply Fz.RH_drew)); exact HO143.out)) k_ hk)); (case aO => exact (by (with_reducible repeat (first | apply Kd.R_alloc | apply Kd.R_drewN | apply Kd.R_drew | apply Fz.RH_alloc | apply Fz.RH_drewN | apply Fz.RH_drew)); exact Fz.RH_mono HO_4.out (fun _ hk => hk.2))); (case aS => exact (below_size (bH HB))); (case aL => have := LMc18.out; omega); intro v149 w20 ho hb hg hat; rw [← Ny148.out] at ho; have n0_ := Aside0.mk (blk_grown (g := gb140) (o := .cells #[.int .i64 ((rd_T33 l0 x14_1).f0), .slice A139_1 ((rd_T33 l0 x14_1).f1).length c139_1] 33 (0, 0)) (bK BK140) hg (Fz.RH_ne HO_4.out BK140.out (by decide))); have n1_ := Aside0.mk (Kd.R_after (ok := (fun _ => True)) (by (with_reducible repeat (first | apply Kd.R_alloc | apply Kd.R_drewN | apply Kd.R_drew | apply Fz.RH_alloc | apply Fz.RH_drewN | apply Fz.RH_drew)); exact HO143.out) hg hat); have n2_ := Aside0.mk (hb); have n3_ := Aside0.mk (ho); clear BK140; clear HO143; clear HB; clear HO_4; have BK140 := n0_; have HO143 := n1_; have HB := n2_; have HO150 := n3_; clear n0_ n1_ n2_ n3_; clear ho hb hg hat))
         go_roundg k1
         case measure => have := HK1.out; omega
         case rel => exact ⟨(y148), ((rd_T33 l0 x14_1).f0), (false), (wrap64 (x14_1 + 1)), (by first | rfl | (simp; done) | (simp [*]; done)), (by first | rfl | (simp; done) | (simp [*]; done)), (by first | rfl | (simp; done) | (simp [*]; done)), H', ⟨by have := HK1.out; omega⟩, ⟨by (with_reducible repeat (first | apply Kd.R_alloc | apply Kd.R_drewN | apply Kd.R_drew | apply Fz.RH_alloc | apply Fz.RH_drewN | apply Fz.RH_drew)); exact Fz.RH_mono HO150.out (fun _ hk => trivial)⟩, ⟨ bH HB⟩⟩
        ·rw [if_neg c18] at H
         exact absurd H (by simp)
      ·rw [if_neg c12] at H
       have c12b0 : (t144 == 0) = false := beq_eq_false_iff_ne.mpr c12
       have c12b1 : (t144 != 0) = true := bne_iff_ne.mpr c12
       (first | rw [c12b0] | (simp only [i64_w, i32_w]; rw [c12b0]) | skip)
       simp only [Option.some.injEq, Prod.mk.injEq] at H
       obtain ⟨rfl, rfl⟩ := H
       go_wp2
       go_ret2
       exact ⟨_, by first | rfl | (simp [errW_none, errW_some] <;> rfl) | (simp [*, errW_none, errW_some] <;> rfl), by first | exact Kd.R_nil _ _ _ _ _ | exact Kd.N_nil _ _ _ _ _ | exact Kd.V_nil _ _ _ _ _ | exact Kd.Q_nil _ _ _ _ _ | exact Kd.S_nil _ _ _ _ _, bH HB⟩
     ·rw [if_neg c6] at H
      exact absurd H (by simp)
    ·rw [if_neg c5] at H
     exact absurd H (by simp)
   ·rw [if_neg c4] at H
    have c4b0 : decide (x14_1 < (l0.length : Int)) = false := decide_eq_false c4
    clear c4
    by_cases c22 : x4_1.length < 140737488355328
    ·rw [if_pos c22] at H
     have LMc22 := Aside0.mk c22
     clear c22
     obtain ⟨y151, hy151⟩ : ∃ y_ : List Int, y_ = (x4_1 ++ [0]) := ⟨_, rfl⟩
     replace H : (if x6_1 = true then (if (y151.length : Int) > 1048576 then (some (([] : List Int), 3)) else (some (y151, 0))) else (some (([] : List Int), 2))) = some (r1, r2) := by first | (rw [hy151]; with_reducible exact H) | (have H2_ := (Option.bind_some _ _).symm.trans H; rw [hy151]; with_reducible exact H2_) | (have H2_ := (Option.bind_some _ _).symm.trans H; with_reducible exact H2_) | with_reducible exact H | (rw [hy151]; exact H) | exact H
     have Ny151 := Aside0.mk hy151
     clear hy151
     have HC23 := Aside0.mk H
     clear H
     go_upto_if 42 with (first | ((with_reducible refine gate_builtin (b := .append) (xs := #[.tmp 39, .tmp 40]) rfl ?_); at_builtin; refine Fz.RH_append (w0 := w) w.heap.size rfl (.tmp 39) (.tmp 40) 25 rfl Try.underlying25 info5 u4 x4_1 0 (fun _ => True) rfl rfl ?aF ?aO ?aB ?aS ?aL ?_; (case aB => exact (bH HB)); (case aF => exact (fun _ _ => trivial)); (case aO => exact (by (with_reducible repeat (first | apply Kd.R_alloc | apply Kd.R_drewN | apply Kd.R_drew | apply Fz.RH_alloc | apply Fz.RH_drewN | apply Fz.RH_drew)); exact HO_4.out)); (case aS => exact (below_size (bH HB))); (case aL => have := LMc22.out; omega); intro v152 w24 ho hb hg hat; rw [← Ny151.out] at ho; have n0_ := Aside0.mk (hb); have n1_ := Aside0.mk (ho); clear HB; clear HO_4; have HB := n0_; have HO153 := n1_; clear n0_ n1_; clear ho hb hg hat))
     (try simp only [Act.put, List.setIfInBounds_toArray, List.set_cons_zero, List.set_cons_succ])
     have H := HC23.out
     clear HC23
     by_cases c25 : x6_1 = true
     ·subst c25
      have H1 : (if (y151.length : Int) > 1048576 then (some (([] : List Int), 3)) else (some (y151, 0))) = some (r1, r2) := by rw [if_pos rfl] at H; exact H
      clear H
      have H := H1
      clear H1
      by_cases c26 : (y151.length : Int) > 1048576
      ·rw [if_pos c26] at H
       have c26b0 : decide (1048576 < (y151.length : Int)) = true := decide_eq_true c26
       have c26b1 : decide (1048576 < y151.length) = true := decide_eq_true (by omega)
       clear c26
       (first | rw [c26b0] | (simp only [i64_w, i32_w]; rw [c26b0]) | skip)
       simp only [Option.some.injEq, Prod.mk.injEq] at H
       obtain ⟨rfl, rfl⟩ := H
       obtain ⟨Ao27, co27, eo27⟩ := Kd.R_slice HO153.out
       subst eo27
       go_wp2
       go_ret2
       exact ⟨_, by first | rfl | (simp [errW_none, errW_some] <;> rfl) | (simp [*, errW_none, errW_some] <;> rfl), by first | exact Kd.R_nil _ _ _ _ _ | exact Kd.N_nil _ _ _ _ _ | exact Kd.V_nil _ _ _ _ _ | exact Kd.Q_nil _ _ _ _ _ | exact Kd.S_nil _ _ _ _ _, bH HB⟩
      ·rw [if_neg c26] at H
       have c26b0 : decide (1048576 < (y151.length : Int)) = false := decide_eq_false c26
       have c26b1 : decide (1048576 < y151.length) = false := decide_eq_false (by omega)
       clear c26
       (first | rw [c26b0] | (simp only [i64_w, i32_w]; rw [c26b0]) | skip)
       simp only [Option.some.injEq, Prod.mk.injEq] at H
       obtain ⟨rfl, rfl⟩ := H
       obtain ⟨Ao28, co28, eo28⟩ := Kd.R_slice HO153.out
       subst eo28
       go_wp2
       go_ret2
       exact ⟨_, by first | rfl | (simp [errW_none, errW_some] <;> rfl) | (simp [*, errW_none, errW_some] <;> rfl), by (with_reducible repeat (first | apply Kd.R_alloc | apply Kd.R_drewN | apply Kd.R_drew | apply Fz.RH_alloc | apply Fz.RH_drewN | apply Fz.RH_drew)); exact HO153.out, bH HB⟩
     ·replace c25 := Bool.eq_false_iff.mpr c25
      subst c25
      have H1 : (some (([] : List Int), 2)) = some (r1, r2) := by rw [if_neg (show ¬ (false = true) by decide)] at H; exact H
      clear H
      have H := H1
      clear H1
      simp only [Option.some.injEq, Prod.mk.injEq] at H
      obtain ⟨rfl, rfl⟩ := H
      go_wp2
      go_ret2
      exact ⟨_, by first | rfl | (simp [errW_none, errW_some] <;> rfl) | (simp [*, errW_none, errW_some] <;> rfl), by first | exact Kd.R_nil _ _ _ _ _ | exact Kd.N_nil _ _ _ _ _ | exact Kd.V_nil _ _ _ _ _ | exact Kd.Q_nil _ _ _ _ _ | exact Kd.S_nil _ _ _ _ _, bH HB⟩
    ·rw [if_neg c22] at H
     exact absurd H (by simp)

end Go.Proofs.Ytimdikfllbbdoaa.P
