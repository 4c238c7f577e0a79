/- Written for this claim by a program of this session (a turned copy of the print): Go functions as Lean functions, and that the Go code comes to just these answers; or a statement proved out of them. No condition. -/
import Derived.Test.YtglmfnaofpbpfaaZ2
import Derived.Test.YtglmfnaofpbpfaaZ7

namespace Go.Proofs.Ytglmfnaofpbpfaa.P
open Go.RowKit Go.Proofs.YtglmfnaofpbpfaaW.PrintWords Go.Proofs.YtglmfnaofpbpfaaW.PrintLast Go.Proofs.YtglmfnaofpbpfaaW.PrintMore Go.Proofs.Ytglmfnaofpbpfaa.X
attribute [local go_sem] max2_int min2_int max_two min_two max_three min_three max_four min_four   -- for this text's walks alone
set_option linter.unusedVariables false
set_option linter.unusedSimpArgs false

/-! ### frame_Encode: function 19 -/
def frame_Encode.l0 : Nat → List Int → Int → Bool → List (S48) → Int → Int → Option (List Int × Int)
 | 0, _, _, _, _, _, _ => none
 | k + 1, x4, x5, x6, x12, x13, x14 => if x14 < x13 then (if 0 ≤ x14 then (if x14 < (x12.length : Int) then ((frame_One.f k ((rd_T48 x12 x14).f0) ((rd_T48 x12 x14).f1)).bind fun bt312 => (if bt312.2 = 0 then (if x6 = true then (if x4.length + bt312.1.length < 140737488355328 then (frame_Encode.l0 k (x4 ++ bt312.1) ((rd_T48 x12 x14).f0) (decide (((rd_T48 x12 x14).f0) > x5)) x12 x13 (wrap64 (x14 + 1))) else (none)) else (if x4.length + bt312.1.length < 140737488355328 then (frame_Encode.l0 k (x4 ++ bt312.1) ((rd_T48 x12 x14).f0) false x12 x13 (wrap64 (x14 + 1))) else (none))) else (some (([] : List Int), bt312.2)))) else (none)) else (none)) else (if x4.length < 140737488355328 then ((some (x4 ++ [0] : List Int)).bind fun y322 => (if x6 = true then (if (y322.length : Int) > 1048576 then (some (([] : List Int), 3)) else (some (y322, 0))) else (some (([] : List Int), 2)))) else (none))
def frame_Encode.f (k : Nat) (l0 : List (S48)) : Option (List Int × Int) := (frame_Head.f).bind fun t307 => (frame_Encode.l0 k t307 0 true l0 (l0.length : Int) 0)
theorem frame_Encode.mono_l : ∀ k, (∀ y0 y1 y2 y3 y4 y5, LeO (frame_Encode.l0 k y0 y1 y2 y3 y4 y5) (frame_Encode.l0 (k + 1) y0 y1 y2 y3 y4 y5))
 | 0 => fun _ _ _ _ _ _ r h => by simp [frame_Encode.l0] at h
 | k + 1 => by
  have ih0 := frame_Encode.mono_l k
  ·intro y0 y1 y2 y3 y4 y5
   unfold frame_Encode.l0
   repeat' first
   | (with_reducible exact ih0 _ _ _ _ _ _)
   | (with_reducible exact frame_One.mono _ _ _)
   | (with_reducible exact LeO.refl _)
   | (with_reducible exact LeO.none _)
   | (with_reducible refine LeO.ite ?_ ?_)
   | (with_reducible refine LeO.bind ?_ (fun _ => ?_))
   | exact ih0 _ _ _ _ _ _
   | exact frame_One.mono _ _ _
   | exact LeO.none _
   | refine LeO.ite ?_ ?_
   | refine LeO.bind ?_ (fun _ => ?_)
theorem frame_Encode.mono : ∀ a0 k, LeO (frame_Encode.f k a0) (frame_Encode.f (k + 1) a0) := by
 intro a0 k
 have ih0 := frame_Encode.mono_l k
 unfold frame_Encode.f
 repeat' first
   | (with_reducible exact ih0 _ _ _ _ _ _)
   | (with_reducible exact frame_One.mono _ _ _)
   | (with_reducible exact LeO.refl _)
   | (with_reducible exact LeO.none _)
   | (with_reducible refine LeO.ite ?_ ?_)
   | (with_reducible refine LeO.bind ?_ (fun _ => ?_))
   | exact ih0 _ _ _ _ _ _
   | exact frame_One.mono _ _ _
   | exact LeO.none _
   | refine LeO.ite ?_ ?_
   | refine LeO.bind ?_ (fun _ => ?_)
set_option maxHeartbeats 8000000 in
set_option maxRecDepth 100000 in
theorem frame_Encode.calls (k : Nat) (A0 : Option Addr) (c0 : Nat) (l0 : List (S48)) (r1 : List Int) (r2 : Int) (w : World) (hr0 : Kd.C k48 w A0 l0.length l0) (hc0 : l0.length ≤ c0) (h : frame_Encode.f k l0 = some (r1, r2)) :
  Calls Try.prog 19 #[.slice A0 l0.length c0] w fun e w' => ∃ v0_ : Value, e = .returned (.tuple #[v0_, .int .i64 r2]) ∧ Kd.R (Kd.int .u8) 5 w' w.heap.size (fun _ => True) v0_ r1 ∧ Below w.heap.size w w' := by
 have hu48 := Try.underlying48
 have HR0 := Aside0.mk hr0
 have HC0 := Aside0.mk hc0
 clear hr0 hc0
 have HB := Aside0.mk (Below.refl w.heap.size w)
 have H : ((frame_Head.f).bind fun t307 => (frame_Encode.l0 k t307 0 true l0 (l0.length : Int) 0)) = some (r1, r2) := h
 clear h
 replace H := Option.bind_eq_some_iff.mp H
 obtain ⟨t307, A20, H⟩ := H
 replace H : (frame_Encode.l0 k t307 0 true l0 (l0.length : Int) 0) = some (r1, r2) := H
 have A2 := Aside0.mk A20
 clear A20
 have H' := Aside0.mk H
 clear H
 go_enter Try.func19, Try.ntmps19
 go_wp2_with (first | ((with_reducible refine gate_callee (f := 25) rfl ?_); refine goesL_ (some 11) rfl rfl Try.func25 (by kernel_rfl) rfl #[] rfl (by (try simp only [List.map_toArray, List.map_cons, List.map_nil]); first | done | rfl | (simp only [List.length_drop, List.length_take]; rfl)) ?_; (with_reducible refine (frame_Head.calls  t307 _ A2.out).mono ?_); rintro e w3 ⟨v308, rfl, ho0, hb⟩; refine ⟨_, rfl, ?_⟩; have n0_ := Aside0.mk (Fz.RH_lower ho0 (below_size (bH HB))); have n1_ := Aside0.mk (below_step (bH HB) hb); clear HB; have HO309 := n0_; have HB := n1_; clear n0_ n1_; (try clear hb); (try clear hb2); (try clear hk); (try clear hi); (try clear ho0)))
 go_loopg [4, 5, 6, 14] k (fun kq v4 v5 v6 v14 w' => ∃ (x4_1 : List Int) (x5_1 : Int) (x6_1 : Bool) (x14_1 : Int), v5 = .int .i64 x5_1 ∧ v6 = .bool x6_1 ∧ v14 = .int .i64 x14_1 ∧ Aside0 (frame_Encode.l0 kq x4_1 x5_1 x6_1 l0 (l0.length : Int) x14_1 = some (r1, r2)) ∧ Aside0 (kq ≤ k) ∧ Aside0 (Fz.RH w' w.heap.size (fun _ => True) v4 x4_1) ∧ Aside0 (Below w.heap.size w w'))
 case atStart => exact ⟨(t307), (0), (true), (0), (by first | rfl | (simp; done) | (simp [*]; done)), (by first | rfl | (simp; done) | (simp [*]; done)), (by first | rfl | (simp; done) | (simp [*]; done)), H', ⟨Nat.le_refl _⟩, ⟨by (with_reducible repeat (first | apply Kd.R_alloc | apply Kd.R_drewN | apply Kd.R_drew | apply Fz.RH_alloc | apply Fz.RH_drewN | apply Fz.RH_drew)); exact HO309.out⟩, ⟨ bH HB⟩⟩
 case round =>
  clear H'
  try clear c1
  try clear c2
  try clear p2
  obtain ⟨x4_1, x5_1, x6_1, x14_1, rfl, rfl, rfl, HA, HK1, HO_4, HB⟩ := hrel
  cases gk with
  | zero => exact absurd HA.out (by simp [frame_Encode.l0])
  | succ k1 =>
   have H := HA.out
   clear HA
   simp only [frame_Encode.l0] at H
   by_cases c4 : x14_1 < (l0.length : Int)
   ·rw [if_pos c4] at H
    have c4b0 : decide (x14_1 < (l0.length : Int)) = true := decide_eq_true c4
    clear c4
    by_cases c5 : 0 ≤ x14_1
    ·rw [if_pos c5] at H
     have c5b0 : decide (0 ≤ x14_1) = true := decide_eq_true c5
     clear c5
     by_cases c6 : x14_1 < (l0.length : Int)
     ·rw [if_pos c6] at H
      have c6b0 : decide (x14_1 < (l0.length : Int)) = true := decide_eq_true c6
      clear c6
      replace H := Option.bind_eq_some_iff.mp H
      obtain ⟨⟨t312, t315⟩, A70, H⟩ := H
      replace H : (if t315 = 0 then (if x6_1 = true then (if x4_1.length + t312.length < 140737488355328 then (frame_Encode.l0 k1 (x4_1 ++ t312) ((rd_T48 l0 x14_1).f0) (decide (((rd_T48 l0 x14_1).f0) > x5_1)) l0 (l0.length : Int) (wrap64 (x14_1 + 1))) else (none)) else (if x4_1.length + t312.length < 140737488355328 then (frame_Encode.l0 k1 (x4_1 ++ t312) ((rd_T48 l0 x14_1).f0) false l0 (l0.length : Int) (wrap64 (x14_1 + 1))) else (none))) else (some (([] : List Int), t315))) = some (r1, r2) := H
      have A7 := Aside0.mk A70
      clear A70
      have HC8 := Aside0.mk H
      clear H
      have p310 : 0 ≤ (x14_1 : Int) := of_decide_eq_true (by first | (with_reducible assumption) | assumption)
      have q310 : x14_1 < (l0.length : Int) := of_decide_eq_true (by first | (with_reducible assumption) | assumption)
      obtain ⟨ad310, A310_1, c310_1, e310, hx310_0, hx310_1, hl310_1, hi310_1⟩ := at_T48 HR0.out x14_1 p310 q310
      cases e310
      replace hx310_0 := (HB.out.cell (World.block_lt_of_cell? w _ hx310_0)).trans hx310_0
      replace hx310_1 := (HB.out.cell (World.block_lt_of_cell? w _ hx310_1)).trans hx310_1
      have HR310_1 := Aside0.mk hi310_1
      have HC310_1 := Aside0.mk hl310_1
      clear hi310_1 hl310_1
      replace p310 := eq_true p310
      replace q310 := eq_true q310
      go_upto_if 24 with (first | ((with_reducible refine gate_dst (N := 8) rfl ?_); refine box_event ?hg (N := 8) ?hd (cs := #[.int .i64 0, .slice none 0 0]) (t := 48) ?hr ?_; (case hd => rfl); (case hg => rfl); (case hr => first | (go_simp; done) | (go_simp; rfl)); intro gb311 hg w9 hbox hb; have n0_ := Aside0.mk (Fz.RH_below (by (with_reducible repeat (first | apply Kd.R_alloc | apply Kd.R_drewN | apply Kd.R_drew | apply Fz.RH_alloc | apply Fz.RH_drewN | apply Fz.RH_drew)); exact HO_4.out) hb); have n1_ := Aside0.mk (below_step (bH HB) hb); have n2_ := Aside0.mk (hbox); have n3_ := Aside0.mk ((by rw [hg]; exact (below_size (bH HB)) : w.heap.size ≤ gb311)); have n4_ := n3_; clear HO_4; clear HB; have HO_4 := n0_; have HB := n1_; have BK311 := n2_; have GW311 := n3_; have GE311 := n4_; clear n0_ n1_ n2_ n3_ n4_; clear hb hbox hg; have hcz10_0 : w9.cell? ⟨gb311, 0, none⟩ = some (.int .i64 0) := (blk_cell BK311.out 0).trans rfl; have hcz10_1 : w9.cell? ⟨gb311, 1, none⟩ = some (.slice none 0 0) := (blk_cell BK311.out 1).trans rfl; have hfz10_0 := blk_frozen BK311.out 0; have hfz10_1 := blk_frozen BK311.out 1) | ((with_reducible refine gate_callee (f := 26) rfl ?_); refine goesL_ (some 20) rfl rfl Try.func26 (by kernel_rfl) rfl #[.agg #[.int .i64 ((rd_T48 l0 x14_1).f0), .slice A310_1 ((rd_T48 l0 x14_1).f1).length c310_1]] rfl (by (try simp only [List.map_toArray, List.map_cons, List.map_nil]); first | done | rfl | (simp only [List.length_drop, List.length_take]; rfl)) ?_; (with_reducible refine (frame_One.calls k1 ((rd_T48 l0 x14_1).f0) _ _ ((rd_T48 l0 x14_1).f1) t312 t315 _ ?side1 ?side2 A7.out).mono ?_); (case side1 => exact Kd.C_below HR310_1.out (bH HB)); (case side2 => exact HC310_1.out); rintro e w11 ⟨v313, rfl, ho0, hb⟩; refine ⟨_, rfl, ?_⟩; have n0_ := Aside0.mk (Fz.RH_elder' (by (with_reducible repeat (first | apply Kd.R_alloc | apply Kd.R_drewN | apply Kd.R_drew | apply Fz.RH_alloc | apply Fz.RH_drewN | apply Fz.RH_drew)); exact (Fz.RH_mono (Fz.RH_far (p := ⟨gb311, 1, none⟩) (Fz.RH_far (p := ⟨gb311, 0, none⟩) (Fz.RH_types HO_4.out BK311.out (by decide)) (fun _ hk => hk.2) (.int .i64 ((rd_T48 l0 x14_1).f0))) (fun _ hk => hk.2) (.slice A310_1 ((rd_T48 l0 x14_1).f1).length c310_1)) (fun _ h_ => h_.1))) (Kd.R_base ho0) hb); have n1_ := Aside0.mk (Kd.R_lower (Kd.R_new' ho0 (Fz.RH_lt (by (with_reducible repeat (first | apply Kd.R_alloc | apply Kd.R_drewN | apply Kd.R_drew | apply Fz.RH_alloc | apply Fz.RH_drewN | apply Fz.RH_drew)); exact (Fz.RH_mono (Fz.RH_far (p := ⟨gb311, 1, none⟩) (Fz.RH_far (p := ⟨gb311, 0, none⟩) (Fz.RH_types HO_4.out BK311.out (by decide)) (fun _ hk => hk.2) (.int .i64 ((rd_T48 l0 x14_1).f0))) (fun _ hk => hk.2) (.slice A310_1 ((rd_T48 l0 x14_1).f1).length c310_1)) (fun _ h_ => h_.1))))) (below_size (bH HB))); have n2_ := Aside0.mk (blk_below (g := gb311) (o := .cells #[.int .i64 ((rd_T48 l0 x14_1).f0), .slice A310_1 ((rd_T48 l0 x14_1).f1).length c310_1] 48 (0, 0)) (by (with_reducible repeat (first | refine blk_drewN ?_ _ | refine blk_drew ?_ | refine blk_alloc ?_ _)); refine blk_put (cs := #[.int .i64 ((rd_T48 l0 x14_1).f0), .slice none 0 0]) ?_ 1 _ rfl; (with_reducible repeat (first | refine blk_drewN ?_ _ | refine blk_drew ?_ | refine blk_alloc ?_ _)); refine blk_put (cs := #[.int .i64 0, .slice none 0 0]) ?_ 0 _ rfl; (with_reducible repeat (first | refine blk_drewN ?_ _ | refine blk_drew ?_ | refine blk_alloc ?_ _)); exact BK311.out) hb); have n3_ := Aside0.mk (below_step (bH HB) hb); clear HO_4; clear BK311; clear HB; have HO_4 := n0_; have HO314 := n1_; have BK311 := n2_; have HB := n3_; clear n0_ n1_ n2_ n3_; (try clear hb); (try clear hb2); (try clear hk); (try clear hi); (try clear ho0)))
      (try simp only [Act.put, List.setIfInBounds_toArray, List.set_cons_zero, List.set_cons_succ])
      have H := HC8.out
      clear HC8
      by_cases c12 : t315 = 0
      ·rw [if_pos c12] at H
       have c12b0 : (t315 == 0) = true := beq_iff_eq.mpr c12
       have c12b1 : (t315 != 0) = false := bne_eq_false_iff_eq.mpr c12
       clear c12
       (first | rw [c12b0] | (simp only [i64_w, i32_w]; rw [c12b0]) | skip)
       by_cases c13 : x6_1 = true
       ·subst c13
        have H1 : (if x4_1.length + t312.length < 140737488355328 then (frame_Encode.l0 k1 (x4_1 ++ t312) ((rd_T48 l0 x14_1).f0) (decide (((rd_T48 l0 x14_1).f0) > x5_1)) l0 (l0.length : Int) (wrap64 (x14_1 + 1))) else (none)) = some (r1, r2) := by rw [if_pos rfl] at H; exact H
        clear H
        have H := H1
        clear H1
        by_cases c14 : x4_1.length + t312.length < 140737488355328
        ·rw [if_pos c14] at H
         have LMc14 := Aside0.mk c14
         clear c14
         obtain ⟨y316, hy316⟩ : ∃ y_ : List Int, y_ = (x4_1 ++ t312) := ⟨_, rfl⟩
         replace H : (frame_Encode.l0 k1 y316 ((rd_T48 l0 x14_1).f0) (decide (((rd_T48 l0 x14_1).f0) > x5_1)) l0 (l0.length : Int) (wrap64 (x14_1 + 1))) = some (r1, r2) := by first | (rw [hy316]; with_reducible exact H) | (have H2_ := (Option.bind_some _ _).symm.trans H; rw [hy316]; with_reducible exact H2_) | (have H2_ := (Option.bind_some _ _).symm.trans H; with_reducible exact H2_) | with_reducible exact H | (rw [hy316]; exact H) | exact H
         have Ny316 := Aside0.mk hy316
         clear hy316
         have H' := Aside0.mk H
         clear H
         have hcz15_0 : w11.cell? ⟨gb311, 0, none⟩ = some (.int .i64 ((rd_T48 l0 x14_1).f0)) := (blk_cell BK311.out 0).trans rfl
         have hcz15_1 : w11.cell? ⟨gb311, 1, none⟩ = some (.slice A310_1 ((rd_T48 l0 x14_1).f1).length c310_1) := (blk_cell BK311.out 1).trans rfl
         have hfz15_0 := blk_frozen BK311.out 0
         have hfz15_1 := blk_frozen BK311.out 1
         obtain ⟨Ao17, co17, eo17⟩ := Kd.R_slice HO314.out
         subst eo17
         go_wp2_with (first | ((with_reducible refine gate_builtin (b := .append) (xs := #[.tmp 35, .tmp 36]) rfl ?_); at_builtin; refine Fz.RH_append_rows (w0 := w) w.heap.size rfl (.tmp 35) (.tmp 36) 22 rfl Try.underlying22 info5 u4 x4_1 t312 _ _ _ (fun k_ => some k_ ≠ (.slice Ao17 t312.length co17 : Value).ownBlock) rfl rfl ?aO ?aR ?aF ?aB ?aS ?aL ?_; (case aR => repeat (first | exact (Kd.R_reads' HO314.out).2.2 | (with_reducible refine Kd.C_alloc ?_ _) | (with_reducible refine Kd.C_drewN ?_ _) | (with_reducible refine Kd.C_drew ?_))); (case aB => exact (bH HB)); (case aF => exact (fun k_ hk => Kd.fresh' (Kd.R_lt (by (with_reducible repeat (first | apply Kd.R_alloc | apply Kd.R_drewN | apply Kd.R_drew | apply Fz.RH_alloc | apply Fz.RH_drewN | apply Fz.RH_drew)); exact HO314.out)) k_ hk)); (case aO => exact (by (with_reducible repeat (first | apply Kd.R_alloc | apply Kd.R_drewN | apply Kd.R_drew | apply Fz.RH_alloc | apply Fz.RH_drewN | apply Fz.RH_drew)); exact Fz.RH_mono HO_4.out (fun _ hk => hk.2))); (case aS => exact (below_size (bH HB))); (case aL => have := LMc14.out; omega); intro v317 w16 ho hb hg hat; rw [← Ny316.out] at ho; have n0_ := Aside0.mk (blk_grown (g := gb311) (o := .cells #[.int .i64 ((rd_T48 l0 x14_1).f0), .slice A310_1 ((rd_T48 l0 x14_1).f1).length c310_1] 48 (0, 0)) (bK BK311) hg (Fz.RH_ne HO_4.out BK311.out (by decide))); have n1_ := Aside0.mk (Kd.R_after (ok := (fun _ => True)) (by (with_reducible repeat (first | apply Kd.R_alloc | apply Kd.R_drewN | apply Kd.R_drew | apply Fz.RH_alloc | apply Fz.RH_drewN | apply Fz.RH_drew)); exact HO314.out) hg hat); have n2_ := Aside0.mk (hb); have n3_ := Aside0.mk (ho); clear BK311; clear HO314; clear HB; clear HO_4; have BK311 := n0_; have HO314 := n1_; have HB := n2_; have HO318 := n3_; clear n0_ n1_ n2_ n3_; clear ho hb hg hat))
         go_roundg k1
         case measure => have := HK1.out; omega
         case rel => exact ⟨(y316), ((rd_T48 l0 x14_1).f0), (decide (((rd_T48 l0 x14_1).f0) > x5_1)), (wrap64 (x14_1 + 1)), (by first | rfl | (simp; done) | (simp [*]; done)), (by first | rfl | (simp; done) | (simp [*]; done)), (by first | rfl | (simp; done) | (simp [*]; done)), H', ⟨by have := HK1.out; omega⟩, ⟨by (with_reducible repeat (first | apply Kd.R_alloc | apply Kd.R_drewN | apply Kd.R_drew | apply Fz.RH_alloc | apply Fz.RH_drewN | apply Fz.RH_drew)); exact Fz.RH_mono HO318.out (fun _ hk => trivial)⟩, ⟨ bH HB⟩⟩
        ·rw [if_neg c14] at H
         exact absurd H (by simp)
       ·replace c13 := Bool.eq_false_iff.mpr c13
        subst c13
        have H1 : (if x4_1.length + t312.length < 140737488355328 then (frame_Encode.l0 k1 (x4_1 ++ t312) ((rd_T48 l0 x14_1).f0) false l0 (l0.length : Int) (wrap64 (x14_1 + 1))) else (none)) = some (r1, r2) := by rw [if_neg (show ¬ (false = true) by decide)] at H; exact H
        clear H
        have H := H1
        clear H1
        by_cases c18 : x4_1.length + t312.length < 140737488355328
        ·rw [if_pos c18] at H
         have LMc18 := Aside0.mk c18
         clear c18
         obtain ⟨y319, hy319⟩ : ∃ y_ : List Int, y_ = (x4_1 ++ t312) := ⟨_, rfl⟩
         replace H : (frame_Encode.l0 k1 y319 ((rd_T48 l0 x14_1).f0) false l0 (l0.length : Int) (wrap64 (x14_1 + 1))) = some (r1, r2) := by first | (rw [hy319]; with_reducible exact H) | (have H2_ := (Option.bind_some _ _).symm.trans H; rw [hy319]; with_reducible exact H2_) | (have H2_ := (Option.bind_some _ _).symm.trans H; with_reducible exact H2_) | with_reducible exact H | (rw [hy319]; exact H) | exact H
         have Ny319 := Aside0.mk hy319
         clear hy319
         have H' := Aside0.mk H
         clear H
         have hcz19_0 : w11.cell? ⟨gb311, 0, none⟩ = some (.int .i64 ((rd_T48 l0 x14_1).f0)) := (blk_cell BK311.out 0).trans rfl
         have hcz19_1 : w11.cell? ⟨gb311, 1, none⟩ = some (.slice A310_1 ((rd_T48 l0 x14_1).f1).length c310_1) := (blk_cell BK311.out 1).trans rfl
         have hfz19_0 := blk_frozen BK311.out 0
         have hfz19_1 := blk_frozen BK311.out 1
         obtain ⟨Ao21, co21, eo21⟩ := Kd.R_slice HO314.out
         subst eo21
         go_wp2_with (first | ((with_reducible refine gate_builtin (b := .append) (xs := #[.tmp 35, .tmp 36]) rfl ?_); at_builtin; refine Fz.RH_append_rows (w0 := w) w.heap.size rfl (.tmp 35) (.tmp 36) 22 rfl Try.underlying22 info5 u4 x4_1 t312 _ _ _ (fun k_ => some k_ ≠ (.slice Ao21 t312.length co21 : Value).ownBlock) rfl rfl ?aO ?aR ?aF ?aB ?aS ?aL ?_; (case aR => repeat (first | exact (Kd.R_reads' HO314.out).2.2 | (with_reducible refine Kd.C_alloc ?_ _) | (with_reducible refine Kd.C_drewN ?_ _) | (with_reducible refine Kd.C_drew ?_))); (case aB => exact (bH HB)); (case aF => exact (fun k_ hk => Kd.fresh' (Kd.R_lt (by (with_reducible repeat (first | apply Kd.R_alloc | apply Kd.R_drewN | apply Kd.R_drew | apply Fz.RH_alloc | apply Fz.RH_drewN | apply Fz.RH_drew)); exact HO314.out)) k_ hk)); (case aO => exact (by (with_reducible repeat (first | apply Kd.R_alloc | apply Kd.R_drewN | apply Kd.R_drew | apply Fz.RH_alloc | apply Fz.RH_drewN | apply Fz.RH_drew)); exact Fz.RH_mono HO_4.out (fun _ hk => hk.2))); (case aS => exact (below_size (bH HB))); (case aL => have := LMc18.out; omega); intro v320 w20 ho hb hg hat; rw [← Ny319.out] at ho; have n0_ := Aside0.mk (blk_grown (g := gb311) (o := .cells #[.int .i64 ((rd_T48 l0 x14_1).f0), .slice A310_1 ((rd_T48 l0 x14_1).f1).length c310_1] 48 (0, 0)) (bK BK311) hg (Fz.RH_ne HO_4.out BK311.out (by decide))); have n1_ := Aside0.mk (Kd.R_after (ok := (fun _ => True)) (by (with_reducible repeat (first | apply Kd.R_alloc | apply Kd.R_drewN | apply Kd.R_drew | apply Fz.RH_alloc | apply Fz.RH_drewN | apply Fz.RH_drew)); exact HO314.out) hg hat); have n2_ := Aside0.mk (hb); have n3_ := Aside0.mk (ho); clear BK311; clear HO314; clear HB; clear HO_4; have BK311 := n0_; have HO314 := n1_; have HB := n2_; have HO321 := n3_; clear n0_ n1_ n2_ n3_; clear ho hb hg hat))
         go_roundg k1
         case measure => have := HK1.out; omega
         case rel => exact ⟨(y319), ((rd_T48 l0 x14_1).f0), (false), (wrap64 (x14_1 + 1)), (by first | rfl | (simp; done) | (simp [*]; done)), (by first | rfl | (simp; done) | (simp [*]; done)), (by first | rfl | (simp; done) | (simp [*]; done)), H', ⟨by have := HK1.out; omega⟩, ⟨by (with_reducible repeat (first | apply Kd.R_alloc | apply Kd.R_drewN | apply Kd.R_drew | apply Fz.RH_alloc | apply Fz.RH_drewN | apply Fz.RH_drew)); exact Fz.RH_mono HO321.out (fun _ hk => trivial)⟩, ⟨ bH HB⟩⟩
        ·rw [if_neg c18] at H
         exact absurd H (by simp)
      ·rw [if_neg c12] at H
       have c12b0 : (t315 == 0) = false := beq_eq_false_iff_ne.mpr c12
       have c12b1 : (t315 != 0) = true := bne_iff_ne.mpr c12
       (first | rw [c12b0] | (simp only [i64_w, i32_w]; rw [c12b0]) | skip)
       simp only [Option.some.injEq, Prod.mk.injEq] at H
       obtain ⟨rfl, rfl⟩ := H
       go_wp2
       go_ret2
       exact ⟨_, by first | rfl | (simp [errW_none, errW_some] <;> rfl) | (simp [*, errW_none, errW_some] <;> rfl), by first | exact Kd.R_nil _ _ _ _ _ | exact Kd.N_nil _ _ _ _ _ | exact Kd.V_nil _ _ _ _ _ | exact Kd.Q_nil _ _ _ _ _ | exact Kd.S_nil _ _ _ _ _, bH HB⟩
     ·rw [if_neg c6] at H
      exact absurd H (by simp)
    ·rw [if_neg c5] at H
     exact absurd H (by simp)
   ·rw [if_neg c4] at H
    have c4b0 : decide (x14_1 < (l0.length : Int)) = false := decide_eq_false c4
    clear c4
    by_cases c22 : x4_1.length < 140737488355328
    ·rw [if_pos c22] at H
     have LMc22 := Aside0.mk c22
     clear c22
     obtain ⟨y322, hy322⟩ : ∃ y_ : List Int, y_ = (x4_1 ++ [0]) := ⟨_, rfl⟩
     replace H : (if x6_1 = true then (if (y322.length : Int) > 1048576 then (some (([] : List Int), 3)) else (some (y322, 0))) else (some (([] : List Int), 2))) = some (r1, r2) := by first | (rw [hy322]; with_reducible exact H) | (have H2_ := (Option.bind_some _ _).symm.trans H; rw [hy322]; with_reducible exact H2_) | (have H2_ := (Option.bind_some _ _).symm.trans H; with_reducible exact H2_) | with_reducible exact H | (rw [hy322]; exact H) | exact H
     have Ny322 := Aside0.mk hy322
     clear hy322
     have HC23 := Aside0.mk H
     clear H
     go_upto_if 42 with (first | ((with_reducible refine gate_builtin (b := .append) (xs := #[.tmp 39, .tmp 40]) rfl ?_); at_builtin; refine Fz.RH_append (w0 := w) w.heap.size rfl (.tmp 39) (.tmp 40) 22 rfl Try.underlying22 info5 u4 x4_1 0 (fun _ => True) rfl rfl ?aF ?aO ?aB ?aS ?aL ?_; (case aB => exact (bH HB)); (case aF => exact (fun _ _ => trivial)); (case aO => exact (by (with_reducible repeat (first | apply Kd.R_alloc | apply Kd.R_drewN | apply Kd.R_drew | apply Fz.RH_alloc | apply Fz.RH_drewN | apply Fz.RH_drew)); exact HO_4.out)); (case aS => exact (below_size (bH HB))); (case aL => have := LMc22.out; omega); intro v323 w24 ho hb hg hat; rw [← Ny322.out] at ho; have n0_ := Aside0.mk (hb); have n1_ := Aside0.mk (ho); clear HB; clear HO_4; have HB := n0_; have HO324 := n1_; clear n0_ n1_; clear ho hb hg hat))
     (try simp only [Act.put, List.setIfInBounds_toArray, List.set_cons_zero, List.set_cons_succ])
     have H := HC23.out
     clear HC23
     by_cases c25 : x6_1 = true
     ·subst c25
      have H1 : (if (y322.length : Int) > 1048576 then (some (([] : List Int), 3)) else (some (y322, 0))) = some (r1, r2) := by rw [if_pos rfl] at H; exact H
      clear H
      have H := H1
      clear H1
      by_cases c26 : (y322.length : Int) > 1048576
      ·rw [if_pos c26] at H
       have c26b0 : decide (1048576 < (y322.length : Int)) = true := decide_eq_true c26
       have c26b1 : decide (1048576 < y322.length) = true := decide_eq_true (by omega)
       clear c26
       (first | rw [c26b0] | (simp only [i64_w, i32_w]; rw [c26b0]) | skip)
       simp only [Option.some.injEq, Prod.mk.injEq] at H
       obtain ⟨rfl, rfl⟩ := H
       obtain ⟨Ao27, co27, eo27⟩ := Kd.R_slice HO324.out
       subst eo27
       go_wp2
       go_ret2
       exact ⟨_, by first | rfl | (simp [errW_none, errW_some] <;> rfl) | (simp [*, errW_none, errW_some] <;> rfl), by first | exact Kd.R_nil _ _ _ _ _ | exact Kd.N_nil _ _ _ _ _ | exact Kd.V_nil _ _ _ _ _ | exact Kd.Q_nil _ _ _ _ _ | exact Kd.S_nil _ _ _ _ _, bH HB⟩
      ·rw [if_neg c26] at H
       have c26b0 : decide (1048576 < (y322.length : Int)) = false := decide_eq_false c26
       have c26b1 : decide (1048576 < y322.length) = false := decide_eq_false (by omega)
       clear c26
       (first | rw [c26b0] | (simp only [i64_w, i32_w]; rw [c26b0]) | skip)
       simp only [Option.some.injEq, Prod.mk.injEq] at H
       obtain ⟨rfl, rfl⟩ := H
       obtain ⟨Ao28, co28, eo28⟩ := Kd.R_slice HO324.out
       subst eo28
       go_wp2
       go_ret2
       exact ⟨_, by first | rfl | (simp [errW_none, errW_some] <;> rfl) | (simp [*, errW_none, errW_some] <;> rfl), by (with_reducible repeat (first | apply Kd.R_alloc | apply Kd.R_drewN | apply Kd.R_drew | apply Fz.RH_alloc | apply Fz.RH_drewN | apply Fz.RH_drew)); exact HO324.out, bH HB⟩
     ·replace c25 := Bool.eq_false_iff.mpr c25
      subst c25
      have H1 : (some (([] : List Int), 2)) = some (r1, r2) := by rw [if_neg (show ¬ (false = true) by decide)] at H; exact H
      clear H
      have H := H1
      clear H1
      simp only [Option.some.injEq, Prod.mk.injEq] at H
      obtain ⟨rfl, rfl⟩ := H
      go_wp2
      go_ret2
      exact ⟨_, by first | rfl | (simp [errW_none, errW_some] <;> rfl) | (simp [*, errW_none, errW_some] <;> rfl), by first | exact Kd.R_nil _ _ _ _ _ | exact Kd.N_nil _ _ _ _ _ | exact Kd.V_nil _ _ _ _ _ | exact Kd.Q_nil _ _ _ _ _ | exact Kd.S_nil _ _ _ _ _, bH HB⟩
    ·rw [if_neg c22] at H
     exact absurd H (by simp)

end Go.Proofs.Ytglmfnaofpbpfaa.P

namespace Go.Proofs.Ytglmfnaofpbpfaa.P
open Go.RowKit Go.Proofs.YtglmfnaofpbpfaaW.PrintWords Go.Proofs.YtglmfnaofpbpfaaW.PrintLast Go.Proofs.YtglmfnaofpbpfaaW.PrintMore Go.Proofs.Ytglmfnaofpbpfaa.X
attribute [local go_sem] max2_int min2_int max_two min_two max_three min_three max_four min_four   -- for this text's walks alone
set_option linter.unusedVariables false
set_option linter.unusedSimpArgs false

/-! ### lapidaryref00_Same: function 23 -/
def lapidaryref00_Same.f (l0 : List Int) (l1 : List Int) : Option (Bool) := some ((strOfNums l0).toList == (strOfNums l1).toList)
set_option maxHeartbeats 8000000 in
set_option maxRecDepth 100000 in
theorem lapidaryref00_Same.calls (A0 : Option Addr) (c0 : Nat) (l0 : List Int) (A1 : Option Addr) (c1 : Nat) (l1 : List Int) (r : Bool) (w : World) (hr0 : Kd.C (Kd.int .u8) w A0 l0.length l0) (hc0 : l0.length ≤ c0) (hr1 : Kd.C (Kd.int .u8) w A1 l1.length l1) (hc1 : l1.length ≤ c1) (h : lapidaryref00_Same.f l0 l1 = some r) :
  Calls Try.prog 23 #[.slice A0 l0.length c0, .slice A1 l1.length c1] w fun e w' => e = .returned (.bool r) ∧ Drawn0 w w' := by
 have HR0 := Aside0.mk hr0
 have HC0 := Aside0.mk hc0
 clear hr0 hc0
 have HR1 := Aside0.mk hr1
 have HC1 := Aside0.mk hc1
 clear hr1 hc1
 have H : (some ((strOfNums l0).toList == (strOfNums l1).toList)) = some r := h
 clear h
 obtain rfl := Option.some.inj H
 have hcv3 := Kd.C_string (P := Try.prog) (A := A0) (c := c0) Try.underlying22 Try.underlying5 Try.underlying9 HR0.out
 have hcv4 := Kd.C_string (P := Try.prog) (A := A1) (c := c1) Try.underlying22 Try.underlying5 Try.underlying9 HR1.out
 go_enter Try.func23, Try.ntmps23
 go_wp2
 go_ret
 exact ⟨by first | rfl | (simp; done) | (simp [*]; done), by repeat (first | exact Drawn0.refl _ | apply Drawn0.step)⟩

end Go.Proofs.Ytglmfnaofpbpfaa.P

namespace Go.Proofs.Ytglmfnaofpbpfaa.P
open Go.RowKit Go.Proofs.YtglmfnaofpbpfaaW.PrintWords Go.Proofs.YtglmfnaofpbpfaaW.PrintLast Go.Proofs.YtglmfnaofpbpfaaW.PrintMore Go.Proofs.Ytglmfnaofpbpfaa.X
attribute [local go_sem] max2_int min2_int max_two min_two max_three min_three max_four min_four   -- for this text's walks alone
set_option linter.unusedVariables false
set_option linter.unusedSimpArgs false

/-! ### lapidaryref03_Same: function 17 -/
def lapidaryref03_Same.l0 : Nat → List (S48) → List (S48) → Int → Option (Bool)
 | 0, _, _, _ => none
 | k + 1, x0, x1, x5 => if x5 < (x0.length : Int) then (if 0 ≤ x5 then (if x5 < (x1.length : Int) then (if ((rd_T48 x0 x5).f0) = ((rd_T48 x1 x5).f0) then ((lapidaryref00_Same.f ((rd_T48 x0 x5).f1) ((rd_T48 x1 x5).f1)).bind fun t251 => (if t251 = true then (lapidaryref03_Same.l0 k x0 x1 (wrap64 (x5 + 1))) else (some false))) else (some false)) else (none)) else (none)) else (some true)
def lapidaryref03_Same.f (k : Nat) (l0 : List (S48)) (l1 : List (S48)) : Option (Bool) := if (l0.length : Int) = (l1.length : Int) then (lapidaryref03_Same.l0 k l0 l1 0) else (some false)
theorem lapidaryref03_Same.mono_l : ∀ k, (∀ y0 y1 y2, LeO (lapidaryref03_Same.l0 k y0 y1 y2) (lapidaryref03_Same.l0 (k + 1) y0 y1 y2))
 | 0 => fun _ _ _ r h => by simp [lapidaryref03_Same.l0] at h
 | k + 1 => by
  have ih0 := lapidaryref03_Same.mono_l k
  ·intro y0 y1 y2
   unfold lapidaryref03_Same.l0
   repeat' first
   | (with_reducible exact ih0 _ _ _)
   | (with_reducible exact LeO.refl _)
   | (with_reducible exact LeO.none _)
   | (with_reducible refine LeO.ite ?_ ?_)
   | (with_reducible refine LeO.bind ?_ (fun _ => ?_))
   | exact ih0 _ _ _
   | exact LeO.none _
   | refine LeO.ite ?_ ?_
   | refine LeO.bind ?_ (fun _ => ?_)
theorem lapidaryref03_Same.mono : ∀ a0 a1 k, LeO (lapidaryref03_Same.f k a0 a1) (lapidaryref03_Same.f (k + 1) a0 a1) := by
 intro a0 a1 k
 have ih0 := lapidaryref03_Same.mono_l k
 unfold lapidaryref03_Same.f
 repeat' first
   | (with_reducible exact ih0 _ _ _)
   | (with_reducible exact LeO.refl _)
   | (with_reducible exact LeO.none _)
   | (with_reducible refine LeO.ite ?_ ?_)
   | (with_reducible refine LeO.bind ?_ (fun _ => ?_))
   | exact ih0 _ _ _
   | exact LeO.none _
   | refine LeO.ite ?_ ?_
   | refine LeO.bind ?_ (fun _ => ?_)
set_option maxHeartbeats 8000000 in
set_option maxRecDepth 100000 in
theorem lapidaryref03_Same.calls (k : Nat) (A0 : Option Addr) (c0 : Nat) (l0 : List (S48)) (A1 : Option Addr) (c1 : Nat) (l1 : List (S48)) (r : Bool) (w : World) (hr0 : Kd.C k48 w A0 l0.length l0) (hc0 : l0.length ≤ c0) (hr1 : Kd.C k48 w A1 l1.length l1) (hc1 : l1.length ≤ c1) (h : lapidaryref03_Same.f k l0 l1 = some r) :
  Calls Try.prog 17 #[.slice A0 l0.length c0, .slice A1 l1.length c1] w fun e w' => e = .returned (.bool r) ∧ Drawn0 w w' := by
 have HR0 := Aside0.mk hr0
 have HC0 := Aside0.mk hc0
 clear hr0 hc0
 have HR1 := Aside0.mk hr1
 have HC1 := Aside0.mk hc1
 clear hr1 hc1
 have H : (if (l0.length : Int) = (l1.length : Int) then (lapidaryref03_Same.l0 k l0 l1 0) else (some false)) = some r := h
 clear h
 by_cases c3 : (l0.length : Int) = (l1.length : Int)
 ·rw [if_pos c3] at H
  have c3b0 : ((l0.length : Int) == (l1.length : Int)) = true := beq_iff_eq.mpr c3
  have c3b1 : ((l0.length : Int) != (l1.length : Int)) = false := bne_eq_false_iff_eq.mpr c3
  have c3b2 : (l0.length == l1.length) = true := by first | simpa using c3 | (simp at c3 ⊢; omega)
  clear c3
  have H' := Aside0.mk H
  clear H
  go_enter Try.func17, Try.ntmps17
  go_wp2
  repeat (go_quiet (fail); try go_wp2)
  go_loopg [5] k (fun kq v5 w' => ∃ (x5_1 : Int), v5 = .int .i64 x5_1 ∧ Aside0 (lapidaryref03_Same.l0 kq l0 l1 x5_1 = some r) ∧ Aside0 (kq ≤ k) ∧ Drawn0 w w')
  case atStart => exact ⟨(0), (by first | rfl | (simp; done) | (simp [*]; done)), H', ⟨Nat.le_refl _⟩, by repeat (first | exact Drawn0.refl _ | apply Drawn0.step)⟩
  case round =>
   clear H'
   try clear c1
   try clear p2
   try clear c3
   try clear c3b0
   try clear c3b1
   try clear c3b2
   obtain ⟨x5_1, rfl, HA, HK1, ⟨m1, rfl⟩⟩ := hrel
   cases gk with
   | zero => exact absurd HA.out (by simp [lapidaryref03_Same.l0])
   | succ k1 =>
    have H := HA.out
    clear HA
    simp only [lapidaryref03_Same.l0] at H
    by_cases c4 : x5_1 < (l0.length : Int)
    ·rw [if_pos c4] at H
     have c4b0 : decide (x5_1 < (l0.length : Int)) = true := decide_eq_true c4
     clear c4
     by_cases c5 : 0 ≤ x5_1
     ·rw [if_pos c5] at H
      have c5b0 : decide (0 ≤ x5_1) = true := decide_eq_true c5
      clear c5
      by_cases c6 : x5_1 < (l1.length : Int)
      ·rw [if_pos c6] at H
       have c6b0 : decide (x5_1 < (l1.length : Int)) = true := decide_eq_true c6
       clear c6
       by_cases c7 : ((rd_T48 l0 x5_1).f0) = ((rd_T48 l1 x5_1).f0)
       ·rw [if_pos c7] at H
        have c7b0 : (((rd_T48 l0 x5_1).f0) == ((rd_T48 l1 x5_1).f0)) = true := beq_iff_eq.mpr c7
        have c7b1 : (((rd_T48 l0 x5_1).f0) != ((rd_T48 l1 x5_1).f0)) = false := bne_eq_false_iff_eq.mpr c7
        clear c7
        replace H := Option.bind_eq_some_iff.mp H
        obtain ⟨t251, A80, H⟩ := H
        replace H : (if t251 = true then (lapidaryref03_Same.l0 k1 l0 l1 (wrap64 (x5_1 + 1))) else (some false)) = some r := H
        have A8 := Aside0.mk A80
        clear A80
        by_cases c9 : t251 = true
        ·subst c9
         have H1 : (lapidaryref03_Same.l0 k1 l0 l1 (wrap64 (x5_1 + 1))) = some r := by rw [if_pos rfl] at H; exact H
         clear H
         have H := H1
         clear H1
         have H' := Aside0.mk H
         clear H
         have p247 : 0 ≤ (x5_1 : Int) := of_decide_eq_true (by first | (with_reducible assumption) | assumption)
         have q247 : x5_1 < (l0.length : Int) := of_decide_eq_true (by first | (with_reducible assumption) | assumption)
         obtain ⟨ad247, A247_1, c247_1, e247, hx247_0, hx247_1, hl247_1, hi247_1⟩ := at_T48 HR0.out x5_1 p247 q247
         cases e247
         have HR247_1 := Aside0.mk hi247_1
         have HC247_1 := Aside0.mk hl247_1
         clear hi247_1 hl247_1
         replace p247 := eq_true p247
         replace q247 := eq_true q247
         have p248 : 0 ≤ (x5_1 : Int) := of_decide_eq_true (by first | (with_reducible assumption) | assumption)
         have q248 : x5_1 < (l1.length : Int) := of_decide_eq_true (by first | (with_reducible assumption) | assumption)
         obtain ⟨ad248, A248_1, c248_1, e248, hx248_0, hx248_1, hl248_1, hi248_1⟩ := at_T48 HR1.out x5_1 p248 q248
         cases e248
         have HR248_1 := Aside0.mk hi248_1
         have HC248_1 := Aside0.mk hl248_1
         clear hi248_1 hl248_1
         replace p248 := eq_true p248
         replace q248 := eq_true q248
         have p249 : 0 ≤ (x5_1 : Int) := of_decide_eq_true (by first | (with_reducible assumption) | assumption)
         have q249 : x5_1 < (l0.length : Int) := of_decide_eq_true (by first | (with_reducible assumption) | assumption)
         obtain ⟨ad249, A249_1, c249_1, e249, hx249_0, hx249_1, hl249_1, hi249_1⟩ := at_T48 HR0.out x5_1 p249 q249
         obtain rfl : ad247 = ad249 := (by injection e249)
         have HR249_1 := Aside0.mk hi249_1
         have HC249_1 := Aside0.mk hl249_1
         clear hi249_1 hl249_1
         replace p249 := eq_true p249
         replace q249 := eq_true q249
         have ea_ := Option.some.inj (hx247_1.symm.trans hx249_1)
         injection ea_ with ea_ en_ ec_
         subst ea_
         subst ec_
         clear en_
         have p250 : 0 ≤ (x5_1 : Int) := of_decide_eq_true (by first | (with_reducible assumption) | assumption)
         have q250 : x5_1 < (l1.length : Int) := of_decide_eq_true (by first | (with_reducible assumption) | assumption)
         obtain ⟨ad250, A250_1, c250_1, e250, hx250_0, hx250_1, hl250_1, hi250_1⟩ := at_T48 HR1.out x5_1 p250 q250
         obtain rfl : ad248 = ad250 := (by injection e250)
         have HR250_1 := Aside0.mk hi250_1
         have HC250_1 := Aside0.mk hl250_1
         clear hi250_1 hl250_1
         replace p250 := eq_true p250
         replace q250 := eq_true q250
         have ea_ := Option.some.inj (hx248_1.symm.trans hx250_1)
         injection ea_ with ea_ en_ ec_
         subst ea_
         subst ec_
         clear en_
         go_wp2_with (first | (go_at_call 23; (with_reducible refine (lapidaryref00_Same.calls _ _ ((rd_T48 l0 x5_1).f1) _ _ ((rd_T48 l1 x5_1).f1) true _ ?side1 ?side2 ?side3 ?side4 A8.out).mono ?_); (case side1 => repeat (first | exact HR249_1.out | (with_reducible refine Kd.C_alloc ?_ _) | (with_reducible refine Kd.C_drewN ?_ _) | (with_reducible refine Kd.C_drew ?_))); (case side2 => exact HC249_1.out); (case side3 => repeat (first | exact HR250_1.out | (with_reducible refine Kd.C_alloc ?_ _) | (with_reducible refine Kd.C_drewN ?_ _) | (with_reducible refine Kd.C_drew ?_))); (case side4 => exact HC250_1.out); rintro e w' ⟨rfl, ⟨nd, rfl⟩⟩; (try first | exact ⟨rfl, _, World.drewN_drewN _ _ _⟩ | exact ⟨rfl, _, Eq.trans (World.drewN_drewN _ _ _) (congrArg (World.drewN _) (Nat.add_assoc _ _ _))⟩)))
         repeat (go_quiet (first | (go_at_call 23; (with_reducible refine (lapidaryref00_Same.calls _ _ ((rd_T48 l0 x5_1).f1) _ _ ((rd_T48 l1 x5_1).f1) true _ ?side1 ?side2 ?side3 ?side4 A8.out).mono ?_); (case side1 => repeat (first | exact HR249_1.out | (with_reducible refine Kd.C_alloc ?_ _) | (with_reducible refine Kd.C_drewN ?_ _) | (with_reducible refine Kd.C_drew ?_))); (case side2 => exact HC249_1.out); (case side3 => repeat (first | exact HR250_1.out | (with_reducible refine Kd.C_alloc ?_ _) | (with_reducible refine Kd.C_drewN ?_ _) | (with_reducible refine Kd.C_drew ?_))); (case side4 => exact HC250_1.out); rintro e w' ⟨rfl, ⟨nd, rfl⟩⟩; (try first | exact ⟨rfl, _, World.drewN_drewN _ _ _⟩ | exact ⟨rfl, _, Eq.trans (World.drewN_drewN _ _ _) (congrArg (World.drewN _) (Nat.add_assoc _ _ _))⟩))); try go_wp2_with (first | (go_at_call 23; (with_reducible refine (lapidaryref00_Same.calls _ _ ((rd_T48 l0 x5_1).f1) _ _ ((rd_T48 l1 x5_1).f1) true _ ?side1 ?side2 ?side3 ?side4 A8.out).mono ?_); (case side1 => repeat (first | exact HR249_1.out | (with_reducible refine Kd.C_alloc ?_ _) | (with_reducible refine Kd.C_drewN ?_ _) | (with_reducible refine Kd.C_drew ?_))); (case side2 => exact HC249_1.out); (case side3 => repeat (first | exact HR250_1.out | (with_reducible refine Kd.C_alloc ?_ _) | (with_reducible refine Kd.C_drewN ?_ _) | (with_reducible refine Kd.C_drew ?_))); (case side4 => exact HC250_1.out); rintro e w' ⟨rfl, ⟨nd, rfl⟩⟩; (try first | exact ⟨rfl, _, World.drewN_drewN _ _ _⟩ | exact ⟨rfl, _, Eq.trans (World.drewN_drewN _ _ _) (congrArg (World.drewN _) (Nat.add_assoc _ _ _))⟩))))
         go_roundg k1
         case measure => have := HK1.out; omega
         case rel => exact ⟨(wrap64 (x5_1 + 1)), (by first | rfl | (simp; done) | (simp [*]; done)), H', ⟨by have := HK1.out; omega⟩, by repeat (first | exact Drawn0.refl _ | apply Drawn0.step)⟩
        ·replace c9 := Bool.eq_false_iff.mpr c9
         subst c9
         have H1 : (some false) = some r := by rw [if_neg (show ¬ (false = true) by decide)] at H; exact H
         clear H
         have H := H1
         clear H1
         obtain rfl := Option.some.inj H
         have p247 : 0 ≤ (x5_1 : Int) := of_decide_eq_true (by first | (with_reducible assumption) | assumption)
         have q247 : x5_1 < (l0.length : Int) := of_decide_eq_true (by first | (with_reducible assumption) | assumption)
         obtain ⟨ad247, A247_1, c247_1, e247, hx247_0, hx247_1, hl247_1, hi247_1⟩ := at_T48 HR0.out x5_1 p247 q247
         cases e247
         have HR247_1 := Aside0.mk hi247_1
         have HC247_1 := Aside0.mk hl247_1
         clear hi247_1 hl247_1
         replace p247 := eq_true p247
         replace q247 := eq_true q247
         have p248 : 0 ≤ (x5_1 : Int) := of_decide_eq_true (by first | (with_reducible assumption) | assumption)
         have q248 : x5_1 < (l1.length : Int) := of_decide_eq_true (by first | (with_reducible assumption) | assumption)
         obtain ⟨ad248, A248_1, c248_1, e248, hx248_0, hx248_1, hl248_1, hi248_1⟩ := at_T48 HR1.out x5_1 p248 q248
         cases e248
         have HR248_1 := Aside0.mk hi248_1
         have HC248_1 := Aside0.mk hl248_1
         clear hi248_1 hl248_1
         replace p248 := eq_true p248
         replace q248 := eq_true q248
         have p249 : 0 ≤ (x5_1 : Int) := of_decide_eq_true (by first | (with_reducible assumption) | assumption)
         have q249 : x5_1 < (l0.length : Int) := of_decide_eq_true (by first | (with_reducible assumption) | assumption)
         obtain ⟨ad249, A249_1, c249_1, e249, hx249_0, hx249_1, hl249_1, hi249_1⟩ := at_T48 HR0.out x5_1 p249 q249
         obtain rfl : ad247 = ad249 := (by injection e249)
         have HR249_1 := Aside0.mk hi249_1
         have HC249_1 := Aside0.mk hl249_1
         clear hi249_1 hl249_1
         replace p249 := eq_true p249
         replace q249 := eq_true q249
         have ea_ := Option.some.inj (hx247_1.symm.trans hx249_1)
         injection ea_ with ea_ en_ ec_
         subst ea_
         subst ec_
         clear en_
         have p250 : 0 ≤ (x5_1 : Int) := of_decide_eq_true (by first | (with_reducible assumption) | assumption)
         have q250 : x5_1 < (l1.length : Int) := of_decide_eq_true (by first | (with_reducible assumption) | assumption)
         obtain ⟨ad250, A250_1, c250_1, e250, hx250_0, hx250_1, hl250_1, hi250_1⟩ := at_T48 HR1.out x5_1 p250 q250
         obtain rfl : ad248 = ad250 := (by injection e250)
         have HR250_1 := Aside0.mk hi250_1
         have HC250_1 := Aside0.mk hl250_1
         clear hi250_1 hl250_1
         replace p250 := eq_true p250
         replace q250 := eq_true q250
         have ea_ := Option.some.inj (hx248_1.symm.trans hx250_1)
         injection ea_ with ea_ en_ ec_
         subst ea_
         subst ec_
         clear en_
         go_wp2_with (first | (go_at_call 23; (with_reducible refine (lapidaryref00_Same.calls _ _ ((rd_T48 l0 x5_1).f1) _ _ ((rd_T48 l1 x5_1).f1) false _ ?side1 ?side2 ?side3 ?side4 A8.out).mono ?_); (case side1 => repeat (first | exact HR249_1.out | (with_reducible refine Kd.C_alloc ?_ _) | (with_reducible refine Kd.C_drewN ?_ _) | (with_reducible refine Kd.C_drew ?_))); (case side2 => exact HC249_1.out); (case side3 => repeat (first | exact HR250_1.out | (with_reducible refine Kd.C_alloc ?_ _) | (with_reducible refine Kd.C_drewN ?_ _) | (with_reducible refine Kd.C_drew ?_))); (case side4 => exact HC250_1.out); rintro e w' ⟨rfl, ⟨nd, rfl⟩⟩; (try first | exact ⟨rfl, _, World.drewN_drewN _ _ _⟩ | exact ⟨rfl, _, Eq.trans (World.drewN_drewN _ _ _) (congrArg (World.drewN _) (Nat.add_assoc _ _ _))⟩)))
         repeat (go_quiet (first | (go_at_call 23; (with_reducible refine (lapidaryref00_Same.calls _ _ ((rd_T48 l0 x5_1).f1) _ _ ((rd_T48 l1 x5_1).f1) false _ ?side1 ?side2 ?side3 ?side4 A8.out).mono ?_); (case side1 => repeat (first | exact HR249_1.out | (with_reducible refine Kd.C_alloc ?_ _) | (with_reducible refine Kd.C_drewN ?_ _) | (with_reducible refine Kd.C_drew ?_))); (case side2 => exact HC249_1.out); (case side3 => repeat (first | exact HR250_1.out | (with_reducible refine Kd.C_alloc ?_ _) | (with_reducible refine Kd.C_drewN ?_ _) | (with_reducible refine Kd.C_drew ?_))); (case side4 => exact HC250_1.out); rintro e w' ⟨rfl, ⟨nd, rfl⟩⟩; (try first | exact ⟨rfl, _, World.drewN_drewN _ _ _⟩ | exact ⟨rfl, _, Eq.trans (World.drewN_drewN _ _ _) (congrArg (World.drewN _) (Nat.add_assoc _ _ _))⟩))); try go_wp2_with (first | (go_at_call 23; (with_reducible refine (lapidaryref00_Same.calls _ _ ((rd_T48 l0 x5_1).f1) _ _ ((rd_T48 l1 x5_1).f1) false _ ?side1 ?side2 ?side3 ?side4 A8.out).mono ?_); (case side1 => repeat (first | exact HR249_1.out | (with_reducible refine Kd.C_alloc ?_ _) | (with_reducible refine Kd.C_drewN ?_ _) | (with_reducible refine Kd.C_drew ?_))); (case side2 => exact HC249_1.out); (case side3 => repeat (first | exact HR250_1.out | (with_reducible refine Kd.C_alloc ?_ _) | (with_reducible refine Kd.C_drewN ?_ _) | (with_reducible refine Kd.C_drew ?_))); (case side4 => exact HC250_1.out); rintro e w' ⟨rfl, ⟨nd, rfl⟩⟩; (try first | exact ⟨rfl, _, World.drewN_drewN _ _ _⟩ | exact ⟨rfl, _, Eq.trans (World.drewN_drewN _ _ _) (congrArg (World.drewN _) (Nat.add_assoc _ _ _))⟩))))
         go_ret
         exact ⟨by first | rfl | (simp; done) | (simp [*]; done), by repeat (first | exact Drawn0.refl _ | apply Drawn0.step)⟩
       ·rw [if_neg c7] at H
        have c7b0 : (((rd_T48 l0 x5_1).f0) == ((rd_T48 l1 x5_1).f0)) = false := beq_eq_false_iff_ne.mpr c7
        have c7b1 : (((rd_T48 l0 x5_1).f0) != ((rd_T48 l1 x5_1).f0)) = true := bne_iff_ne.mpr c7
        obtain rfl := Option.some.inj H
        have p247 : 0 ≤ (x5_1 : Int) := of_decide_eq_true (by first | (with_reducible assumption) | assumption)
        have q247 : x5_1 < (l0.length : Int) := of_decide_eq_true (by first | (with_reducible assumption) | assumption)
        obtain ⟨ad247, A247_1, c247_1, e247, hx247_0, hx247_1, hl247_1, hi247_1⟩ := at_T48 HR0.out x5_1 p247 q247
        cases e247
        have HR247_1 := Aside0.mk hi247_1
        have HC247_1 := Aside0.mk hl247_1
        clear hi247_1 hl247_1
        replace p247 := eq_true p247
        replace q247 := eq_true q247
        have p248 : 0 ≤ (x5_1 : Int) := of_decide_eq_true (by first | (with_reducible assumption) | assumption)
        have q248 : x5_1 < (l1.length : Int) := of_decide_eq_true (by first | (with_reducible assumption) | assumption)
        obtain ⟨ad248, A248_1, c248_1, e248, hx248_0, hx248_1, hl248_1, hi248_1⟩ := at_T48 HR1.out x5_1 p248 q248
        cases e248
        have HR248_1 := Aside0.mk hi248_1
        have HC248_1 := Aside0.mk hl248_1
        clear hi248_1 hl248_1
        replace p248 := eq_true p248
        replace q248 := eq_true q248
        go_wp2
        repeat (go_quiet (fail); try go_wp2)
        go_ret
        exact ⟨by first | rfl | (simp; done) | (simp [*]; done), by repeat (first | exact Drawn0.refl _ | apply Drawn0.step)⟩
      ·rw [if_neg c6] at H
       exact absurd H (by simp)
     ·rw [if_neg c5] at H
      exact absurd H (by simp)
    ·rw [if_neg c4] at H
     have c4b0 : decide (x5_1 < (l0.length : Int)) = false := decide_eq_false c4
     clear c4
     obtain rfl := Option.some.inj H
     go_wp2
     repeat (go_quiet (fail); try go_wp2)
     go_ret
     exact ⟨by first | rfl | (simp; done) | (simp [*]; done), by repeat (first | exact Drawn0.refl _ | apply Drawn0.step)⟩
 ·rw [if_neg c3] at H
  have c3b0 : ((l0.length : Int) == (l1.length : Int)) = false := beq_eq_false_iff_ne.mpr c3
  have c3b1 : ((l0.length : Int) != (l1.length : Int)) = true := bne_iff_ne.mpr c3
  have c3b2 : (l0.length == l1.length) = false := by first | simpa using c3 | (simp at c3 ⊢; omega)
  obtain rfl := Option.some.inj H
  go_enter Try.func17, Try.ntmps17
  go_wp2
  repeat (go_quiet (fail); try go_wp2)
  go_ret
  exact ⟨by first | rfl | (simp; done) | (simp [*]; done), by repeat (first | exact Drawn0.refl _ | apply Drawn0.step)⟩

end Go.Proofs.Ytglmfnaofpbpfaa.P
