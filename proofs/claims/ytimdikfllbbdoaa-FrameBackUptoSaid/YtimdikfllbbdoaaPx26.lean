/- Written for this claim by a program of this session (a turned copy of the print): Go functions as Lean functions, and that the Go code comes to just these answers; or a statement proved out of them. No condition. -/
import Derived.Test.YtimdikfllbbdoaaPx0
import Derived.Test.YtimdikfllbbdoaaPx1
import Derived.Test.YtimdikfllbbdoaaPx10
import Derived.Test.YtimdikfllbbdoaaPx12
import Derived.Test.YtimdikfllbbdoaaPx13
import Derived.Test.YtimdikfllbbdoaaPx19
import Derived.Test.YtimdikfllbbdoaaPx24
import Derived.Test.YtimdikfllbbdoaaPx25
namespace Go.Proofs.Ytimdikfllbbdoaa.P
open Go.RowKit Go.Proofs.YtimdikfllbbdoaaW.PrintWords Go.Proofs.YtimdikfllbbdoaaW.PrintLast Go.Proofs.YtimdikfllbbdoaaW.PrintMore Go.Proofs.Ytimdikfllbbdoaa.X
attribute [local go_sem] max2_int min2_int max_two min_two max_three min_three max_four min_four   -- for this text's walks alone
set_option linter.unusedVariables false
set_option linter.unusedSimpArgs false

/-! ### lapidarylaw03_FrameWrites: function 3 -/
def lapidarylaw03_FrameWrites.l0 : Nat → List (S33) → List Int → Int → List Int → Int → Int → Option (Bool)
 | 0, _, _, _, _, _, _ => none
 | k + 1, x0, x3, x4, x5, x6, x7 => if x7 < (x0.length : Int) then (if 0 ≤ x7 then ((frame_One.f k ((rd_T33 x0 x7).f0) ((rd_T33 x0 x7).f1)).bind fun bt301 => ((lapidaryref03_One.f k ((rd_T33 x0 x7).f0) ((rd_T33 x0 x7).f1)).bind fun bt306 => ((lapidaryref00_Same.f bt301.1 bt306.1).bind fun t310 => (if t310 = true then (if bt301.2 = bt306.2 then (lapidarylaw03_FrameWrites.l0 k x0 x3 x4 x5 x6 (wrap64 (x7 + 1))) else (none)) else (none))))) else (none)) else ((lapidaryref00_Same.f x3 x5).bind fun t298 => (if t298 = true then (if x4 = x6 then ((lapidarylaw03_known.f k).bind fun t299 => (some t299)) else (none)) else (none)))
def lapidarylaw03_FrameWrites.f (k : Nat) (l0 : List (S33)) : Option (Bool) := (lapidarylaw03_long.f k l0).bind fun t288 => (if t288 = true then ((lapidarylaw03_known.f k).bind fun t289 => (some t289)) else ((frame_Encode.f k l0).bind fun bt290 => ((lapidaryref03_Encode.f k l0).bind fun bt294 => (lapidarylaw03_FrameWrites.l0 k l0 bt290.1 bt290.2 bt294.1 bt294.2 0))))
theorem lapidarylaw03_FrameWrites.mono_l : ∀ k, (∀ y0 y1 y2 y3 y4 y5, LeO (lapidarylaw03_FrameWrites.l0 k y0 y1 y2 y3 y4 y5) (lapidarylaw03_FrameWrites.l0 (k + 1) y0 y1 y2 y3 y4 y5))
 | 0 => fun _ _ _ _ _ _ r h => by simp [lapidarylaw03_FrameWrites.l0] at h
 | k + 1 => by
  have ih0 := lapidarylaw03_FrameWrites.mono_l k
  ·intro y0 y1 y2 y3 y4 y5
   unfold lapidarylaw03_FrameWrites.l0
   repeat' first
   | (with_reducible exact ih0 _ _ _ _ _ _)
   | (with_reducible exact frame_Encode.mono _ _)
   | (with_reducible exact frame_One.mono _ _ _)
   | (with_reducible exact lapidarylaw03_known.mono _)
   | (with_reducible exact lapidarylaw03_long.mono _ _)
   | (with_reducible exact lapidaryref03_Encode.mono _ _)
   | (with_reducible exact lapidaryref03_One.mono _ _ _)
   | (with_reducible exact LeO.refl _)
   | (with_reducible exact LeO.none _)
   | (with_reducible refine LeO.ite ?_ ?_)
   | (with_reducible refine LeO.bind ?_ (fun _ => ?_))
   | exact ih0 _ _ _ _ _ _
   | exact frame_Encode.mono _ _
   | exact frame_One.mono _ _ _
   | exact lapidarylaw03_known.mono _
   | exact lapidarylaw03_long.mono _ _
   | exact lapidaryref03_Encode.mono _ _
   | exact lapidaryref03_One.mono _ _ _
   | exact LeO.none _
   | refine LeO.ite ?_ ?_
   | refine LeO.bind ?_ (fun _ => ?_)
theorem lapidarylaw03_FrameWrites.mono : ∀ a0 k, LeO (lapidarylaw03_FrameWrites.f k a0) (lapidarylaw03_FrameWrites.f (k + 1) a0) := by
 intro a0 k
 have ih0 := lapidarylaw03_FrameWrites.mono_l k
 unfold lapidarylaw03_FrameWrites.f
 repeat' first
   | (with_reducible exact ih0 _ _ _ _ _ _)
   | (with_reducible exact frame_Encode.mono _ _)
   | (with_reducible exact frame_One.mono _ _ _)
   | (with_reducible exact lapidarylaw03_known.mono _)
   | (with_reducible exact lapidarylaw03_long.mono _ _)
   | (with_reducible exact lapidaryref03_Encode.mono _ _)
   | (with_reducible exact lapidaryref03_One.mono _ _ _)
   | (with_reducible exact LeO.refl _)
   | (with_reducible exact LeO.none _)
   | (with_reducible refine LeO.ite ?_ ?_)
   | (with_reducible refine LeO.bind ?_ (fun _ => ?_))
   | exact ih0 _ _ _ _ _ _
   | exact frame_Encode.mono _ _
   | exact frame_One.mono _ _ _
   | exact lapidarylaw03_known.mono _
   | exact lapidarylaw03_long.mono _ _
   | exact lapidaryref03_Encode.mono _ _
   | exact lapidaryref03_One.mono _ _ _
   | exact LeO.none _
   | refine LeO.ite ?_ ?_
   | refine LeO.bind ?_ (fun _ => ?_)
set_option maxHeartbeats 8000000 in
set_option maxRecDepth 100000 in
theorem lapidarylaw03_FrameWrites.calls (k : Nat) (A0 : Option Addr) (c0 : Nat) (l0 : List (S33)) (r : Bool) (w : World) (hr0 : Kd.C k33 w A0 l0.length l0) (hc0 : l0.length ≤ c0) (h : lapidarylaw03_FrameWrites.f k l0 = some r) :
  Calls Try.prog 3 #[.slice A0 l0.length c0] w fun e w' => e = .returned (.bool r) ∧ Below w.heap.size w w' := by
 have hu33 := Try.underlying33
 have HR0 := Aside0.mk hr0
 have HC0 := Aside0.mk hc0
 clear hr0 hc0
 have HB := Aside0.mk (Below.refl w.heap.size w)
 have H : ((lapidarylaw03_long.f k l0).bind fun t288 => (if t288 = true then ((lapidarylaw03_known.f k).bind fun t289 => (some t289)) else ((frame_Encode.f k l0).bind fun bt290 => ((lapidaryref03_Encode.f k l0).bind fun bt294 => (lapidarylaw03_FrameWrites.l0 k l0 bt290.1 bt290.2 bt294.1 bt294.2 0))))) = some r := h
 clear h
 replace H := Option.bind_eq_some_iff.mp H
 obtain ⟨t288, A20, H⟩ := H
 replace H : (if t288 = true then ((lapidarylaw03_known.f k).bind fun t289 => (some t289)) else ((frame_Encode.f k l0).bind fun bt290 => ((lapidaryref03_Encode.f k l0).bind fun bt294 => (lapidarylaw03_FrameWrites.l0 k l0 bt290.1 bt290.2 bt294.1 bt294.2 0)))) = some r := H
 have A2 := Aside0.mk A20
 clear A20
 have HC3 := Aside0.mk H
 clear H
 go_enter Try.func3, Try.ntmps3
 go_upto_if 13 with (first | ((with_reducible refine gate_callee (f := 8) rfl ?_); refine goesL_ (some 13) rfl rfl Try.func8 (by kernel_rfl) rfl #[.slice A0 l0.length c0] rfl (by (try simp only [List.map_toArray, List.map_cons, List.map_nil]); first | done | rfl | (simp only [List.length_drop, List.length_take]; rfl)) ?_; (with_reducible refine (lapidarylaw03_long.calls k _ _ l0 t288 _ ?side1 ?side2 A2.out).mono ?_); (case side1 => repeat (first | exact HR0.out | (with_reducible refine Kd.C_alloc ?_ _) | (with_reducible refine Kd.C_drewN ?_ _) | (with_reducible refine Kd.C_drew ?_))); (case side2 => exact HC0.out); rintro e w' ⟨rfl, ⟨nd, rfl⟩⟩; refine ⟨_, rfl, ?_⟩))
 (try simp only [Act.put, List.setIfInBounds_toArray, List.set_cons_zero, List.set_cons_succ])
 have H := HC3.out
 clear HC3
 by_cases c4 : t288 = true
 ·subst c4
  have H1 : ((lapidarylaw03_known.f k).bind fun t289 => (some t289)) = some r := by rw [if_pos rfl] at H; exact H
  clear H
  have H := H1
  clear H1
  replace H := Option.bind_eq_some_iff.mp H
  obtain ⟨t289, A50, H⟩ := H
  replace H : (some t289) = some r := H
  have A5 := Aside0.mk A50
  clear A50
  obtain rfl := Option.some.inj H
  go_wp2_with (first | ((with_reducible refine gate_callee (f := 9) rfl ?_); refine goesL_ (some 14) rfl rfl Try.func9 (by kernel_rfl) rfl #[] rfl (by (try simp only [List.map_toArray, List.map_cons, List.map_nil]); first | done | rfl | (simp only [List.length_drop, List.length_take]; rfl)) ?_; (with_reducible refine (lapidarylaw03_known.calls k  t289 _ A5.out).mono ?_); rintro e w6 ⟨rfl, hb⟩; refine ⟨_, rfl, ?_⟩; have n0_ := Aside0.mk (below_step (bH HB) hb); clear HB; have HB := n0_; clear n0_; (try clear hb); (try clear hb2); (try clear hk); (try clear hi)))
  go_ret
  exact ⟨by first | rfl | (simp [errW_none, errW_some] <;> rfl) | (simp [*, errW_none, errW_some] <;> rfl), bH HB⟩
 ·replace c4 := Bool.eq_false_iff.mpr c4
  subst c4
  have H1 : ((frame_Encode.f k l0).bind fun bt290 => ((lapidaryref03_Encode.f k l0).bind fun bt294 => (lapidarylaw03_FrameWrites.l0 k l0 bt290.1 bt290.2 bt294.1 bt294.2 0))) = some r := by rw [if_neg (show ¬ (false = true) by decide)] at H; exact H
  clear H
  have H := H1
  clear H1
  replace H := Option.bind_eq_some_iff.mp H
  obtain ⟨⟨t290, t291⟩, A70, H⟩ := H
  replace H : ((lapidaryref03_Encode.f k l0).bind fun bt294 => (lapidarylaw03_FrameWrites.l0 k l0 t290 t291 bt294.1 bt294.2 0)) = some r := H
  have A7 := Aside0.mk A70
  clear A70
  replace H := Option.bind_eq_some_iff.mp H
  obtain ⟨⟨t294, t295⟩, A80, H⟩ := H
  replace H : (lapidarylaw03_FrameWrites.l0 k l0 t290 t291 t294 t295 0) = some r := H
  have A8 := Aside0.mk A80
  clear A80
  have H' := Aside0.mk H
  clear H
  go_wp2_with (first | ((with_reducible refine gate_callee (f := 10) rfl ?_); refine goesL_ (some 17) rfl rfl Try.func10 (by kernel_rfl) rfl #[.slice A0 l0.length c0] rfl (by (try simp only [List.map_toArray, List.map_cons, List.map_nil]); first | done | rfl | (simp only [List.length_drop, List.length_take]; rfl)) ?_; (with_reducible refine (frame_Encode.calls k _ _ l0 t290 t291 _ ?side1 ?side2 A7.out).mono ?_); (case side1 => repeat (first | exact (Kd.C_below HR0.out HB.out) | (with_reducible refine Kd.C_alloc ?_ _) | (with_reducible refine Kd.C_drewN ?_ _) | (with_reducible refine Kd.C_drew ?_))); (case side2 => exact HC0.out); rintro e w9 ⟨v292, rfl, ho0, hb⟩; refine ⟨_, rfl, ?_⟩; have n0_ := Aside0.mk (Kd.R_lower ho0 (below_size (bH HB))); have n1_ := Aside0.mk (below_step (bH HB) hb); clear HB; have HO293 := n0_; have HB := n1_; clear n0_ n1_; (try clear hb); (try clear hb2); (try clear hk); (try clear hi); (try clear ho0)) | ((with_reducible refine gate_callee (f := 11) rfl ?_); refine goesL_ (some 22) rfl rfl Try.func11 (by kernel_rfl) rfl #[.slice A0 l0.length c0] rfl (by (try simp only [List.map_toArray, List.map_cons, List.map_nil]); first | done | rfl | (simp only [List.length_drop, List.length_take]; rfl)) ?_; (with_reducible refine (lapidaryref03_Encode.calls k _ _ l0 t294 t295 _ ?side1 ?side2 A8.out).mono ?_); (case side1 => repeat (first | exact (Kd.C_below HR0.out HB.out) | (with_reducible refine Kd.C_alloc ?_ _) | (with_reducible refine Kd.C_drewN ?_ _) | (with_reducible refine Kd.C_drew ?_))); (case side2 => exact HC0.out); rintro e w10 ⟨v296, rfl, ho0, hb⟩; refine ⟨_, rfl, ?_⟩; have n0_ := Aside0.mk (Kd.R_elder' (rK HO293) (Kd.R_base ho0) hb); have n1_ := Aside0.mk (Kd.R_lower (Kd.R_new' ho0 (Kd.R_lt (rK HO293))) (below_size (bH HB))); have n2_ := Aside0.mk (below_step (bH HB) hb); clear HO293; clear HB; have HO293 := n0_; have HO297 := n1_; have HB := n2_; clear n0_ n1_ n2_; (try clear hb); (try clear hb2); (try clear hk); (try clear hi); (try clear ho0)))
  go_loopg [7] k (fun kq v7 w' => ∃ (x7_1 : Int), v7 = .int .i64 x7_1 ∧ Aside0 (lapidarylaw03_FrameWrites.l0 kq l0 t290 t291 t294 t295 x7_1 = some r) ∧ Aside0 (kq ≤ k) ∧ Aside0 (Kd.R (Kd.int .u8) 5 w' w.heap.size (fun k_ => some k_ ≠ (v296 : Value).ownBlock) v292 t290) ∧ Aside0 (Kd.R (Kd.int .u8) 5 w' w.heap.size (fun k_ => some k_ ≠ (v292 : Value).ownBlock) v296 t294) ∧ Aside0 (Below w.heap.size w w'))
  case atStart => exact ⟨(0), (by first | rfl | (simp; done) | (simp [*]; done)), H', ⟨Nat.le_refl _⟩, ⟨by (with_reducible repeat (first | apply Kd.R_alloc | apply Kd.R_drewN | apply Kd.R_drew)); exact Kd.R_mono HO293.out (fun _ hk => hk.2)⟩, ⟨by (with_reducible repeat (first | apply Kd.R_alloc | apply Kd.R_drewN | apply Kd.R_drew)); exact Kd.R_mono HO297.out (fun _ hk => hk.2)⟩, ⟨ bH HB⟩⟩
  case round =>
   clear H'
   try clear c1
   try clear p2
   try clear c3
   try clear c4
   try clear c8
   try clear c9
   try clear c10
   obtain ⟨x7_1, rfl, HA, HK1, HO_3, HO_5, HB⟩ := hrel
   cases gk with
   | zero => exact absurd HA.out (by simp [lapidarylaw03_FrameWrites.l0])
   | succ k1 =>
    have H := HA.out
    clear HA
    simp only [lapidarylaw03_FrameWrites.l0] at H
    by_cases c11 : x7_1 < (l0.length : Int)
    ·rw [if_pos c11] at H
     have c11b0 : decide (x7_1 < (l0.length : Int)) = true := decide_eq_true c11
     clear c11
     (first | rw [c11b0] | (simp only [i64_w, i32_w]; rw [c11b0]) | skip)
     by_cases c12 : 0 ≤ x7_1
     ·rw [if_pos c12] at H
      have c12b0 : decide (0 ≤ x7_1) = true := decide_eq_true c12
      clear c12
      replace H := Option.bind_eq_some_iff.mp H
      obtain ⟨⟨t301, t304⟩, A130, H⟩ := H
      replace H : ((lapidaryref03_One.f k1 ((rd_T33 l0 x7_1).f0) ((rd_T33 l0 x7_1).f1)).bind fun bt306 => ((lapidaryref00_Same.f t301 bt306.1).bind fun t310 => (if t310 = true then (if t304 = bt306.2 then (lapidarylaw03_FrameWrites.l0 k1 l0 t290 t291 t294 t295 (wrap64 (x7_1 + 1))) else (none)) else (none)))) = some r := H
      have A13 := Aside0.mk A130
      clear A130
      replace H := Option.bind_eq_some_iff.mp H
      obtain ⟨⟨t306, t309⟩, A140, H⟩ := H
      replace H : ((lapidaryref00_Same.f t301 t306).bind fun t310 => (if t310 = true then (if t304 = t309 then (lapidarylaw03_FrameWrites.l0 k1 l0 t290 t291 t294 t295 (wrap64 (x7_1 + 1))) else (none)) else (none))) = some r := H
      have A14 := Aside0.mk A140
      clear A140
      replace H := Option.bind_eq_some_iff.mp H
      obtain ⟨t310, A150, H⟩ := H
      replace H : (if t310 = true then (if t304 = t309 then (lapidarylaw03_FrameWrites.l0 k1 l0 t290 t291 t294 t295 (wrap64 (x7_1 + 1))) else (none)) else (none)) = some r := H
      have A15 := Aside0.mk A150
      clear A150
      by_cases c16 : t310 = true
      ·subst c16
       have H1 : (if t304 = t309 then (lapidarylaw03_FrameWrites.l0 k1 l0 t290 t291 t294 t295 (wrap64 (x7_1 + 1))) else (none)) = some r := by rw [if_pos rfl] at H; exact H
       clear H
       have H := H1
       clear H1
       by_cases c17 : t304 = t309
       ·rw [if_pos c17] at H
        have c17b0 : (t304 == t309) = true := beq_iff_eq.mpr c17
        have c17b1 : (t304 != t309) = false := bne_eq_false_iff_eq.mpr c17
        clear c17
        have H' := Aside0.mk H
        clear H
        have p300 : 0 ≤ (x7_1 : Int) := of_decide_eq_true (by first | (with_reducible assumption) | assumption)
        have q300 : x7_1 < (l0.length : Int) := of_decide_eq_true (by first | (with_reducible assumption) | assumption)
        obtain ⟨ad300, A300_1, c300_1, e300, hx300_0, hx300_1, hl300_1, hi300_1⟩ := at_T33 HR0.out x7_1 p300 q300
        cases e300
        replace hx300_0 := (HB.out.cell (World.block_lt_of_cell? w _ hx300_0)).trans hx300_0
        replace hx300_1 := (HB.out.cell (World.block_lt_of_cell? w _ hx300_1)).trans hx300_1
        have HR300_1 := Aside0.mk hi300_1
        have HC300_1 := Aside0.mk hl300_1
        clear hi300_1 hl300_1
        replace p300 := eq_true p300
        replace q300 := eq_true q300
        go_wp2_with (first | ((with_reducible refine gate_callee (f := 12) rfl ?_); refine goesL_ (some 36) rfl rfl Try.func12 (by kernel_rfl) rfl #[.agg #[.int .i64 ((rd_T33 l0 x7_1).f0), .slice A300_1 ((rd_T33 l0 x7_1).f1).length c300_1]] rfl (by (try simp only [List.map_toArray, List.map_cons, List.map_nil]); first | done | rfl | (simp only [List.length_drop, List.length_take]; rfl)) ?_; (with_reducible refine (frame_One.calls k1 ((rd_T33 l0 x7_1).f0) _ _ ((rd_T33 l0 x7_1).f1) t301 t304 _ ?side1 ?side2 A13.out).mono ?_); (case side1 => repeat (first | exact (Kd.C_below HR300_1.out HB.out) | (with_reducible refine Kd.C_alloc ?_ _) | (with_reducible refine Kd.C_drewN ?_ _) | (with_reducible refine Kd.C_drew ?_))); (case side2 => exact HC300_1.out); rintro e w18 ⟨v302, rfl, ho0, hb⟩; refine ⟨_, rfl, ?_⟩; have n0_ := Aside0.mk (Kd.R_elder' (rK HO_3) (Kd.R_base ho0) hb); have n1_ := Aside0.mk (Kd.R_elder' (rK HO_5) (Kd.R_base ho0) hb); have n2_ := Aside0.mk (Kd.R_lower (Kd.R_new' (Kd.R_new' ho0 (Kd.R_lt (rK HO_3))) (Kd.R_lt (rK HO_5))) (below_size (bH HB))); have n3_ := Aside0.mk (below_step (bH HB) hb); clear HO_3; clear HO_5; clear HB; have HO_3 := n0_; have HO_5 := n1_; have HO303 := n2_; have HB := n3_; clear n0_ n1_ n2_ n3_; (try clear hb); (try clear hb2); (try clear hk); (try clear hi); (try clear ho0); have p305 : 0 ≤ (x7_1 : Int) := of_decide_eq_true (by first | (with_reducible assumption) | assumption); have q305 : x7_1 < (l0.length : Int) := of_decide_eq_true (by first | (with_reducible assumption) | assumption); obtain ⟨ad305, A305_1, c305_1, e305, hx305_0, hx305_1, hl305_1, hi305_1⟩ := at_T33 HR0.out x7_1 p305 q305; obtain rfl : ad300 = ad305 := (by injection e305); replace hx305_0 := (HB.out.cell (World.block_lt_of_cell? w _ hx305_0)).trans hx305_0; replace hx305_1 := (HB.out.cell (World.block_lt_of_cell? w _ hx305_1)).trans hx305_1; have HR305_1 := Aside0.mk hi305_1; have HC305_1 := Aside0.mk hl305_1; clear hi305_1 hl305_1; replace p305 := eq_true p305; replace q305 := eq_true q305) | ((with_reducible refine gate_callee (f := 13) rfl ?_); refine goesL_ (some 44) rfl rfl Try.func13 (by kernel_rfl) rfl #[.agg #[.int .i64 ((rd_T33 l0 x7_1).f0), .slice A305_1 ((rd_T33 l0 x7_1).f1).length c305_1]] rfl (by (try simp only [List.map_toArray, List.map_cons, List.map_nil]); first | done | rfl | (simp only [List.length_drop, List.length_take]; rfl)) ?_; (with_reducible refine (lapidaryref03_One.calls k1 ((rd_T33 l0 x7_1).f0) _ _ ((rd_T33 l0 x7_1).f1) t306 t309 _ ?side1 ?side2 A14.out).mono ?_); (case side1 => repeat (first | exact (Kd.C_below HR305_1.out HB.out) | (with_reducible refine Kd.C_alloc ?_ _) | (with_reducible refine Kd.C_drewN ?_ _) | (with_reducible refine Kd.C_drew ?_))); (case side2 => exact HC305_1.out); rintro e w19 ⟨v307, rfl, ho0, hb⟩; refine ⟨_, rfl, ?_⟩; have n0_ := Aside0.mk (Kd.R_elder' (rK HO_3) (Kd.R_base ho0) hb); have n1_ := Aside0.mk (Kd.R_elder' (rK HO_5) (Kd.R_base ho0) hb); have n2_ := Aside0.mk (Kd.R_elder' (rK HO303) (Kd.R_base ho0) hb); have n3_ := Aside0.mk (Kd.R_lower (Kd.R_new' (Kd.R_new' (Kd.R_new' ho0 (Kd.R_lt (rK HO_3))) (Kd.R_lt (rK HO_5))) (Kd.R_lt (rK HO303))) (below_size (bH HB))); have n4_ := Aside0.mk (below_step (bH HB) hb); clear HO_3; clear HO_5; clear HO303; clear HB; have HO_3 := n0_; have HO_5 := n1_; have HO303 := n2_; have HO308 := n3_; have HB := n4_; clear n0_ n1_ n2_ n3_ n4_; (try clear hb); (try clear hb2); (try clear hk); (try clear hi); (try clear ho0); obtain ⟨Ao20, co20, eo20⟩ := Kd.R_slice HO303.out; subst eo20; obtain ⟨Ao21, co21, eo21⟩ := Kd.R_slice HO308.out; subst eo21) | ((with_reducible refine gate_callee (f := 14) rfl ?_); refine goesL_ (some 49) rfl rfl Try.func14 (by kernel_rfl) rfl #[.slice Ao20 t301.length co20, .slice Ao21 t306.length co21] rfl (by (try simp only [List.map_toArray, List.map_cons, List.map_nil]); first | done | rfl | (simp only [List.length_drop, List.length_take]; rfl)) ?_; (with_reducible refine (lapidaryref00_Same.calls _ _ t301 _ _ t306 true _ ?side1 ?side2 ?side3 ?side4 A15.out).mono ?_); (case side1 => repeat (first | exact (Kd.R_reads' HO303.out).2.2 | (with_reducible refine Kd.C_alloc ?_ _) | (with_reducible refine Kd.C_drewN ?_ _) | (with_reducible refine Kd.C_drew ?_))); (case side2 => exact (Kd.R_reads' HO303.out).2.1); (case side3 => repeat (first | exact (Kd.R_reads' HO308.out).2.2 | (with_reducible refine Kd.C_alloc ?_ _) | (with_reducible refine Kd.C_drewN ?_ _) | (with_reducible refine Kd.C_drew ?_))); (case side4 => exact (Kd.R_reads' HO308.out).2.1); rintro e w' ⟨rfl, ⟨nd, rfl⟩⟩; refine ⟨_, rfl, ?_⟩))
        go_roundg k1
        case measure => have := HK1.out; omega
        case rel => exact ⟨(wrap64 (x7_1 + 1)), (by first | rfl | (simp; done) | (simp [*]; done)), H', ⟨by have := HK1.out; omega⟩, ⟨by (with_reducible repeat (first | apply Kd.R_alloc | apply Kd.R_drewN | apply Kd.R_drew)); exact Kd.R_mono HO_3.out (fun _ hk => hk.1.1)⟩, ⟨by (with_reducible repeat (first | apply Kd.R_alloc | apply Kd.R_drewN | apply Kd.R_drew)); exact Kd.R_mono HO_5.out (fun _ hk => hk.1.1)⟩, ⟨ bH HB⟩⟩
       ·rw [if_neg c17] at H
        exact absurd H (by simp)
      ·replace c16 := Bool.eq_false_iff.mpr c16
       subst c16
       have H1 : (none) = some r := by rw [if_neg (show ¬ (false = true) by decide)] at H; exact H
       clear H
       have H := H1
       clear H1
       exact absurd H (by simp)
     ·rw [if_neg c12] at H
      exact absurd H (by simp)
    ·rw [if_neg c11] at H
     have c11b0 : decide (x7_1 < (l0.length : Int)) = false := decide_eq_false c11
     clear c11
     (first | rw [c11b0] | (simp only [i64_w, i32_w]; rw [c11b0]) | skip)
     replace H := Option.bind_eq_some_iff.mp H
     obtain ⟨t298, A220, H⟩ := H
     replace H : (if t298 = true then (if t291 = t295 then ((lapidarylaw03_known.f k1).bind fun t299 => (some t299)) else (none)) else (none)) = some r := H
     have A22 := Aside0.mk A220
     clear A220
     by_cases c23 : t298 = true
     ·subst c23
      have H1 : (if t291 = t295 then ((lapidarylaw03_known.f k1).bind fun t299 => (some t299)) else (none)) = some r := by rw [if_pos rfl] at H; exact H
      clear H
      have H := H1
      clear H1
      by_cases c24 : t291 = t295
      ·rw [if_pos c24] at H
       have c24b0 : (t291 == t295) = true := beq_iff_eq.mpr c24
       have c24b1 : (t291 != t295) = false := bne_eq_false_iff_eq.mpr c24
       clear c24
       replace H := Option.bind_eq_some_iff.mp H
       obtain ⟨t299, A250, H⟩ := H
       replace H : (some t299) = some r := H
       have A25 := Aside0.mk A250
       clear A250
       obtain rfl := Option.some.inj H
       obtain ⟨Ao26, co26, eo26⟩ := Kd.R_slice HO_3.out
       subst eo26
       obtain ⟨Ao27, co27, eo27⟩ := Kd.R_slice HO_5.out
       subst eo27
       go_wp2_with (first | ((with_reducible refine gate_callee (f := 14) rfl ?_); refine goesL_ (some 58) rfl rfl Try.func14 (by kernel_rfl) rfl #[.slice Ao26 t290.length co26, .slice Ao27 t294.length co27] rfl (by (try simp only [List.map_toArray, List.map_cons, List.map_nil]); first | done | rfl | (simp only [List.length_drop, List.length_take]; rfl)) ?_; (with_reducible refine (lapidaryref00_Same.calls _ _ t290 _ _ t294 true _ ?side1 ?side2 ?side3 ?side4 A22.out).mono ?_); (case side1 => repeat (first | exact (Kd.R_reads' HO_3.out).2.2 | (with_reducible refine Kd.C_alloc ?_ _) | (with_reducible refine Kd.C_drewN ?_ _) | (with_reducible refine Kd.C_drew ?_))); (case side2 => exact (Kd.R_reads' HO_3.out).2.1); (case side3 => repeat (first | exact (Kd.R_reads' HO_5.out).2.2 | (with_reducible refine Kd.C_alloc ?_ _) | (with_reducible refine Kd.C_drewN ?_ _) | (with_reducible refine Kd.C_drew ?_))); (case side4 => exact (Kd.R_reads' HO_5.out).2.1); rintro e w' ⟨rfl, ⟨nd, rfl⟩⟩; refine ⟨_, rfl, ?_⟩) | (go_at_call 9; (with_reducible refine (lapidarylaw03_known.calls k1  t299 _ A25.out).mono ?_); rintro e w28 ⟨rfl, hb⟩; have n0_ := Aside0.mk (Kd.R_below (rK HO_3) hb); have n1_ := Aside0.mk (Kd.R_below (rK HO_5) hb); have n2_ := Aside0.mk (below_step (bH HB) hb); clear HO_3; clear HO_5; clear HB; have HO_3 := n0_; have HO_5 := n1_; have HB := n2_; clear n0_ n1_ n2_; (try clear hb); (try clear hb2); (try clear hk); (try clear hi)))
       go_ret
       exact ⟨by first | rfl | (simp [errW_none, errW_some] <;> rfl) | (simp [*, errW_none, errW_some] <;> rfl), bH HB⟩
      ·rw [if_neg c24] at H
       exact absurd H (by simp)
     ·replace c23 := Bool.eq_false_iff.mpr c23
      subst c23
      have H1 : (none) = some r := by rw [if_neg (show ¬ (false = true) by decide)] at H; exact H
      clear H
      have H := H1
      clear H1
      exact absurd H (by simp)

end Go.Proofs.Ytimdikfllbbdoaa.P
