/- Written for this claim by a program of this session (a turned copy of the print): Go functions as Lean functions, and that the Go code comes to just these answers; or a statement proved out of them. No condition. In whatever chunks bytes come: the cut, and the chunks in memory. No condition. -/
import Derived.Test.YtglmfnaofpbpfaaZ2
import Derived.Test.YtglmfnaofpbpfaaZ16
import Derived.Test.YtglmfnaofpbpfaaZ15
import Derived.Test.YtglmfnaofpbpfaaZ17

namespace Go.Proofs.Ytglmfnaofpbpfaa.P
open Go.RowKit Go.Proofs.YtglmfnaofpbpfaaW.PrintWords Go.Proofs.YtglmfnaofpbpfaaW.PrintLast Go.Proofs.YtglmfnaofpbpfaaW.PrintMore Go.Proofs.Ytglmfnaofpbpfaa.X
attribute [local go_sem] max2_int min2_int max_two min_two max_three min_three max_four min_four   -- for this text's walks alone
set_option linter.unusedVariables false
set_option linter.unusedSimpArgs false

/-! ### lapidaryref04_Feed: function 11 -/
def lapidaryref04_Feed.l0 : Nat → List Int → Int → List Int → Int → Bool → Int → List (S48) → Int → Option (List Int × Int × Bool × Int × (List (S48)) × Int)
 | 0, _, _, _, _, _, _, _, _ => none
 | k + 1, x1, x5, x232000, x232001, x232002, x232003, x232004, x232005 => if x5 < (x1.length : Int) then (if 0 ≤ x5 then ((lapidaryref03_Step.f k x232000 x232001 x232002 x232003 x232004 x232005 (rd x1 x5)).bind fun bt234 => (lapidaryref04_Feed.l0 k x1 (wrap64 (x5 + 1)) bt234.1 bt234.2.1 bt234.2.2.1 bt234.2.2.2.1 bt234.2.2.2.2.1 bt234.2.2.2.2.2)) else (none)) else (some (x232000, x232001, x232002, x232003, x232004, x232005))
def lapidaryref04_Feed.f (k : Nat) (l0_0 : List Int) (a0_1 : Int) (a0_2 : Bool) (a0_3 : Int) (l0_4 : List (S48)) (a0_5 : Int) (l1 : List Int) : Option (List Int × Int × Bool × Int × (List (S48)) × Int) := lapidaryref04_Feed.l0 k l1 0 l0_0 a0_1 a0_2 a0_3 l0_4 a0_5
theorem lapidaryref04_Feed.mono_l : ∀ k, (∀ y0 y1 y2 y3 y4 y5 y6 y7, LeO (lapidaryref04_Feed.l0 k y0 y1 y2 y3 y4 y5 y6 y7) (lapidaryref04_Feed.l0 (k + 1) y0 y1 y2 y3 y4 y5 y6 y7))
 | 0 => fun _ _ _ _ _ _ _ _ r h => by simp [lapidaryref04_Feed.l0] at h
 | k + 1 => by
  have ih0 := lapidaryref04_Feed.mono_l k
  ·intro y0 y1 y2 y3 y4 y5 y6 y7
   unfold lapidaryref04_Feed.l0
   repeat' first
   | (with_reducible exact ih0 _ _ _ _ _ _ _ _)
   | (with_reducible exact lapidaryref03_Step.mono _ _ _ _ _ _ _ _)
   | (with_reducible exact LeO.refl _)
   | (with_reducible exact LeO.none _)
   | (with_reducible refine LeO.ite ?_ ?_)
   | (with_reducible refine LeO.bind ?_ (fun _ => ?_))
   | exact ih0 _ _ _ _ _ _ _ _
   | exact lapidaryref03_Step.mono _ _ _ _ _ _ _ _
   | exact LeO.none _
   | refine LeO.ite ?_ ?_
   | refine LeO.bind ?_ (fun _ => ?_)
theorem lapidaryref04_Feed.mono : ∀ a0 a1 a2 a3 a4 a5 a6 k, LeO (lapidaryref04_Feed.f k a0 a1 a2 a3 a4 a5 a6) (lapidaryref04_Feed.f (k + 1) a0 a1 a2 a3 a4 a5 a6) := by
 intro a0 a1 a2 a3 a4 a5 a6 k
 have ih0 := lapidaryref04_Feed.mono_l k
 unfold lapidaryref04_Feed.f
 repeat' first
   | (with_reducible exact ih0 _ _ _ _ _ _ _ _)
   | (with_reducible exact lapidaryref03_Step.mono _ _ _ _ _ _ _ _)
   | (with_reducible exact LeO.refl _)
   | (with_reducible exact LeO.none _)
   | (with_reducible refine LeO.ite ?_ ?_)
   | (with_reducible refine LeO.bind ?_ (fun _ => ?_))
   | exact ih0 _ _ _ _ _ _ _ _
   | exact lapidaryref03_Step.mono _ _ _ _ _ _ _ _
   | exact LeO.none _
   | refine LeO.ite ?_ ?_
   | refine LeO.bind ?_ (fun _ => ?_)
set_option maxHeartbeats 8000000 in
set_option maxRecDepth 100000 in
theorem lapidaryref04_Feed.calls (k : Nat) (P0_0_ : Nat → Prop) (u9000_ : Value) (l0_0 : List Int) (a0_1 : Int) (a0_2 : Bool) (a0_3 : Int) (P0_4_ : Nat → Prop) (A0_4 : Option Addr) (c0_4 : Nat) (l0_4 : List (S48)) (a0_5 : Int) (A1 : Option Addr) (c1 : Nat) (l1 : List Int) (r1 : List Int) (r2 : Int) (r3 : Bool) (r4 : Int) (r5 : List (S48)) (r6 : Int) (w0 w : World) (hB : Below w0.heap.size w0 w) (ho0_0 : Kd.R (Kd.int .u8) 5 w w0.heap.size P0_0_ u9000_ l0_0) (hs0_4 : Kd.V k48 48 w w0.heap.size (fun k_ => P0_4_ k_ ∧ some k_ ≠ (u9000_ : Value).ownBlock) (.slice A0_4 l0_4.length c0_4) l0_4) (hr1 : ∀ W_, Kept w W_ (fun k_ => P0_0_ k_) → Kd.C (Kd.int .u8) W_ A1 l1.length l1) (hc1 : l1.length ≤ c1) (h : lapidaryref04_Feed.f k l0_0 a0_1 a0_2 a0_3 l0_4 a0_5 l1 = some (r1, r2, r3, r4, r5, r6)) :
  Calls Try.prog 11 #[.agg #[u9000_, .int .i64 a0_1, .bool a0_2, .int .i64 a0_3, .slice A0_4 l0_4.length c0_4, .int .i64 a0_5], .slice A1 l1.length c1] w fun e w' => ∃ v0_ v4_ : Value, e = .returned (.agg #[v0_, .int .i64 r2, .bool r3, .int .i64 r4, v4_, .int .i64 r6]) ∧ Kd.R (Kd.int .u8) 5 w' w0.heap.size (fun k_ => (P0_0_ k_ ∨ w.heap.size ≤ k_)) v0_ r1 ∧ Kd.V k48 48 w' w0.heap.size (fun k_ => ((P0_0_ k_ ∨ P0_4_ k_) ∨ w.heap.size ≤ k_) ∧ some k_ ≠ (v0_ : Value).ownBlock) v4_ r5 ∧ Below w0.heap.size w0 w' ∧ Kept w w' (fun k_ => P0_0_ k_) := by
 have hu28 := Try.underlying28
 have HO0_0 := Aside0.mk (show Kd.R (Kd.int .u8) 5 w w0.heap.size (fun k_ => (P0_0_ k_ ∨ w.heap.size ≤ k_)) u9000_ l0_0 from Kd.R_mono ho0_0 (fun k_ hk => (.inl hk)))
 have HO0_4 := Aside0.mk (show Kd.V k48 48 w w0.heap.size (fun k_ => ((P0_0_ k_ ∨ P0_4_ k_) ∨ w.heap.size ≤ k_) ∧ some k_ ≠ (u9000_ : Value).ownBlock) (.slice A0_4 l0_4.length c0_4) l0_4 from Kd.V_mono hs0_4 (fun k_ hk => ⟨.inl (.inr hk.1), hk.2⟩))
 have HR1 := Aside0.mk hr1
 have HC1 := Aside0.mk hc1
 clear hr1 hc1
 have HK := Aside0.mk (Kept.refl w (fun k_ => P0_0_ k_))
 have HW0 := Aside0.mk hB.size
 have HB := Aside0.mk hB
 clear hB
 have H : (lapidaryref04_Feed.l0 k l1 0 l0_0 a0_1 a0_2 a0_3 l0_4 a0_5) = some (r1, r2, r3, r4, r5, r6) := h
 clear h
 have H' := Aside0.mk H
 clear H
 obtain ⟨Ao3, co3, eo3⟩ := Kd.R_slice HO0_0.out
 subst eo3
 go_enter Try.func11, Try.ntmps11
 go_wp2_with (first | ((with_reducible refine gate_dst (N := 2) rfl ?_); refine box_event ?hg (N := 2) ?hd (cs := #[.slice Ao3 l0_0.length co3, .int .i64 a0_1, .bool a0_2, .int .i64 a0_3, .slice A0_4 l0_4.length c0_4, .int .i64 a0_5]) (t := 28) ?hr ?_; (case hd => rfl); (case hg => rfl); (case hr => first | (go_simp; done) | (go_simp; rfl)); intro gb231 hg w4 hbox hb; have n0_ := Aside0.mk (Kd.R_below (rK HO0_0) hb); have n1_ := Aside0.mk (Kd.V_below (Kd.V_elderB (by (with_reducible repeat (first | apply Kd.V_alloc | apply Kd.V_drewN | apply Kd.V_drew)); exact HO0_4.out) gb231 (Nat.le_of_eq hg.symm)) hb); have n2_ := Aside0.mk (Kept.below (S := (fun k_ => P0_0_ k_)) (by repeat (first | (with_reducible first | exact HK.out | apply Kept.alloc | apply Kept.drewN | apply Kept.drew) | exact HK.out)) hb); have n3_ := Aside0.mk (below_step (bH HB) hb); have n4_ := Aside0.mk (hbox); have n5_ := Aside0.mk ((by rw [hg]; exact (by first | exact HK.out.1 | exact (show Kept w _ (fun k_ => P0_0_ k_) from by repeat (first | (with_reducible first | exact HK.out | apply Kept.alloc | apply Kept.drewN | apply Kept.drew) | exact HK.out)).1) : w.heap.size ≤ gb231)); have n6_ := Aside0.mk ((by rw [hg]; exact (below_size (bH HB)) : w0.heap.size ≤ gb231)); clear HO0_0; clear HO0_4; clear HK; clear HB; have HO0_0 := n0_; have HO0_4 := n1_; have HK := n2_; have HB := n3_; have BK231 := n4_; have GW231 := n5_; have GE231 := n6_; clear n0_ n1_ n2_ n3_ n4_ n5_ n6_; clear hb hbox hg) | ((with_reducible refine gate_dst (N := 4) rfl ?_); refine box_event ?hg (N := 4) ?hd (cs := #[.slice none 0 0, .int .i64 0, .bool false, .int .i64 0, .slice none 0 0, .int .i64 0]) (t := 28) ?hr ?_; (case hd => rfl); (case hg => rfl); (case hr => first | (go_simp; done) | (go_simp; rfl)); intro gb232 hg w5 hbox hb; have n0_ := Aside0.mk (Kd.R_below (rK HO0_0) hb); have n1_ := Aside0.mk (Kd.V_below (Kd.V_elderB (by (with_reducible repeat (first | apply Kd.V_alloc | apply Kd.V_drewN | apply Kd.V_drew)); exact HO0_4.out) gb232 (Nat.le_of_eq hg.symm)) hb); have n2_ := Aside0.mk (blk_below (g := gb231) (o := .cells #[.slice Ao3 l0_0.length co3, .int .i64 a0_1, .bool a0_2, .int .i64 a0_3, .slice A0_4 l0_4.length c0_4, .int .i64 a0_5] 28 (0, 0)) (bK BK231) hb); have n3_ := Aside0.mk (Kept.below (S := (fun k_ => P0_0_ k_)) (by repeat (first | (with_reducible first | exact HK.out | apply Kept.alloc | apply Kept.drewN | apply Kept.drew | refine Kept.setCell ?_ (.inr GW231.out) _) | exact HK.out)) hb); have n4_ := Aside0.mk (below_step (bH HB) hb); have n5_ := Aside0.mk (hbox); have n6_ := Aside0.mk ((by rw [hg]; exact (by first | exact HK.out.1 | exact (show Kept w _ (fun k_ => P0_0_ k_) from by repeat (first | (with_reducible first | exact HK.out | apply Kept.alloc | apply Kept.drewN | apply Kept.drew | refine Kept.setCell ?_ (.inr GW231.out) _) | exact HK.out)).1) : w.heap.size ≤ gb232)); have n7_ := Aside0.mk ((by rw [hg]; exact (below_size (bH HB)) : w0.heap.size ≤ gb232)); have n8_ := Aside0.mk ((by rw [hg]; exact Nat.ne_of_lt (blk_lt (bK BK231)) : gb231 ≠ gb232)); have n9_ := Aside0.mk ((by rw [hg]; exact Nat.ne_of_gt (blk_lt (bK BK231)) : gb232 ≠ gb231)); clear HO0_0; clear HO0_4; clear BK231; clear HK; clear HB; have HO0_0 := n0_; have HO0_4 := n1_; have BK231 := n2_; have HK := n3_; have HB := n4_; have BK232 := n5_; have GW232 := n6_; have GE232 := n7_; have NB231_232 := n8_; have NB232_231 := n9_; clear n0_ n1_ n2_ n3_ n4_ n5_ n6_ n7_ n8_ n9_; clear hb hbox hg))
 go_loopg [5] k (fun kq v5 w' => ∃ (x5_1 : Int) (x232000_1 : List Int) (x232001_1 : Int) (x232002_1 : Bool) (x232003_1 : Int) (x232004_1 : List (S48)) (x232005_1 : Int) (u232000 : Value) (u232004 : Value), v5 = .int .i64 x5_1 ∧ Aside0 (lapidaryref04_Feed.l0 kq l1 x5_1 x232000_1 x232001_1 x232002_1 x232003_1 x232004_1 x232005_1 = some (r1, r2, r3, r4, r5, r6)) ∧ Aside0 (kq ≤ k) ∧ Aside0 (Kd.R (Kd.int .u8) 5 w' w0.heap.size (fun k_ => (P0_0_ k_ ∨ w.heap.size ≤ k_)) u232000 x232000_1) ∧ Aside0 (Kd.V k48 48 w' w0.heap.size (fun k_ => ((P0_0_ k_ ∨ P0_4_ k_) ∨ w.heap.size ≤ k_) ∧ some k_ ≠ (u232000 : Value).ownBlock ∧ k_ ≠ gb231 ∧ k_ ≠ gb232) u232004 x232004_1) ∧ Aside0 (w'.heap[gb231]? = some (.cells #[u232000, .int .i64 x232001_1, .bool x232002_1, .int .i64 x232003_1, u232004, .int .i64 x232005_1] 28 (0, 0))) ∧ Aside0 (w'.heap[gb232]? = some (.cells #[(.slice none 0 0), .int .i64 0, .bool false, .int .i64 0, (.slice none 0 0), .int .i64 0] 28 (0, 0))) ∧ Aside0 (Kept w w' (fun k_ => P0_0_ k_)) ∧ Aside0 (Below w0.heap.size w0 w'))
 case atStart => exact ⟨(0), (l0_0), (a0_1), (a0_2), (a0_3), (l0_4), (a0_5), (.slice Ao3 l0_0.length co3), (.slice A0_4 l0_4.length c0_4), (by first | rfl | (simp; done) | (simp [*]; done)), H', ⟨Nat.le_refl _⟩, ⟨by (with_reducible repeat (first | apply Kd.R_alloc | apply Kd.R_drewN | apply Kd.R_drew)); exact HO0_0.out⟩, ⟨by (with_reducible repeat (first | apply Kd.V_alloc | apply Kd.V_drewN | apply Kd.V_drew)); exact Kd.V_mono HO0_4.out (fun _ hk => ⟨hk.1.1.1, ⟨hk.1.1.2, ⟨hk.1.2, hk.2⟩⟩⟩)⟩, ⟨bK BK231⟩, ⟨bK BK232⟩, ⟨by repeat (first | (with_reducible first | exact HK.out | apply Kept.alloc | apply Kept.drewN | apply Kept.drew | refine Kept.setCell ?_ (.inr GW231.out) _ | refine Kept.setCell ?_ (.inr GW232.out) _) | exact HK.out)⟩, ⟨ bH HB⟩⟩
 case round =>
  clear H'
  try clear c1
  try clear p2
  obtain ⟨x5_1, x232000_1, x232001_1, x232002_1, x232003_1, x232004_1, x232005_1, u232000, u232004, rfl, HA, HK1, HO_232000, HO_232004, BK231, BK232, HK, HB⟩ := hrel
  cases gk with
  | zero => exact absurd HA.out (by simp [lapidaryref04_Feed.l0])
  | succ k1 =>
   have H := HA.out
   clear HA
   simp only [lapidaryref04_Feed.l0] at H
   by_cases c6 : x5_1 < (l1.length : Int)
   ·rw [if_pos c6] at H
    have c6b0 : decide (x5_1 < (l1.length : Int)) = true := decide_eq_true c6
    clear c6
    by_cases c7 : 0 ≤ x5_1
    ·rw [if_pos c7] at H
     have c7b0 : decide (0 ≤ x5_1) = true := decide_eq_true c7
     clear c7
     replace H := Option.bind_eq_some_iff.mp H
     obtain ⟨⟨t234, t237, t238, t239, t240, t243⟩, A80, H⟩ := H
     replace H : (lapidaryref04_Feed.l0 k1 l1 (wrap64 (x5_1 + 1)) t234 t237 t238 t239 t240 t243) = some (r1, r2, r3, r4, r5, r6) := H
     have A8 := Aside0.mk A80
     clear A80
     have H' := Aside0.mk H
     clear H
     try go_wp2
     have n0_ := Aside0.mk (Kd.R_drew HO_232000.out)
     have n1_ := Aside0.mk (Kd.V_drew HO_232004.out)
     have n2_ := Aside0.mk (blk_drew BK231.out)
     have n3_ := Aside0.mk (blk_drew BK232.out)
     have n4_ := Aside0.mk (Kept.drew HK.out)
     have n5_ := Aside0.mk (below_drew1 HB.out)
     clear HO_232000
     clear HO_232004
     clear BK231
     clear BK232
     clear HK
     clear HB
     have HO_232000 := n0_
     have HO_232004 := n1_
     have BK231 := n2_
     have BK232 := n3_
     have HK := n4_
     have HB := n5_
     clear n0_ n1_ n2_ n3_ n4_ n5_
     have p233 : 0 ≤ (x5_1 : Int) := of_decide_eq_true (by first | (with_reducible assumption) | assumption)
     have q233 : x5_1 < (l1.length : Int) := of_decide_eq_true (by first | (with_reducible assumption) | assumption)
     obtain ⟨ad233, e233, hx233_0⟩ := Kd.at_int (Kd.C_kept_now HR1.out HK.out) x5_1 p233 q233
     have hw233_0 := hx233_0
     cases e233
     replace p233 := eq_true p233
     replace q233 := eq_true q233
     obtain ⟨Ao10, co10, eo10⟩ := Kd.R_slice HO_232000.out
     (first | subst eo10 | (injection eo10 with f1_ f2_ f3_; have f4_ := f1_.symm; have f5_ := f3_.symm; clear f1_ f2_ f3_; subst f4_; subst f5_))
     obtain ⟨Ao11, co11, eo11⟩ := Kd.V_slice HO_232004.out
     (first | subst eo11 | (injection eo11 with f1_ f2_ f3_; have f4_ := f1_.symm; have f5_ := f3_.symm; clear f1_ f2_ f3_; subst f4_; subst f5_))
     refine start_ (n := 7) (S := fun w' => w'.cell? ⟨gb231, 0, none⟩ = some (.slice Ao10 x232000_1.length co10) ∧ w'.cell? ⟨gb231, 1, none⟩ = some (.int .i64 x232001_1) ∧ w'.cell? ⟨gb231, 2, none⟩ = some (.bool x232002_1) ∧ w'.cell? ⟨gb231, 3, none⟩ = some (.int .i64 x232003_1) ∧ w'.cell? ⟨gb231, 4, none⟩ = some (.slice Ao11 x232004_1.length co11) ∧ w'.cell? ⟨gb231, 5, none⟩ = some (.int .i64 x232005_1) ∧ w'.cell? (ad233.add (x5_1).toNat) = some (.int .u8 (rd l1 x5_1))) (ds := [6]) #[false, false, false, false, false, false, false] (by kernel_rfl) rfl rfl ⟨(blk_cell BK231.out 0).trans rfl, (blk_cell BK231.out 1).trans rfl, (blk_cell BK231.out 2).trans rfl, (blk_cell BK231.out 3).trans rfl, (blk_cell BK231.out 4).trans rfl, (blk_cell BK231.out 5).trans rfl, (Kd.foot_int (HR1.out _ (by repeat (first | exact HK.out | apply Kept.alloc | apply Kept.drewN | apply Kept.drew | refine Kept.setCell ?_ (.inr GW231.out) _ | refine Kept.setCell ?_ (.inr GW231.out) _ | refine Kept.setCell ?_ (.inr GW231.out) _ | refine Kept.setCell ?_ (.inr GW231.out) _ | refine Kept.setCell ?_ (.inr GW231.out) _ | refine Kept.setCell ?_ (.inr GW231.out) _))) x5_1 (of_eq_true p233) (of_eq_true q233))⟩ (fun hHeld => ?_)
     generalize wr.drew = w9 at HO_232000 HO_232004 BK231 BK232 HK HB hx233_0 hHeld ⊢
     refine pure_ (i := 1) (N := some 13) (v := ?_) (a' := ?_) #[false, true, false, false, false, false, false] rfl rfl (by kernel_rfl) (fun _ _ _ h => h) (Or.inl ⟨by rfl, ?_⟩) ?_ ?_
     rotate_left
     ·intro w'
      go_simp
      with_reducible rfl
     rotate_left
     ·simp only [Act.put, List.setIfInBounds_toArray, List.set_cons_zero, List.set_cons_succ, i64_w, i32_w]
      rfl
     refine pure_ (i := 2) (N := some 14) (v := ?_) (a' := ?_) #[false, true, true, false, false, false, false] rfl rfl (by kernel_rfl) (fun _ _ _ h => h) (Or.inl ⟨by rfl, ?_⟩) ?_ ?_
     rotate_left
     ·intro w'
      go_simp
      with_reducible rfl
     rotate_left
     ·simp only [Act.put, List.setIfInBounds_toArray, List.set_cons_zero, List.set_cons_succ, i64_w, i32_w]
      rfl
     refine pure_ (i := 3) (N := some 15) (v := ?_) (a' := ?_) #[false, true, true, true, false, false, false] rfl rfl (by kernel_rfl) (fun _ _ _ h => h) (Or.inl ⟨by rfl, ?_⟩) ?_ ?_
     rotate_left
     ·intro w'
      go_simp
      with_reducible rfl
     rotate_left
     ·simp only [Act.put, List.setIfInBounds_toArray, List.set_cons_zero, List.set_cons_succ, i64_w, i32_w]
      rfl
     refine take_ (i := 0) (N := some 12) (v := ?_) (a' := ?_) #[true, true, true, true, false, false, false] rfl rfl (by kernel_rfl) (fun _ _ _ h => h) (Or.inl ⟨by rfl, ?_⟩) hHeld ?_ ?_
     rotate_left
     ·rintro w' ⟨s0, s1, s2, s3, s4, s5, s6⟩
      go_simp
      with_reducible rfl
     rotate_left
     ·simp only [Act.put, List.setIfInBounds_toArray, List.set_cons_zero, List.set_cons_succ, i64_w, i32_w]
      rfl
     refine take_ (i := 4) (N := some 16) (v := ?_) (a' := ?_) #[true, true, true, true, true, false, false] rfl rfl (by kernel_rfl) (fun _ _ _ h => h) (Or.inl ⟨by rfl, ?_⟩) hHeld ?_ ?_
     rotate_left
     ·rintro w' ⟨s0, s1, s2, s3, s4, s5, s6⟩
      go_simp
      with_reducible rfl
     rotate_left
     ·simp only [Act.put, List.setIfInBounds_toArray, List.set_cons_zero, List.set_cons_succ, i64_w, i32_w]
      rfl
     refine one_ (i := 5) (N := some 17) #[true, true, true, true, true, true, false] rfl rfl (by kernel_rfl) (by decide) (fun K hK => ?_)
     refine goes_ Try.func22 (by kernel_rfl) rfl #[.agg #[.slice Ao10 x232000_1.length co10, .int .i64 x232001_1, .bool x232002_1, .int .i64 x232003_1, .slice Ao11 x232004_1.length co11, .int .i64 x232005_1], .int .u8 (rd l1 x5_1)] (by rfl) rfl rfl (by (try simp only [List.map_toArray, List.map_cons, List.map_nil]); first | done | rfl | (simp only [List.length_drop, List.length_take]; rfl)) ?_
     with_reducible refine (lapidaryref03_Step.calls k1 (fun k_ => some k_ = (.slice Ao10 x232000_1.length co10 : Value).ownBlock) (.slice Ao10 x232000_1.length co10) x232000_1 x232001_1 x232002_1 x232003_1 (fun k_ => (((P0_0_ k_ ∨ P0_4_ k_) ∨ w.heap.size ≤ k_) ∧ (some k_ ≠ (.slice Ao10 x232000_1.length co10 : Value).ownBlock ∧ (k_ ≠ gb231 ∧ k_ ≠ gb232)))) _ _ x232004_1 x232005_1 (rd l1 x5_1) t234 t237 t238 t239 t240 t243 w0 _ ?side1 ?side2 ?side3 A8.out).mono ?_
     (case side1 => repeat (first | (with_reducible first | exact HB.out | apply below_alloc | apply pw_below_drewN | apply below_drew1 | refine below_set ?_ GE231.out | refine below_set ?_ GE232.out) | exact HB.out))
     (case side2 => exact Kd.R_tight rfl HO_232000.out)
     (case side3 => exact Kd.V_mono (HO_232004.out) (fun k_ hk_ => ⟨hk_, hk_.2.1⟩))
     rintro e w12 ⟨v235, v241, rfl, ho0, ho1, hb, hkp⟩
     refine ⟨_, rfl, ?_⟩
     have n0_ := Aside0.mk (Kd.V_mono (ok' := fun k_ => ((P0_0_ k_ ∨ P0_4_ k_) ∨ w.heap.size ≤ k_) ∧ k_ ≠ gb231 ∧ k_ ≠ gb232 ∧ some k_ ≠ (v235 : Value).ownBlock) (Kd.V_keptB (HO_232004.out) hkp (fun k_ hk_ hs_ => (hk_.2.1) hs_)) (fun k_ hk_ => ⟨hk_.1.1, hk_.1.2.2.1, hk_.1.2.2.2, fun e_ => Or.elim (ho0.1 k_ e_.symm) (fun hs_ => hk_.2.1 hs_) (fun hn_ => Nat.not_le.2 hk_.2.2 hn_)⟩))
     have n1_ := Aside0.mk (blk_kept (bK BK231) hkp (fun hs_ => (fun e_ => (Kd.R_ne HO_232000.out BK231.out (by decide)) e_) hs_))
     have n2_ := Aside0.mk (blk_kept (bK BK232) hkp (fun hs_ => (fun e_ => (Kd.R_ne HO_232000.out BK232.out (by decide)) e_) hs_))
     have n3_ := Aside0.mk (Kd.R_mono (ok' := fun k_ => (P0_0_ k_ ∨ w.heap.size ≤ k_)) ho0 (fun k_ hk_ => Or.elim hk_ (fun hs_ => (HO_232000.out.1 k_ (hs_).symm)) (fun hn_ => (.inr (Nat.le_trans (by first | exact HK.out.1 | exact (show Kept w _ (fun k_ => P0_0_ k_) from by repeat (first | (with_reducible first | exact HK.out | apply Kept.alloc | apply Kept.drewN | apply Kept.drew | refine Kept.setCell ?_ (.inr GW231.out) _ | refine Kept.setCell ?_ (.inr GW232.out) _) | exact HK.out)).1) hn_)))))
     have n4_ := Aside0.mk (Kd.V_mono (ok' := fun k_ => ((P0_0_ k_ ∨ P0_4_ k_) ∨ w.heap.size ≤ k_) ∧ some k_ ≠ (v235 : Value).ownBlock ∧ k_ ≠ gb231 ∧ k_ ≠ gb232) ho1 (fun k_ hk_ => ⟨Or.elim hk_.1 (fun hs_ => Or.elim hs_ (fun hs_ => (Or.imp_left (fun h_ => (.inl h_)) ((HO_232000.out.1 k_ (hs_).symm)))) (fun hs_ => hs_.1)) (fun hn_ => (.inr (Nat.le_trans (by first | exact HK.out.1 | exact (show Kept w _ (fun k_ => P0_0_ k_) from by repeat (first | (with_reducible first | exact HK.out | apply Kept.alloc | apply Kept.drewN | apply Kept.drew | refine Kept.setCell ?_ (.inr GW231.out) _ | refine Kept.setCell ?_ (.inr GW232.out) _) | exact HK.out)).1) hn_))), hk_.2, Or.elim hk_.1 (fun hs_ => Or.elim hs_ (fun hs_ => fun e_ => (Kd.R_ne HO_232000.out BK231.out (by decide)) (by rw [← e_]; exact hs_)) (fun hs_ => hs_.2.2.1)) (fun hn_ => (Kd.freshB (g := gb231) (o := .cells #[.slice Ao10 x232000_1.length co10, .int .i64 x232001_1, .bool x232002_1, .int .i64 x232003_1, .slice Ao11 x232004_1.length co11, .int .i64 x232005_1] 28 (0, 0)) (bK BK231) k_ hn_)), Or.elim hk_.1 (fun hs_ => Or.elim hs_ (fun hs_ => fun e_ => (Kd.R_ne HO_232000.out BK232.out (by decide)) (by rw [← e_]; exact hs_)) (fun hs_ => hs_.2.2.2)) (fun hn_ => (Kd.freshB (g := gb232) (o := .cells #[.slice none 0 0, .int .i64 0, .bool false, .int .i64 0, .slice none 0 0, .int .i64 0] 28 (0, 0)) (bK BK232) k_ hn_))⟩))
     have n5_ := Aside0.mk (Kept.then_ (S := (fun k_ => P0_0_ k_)) (by repeat (first | (with_reducible first | exact HK.out | apply Kept.alloc | apply Kept.drewN | apply Kept.drew | refine Kept.setCell ?_ (.inr GW231.out) _ | refine Kept.setCell ?_ (.inr GW232.out) _) | exact HK.out)) hkp (fun k_ hs_ => (fun e_ => (HO_232000.out.1 k_ e_.symm)) hs_))
     have n6_ := Aside0.mk (hb)
     clear HO_232004
     clear BK231
     clear BK232
     clear HK
     clear HB
     clear HO_232000
     have HO_232004 := n0_
     have BK231 := n1_
     have BK232 := n2_
     have HO236 := n3_
     have HO242 := n4_
     have HK := n5_
     have HB := n6_
     clear n0_ n1_ n2_ n3_ n4_ n5_ n6_
     (try clear hb)
     (try clear hkp)
     (try clear ho0)
     (try clear ho1)
     obtain ⟨Ao13, co13, eo13⟩ := Kd.R_slice HO236.out
     (first | subst eo13 | (injection eo13 with f1_ f2_ f3_; have f4_ := f1_.symm; have f5_ := f3_.symm; clear f1_ f2_ f3_; subst f4_; subst f5_))
     obtain ⟨Ao18, co18, eo18⟩ := Kd.V_slice HO242.out
     (first | subst eo18 | (injection eo18 with f1_ f2_ f3_; have f4_ := f1_.symm; have f5_ := f3_.symm; clear f1_ f2_ f3_; subst f4_; subst f5_))
     refine hK.out _ _ ⟨(blk_cell BK231.out 0).trans rfl, (blk_cell BK231.out 1).trans rfl, (blk_cell BK231.out 2).trans rfl, (blk_cell BK231.out 3).trans rfl, (blk_cell BK231.out 4).trans rfl, (blk_cell BK231.out 5).trans rfl, (Kd.foot_int (HR1.out _ (by repeat (first | exact HK.out | apply Kept.alloc | apply Kept.drewN | apply Kept.drew | refine Kept.setCell ?_ (.inr GW231.out) _ | refine Kept.setCell ?_ (.inr GW231.out) _ | refine Kept.setCell ?_ (.inr GW231.out) _ | refine Kept.setCell ?_ (.inr GW231.out) _ | refine Kept.setCell ?_ (.inr GW231.out) _ | refine Kept.setCell ?_ (.inr GW231.out) _))) x5_1 (of_eq_true p233) (of_eq_true q233))⟩ (fun hHeld => ?_)
     clear hK K
     refine norm_ (a' := ?_) ?_ ?_
     rotate_left
     ·show Act.put _ (some 17) _ = _
      simp only [Act.put, List.setIfInBounds_toArray, List.set_cons_zero, List.set_cons_succ, i64_w, i32_w]
      rfl
     refine last_ (i := 6) (N := none) #[true, true, true, true, true, true, true] rfl rfl (by kernel_rfl) (by decide) (fun K hK => ?_)
     have hs14 : w12.cell? ⟨gb231, 0, none⟩ = some (.slice Ao10 x232000_1.length co10) := (blk_cell BK231.out 0).trans rfl
     have hfs14 := blk_frozen BK231.out 0
     have hns14_1 := NB232_231.out
     have hms14_1 := NB231_232.out
     have hs15 : w12.cell? ⟨gb231, 1, none⟩ = some (.int .i64 x232001_1) := (blk_cell BK231.out 1).trans rfl
     have hfs15 := blk_frozen BK231.out 1
     have hns15_1 := NB232_231.out
     have hms15_1 := NB231_232.out
     have hs16 : w12.cell? ⟨gb231, 2, none⟩ = some (.bool x232002_1) := (blk_cell BK231.out 2).trans rfl
     have hfs16 := blk_frozen BK231.out 2
     have hns16_1 := NB232_231.out
     have hms16_1 := NB231_232.out
     have hs17 : w12.cell? ⟨gb231, 3, none⟩ = some (.int .i64 x232003_1) := (blk_cell BK231.out 3).trans rfl
     have hfs17 := blk_frozen BK231.out 3
     have hns17_1 := NB232_231.out
     have hms17_1 := NB231_232.out
     have hs19 : w12.cell? ⟨gb231, 4, none⟩ = some (.slice Ao11 x232004_1.length co11) := (blk_cell BK231.out 4).trans rfl
     have hfs19 := blk_frozen BK231.out 4
     have hns19_1 := NB232_231.out
     have hms19_1 := NB231_232.out
     have hs20 : w12.cell? ⟨gb231, 5, none⟩ = some (.int .i64 x232005_1) := (blk_cell BK231.out 5).trans rfl
     have hfs20 := blk_frozen BK231.out 5
     have hns20_1 := NB232_231.out
     have hms20_1 := NB231_232.out
     refine skip_ (w1 := ?_) (by rfl) rfl ?_ ?_
     rotate_left
     ·go_simp
      rfl
     refine hK.out _ _ ?_
     clear hK K
     refine done_ (by kernel_rfl) ?_
     try go_wp2
     go_roundg k1
     case measure => have := HK1.out; omega
     case rel => exact ⟨(wrap64 (x5_1 + 1)), (t234), (t237), (t238), (t239), (t240), (t243), (.slice Ao13 t234.length co13), (.slice Ao18 t240.length co18), (by first | rfl | (simp; done) | (simp [*]; done)), H', ⟨by have := HK1.out; omega⟩, ⟨by (with_reducible repeat (first | apply Kd.R_alloc | apply Kd.R_drewN | apply Kd.R_drew)); exact Kd.R_mono (Kd.R_far (p := ⟨gb231, 5, none⟩) (Kd.R_far (p := ⟨gb231, 4, none⟩) (Kd.R_far (p := ⟨gb231, 3, none⟩) (Kd.R_far (p := ⟨gb231, 2, none⟩) (Kd.R_far (p := ⟨gb231, 1, none⟩) (Kd.R_far (p := ⟨gb231, 0, none⟩) (Kd.R_types HO236.out BK231.out (by decide)) (fun _ hk => hk.2) (.slice Ao13 t234.length co13)) (fun _ hk => hk.2) (.int .i64 t237)) (fun _ hk => hk.2) (.bool t238)) (fun _ hk => hk.2) (.int .i64 t239)) (fun _ hk => hk.2) (.slice Ao18 t240.length co18)) (fun _ hk => hk.2) (.int .i64 t243)) (fun _ hk => hk.1)⟩, ⟨by (with_reducible repeat (first | apply Kd.V_alloc | apply Kd.V_drewN | apply Kd.V_drew)); exact Kd.V_mono (Kd.V_far (p := ⟨gb231, 5, none⟩) (Kd.V_far (p := ⟨gb231, 4, none⟩) (Kd.V_far (p := ⟨gb231, 3, none⟩) (Kd.V_far (p := ⟨gb231, 2, none⟩) (Kd.V_far (p := ⟨gb231, 1, none⟩) (Kd.V_far (p := ⟨gb231, 0, none⟩) (Kd.V_mono HO242.out (fun k_ hk => (⟨hk, hk.2.2.1⟩ : _ ∧ k_ ≠ gb231))) (fun _ hk => hk.2) (.slice Ao13 t234.length co13)) (fun _ hk => hk.2) (.int .i64 t237)) (fun _ hk => hk.2) (.bool t238)) (fun _ hk => hk.2) (.int .i64 t239)) (fun _ hk => hk.2) (.slice Ao18 t240.length co18)) (fun _ hk => hk.2) (.int .i64 t243)) (fun _ hk => ⟨hk.1.1, ⟨hk.1.2.1, ⟨hk.1.2.2.1, hk.1.2.2.2⟩⟩⟩)⟩, ⟨by (with_reducible repeat (first | refine blk_drewN ?_ _ | refine blk_drew ?_ | refine blk_alloc ?_ _)); refine blk_put (cs := #[.slice Ao13 t234.length co13, .int .i64 t237, .bool t238, .int .i64 t239, .slice Ao18 t240.length co18, .int .i64 x232005_1]) ?_ 5 _ rfl; (with_reducible repeat (first | refine blk_drewN ?_ _ | refine blk_drew ?_ | refine blk_alloc ?_ _)); refine blk_put (cs := #[.slice Ao13 t234.length co13, .int .i64 t237, .bool t238, .int .i64 t239, .slice Ao11 x232004_1.length co11, .int .i64 x232005_1]) ?_ 4 _ rfl; (with_reducible repeat (first | refine blk_drewN ?_ _ | refine blk_drew ?_ | refine blk_alloc ?_ _)); refine blk_put (cs := #[.slice Ao13 t234.length co13, .int .i64 t237, .bool t238, .int .i64 x232003_1, .slice Ao11 x232004_1.length co11, .int .i64 x232005_1]) ?_ 3 _ rfl; (with_reducible repeat (first | refine blk_drewN ?_ _ | refine blk_drew ?_ | refine blk_alloc ?_ _)); refine blk_put (cs := #[.slice Ao13 t234.length co13, .int .i64 t237, .bool x232002_1, .int .i64 x232003_1, .slice Ao11 x232004_1.length co11, .int .i64 x232005_1]) ?_ 2 _ rfl; (with_reducible repeat (first | refine blk_drewN ?_ _ | refine blk_drew ?_ | refine blk_alloc ?_ _)); refine blk_put (cs := #[.slice Ao13 t234.length co13, .int .i64 x232001_1, .bool x232002_1, .int .i64 x232003_1, .slice Ao11 x232004_1.length co11, .int .i64 x232005_1]) ?_ 1 _ rfl; (with_reducible repeat (first | refine blk_drewN ?_ _ | refine blk_drew ?_ | refine blk_alloc ?_ _)); refine blk_put (cs := #[.slice Ao10 x232000_1.length co10, .int .i64 x232001_1, .bool x232002_1, .int .i64 x232003_1, .slice Ao11 x232004_1.length co11, .int .i64 x232005_1]) ?_ 0 _ rfl; (with_reducible repeat (first | refine blk_drewN ?_ _ | refine blk_drew ?_ | refine blk_alloc ?_ _)); exact BK231.out⟩, ⟨bK BK232⟩, ⟨by repeat (first | (with_reducible first | exact HK.out | apply Kept.alloc | apply Kept.drewN | apply Kept.drew | refine Kept.setCell ?_ (.inr GW231.out) _ | refine Kept.setCell ?_ (.inr GW232.out) _) | exact HK.out)⟩, ⟨ bH HB⟩⟩
    ·rw [if_neg c7] at H
     exact absurd H (by simp)
   ·rw [if_neg c6] at H
    have c6b0 : decide (x5_1 < (l1.length : Int)) = false := decide_eq_false c6
    clear c6
    simp only [Option.some.injEq, Prod.mk.injEq] at H
    obtain ⟨rfl, rfl, rfl, rfl, rfl, rfl⟩ := H
    have hnb21 := NB231_232.out
    have hnc21 := NB232_231.out
    have hcz22_0 : wr.cell? ⟨gb231, 0, none⟩ = some (u232000) := (blk_cell BK231.out 0).trans rfl
    have hcz22_1 : wr.cell? ⟨gb231, 1, none⟩ = some (.int .i64 x232001_1) := (blk_cell BK231.out 1).trans rfl
    have hcz22_2 : wr.cell? ⟨gb231, 2, none⟩ = some (.bool x232002_1) := (blk_cell BK231.out 2).trans rfl
    have hcz22_3 : wr.cell? ⟨gb231, 3, none⟩ = some (.int .i64 x232003_1) := (blk_cell BK231.out 3).trans rfl
    have hcz22_4 : wr.cell? ⟨gb231, 4, none⟩ = some (u232004) := (blk_cell BK231.out 4).trans rfl
    have hcz22_5 : wr.cell? ⟨gb231, 5, none⟩ = some (.int .i64 x232005_1) := (blk_cell BK231.out 5).trans rfl
    have hfz22_0 := blk_frozen BK231.out 0
    have hfz22_1 := blk_frozen BK231.out 1
    have hfz22_2 := blk_frozen BK231.out 2
    have hfz22_3 := blk_frozen BK231.out 3
    have hfz22_4 := blk_frozen BK231.out 4
    have hfz22_5 := blk_frozen BK231.out 5
    obtain ⟨Ao23, co23, eo23⟩ := Kd.R_slice HO_232000.out
    subst eo23
    have hcz24_0 : wr.cell? ⟨gb232, 0, none⟩ = some (.slice none 0 0) := (blk_cell BK232.out 0).trans rfl
    have hcz24_1 : wr.cell? ⟨gb232, 1, none⟩ = some (.int .i64 0) := (blk_cell BK232.out 1).trans rfl
    have hcz24_2 : wr.cell? ⟨gb232, 2, none⟩ = some (.bool false) := (blk_cell BK232.out 2).trans rfl
    have hcz24_3 : wr.cell? ⟨gb232, 3, none⟩ = some (.int .i64 0) := (blk_cell BK232.out 3).trans rfl
    have hcz24_4 : wr.cell? ⟨gb232, 4, none⟩ = some (.slice none 0 0) := (blk_cell BK232.out 4).trans rfl
    have hcz24_5 : wr.cell? ⟨gb232, 5, none⟩ = some (.int .i64 0) := (blk_cell BK232.out 5).trans rfl
    have hfz24_0 := blk_frozen BK232.out 0
    have hfz24_1 := blk_frozen BK232.out 1
    have hfz24_2 := blk_frozen BK232.out 2
    have hfz24_3 := blk_frozen BK232.out 3
    have hfz24_4 := blk_frozen BK232.out 4
    have hfz24_5 := blk_frozen BK232.out 5
    obtain ⟨Ao25, co25, eo25⟩ := Kd.V_slice HO_232004.out
    subst eo25
    go_wp2
    refine bodyPost_ret (results_cell_row rfl _ _ gb232 28 #[.slice Ao23 x232000_1.length co23, .int .i64 x232001_1, .bool x232002_1, .int .i64 x232003_1, .slice Ao25 x232004_1.length co25, .int .i64 x232005_1] (0, 0) _ rfl (by (with_reducible repeat (first | refine blk_drewN ?_ _ | refine blk_drew ?_ | refine blk_alloc ?_ _)); refine blk_put (cs := #[.slice Ao23 x232000_1.length co23, .int .i64 x232001_1, .bool x232002_1, .int .i64 x232003_1, .slice Ao25 x232004_1.length co25, .int .i64 0]) ?_ 5 _ rfl; (with_reducible repeat (first | refine blk_drewN ?_ _ | refine blk_drew ?_ | refine blk_alloc ?_ _)); refine blk_put (cs := #[.slice Ao23 x232000_1.length co23, .int .i64 x232001_1, .bool x232002_1, .int .i64 x232003_1, .slice none 0 0, .int .i64 0]) ?_ 4 _ rfl; (with_reducible repeat (first | refine blk_drewN ?_ _ | refine blk_drew ?_ | refine blk_alloc ?_ _)); refine blk_put (cs := #[.slice Ao23 x232000_1.length co23, .int .i64 x232001_1, .bool x232002_1, .int .i64 0, .slice none 0 0, .int .i64 0]) ?_ 3 _ rfl; (with_reducible repeat (first | refine blk_drewN ?_ _ | refine blk_drew ?_ | refine blk_alloc ?_ _)); refine blk_put (cs := #[.slice Ao23 x232000_1.length co23, .int .i64 x232001_1, .bool false, .int .i64 0, .slice none 0 0, .int .i64 0]) ?_ 2 _ rfl; (with_reducible repeat (first | refine blk_drewN ?_ _ | refine blk_drew ?_ | refine blk_alloc ?_ _)); refine blk_put (cs := #[.slice Ao23 x232000_1.length co23, .int .i64 0, .bool false, .int .i64 0, .slice none 0 0, .int .i64 0]) ?_ 1 _ rfl; (with_reducible repeat (first | refine blk_drewN ?_ _ | refine blk_drew ?_ | refine blk_alloc ?_ _)); refine blk_put (cs := #[.slice none 0 0, .int .i64 0, .bool false, .int .i64 0, .slice none 0 0, .int .i64 0]) ?_ 0 _ rfl; (with_reducible repeat (first | refine blk_drewN ?_ _ | refine blk_drew ?_ | refine blk_alloc ?_ _)); exact BK232.out) Try.underlying28 rfl (by kernel_rfl)) rfl ?_
    exact ⟨_, _, by first | rfl | (simp [errW_none, errW_some] <;> rfl) | (simp [*, errW_none, errW_some] <;> rfl), by (with_reducible repeat (first | apply Kd.R_alloc | apply Kd.R_drewN | apply Kd.R_drew)); exact Kd.R_mono (Kd.R_far (p := ⟨gb232, 5, none⟩) (Kd.R_far (p := ⟨gb232, 4, none⟩) (Kd.R_far (p := ⟨gb232, 3, none⟩) (Kd.R_far (p := ⟨gb232, 2, none⟩) (Kd.R_far (p := ⟨gb232, 1, none⟩) (Kd.R_far (p := ⟨gb232, 0, none⟩) (Kd.R_types HO_232000.out BK232.out (by decide)) (fun _ hk => hk.2) (.slice Ao23 x232000_1.length co23)) (fun _ hk => hk.2) (.int .i64 x232001_1)) (fun _ hk => hk.2) (.bool x232002_1)) (fun _ hk => hk.2) (.int .i64 x232003_1)) (fun _ hk => hk.2) (.slice Ao25 x232004_1.length co25)) (fun _ hk => hk.2) (.int .i64 x232005_1)) (fun _ hk => hk.1), by (with_reducible repeat (first | apply Kd.V_alloc | apply Kd.V_drewN | apply Kd.V_drew)); exact Kd.V_mono (Kd.V_far (p := ⟨gb232, 5, none⟩) (Kd.V_far (p := ⟨gb232, 4, none⟩) (Kd.V_far (p := ⟨gb232, 3, none⟩) (Kd.V_far (p := ⟨gb232, 2, none⟩) (Kd.V_far (p := ⟨gb232, 1, none⟩) (Kd.V_far (p := ⟨gb232, 0, none⟩) (Kd.V_mono HO_232004.out (fun k_ hk => (⟨hk, hk.2.2.2⟩ : _ ∧ k_ ≠ gb232))) (fun _ hk => hk.2) (.slice Ao23 x232000_1.length co23)) (fun _ hk => hk.2) (.int .i64 x232001_1)) (fun _ hk => hk.2) (.bool x232002_1)) (fun _ hk => hk.2) (.int .i64 x232003_1)) (fun _ hk => hk.2) (.slice Ao25 x232004_1.length co25)) (fun _ hk => hk.2) (.int .i64 x232005_1)) (fun _ hk => ⟨hk.1.1, hk.1.2.1⟩), bH HB, by repeat (first | (with_reducible first | exact HK.out | apply Kept.alloc | apply Kept.drewN | apply Kept.drew | refine Kept.setCell ?_ (.inr GW231.out) _ | refine Kept.setCell ?_ (.inr GW232.out) _) | exact HK.out)⟩

end Go.Proofs.Ytglmfnaofpbpfaa.P

namespace Go.Proofs.Ytglmfnaofpbpfaa.P
open Go.RowKit Go.Proofs.YtglmfnaofpbpfaaW.PrintWords Go.Proofs.YtglmfnaofpbpfaaW.PrintLast Go.Proofs.YtglmfnaofpbpfaaW.PrintMore Go.Proofs.Ytglmfnaofpbpfaa.X
attribute [local go_sem] max2_int min2_int max_two min_two max_three min_three max_four min_four   -- for this text's walks alone
set_option linter.unusedVariables false
set_option linter.unusedSimpArgs false

/-! ### lapidaryref04_Held: function 14 -/
mutual
def lapidaryref04_Held.j0 : Nat → Int → List Int → Int → Bool → Int → List (S48) → Int → Option (Int)
 | 0, _, _, _, _, _, _, _ => none
 | k + 1, x3, x245000, x245001, x245002, x245003, x245004, x245005 => lapidaryref04_Held.l0 k x3 0 x245000 x245001 x245002 x245003 x245004 x245005
def lapidaryref04_Held.l0 : Nat → Int → Int → List Int → Int → Bool → Int → List (S48) → Int → Option (Int)
 | 0, _, _, _, _, _, _, _, _ => none
 | k + 1, x3, x4, x245000, x245001, x245002, x245003, x245004, x245005 => if x4 < (x245004.length : Int) then (if 0 ≤ x4 then (lapidaryref04_Held.l0 k (wrap64 (x3 + (((rd_T48 x245004 x4).f1).length : Int))) (wrap64 (x4 + 1)) x245000 x245001 x245002 x245003 x245004 x245005) else (none)) else (some x3)
end
def lapidaryref04_Held.f (k : Nat) (l0_0 : List Int) (a0_1 : Int) (a0_2 : Bool) (a0_3 : Int) (l0_4 : List (S48)) (a0_5 : Int) : Option (Int) := if a0_2 = true then (lapidaryref04_Held.j0 k 0 l0_0 a0_1 a0_2 a0_3 l0_4 a0_5) else (lapidaryref04_Held.j0 k (l0_0.length : Int) l0_0 a0_1 a0_2 a0_3 l0_4 a0_5)
theorem lapidaryref04_Held.mono_l : ∀ k, (∀ y0 y1 y2 y3 y4 y5 y6, LeO (lapidaryref04_Held.j0 k y0 y1 y2 y3 y4 y5 y6) (lapidaryref04_Held.j0 (k + 1) y0 y1 y2 y3 y4 y5 y6)) ∧ (∀ y0 y1 y2 y3 y4 y5 y6 y7, LeO (lapidaryref04_Held.l0 k y0 y1 y2 y3 y4 y5 y6 y7) (lapidaryref04_Held.l0 (k + 1) y0 y1 y2 y3 y4 y5 y6 y7))
 | 0 => ⟨fun _ _ _ _ _ _ _ r h => by simp [lapidaryref04_Held.j0] at h, fun _ _ _ _ _ _ _ _ r h => by simp [lapidaryref04_Held.l0] at h⟩
 | k + 1 => by
  obtain ⟨ih0, ih1⟩ := lapidaryref04_Held.mono_l k
  refine ⟨?_, ?_⟩
  ·intro y0 y1 y2 y3 y4 y5 y6
   unfold lapidaryref04_Held.j0
   repeat' first
   | (with_reducible exact ih0 _ _ _ _ _ _ _)
   | (with_reducible exact ih1 _ _ _ _ _ _ _ _)
   | (with_reducible exact LeO.refl _)
   | (with_reducible exact LeO.none _)
   | (with_reducible refine LeO.ite ?_ ?_)
   | (with_reducible refine LeO.bind ?_ (fun _ => ?_))
   | exact ih0 _ _ _ _ _ _ _
   | exact ih1 _ _ _ _ _ _ _ _
   | exact LeO.none _
   | refine LeO.ite ?_ ?_
   | refine LeO.bind ?_ (fun _ => ?_)
  ·intro y0 y1 y2 y3 y4 y5 y6 y7
   unfold lapidaryref04_Held.l0
   repeat' first
   | (with_reducible exact ih0 _ _ _ _ _ _ _)
   | (with_reducible exact ih1 _ _ _ _ _ _ _ _)
   | (with_reducible exact LeO.refl _)
   | (with_reducible exact LeO.none _)
   | (with_reducible refine LeO.ite ?_ ?_)
   | (with_reducible refine LeO.bind ?_ (fun _ => ?_))
   | exact ih0 _ _ _ _ _ _ _
   | exact ih1 _ _ _ _ _ _ _ _
   | exact LeO.none _
   | refine LeO.ite ?_ ?_
   | refine LeO.bind ?_ (fun _ => ?_)
theorem lapidaryref04_Held.mono : ∀ a0 a1 a2 a3 a4 a5 k, LeO (lapidaryref04_Held.f k a0 a1 a2 a3 a4 a5) (lapidaryref04_Held.f (k + 1) a0 a1 a2 a3 a4 a5) := by
 intro a0 a1 a2 a3 a4 a5 k
 obtain ⟨ih0, ih1⟩ := lapidaryref04_Held.mono_l k
 unfold lapidaryref04_Held.f
 repeat' first
   | (with_reducible exact ih0 _ _ _ _ _ _ _)
   | (with_reducible exact ih1 _ _ _ _ _ _ _ _)
   | (with_reducible exact LeO.refl _)
   | (with_reducible exact LeO.none _)
   | (with_reducible refine LeO.ite ?_ ?_)
   | (with_reducible refine LeO.bind ?_ (fun _ => ?_))
   | exact ih0 _ _ _ _ _ _ _
   | exact ih1 _ _ _ _ _ _ _ _
   | exact LeO.none _
   | refine LeO.ite ?_ ?_
   | refine LeO.bind ?_ (fun _ => ?_)
set_option maxHeartbeats 8000000 in
set_option maxRecDepth 100000 in
theorem lapidaryref04_Held.calls (k : Nat) (A0_0 : Option Addr) (c0_0 : Nat) (l0_0 : List Int) (a0_1 : Int) (a0_2 : Bool) (a0_3 : Int) (A0_4 : Option Addr) (c0_4 : Nat) (l0_4 : List (S48)) (a0_5 : Int) (r : Int) (w : World) (hr0_0 : Kd.C (Kd.int .u8) w A0_0 l0_0.length l0_0) (hc0_0 : l0_0.length ≤ c0_0) (hr0_4 : Kd.C k48 w A0_4 l0_4.length l0_4) (hc0_4 : l0_4.length ≤ c0_4) (h : lapidaryref04_Held.f k l0_0 a0_1 a0_2 a0_3 l0_4 a0_5 = some r) :
  Calls Try.prog 14 #[.agg #[.slice A0_0 l0_0.length c0_0, .int .i64 a0_1, .bool a0_2, .int .i64 a0_3, .slice A0_4 l0_4.length c0_4, .int .i64 a0_5]] w fun e w' => e = .returned (.int .i64 r) ∧ Below w.heap.size w w' := by
 have hu28 := Try.underlying28
 have HR0_0 := Aside0.mk hr0_0
 have HC0_0 := Aside0.mk hc0_0
 clear hr0_0 hc0_0
 have HR0_4 := Aside0.mk hr0_4
 have HC0_4 := Aside0.mk hc0_4
 clear hr0_4 hc0_4
 have HB := Aside0.mk (Below.refl w.heap.size w)
 have H : (if a0_2 = true then (lapidaryref04_Held.j0 k 0 l0_0 a0_1 a0_2 a0_3 l0_4 a0_5) else (lapidaryref04_Held.j0 k (l0_0.length : Int) l0_0 a0_1 a0_2 a0_3 l0_4 a0_5)) = some r := h
 clear h
 have HC2 := Aside0.mk H
 clear H
 go_enter Try.func14, Try.ntmps14
 go_upto_if 9 with (first | ((with_reducible refine gate_dst (N := 1) rfl ?_); refine box_event ?hg (N := 1) ?hd (cs := #[.slice A0_0 l0_0.length c0_0, .int .i64 a0_1, .bool a0_2, .int .i64 a0_3, .slice A0_4 l0_4.length c0_4, .int .i64 a0_5]) (t := 28) ?hr ?_; (case hd => rfl); (case hg => rfl); (case hr => first | (go_simp; done) | (go_simp; rfl)); intro gb244 hg w3 hbox hb; have n0_ := Aside0.mk (below_step (bH HB) hb); have n1_ := Aside0.mk (hbox); have n2_ := Aside0.mk ((by rw [hg]; exact (below_size (bH HB)) : w.heap.size ≤ gb244)); have n3_ := n2_; clear HB; have HB := n0_; have BK244 := n1_; have GW244 := n2_; have GE244 := n3_; clear n0_ n1_ n2_ n3_; clear hb hbox hg; have hcz4_0 : w3.cell? ⟨gb244, 0, none⟩ = some (.slice A0_0 l0_0.length c0_0) := (blk_cell BK244.out 0).trans rfl; have hcz4_1 : w3.cell? ⟨gb244, 1, none⟩ = some (.int .i64 a0_1) := (blk_cell BK244.out 1).trans rfl; have hcz4_2 : w3.cell? ⟨gb244, 2, none⟩ = some (.bool a0_2) := (blk_cell BK244.out 2).trans rfl; have hcz4_3 : w3.cell? ⟨gb244, 3, none⟩ = some (.int .i64 a0_3) := (blk_cell BK244.out 3).trans rfl; have hcz4_4 : w3.cell? ⟨gb244, 4, none⟩ = some (.slice A0_4 l0_4.length c0_4) := (blk_cell BK244.out 4).trans rfl; have hcz4_5 : w3.cell? ⟨gb244, 5, none⟩ = some (.int .i64 a0_5) := (blk_cell BK244.out 5).trans rfl; have hfz4_0 := blk_frozen BK244.out 0; have hfz4_1 := blk_frozen BK244.out 1; have hfz4_2 := blk_frozen BK244.out 2; have hfz4_3 := blk_frozen BK244.out 3; have hfz4_4 := blk_frozen BK244.out 4; have hfz4_5 := blk_frozen BK244.out 5))
 (try simp only [Act.put, List.setIfInBounds_toArray, List.set_cons_zero, List.set_cons_succ])
 go_cut [3] (fun v3 wc => ∃ (kq : Nat) (x3_1 : Int), v3 = .int .i64 x3_1 ∧ Aside0 (lapidaryref04_Held.j0 kq x3_1 l0_0 a0_1 a0_2 a0_3 l0_4 a0_5 = some r) ∧ Aside0 (kq ≤ k) ∧ Aside0 (wc.heap[gb244]? = some (.cells #[(.slice A0_0 l0_0.length c0_0), .int .i64 a0_1, .bool a0_2, .int .i64 a0_3, (.slice A0_4 l0_4.length c0_4), .int .i64 a0_5] 28 (0, 0))) ∧ Aside0 (Below w.heap.size w wc))
 case first =>
  have H := HC2.out
  clear HC2
  by_cases c5 : a0_2 = true
  ·subst c5
   have H1 : (lapidaryref04_Held.j0 k 0 l0_0 a0_1 true a0_3 l0_4 a0_5) = some r := by rw [if_pos rfl] at H; exact H
   clear H
   have H := H1
   clear H1
   have H' := Aside0.mk H
   clear H
   go_wp2
   go_meet
   case rel => exact ⟨_, (0), (by first | rfl | (simp; done) | (simp [*]; done)), H', ⟨by first | omega | exact Nat.le_refl _⟩, ⟨bK BK244⟩, ⟨ bH HB⟩⟩
  ·replace c5 := Bool.eq_false_iff.mpr c5
   subst c5
   have H1 : (lapidaryref04_Held.j0 k (l0_0.length : Int) l0_0 a0_1 false a0_3 l0_4 a0_5) = some r := by rw [if_neg (show ¬ (false = true) by decide)] at H; exact H
   clear H
   have H := H1
   clear H1
   have H' := Aside0.mk H
   clear H
   go_wp2
   go_meet
   case rel => exact ⟨_, ((l0_0.length : Int)), (by first | rfl | (simp; done) | (simp [*]; done)), H', ⟨by first | omega | exact Nat.le_refl _⟩, ⟨bK BK244⟩, ⟨ bH HB⟩⟩
 case rest =>
  clear HC2
  try clear c1
  try clear p2
  try clear c5
  try clear hcz4_0
  try clear hcz4_1
  try clear hcz4_2
  try clear hcz4_3
  try clear hcz4_4
  try clear hcz4_5
  try clear hfz4_0
  try clear hfz4_1
  try clear hfz4_2
  try clear hfz4_3
  try clear hfz4_4
  try clear hfz4_5
  obtain ⟨kq, x3_1, rfl, HA, HJ1, BK244, HB⟩ := hcut
  cases kq with
  | zero => exact absurd HA.out (by simp [lapidaryref04_Held.j0])
  | succ kj1 =>
   have H := HA.out
   clear HA
   simp only [lapidaryref04_Held.j0] at H
   have H' := Aside0.mk H
   clear H
   go_wp2
   go_loopg [3, 4] kj1 (fun kq v3 v4 w' => ∃ (x3_2 : Int) (x4_2 : Int), v3 = .int .i64 x3_2 ∧ v4 = .int .i64 x4_2 ∧ Aside0 (lapidaryref04_Held.l0 kq x3_2 x4_2 l0_0 a0_1 a0_2 a0_3 l0_4 a0_5 = some r) ∧ Aside0 (kq ≤ kj1) ∧ Aside0 (w'.heap[gb244]? = some (.cells #[(.slice A0_0 l0_0.length c0_0), .int .i64 a0_1, .bool a0_2, .int .i64 a0_3, (.slice A0_4 l0_4.length c0_4), .int .i64 a0_5] 28 (0, 0))) ∧ Aside0 (Below w.heap.size w w'))
   case atStart => exact ⟨(x3_1), (0), (by first | rfl | (simp; done) | (simp [*]; done)), (by first | rfl | (simp; done) | (simp [*]; done)), H', ⟨Nat.le_refl _⟩, ⟨bK BK244⟩, ⟨ bH HB⟩⟩
   case round =>
    clear H'
    try clear c1
    try clear p2
    try clear c5
    try clear hcz4_0
    try clear hcz4_1
    try clear hcz4_2
    try clear hcz4_3
    try clear hcz4_4
    try clear hcz4_5
    try clear hfz4_0
    try clear hfz4_1
    try clear hfz4_2
    try clear hfz4_3
    try clear hfz4_4
    try clear hfz4_5
    try clear p2
    obtain ⟨x3_2, x4_2, rfl, rfl, HA, HK2, BK244, HB⟩ := hrel
    cases gk with
    | zero => exact absurd HA.out (by simp [lapidaryref04_Held.l0])
    | succ k2 =>
     have H := HA.out
     clear HA
     simp only [lapidaryref04_Held.l0] at H
     by_cases c6 : x4_2 < (l0_4.length : Int)
     ·rw [if_pos c6] at H
      have c6b0 : decide (x4_2 < (l0_4.length : Int)) = true := decide_eq_true c6
      clear c6
      by_cases c7 : 0 ≤ x4_2
      ·rw [if_pos c7] at H
       have c7b0 : decide (0 ≤ x4_2) = true := decide_eq_true c7
       clear c7
       have H' := Aside0.mk H
       clear H
       have hcz8_0 : wr.cell? ⟨gb244, 0, none⟩ = some (.slice A0_0 l0_0.length c0_0) := (blk_cell BK244.out 0).trans rfl
       have hcz8_1 : wr.cell? ⟨gb244, 1, none⟩ = some (.int .i64 a0_1) := (blk_cell BK244.out 1).trans rfl
       have hcz8_2 : wr.cell? ⟨gb244, 2, none⟩ = some (.bool a0_2) := (blk_cell BK244.out 2).trans rfl
       have hcz8_3 : wr.cell? ⟨gb244, 3, none⟩ = some (.int .i64 a0_3) := (blk_cell BK244.out 3).trans rfl
       have hcz8_4 : wr.cell? ⟨gb244, 4, none⟩ = some (.slice A0_4 l0_4.length c0_4) := (blk_cell BK244.out 4).trans rfl
       have hcz8_5 : wr.cell? ⟨gb244, 5, none⟩ = some (.int .i64 a0_5) := (blk_cell BK244.out 5).trans rfl
       have hfz8_0 := blk_frozen BK244.out 0
       have hfz8_1 := blk_frozen BK244.out 1
       have hfz8_2 := blk_frozen BK244.out 2
       have hfz8_3 := blk_frozen BK244.out 3
       have hfz8_4 := blk_frozen BK244.out 4
       have hfz8_5 := blk_frozen BK244.out 5
       have p245 : 0 ≤ (x4_2 : Int) := of_decide_eq_true (by first | (with_reducible assumption) | assumption)
       have q245 : x4_2 < (l0_4.length : Int) := of_decide_eq_true (by first | (with_reducible assumption) | assumption)
       obtain ⟨ad245, A245_1, c245_1, e245, hx245_0, hx245_1, hl245_1, hi245_1⟩ := at_T48 HR0_4.out x4_2 p245 q245
       cases e245
       replace hx245_0 := (HB.out.cell (World.block_lt_of_cell? w _ hx245_0)).trans hx245_0
       replace hx245_1 := (HB.out.cell (World.block_lt_of_cell? w _ hx245_1)).trans hx245_1
       have HR245_1 := Aside0.mk hi245_1
       have HC245_1 := Aside0.mk hl245_1
       clear hi245_1 hl245_1
       replace p245 := eq_true p245
       replace q245 := eq_true q245
       go_wp2
       go_roundg k2
       case measure => have := HJ1.out; have := HK2.out; omega
       case rel => exact ⟨(wrap64 (x3_2 + (((rd_T48 l0_4 x4_2).f1).length : Int))), (wrap64 (x4_2 + 1)), (by first | rfl | (simp; done) | (simp [*]; done)), (by first | rfl | (simp; done) | (simp [*]; done)), H', ⟨by have := HJ1.out; have := HK2.out; omega⟩, ⟨bK BK244⟩, ⟨ bH HB⟩⟩
      ·rw [if_neg c7] at H
       exact absurd H (by simp)
     ·rw [if_neg c6] at H
      have c6b0 : decide (x4_2 < (l0_4.length : Int)) = false := decide_eq_false c6
      clear c6
      obtain rfl := Option.some.inj H
      have hcz9_0 : wr.cell? ⟨gb244, 0, none⟩ = some (.slice A0_0 l0_0.length c0_0) := (blk_cell BK244.out 0).trans rfl
      have hcz9_1 : wr.cell? ⟨gb244, 1, none⟩ = some (.int .i64 a0_1) := (blk_cell BK244.out 1).trans rfl
      have hcz9_2 : wr.cell? ⟨gb244, 2, none⟩ = some (.bool a0_2) := (blk_cell BK244.out 2).trans rfl
      have hcz9_3 : wr.cell? ⟨gb244, 3, none⟩ = some (.int .i64 a0_3) := (blk_cell BK244.out 3).trans rfl
      have hcz9_4 : wr.cell? ⟨gb244, 4, none⟩ = some (.slice A0_4 l0_4.length c0_4) := (blk_cell BK244.out 4).trans rfl
      have hcz9_5 : wr.cell? ⟨gb244, 5, none⟩ = some (.int .i64 a0_5) := (blk_cell BK244.out 5).trans rfl
      have hfz9_0 := blk_frozen BK244.out 0
      have hfz9_1 := blk_frozen BK244.out 1
      have hfz9_2 := blk_frozen BK244.out 2
      have hfz9_3 := blk_frozen BK244.out 3
      have hfz9_4 := blk_frozen BK244.out 4
      have hfz9_5 := blk_frozen BK244.out 5
      go_wp2
      go_ret
      exact ⟨by first | rfl | (simp [errW_none, errW_some] <;> rfl) | (simp [*, errW_none, errW_some] <;> rfl), bH HB⟩

end Go.Proofs.Ytglmfnaofpbpfaa.P

namespace Go.Proofs.Ytglmfnaofpbpfaa.Hf
set_option linter.unusedVariables false
set_option linter.unusedSimpArgs false
open Go Go.RowKit Go.Proofs.Ytglmfnaofpbpfaa.P Go.Proofs.Ytglmfnaofpbpfaa.C Go.Proofs.Ytglmfnaofpbpfaa.Fv Go.Proofs.YtglmfnaofpbpfaaW.PrintWords Go.Proofs.YtglmfnaofpbpfaaW.PrintLast Go.Proofs.YtglmfnaofpbpfaaW.PrintMore

def cutV : List Int → List Int → List (List Int)
  | b, [] => [b]
  | b, a :: l => b.take (min a.toNat b.length) :: cutV (b.drop (min a.toNat b.length)) l
theorem cut_flat : ∀ (l b : List Int), (cutV b l).flatten = b
  | [], b => by simp [cutV]
  | a :: l, b => by rw [cutV, List.flatten_cons, cut_flat l, List.take_append_drop]
theorem cut_len : ∀ (l b : List Int), (cutV b l).length = l.length + 1
  | [], b => rfl
  | a :: l, b => by rw [cutV, List.length_cons, cut_len l, List.length_cons]
theorem cut_wf (l b : List Int) (h : ∀ c ∈ b, 0 ≤ c ∧ c ≤ 255) : ∀ x ∈ cutV b l, ∀ c ∈ x, 0 ≤ c ∧ c ≤ 255 := fun x hx c hc => h c (by
  rw [← cut_flat l b]
  exact List.mem_flatten.2 ⟨x, hx, hc⟩)
theorem mn_cut (a : Int) (b : List Int) (h : 0 ≤ a ∧ a ≤ 255) : mn (wrap64 a) (b.length : Int) = ((min a.toNat b.length : Nat) : Int) := by
  rw [w64 (by omega) (by omega)]
  unfold mn
  split <;> omega
theorem cut_ev (b l : List Int) (hl : ∀ c ∈ l, 0 ≤ c ∧ c ≤ 255) (hn : l.length ≤ 100000) : Ev (fun k => lapidaryref04_Cut.f k b l) (cutV b l) := by
  have key : ∀ (m i : Nat) (x : List Int) (acc : List (List Int)), i + m = l.length → acc.length = i → Ev (fun k => lapidaryref04_Cut.l0 k x l acc (i : Int)) (acc ++ cutV x (l.drop i)) := by
    intro m
    induction m with
    | zero =>
      intro i x acc hi ha
      refine Ev.step (f := fun _ => some (acc ++ [x])) (fun k => ?_) (by rw [List.drop_of_length_le (by omega)]; exact Ev.now _)
      unfold lapidaryref04_Cut.l0
      rw [if_neg (by omega), if_pos (by omega)]
    | succ m ih =>
      intro i x acc hi ha
      have hlt : i < l.length := by omega
      have hw := hl _ (List.getElem_mem hlt)
      have hrd : rd l (i : Int) = l[i] := by simp [rd, List.getD, List.getElem?_eq_getElem hlt]
      refine Ev.step (f := fun k => lapidaryref04_Cut.l0 k (x.drop (min l[i].toNat x.length)) l (acc ++ [x.take (min l[i].toNat x.length)]) ((i + 1 : Nat) : Int)) (fun k => ?_) ?_
      · conv => lhs; unfold lapidaryref04_Cut.l0
        rw [if_pos (by omega), if_pos (by omega), hrd, mn_cut _ _ hw, if_pos (by omega), if_pos (by omega), if_pos (by omega), Int.toNat_natCast, w64 (by omega) (by omega)]
        rfl
      · have := ih (i + 1) (x.drop (min l[i].toNat x.length)) (acc ++ [x.take (min l[i].toNat x.length)]) (by omega) (by rw [List.length_append, ha]; rfl)
        rw [List.drop_eq_getElem_cons hlt, cutV]
        rw [List.append_assoc] at this
        exact this
  have := key l.length 0 b [] (by omega) rfl
  rwa [List.nil_append, List.drop_zero] at this
theorem cell_at {w W : World} {a : Addr} (h : W.heap[a.block]? = w.heap[a.block]?) : W.cell? a = w.cell? a := by
  unfold World.cell?
  rw [h]
/-- Chunks in memory that the feeder does not touch. -/
theorem rows_N {P ok : Nat → Prop} {w : World} {base c n : Nat} {A : Option Addr} {ls : List (List Int)} (h : Kd.N (Kd.slice 5 (Kd.int .u8)) 22 w base ok (.slice A n c) ls) (hd : ∀ k, ok k → k < w.heap.size → ¬ P k) : Rows P w A ls := by
  intro i hi
  have hall : ∀ W, Kept w W P → Kd.C (Kd.slice 5 (Kd.int .u8)) W A ls.length ls := fun W hW => (Kd.N_reads' (Kd.N_step h (fun k hk hlt => hW.2 k hlt (hd k hk hlt)))).2.2
  obtain ⟨ad, A1, c1, e, h1, h2, h3⟩ := row_at w A ls (hall w (Kept.refl _ _)) i hi
  subst e
  have hown : ok ad.block ∧ ad.block < w.heap.size := by
    have := World.block_lt_of_cell? w _ h1
    have e1 : (ad.add i).block = ad.block := by unfold Addr.add; split <;> rfl
    rw [e1] at this
    exact ⟨h.1 _ rfl, this⟩
  refine ⟨ad, A1, c1, rfl, h2, fun W hW => ?_⟩
  obtain ⟨ad', A2, c2, e, g1, g2, g3⟩ := row_at W _ ls (hall W hW) i hi
  injection e with e
  subst e
  have e2 : W.cell? (ad.add i) = w.cell? (ad.add i) := by
    apply cell_at
    have e1 : (ad.add i).block = ad.block := by unfold Addr.add; split <;> rfl
    rw [e1]
    exact hW.2 _ hown.2 (hd _ hown.1 hown.2)
  rw [e2, h1] at g1
  injection g1 with g1
  injection g1 with q1 _ q3
  subst q1; subst q3
  exact ⟨e2.trans h1, g3⟩
end Go.Proofs.Ytglmfnaofpbpfaa.Hf
