/- Written for this claim by a program of this session (a turned copy of the print): Go functions as Lean functions, and that the Go code comes to just these answers; or a statement proved out of them. No condition. -/
import Derived.Test.YtfbkjgedaadlmaaPx0
import Derived.Test.YtfbkjgedaadlmaaPx6
import Derived.Test.YtfbkjgedaadlmaaPx7
import Derived.Test.YtfbkjgedaadlmaaPx9
import Derived.Test.YtfbkjgedaadlmaaPx10
namespace Go.Proofs.Ytfbkjgedaadlmaa.P
open Go.RowKit Go.Proofs.YtfbkjgedaadlmaaW.PrintWords Go.Proofs.YtfbkjgedaadlmaaW.PrintLast Go.Proofs.YtfbkjgedaadlmaaW.PrintMore Go.Proofs.Ytfbkjgedaadlmaa.X
attribute [local go_sem] max2_int min2_int max_two min_two max_three min_three max_four min_four   -- for this text's walks alone
set_option linter.unusedVariables false
set_option linter.unusedSimpArgs false

/-! ### lapidarylaw16_known: function 9 -/
def lapidarylaw16_known.f (k : Nat)  : Option (Bool) := (ring_Points.f k ([] : List (List (S42))) ([] : List (List Int)) ([] : List (List Int)) ([] : List Int)).bind fun bt150 => ((ring_Ring.f k ([] : List (List (S42))) ([] : List (List Int)) ([] : List (List Int)) 0).bind fun bt154 => ((ring_Flip.f (([0, (-3)] : List Int))).bind fun t161 => ((lapidaryref00_SameInts.f k t161 (([2, (-1)] : List Int))).bind fun t167 => (if t167 = true then (if bt150.2 = 90 then (some (bt154.2 == 2)) else (none)) else (none)))))
theorem lapidarylaw16_known.mono : ∀ k, LeO (lapidarylaw16_known.f k ) (lapidarylaw16_known.f (k + 1) ) := by
 intro  k
 unfold lapidarylaw16_known.f
 repeat' first
   | (with_reducible exact lapidaryref00_SameInts.mono _ _ _)
   | (with_reducible exact ring_Points.mono _ _ _ _ _)
   | (with_reducible exact ring_Ring.mono _ _ _ _ _)
   | (with_reducible exact LeO.refl _)
   | (with_reducible exact LeO.none _)
   | (with_reducible refine LeO.ite ?_ ?_)
   | (with_reducible refine LeO.bind ?_ (fun _ => ?_))
   | exact lapidaryref00_SameInts.mono _ _ _
   | exact ring_Points.mono _ _ _ _ _
   | exact ring_Ring.mono _ _ _ _ _
   | exact LeO.none _
   | refine LeO.ite ?_ ?_
   | refine LeO.bind ?_ (fun _ => ?_)
set_option maxHeartbeats 8000000 in
set_option maxRecDepth 100000 in
theorem lapidarylaw16_known.calls (k : Nat)  (r : Bool) (w : World) (h : lapidarylaw16_known.f k  = some r) :
  Calls Try.prog 9 #[] w fun e w' => e = .returned (.bool r) ∧ Below w.heap.size w w' := by
 have hu25 := Try.underlying25
 have HB := Aside0.mk (Below.refl w.heap.size w)
 have H : ((ring_Points.f k ([] : List (List (S42))) ([] : List (List Int)) ([] : List (List Int)) ([] : List Int)).bind fun bt150 => ((ring_Ring.f k ([] : List (List (S42))) ([] : List (List Int)) ([] : List (List Int)) 0).bind fun bt154 => ((ring_Flip.f (([0, (-3)] : List Int))).bind fun t161 => ((lapidaryref00_SameInts.f k t161 (([2, (-1)] : List Int))).bind fun t167 => (if t167 = true then (if bt150.2 = 90 then (some (bt154.2 == 2)) else (none)) else (none)))))) = some r := h
 clear h
 replace H := Option.bind_eq_some_iff.mp H
 obtain ⟨⟨t150, t153⟩, A10, H⟩ := H
 replace H : ((ring_Ring.f k ([] : List (List (S42))) ([] : List (List Int)) ([] : List (List Int)) 0).bind fun bt154 => ((ring_Flip.f (([0, (-3)] : List Int))).bind fun t161 => ((lapidaryref00_SameInts.f k t161 (([2, (-1)] : List Int))).bind fun t167 => (if t167 = true then (if t153 = 90 then (some (bt154.2 == 2)) else (none)) else (none))))) = some r := H
 have A1 := Aside0.mk A10
 clear A10
 replace H := Option.bind_eq_some_iff.mp H
 obtain ⟨⟨t154, t157⟩, A20, H⟩ := H
 replace H : ((ring_Flip.f (([0, (-3)] : List Int))).bind fun t161 => ((lapidaryref00_SameInts.f k t161 (([2, (-1)] : List Int))).bind fun t167 => (if t167 = true then (if t153 = 90 then (some (t157 == 2)) else (none)) else (none)))) = some r := H
 have A2 := Aside0.mk A20
 clear A20
 obtain ⟨y158, hy158⟩ : ∃ y_ : List Int, y_ = (([0, (-3)] : List Int)) := ⟨_, rfl⟩
 replace H : ((ring_Flip.f y158).bind fun t161 => ((lapidaryref00_SameInts.f k t161 (([2, (-1)] : List Int))).bind fun t167 => (if t167 = true then (if t153 = 90 then (some (t157 == 2)) else (none)) else (none)))) = some r := by first | (rw [hy158]; with_reducible exact H) | (have H2_ := (Option.bind_some _ _).symm.trans H; rw [hy158]; with_reducible exact H2_) | (have H2_ := (Option.bind_some _ _).symm.trans H; with_reducible exact H2_) | with_reducible exact H | (rw [hy158]; exact H) | exact H
 have Ny158 := Aside0.mk hy158
 clear hy158
 replace H := Option.bind_eq_some_iff.mp H
 obtain ⟨t161, A30, H⟩ := H
 replace H : ((lapidaryref00_SameInts.f k t161 (([2, (-1)] : List Int))).bind fun t167 => (if t167 = true then (if t153 = 90 then (some (t157 == 2)) else (none)) else (none))) = some r := H
 have A3 := Aside0.mk A30
 clear A30
 obtain ⟨y164, hy164⟩ : ∃ y_ : List Int, y_ = (([2, (-1)] : List Int)) := ⟨_, rfl⟩
 replace H : ((lapidaryref00_SameInts.f k t161 y164).bind fun t167 => (if t167 = true then (if t153 = 90 then (some (t157 == 2)) else (none)) else (none))) = some r := by first | (rw [hy164]; with_reducible exact H) | (have H2_ := (Option.bind_some _ _).symm.trans H; rw [hy164]; with_reducible exact H2_) | (have H2_ := (Option.bind_some _ _).symm.trans H; with_reducible exact H2_) | with_reducible exact H | (rw [hy164]; exact H) | exact H
 have Ny164 := Aside0.mk hy164
 clear hy164
 replace H := Option.bind_eq_some_iff.mp H
 obtain ⟨t167, A40, H⟩ := H
 replace H : (if t167 = true then (if t153 = 90 then (some (t157 == 2)) else (none)) else (none)) = some r := H
 have A4 := Aside0.mk A40
 clear A40
 by_cases c5 : t167 = true
 ·subst c5
  have H1 : (if t153 = 90 then (some (t157 == 2)) else (none)) = some r := by rw [if_pos rfl] at H; exact H
  clear H
  have H := H1
  clear H1
  by_cases c6 : t153 = 90
  ·rw [if_pos c6] at H
   have c6b0 : (t153 == 90) = true := beq_iff_eq.mpr c6
   have c6b1 : (t153 != 90) = false := bne_eq_false_iff_eq.mpr c6
   clear c6
   obtain rfl := Option.some.inj H
   go_enter Try.func9, Try.ntmps9
   go_wp2_with (first | ((with_reducible refine gate_callee (f := 10) rfl ?_); refine goesL_ (some 7) rfl rfl Try.func10 (by kernel_rfl) rfl #[.agg #[.slice none 0 0, .slice none 0 0, .slice none 0 0], .slice none 0 0] rfl (by (try simp only [List.map_toArray, List.map_cons, List.map_nil]); first | done | rfl | (simp only [List.length_drop, List.length_take]; rfl)) ?_; (refine (ring_Points.calls k _ _ ([] : List (List (S42))) _ _ ([] : List (List Int)) _ _ ([] : List (List Int)) _ _ ([] : List Int) t150 t153 _ ?side1 ?side2 ?side3 ?side4 ?side5 ?side6 ?side7 ?side8 A1.out).mono ?_); (case side1 => exact Kd.C_nil _ _); (case side2 => exact Nat.le_refl _); (case side3 => exact Kd.C_nil _ _); (case side4 => exact Nat.le_refl _); (case side5 => exact Kd.C_nil _ _); (case side6 => exact Nat.le_refl _); (case side7 => exact Kd.C_nil _ _); (case side8 => exact Nat.le_refl _); rintro e w7 ⟨v151, rfl, ho0, hb⟩; refine ⟨_, rfl, ?_⟩; have n0_ := Aside0.mk (Kd.R_lower ho0 (below_size (bH HB))); have n1_ := Aside0.mk (below_step (bH HB) hb); clear HB; have HO152 := n0_; have HB := n1_; clear n0_ n1_; (try clear hb); (try clear hb2); (try clear hk); (try clear hi); (try clear ho0)) | ((with_reducible refine gate_callee (f := 15) rfl ?_); refine goesL_ (some 12) rfl rfl Try.func15 (by kernel_rfl) rfl #[.agg #[.slice none 0 0, .slice none 0 0, .slice none 0 0], .int .i64 0] rfl (by (try simp only [List.map_toArray, List.map_cons, List.map_nil]); first | done | rfl | (simp only [List.length_drop, List.length_take]; rfl)) ?_; (refine (ring_Ring.calls k _ _ ([] : List (List (S42))) _ _ ([] : List (List Int)) _ _ ([] : List (List Int)) 0 t154 t157 _ ?side1 ?side2 ?side3 ?side4 ?side5 ?side6 A2.out).mono ?_); (case side1 => exact Kd.C_nil _ _); (case side2 => exact Nat.le_refl _); (case side3 => exact Kd.C_nil _ _); (case side4 => exact Nat.le_refl _); (case side5 => exact Kd.C_nil _ _); (case side6 => exact Nat.le_refl _); rintro e w8 ⟨v155, rfl, ho0, hb⟩; refine ⟨_, rfl, ?_⟩; have n0_ := Aside0.mk (Kd.R_elder' (rK HO152) (Kd.R_base ho0) hb); have n1_ := Aside0.mk (Kd.R_lower (Kd.R_new' ho0 (Kd.R_lt (rK HO152))) (below_size (bH HB))); have n2_ := Aside0.mk (below_step (bH HB) hb); clear HO152; clear HB; have HO152 := n0_; have HO156 := n1_; have HB := n2_; clear n0_ n1_ n2_; (try clear hb); (try clear hb2); (try clear hk); (try clear hi); (try clear ho0)) | ((with_reducible refine gate_dst (N := 15) rfl ?_); refine Kd.R_lit (Kd.int .i64) _ 3 ?hg (N := 15) ?hd (xs := ([0, (-3)] : List Int)) (inner := [.int .i64 0, .int .i64 (-3)]) (ok := fun _ => True) (okp := fun _ => True) ?hr ?hp (fun _ hk => hk) trivial (Below.refl _ _) (Nat.le_refl _) (by simp) ?_; (case hd => rfl); (case hg => rfl); (case hr => first | (go_simp; done) | (go_simp; rfl)); (case hp => exact (Reps.one (show Kd.M (Kd.int .i64) _ _ _ 0 [.int .i64 0] from rfl) (Reps.one (show Kd.M (Kd.int .i64) _ _ _ (-3) [.int .i64 (-3)] from rfl) (Reps.none _ _)))); intro v159 w9 ho10 hb hg_ hnew_; clear hg_ hnew_; (first | rw [← Ny158.out] at ho10 | (simp only [Int.reduceToNat] at ho10; rw [← Ny158.out] at ho10)); have n0_ := Aside0.mk (Kd.R_below (rK HO152) hb); have n1_ := Aside0.mk (Kd.R_below (rK HO156) hb); have n2_ := Aside0.mk (Kd.R_lower ho10 (below_size (bH HB))); have n3_ := Aside0.mk (below_step (bH HB) hb); clear HO152; clear HO156; clear HB; have HO152 := n0_; have HO156 := n1_; have HO160 := n2_; have HB := n3_; clear n0_ n1_ n2_ n3_; clear hb ho10; obtain ⟨Ao11, co11, eo11⟩ := Kd.R_slice HO160.out; subst eo11) | ((with_reducible refine gate_callee (f := 16) rfl ?_); refine goesL_ (some 16) rfl rfl Try.func16 (by kernel_rfl) rfl #[.slice Ao11 y158.length co11] rfl (by (try simp only [List.map_toArray, List.map_cons, List.map_nil]); first | done | rfl | (simp only [List.length_drop, List.length_take]; rfl)) ?_; (with_reducible refine (ring_Flip.calls _ _ y158 t161 _ ?side1 ?side2 A3.out).mono ?_); (case side1 => repeat (first | exact (Kd.R_reads' HO160.out).2.2 | (with_reducible refine Kd.C_alloc ?_ _) | (with_reducible refine Kd.C_drewN ?_ _) | (with_reducible refine Kd.C_drew ?_))); (case side2 => exact (Kd.R_reads' HO160.out).2.1); rintro e w12 ⟨v162, rfl, ho0, hb⟩; refine ⟨_, rfl, ?_⟩; have n0_ := Aside0.mk (Kd.R_below (rK HO152) hb); have n1_ := Aside0.mk (Kd.R_below (rK HO156) hb); have n2_ := Aside0.mk (Kd.R_elder' (rK HO160) (Kd.R_base ho0) hb); have n3_ := Aside0.mk (Kd.R_lower (Kd.R_new' ho0 (Kd.R_lt (rK HO160))) (below_size (bH HB))); have n4_ := Aside0.mk (below_step (bH HB) hb); clear HO152; clear HO156; clear HO160; clear HB; have HO152 := n0_; have HO156 := n1_; have HO160 := n2_; have HO163 := n3_; have HB := n4_; clear n0_ n1_ n2_ n3_ n4_; (try clear hb); (try clear hb2); (try clear hk); (try clear hi); (try clear ho0)) | ((with_reducible refine gate_dst (N := 17) rfl ?_); refine Kd.R_lit (Kd.int .i64) _ 3 ?hg (N := 17) ?hd (xs := ([2, (-1)] : List Int)) (inner := [.int .i64 2, .int .i64 (-1)]) (ok := fun _ => True) (okp := fun _ => True) ?hr ?hp (fun _ hk => hk) trivial (Below.refl _ _) (Nat.le_refl _) (by simp) ?_; (case hd => rfl); (case hg => rfl); (case hr => first | (go_simp; done) | (go_simp; rfl)); (case hp => exact (Reps.one (show Kd.M (Kd.int .i64) _ _ _ 2 [.int .i64 2] from rfl) (Reps.one (show Kd.M (Kd.int .i64) _ _ _ (-1) [.int .i64 (-1)] from rfl) (Reps.none _ _)))); intro v165 w13 ho14 hb hg_ hnew_; clear hg_ hnew_; (first | rw [← Ny164.out] at ho14 | (simp only [Int.reduceToNat] at ho14; rw [← Ny164.out] at ho14)); have n0_ := Aside0.mk (Kd.R_below (rK HO152) hb); have n1_ := Aside0.mk (Kd.R_below (rK HO156) hb); have n2_ := Aside0.mk (Kd.R_elder' (rK HO160) (Kd.R_base ho14) hb); have n3_ := Aside0.mk (Kd.R_elder' (rK HO163) (Kd.R_base ho14) hb); have n4_ := Aside0.mk (Kd.R_lower (Kd.R_new' (Kd.R_new' ho14 (Kd.R_lt (rK HO160))) (Kd.R_lt (rK HO163))) (below_size (bH HB))); have n5_ := Aside0.mk (below_step (bH HB) hb); clear HO152; clear HO156; clear HO160; clear HO163; clear HB; have HO152 := n0_; have HO156 := n1_; have HO160 := n2_; have HO163 := n3_; have HO166 := n4_; have HB := n5_; clear n0_ n1_ n2_ n3_ n4_ n5_; clear hb ho14; obtain ⟨Ao15, co15, eo15⟩ := Kd.R_slice HO163.out; subst eo15; obtain ⟨Ao16, co16, eo16⟩ := Kd.R_slice HO166.out; subst eo16) | ((with_reducible refine gate_callee (f := 17) rfl ?_); refine goesL_ (some 18) rfl rfl Try.func17 (by kernel_rfl) rfl #[.slice Ao15 t161.length co15, .slice Ao16 y164.length co16] rfl (by (try simp only [List.map_toArray, List.map_cons, List.map_nil]); first | done | rfl | (simp only [List.length_drop, List.length_take]; rfl)) ?_; (with_reducible refine (lapidaryref00_SameInts.calls k _ _ t161 _ _ y164 true _ ?side1 ?side2 ?side3 ?side4 A4.out).mono ?_); (case side1 => repeat (first | exact (Kd.R_reads' HO163.out).2.2 | (with_reducible refine Kd.C_alloc ?_ _) | (with_reducible refine Kd.C_drewN ?_ _) | (with_reducible refine Kd.C_drew ?_))); (case side2 => exact (Kd.R_reads' HO163.out).2.1); (case side3 => repeat (first | exact (Kd.R_reads' HO166.out).2.2 | (with_reducible refine Kd.C_alloc ?_ _) | (with_reducible refine Kd.C_drewN ?_ _) | (with_reducible refine Kd.C_drew ?_))); (case side4 => exact (Kd.R_reads' HO166.out).2.1); rintro e w' ⟨rfl, ⟨nd, rfl⟩⟩; refine ⟨_, rfl, ?_⟩))
   go_ret
   exact ⟨by first | rfl | (simp [errW_none, errW_some] <;> rfl) | (simp [*, errW_none, errW_some] <;> rfl), bH HB⟩
  ·rw [if_neg c6] at H
   exact absurd H (by simp)
 ·replace c5 := Bool.eq_false_iff.mpr c5
  subst c5
  have H1 : (none) = some r := by rw [if_neg (show ¬ (false = true) by decide)] at H; exact H
  clear H
  have H := H1
  clear H1
  exact absurd H (by simp)

end Go.Proofs.Ytfbkjgedaadlmaa.P
