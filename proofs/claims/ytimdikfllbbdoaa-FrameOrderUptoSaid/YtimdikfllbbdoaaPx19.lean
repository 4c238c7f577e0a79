/- Written for this claim by a program of this session (a turned copy of the print): Go functions as Lean functions, and that the Go code comes to just these answers; or a statement proved out of them. No condition. -/
import Derived.Test.YtimdikfllbbdoaaPx0
import Derived.Test.YtimdikfllbbdoaaPx12
import Derived.Test.YtimdikfllbbdoaaPx13
import Derived.Test.YtimdikfllbbdoaaPx18
namespace Go.Proofs.Ytimdikfllbbdoaa.P
open Go.RowKit Go.Proofs.YtimdikfllbbdoaaW.PrintWords Go.Proofs.YtimdikfllbbdoaaW.PrintLast Go.Proofs.YtimdikfllbbdoaaW.PrintMore Go.Proofs.Ytimdikfllbbdoaa.X
attribute [local go_sem] max2_int min2_int max_two min_two max_three min_three max_four min_four   -- for this text's walks alone
set_option linter.unusedVariables false
set_option linter.unusedSimpArgs false

/-! ### lapidarylaw03_known: function 9 -/
def lapidarylaw03_known.f (k : Nat)  : Option (Bool) := (frame_Encode.f k ([] : List (S33))).bind fun bt200 => ((frame_Decode.f k (([76, 80, 68, 89, 1, 0] : List Int))).bind fun bt207 => ((frame_Decode.f k (([76, 81] : List Int))).bind fun bt214 => ((lapidaryref00_Same.f bt200.1 (([76, 80, 68, 89, 1, 0] : List Int))).bind fun t221 => (if t221 = true then (if bt200.2 = 0 then (if (bt207.1.length : Int) = 0 then (if bt207.2 = 0 then (some (bt214.2 == 11)) else (none)) else (none)) else (none)) else (none)))))
theorem lapidarylaw03_known.mono : ∀ k, LeO (lapidarylaw03_known.f k ) (lapidarylaw03_known.f (k + 1) ) := by
 intro  k
 unfold lapidarylaw03_known.f
 repeat' first
   | (with_reducible exact frame_Decode.mono _ _)
   | (with_reducible exact frame_Encode.mono _ _)
   | (with_reducible exact LeO.refl _)
   | (with_reducible exact LeO.none _)
   | (with_reducible refine LeO.ite ?_ ?_)
   | (with_reducible refine LeO.bind ?_ (fun _ => ?_))
   | exact frame_Decode.mono _ _
   | exact frame_Encode.mono _ _
   | exact LeO.none _
   | refine LeO.ite ?_ ?_
   | refine LeO.bind ?_ (fun _ => ?_)
set_option maxHeartbeats 8000000 in
set_option maxRecDepth 100000 in
theorem lapidarylaw03_known.calls (k : Nat)  (r : Bool) (w : World) (h : lapidarylaw03_known.f k  = some r) :
  Calls Try.prog 9 #[] w fun e w' => e = .returned (.bool r) ∧ Below w.heap.size w w' := by
 have HB := Aside0.mk (Below.refl w.heap.size w)
 have H : ((frame_Encode.f k ([] : List (S33))).bind fun bt200 => ((frame_Decode.f k (([76, 80, 68, 89, 1, 0] : List Int))).bind fun bt207 => ((frame_Decode.f k (([76, 81] : List Int))).bind fun bt214 => ((lapidaryref00_Same.f bt200.1 (([76, 80, 68, 89, 1, 0] : List Int))).bind fun t221 => (if t221 = true then (if bt200.2 = 0 then (if (bt207.1.length : Int) = 0 then (if bt207.2 = 0 then (some (bt214.2 == 11)) else (none)) else (none)) else (none)) else (none)))))) = some r := h
 clear h
 replace H := Option.bind_eq_some_iff.mp H
 obtain ⟨⟨t200, t201⟩, A10, H⟩ := H
 replace H : ((frame_Decode.f k (([76, 80, 68, 89, 1, 0] : List Int))).bind fun bt207 => ((frame_Decode.f k (([76, 81] : List Int))).bind fun bt214 => ((lapidaryref00_Same.f t200 (([76, 80, 68, 89, 1, 0] : List Int))).bind fun t221 => (if t221 = true then (if t201 = 0 then (if (bt207.1.length : Int) = 0 then (if bt207.2 = 0 then (some (bt214.2 == 11)) else (none)) else (none)) else (none)) else (none))))) = some r := H
 have A1 := Aside0.mk A10
 clear A10
 obtain ⟨y204, hy204⟩ : ∃ y_ : List Int, y_ = (([76, 80, 68, 89, 1, 0] : List Int)) := ⟨_, rfl⟩
 replace H : ((frame_Decode.f k y204).bind fun bt207 => ((frame_Decode.f k (([76, 81] : List Int))).bind fun bt214 => ((lapidaryref00_Same.f t200 (([76, 80, 68, 89, 1, 0] : List Int))).bind fun t221 => (if t221 = true then (if t201 = 0 then (if (bt207.1.length : Int) = 0 then (if bt207.2 = 0 then (some (bt214.2 == 11)) else (none)) else (none)) else (none)) else (none))))) = some r := by first | (rw [hy204]; with_reducible exact H) | (have H2_ := (Option.bind_some _ _).symm.trans H; rw [hy204]; with_reducible exact H2_) | (have H2_ := (Option.bind_some _ _).symm.trans H; with_reducible exact H2_) | with_reducible exact H | (rw [hy204]; exact H) | exact H
 have Ny204 := Aside0.mk hy204
 clear hy204
 replace H := Option.bind_eq_some_iff.mp H
 obtain ⟨⟨t207, t208⟩, A20, H⟩ := H
 replace H : ((frame_Decode.f k (([76, 81] : List Int))).bind fun bt214 => ((lapidaryref00_Same.f t200 (([76, 80, 68, 89, 1, 0] : List Int))).bind fun t221 => (if t221 = true then (if t201 = 0 then (if (t207.length : Int) = 0 then (if t208 = 0 then (some (bt214.2 == 11)) else (none)) else (none)) else (none)) else (none)))) = some r := H
 have A2 := Aside0.mk A20
 clear A20
 obtain ⟨y211, hy211⟩ : ∃ y_ : List Int, y_ = (([76, 81] : List Int)) := ⟨_, rfl⟩
 replace H : ((frame_Decode.f k y211).bind fun bt214 => ((lapidaryref00_Same.f t200 (([76, 80, 68, 89, 1, 0] : List Int))).bind fun t221 => (if t221 = true then (if t201 = 0 then (if (t207.length : Int) = 0 then (if t208 = 0 then (some (bt214.2 == 11)) else (none)) else (none)) else (none)) else (none)))) = some r := by first | (rw [hy211]; with_reducible exact H) | (have H2_ := (Option.bind_some _ _).symm.trans H; rw [hy211]; with_reducible exact H2_) | (have H2_ := (Option.bind_some _ _).symm.trans H; with_reducible exact H2_) | with_reducible exact H | (rw [hy211]; exact H) | exact H
 have Ny211 := Aside0.mk hy211
 clear hy211
 replace H := Option.bind_eq_some_iff.mp H
 obtain ⟨⟨t214, t215⟩, A30, H⟩ := H
 replace H : ((lapidaryref00_Same.f t200 (([76, 80, 68, 89, 1, 0] : List Int))).bind fun t221 => (if t221 = true then (if t201 = 0 then (if (t207.length : Int) = 0 then (if t208 = 0 then (some (t215 == 11)) else (none)) else (none)) else (none)) else (none))) = some r := H
 have A3 := Aside0.mk A30
 clear A30
 obtain ⟨y218, hy218⟩ : ∃ y_ : List Int, y_ = (([76, 80, 68, 89, 1, 0] : List Int)) := ⟨_, rfl⟩
 replace H : ((lapidaryref00_Same.f t200 y218).bind fun t221 => (if t221 = true then (if t201 = 0 then (if (t207.length : Int) = 0 then (if t208 = 0 then (some (t215 == 11)) else (none)) else (none)) else (none)) else (none))) = some r := by first | (rw [hy218]; with_reducible exact H) | (have H2_ := (Option.bind_some _ _).symm.trans H; rw [hy218]; with_reducible exact H2_) | (have H2_ := (Option.bind_some _ _).symm.trans H; with_reducible exact H2_) | with_reducible exact H | (rw [hy218]; exact H) | exact H
 have Ny218 := Aside0.mk hy218
 clear hy218
 replace H := Option.bind_eq_some_iff.mp H
 obtain ⟨t221, A40, H⟩ := H
 replace H : (if t221 = true then (if t201 = 0 then (if (t207.length : Int) = 0 then (if t208 = 0 then (some (t215 == 11)) else (none)) else (none)) else (none)) else (none)) = some r := H
 have A4 := Aside0.mk A40
 clear A40
 by_cases c5 : t221 = true
 ·subst c5
  have H1 : (if t201 = 0 then (if (t207.length : Int) = 0 then (if t208 = 0 then (some (t215 == 11)) else (none)) else (none)) else (none)) = some r := by rw [if_pos rfl] at H; exact H
  clear H
  have H := H1
  clear H1
  by_cases c6 : t201 = 0
  ·rw [if_pos c6] at H
   have c6b0 : (t201 == 0) = true := beq_iff_eq.mpr c6
   have c6b1 : (t201 != 0) = false := bne_eq_false_iff_eq.mpr c6
   clear c6
   by_cases c7 : (t207.length : Int) = 0
   ·rw [if_pos c7] at H
    have c7b0 : ((t207.length : Int) == 0) = true := beq_iff_eq.mpr c7
    have c7b1 : ((t207.length : Int) != 0) = false := bne_eq_false_iff_eq.mpr c7
    clear c7
    by_cases c8 : t208 = 0
    ·rw [if_pos c8] at H
     have c8b0 : (t208 == 0) = true := beq_iff_eq.mpr c8
     have c8b1 : (t208 != 0) = false := bne_eq_false_iff_eq.mpr c8
     clear c8
     obtain rfl := Option.some.inj H
     go_enter Try.func9, Try.ntmps9
     go_wp2_with (first | ((with_reducible refine gate_callee (f := 10) rfl ?_); refine goesL_ (some 8) rfl rfl Try.func10 (by kernel_rfl) rfl #[.slice none 0 0] rfl (by (try simp only [List.map_toArray, List.map_cons, List.map_nil]); first | done | rfl | (simp only [List.length_drop, List.length_take]; rfl)) ?_; (refine (frame_Encode.calls k _ _ ([] : List (S33)) t200 t201 _ ?side1 ?side2 A1.out).mono ?_); (case side1 => exact Kd.C_nil _ _); (case side2 => exact Nat.le_refl _); rintro e w9 ⟨v202, rfl, ho0, hb⟩; refine ⟨_, rfl, ?_⟩; have n0_ := Aside0.mk (Kd.R_lower ho0 (below_size (bH HB))); have n1_ := Aside0.mk (below_step (bH HB) hb); clear HB; have HO203 := n0_; have HB := n1_; clear n0_ n1_; (try clear hb); (try clear hb2); (try clear hk); (try clear hi); (try clear ho0)) | ((with_reducible refine gate_dst (N := 12) rfl ?_); (try (refine gate_guard (by rfl) ?_; dsimp only)); refine Kd.R_lit (Kd.int .u8) _ 5 ?hg (N := 12) ?hd (xs := ([76, 80, 68, 89, 1, 0] : List Int)) (inner := [.int .u8 76, .int .u8 80, .int .u8 68, .int .u8 89, .int .u8 1, .int .u8 0]) (ok := fun _ => True) (okp := fun _ => True) ?hr ?hp (fun _ hk => hk) trivial (Below.refl _ _) (Nat.le_refl _) (by simp) ?_; (case hd => rfl); (case hg => rfl); (case hr => first | (go_simp; done) | (go_simp; rfl)); (case hp => exact (Reps.one (show Kd.M (Kd.int .u8) _ _ _ 76 [.int .u8 76] from rfl) (Reps.one (show Kd.M (Kd.int .u8) _ _ _ 80 [.int .u8 80] from rfl) (Reps.one (show Kd.M (Kd.int .u8) _ _ _ 68 [.int .u8 68] from rfl) (Reps.one (show Kd.M (Kd.int .u8) _ _ _ 89 [.int .u8 89] from rfl) (Reps.one (show Kd.M (Kd.int .u8) _ _ _ 1 [.int .u8 1] from rfl) (Reps.one (show Kd.M (Kd.int .u8) _ _ _ 0 [.int .u8 0] from rfl) (Reps.none _ _)))))))); intro v205 w10 ho11 hb hg_ hnew_; clear hg_ hnew_; (first | rw [← Ny204.out] at ho11 | (simp only [Int.reduceToNat] at ho11; rw [← Ny204.out] at ho11)); have n0_ := Aside0.mk (Kd.R_elder' (rK HO203) (Kd.R_base ho11) hb); have n1_ := Aside0.mk (Kd.R_lower (Kd.R_new' ho11 (Kd.R_lt (rK HO203))) (below_size (bH HB))); have n2_ := Aside0.mk (below_step (bH HB) hb); clear HO203; clear HB; have HO203 := n0_; have HO206 := n1_; have HB := n2_; clear n0_ n1_ n2_; clear hb ho11; obtain ⟨Ao12, co12, eo12⟩ := Kd.R_slice HO206.out; subst eo12) | ((with_reducible refine gate_callee (f := 15) rfl ?_); refine goesL_ (some 13) rfl rfl Try.func15 (by kernel_rfl) rfl #[.slice Ao12 y204.length co12] rfl (by (try simp only [List.map_toArray, List.map_cons, List.map_nil]); first | done | rfl | (simp only [List.length_drop, List.length_take]; rfl)) ?_; (with_reducible refine (frame_Decode.calls k _ _ y204 t207 t208 _ ?side1 ?side2 A2.out).mono ?_); (case side1 => repeat (first | exact (Kd.R_reads' HO206.out).2.2 | (with_reducible refine Kd.C_alloc ?_ _) | (with_reducible refine Kd.C_drewN ?_ _) | (with_reducible refine Kd.C_drew ?_))); (case side2 => exact (Kd.R_reads' HO206.out).2.1); rintro e w13 ⟨v209, rfl, ho0, hb⟩; refine ⟨_, rfl, ?_⟩; have n0_ := Aside0.mk (Kd.R_below (rK HO203) hb); have n1_ := Aside0.mk (Kd.R_below (rK HO206) hb); have n2_ := Aside0.mk (Kd.S_lower (Kd.S_new' (Kd.S_new' ho0 (Kd.R_lt (rK HO203))) (Kd.R_lt (rK HO206))) (below_size (bH HB))); have n3_ := Aside0.mk (below_step (bH HB) hb); clear HO203; clear HO206; clear HB; have HO203 := n0_; have HO206 := n1_; have HO210 := n2_; have HB := n3_; clear n0_ n1_ n2_ n3_; (try clear hb); (try clear hb2); (try clear hk); (try clear hi); (try clear ho0)) | ((with_reducible refine gate_dst (N := 17) rfl ?_); (try (refine gate_guard (by rfl) ?_; dsimp only)); refine Kd.R_lit (Kd.int .u8) _ 5 ?hg (N := 17) ?hd (xs := ([76, 81] : List Int)) (inner := [.int .u8 76, .int .u8 81]) (ok := fun _ => True) (okp := fun _ => True) ?hr ?hp (fun _ hk => hk) trivial (Below.refl _ _) (Nat.le_refl _) (by simp) ?_; (case hd => rfl); (case hg => rfl); (case hr => first | (go_simp; done) | (go_simp; rfl)); (case hp => exact (Reps.one (show Kd.M (Kd.int .u8) _ _ _ 76 [.int .u8 76] from rfl) (Reps.one (show Kd.M (Kd.int .u8) _ _ _ 81 [.int .u8 81] from rfl) (Reps.none _ _)))); intro v212 w14 ho15 hb hg_ hnew_; clear hg_ hnew_; (first | rw [← Ny211.out] at ho15 | (simp only [Int.reduceToNat] at ho15; rw [← Ny211.out] at ho15)); have n0_ := Aside0.mk (Kd.R_elder' (rK HO203) (Kd.R_base ho15) hb); have n1_ := Aside0.mk (Kd.R_elder' (rK HO206) (Kd.R_base ho15) hb); have n2_ := Aside0.mk (Kd.S_elder' (by (with_reducible repeat (first | apply Kd.S_alloc | apply Kd.S_drewN | apply Kd.S_drew)); exact HO210.out) (Kd.R_base ho15) hb); have n3_ := Aside0.mk (Kd.R_lower (Kd.R_new' (Kd.R_new' ho15 (Kd.R_lt (rK HO203))) (Kd.R_lt (rK HO206))) (below_size (bH HB))); have n4_ := Aside0.mk (below_step (bH HB) hb); clear HO203; clear HO206; clear HO210; clear HB; have HO203 := n0_; have HO206 := n1_; have HO210 := n2_; have HO213 := n3_; have HB := n4_; clear n0_ n1_ n2_ n3_ n4_; clear hb ho15; obtain ⟨Ao16, co16, eo16⟩ := Kd.R_slice HO213.out; subst eo16) | ((with_reducible refine gate_callee (f := 15) rfl ?_); refine goesL_ (some 18) rfl rfl Try.func15 (by kernel_rfl) rfl #[.slice Ao16 y211.length co16] rfl (by (try simp only [List.map_toArray, List.map_cons, List.map_nil]); first | done | rfl | (simp only [List.length_drop, List.length_take]; rfl)) ?_; (with_reducible refine (frame_Decode.calls k _ _ y211 t214 t215 _ ?side1 ?side2 A3.out).mono ?_); (case side1 => repeat (first | exact (Kd.R_reads' HO213.out).2.2 | (with_reducible refine Kd.C_alloc ?_ _) | (with_reducible refine Kd.C_drewN ?_ _) | (with_reducible refine Kd.C_drew ?_))); (case side2 => exact (Kd.R_reads' HO213.out).2.1); rintro e w17 ⟨v216, rfl, ho0, hb⟩; refine ⟨_, rfl, ?_⟩; have n0_ := Aside0.mk (Kd.R_below (rK HO203) hb); have n1_ := Aside0.mk (Kd.R_below (rK HO206) hb); have n2_ := Aside0.mk (Kd.S_elder' (by (with_reducible repeat (first | apply Kd.S_alloc | apply Kd.S_drewN | apply Kd.S_drew)); exact HO210.out) (Kd.S_base ho0) hb); have n3_ := Aside0.mk (Kd.R_below (rK HO213) hb); have n4_ := Aside0.mk (Kd.S_lower (Kd.S_new' (Kd.S_new' (Kd.S_new' (Kd.S_new' ho0 (Kd.R_lt (rK HO203))) (Kd.R_lt (rK HO206))) (Kd.S_lt (by (with_reducible repeat (first | apply Kd.S_alloc | apply Kd.S_drewN | apply Kd.S_drew)); exact HO210.out))) (Kd.R_lt (rK HO213))) (below_size (bH HB))); have n5_ := Aside0.mk (below_step (bH HB) hb); clear HO203; clear HO206; clear HO210; clear HO213; clear HB; have HO203 := n0_; have HO206 := n1_; have HO210 := n2_; have HO213 := n3_; have HO217 := n4_; have HB := n5_; clear n0_ n1_ n2_ n3_ n4_ n5_; (try clear hb); (try clear hb2); (try clear hk); (try clear hi); (try clear ho0)) | ((with_reducible refine gate_dst (N := 22) rfl ?_); (try (refine gate_guard (by rfl) ?_; dsimp only)); refine Kd.R_lit (Kd.int .u8) _ 5 ?hg (N := 22) ?hd (xs := ([76, 80, 68, 89, 1, 0] : List Int)) (inner := [.int .u8 76, .int .u8 80, .int .u8 68, .int .u8 89, .int .u8 1, .int .u8 0]) (ok := fun _ => True) (okp := fun _ => True) ?hr ?hp (fun _ hk => hk) trivial (Below.refl _ _) (Nat.le_refl _) (by simp) ?_; (case hd => rfl); (case hg => rfl); (case hr => first | (go_simp; done) | (go_simp; rfl)); (case hp => exact (Reps.one (show Kd.M (Kd.int .u8) _ _ _ 76 [.int .u8 76] from rfl) (Reps.one (show Kd.M (Kd.int .u8) _ _ _ 80 [.int .u8 80] from rfl) (Reps.one (show Kd.M (Kd.int .u8) _ _ _ 68 [.int .u8 68] from rfl) (Reps.one (show Kd.M (Kd.int .u8) _ _ _ 89 [.int .u8 89] from rfl) (Reps.one (show Kd.M (Kd.int .u8) _ _ _ 1 [.int .u8 1] from rfl) (Reps.one (show Kd.M (Kd.int .u8) _ _ _ 0 [.int .u8 0] from rfl) (Reps.none _ _)))))))); intro v219 w18 ho19 hb hg_ hnew_; clear hg_ hnew_; (first | rw [← Ny218.out] at ho19 | (simp only [Int.reduceToNat] at ho19; rw [← Ny218.out] at ho19)); have n0_ := Aside0.mk (Kd.R_elder' (rK HO203) (Kd.R_base ho19) hb); have n1_ := Aside0.mk (Kd.R_elder' (rK HO206) (Kd.R_base ho19) hb); have n2_ := Aside0.mk (Kd.S_elder' (by (with_reducible repeat (first | apply Kd.S_alloc | apply Kd.S_drewN | apply Kd.S_drew)); exact HO210.out) (Kd.R_base ho19) hb); have n3_ := Aside0.mk (Kd.R_elder' (rK HO213) (Kd.R_base ho19) hb); have n4_ := Aside0.mk (Kd.S_elder' (by (with_reducible repeat (first | apply Kd.S_alloc | apply Kd.S_drewN | apply Kd.S_drew)); exact HO217.out) (Kd.R_base ho19) hb); have n5_ := Aside0.mk (Kd.R_lower (Kd.R_new' (Kd.R_new' (Kd.R_new' ho19 (Kd.R_lt (rK HO203))) (Kd.R_lt (rK HO206))) (Kd.R_lt (rK HO213))) (below_size (bH HB))); have n6_ := Aside0.mk (below_step (bH HB) hb); clear HO203; clear HO206; clear HO210; clear HO213; clear HO217; clear HB; have HO203 := n0_; have HO206 := n1_; have HO210 := n2_; have HO213 := n3_; have HO217 := n4_; have HO220 := n5_; have HB := n6_; clear n0_ n1_ n2_ n3_ n4_ n5_ n6_; clear hb ho19; obtain ⟨Ao20, co20, eo20⟩ := Kd.R_slice HO203.out; subst eo20; obtain ⟨Ao21, co21, eo21⟩ := Kd.R_slice HO220.out; subst eo21) | ((with_reducible refine gate_callee (f := 14) rfl ?_); refine goesL_ (some 23) rfl rfl Try.func14 (by kernel_rfl) rfl #[.slice Ao20 t200.length co20, .slice Ao21 y218.length co21] rfl (by (try simp only [List.map_toArray, List.map_cons, List.map_nil]); first | done | rfl | (simp only [List.length_drop, List.length_take]; rfl)) ?_; (with_reducible refine (lapidaryref00_Same.calls _ _ t200 _ _ y218 true _ ?side1 ?side2 ?side3 ?side4 A4.out).mono ?_); (case side1 => repeat (first | exact (Kd.R_reads' HO203.out).2.2 | (with_reducible refine Kd.C_alloc ?_ _) | (with_reducible refine Kd.C_drewN ?_ _) | (with_reducible refine Kd.C_drew ?_))); (case side2 => exact (Kd.R_reads' HO203.out).2.1); (case side3 => repeat (first | exact (Kd.R_reads' HO220.out).2.2 | (with_reducible refine Kd.C_alloc ?_ _) | (with_reducible refine Kd.C_drewN ?_ _) | (with_reducible refine Kd.C_drew ?_))); (case side4 => exact (Kd.R_reads' HO220.out).2.1); rintro e w' ⟨rfl, ⟨nd, rfl⟩⟩; refine ⟨_, rfl, ?_⟩; obtain ⟨Ao22, co22, eo22⟩ := Kd.S_slice HO210.out; subst eo22))
     go_ret
     exact ⟨by first | rfl | (simp [errW_none, errW_some] <;> rfl) | (simp [*, errW_none, errW_some] <;> rfl), bH HB⟩
    ·rw [if_neg c8] at H
     exact absurd H (by simp)
   ·rw [if_neg c7] at H
    exact absurd H (by simp)
  ·rw [if_neg c6] at H
   exact absurd H (by simp)
 ·replace c5 := Bool.eq_false_iff.mpr c5
  subst c5
  have H1 : (none) = some r := by rw [if_neg (show ¬ (false = true) by decide)] at H; exact H
  clear H
  have H := H1
  clear H1
  exact absurd H (by simp)

end Go.Proofs.Ytimdikfllbbdoaa.P
