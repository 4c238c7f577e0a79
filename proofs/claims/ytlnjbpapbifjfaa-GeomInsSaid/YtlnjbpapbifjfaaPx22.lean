/- Written for this claim by a program of this session (a turned copy of the print): Go functions as Lean functions, and that the Go code comes to just these answers; or a statement proved out of them. No condition. -/
import Derived.Test.YtlnjbpapbifjfaaPx0
import Derived.Test.YtlnjbpapbifjfaaPx19
import Derived.Test.YtlnjbpapbifjfaaPx21
namespace Go.Proofs.Ytlnjbpapbifjfaa.P
open Go.RowKit Go.Proofs.YtlnjbpapbifjfaaW.PrintWords Go.Proofs.YtlnjbpapbifjfaaW.PrintLast Go.Proofs.YtlnjbpapbifjfaaW.PrintMore Go.Proofs.Ytlnjbpapbifjfaa.X
attribute [local go_sem] max2_int min2_int max_two min_two max_three min_three max_four min_four add64_0 add64_1 add64   -- for this text's walks alone
set_option linter.unusedVariables false
set_option linter.unusedSimpArgs false

/-! ### lapidaryref09_product: function 38 -/
def lapidaryref09_product.f (k : Nat) (a0 : Int) (a1 : Int) : Option (List Int) := (lapidaryref08_Of.f k a0).bind fun t221 => ((lapidaryref08_Of.f k a1).bind fun t224 => ((lapidaryref08_Mul.f k t221 t224).bind fun t227 => (some t227)))
theorem lapidaryref09_product.mono : ∀ a0 a1 k, LeO (lapidaryref09_product.f k a0 a1) (lapidaryref09_product.f (k + 1) a0 a1) := by
 intro a0 a1 k
 unfold lapidaryref09_product.f
 repeat' first
   | (with_reducible exact lapidaryref08_Mul.mono _ _ _)
   | (with_reducible exact lapidaryref08_Of.mono _ _)
   | (with_reducible exact LeO.refl _)
   | (with_reducible exact LeO.none _)
   | (with_reducible refine LeO.ite ?_ ?_)
   | (with_reducible refine LeO.bind ?_ (fun _ => ?_))
   | exact lapidaryref08_Mul.mono _ _ _
   | exact lapidaryref08_Of.mono _ _
   | exact LeO.none _
   | refine LeO.ite ?_ ?_
   | refine LeO.bind ?_ (fun _ => ?_)
set_option maxHeartbeats 8000000 in
set_option maxRecDepth 100000 in
theorem lapidaryref09_product.calls (k : Nat) (a0 : Int) (a1 : Int) (r : List Int) (w : World) (h : lapidaryref09_product.f k a0 a1 = some r) :
  Calls Try.prog 38 #[.int .i64 a0, .int .i64 a1] w fun e w' => ∃ v0_ : Value, e = .returned (.agg #[v0_]) ∧ Kd.R (Kd.int .i64) 3 w' w.heap.size (fun _ => True) v0_ r ∧ Below w.heap.size w w' := by
 have hu36 := Try.underlying36
 have HB := Aside0.mk (Below.refl w.heap.size w)
 have H : ((lapidaryref08_Of.f k a0).bind fun t221 => ((lapidaryref08_Of.f k a1).bind fun t224 => ((lapidaryref08_Mul.f k t221 t224).bind fun t227 => (some t227)))) = some r := h
 clear h
 replace H := Option.bind_eq_some_iff.mp H
 obtain ⟨t221, A30, H⟩ := H
 replace H : ((lapidaryref08_Of.f k a1).bind fun t224 => ((lapidaryref08_Mul.f k t221 t224).bind fun t227 => (some t227))) = some r := H
 have A3 := Aside0.mk A30
 clear A30
 replace H := Option.bind_eq_some_iff.mp H
 obtain ⟨t224, A40, H⟩ := H
 replace H : ((lapidaryref08_Mul.f k t221 t224).bind fun t227 => (some t227)) = some r := H
 have A4 := Aside0.mk A40
 clear A40
 replace H := Option.bind_eq_some_iff.mp H
 obtain ⟨t227, A50, H⟩ := H
 replace H : (some t227) = some r := H
 have A5 := Aside0.mk A50
 clear A50
 obtain rfl := Option.some.inj H
 go_enter Try.func38, Try.ntmps38
 go_wp2_with (first | ((with_reducible refine gate_dst (N := 4) rfl ?_); refine box_event ?hg (N := 4) ?hd (cs := #[.slice none 0 0]) (t := 36) ?hr ?_; (case hd => rfl); (case hg => rfl); (case hr => first | (go_simp; done) | (go_simp; rfl)); intro gb220 hg w6 hbox hb; have n0_ := Aside0.mk (below_step (bH HB) hb); have n1_ := Aside0.mk (hbox); have n2_ := Aside0.mk ((by rw [hg]; exact (below_size (bH HB)) : w.heap.size ≤ gb220)); have n3_ := n2_; clear HB; have HB := n0_; have BK220 := n1_; have GW220 := n2_; have GE220 := n3_; clear n0_ n1_ n2_ n3_; clear hb hbox hg) | ((with_reducible refine gate_callee (f := 36) rfl ?_); refine goesL_ (some 6) rfl rfl Try.func36 (by kernel_rfl) rfl #[.int .i64 a0] rfl (by (try simp only [List.map_toArray, List.map_cons, List.map_nil]); first | done | rfl | (simp only [List.length_drop, List.length_take]; rfl)) ?_; (with_reducible refine (lapidaryref08_Of.calls k a0 t221 _ A3.out).mono ?_); rintro e w7 ⟨v222, rfl, ho0, hb⟩; refine ⟨_, rfl, ?_⟩; have n0_ := Aside0.mk (Kd.R_lower ho0 (below_size (bH HB))); have n1_ := Aside0.mk (blk_below (g := gb220) (o := .cells #[.slice none 0 0] 36 (0, 0)) (bK BK220) hb); have n2_ := Aside0.mk (below_step (bH HB) hb); clear BK220; clear HB; have HO223 := n0_; have BK220 := n1_; have HB := n2_; clear n0_ n1_ n2_; (try clear hb); (try clear hb2); (try clear hk); (try clear hi); (try clear ho0)) | ((with_reducible refine gate_callee (f := 36) rfl ?_); refine goesL_ (some 8) rfl rfl Try.func36 (by kernel_rfl) rfl #[.int .i64 a1] rfl (by (try simp only [List.map_toArray, List.map_cons, List.map_nil]); first | done | rfl | (simp only [List.length_drop, List.length_take]; rfl)) ?_; (with_reducible refine (lapidaryref08_Of.calls k a1 t224 _ A4.out).mono ?_); rintro e w8 ⟨v225, rfl, ho0, hb⟩; refine ⟨_, rfl, ?_⟩; have n0_ := Aside0.mk (Kd.R_elder' (rK HO223) (Kd.R_base ho0) hb); have n1_ := Aside0.mk (Kd.R_lower (Kd.R_new' ho0 (Kd.R_lt (rK HO223))) (below_size (bH HB))); have n2_ := Aside0.mk (blk_below (g := gb220) (o := .cells #[.slice none 0 0] 36 (0, 0)) (bK BK220) hb); have n3_ := Aside0.mk (below_step (bH HB) hb); clear HO223; clear BK220; clear HB; have HO223 := n0_; have HO226 := n1_; have BK220 := n2_; have HB := n3_; clear n0_ n1_ n2_ n3_; (try clear hb); (try clear hb2); (try clear hk); (try clear hi); (try clear ho0); obtain ⟨Ao9, co9, eo9⟩ := Kd.R_slice HO223.out; subst eo9; obtain ⟨Ao10, co10, eo10⟩ := Kd.R_slice HO226.out; subst eo10) | ((with_reducible refine gate_callee (f := 46) rfl ?_); refine goesL_ (some 9) rfl rfl Try.func46 (by kernel_rfl) rfl #[.agg #[.slice Ao9 t221.length co9], .agg #[.slice Ao10 t224.length co10]] rfl (by (try simp only [List.map_toArray, List.map_cons, List.map_nil]); first | done | rfl | (simp only [List.length_drop, List.length_take]; rfl)) ?_; (with_reducible refine (lapidaryref08_Mul.calls k _ _ t221 _ _ t224 t227 _ ?side1 ?side2 ?side3 ?side4 A5.out).mono ?_); (case side1 => repeat (first | exact (Kd.R_reads' HO223.out).2.2 | (with_reducible refine Kd.C_alloc ?_ _) | (with_reducible refine Kd.C_drewN ?_ _) | (with_reducible refine Kd.C_drew ?_))); (case side2 => exact (Kd.R_reads' HO223.out).2.1); (case side3 => repeat (first | exact (Kd.R_reads' HO226.out).2.2 | (with_reducible refine Kd.C_alloc ?_ _) | (with_reducible refine Kd.C_drewN ?_ _) | (with_reducible refine Kd.C_drew ?_))); (case side4 => exact (Kd.R_reads' HO226.out).2.1); rintro e w11 ⟨v228, rfl, ho0, hb⟩; refine ⟨_, rfl, ?_⟩; have n0_ := Aside0.mk (Kd.R_elder' (rK HO223) (Kd.R_base ho0) hb); have n1_ := Aside0.mk (Kd.R_elder' (rK HO226) (Kd.R_base ho0) hb); have n2_ := Aside0.mk (Kd.R_lower (Kd.R_new' (Kd.R_new' ho0 (Kd.R_lt (rK HO223))) (Kd.R_lt (rK HO226))) (below_size (bH HB))); have n3_ := Aside0.mk (blk_below (g := gb220) (o := .cells #[.slice none 0 0] 36 (0, 0)) (bK BK220) hb); have n4_ := Aside0.mk (below_step (bH HB) hb); clear HO223; clear HO226; clear BK220; clear HB; have HO223 := n0_; have HO226 := n1_; have HO229 := n2_; have BK220 := n3_; have HB := n4_; clear n0_ n1_ n2_ n3_ n4_; (try clear hb); (try clear hb2); (try clear hk); (try clear hi); (try clear ho0); obtain ⟨Ao12, co12, eo12⟩ := Kd.R_slice HO229.out; subst eo12; have hcz13_0 : w11.cell? ⟨gb220, 0, none⟩ = some (.slice none 0 0) := (blk_cell BK220.out 0).trans rfl; have hfz13_0 := blk_frozen BK220.out 0))
 refine bodyPost_ret (results_cell_row rfl _ _ gb220 36 #[.slice Ao12 t227.length co12] (0, 0) _ rfl (by (with_reducible repeat (first | refine blk_drewN ?_ _ | refine blk_drew ?_ | refine blk_alloc ?_ _)); refine blk_put (cs := #[.slice none 0 0]) ?_ 0 _ rfl; (with_reducible repeat (first | refine blk_drewN ?_ _ | refine blk_drew ?_ | refine blk_alloc ?_ _)); exact BK220.out) Try.underlying36 rfl (by kernel_rfl)) rfl ?_
 exact ⟨_, by first | rfl | (simp [errW_none, errW_some] <;> rfl) | (simp [*, errW_none, errW_some] <;> rfl), by (with_reducible repeat (first | apply Kd.R_alloc | apply Kd.R_drewN | apply Kd.R_drew)); exact Kd.R_mono (Kd.R_far (p := ⟨gb220, 0, none⟩) (Kd.R_types HO229.out BK220.out (by decide)) (fun _ hk => hk.2) (.slice Ao12 t227.length co12)) (fun _ hk => trivial), bH HB⟩

end Go.Proofs.Ytlnjbpapbifjfaa.P
