/- Written for this claim by a program of this session (a turned copy of the print): Go functions as Lean functions, and that the Go code comes to just these answers; or a statement proved out of them. No condition. -/
import Derived.Test.YtlnjbpapbifjfaaPx0
import Derived.Test.YtlnjbpapbifjfaaPx19
import Derived.Test.YtlnjbpapbifjfaaPx35
namespace Go.Proofs.Ytlnjbpapbifjfaa.P
open Go.RowKit Go.Proofs.YtlnjbpapbifjfaaW.PrintWords Go.Proofs.YtlnjbpapbifjfaaW.PrintLast Go.Proofs.YtlnjbpapbifjfaaW.PrintMore Go.Proofs.Ytlnjbpapbifjfaa.X
attribute [local go_sem] max2_int min2_int max_two min_two max_three min_three max_four min_four add64_0 add64_1 add64   -- for this text's walks alone
set_option linter.unusedVariables false
set_option linter.unusedSimpArgs false

/-! ### lapidaryref08_Neg: function 39 -/
def lapidaryref08_Neg.l0 : Nat → List Int → Int → List Int → Option (List Int)
 | 0, _, _, _ => none
 | k + 1, x3, x4, x389000 => if x4 < 8 then (if 0 ≤ x4 then (if x4 < (x389000.length : Int) then (if x3.length < 17592186044416 then (lapidaryref08_Neg.l0 k (x3 ++ [wrap64 (65535 - (rd x389000 x4))]) (wrap64 (x4 + 1)) x389000) else (none)) else (none)) else (none)) else ((lapidaryref08_Of.f k 1).bind fun t394 => ((lapidaryref08_Add.f k x3 t394).bind fun t397 => (some t397)))
def lapidaryref08_Neg.f (k : Nat) (l0_0 : List Int) : Option (List Int) := lapidaryref08_Neg.l0 k ([] : List Int) 0 l0_0
theorem lapidaryref08_Neg.mono_l : ∀ k, (∀ y0 y1 y2, LeO (lapidaryref08_Neg.l0 k y0 y1 y2) (lapidaryref08_Neg.l0 (k + 1) y0 y1 y2))
 | 0 => fun _ _ _ r h => by simp [lapidaryref08_Neg.l0] at h
 | k + 1 => by
  have ih0 := lapidaryref08_Neg.mono_l k
  ·intro y0 y1 y2
   unfold lapidaryref08_Neg.l0
   repeat' first
   | (with_reducible exact ih0 _ _ _)
   | (with_reducible exact lapidaryref08_Add.mono _ _ _)
   | (with_reducible exact lapidaryref08_Of.mono _ _)
   | (with_reducible exact LeO.refl _)
   | (with_reducible exact LeO.none _)
   | (with_reducible refine LeO.ite ?_ ?_)
   | (with_reducible refine LeO.bind ?_ (fun _ => ?_))
   | exact ih0 _ _ _
   | exact lapidaryref08_Add.mono _ _ _
   | exact lapidaryref08_Of.mono _ _
   | exact LeO.none _
   | refine LeO.ite ?_ ?_
   | refine LeO.bind ?_ (fun _ => ?_)
theorem lapidaryref08_Neg.mono : ∀ a0 k, LeO (lapidaryref08_Neg.f k a0) (lapidaryref08_Neg.f (k + 1) a0) := by
 intro a0 k
 have ih0 := lapidaryref08_Neg.mono_l k
 unfold lapidaryref08_Neg.f
 repeat' first
   | (with_reducible exact ih0 _ _ _)
   | (with_reducible exact lapidaryref08_Add.mono _ _ _)
   | (with_reducible exact lapidaryref08_Of.mono _ _)
   | (with_reducible exact LeO.refl _)
   | (with_reducible exact LeO.none _)
   | (with_reducible refine LeO.ite ?_ ?_)
   | (with_reducible refine LeO.bind ?_ (fun _ => ?_))
   | exact ih0 _ _ _
   | exact lapidaryref08_Add.mono _ _ _
   | exact lapidaryref08_Of.mono _ _
   | exact LeO.none _
   | refine LeO.ite ?_ ?_
   | refine LeO.bind ?_ (fun _ => ?_)
set_option maxHeartbeats 8000000 in
set_option maxRecDepth 100000 in
theorem lapidaryref08_Neg.calls (k : Nat) (A0_0 : Option Addr) (c0_0 : Nat) (l0_0 : List Int) (r : List Int) (w : World) (hr0_0 : Kd.C (Kd.int .i64) w A0_0 l0_0.length l0_0) (hc0_0 : l0_0.length ≤ c0_0) (h : lapidaryref08_Neg.f k l0_0 = some r) :
  Calls Try.prog 39 #[.agg #[.slice A0_0 l0_0.length c0_0]] w fun e w' => ∃ v0_ : Value, e = .returned (.agg #[v0_]) ∧ Kd.R (Kd.int .i64) 3 w' w.heap.size (fun _ => True) v0_ r ∧ Below w.heap.size w w' := by
 have hu36 := Try.underlying36
 have HR0_0 := Aside0.mk hr0_0
 have HC0_0 := Aside0.mk hc0_0
 clear hr0_0 hc0_0
 have HB := Aside0.mk (Below.refl w.heap.size w)
 have H : (lapidaryref08_Neg.l0 k ([] : List Int) 0 l0_0) = some r := h
 clear h
 have H' := Aside0.mk H
 clear H
 go_enter Try.func39, Try.ntmps39
 go_wp2_with (first | ((with_reducible refine gate_dst (N := 1) rfl ?_); refine box_event ?hg (N := 1) ?hd (cs := #[.slice A0_0 l0_0.length c0_0]) (t := 36) ?hr ?_; (case hd => rfl); (case hg => rfl); (case hr => first | (go_simp; done) | (go_simp; rfl)); intro gb388 hg w2 hbox hb; have n0_ := Aside0.mk (below_step (bH HB) hb); have n1_ := Aside0.mk (hbox); have n2_ := Aside0.mk ((by rw [hg]; exact (below_size (bH HB)) : w.heap.size ≤ gb388)); have n3_ := n2_; clear HB; have HB := n0_; have BK388 := n1_; have GW388 := n2_; have GE388 := n3_; clear n0_ n1_ n2_ n3_; clear hb hbox hg) | ((with_reducible refine gate_dst (N := 2) rfl ?_); refine box_event ?hg (N := 2) ?hd (cs := #[.slice none 0 0]) (t := 36) ?hr ?_; (case hd => rfl); (case hg => rfl); (case hr => first | (go_simp; done) | (go_simp; rfl)); intro gb389 hg w3 hbox hb; have n0_ := Aside0.mk (blk_below (g := gb388) (o := .cells #[.slice A0_0 l0_0.length c0_0] 36 (0, 0)) (bK BK388) hb); have n1_ := Aside0.mk (below_step (bH HB) hb); have n2_ := Aside0.mk (hbox); have n3_ := Aside0.mk ((by rw [hg]; exact (below_size (bH HB)) : w.heap.size ≤ gb389)); have n4_ := n3_; have n5_ := Aside0.mk ((by rw [hg]; exact Nat.ne_of_lt (blk_lt (bK BK388)) : gb388 ≠ gb389)); have n6_ := Aside0.mk ((by rw [hg]; exact Nat.ne_of_gt (blk_lt (bK BK388)) : gb389 ≠ gb388)); clear BK388; clear HB; have BK388 := n0_; have HB := n1_; have BK389 := n2_; have GW389 := n3_; have GE389 := n4_; have NB388_389 := n5_; have NB389_388 := n6_; clear n0_ n1_ n2_ n3_ n4_ n5_ n6_; clear hb hbox hg))
 go_loopg [3, 4] k (fun kq v3 v4 w' => ∃ (x3_1 : List Int) (x4_1 : Int), v4 = .int .i64 x4_1 ∧ Aside0 (lapidaryref08_Neg.l0 kq x3_1 x4_1 l0_0 = some r) ∧ Aside0 (kq ≤ k) ∧ Aside0 (Kd.R (Kd.int .i64) 3 w' w.heap.size (fun _ => True) v3 x3_1) ∧ Aside0 (w'.heap[gb388]? = some (.cells #[(.slice A0_0 l0_0.length c0_0)] 36 (0, 0))) ∧ Aside0 (w'.heap[gb389]? = some (.cells #[(.slice none 0 0)] 36 (0, 0))) ∧ Aside0 (Below w.heap.size w w'))
 case atStart => exact ⟨(([] : List Int)), (0), (by first | rfl | (simp; done) | (simp [*]; done)), H', ⟨Nat.le_refl _⟩, ⟨by first | exact Kd.R_nil _ _ _ _ _ | exact Kd.N_nil _ _ _ _ _ | exact Kd.V_nil _ _ _ _ _ | exact Kd.Q_nil _ _ _ _ _ | exact Kd.S_nil _ _ _ _ _⟩, ⟨bK BK388⟩, ⟨bK BK389⟩, ⟨ bH HB⟩⟩
 case round =>
  clear H'
  try clear p2
  try clear c3
  obtain ⟨x3_1, x4_1, rfl, HA, HK1, HO_3, BK388, BK389, HB⟩ := hrel
  cases gk with
  | zero => exact absurd HA.out (by simp [lapidaryref08_Neg.l0])
  | succ k1 =>
   have H := HA.out
   clear HA
   simp only [lapidaryref08_Neg.l0] at H
   by_cases c4 : x4_1 < 8
   ·rw [if_pos c4] at H
    have c4b0 : decide (x4_1 < 8) = true := decide_eq_true c4
    clear c4
    by_cases c5 : 0 ≤ x4_1
    ·rw [if_pos c5] at H
     have c5b0 : decide (0 ≤ x4_1) = true := decide_eq_true c5
     clear c5
     by_cases c6 : x4_1 < (l0_0.length : Int)
     ·rw [if_pos c6] at H
      have c6b0 : decide (x4_1 < (l0_0.length : Int)) = true := decide_eq_true c6
      clear c6
      by_cases c7 : x3_1.length < 17592186044416
      ·rw [if_pos c7] at H
       have LMc7 := Aside0.mk c7
       clear c7
       obtain ⟨y391, hy391⟩ : ∃ y_ : List Int, y_ = (x3_1 ++ [wrap64 (65535 - (rd l0_0 x4_1))]) := ⟨_, rfl⟩
       replace H : (lapidaryref08_Neg.l0 k1 y391 (wrap64 (x4_1 + 1)) l0_0) = some r := by first | (rw [hy391]; with_reducible exact H) | (have H2_ := (Option.bind_some _ _).symm.trans H; rw [hy391]; with_reducible exact H2_) | (have H2_ := (Option.bind_some _ _).symm.trans H; with_reducible exact H2_) | with_reducible exact H | (rw [hy391]; exact H) | exact H
       have Ny391 := Aside0.mk hy391
       clear hy391
       have H' := Aside0.mk H
       clear H
       have hnb8 := NB388_389.out
       have hnc8 := NB389_388.out
       have hcz9_0 : wr.cell? ⟨gb388, 0, none⟩ = some (.slice A0_0 l0_0.length c0_0) := (blk_cell BK388.out 0).trans rfl
       have hfz9_0 := blk_frozen BK388.out 0
       have p390 : 0 ≤ (x4_1 : Int) := of_decide_eq_true (by first | (with_reducible assumption) | assumption)
       have q390 : x4_1 < (l0_0.length : Int) := of_decide_eq_true (by first | (with_reducible assumption) | assumption)
       obtain ⟨ad390, e390, hx390_0⟩ := Kd.at_int HR0_0.out x4_1 p390 q390
       cases e390
       replace hx390_0 := (HB.out.cell (World.block_lt_of_cell? w _ hx390_0)).trans hx390_0
       replace p390 := eq_true p390
       replace q390 := eq_true q390
       go_wp2_with (first | ((with_reducible refine gate_builtin (b := .append) (xs := #[.tmp 9, .tmp 16]) rfl ?_); at_builtin; refine Kd.R_append (Kd.int .i64) (w0 := w) w.heap.size rfl (.tmp 9) (.tmp 16) 34 3 (.int .i64 0) 8 rfl Try.underlying34 info3 rfl (by decide) (by omega) u3 x3_1 (wrap64 (65535 - (rd l0_0 x4_1))) [.int .i64 (wrap64 (65535 - (rd l0_0 x4_1)))] (fun _ => True) (fun _ => False) rfl rfl ?aP (fun _ hk => hk.elim) ?aF ?aO ?aB ?aS ?aL ?_; (case aP => exact rfl); (case aB => exact (bH HB)); (case aF => exact (fun _ _ => trivial)); (case aO => exact (rK HO_3)); (case aS => exact (below_size (bH HB))); (case aL => have := LMc7.out; omega); intro v392 w10 ho hb hg hat; rw [← Ny391.out] at ho; have n0_ := Aside0.mk (blk_grown (g := gb388) (o := .cells #[.slice (some ad390) l0_0.length c0_0] 36 (0, 0)) (bK BK388) hg (Kd.R_ne HO_3.out BK388.out (by decide))); have n1_ := Aside0.mk (blk_grown (g := gb389) (o := .cells #[.slice none 0 0] 36 (0, 0)) (bK BK389) hg (Kd.R_ne HO_3.out BK389.out (by decide))); have n2_ := Aside0.mk (hb); have n3_ := Aside0.mk (ho); clear BK388; clear BK389; clear HB; clear HO_3; have BK388 := n0_; have BK389 := n1_; have HB := n2_; have HO393 := n3_; clear n0_ n1_ n2_ n3_; clear ho hb hg hat))
       go_roundg k1
       case measure => have := HK1.out; omega
       case rel => exact ⟨(y391), (wrap64 (x4_1 + 1)), (by first | rfl | (simp; done) | (simp [*]; done)), H', ⟨by have := HK1.out; omega⟩, ⟨by (with_reducible repeat (first | apply Kd.R_alloc | apply Kd.R_drewN | apply Kd.R_drew)); exact HO393.out⟩, ⟨bK BK388⟩, ⟨bK BK389⟩, ⟨ bH HB⟩⟩
      ·rw [if_neg c7] at H
       exact absurd H (by simp)
     ·rw [if_neg c6] at H
      exact absurd H (by simp)
    ·rw [if_neg c5] at H
     exact absurd H (by simp)
   ·rw [if_neg c4] at H
    have c4b0 : decide (x4_1 < 8) = false := decide_eq_false c4
    clear c4
    replace H := Option.bind_eq_some_iff.mp H
    obtain ⟨t394, A110, H⟩ := H
    replace H : ((lapidaryref08_Add.f k1 x3_1 t394).bind fun t397 => (some t397)) = some r := H
    have A11 := Aside0.mk A110
    clear A110
    replace H := Option.bind_eq_some_iff.mp H
    obtain ⟨t397, A120, H⟩ := H
    replace H : (some t397) = some r := H
    have A12 := Aside0.mk A120
    clear A120
    obtain rfl := Option.some.inj H
    obtain ⟨Ao13, co13, eo13⟩ := Kd.R_slice HO_3.out
    subst eo13
    go_wp2_with (first | ((with_reducible refine gate_callee (f := 36) rfl ?_); refine goesL_ (some 20) rfl rfl Try.func36 (by kernel_rfl) rfl #[.int .i64 1] rfl (by (try simp only [List.map_toArray, List.map_cons, List.map_nil]); first | done | rfl | (simp only [List.length_drop, List.length_take]; rfl)) ?_; (with_reducible refine (lapidaryref08_Of.calls k1 1 t394 _ A11.out).mono ?_); rintro e w14 ⟨v395, rfl, ho0, hb⟩; refine ⟨_, rfl, ?_⟩; have n0_ := Aside0.mk (Kd.R_elder' (rK HO_3) (Kd.R_base ho0) hb); have n1_ := Aside0.mk (Kd.R_lower (Kd.R_new' ho0 (Kd.R_lt (rK HO_3))) (below_size (bH HB))); have n2_ := Aside0.mk (blk_below (g := gb388) (o := .cells #[.slice A0_0 l0_0.length c0_0] 36 (0, 0)) (bK BK388) hb); have n3_ := Aside0.mk (blk_below (g := gb389) (o := .cells #[.slice none 0 0] 36 (0, 0)) (bK BK389) hb); have n4_ := Aside0.mk (below_step (bH HB) hb); clear HO_3; clear BK388; clear BK389; clear HB; have HO_3 := n0_; have HO396 := n1_; have BK388 := n2_; have BK389 := n3_; have HB := n4_; clear n0_ n1_ n2_ n3_ n4_; (try clear hb); (try clear hb2); (try clear hk); (try clear hi); (try clear ho0); obtain ⟨Ao15, co15, eo15⟩ := Kd.R_slice HO396.out; subst eo15) | ((with_reducible refine gate_callee (f := 37) rfl ?_); refine goesL_ (some 21) rfl rfl Try.func37 (by kernel_rfl) rfl #[.agg #[.slice Ao13 x3_1.length co13], .agg #[.slice Ao15 t394.length co15]] rfl (by (try simp only [List.map_toArray, List.map_cons, List.map_nil]); first | done | rfl | (simp only [List.length_drop, List.length_take]; rfl)) ?_; (with_reducible refine (lapidaryref08_Add.calls k1 _ _ x3_1 _ _ t394 t397 _ ?side1 ?side2 ?side3 ?side4 A12.out).mono ?_); (case side1 => repeat (first | exact (Kd.R_reads' HO_3.out).2.2 | (with_reducible refine Kd.C_alloc ?_ _) | (with_reducible refine Kd.C_drewN ?_ _) | (with_reducible refine Kd.C_drew ?_))); (case side2 => exact (Kd.R_reads' HO_3.out).2.1); (case side3 => repeat (first | exact (Kd.R_reads' HO396.out).2.2 | (with_reducible refine Kd.C_alloc ?_ _) | (with_reducible refine Kd.C_drewN ?_ _) | (with_reducible refine Kd.C_drew ?_))); (case side4 => exact (Kd.R_reads' HO396.out).2.1); rintro e w16 ⟨v398, rfl, ho0, hb⟩; refine ⟨_, rfl, ?_⟩; have n0_ := Aside0.mk (Kd.R_elder' (rK HO_3) (Kd.R_base ho0) hb); have n1_ := Aside0.mk (Kd.R_elder' (rK HO396) (Kd.R_base ho0) hb); have n2_ := Aside0.mk (Kd.R_lower (Kd.R_new' (Kd.R_new' ho0 (Kd.R_lt (rK HO_3))) (Kd.R_lt (rK HO396))) (below_size (bH HB))); have n3_ := Aside0.mk (blk_below (g := gb388) (o := .cells #[.slice A0_0 l0_0.length c0_0] 36 (0, 0)) (bK BK388) hb); have n4_ := Aside0.mk (blk_below (g := gb389) (o := .cells #[.slice none 0 0] 36 (0, 0)) (bK BK389) hb); have n5_ := Aside0.mk (below_step (bH HB) hb); clear HO_3; clear HO396; clear BK388; clear BK389; clear HB; have HO_3 := n0_; have HO396 := n1_; have HO399 := n2_; have BK388 := n3_; have BK389 := n4_; have HB := n5_; clear n0_ n1_ n2_ n3_ n4_ n5_; (try clear hb); (try clear hb2); (try clear hk); (try clear hi); (try clear ho0); obtain ⟨Ao17, co17, eo17⟩ := Kd.R_slice HO399.out; subst eo17; have hnb18 := NB389_388.out; have hnc18 := NB388_389.out; have hcz19_0 : w16.cell? ⟨gb389, 0, none⟩ = some (.slice none 0 0) := (blk_cell BK389.out 0).trans rfl; have hfz19_0 := blk_frozen BK389.out 0))
    refine bodyPost_ret (results_cell_row rfl _ _ gb389 36 #[.slice Ao17 t397.length co17] (0, 0) _ rfl (by (with_reducible repeat (first | refine blk_drewN ?_ _ | refine blk_drew ?_ | refine blk_alloc ?_ _)); refine blk_put (cs := #[.slice none 0 0]) ?_ 0 _ rfl; (with_reducible repeat (first | refine blk_drewN ?_ _ | refine blk_drew ?_ | refine blk_alloc ?_ _)); exact BK389.out) Try.underlying36 rfl (by kernel_rfl)) rfl ?_
    exact ⟨_, by first | rfl | (simp [errW_none, errW_some] <;> rfl) | (simp [*, errW_none, errW_some] <;> rfl), by (with_reducible repeat (first | apply Kd.R_alloc | apply Kd.R_drewN | apply Kd.R_drew)); exact Kd.R_mono (Kd.R_far (p := ⟨gb389, 0, none⟩) (Kd.R_types HO399.out BK389.out (by decide)) (fun _ hk => hk.2) (.slice Ao17 t397.length co17)) (fun _ hk => trivial), bH HB⟩

end Go.Proofs.Ytlnjbpapbifjfaa.P
