/- Written for this claim by a program of this session (a turned copy of the print): Go functions as Lean functions, and that the Go code comes to just these answers; or a statement proved out of them. No condition. -/
import Derived.Test.YtlnjbpapbifjfaaPx0
import Derived.Test.YtlnjbpapbifjfaaPx19
namespace Go.Proofs.Ytlnjbpapbifjfaa.P
open Go.RowKit Go.Proofs.YtlnjbpapbifjfaaW.PrintWords Go.Proofs.YtlnjbpapbifjfaaW.PrintLast Go.Proofs.YtlnjbpapbifjfaaW.PrintMore Go.Proofs.Ytlnjbpapbifjfaa.X
attribute [local go_sem] max2_int min2_int max_two min_two max_three min_three max_four min_four add64_0 add64_1 add64   -- for this text's walks alone
set_option linter.unusedVariables false
set_option linter.unusedSimpArgs false

/-! ### lapidaryref08_From: function 35 -/
def lapidaryref08_From.l0 : Nat → Int → List Int → Int → List Int → Option (List Int)
 | 0, _, _, _, _ => none
 | k + 1, x1, x6, x7, x362000 => if x7 < 4 then (if x6.length < 17592186044416 then (lapidaryref08_From.l0 k (IntKind.u64.wrap (Int.tdiv x1 65536)) (x6 ++ [wrap64 (Int.tmod x1 65536)]) (wrap64 (x7 + 1)) x362000) else (none)) else (if 4 ≤ (x362000.length : Int) then ((some (x362000.take 4 : List Int)).bind fun y365 => (if x6.length + y365.length < 17592186044416 then (some (x6 ++ y365)) else (none))) else (none))
def lapidaryref08_From.f (k : Nat) (a0 : Int) (a1 : Int) : Option (List Int) := (lapidaryref08_Of.f k a0).bind fun t358 => (lapidaryref08_From.l0 k a1 ([] : List Int) 0 t358)
theorem lapidaryref08_From.mono_l : ∀ k, (∀ y0 y1 y2 y3, LeO (lapidaryref08_From.l0 k y0 y1 y2 y3) (lapidaryref08_From.l0 (k + 1) y0 y1 y2 y3))
 | 0 => fun _ _ _ _ r h => by simp [lapidaryref08_From.l0] at h
 | k + 1 => by
  have ih0 := lapidaryref08_From.mono_l k
  ·intro y0 y1 y2 y3
   unfold lapidaryref08_From.l0
   repeat' first
   | (with_reducible exact ih0 _ _ _ _)
   | (with_reducible exact lapidaryref08_Of.mono _ _)
   | (with_reducible exact LeO.refl _)
   | (with_reducible exact LeO.none _)
   | (with_reducible refine LeO.ite ?_ ?_)
   | (with_reducible refine LeO.bind ?_ (fun _ => ?_))
   | exact ih0 _ _ _ _
   | exact lapidaryref08_Of.mono _ _
   | exact LeO.none _
   | refine LeO.ite ?_ ?_
   | refine LeO.bind ?_ (fun _ => ?_)
theorem lapidaryref08_From.mono : ∀ a0 a1 k, LeO (lapidaryref08_From.f k a0 a1) (lapidaryref08_From.f (k + 1) a0 a1) := by
 intro a0 a1 k
 have ih0 := lapidaryref08_From.mono_l k
 unfold lapidaryref08_From.f
 repeat' first
   | (with_reducible exact ih0 _ _ _ _)
   | (with_reducible exact lapidaryref08_Of.mono _ _)
   | (with_reducible exact LeO.refl _)
   | (with_reducible exact LeO.none _)
   | (with_reducible refine LeO.ite ?_ ?_)
   | (with_reducible refine LeO.bind ?_ (fun _ => ?_))
   | exact ih0 _ _ _ _
   | exact lapidaryref08_Of.mono _ _
   | exact LeO.none _
   | refine LeO.ite ?_ ?_
   | refine LeO.bind ?_ (fun _ => ?_)
set_option maxHeartbeats 8000000 in
set_option maxRecDepth 100000 in
theorem lapidaryref08_From.calls (k : Nat) (a0 : Int) (a1 : Int) (r : List Int) (w : World) (h : lapidaryref08_From.f k a0 a1 = some r) :
  Calls Try.prog 35 #[.int .i64 a0, .int .u64 a1] w fun e w' => ∃ v0_ : Value, e = .returned (.agg #[v0_]) ∧ Kd.R (Kd.int .i64) 3 w' w.heap.size (fun _ => True) v0_ r ∧ Below w.heap.size w w' := by
 have hu36 := Try.underlying36
 have HB := Aside0.mk (Below.refl w.heap.size w)
 have H : ((lapidaryref08_Of.f k a0).bind fun t358 => (lapidaryref08_From.l0 k a1 ([] : List Int) 0 t358)) = some r := h
 clear h
 replace H := Option.bind_eq_some_iff.mp H
 obtain ⟨t358, A30, H⟩ := H
 replace H : (lapidaryref08_From.l0 k a1 ([] : List Int) 0 t358) = some r := H
 have A3 := Aside0.mk A30
 clear A30
 have H' := Aside0.mk H
 clear H
 go_enter Try.func35, Try.ntmps35
 go_wp2_with (first | ((with_reducible refine gate_dst (N := 4) rfl ?_); refine box_event ?hg (N := 4) ?hd (cs := #[.slice none 0 0]) (t := 36) ?hr ?_; (case hd => rfl); (case hg => rfl); (case hr => first | (go_simp; done) | (go_simp; rfl)); intro gb357 hg w4 hbox hb; have n0_ := Aside0.mk (below_step (bH HB) hb); have n1_ := Aside0.mk (hbox); have n2_ := Aside0.mk ((by rw [hg]; exact (below_size (bH HB)) : w.heap.size ≤ gb357)); have n3_ := n2_; clear HB; have HB := n0_; have BK357 := n1_; have GW357 := n2_; have GE357 := n3_; clear n0_ n1_ n2_ n3_; clear hb hbox hg) | ((with_reducible refine gate_callee (f := 36) rfl ?_); refine goesL_ (some 9) rfl rfl Try.func36 (by kernel_rfl) rfl #[.int .i64 a0] rfl (by (try simp only [List.map_toArray, List.map_cons, List.map_nil]); first | done | rfl | (simp only [List.length_drop, List.length_take]; rfl)) ?_; (with_reducible refine (lapidaryref08_Of.calls k a0 t358 _ A3.out).mono ?_); rintro e w5 ⟨v359, rfl, ho0, hb⟩; refine ⟨_, rfl, ?_⟩; have n0_ := Aside0.mk (Kd.R_lower ho0 (below_size (bH HB))); have n1_ := Aside0.mk (blk_below (g := gb357) (o := .cells #[.slice none 0 0] 36 (0, 0)) (bK BK357) hb); have n2_ := Aside0.mk (below_step (bH HB) hb); clear BK357; clear HB; have HO360 := n0_; have BK357 := n1_; have HB := n2_; clear n0_ n1_ n2_; (try clear hb); (try clear hb2); (try clear hk); (try clear hi); (try clear ho0)) | ((with_reducible refine gate_dst (N := 5) rfl ?_); refine box_event ?hg (N := 5) ?hd (cs := #[.slice none 0 0]) (t := 36) ?hr ?_; (case hd => rfl); (case hg => rfl); (case hr => first | (go_simp; done) | (go_simp; rfl)); intro gb361 hg w6 hbox hb; have n0_ := Aside0.mk (Kd.R_below (rK HO360) hb); have n1_ := Aside0.mk (blk_below (g := gb357) (o := .cells #[.slice none 0 0] 36 (0, 0)) (bK BK357) hb); have n2_ := Aside0.mk (below_step (bH HB) hb); have n3_ := Aside0.mk (hbox); have n4_ := Aside0.mk ((by rw [hg]; exact (below_size (bH HB)) : w.heap.size ≤ gb361)); have n5_ := n4_; have n6_ := Aside0.mk ((by rw [hg]; exact Nat.ne_of_lt (blk_lt (bK BK357)) : gb357 ≠ gb361)); have n7_ := Aside0.mk ((by rw [hg]; exact Nat.ne_of_gt (blk_lt (bK BK357)) : gb361 ≠ gb357)); clear HO360; clear BK357; clear HB; have HO360 := n0_; have BK357 := n1_; have HB := n2_; have BK361 := n3_; have GW361 := n4_; have GE361 := n5_; have NB357_361 := n6_; have NB361_357 := n7_; clear n0_ n1_ n2_ n3_ n4_ n5_ n6_ n7_; clear hb hbox hg; obtain ⟨Ao7, co7, eo7⟩ := Kd.R_slice HO360.out; subst eo7; have hnb8 := NB361_357.out; have hnc8 := NB357_361.out; have hcz9_0 : w6.cell? ⟨gb361, 0, none⟩ = some (.slice none 0 0) := (blk_cell BK361.out 0).trans rfl; have hfz9_0 := blk_frozen BK361.out 0))
 go_loopg [1, 6, 7] k (fun kq v1 v6 v7 w' => ∃ (x1_1 : Int) (x6_1 : List Int) (x7_1 : Int), v1 = .int .u64 x1_1 ∧ v7 = .int .i64 x7_1 ∧ Aside0 (lapidaryref08_From.l0 kq x1_1 x6_1 x7_1 t358 = some r) ∧ Aside0 (kq ≤ k) ∧ Aside0 (Kd.R (Kd.int .i64) 3 w' w.heap.size (fun k_ => some k_ ≠ ((.slice Ao7 t358.length co7) : Value).ownBlock) v6 x6_1) ∧ Aside0 (Kd.R (Kd.int .i64) 3 w' w.heap.size (fun k_ => some k_ ≠ (v6 : Value).ownBlock) (.slice Ao7 t358.length co7) t358) ∧ Aside0 (w'.heap[gb357]? = some (.cells #[(.slice none 0 0)] 36 (0, 0))) ∧ Aside0 (w'.heap[gb361]? = some (.cells #[(.slice Ao7 t358.length co7)] 36 (0, 0))) ∧ Aside0 (Below w.heap.size w w'))
 case atStart => exact ⟨(a1), (([] : List Int)), (0), (by first | rfl | (simp; done) | (simp [*]; done)), (by first | rfl | (simp; done) | (simp [*]; done)), H', ⟨Nat.le_refl _⟩, ⟨by first | exact Kd.R_nil _ _ _ _ _ | exact Kd.N_nil _ _ _ _ _ | exact Kd.V_nil _ _ _ _ _ | exact Kd.Q_nil _ _ _ _ _ | exact Kd.S_nil _ _ _ _ _⟩, ⟨by (with_reducible repeat (first | apply Kd.R_alloc | apply Kd.R_drewN | apply Kd.R_drew)); exact Kd.R_mono (Kd.R_far (p := ⟨gb361, 0, none⟩) (Kd.R_types HO360.out BK361.out (by decide)) (fun _ hk => hk.2) (.slice Ao7 t358.length co7)) (fun _ hk => (by simp [Value.ownBlock]))⟩, ⟨bK BK357⟩, ⟨by (with_reducible repeat (first | refine blk_drewN ?_ _ | refine blk_drew ?_ | refine blk_alloc ?_ _)); refine blk_put (cs := #[.slice none 0 0]) ?_ 0 _ rfl; (with_reducible repeat (first | refine blk_drewN ?_ _ | refine blk_drew ?_ | refine blk_alloc ?_ _)); exact BK361.out⟩, ⟨ bH HB⟩⟩
 case round =>
  clear H'
  try clear p2
  try clear c3
  try clear c8
  try clear hcz9_0
  try clear hfz9_0
  obtain ⟨x1_1, x6_1, x7_1, rfl, rfl, HA, HK1, HO_6, HO_362000, BK357, BK361, HB⟩ := hrel
  cases gk with
  | zero => exact absurd HA.out (by simp [lapidaryref08_From.l0])
  | succ k1 =>
   have H := HA.out
   clear HA
   simp only [lapidaryref08_From.l0] at H
   by_cases c10 : x7_1 < 4
   ·rw [if_pos c10] at H
    have c10b0 : decide (x7_1 < 4) = true := decide_eq_true c10
    clear c10
    by_cases c11 : x6_1.length < 17592186044416
    ·rw [if_pos c11] at H
     have LMc11 := Aside0.mk c11
     clear c11
     obtain ⟨y362, hy362⟩ : ∃ y_ : List Int, y_ = (x6_1 ++ [wrap64 (Int.tmod x1_1 65536)]) := ⟨_, rfl⟩
     replace H : (lapidaryref08_From.l0 k1 (IntKind.u64.wrap (Int.tdiv x1_1 65536)) y362 (wrap64 (x7_1 + 1)) t358) = some r := by first | (rw [hy362]; with_reducible exact H) | (have H2_ := (Option.bind_some _ _).symm.trans H; rw [hy362]; with_reducible exact H2_) | (have H2_ := (Option.bind_some _ _).symm.trans H; with_reducible exact H2_) | with_reducible exact H | (rw [hy362]; exact H) | exact H
     have Ny362 := Aside0.mk hy362
     clear hy362
     have H' := Aside0.mk H
     clear H
     go_wp2_with (first | ((with_reducible refine gate_builtin (b := .append) (xs := #[.tmp 14, .tmp 18]) rfl ?_); at_builtin; refine Kd.R_append (Kd.int .i64) (w0 := w) w.heap.size rfl (.tmp 14) (.tmp 18) 34 3 (.int .i64 0) 8 rfl Try.underlying34 info3 rfl (by decide) (by omega) u6 x6_1 (wrap64 (Int.tmod x1_1 65536)) [.int .i64 (wrap64 (Int.tmod x1_1 65536))] (fun k_ => some k_ ≠ (.slice Ao7 t358.length co7 : Value).ownBlock) (fun _ => False) rfl rfl ?aP (fun _ hk => hk.elim) ?aF ?aO ?aB ?aS ?aL ?_; (case aP => exact rfl); (case aB => exact (bH HB)); (case aF => exact (fun k_ hk => Kd.fresh' (Kd.R_lt (rK HO_362000)) k_ hk)); (case aO => exact (rK HO_6)); (case aS => exact (below_size (bH HB))); (case aL => have := LMc11.out; omega); intro v363 w12 ho hb hg hat; rw [← Ny362.out] at ho; have n0_ := Aside0.mk (Kd.R_after (ok := (fun _ => True)) (by (with_reducible repeat (first | apply Kd.R_alloc | apply Kd.R_drewN | apply Kd.R_drew)); exact Kd.R_mono HO_362000.out (fun _ hk => ⟨trivial, hk⟩)) hg hat); have n1_ := Aside0.mk (blk_grown (g := gb357) (o := .cells #[.slice none 0 0] 36 (0, 0)) (bK BK357) hg (Kd.R_ne HO_6.out BK357.out (by decide))); have n2_ := Aside0.mk (blk_grown (g := gb361) (o := .cells #[.slice Ao7 t358.length co7] 36 (0, 0)) (bK BK361) hg (Kd.R_ne HO_6.out BK361.out (by decide))); have n3_ := Aside0.mk (hb); have n4_ := Aside0.mk (ho); clear HO_362000; clear BK357; clear BK361; clear HB; clear HO_6; have HO_362000 := n0_; have BK357 := n1_; have BK361 := n2_; have HB := n3_; have HO364 := n4_; clear n0_ n1_ n2_ n3_ n4_; clear ho hb hg hat))
     go_roundg k1
     case measure => have := HK1.out; omega
     case rel => exact ⟨(IntKind.u64.wrap (Int.tdiv x1_1 65536)), (y362), (wrap64 (x7_1 + 1)), (by first | rfl | (simp; done) | (simp [*]; done)), (by first | rfl | (simp; done) | (simp [*]; done)), H', ⟨by have := HK1.out; omega⟩, ⟨by (with_reducible repeat (first | apply Kd.R_alloc | apply Kd.R_drewN | apply Kd.R_drew)); exact HO364.out⟩, ⟨by (with_reducible repeat (first | apply Kd.R_alloc | apply Kd.R_drewN | apply Kd.R_drew)); exact Kd.R_mono HO_362000.out (fun _ hk => hk.2)⟩, ⟨bK BK357⟩, ⟨bK BK361⟩, ⟨ bH HB⟩⟩
    ·rw [if_neg c11] at H
     exact absurd H (by simp)
   ·rw [if_neg c10] at H
    have c10b0 : decide (x7_1 < 4) = false := decide_eq_false c10
    clear c10
    by_cases c13 : 4 ≤ (t358.length : Int)
    ·rw [if_pos c13] at H
     have c13b0 := eq_true c13
     have c13b1 : decide (4 ≤ (t358.length : Int)) = true := decide_eq_true c13
     clear c13
     obtain ⟨y365, hy365⟩ : ∃ y_ : List Int, y_ = (t358.take 4) := ⟨_, rfl⟩
     replace H : (if x6_1.length + y365.length < 17592186044416 then (some (x6_1 ++ y365)) else (none)) = some r := by first | (rw [hy365]; with_reducible exact H) | (have H2_ := (Option.bind_some _ _).symm.trans H; rw [hy365]; with_reducible exact H2_) | (have H2_ := (Option.bind_some _ _).symm.trans H; with_reducible exact H2_) | with_reducible exact H | (rw [hy365]; exact H) | exact H
     have Ny365 := Aside0.mk hy365
     clear hy365
     by_cases c14 : x6_1.length + y365.length < 17592186044416
     ·rw [if_pos c14] at H
      have LMc14 := Aside0.mk c14
      clear c14
      obtain ⟨y369, hy369⟩ : ∃ y_ : List Int, y_ = (x6_1 ++ y365) := ⟨_, rfl⟩
      replace H : (some y369) = some r := by first | (rw [hy369]; with_reducible exact H) | (have H2_ := (Option.bind_some _ _).symm.trans H; rw [hy369]; with_reducible exact H2_) | (have H2_ := (Option.bind_some _ _).symm.trans H; with_reducible exact H2_) | with_reducible exact H | (rw [hy369]; exact H) | exact H
      have Ny369 := Aside0.mk hy369
      clear hy369
      obtain rfl := Option.some.inj H
      have hnb15 := NB361_357.out
      have hnc15 := NB357_361.out
      have hcz16_0 : wr.cell? ⟨gb361, 0, none⟩ = some (.slice Ao7 t358.length co7) := (blk_cell BK361.out 0).trans rfl
      have hfz16_0 := blk_frozen BK361.out 0
      have q17 : (4 : Int) ≤ ((t358.length : Int) : Int) := of_decide_eq_true (by first | (with_reducible assumption) | assumption)
      obtain ⟨i017, hi017, _, hsz17, _⟩ := info_parts info3
      have hroom17 : t358.length ≤ co7 := (Kd.R_reads' HO_362000.out).2.1
      have hC17 : Kd.C (Kd.int .i64) _ Ao7 t358.length t358 := (Kd.R_reads' HO_362000.out).2.2
      have hcut17 := cut_to (P := Try.prog) 34 3 .i64 Try.underlying34 hi017 Ao7 t358.length co7 4 (by omega) q17 hroom17
      have hr17 := Kd.C_take (m := 4) hC17 (by omega)
      have hy17 : y365.length = (4 : Int).toNat := (by rw [Ny365.out, List.length_take]; omega)
      rw [← Ny365.out] at hr17
      rw [← hy17] at hcut17
      have HR368 := Aside0.mk hr17
      have HC368 := Aside0.mk (show y365.length ≤ co7 from by omega)
      clear hr17 hC17 hroom17 hi017 hsz17
      have KY17 := Aside0.mk hy17
      clear hy17
      have KL17 := Aside0.mk (show 4 ≤ t358.length from by omega)
      replace q17 := eq_true q17
      go_wp2_with (first | ((with_reducible refine gate_builtin (b := .append) (xs := #[.tmp 22, .tmp 25]) rfl ?_); at_builtin; refine Kd.R_append_rows (Kd.int .i64) (w0 := w) w.heap.size rfl (.tmp 22) (.tmp 25) 34 3 (.int .i64 0) 8 rfl Try.underlying34 info3 rfl (by decide) (by omega) u6 x6_1 y365 _ _ _ (fun k_ => some k_ ≠ (.slice Ao7 t358.length co7 : Value).ownBlock) (fun _ => False) rfl rfl ?aO ?aR (fun _ _ h => h) (fun _ h => h.elim) ?aF ?aB ?aS ?aL ?_; (case aR => repeat (first | exact (by repeat (first | (with_reducible exact HR368.out) | (with_reducible refine Kd.C_alloc ?_ _) | (with_reducible refine Kd.C_drewN ?_ _) | (with_reducible refine Kd.C_drew ?_) | exact HR368.out)) | (with_reducible refine Kd.C_alloc ?_ _) | (with_reducible refine Kd.C_drewN ?_ _) | (with_reducible refine Kd.C_drew ?_))); (case aB => exact (bH HB)); (case aF => exact (fun k_ hk => Kd.fresh' (Kd.R_lt (rK HO_362000)) k_ hk)); (case aO => exact (rK HO_6)); (case aS => exact (below_size (bH HB))); (case aL => have := LMc14.out; omega); intro v370 w18 ho hb hg hat; rw [← Ny369.out] at ho; have n0_ := Aside0.mk (Kd.R_after (ok := (fun _ => True)) (by (with_reducible repeat (first | apply Kd.R_alloc | apply Kd.R_drewN | apply Kd.R_drew)); exact Kd.R_mono HO_362000.out (fun _ hk => ⟨trivial, hk⟩)) hg hat); have n1_ := Aside0.mk (blk_grown (g := gb357) (o := .cells #[.slice none 0 0] 36 (0, 0)) (bK BK357) hg (Kd.R_ne HO_6.out BK357.out (by decide))); have n2_ := Aside0.mk (blk_grown (g := gb361) (o := .cells #[.slice Ao7 t358.length co7] 36 (0, 0)) (bK BK361) hg (Kd.R_ne HO_6.out BK361.out (by decide))); have n3_ := Aside0.mk (hb); have n4_ := Aside0.mk ((show Kd.C (Kd.int .i64) w18 Ao7 y365.length y365 from by rw [Ny365.out]; exact Kd.C_take (m := 4) ((Kd.R_reads' (Kd.R_after (ok := (fun _ => True)) (by (with_reducible repeat (first | apply Kd.R_alloc | apply Kd.R_drewN | apply Kd.R_drew)); exact Kd.R_mono HO_362000.out (fun _ hk => ⟨trivial, hk⟩)) hg hat)).2.2) KL17.out)); have n5_ := Aside0.mk (ho); clear HO_362000; clear BK357; clear BK361; clear HB; clear HR368; clear HO_6; have HO_362000 := n0_; have BK357 := n1_; have BK361 := n2_; have HB := n3_; have HR368 := n4_; have HO371 := n5_; clear n0_ n1_ n2_ n3_ n4_ n5_; clear ho hb hg hat; obtain ⟨Ao19, co19, eo19⟩ := Kd.R_slice HO371.out; subst eo19; have hcz20_0 : w18.cell? ⟨gb357, 0, none⟩ = some (.slice none 0 0) := (blk_cell BK357.out 0).trans rfl; have hfz20_0 := blk_frozen BK357.out 0))
      refine bodyPost_ret (results_cell_row rfl _ _ gb357 36 #[.slice Ao19 y369.length co19] (0, 0) _ rfl (by (with_reducible repeat (first | refine blk_drewN ?_ _ | refine blk_drew ?_ | refine blk_alloc ?_ _)); refine blk_put (cs := #[.slice none 0 0]) ?_ 0 _ rfl; (with_reducible repeat (first | refine blk_drewN ?_ _ | refine blk_drew ?_ | refine blk_alloc ?_ _)); exact BK357.out) Try.underlying36 rfl (by kernel_rfl)) rfl ?_
      exact ⟨_, by first | rfl | (simp [errW_none, errW_some] <;> rfl) | (simp [*, errW_none, errW_some] <;> rfl), by (with_reducible repeat (first | apply Kd.R_alloc | apply Kd.R_drewN | apply Kd.R_drew)); exact Kd.R_mono (Kd.R_far (p := ⟨gb357, 0, none⟩) (Kd.R_types HO371.out BK357.out (by decide)) (fun _ hk => hk.2) (.slice Ao19 y369.length co19)) (fun _ hk => trivial), bH HB⟩
     ·rw [if_neg c14] at H
      exact absurd H (by simp)
    ·rw [if_neg c13] at H
     exact absurd H (by simp)

end Go.Proofs.Ytlnjbpapbifjfaa.P
