/- Written for this claim by a program of this session (a turned copy of the print): Go functions as Lean functions, and that the Go code comes to just these answers; or a statement proved out of them. No condition. -/
import Derived.Test.YtbonkedecfjmdaaZ2
import Derived.Test.YtbonkedecfjmdaaZ3
import Derived.Test.YtbonkedecfjmdaaZ13

namespace Go.Proofs.Ytbonkedecfjmdaa.P
open Go.RowKit Go.Proofs.YtbonkedecfjmdaaW.PrintWords Go.Proofs.YtbonkedecfjmdaaW.PrintLast Go.Proofs.YtbonkedecfjmdaaW.PrintMore Go.Proofs.Ytbonkedecfjmdaa.X
attribute [local go_sem] max2_int min2_int max_two min_two max_three min_three max_four min_four add64_0 add64_1 add64
set_option linter.unusedVariables false
set_option linter.unusedSimpArgs false
attribute [local go_sem high] eqA27
mutual
def geom_along.j0 : Nat → Int → Int → Int → Int → Int → Int → Int → Int → Int → Option (Int)
 | 0, _, _, _, _, _, _, _, _, _ => none
 | k + 1, x598000, x598001, x598002, x611000, x611001, x611002, x612000, x612001, x612002 => (geom_less.f x598000 x598001 x598002 x612000 x612001 x612002).bind fun t613 => (if t613 = true then (geom_along.j1 k x611000 x611001 x611002 x598000 x598001 x598002) else (geom_along.j1 k x611000 x611001 x611002 x612000 x612001 x612002))
def geom_along.j1 : Nat → Int → Int → Int → Int → Int → Int → Option (Int)
 | 0, _, _, _, _, _, _ => none
 | k + 1, x611000, x611001, x611002, x612000, x612001, x612002 => if (x611000 == x612000 && (x611001 == x612001 && (x611002 == x612002))) = true then (some 1) else ((geom_less.f x611000 x611001 x611002 x612000 x612001 x612002).bind fun t614 => (if t614 = true then (some 3) else (some 0)))
end
def geom_along.f (k : Nat) (a0_0 : Int) (a0_1 : Int) (a0_2 : Int) (a1_0 : Int) (a1_1 : Int) (a1_2 : Int) (a2_0 : Int) (a2_1 : Int) (a2_2 : Int) (a3_0 : Int) (a3_1 : Int) (a3_2 : Int) : Option (Int) := (geom_rising.f a0_0 a0_1 a0_2 a1_0 a1_1 a1_2).bind fun bt598 => ((geom_rising.f a2_0 a2_1 a2_2 a3_0 a3_1 a3_2).bind fun bt604 => ((geom_less.f bt598.1 bt598.2.1 bt598.2.2.1 bt604.1 bt604.2.1 bt604.2.2.1).bind fun t612 => (if t612 = true then (geom_along.j0 k bt604.2.2.2.1 bt604.2.2.2.2.1 bt604.2.2.2.2.2 bt604.1 bt604.2.1 bt604.2.2.1 bt598.2.2.2.1 bt598.2.2.2.2.1 bt598.2.2.2.2.2) else (geom_along.j0 k bt604.2.2.2.1 bt604.2.2.2.2.1 bt604.2.2.2.2.2 bt598.1 bt598.2.1 bt598.2.2.1 bt598.2.2.2.1 bt598.2.2.2.2.1 bt598.2.2.2.2.2))))
theorem geom_along.mono_l : ∀ k, (∀ y0 y1 y2 y3 y4 y5 y6 y7 y8, LeO (geom_along.j0 k y0 y1 y2 y3 y4 y5 y6 y7 y8) (geom_along.j0 (k + 1) y0 y1 y2 y3 y4 y5 y6 y7 y8)) ∧ (∀ y0 y1 y2 y3 y4 y5, LeO (geom_along.j1 k y0 y1 y2 y3 y4 y5) (geom_along.j1 (k + 1) y0 y1 y2 y3 y4 y5))
 | 0 => ⟨fun _ _ _ _ _ _ _ _ _ r h => by simp [geom_along.j0] at h, fun _ _ _ _ _ _ r h => by simp [geom_along.j1] at h⟩
 | k + 1 => by
  obtain ⟨ih0, ih1⟩ := geom_along.mono_l k
  refine ⟨?_, ?_⟩
  all_goals
   intros
   first | unfold geom_along.j0 | unfold geom_along.j1
   repeat' with_reducible first | exact ih0 _ _ _ _ _ _ _ _ _ | exact ih1 _ _ _ _ _ _ | exact LeO.refl _ | exact LeO.none _ | refine LeO.ite ?_ ?_ | refine LeO.bind ?_ (fun _ => ?_)
theorem geom_along.mono : ∀ a0 a1 a2 a3 a4 a5 a6 a7 a8 a9 a10 a11 k, LeO (geom_along.f k a0 a1 a2 a3 a4 a5 a6 a7 a8 a9 a10 a11) (geom_along.f (k + 1) a0 a1 a2 a3 a4 a5 a6 a7 a8 a9 a10 a11) := by
 intro a0 a1 a2 a3 a4 a5 a6 a7 a8 a9 a10 a11 k
 obtain ⟨ih0, ih1⟩ := geom_along.mono_l k
 unfold geom_along.f
 repeat' first
   | (with_reducible exact ih0 _ _ _ _ _ _ _ _ _)
   | (with_reducible exact ih1 _ _ _ _ _ _)
   | (with_reducible exact LeO.refl _)
   | (with_reducible exact LeO.none _)
   | (with_reducible refine LeO.ite ?_ ?_)
   | (with_reducible refine LeO.bind ?_ (fun _ => ?_))
   | exact ih0 _ _ _ _ _ _ _ _ _
   | exact ih1 _ _ _ _ _ _
   | exact LeO.none _
   | refine LeO.ite ?_ ?_
   | refine LeO.bind ?_ (fun _ => ?_)
set_option maxHeartbeats 8000000 in
set_option maxRecDepth 100000 in
theorem geom_along.calls (k : Nat) (a0_0 : Int) (a0_1 : Int) (a0_2 : Int) (a1_0 : Int) (a1_1 : Int) (a1_2 : Int) (a2_0 : Int) (a2_1 : Int) (a2_2 : Int) (a3_0 : Int) (a3_1 : Int) (a3_2 : Int) (r : Int) (w : World) (h : geom_along.f k a0_0 a0_1 a0_2 a1_0 a1_1 a1_2 a2_0 a2_1 a2_2 a3_0 a3_1 a3_2 = some r) :
  Calls Try.prog 87 #[.agg #[.int .i64 a0_0, .int .i64 a0_1, .int .i64 a0_2], .agg #[.int .i64 a1_0, .int .i64 a1_1, .int .i64 a1_2], .agg #[.int .i64 a2_0, .int .i64 a2_1, .int .i64 a2_2], .agg #[.int .i64 a3_0, .int .i64 a3_1, .int .i64 a3_2]] w fun e w' => e = .returned (.int .i64 r) ∧ Below w.heap.size w w' := by
 have hu27 := Try.underlying27
 have HB := AM (Below.refl w.heap.size w)
 have H : ((geom_rising.f a0_0 a0_1 a0_2 a1_0 a1_1 a1_2).bind fun bt598 => ((geom_rising.f a2_0 a2_1 a2_2 a3_0 a3_1 a3_2).bind fun bt604 => ((geom_less.f bt598.1 bt598.2.1 bt598.2.2.1 bt604.1 bt604.2.1 bt604.2.2.1).bind fun t612 => (if t612 = true then (geom_along.j0 k bt604.2.2.2.1 bt604.2.2.2.2.1 bt604.2.2.2.2.2 bt604.1 bt604.2.1 bt604.2.2.1 bt598.2.2.2.1 bt598.2.2.2.2.1 bt598.2.2.2.2.2) else (geom_along.j0 k bt604.2.2.2.1 bt604.2.2.2.2.1 bt604.2.2.2.2.2 bt598.1 bt598.2.1 bt598.2.2.1 bt598.2.2.2.1 bt598.2.2.2.2.1 bt598.2.2.2.2.2))))) = some r := h
 clear h
 obtain ⟨⟨t598, t599, t600, t601, t602, t603⟩, A5, H⟩ := bS H
 try dsimp only at H
 obtain ⟨⟨t604, t605, t606, t607, t608, t609⟩, A6, H⟩ := bS H
 try dsimp only at H
 obtain ⟨t612, A7, H⟩ := bS H
 have HC8 := AM H
 clear H
 go_enter Try.func87, Try.ntmps87
 try go_wp2_with (first | ((with_reducible refine gate_dst (N := 4) rfl ?_); refine bE 4 #[.int .i64 a0_0, .int .i64 a0_1, .int .i64 a0_2] 27 ?_; intro gb594 hg w9 hbox hb; have BK594 := AM hbox; have GW594 := kG HB hg; replace HB := kH HB hb; have GE594 := GW594; clear hb hbox hg) | ((with_reducible refine gate_dst (N := 5) rfl ?_); refine bE 5 #[.int .i64 a1_0, .int .i64 a1_1, .int .i64 a1_2] 27 ?_; intro gb595 hg w10 hbox hb; have BK595 := AM hbox; have GW595 := kG HB hg; replace HB := kH HB hb; have GE595 := GW595; have NB594_595 := kN BK594 hg; have NB595_594 := kM BK594 hg; replace BK594 := kB BK594 hb; clear hb hbox hg) | ((with_reducible refine gate_dst (N := 6) rfl ?_); refine bE 6 #[.int .i64 a2_0, .int .i64 a2_1, .int .i64 a2_2] 27 ?_; intro gb596 hg w11 hbox hb; have BK596 := AM hbox; have GW596 := kG HB hg; replace HB := kH HB hb; have GE596 := GW596; have NB594_596 := kN BK594 hg; have NB596_594 := kM BK594 hg; replace BK594 := kB BK594 hb; have NB595_596 := kN BK595 hg; have NB596_595 := kM BK595 hg; replace BK595 := kB BK595 hb; clear hb hbox hg) | ((with_reducible refine gate_dst (N := 7) rfl ?_); refine bE 7 #[.int .i64 a3_0, .int .i64 a3_1, .int .i64 a3_2] 27 ?_; intro gb597 hg w12 hbox hb; have BK597 := AM hbox; have GW597 := kG HB hg; replace HB := kH HB hb; have GE597 := GW597; have NB594_597 := kN BK594 hg; have NB597_594 := kM BK594 hg; replace BK594 := kB BK594 hb; have NB595_597 := kN BK595 hg; have NB597_595 := kM BK595 hg; replace BK595 := kB BK595 hb; have NB596_597 := kN BK596 hg; have NB597_596 := kM BK596 hg; replace BK596 := kB BK596 hb; clear hb hbox hg; have hnb13 := NB594_595.out; have hnc13 := NB595_594.out; have hnb14 := NB594_596.out; have hnc14 := NB596_594.out; have hnb15 := NB594_597.out; have hnc15 := NB597_594.out; obtain ⟨hcz16_0, hcz16_1, hcz16_2, hfz16_0, hfz16_1, hfz16_2⟩ := c3 BK594; have hnb17 := NB595_596.out; have hnc17 := NB596_595.out; have hnb18 := NB595_597.out; have hnc18 := NB597_595.out; obtain ⟨hcz19_0, hcz19_1, hcz19_2, hfz19_0, hfz19_1, hfz19_2⟩ := c3 BK595) | ((with_reducible refine gate_callee (f := 88) rfl ?_); refine gL (some 14) Try.func88 #[.agg #[.int .i64 a0_0, .int .i64 a0_1, .int .i64 a0_2], .agg #[.int .i64 a1_0, .int .i64 a1_1, .int .i64 a1_2]] ?_; (with_reducible refine (geom_rising.calls a0_0 a0_1 a0_2 a1_0 a1_1 a1_2 t598 t599 t600 t601 t602 t603 _ A5.out).mono ?_); rintro e w20 ⟨rfl, hb⟩; refine ⟨_, rfl, ?_⟩; replace BK594 := kB BK594 hb; replace BK595 := kB BK595 hb; replace BK596 := kB BK596 hb; replace BK597 := kB BK597 hb; replace HB := kH HB hb; (try clear hb); (try clear hb2); (try clear hk); (try clear hi); obtain ⟨hcz21_0, hcz21_1, hcz21_2, hfz21_0, hfz21_1, hfz21_2⟩ := c3 BK594; obtain ⟨hcz22_0, hcz22_1, hcz22_2, hfz22_0, hfz22_1, hfz22_2⟩ := c3 BK595; have hnb23 := NB596_597.out; have hnc23 := NB597_596.out; obtain ⟨hcz24_0, hcz24_1, hcz24_2, hfz24_0, hfz24_1, hfz24_2⟩ := c3 BK596; obtain ⟨hcz25_0, hcz25_1, hcz25_2, hfz25_0, hfz25_1, hfz25_2⟩ := c3 BK597) | ((with_reducible refine gate_callee (f := 88) rfl ?_); refine gL (some 20) Try.func88 #[.agg #[.int .i64 a2_0, .int .i64 a2_1, .int .i64 a2_2], .agg #[.int .i64 a3_0, .int .i64 a3_1, .int .i64 a3_2]] ?_; (with_reducible refine (geom_rising.calls a2_0 a2_1 a2_2 a3_0 a3_1 a3_2 t604 t605 t606 t607 t608 t609 _ A6.out).mono ?_); rintro e w26 ⟨rfl, hb⟩; refine ⟨_, rfl, ?_⟩; replace BK594 := AM (blk_below (g := gb594) (o := .cells #[.int .i64 t598, .int .i64 t599, .int .i64 t600] 27 (0, 0)) (by (with_reducible repeat (first | refine blk_drewN ?_ _ | refine blk_drew ?_ | refine blk_alloc ?_ _)); refine blk_far ?_ NB594_595.out _; (with_reducible repeat (first | refine blk_drewN ?_ _ | refine blk_drew ?_ | refine blk_alloc ?_ _)); refine blk_far ?_ NB594_595.out _; (with_reducible repeat (first | refine blk_drewN ?_ _ | refine blk_drew ?_ | refine blk_alloc ?_ _)); refine blk_far ?_ NB594_595.out _; (with_reducible repeat (first | refine blk_drewN ?_ _ | refine blk_drew ?_ | refine blk_alloc ?_ _)); refine blk_put (cs := #[.int .i64 t598, .int .i64 t599, .int .i64 a0_2]) ?_ 2 _ rfl; (with_reducible repeat (first | refine blk_drewN ?_ _ | refine blk_drew ?_ | refine blk_alloc ?_ _)); refine blk_put (cs := #[.int .i64 t598, .int .i64 a0_1, .int .i64 a0_2]) ?_ 1 _ rfl; (with_reducible repeat (first | refine blk_drewN ?_ _ | refine blk_drew ?_ | refine blk_alloc ?_ _)); refine blk_put (cs := #[.int .i64 a0_0, .int .i64 a0_1, .int .i64 a0_2]) ?_ 0 _ rfl; (with_reducible repeat (first | refine blk_drewN ?_ _ | refine blk_drew ?_ | refine blk_alloc ?_ _)); exact BK594.out) hb); replace BK595 := AM (blk_below (g := gb595) (o := .cells #[.int .i64 t601, .int .i64 t602, .int .i64 t603] 27 (0, 0)) (by (with_reducible repeat (first | refine blk_drewN ?_ _ | refine blk_drew ?_ | refine blk_alloc ?_ _)); refine blk_put (cs := #[.int .i64 t601, .int .i64 t602, .int .i64 a1_2]) ?_ 2 _ rfl; (with_reducible repeat (first | refine blk_drewN ?_ _ | refine blk_drew ?_ | refine blk_alloc ?_ _)); refine blk_put (cs := #[.int .i64 t601, .int .i64 a1_1, .int .i64 a1_2]) ?_ 1 _ rfl; (with_reducible repeat (first | refine blk_drewN ?_ _ | refine blk_drew ?_ | refine blk_alloc ?_ _)); refine blk_put (cs := #[.int .i64 a1_0, .int .i64 a1_1, .int .i64 a1_2]) ?_ 0 _ rfl; (with_reducible repeat (first | refine blk_drewN ?_ _ | refine blk_drew ?_ | refine blk_alloc ?_ _)); refine blk_far ?_ NB595_594.out _; (with_reducible repeat (first | refine blk_drewN ?_ _ | refine blk_drew ?_ | refine blk_alloc ?_ _)); refine blk_far ?_ NB595_594.out _; (with_reducible repeat (first | refine blk_drewN ?_ _ | refine blk_drew ?_ | refine blk_alloc ?_ _)); refine blk_far ?_ NB595_594.out _; (with_reducible repeat (first | refine blk_drewN ?_ _ | refine blk_drew ?_ | refine blk_alloc ?_ _)); exact BK595.out) hb); replace BK596 := kB BK596 hb; replace BK597 := kB BK597 hb; replace HB := kH HB hb; (try clear hb); (try clear hb2); (try clear hk); (try clear hi); obtain ⟨hcz27_0, hcz27_1, hcz27_2, hfz27_0, hfz27_1, hfz27_2⟩ := c3 BK596; obtain ⟨hcz28_0, hcz28_1, hcz28_2, hfz28_0, hfz28_1, hfz28_2⟩ := c3 BK597))
 have n0_ : Aside0 (((((((w26.setCell ⟨gb596, 0, none⟩ (.int .i64 t604)).setCell ⟨gb596, 1, none⟩ (.int .i64 t605)).setCell ⟨gb596, 2, none⟩ (.int .i64 t606)).setCell ⟨gb597, 0, none⟩ (.int .i64 t607)).setCell ⟨gb597, 1, none⟩ (.int .i64 t608)).setCell ⟨gb597, 2, none⟩ (.int .i64 t609)).heap[gb594]? = some (.cells #[.int .i64 t598, .int .i64 t599, .int .i64 t600] 27 (0, 0))) := ⟨bK BK594⟩
 have n1_ : Aside0 (((((((w26.setCell ⟨gb596, 0, none⟩ (.int .i64 t604)).setCell ⟨gb596, 1, none⟩ (.int .i64 t605)).setCell ⟨gb596, 2, none⟩ (.int .i64 t606)).setCell ⟨gb597, 0, none⟩ (.int .i64 t607)).setCell ⟨gb597, 1, none⟩ (.int .i64 t608)).setCell ⟨gb597, 2, none⟩ (.int .i64 t609)).heap[gb595]? = some (.cells #[.int .i64 t601, .int .i64 t602, .int .i64 t603] 27 (0, 0))) := ⟨bK BK595⟩
 have n2_ : Aside0 (((((((w26.setCell ⟨gb596, 0, none⟩ (.int .i64 t604)).setCell ⟨gb596, 1, none⟩ (.int .i64 t605)).setCell ⟨gb596, 2, none⟩ (.int .i64 t606)).setCell ⟨gb597, 0, none⟩ (.int .i64 t607)).setCell ⟨gb597, 1, none⟩ (.int .i64 t608)).setCell ⟨gb597, 2, none⟩ (.int .i64 t609)).heap[gb596]? = some (.cells #[.int .i64 t604, .int .i64 t605, .int .i64 t606] 27 (0, 0))) := ⟨by (with_reducible repeat (first | refine blk_drewN ?_ _ | refine blk_drew ?_ | refine blk_alloc ?_ _)); refine blk_far ?_ NB596_597.out _; (with_reducible repeat (first | refine blk_drewN ?_ _ | refine blk_drew ?_ | refine blk_alloc ?_ _)); refine blk_far ?_ NB596_597.out _; (with_reducible repeat (first | refine blk_drewN ?_ _ | refine blk_drew ?_ | refine blk_alloc ?_ _)); refine blk_far ?_ NB596_597.out _; (with_reducible repeat (first | refine blk_drewN ?_ _ | refine blk_drew ?_ | refine blk_alloc ?_ _)); refine blk_put (cs := #[.int .i64 t604, .int .i64 t605, .int .i64 a2_2]) ?_ 2 _ rfl; (with_reducible repeat (first | refine blk_drewN ?_ _ | refine blk_drew ?_ | refine blk_alloc ?_ _)); refine blk_put (cs := #[.int .i64 t604, .int .i64 a2_1, .int .i64 a2_2]) ?_ 1 _ rfl; (with_reducible repeat (first | refine blk_drewN ?_ _ | refine blk_drew ?_ | refine blk_alloc ?_ _)); refine blk_put (cs := #[.int .i64 a2_0, .int .i64 a2_1, .int .i64 a2_2]) ?_ 0 _ rfl; (with_reducible repeat (first | refine blk_drewN ?_ _ | refine blk_drew ?_ | refine blk_alloc ?_ _)); exact BK596.out⟩
 have n3_ : Aside0 (((((((w26.setCell ⟨gb596, 0, none⟩ (.int .i64 t604)).setCell ⟨gb596, 1, none⟩ (.int .i64 t605)).setCell ⟨gb596, 2, none⟩ (.int .i64 t606)).setCell ⟨gb597, 0, none⟩ (.int .i64 t607)).setCell ⟨gb597, 1, none⟩ (.int .i64 t608)).setCell ⟨gb597, 2, none⟩ (.int .i64 t609)).heap[gb597]? = some (.cells #[.int .i64 t607, .int .i64 t608, .int .i64 t609] 27 (0, 0))) := ⟨by (with_reducible repeat (first | refine blk_drewN ?_ _ | refine blk_drew ?_ | refine blk_alloc ?_ _)); refine blk_put (cs := #[.int .i64 t607, .int .i64 t608, .int .i64 a3_2]) ?_ 2 _ rfl; (with_reducible repeat (first | refine blk_drewN ?_ _ | refine blk_drew ?_ | refine blk_alloc ?_ _)); refine blk_put (cs := #[.int .i64 t607, .int .i64 a3_1, .int .i64 a3_2]) ?_ 1 _ rfl; (with_reducible repeat (first | refine blk_drewN ?_ _ | refine blk_drew ?_ | refine blk_alloc ?_ _)); refine blk_put (cs := #[.int .i64 a3_0, .int .i64 a3_1, .int .i64 a3_2]) ?_ 0 _ rfl; (with_reducible repeat (first | refine blk_drewN ?_ _ | refine blk_drew ?_ | refine blk_alloc ?_ _)); refine blk_far ?_ NB597_596.out _; (with_reducible repeat (first | refine blk_drewN ?_ _ | refine blk_drew ?_ | refine blk_alloc ?_ _)); refine blk_far ?_ NB597_596.out _; (with_reducible repeat (first | refine blk_drewN ?_ _ | refine blk_drew ?_ | refine blk_alloc ?_ _)); refine blk_far ?_ NB597_596.out _; (with_reducible repeat (first | refine blk_drewN ?_ _ | refine blk_drew ?_ | refine blk_alloc ?_ _)); exact BK597.out⟩
 have n4_ : Aside0 (Below w.heap.size w ((((((w26.setCell ⟨gb596, 0, none⟩ (.int .i64 t604)).setCell ⟨gb596, 1, none⟩ (.int .i64 t605)).setCell ⟨gb596, 2, none⟩ (.int .i64 t606)).setCell ⟨gb597, 0, none⟩ (.int .i64 t607)).setCell ⟨gb597, 1, none⟩ (.int .i64 t608)).setCell ⟨gb597, 2, none⟩ (.int .i64 t609))) := ⟨ bH HB⟩
 (try clear BK594); (try clear BK595); (try clear BK596); (try clear BK597); (try clear HB)
 generalize ((((((w26.setCell ⟨gb596, 0, none⟩ (.int .i64 t604)).setCell ⟨gb596, 1, none⟩ (.int .i64 t605)).setCell ⟨gb596, 2, none⟩ (.int .i64 t606)).setCell ⟨gb597, 0, none⟩ (.int .i64 t607)).setCell ⟨gb597, 1, none⟩ (.int .i64 t608)).setCell ⟨gb597, 2, none⟩ (.int .i64 t609)) = w29 at n0_ n1_ n2_ n3_ n4_ ⊢
 have BK594 := n0_; have BK595 := n1_; have BK596 := n2_; have BK597 := n3_; have HB := n4_; clear n0_ n1_ n2_ n3_ n4_; replace BK594 := dB BK594; replace BK595 := dB BK595; replace BK596 := dB BK596; replace BK597 := dB BK597; replace HB := dH HB
 refine sP 6 (S := fun w' => w'.cell? ⟨gb594, 0, none⟩ = some (.int .i64 t598) ∧ w'.cell? ⟨gb594, 1, none⟩ = some (.int .i64 t599) ∧ w'.cell? ⟨gb594, 2, none⟩ = some (.int .i64 t600) ∧ w'.cell? ⟨gb595, 0, none⟩ = some (.int .i64 t601) ∧ w'.cell? ⟨gb595, 1, none⟩ = some (.int .i64 t602) ∧ w'.cell? ⟨gb595, 2, none⟩ = some (.int .i64 t603)) (ds := []) ⟨bC BK594, bC BK594, bC BK594, bC BK595, bC BK595, bC BK595⟩ fun hHeld => ?_
 generalize w29.drew = w30 at BK594 BK595 BK596 BK597 HB hHeld ⊢
 refine tP 0 (some 23) hHeld ?_; refine tP 1 (some 24) hHeld ?_
 refine join_ (σ := Nat × Nat) 2 #[true, true, true, true, false, false] (fun s_ => [(9, .pointer (some ⟨s_.1, 0, none⟩)), (10, .pointer (some ⟨s_.2, 0, none⟩))]) (fun s_ w' => (w'.cell? ⟨gb594, 0, none⟩ = some (.int .i64 t598) ∧ w'.cell? ⟨gb594, 1, none⟩ = some (.int .i64 t599) ∧ w'.cell? ⟨gb594, 2, none⟩ = some (.int .i64 t600) ∧ w'.cell? ⟨gb595, 0, none⟩ = some (.int .i64 t601) ∧ w'.cell? ⟨gb595, 1, none⟩ = some (.int .i64 t602) ∧ w'.cell? ⟨gb595, 2, none⟩ = some (.int .i64 t603)) ∧ (w'.heap[gb594]? = some (.cells #[.int .i64 t598, .int .i64 t599, .int .i64 t600] 27 (0, 0))) ∧ (w'.heap[gb595]? = some (.cells #[.int .i64 t601, .int .i64 t602, .int .i64 t603] 27 (0, 0))) ∧ (w'.heap[gb596]? = some (.cells #[.int .i64 t604, .int .i64 t605, .int .i64 t606] 27 (0, 0))) ∧ (w'.heap[gb597]? = some (.cells #[.int .i64 t607, .int .i64 t608, .int .i64 t609] 27 (0, 0))) ∧ (w'.heap[s_.1]? = some (.cells #[.int .i64 0, .int .i64 0, .int .i64 0] 27 (0, 0))) ∧ (w'.heap[s_.2]? = some (.cells #[.int .i64 0, .int .i64 0, .int .i64 0] 27 (0, 0))) ∧ (w.heap.size ≤ s_.1) ∧ (w.heap.size ≤ s_.1) ∧ (gb594 ≠ s_.1) ∧ (s_.1 ≠ gb594) ∧ (gb595 ≠ s_.1) ∧ (s_.1 ≠ gb595) ∧ (gb596 ≠ s_.1) ∧ (s_.1 ≠ gb596) ∧ (gb597 ≠ s_.1) ∧ (s_.1 ≠ gb597) ∧ (s_.2 ≠ s_.1) ∧ (s_.1 ≠ s_.2) ∧ (w.heap.size ≤ s_.2) ∧ (w.heap.size ≤ s_.2) ∧ (gb594 ≠ s_.2) ∧ (s_.2 ≠ gb594) ∧ (gb595 ≠ s_.2) ∧ (s_.2 ≠ gb595) ∧ (gb596 ≠ s_.2) ∧ (s_.2 ≠ gb596) ∧ (gb597 ≠ s_.2) ∧ (s_.2 ≠ gb597) ∧ (Below w.heap.size w w')) ?_ ?_
 rotate_left
 ·intro hCont
  refine two_ (i := 2) (j := 3) (Ni := some 9) (Nj := some 10) #[true, true, true, false, false, false] #[true, true, false, true, false, false] rfl rfl rfl rfl (by kernel_rfl) (by decide) (by decide) (fun K hK => ?_) (fun K hK => ?_)
  ·skip
   refine box_step ?hg (N := 9) ?hd (cs := #[.int .i64 0, .int .i64 0, .int .i64 0]) (t := 27) ?hr ?_; (case hd => rfl); (case hg => rfl); (case hr => first | (go_simp; done) | (go_simp; rfl))
   intro gb610 hg w31 hbox hb
   have BK610 := AM hbox; have GW610 := kG HB hg; have GE610 := kG HB hg; replace HB := kH HB hb; have NB594_610 := kN BK594 hg; have NB610_594 := kM BK594 hg; replace BK594 := kB BK594 hb; have NB595_610 := kN BK595 hg; have NB610_595 := kM BK595 hg; replace BK595 := kB BK595 hb; have NB596_610 := kN BK596 hg; have NB610_596 := kM BK596 hg; replace BK596 := kB BK596 hb; have NB597_610 := kN BK597 hg; have NB610_597 := kM BK597 hg; replace BK597 := kB BK597 hb; clear hb hbox hg
   refine hK.out _ _ ⟨bC BK594, bC BK594, bC BK594, bC BK595, bC BK595, bC BK595⟩ (fun hHeld => ?_)
   clear hK K; refine nP (some 9) ?_
   refine oP 3 (some 10) rfl fun K hK => ?_
   refine box_step ?hg (N := 10) ?hd (cs := #[.int .i64 0, .int .i64 0, .int .i64 0]) (t := 27) ?hr ?_; (case hd => rfl); (case hg => rfl); (case hr => first | (go_simp; done) | (go_simp; rfl))
   intro gb611 hg w32 hbox hb
   have BK611 := AM hbox; have GW611 := kG HB hg; have GE611 := kG HB hg; replace HB := kH HB hb; have NB594_611 := kN BK594 hg; have NB611_594 := kM BK594 hg; replace BK594 := kB BK594 hb; have NB595_611 := kN BK595 hg; have NB611_595 := kM BK595 hg; replace BK595 := kB BK595 hb; have NB596_611 := kN BK596 hg; have NB611_596 := kM BK596 hg; replace BK596 := kB BK596 hb; have NB597_611 := kN BK597 hg; have NB611_597 := kM BK597 hg; replace BK597 := kB BK597 hb; have NB610_611 := kN BK610 hg; have NB611_610 := kM BK610 hg; replace BK610 := kB BK610 hb; clear hb hbox hg
   refine hK.out _ _ ⟨bC BK594, bC BK594, bC BK594, bC BK595, bC BK595, bC BK595⟩ (fun hHeld => ?_)
   clear hK K; refine nP (some 10) ?_
   exact norm_ (by simp only [putAll, Act.put, List.setIfInBounds_toArray, List.set_cons_zero, List.set_cons_succ]) (hCont (gb610, gb611) _ ⟨hHeld, (bK BK594), (bK BK595), (bK BK596), (bK BK597), (bK BK610), (bK BK611), GW610.out, GE610.out, NB594_610.out, NB610_594.out, NB595_610.out, NB610_595.out, NB596_610.out, NB610_596.out, NB597_610.out, NB610_597.out, NB611_610.out, NB610_611.out, GW611.out, GE611.out, NB594_611.out, NB611_594.out, NB595_611.out, NB611_595.out, NB596_611.out, NB611_596.out, NB597_611.out, NB611_597.out, (bH HB)⟩)
  ·skip
   refine box_step ?hg (N := 10) ?hd (cs := #[.int .i64 0, .int .i64 0, .int .i64 0]) (t := 27) ?hr ?_; (case hd => rfl); (case hg => rfl); (case hr => first | (go_simp; done) | (go_simp; rfl))
   intro gb611 hg w31 hbox hb
   have BK611 := AM hbox; have GW611 := kG HB hg; have GE611 := kG HB hg; replace HB := kH HB hb; have NB594_611 := kN BK594 hg; have NB611_594 := kM BK594 hg; replace BK594 := kB BK594 hb; have NB595_611 := kN BK595 hg; have NB611_595 := kM BK595 hg; replace BK595 := kB BK595 hb; have NB596_611 := kN BK596 hg; have NB611_596 := kM BK596 hg; replace BK596 := kB BK596 hb; have NB597_611 := kN BK597 hg; have NB611_597 := kM BK597 hg; replace BK597 := kB BK597 hb; clear hb hbox hg
   refine hK.out _ _ ⟨bC BK594, bC BK594, bC BK594, bC BK595, bC BK595, bC BK595⟩ (fun hHeld => ?_)
   clear hK K; refine nP (some 10) ?_
   refine oP 2 (some 9) rfl fun K hK => ?_
   refine box_step ?hg (N := 9) ?hd (cs := #[.int .i64 0, .int .i64 0, .int .i64 0]) (t := 27) ?hr ?_; (case hd => rfl); (case hg => rfl); (case hr => first | (go_simp; done) | (go_simp; rfl))
   intro gb610 hg w32 hbox hb
   have BK610 := AM hbox; have GW610 := kG HB hg; have GE610 := kG HB hg; replace HB := kH HB hb; have NB594_610 := kN BK594 hg; have NB610_594 := kM BK594 hg; replace BK594 := kB BK594 hb; have NB595_610 := kN BK595 hg; have NB610_595 := kM BK595 hg; replace BK595 := kB BK595 hb; have NB596_610 := kN BK596 hg; have NB610_596 := kM BK596 hg; replace BK596 := kB BK596 hb; have NB597_610 := kN BK597 hg; have NB610_597 := kM BK597 hg; replace BK597 := kB BK597 hb; have NB611_610 := kN BK611 hg; have NB610_611 := kM BK611 hg; replace BK611 := kB BK611 hb; clear hb hbox hg
   refine hK.out _ _ ⟨bC BK594, bC BK594, bC BK594, bC BK595, bC BK595, bC BK595⟩ (fun hHeld => ?_)
   clear hK K; refine nP (some 9) ?_
   exact norm_ (by simp only [putAll, Act.put, List.setIfInBounds_toArray, List.set_cons_zero, List.set_cons_succ]) (hCont (gb610, gb611) _ ⟨hHeld, (bK BK594), (bK BK595), (bK BK596), (bK BK597), (bK BK610), (bK BK611), GW610.out, GE610.out, NB594_610.out, NB610_594.out, NB595_610.out, NB610_595.out, NB596_610.out, NB610_596.out, NB597_610.out, NB610_597.out, NB611_610.out, NB610_611.out, GW611.out, GE611.out, NB594_611.out, NB611_594.out, NB595_611.out, NB611_595.out, NB596_611.out, NB611_596.out, NB597_611.out, NB611_597.out, (bH HB)⟩)
 rintro ⟨gb610, gb611⟩ w33 ⟨hS_, h0_, h1_, h2_, h3_, h4_, h5_, h6_, h7_, h8_, h9_, h10_, h11_, h12_, h13_, h14_, h15_, h16_, h17_, h18_, h19_, h20_, h21_, h22_, h23_, h24_, h25_, h26_, h27_, h28_⟩
 have n0_ : Aside0 (w33.heap[gb594]? = some (.cells #[.int .i64 t598, .int .i64 t599, .int .i64 t600] 27 (0, 0))) := ⟨h0_⟩
 have n1_ : Aside0 (w33.heap[gb595]? = some (.cells #[.int .i64 t601, .int .i64 t602, .int .i64 t603] 27 (0, 0))) := ⟨h1_⟩
 have n2_ : Aside0 (w33.heap[gb596]? = some (.cells #[.int .i64 t604, .int .i64 t605, .int .i64 t606] 27 (0, 0))) := ⟨h2_⟩
 have n3_ : Aside0 (w33.heap[gb597]? = some (.cells #[.int .i64 t607, .int .i64 t608, .int .i64 t609] 27 (0, 0))) := ⟨h3_⟩
 have n4_ : Aside0 (w33.heap[gb610]? = some (.cells #[.int .i64 0, .int .i64 0, .int .i64 0] 27 (0, 0))) := ⟨h4_⟩
 have n5_ : Aside0 (w33.heap[gb611]? = some (.cells #[.int .i64 0, .int .i64 0, .int .i64 0] 27 (0, 0))) := ⟨h5_⟩
 have n6_ : Aside0 (w.heap.size ≤ gb610) := ⟨h6_⟩
 have n7_ : Aside0 (w.heap.size ≤ gb610) := ⟨h7_⟩
 have n8_ : Aside0 (gb594 ≠ gb610) := ⟨h8_⟩
 have n9_ : Aside0 (gb610 ≠ gb594) := ⟨h9_⟩
 have n10_ : Aside0 (gb595 ≠ gb610) := ⟨h10_⟩
 have n11_ : Aside0 (gb610 ≠ gb595) := ⟨h11_⟩
 have n12_ : Aside0 (gb596 ≠ gb610) := ⟨h12_⟩
 have n13_ : Aside0 (gb610 ≠ gb596) := ⟨h13_⟩
 have n14_ : Aside0 (gb597 ≠ gb610) := ⟨h14_⟩
 have n15_ : Aside0 (gb610 ≠ gb597) := ⟨h15_⟩
 have n16_ : Aside0 (gb611 ≠ gb610) := ⟨h16_⟩
 have n17_ : Aside0 (gb610 ≠ gb611) := ⟨h17_⟩
 have n18_ : Aside0 (w.heap.size ≤ gb611) := ⟨h18_⟩
 have n19_ : Aside0 (w.heap.size ≤ gb611) := ⟨h19_⟩
 have n20_ : Aside0 (gb594 ≠ gb611) := ⟨h20_⟩
 have n21_ : Aside0 (gb611 ≠ gb594) := ⟨h21_⟩
 have n22_ : Aside0 (gb595 ≠ gb611) := ⟨h22_⟩
 have n23_ : Aside0 (gb611 ≠ gb595) := ⟨h23_⟩
 have n24_ : Aside0 (gb596 ≠ gb611) := ⟨h24_⟩
 have n25_ : Aside0 (gb611 ≠ gb596) := ⟨h25_⟩
 have n26_ : Aside0 (gb597 ≠ gb611) := ⟨h26_⟩
 have n27_ : Aside0 (gb611 ≠ gb597) := ⟨h27_⟩
 have n28_ : Aside0 (Below w.heap.size w w33) := ⟨h28_⟩
 clear BK594; clear BK595; clear BK596; clear BK597; clear HB; clear h0_ h1_ h2_ h3_ h4_ h5_ h6_ h7_ h8_ h9_ h10_ h11_ h12_ h13_ h14_ h15_ h16_ h17_ h18_ h19_ h20_ h21_ h22_ h23_ h24_ h25_ h26_ h27_ h28_; have BK594 := n0_; have BK595 := n1_; have BK596 := n2_; have BK597 := n3_; have BK610 := n4_; have BK611 := n5_; have GW610 := n6_; have GE610 := n7_; have NB594_610 := n8_; have NB610_594 := n9_; have NB595_610 := n10_; have NB610_595 := n11_; have NB596_610 := n12_; have NB610_596 := n13_; have NB597_610 := n14_; have NB610_597 := n15_; have NB611_610 := n16_; have NB610_611 := n17_; have GW611 := n18_; have GE611 := n19_; have NB594_611 := n20_; have NB611_594 := n21_; have NB595_611 := n22_; have NB611_595 := n23_; have NB596_611 := n24_; have NB611_596 := n25_; have NB597_611 := n26_; have NB611_597 := n27_; have HB := n28_; clear n0_ n1_ n2_ n3_ n4_ n5_ n6_ n7_ n8_ n9_ n10_ n11_ n12_ n13_ n14_ n15_ n16_ n17_ n18_ n19_ n20_ n21_ n22_ n23_ n24_ n25_ n26_ n27_ n28_
 have hHeld : w33.cell? ⟨gb594, 0, none⟩ = some (.int .i64 t598) ∧ w33.cell? ⟨gb594, 1, none⟩ = some (.int .i64 t599) ∧ w33.cell? ⟨gb594, 2, none⟩ = some (.int .i64 t600) ∧ w33.cell? ⟨gb595, 0, none⟩ = some (.int .i64 t601) ∧ w33.cell? ⟨gb595, 1, none⟩ = some (.int .i64 t602) ∧ w33.cell? ⟨gb595, 2, none⟩ = some (.int .i64 t603) := hS_
 refine norm_ (a' := ?_) ?_ ?_
 rotate_left
 ·simp only [putAll, Act.put, List.setIfInBounds_toArray, List.set_cons_zero, List.set_cons_succ]
  rfl
 refine oP 4 none rfl fun K hK => ?_
 have hs34 : w33.cell? ⟨gb610, 0, none⟩ = some (.int .i64 0) := bC BK610
 have hfs34 := blk_frozen BK610.out 0
 have hns34_0 := NB594_610.out; have hns34_1 := NB595_610.out; have hns34_2 := NB596_610.out; have hns34_3 := NB597_610.out; have hns34_5 := NB611_610.out; have hms34_0 := NB610_594.out; have hms34_1 := NB610_595.out; have hms34_2 := NB610_596.out; have hms34_3 := NB610_597.out; have hms34_5 := NB610_611.out
 have hs35 : w33.cell? ⟨gb610, 1, none⟩ = some (.int .i64 0) := bC BK610
 have hfs35 := blk_frozen BK610.out 1
 have hns35_0 := NB594_610.out; have hns35_1 := NB595_610.out; have hns35_2 := NB596_610.out; have hns35_3 := NB597_610.out; have hns35_5 := NB611_610.out; have hms35_0 := NB610_594.out; have hms35_1 := NB610_595.out; have hms35_2 := NB610_596.out; have hms35_3 := NB610_597.out; have hms35_5 := NB610_611.out
 have hs36 : w33.cell? ⟨gb610, 2, none⟩ = some (.int .i64 0) := bC BK610
 have hfs36 := blk_frozen BK610.out 2
 have hns36_0 := NB594_610.out; have hns36_1 := NB595_610.out; have hns36_2 := NB596_610.out; have hns36_3 := NB597_610.out; have hns36_5 := NB611_610.out; have hms36_0 := NB610_594.out; have hms36_1 := NB610_595.out; have hms36_2 := NB610_596.out; have hms36_3 := NB610_597.out; have hms36_5 := NB610_611.out
 refine skip_ (w1 := ?_) (by rfl) rfl ?_ ?_
 rotate_left
 ·go_simp
  rfl
 refine hK.out _ _ ⟨((cell_far (p := ⟨gb610, _, none⟩) NB594_610.out _).trans (((cell_far (p := ⟨gb610, _, none⟩) NB594_610.out _).trans (((cell_far (p := ⟨gb610, _, none⟩) NB594_610.out _).trans (hHeld.1)))))), ((cell_far (p := ⟨gb610, _, none⟩) NB594_610.out _).trans (((cell_far (p := ⟨gb610, _, none⟩) NB594_610.out _).trans (((cell_far (p := ⟨gb610, _, none⟩) NB594_610.out _).trans (hHeld.2.1)))))), ((cell_far (p := ⟨gb610, _, none⟩) NB594_610.out _).trans (((cell_far (p := ⟨gb610, _, none⟩) NB594_610.out _).trans (((cell_far (p := ⟨gb610, _, none⟩) NB594_610.out _).trans (hHeld.2.2.1)))))), ((cell_far (p := ⟨gb610, _, none⟩) NB595_610.out _).trans (((cell_far (p := ⟨gb610, _, none⟩) NB595_610.out _).trans (((cell_far (p := ⟨gb610, _, none⟩) NB595_610.out _).trans (hHeld.2.2.2.1)))))), ((cell_far (p := ⟨gb610, _, none⟩) NB595_610.out _).trans (((cell_far (p := ⟨gb610, _, none⟩) NB595_610.out _).trans (((cell_far (p := ⟨gb610, _, none⟩) NB595_610.out _).trans (hHeld.2.2.2.2.1)))))), ((cell_far (p := ⟨gb610, _, none⟩) NB595_610.out _).trans (((cell_far (p := ⟨gb610, _, none⟩) NB595_610.out _).trans (((cell_far (p := ⟨gb610, _, none⟩) NB595_610.out _).trans (hHeld.2.2.2.2.2))))))⟩ (fun hHeld => ?_)
 clear hK K
 refine oP 5 none rfl fun K hK => ?_
 have hs37 : w33.cell? ⟨gb611, 0, none⟩ = some (.int .i64 0) := bC BK611
 have hfs37 := blk_frozen BK611.out 0
 have hns37_0 := NB594_611.out; have hns37_1 := NB595_611.out; have hns37_2 := NB596_611.out; have hns37_3 := NB597_611.out; have hns37_4 := NB610_611.out; have hms37_0 := NB611_594.out; have hms37_1 := NB611_595.out; have hms37_2 := NB611_596.out; have hms37_3 := NB611_597.out; have hms37_4 := NB611_610.out
 have hs38 : w33.cell? ⟨gb611, 1, none⟩ = some (.int .i64 0) := bC BK611
 have hfs38 := blk_frozen BK611.out 1
 have hns38_0 := NB594_611.out; have hns38_1 := NB595_611.out; have hns38_2 := NB596_611.out; have hns38_3 := NB597_611.out; have hns38_4 := NB610_611.out; have hms38_0 := NB611_594.out; have hms38_1 := NB611_595.out; have hms38_2 := NB611_596.out; have hms38_3 := NB611_597.out; have hms38_4 := NB611_610.out
 have hs39 : w33.cell? ⟨gb611, 2, none⟩ = some (.int .i64 0) := bC BK611
 have hfs39 := blk_frozen BK611.out 2
 have hns39_0 := NB594_611.out; have hns39_1 := NB595_611.out; have hns39_2 := NB596_611.out; have hns39_3 := NB597_611.out; have hns39_4 := NB610_611.out; have hms39_0 := NB611_594.out; have hms39_1 := NB611_595.out; have hms39_2 := NB611_596.out; have hms39_3 := NB611_597.out; have hms39_4 := NB611_610.out
 refine skip_ (w1 := ?_) (by rfl) rfl ?_ ?_
 rotate_left
 ·go_simp
  rfl
 refine hK.out _ _ ⟨((cell_far (p := ⟨gb611, _, none⟩) NB594_611.out _).trans (((cell_far (p := ⟨gb611, _, none⟩) NB594_611.out _).trans (((cell_far (p := ⟨gb611, _, none⟩) NB594_611.out _).trans (hHeld.1)))))), ((cell_far (p := ⟨gb611, _, none⟩) NB594_611.out _).trans (((cell_far (p := ⟨gb611, _, none⟩) NB594_611.out _).trans (((cell_far (p := ⟨gb611, _, none⟩) NB594_611.out _).trans (hHeld.2.1)))))), ((cell_far (p := ⟨gb611, _, none⟩) NB594_611.out _).trans (((cell_far (p := ⟨gb611, _, none⟩) NB594_611.out _).trans (((cell_far (p := ⟨gb611, _, none⟩) NB594_611.out _).trans (hHeld.2.2.1)))))), ((cell_far (p := ⟨gb611, _, none⟩) NB595_611.out _).trans (((cell_far (p := ⟨gb611, _, none⟩) NB595_611.out _).trans (((cell_far (p := ⟨gb611, _, none⟩) NB595_611.out _).trans (hHeld.2.2.2.1)))))), ((cell_far (p := ⟨gb611, _, none⟩) NB595_611.out _).trans (((cell_far (p := ⟨gb611, _, none⟩) NB595_611.out _).trans (((cell_far (p := ⟨gb611, _, none⟩) NB595_611.out _).trans (hHeld.2.2.2.2.1)))))), ((cell_far (p := ⟨gb611, _, none⟩) NB595_611.out _).trans (((cell_far (p := ⟨gb611, _, none⟩) NB595_611.out _).trans (((cell_far (p := ⟨gb611, _, none⟩) NB595_611.out _).trans (hHeld.2.2.2.2.2))))))⟩ (fun hHeld => ?_)
 clear hK K
 refine done_ (by kernel_rfl) ?_
 have hnb40 := NB610_594.out; have hnc40 := NB594_610.out; have hnb41 := NB610_595.out; have hnc41 := NB595_610.out; have hnb42 := NB610_596.out; have hnc42 := NB596_610.out; have hnb43 := NB610_597.out; have hnc43 := NB597_610.out; have hnb44 := NB610_611.out; have hnc44 := NB611_610.out; obtain ⟨hcz45_0, hcz45_1, hcz45_2, hfz45_0, hfz45_1, hfz45_2⟩ := c3 BK610; have hnb46 := NB596_611.out; have hnc46 := NB611_596.out; obtain ⟨hcz47_0, hcz47_1, hcz47_2, hfz47_0, hfz47_1, hfz47_2⟩ := c3 BK596
 go_upto_if 27 with (first | ((with_reducible refine gate_callee (f := 89) rfl ?_); refine gL (some 27) Try.func89 #[.agg #[.int .i64 t598, .int .i64 t599, .int .i64 t600], .agg #[.int .i64 t604, .int .i64 t605, .int .i64 t606]] ?_; (with_reducible refine (geom_less.calls t598 t599 t600 t604 t605 t606 t612 _ A7.out).mono ?_); rintro e w48 ⟨rfl, hb⟩; refine ⟨_, rfl, ?_⟩; replace BK594 := kB BK594 hb; replace BK595 := kB BK595 hb; replace BK596 := kB BK596 hb; replace BK597 := kB BK597 hb; replace BK610 := AM (blk_below (g := gb610) (o := .cells #[.int .i64 t598, .int .i64 t599, .int .i64 t600] 27 (0, 0)) (by (with_reducible repeat (first | refine blk_drewN ?_ _ | refine blk_drew ?_ | refine blk_alloc ?_ _)); refine blk_far ?_ NB610_611.out _; (with_reducible repeat (first | refine blk_drewN ?_ _ | refine blk_drew ?_ | refine blk_alloc ?_ _)); refine blk_far ?_ NB610_611.out _; (with_reducible repeat (first | refine blk_drewN ?_ _ | refine blk_drew ?_ | refine blk_alloc ?_ _)); refine blk_far ?_ NB610_611.out _; (with_reducible repeat (first | refine blk_drewN ?_ _ | refine blk_drew ?_ | refine blk_alloc ?_ _)); refine blk_put (cs := #[.int .i64 t598, .int .i64 t599, .int .i64 0]) ?_ 2 _ rfl; (with_reducible repeat (first | refine blk_drewN ?_ _ | refine blk_drew ?_ | refine blk_alloc ?_ _)); refine blk_put (cs := #[.int .i64 t598, .int .i64 0, .int .i64 0]) ?_ 1 _ rfl; (with_reducible repeat (first | refine blk_drewN ?_ _ | refine blk_drew ?_ | refine blk_alloc ?_ _)); refine blk_put (cs := #[.int .i64 0, .int .i64 0, .int .i64 0]) ?_ 0 _ rfl; (with_reducible repeat (first | refine blk_drewN ?_ _ | refine blk_drew ?_ | refine blk_alloc ?_ _)); exact BK610.out) hb); replace BK611 := AM (blk_below (g := gb611) (o := .cells #[.int .i64 t601, .int .i64 t602, .int .i64 t603] 27 (0, 0)) (by (with_reducible repeat (first | refine blk_drewN ?_ _ | refine blk_drew ?_ | refine blk_alloc ?_ _)); refine blk_put (cs := #[.int .i64 t601, .int .i64 t602, .int .i64 0]) ?_ 2 _ rfl; (with_reducible repeat (first | refine blk_drewN ?_ _ | refine blk_drew ?_ | refine blk_alloc ?_ _)); refine blk_put (cs := #[.int .i64 t601, .int .i64 0, .int .i64 0]) ?_ 1 _ rfl; (with_reducible repeat (first | refine blk_drewN ?_ _ | refine blk_drew ?_ | refine blk_alloc ?_ _)); refine blk_put (cs := #[.int .i64 0, .int .i64 0, .int .i64 0]) ?_ 0 _ rfl; (with_reducible repeat (first | refine blk_drewN ?_ _ | refine blk_drew ?_ | refine blk_alloc ?_ _)); refine blk_far ?_ NB611_610.out _; (with_reducible repeat (first | refine blk_drewN ?_ _ | refine blk_drew ?_ | refine blk_alloc ?_ _)); refine blk_far ?_ NB611_610.out _; (with_reducible repeat (first | refine blk_drewN ?_ _ | refine blk_drew ?_ | refine blk_alloc ?_ _)); refine blk_far ?_ NB611_610.out _; (with_reducible repeat (first | refine blk_drewN ?_ _ | refine blk_drew ?_ | refine blk_alloc ?_ _)); exact BK611.out) hb); replace HB := kH HB hb; (try clear hb); (try clear hb2); (try clear hk); (try clear hi)))
 (try simp only [Act.put, List.setIfInBounds_toArray, List.set_cons_zero, List.set_cons_succ])
 go_cut [] (fun wc => ∃ (kq : Nat) (x611000_7 : Int) (x611001_7 : Int) (x611002_7 : Int), Aside0 (geom_along.j0 kq t607 t608 t609 x611000_7 x611001_7 x611002_7 t601 t602 t603 = some r) ∧ Aside0 (kq ≤ k) ∧ Aside0 (wc.heap[gb594]? = some (.cells #[.int .i64 t598, .int .i64 t599, .int .i64 t600] 27 (0, 0))) ∧ Aside0 (wc.heap[gb595]? = some (.cells #[.int .i64 t601, .int .i64 t602, .int .i64 t603] 27 (0, 0))) ∧ Aside0 (wc.heap[gb596]? = some (.cells #[.int .i64 t604, .int .i64 t605, .int .i64 t606] 27 (0, 0))) ∧ Aside0 (wc.heap[gb597]? = some (.cells #[.int .i64 t607, .int .i64 t608, .int .i64 t609] 27 (0, 0))) ∧ Aside0 (wc.heap[gb610]? = some (.cells #[.int .i64 x611000_7, .int .i64 x611001_7, .int .i64 x611002_7] 27 (0, 0))) ∧ Aside0 (wc.heap[gb611]? = some (.cells #[.int .i64 t601, .int .i64 t602, .int .i64 t603] 27 (0, 0))) ∧ Aside0 (Below w.heap.size w wc))
 case first =>
  have H := HC8.out; clear HC8
  by_cases c49 : t612 = true
  ·subst c49
   have H1 : (geom_along.j0 k t607 t608 t609 t604 t605 t606 t601 t602 t603) = some r := by rw [if_pos rfl] at H; exact H
   clear H; have H := H1; clear H1
   have H' := AM H
   clear H; have hnb50 := NB596_594.out; have hnc50 := NB594_596.out; have hnb51 := NB596_595.out; have hnc51 := NB595_596.out; have hnb52 := NB596_597.out; have hnc52 := NB597_596.out; have hnb53 := NB596_610.out; have hnc53 := NB610_596.out; have hnb54 := NB596_611.out; have hnc54 := NB611_596.out; obtain ⟨hcz55_0, hcz55_1, hcz55_2, hfz55_0, hfz55_1, hfz55_2⟩ := c3 BK596; have hnb56 := NB610_594.out; have hnc56 := NB594_610.out; have hnb57 := NB610_595.out; have hnc57 := NB595_610.out; have hnb58 := NB610_597.out; have hnc58 := NB597_610.out; have hnb59 := NB610_611.out; have hnc59 := NB611_610.out; obtain ⟨hcz60_0, hcz60_1, hcz60_2, hfz60_0, hfz60_1, hfz60_2⟩ := c3 BK610
   go_wp2
   go_meet
   case rel => exact ⟨_, (t604), (t605), (t606), H', ⟨by first | omega | exact Nat.le_refl _⟩, ⟨bK BK594⟩, ⟨bK BK595⟩, ⟨bK BK596⟩, ⟨bK BK597⟩, ⟨by (with_reducible repeat (first | refine blk_drewN ?_ _ | refine blk_drew ?_ | refine blk_alloc ?_ _)); refine blk_put (cs := #[.int .i64 t604, .int .i64 t605, .int .i64 t600]) ?_ 2 _ rfl; (with_reducible repeat (first | refine blk_drewN ?_ _ | refine blk_drew ?_ | refine blk_alloc ?_ _)); refine blk_put (cs := #[.int .i64 t604, .int .i64 t599, .int .i64 t600]) ?_ 1 _ rfl; (with_reducible repeat (first | refine blk_drewN ?_ _ | refine blk_drew ?_ | refine blk_alloc ?_ _)); refine blk_put (cs := #[.int .i64 t598, .int .i64 t599, .int .i64 t600]) ?_ 0 _ rfl; (with_reducible repeat (first | refine blk_drewN ?_ _ | refine blk_drew ?_ | refine blk_alloc ?_ _)); exact BK610.out⟩, ⟨bK BK611⟩, ⟨ bH HB⟩⟩
  ·replace c49 := Bool.eq_false_iff.mpr c49
   subst c49
   have H1 : (geom_along.j0 k t607 t608 t609 t598 t599 t600 t601 t602 t603) = some r := by rw [if_neg (show ¬ (false = true) by decide)] at H; exact H
   clear H; have H := H1; clear H1
   have H' := AM H
   clear H
   go_wp2
   go_meet
   case rel => exact ⟨_, (t598), (t599), (t600), H', ⟨by first | omega | exact Nat.le_refl _⟩, ⟨bK BK594⟩, ⟨bK BK595⟩, ⟨bK BK596⟩, ⟨bK BK597⟩, ⟨bK BK610⟩, ⟨bK BK611⟩, ⟨ bH HB⟩⟩
 case rest =>
  clear HC8; (try clear c1); (try clear c2); (try clear p2); (try clear c4); (try clear c5); (try clear c8); (try clear c13); (try clear c14); (try clear c15); (try clear c17); (try clear c18); (try clear c23); (try clear c40); (try clear c41); (try clear c42); (try clear c43); (try clear c44); (try clear c46); (try clear c49); (try clear c50); (try clear c51); (try clear c52); (try clear c53); (try clear c54); (try clear c56); (try clear c57); (try clear c58); (try clear c59); (try clear hcz16_0); (try clear hcz16_1); (try clear hcz16_2); (try clear hcz19_0); (try clear hcz19_1); (try clear hcz19_2); (try clear hcz21_0); (try clear hcz21_1); (try clear hcz21_2); (try clear hcz22_0); (try clear hcz22_1); (try clear hcz22_2); (try clear hcz24_0); (try clear hcz24_1); (try clear hcz24_2); (try clear hcz25_0); (try clear hcz25_1); (try clear hcz25_2); (try clear hcz27_0); (try clear hcz27_1); (try clear hcz27_2); (try clear hcz28_0); (try clear hcz28_1); (try clear hcz28_2); (try clear hcz45_0); (try clear hcz45_1)
  (try clear hcz45_2); (try clear hcz47_0); (try clear hcz47_1); (try clear hcz47_2); (try clear hcz55_0); (try clear hcz55_1); (try clear hcz55_2); (try clear hcz60_0); (try clear hcz60_1); (try clear hcz60_2); (try clear hfz16_0); (try clear hfz16_1); (try clear hfz16_2); (try clear hfz19_0); (try clear hfz19_1); (try clear hfz19_2); (try clear hfz21_0); (try clear hfz21_1); (try clear hfz21_2); (try clear hfz22_0); (try clear hfz22_1); (try clear hfz22_2); (try clear hfz24_0); (try clear hfz24_1); (try clear hfz24_2); (try clear hfz25_0); (try clear hfz25_1); (try clear hfz25_2); (try clear hfz27_0); (try clear hfz27_1); (try clear hfz27_2); (try clear hfz28_0); (try clear hfz28_1); (try clear hfz28_2); (try clear hfz45_0); (try clear hfz45_1); (try clear hfz45_2); (try clear hfz47_0); (try clear hfz47_1); (try clear hfz47_2); (try clear hfz55_0); (try clear hfz55_1); (try clear hfz55_2); (try clear hfz60_0); (try clear hfz60_1); (try clear hfz60_2)
  obtain ⟨kq, x611000_7, x611001_7, x611002_7, HA, HJ7, BK594, BK595, BK596, BK597, BK610, BK611, HB⟩ := hcut
  cases kq with
  | zero => exact absurd HA.out (by simp [geom_along.j0])
  | succ kj7 =>
   have H := HA.out; clear HA
   simp only [geom_along.j0] at H
   obtain ⟨t613, A61, H⟩ := bS H
   have HC62 := AM H
   clear H; have hnb63 := NB597_594.out; have hnc63 := NB594_597.out; have hnb64 := NB597_595.out; have hnc64 := NB595_597.out; have hnb65 := NB597_596.out; have hnc65 := NB596_597.out; have hnb66 := NB597_610.out; have hnc66 := NB610_597.out; have hnb67 := NB597_611.out; have hnc67 := NB611_597.out; obtain ⟨hcz68_0, hcz68_1, hcz68_2, hfz68_0, hfz68_1, hfz68_2⟩ := c3 BK597; have hnb69 := NB611_594.out; have hnc69 := NB594_611.out; have hnb70 := NB611_595.out; have hnc70 := NB595_611.out; have hnb71 := NB611_596.out; have hnc71 := NB596_611.out; have hnb72 := NB611_610.out; have hnc72 := NB610_611.out; obtain ⟨hcz73_0, hcz73_1, hcz73_2, hfz73_0, hfz73_1, hfz73_2⟩ := c3 BK611
   go_upto_if 31 with (first | ((with_reducible refine gate_callee (f := 89) rfl ?_); refine gL (some 31) Try.func89 #[.agg #[.int .i64 t607, .int .i64 t608, .int .i64 t609], .agg #[.int .i64 t601, .int .i64 t602, .int .i64 t603]] ?_; (with_reducible refine (geom_less.calls t607 t608 t609 t601 t602 t603 t613 _ A61.out).mono ?_); rintro e w74 ⟨rfl, hb⟩; refine ⟨_, rfl, ?_⟩; replace BK594 := kB BK594 hb; replace BK595 := kB BK595 hb; replace BK596 := kB BK596 hb; replace BK597 := kB BK597 hb; replace BK610 := kB BK610 hb; replace BK611 := kB BK611 hb; replace HB := kH HB hb; (try clear hb); (try clear hb2); (try clear hk); (try clear hi)))
   (try simp only [Act.put, List.setIfInBounds_toArray, List.set_cons_zero, List.set_cons_succ])
   go_cut [] (fun wc => ∃ (kq : Nat) (x612000_61 : Int) (x612001_61 : Int) (x612002_61 : Int), Aside0 (geom_along.j1 kq x611000_7 x611001_7 x611002_7 x612000_61 x612001_61 x612002_61 = some r) ∧ Aside0 (kq ≤ kj7) ∧ Aside0 (wc.heap[gb594]? = some (.cells #[.int .i64 t598, .int .i64 t599, .int .i64 t600] 27 (0, 0))) ∧ Aside0 (wc.heap[gb595]? = some (.cells #[.int .i64 t601, .int .i64 t602, .int .i64 t603] 27 (0, 0))) ∧ Aside0 (wc.heap[gb596]? = some (.cells #[.int .i64 t604, .int .i64 t605, .int .i64 t606] 27 (0, 0))) ∧ Aside0 (wc.heap[gb597]? = some (.cells #[.int .i64 t607, .int .i64 t608, .int .i64 t609] 27 (0, 0))) ∧ Aside0 (wc.heap[gb610]? = some (.cells #[.int .i64 x611000_7, .int .i64 x611001_7, .int .i64 x611002_7] 27 (0, 0))) ∧ Aside0 (wc.heap[gb611]? = some (.cells #[.int .i64 x612000_61, .int .i64 x612001_61, .int .i64 x612002_61] 27 (0, 0))) ∧ Aside0 (Below w.heap.size w wc))
   case first =>
    have H := HC62.out; clear HC62
    by_cases c75 : t613 = true
    ·subst c75
     have H1 : (geom_along.j1 kj7 x611000_7 x611001_7 x611002_7 t607 t608 t609) = some r := by rw [if_pos rfl] at H; exact H
     clear H; have H := H1; clear H1
     have H' := AM H
     clear H; have hnb76 := NB597_594.out; have hnc76 := NB594_597.out; have hnb77 := NB597_595.out; have hnc77 := NB595_597.out; have hnb78 := NB597_596.out; have hnc78 := NB596_597.out; have hnb79 := NB597_610.out; have hnc79 := NB610_597.out; have hnb80 := NB597_611.out; have hnc80 := NB611_597.out; obtain ⟨hcz81_0, hcz81_1, hcz81_2, hfz81_0, hfz81_1, hfz81_2⟩ := c3 BK597; have hnb82 := NB611_594.out; have hnc82 := NB594_611.out; have hnb83 := NB611_595.out; have hnc83 := NB595_611.out; have hnb84 := NB611_596.out; have hnc84 := NB596_611.out; have hnb85 := NB611_610.out; have hnc85 := NB610_611.out; obtain ⟨hcz86_0, hcz86_1, hcz86_2, hfz86_0, hfz86_1, hfz86_2⟩ := c3 BK611
     go_wp2
     go_meet
     case rel => exact ⟨_, (t607), (t608), (t609), H', ⟨by have := HJ7.out; first | omega | exact Nat.le_refl _⟩, ⟨bK BK594⟩, ⟨bK BK595⟩, ⟨bK BK596⟩, ⟨bK BK597⟩, ⟨bK BK610⟩, ⟨by (with_reducible repeat (first | refine blk_drewN ?_ _ | refine blk_drew ?_ | refine blk_alloc ?_ _)); refine blk_put (cs := #[.int .i64 t607, .int .i64 t608, .int .i64 t603]) ?_ 2 _ rfl; (with_reducible repeat (first | refine blk_drewN ?_ _ | refine blk_drew ?_ | refine blk_alloc ?_ _)); refine blk_put (cs := #[.int .i64 t607, .int .i64 t602, .int .i64 t603]) ?_ 1 _ rfl; (with_reducible repeat (first | refine blk_drewN ?_ _ | refine blk_drew ?_ | refine blk_alloc ?_ _)); refine blk_put (cs := #[.int .i64 t601, .int .i64 t602, .int .i64 t603]) ?_ 0 _ rfl; (with_reducible repeat (first | refine blk_drewN ?_ _ | refine blk_drew ?_ | refine blk_alloc ?_ _)); exact BK611.out⟩, ⟨ bH HB⟩⟩
    ·replace c75 := Bool.eq_false_iff.mpr c75
     subst c75
     have H1 : (geom_along.j1 kj7 x611000_7 x611001_7 x611002_7 t601 t602 t603) = some r := by rw [if_neg (show ¬ (false = true) by decide)] at H; exact H
     clear H; have H := H1; clear H1
     have H' := AM H
     clear H
     go_wp2
     go_meet
     case rel => exact ⟨_, (t601), (t602), (t603), H', ⟨by have := HJ7.out; first | omega | exact Nat.le_refl _⟩, ⟨bK BK594⟩, ⟨bK BK595⟩, ⟨bK BK596⟩, ⟨bK BK597⟩, ⟨bK BK610⟩, ⟨bK BK611⟩, ⟨ bH HB⟩⟩
   case rest =>
    clear HC62; (try clear c1); (try clear c2); (try clear p2); (try clear c4); (try clear c5); (try clear c6); (try clear c7); (try clear c8); (try clear c13); (try clear c14); (try clear c15); (try clear c17); (try clear c18); (try clear c23); (try clear c40); (try clear c41); (try clear c42); (try clear c43); (try clear c44); (try clear c46); (try clear c49); (try clear c50); (try clear c51); (try clear c52); (try clear c53); (try clear c54); (try clear c56); (try clear c57); (try clear c58); (try clear c59); (try clear c63); (try clear c64); (try clear c65); (try clear c66); (try clear c67); (try clear c69); (try clear c70); (try clear c71); (try clear c72); (try clear c75); (try clear c76); (try clear c77); (try clear c78); (try clear c79); (try clear c80); (try clear c82); (try clear c83); (try clear c84); (try clear c85); (try clear hcz16_0); (try clear hcz16_1); (try clear hcz16_2); (try clear hcz19_0); (try clear hcz19_1); (try clear hcz19_2); (try clear hcz21_0); (try clear hcz21_1); (try clear hcz21_2)
    (try clear hcz22_0); (try clear hcz22_1); (try clear hcz22_2); (try clear hcz24_0); (try clear hcz24_1); (try clear hcz24_2); (try clear hcz25_0); (try clear hcz25_1); (try clear hcz25_2); (try clear hcz27_0); (try clear hcz27_1); (try clear hcz27_2); (try clear hcz28_0); (try clear hcz28_1); (try clear hcz28_2); (try clear hcz45_0); (try clear hcz45_1); (try clear hcz45_2); (try clear hcz47_0); (try clear hcz47_1); (try clear hcz47_2); (try clear hcz55_0); (try clear hcz55_1); (try clear hcz55_2); (try clear hcz60_0); (try clear hcz60_1); (try clear hcz60_2); (try clear hcz68_0); (try clear hcz68_1); (try clear hcz68_2); (try clear hcz73_0); (try clear hcz73_1); (try clear hcz73_2); (try clear hcz81_0); (try clear hcz81_1); (try clear hcz81_2); (try clear hcz86_0); (try clear hcz86_1); (try clear hcz86_2); (try clear hfz16_0); (try clear hfz16_1); (try clear hfz16_2); (try clear hfz19_0); (try clear hfz19_1); (try clear hfz19_2); (try clear hfz21_0); (try clear hfz21_1); (try clear hfz21_2)
    (try clear hfz22_0); (try clear hfz22_1); (try clear hfz22_2); (try clear hfz24_0); (try clear hfz24_1); (try clear hfz24_2); (try clear hfz25_0); (try clear hfz25_1); (try clear hfz25_2); (try clear hfz27_0); (try clear hfz27_1); (try clear hfz27_2); (try clear hfz28_0); (try clear hfz28_1); (try clear hfz28_2); (try clear hfz45_0); (try clear hfz45_1); (try clear hfz45_2); (try clear hfz47_0); (try clear hfz47_1); (try clear hfz47_2); (try clear hfz55_0); (try clear hfz55_1); (try clear hfz55_2); (try clear hfz60_0); (try clear hfz60_1); (try clear hfz60_2); (try clear hfz68_0); (try clear hfz68_1); (try clear hfz68_2); (try clear hfz73_0); (try clear hfz73_1); (try clear hfz73_2); (try clear hfz81_0); (try clear hfz81_1); (try clear hfz81_2); (try clear hfz86_0); (try clear hfz86_1); (try clear hfz86_2); (try clear p2)
    obtain ⟨kq, x612000_61, x612001_61, x612002_61, HA, HJ61, BK594, BK595, BK596, BK597, BK610, BK611, HB⟩ := hcut
    cases kq with
    | zero => exact absurd HA.out (by simp [geom_along.j1])
    | succ kj61 =>
     have H := HA.out; clear HA
     simp only [geom_along.j1] at H
     by_cases c87 : (x611000_7 == x612000_61 && (x611001_7 == x612001_61 && (x611002_7 == x612002_61))) = true
     ·rw [if_pos c87] at H
      have c87b0 : (x611000_7 == x612000_61 && (x611001_7 == x612001_61 && (x611002_7 == x612002_61))) = true := c87
      (try (have c87b1 : decide (x611000_7 = x612000_61 && (x611001_7 == x612001_61 && (x611002_7 == x612002_61))) = true := by simpa using c87))
      (try (have c87b2 : (x611000_7 == x612000_61 && (x611001_7 == x612001_61 && (x611002_7 == x612002_61))) = true := by simpa using c87))
      clear c87
      obtain rfl := Option.some.inj H
      have hnb88 := NB610_594.out; have hnc88 := NB594_610.out; have hnb89 := NB610_595.out; have hnc89 := NB595_610.out; have hnb90 := NB610_596.out; have hnc90 := NB596_610.out; have hnb91 := NB610_597.out; have hnc91 := NB597_610.out; have hnb92 := NB610_611.out; have hnc92 := NB611_610.out; obtain ⟨hcz93_0, hcz93_1, hcz93_2, hfz93_0, hfz93_1, hfz93_2⟩ := c3 BK610; have hnb94 := NB611_594.out; have hnc94 := NB594_611.out; have hnb95 := NB611_595.out; have hnc95 := NB595_611.out; have hnb96 := NB611_596.out; have hnc96 := NB596_611.out; have hnb97 := NB611_597.out; have hnc97 := NB597_611.out; obtain ⟨hcz98_0, hcz98_1, hcz98_2, hfz98_0, hfz98_1, hfz98_2⟩ := c3 BK611
      go_wp2
      go_ret
      exact ⟨rE, bH HB⟩
     ·rw [if_neg c87] at H
      have c87b0 : (x611000_7 == x612000_61 && (x611001_7 == x612001_61 && (x611002_7 == x612002_61))) = false := by simpa using c87
      (try (have c87b1 : decide (x611000_7 = x612000_61 && (x611001_7 == x612001_61 && (x611002_7 == x612002_61))) = false := by simpa using c87))
      (try (have c87b2 : (x611000_7 == x612000_61 && (x611001_7 == x612001_61 && (x611002_7 == x612002_61))) = false := by simpa using c87))
      (try (have c87b3 : ¬ (x611000_7 = x612000_61 && (x611001_7 == x612001_61 && (x611002_7 == x612002_61))) := by simpa using c87))
      clear c87
      obtain ⟨t614, A99, H⟩ := bS H
      have HC100 := AM H
      clear H; have hnb101 := NB610_594.out; have hnc101 := NB594_610.out; have hnb102 := NB610_595.out; have hnc102 := NB595_610.out; have hnb103 := NB610_596.out; have hnc103 := NB596_610.out; have hnb104 := NB610_597.out; have hnc104 := NB597_610.out; have hnb105 := NB610_611.out; have hnc105 := NB611_610.out; obtain ⟨hcz106_0, hcz106_1, hcz106_2, hfz106_0, hfz106_1, hfz106_2⟩ := c3 BK610; have hnb107 := NB611_594.out; have hnc107 := NB594_611.out; have hnb108 := NB611_595.out; have hnc108 := NB595_611.out; have hnb109 := NB611_596.out; have hnc109 := NB596_611.out; have hnb110 := NB611_597.out; have hnc110 := NB597_611.out; obtain ⟨hcz111_0, hcz111_1, hcz111_2, hfz111_0, hfz111_1, hfz111_2⟩ := c3 BK611
      go_upto_if 37 with (first | ((with_reducible refine gate_callee (f := 89) rfl ?_); refine gL (some 40) Try.func89 #[.agg #[.int .i64 x611000_7, .int .i64 x611001_7, .int .i64 x611002_7], .agg #[.int .i64 x612000_61, .int .i64 x612001_61, .int .i64 x612002_61]] ?_; (with_reducible refine (geom_less.calls x611000_7 x611001_7 x611002_7 x612000_61 x612001_61 x612002_61 t614 _ A99.out).mono ?_); rintro e w112 ⟨rfl, hb⟩; refine ⟨_, rfl, ?_⟩; replace BK594 := kB BK594 hb; replace BK595 := kB BK595 hb; replace BK596 := kB BK596 hb; replace BK597 := kB BK597 hb; replace BK610 := kB BK610 hb; replace BK611 := kB BK611 hb; replace HB := kH HB hb; (try clear hb); (try clear hb2); (try clear hk); (try clear hi)))
      (try simp only [Act.put, List.setIfInBounds_toArray, List.set_cons_zero, List.set_cons_succ])
      have H := HC100.out; clear HC100
      by_cases c113 : t614 = true
      ·subst c113
       have H1 : (some 3) = some r := by rw [if_pos rfl] at H; exact H
       clear H; have H := H1; clear H1
       obtain rfl := Option.some.inj H
       go_wp2
       go_ret
       exact ⟨rE, bH HB⟩
      ·replace c113 := Bool.eq_false_iff.mpr c113
       subst c113
       have H1 : (some 0) = some r := by rw [if_neg (show ¬ (false = true) by decide)] at H; exact H
       clear H; have H := H1; clear H1
       obtain rfl := Option.some.inj H
       go_wp2
       go_ret
       exact ⟨rE, bH HB⟩
end Go.Proofs.Ytbonkedecfjmdaa.P
