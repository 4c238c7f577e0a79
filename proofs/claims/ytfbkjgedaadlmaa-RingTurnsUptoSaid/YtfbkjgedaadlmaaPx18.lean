/- Written for this claim by a program of this session (a turned copy of the print): Go functions as Lean functions, and that the Go code comes to just these answers; or a statement proved out of them. No condition. -/
import Derived.Test.YtfbkjgedaadlmaaPx0
import Derived.Test.YtfbkjgedaadlmaaPx1
import Derived.Test.YtfbkjgedaadlmaaPx2
import Derived.Test.YtfbkjgedaadlmaaPx5
import Derived.Test.YtfbkjgedaadlmaaPx6
import Derived.Test.YtfbkjgedaadlmaaPx11
namespace Go.Proofs.Ytfbkjgedaadlmaa.P
open Go.RowKit Go.Proofs.YtfbkjgedaadlmaaW.PrintWords Go.Proofs.YtfbkjgedaadlmaaW.PrintLast Go.Proofs.YtfbkjgedaadlmaaW.PrintMore Go.Proofs.Ytfbkjgedaadlmaa.X
attribute [local go_sem] max2_int min2_int max_two min_two max_three min_three max_four min_four   -- for this text's walks alone
set_option linter.unusedVariables false
set_option linter.unusedSimpArgs false

attribute [local go_sem high] eqA42
/-! ### lapidarylaw16_RingTurns: function 6 -/
mutual
def lapidarylaw16_RingTurns.j0 : Nat → List Int → Int → List (S42) → Int → Bool → List (List (S42)) → List (List Int) → List (List Int) → Option (Bool)
 | 0, _, _, _, _, _, _, _, _ => none
 | k + 1, x1, x2, x7, x8, x40, x278000, x278001, x278002 => if x40 = true then (if x8 = 0 then ((lapidarylaw16_known.f k).bind fun t283 => (some t283)) else (if (x7.length : Int) = 0 then ((lapidarylaw16_known.f k).bind fun t284 => (some t284)) else (none))) else (if (x1.length : Int) = 0 then (none) else (lapidarylaw16_RingTurns.l0 k x1 x7 (Int.tmod (wrap64 (x2)) (x1.length : Int)) 0 0 0 x278000 x278001 x278002))
def lapidarylaw16_RingTurns.l0 : Nat → List Int → List (S42) → Int → Int → Int → Int → List (List (S42)) → List (List Int) → List (List Int) → Option (Bool)
 | 0, _, _, _, _, _, _, _, _, _ => none
 | k + 1, x1, x7, x9, x10, x11, x12, x278000, x278001, x278002 => if x12 < (x1.length : Int) then (if 0 ≤ x12 then ((ring_Arc.f k x278000 x278001 x278002 (rd x1 x12)).bind fun bt286 => (if x12 < x9 then (lapidarylaw16_RingTurns.l0 k x1 x7 x9 (wrap64 ((wrap64 (x10 + (bt286.1.length : Int))) - 1)) (wrap64 ((wrap64 (x11 + (bt286.1.length : Int))) - 1)) (wrap64 (x12 + 1)) x278000 x278001 x278002) else (lapidarylaw16_RingTurns.l0 k x1 x7 x9 (wrap64 ((wrap64 (x10 + (bt286.1.length : Int))) - 1)) x11 (wrap64 (x12 + 1)) x278000 x278001 x278002))) else (none)) else (if 0 ≤ x9 then (if x9 ≤ (x1.length : Int) then (if ([] : List Int).length + (x1.drop (x9 : Int).toNat).length < 17592186044416 then ((some (([] : List Int) ++ (x1.drop (x9 : Int).toNat) : List Int)).bind fun y291 => (if y291.length + (x1.take (x9 : Int).toNat).length < 17592186044416 then ((ring_Points.f k x278000 x278001 x278002 (y291 ++ (x1.take (x9 : Int).toNat))).bind fun bt298 => (if bt298.2 = 0 then (if (x7.length : Int) = x10 then (lapidarylaw16_RingTurns.j2 k x7 x10 x11 bt298.1 ((bt298.1.length : Int) != x10)) else (lapidarylaw16_RingTurns.j2 k x7 x10 x11 bt298.1 true)) else (lapidarylaw16_RingTurns.j2 k x7 x10 x11 bt298.1 true))) else (none))) else (none)) else (none)) else (none))
def lapidarylaw16_RingTurns.j2 : Nat → List (S42) → Int → Int → List (S42) → Bool → Option (Bool)
 | 0, _, _, _, _, _ => none
 | k + 1, x7, x10, x11, x16, x113 => if x113 = true then (none) else (lapidarylaw16_RingTurns.l1 k x7 x10 x11 x16 0)
def lapidarylaw16_RingTurns.l1 : Nat → List (S42) → Int → Int → List (S42) → Int → Option (Bool)
 | 0, _, _, _, _, _ => none
 | k + 1, x7, x10, x11, x16, x18 => if x18 < x10 then (if 0 ≤ x18 then (if x18 < (x16.length : Int) then (if x10 = 0 then (none) else (if 0 ≤ (Int.tmod (wrap64 (x18 + x11)) x10) then (if (Int.tmod (wrap64 (x18 + x11)) x10) < (x7.length : Int) then (if (!(((rd_T42 x16 x18).f0) == ((rd_T42 x7 (Int.tmod (wrap64 (x18 + x11)) x10)).f0)) || (!(((rd_T42 x16 x18).f1) == ((rd_T42 x7 (Int.tmod (wrap64 (x18 + x11)) x10)).f1)) || (!(((rd_T42 x16 x18).f2) == ((rd_T42 x7 (Int.tmod (wrap64 (x18 + x11)) x10)).f2))))) = true then (none) else (lapidarylaw16_RingTurns.l1 k x7 x10 x11 x16 (wrap64 (x18 + 1)))) else (none)) else (none))) else (none)) else (none)) else ((lapidarylaw16_known.f k).bind fun t304 => (some t304))
end
def lapidarylaw16_RingTurns.f (k : Nat) (l0_0 : List (List (S42))) (l0_1 : List (List Int)) (l0_2 : List (List Int)) (l1 : List Int) (a2 : Int) : Option (Bool) := (ring_Points.f k l0_0 l0_1 l0_2 l1).bind fun bt278 => ((lapidarylaw16_long.f k l0_0 l0_1 l0_2).bind fun t282 => (if t282 = true then (lapidarylaw16_RingTurns.j0 k l1 a2 bt278.1 bt278.2 true l0_0 l0_1 l0_2) else (if (l1.length : Int) > 40 then (lapidarylaw16_RingTurns.j0 k l1 a2 bt278.1 bt278.2 true l0_0 l0_1 l0_2) else (if bt278.2 = 0 then (lapidarylaw16_RingTurns.j0 k l1 a2 bt278.1 bt278.2 ((l1.length : Int) == 0) l0_0 l0_1 l0_2) else (lapidarylaw16_RingTurns.j0 k l1 a2 bt278.1 bt278.2 true l0_0 l0_1 l0_2)))))
theorem lapidarylaw16_RingTurns.mono_l : ∀ k, (∀ y0 y1 y2 y3 y4 y5 y6 y7, LeO (lapidarylaw16_RingTurns.j0 k y0 y1 y2 y3 y4 y5 y6 y7) (lapidarylaw16_RingTurns.j0 (k + 1) y0 y1 y2 y3 y4 y5 y6 y7)) ∧ (∀ y0 y1 y2 y3 y4 y5 y6 y7 y8, LeO (lapidarylaw16_RingTurns.l0 k y0 y1 y2 y3 y4 y5 y6 y7 y8) (lapidarylaw16_RingTurns.l0 (k + 1) y0 y1 y2 y3 y4 y5 y6 y7 y8)) ∧ (∀ y0 y1 y2 y3 y4, LeO (lapidarylaw16_RingTurns.j2 k y0 y1 y2 y3 y4) (lapidarylaw16_RingTurns.j2 (k + 1) y0 y1 y2 y3 y4)) ∧ (∀ y0 y1 y2 y3 y4, LeO (lapidarylaw16_RingTurns.l1 k y0 y1 y2 y3 y4) (lapidarylaw16_RingTurns.l1 (k + 1) y0 y1 y2 y3 y4))
 | 0 => ⟨fun _ _ _ _ _ _ _ _ r h => by simp [lapidarylaw16_RingTurns.j0] at h, fun _ _ _ _ _ _ _ _ _ r h => by simp [lapidarylaw16_RingTurns.l0] at h, fun _ _ _ _ _ r h => by simp [lapidarylaw16_RingTurns.j2] at h, fun _ _ _ _ _ r h => by simp [lapidarylaw16_RingTurns.l1] at h⟩
 | k + 1 => by
  obtain ⟨ih0, ih1, ih2, ih3⟩ := lapidarylaw16_RingTurns.mono_l k
  refine ⟨?_, ?_, ?_, ?_⟩
  ·intro y0 y1 y2 y3 y4 y5 y6 y7
   unfold lapidarylaw16_RingTurns.j0
   repeat' first
   | (with_reducible exact ih0 _ _ _ _ _ _ _ _)
   | (with_reducible exact ih1 _ _ _ _ _ _ _ _ _)
   | (with_reducible exact ih2 _ _ _ _ _)
   | (with_reducible exact ih3 _ _ _ _ _)
   | (with_reducible exact lapidarylaw16_known.mono _)
   | (with_reducible exact lapidarylaw16_long.mono _ _ _ _)
   | (with_reducible exact ring_Arc.mono _ _ _ _ _)
   | (with_reducible exact ring_Points.mono _ _ _ _ _)
   | (with_reducible exact LeO.refl _)
   | (with_reducible exact LeO.none _)
   | (with_reducible refine LeO.ite ?_ ?_)
   | (with_reducible refine LeO.bind ?_ (fun _ => ?_))
   | exact ih0 _ _ _ _ _ _ _ _
   | exact ih1 _ _ _ _ _ _ _ _ _
   | exact ih2 _ _ _ _ _
   | exact ih3 _ _ _ _ _
   | exact lapidarylaw16_known.mono _
   | exact lapidarylaw16_long.mono _ _ _ _
   | exact ring_Arc.mono _ _ _ _ _
   | exact ring_Points.mono _ _ _ _ _
   | exact LeO.none _
   | refine LeO.ite ?_ ?_
   | refine LeO.bind ?_ (fun _ => ?_)
  ·intro y0 y1 y2 y3 y4 y5 y6 y7 y8
   unfold lapidarylaw16_RingTurns.l0
   repeat' first
   | (with_reducible exact ih0 _ _ _ _ _ _ _ _)
   | (with_reducible exact ih1 _ _ _ _ _ _ _ _ _)
   | (with_reducible exact ih2 _ _ _ _ _)
   | (with_reducible exact ih3 _ _ _ _ _)
   | (with_reducible exact lapidarylaw16_known.mono _)
   | (with_reducible exact lapidarylaw16_long.mono _ _ _ _)
   | (with_reducible exact ring_Arc.mono _ _ _ _ _)
   | (with_reducible exact ring_Points.mono _ _ _ _ _)
   | (with_reducible exact LeO.refl _)
   | (with_reducible exact LeO.none _)
   | (with_reducible refine LeO.ite ?_ ?_)
   | (with_reducible refine LeO.bind ?_ (fun _ => ?_))
   | exact ih0 _ _ _ _ _ _ _ _
   | exact ih1 _ _ _ _ _ _ _ _ _
   | exact ih2 _ _ _ _ _
   | exact ih3 _ _ _ _ _
   | exact lapidarylaw16_known.mono _
   | exact lapidarylaw16_long.mono _ _ _ _
   | exact ring_Arc.mono _ _ _ _ _
   | exact ring_Points.mono _ _ _ _ _
   | exact LeO.none _
   | refine LeO.ite ?_ ?_
   | refine LeO.bind ?_ (fun _ => ?_)
  ·intro y0 y1 y2 y3 y4
   unfold lapidarylaw16_RingTurns.j2
   repeat' first
   | (with_reducible exact ih0 _ _ _ _ _ _ _ _)
   | (with_reducible exact ih1 _ _ _ _ _ _ _ _ _)
   | (with_reducible exact ih2 _ _ _ _ _)
   | (with_reducible exact ih3 _ _ _ _ _)
   | (with_reducible exact lapidarylaw16_known.mono _)
   | (with_reducible exact lapidarylaw16_long.mono _ _ _ _)
   | (with_reducible exact ring_Arc.mono _ _ _ _ _)
   | (with_reducible exact ring_Points.mono _ _ _ _ _)
   | (with_reducible exact LeO.refl _)
   | (with_reducible exact LeO.none _)
   | (with_reducible refine LeO.ite ?_ ?_)
   | (with_reducible refine LeO.bind ?_ (fun _ => ?_))
   | exact ih0 _ _ _ _ _ _ _ _
   | exact ih1 _ _ _ _ _ _ _ _ _
   | exact ih2 _ _ _ _ _
   | exact ih3 _ _ _ _ _
   | exact lapidarylaw16_known.mono _
   | exact lapidarylaw16_long.mono _ _ _ _
   | exact ring_Arc.mono _ _ _ _ _
   | exact ring_Points.mono _ _ _ _ _
   | exact LeO.none _
   | refine LeO.ite ?_ ?_
   | refine LeO.bind ?_ (fun _ => ?_)
  ·intro y0 y1 y2 y3 y4
   unfold lapidarylaw16_RingTurns.l1
   repeat' first
   | (with_reducible exact ih0 _ _ _ _ _ _ _ _)
   | (with_reducible exact ih1 _ _ _ _ _ _ _ _ _)
   | (with_reducible exact ih2 _ _ _ _ _)
   | (with_reducible exact ih3 _ _ _ _ _)
   | (with_reducible exact lapidarylaw16_known.mono _)
   | (with_reducible exact lapidarylaw16_long.mono _ _ _ _)
   | (with_reducible exact ring_Arc.mono _ _ _ _ _)
   | (with_reducible exact ring_Points.mono _ _ _ _ _)
   | (with_reducible exact LeO.refl _)
   | (with_reducible exact LeO.none _)
   | (with_reducible refine LeO.ite ?_ ?_)
   | (with_reducible refine LeO.bind ?_ (fun _ => ?_))
   | exact ih0 _ _ _ _ _ _ _ _
   | exact ih1 _ _ _ _ _ _ _ _ _
   | exact ih2 _ _ _ _ _
   | exact ih3 _ _ _ _ _
   | exact lapidarylaw16_known.mono _
   | exact lapidarylaw16_long.mono _ _ _ _
   | exact ring_Arc.mono _ _ _ _ _
   | exact ring_Points.mono _ _ _ _ _
   | exact LeO.none _
   | refine LeO.ite ?_ ?_
   | refine LeO.bind ?_ (fun _ => ?_)
theorem lapidarylaw16_RingTurns.mono : ∀ a0 a1 a2 a3 a4 k, LeO (lapidarylaw16_RingTurns.f k a0 a1 a2 a3 a4) (lapidarylaw16_RingTurns.f (k + 1) a0 a1 a2 a3 a4) := by
 intro a0 a1 a2 a3 a4 k
 obtain ⟨ih0, ih1, ih2, ih3⟩ := lapidarylaw16_RingTurns.mono_l k
 unfold lapidarylaw16_RingTurns.f
 repeat' first
   | (with_reducible exact ih0 _ _ _ _ _ _ _ _)
   | (with_reducible exact ih1 _ _ _ _ _ _ _ _ _)
   | (with_reducible exact ih2 _ _ _ _ _)
   | (with_reducible exact ih3 _ _ _ _ _)
   | (with_reducible exact lapidarylaw16_known.mono _)
   | (with_reducible exact lapidarylaw16_long.mono _ _ _ _)
   | (with_reducible exact ring_Arc.mono _ _ _ _ _)
   | (with_reducible exact ring_Points.mono _ _ _ _ _)
   | (with_reducible exact LeO.refl _)
   | (with_reducible exact LeO.none _)
   | (with_reducible refine LeO.ite ?_ ?_)
   | (with_reducible refine LeO.bind ?_ (fun _ => ?_))
   | exact ih0 _ _ _ _ _ _ _ _
   | exact ih1 _ _ _ _ _ _ _ _ _
   | exact ih2 _ _ _ _ _
   | exact ih3 _ _ _ _ _
   | exact lapidarylaw16_known.mono _
   | exact lapidarylaw16_long.mono _ _ _ _
   | exact ring_Arc.mono _ _ _ _ _
   | exact ring_Points.mono _ _ _ _ _
   | exact LeO.none _
   | refine LeO.ite ?_ ?_
   | refine LeO.bind ?_ (fun _ => ?_)
def lapidarylaw16_RingTurns.T10 : Bool × List (List Nat × List Nat) := (true, [([], []), ([], []), ([], []), ([1, 2], [1, 2]), ([3], [3]), ([0, 4], [0, 4]), ([5], [5]), ([6], [6]), ([6], [6]), ([7, 5, 0, 1, 2, 3, 4, 5, 6, 7], [7]), ([8, 9, 0, 1, 2, 3, 4, 5, 6, 7, 8, 9], [8])])
def lapidarylaw16_RingTurns.B10 : List Nat := [0, 0, 0, 6, 14, 31, 63, 127, 127, 255, 1023]
theorem lapidarylaw16_RingTurns.tab10 : rtab .any (opsOf Try.f6 10) = lapidarylaw16_RingTurns.T10 := by kernel_rfl
theorem lapidarylaw16_RingTurns.bits10 : waitsOk lapidarylaw16_RingTurns.T10.2 lapidarylaw16_RingTurns.B10 = true := by kernel_rfl
def lapidarylaw16_RingTurns.T23 : Bool × List (List Nat × List Nat) := (true, [([], []), ([], []), ([0, 1], [0, 1]), ([2], [2]), ([], []), ([], []), ([], []), ([5, 6], [5, 6]), ([], []), ([7, 8], [7, 8]), ([4, 9], [4, 9]), ([10], [10]), ([3, 11], [3, 11])])
def lapidarylaw16_RingTurns.B23 : List Nat := [0, 0, 3, 7, 0, 0, 0, 96, 0, 480, 1008, 2032, 4095]
theorem lapidarylaw16_RingTurns.tab23 : rtab .any (opsOf Try.f6 23) = lapidarylaw16_RingTurns.T23 := by kernel_rfl
theorem lapidarylaw16_RingTurns.bits23 : waitsOk lapidarylaw16_RingTurns.T23.2 lapidarylaw16_RingTurns.B23 = true := by kernel_rfl
set_option maxHeartbeats 8000000 in
set_option maxRecDepth 100000 in
theorem lapidarylaw16_RingTurns.calls (k : Nat) (A0_0 : Option Addr) (c0_0 : Nat) (l0_0 : List (List (S42))) (A0_1 : Option Addr) (c0_1 : Nat) (l0_1 : List (List Int)) (A0_2 : Option Addr) (c0_2 : Nat) (l0_2 : List (List Int)) (A1 : Option Addr) (c1 : Nat) (l1 : List Int) (a2 : Int) (r : Bool) (w : World) (hr0_0 : Kd.C (Kd.slice 42 k42) w A0_0 l0_0.length l0_0) (hc0_0 : l0_0.length ≤ c0_0) (hr0_1 : Kd.C (Kd.slice 3 (Kd.int .i64)) w A0_1 l0_1.length l0_1) (hc0_1 : l0_1.length ≤ c0_1) (hr0_2 : Kd.C (Kd.slice 3 (Kd.int .i64)) w A0_2 l0_2.length l0_2) (hc0_2 : l0_2.length ≤ c0_2) (hr1 : Kd.C (Kd.int .i64) w A1 l1.length l1) (hc1 : l1.length ≤ c1) (h : lapidarylaw16_RingTurns.f k l0_0 l0_1 l0_2 l1 a2 = some r) :
  Calls Try.prog 6 #[.agg #[.slice A0_0 l0_0.length c0_0, .slice A0_1 l0_1.length c0_1, .slice A0_2 l0_2.length c0_2], .slice A1 l1.length c1, .int .u8 a2] w fun e w' => e = .returned (.bool r) ∧ Below w.heap.size w w' := by
 have hu25 := Try.underlying25
 have hu42 := Try.underlying42
 have HR0_0 := Aside0.mk hr0_0
 have HC0_0 := Aside0.mk hc0_0
 clear hr0_0 hc0_0
 have HR0_1 := Aside0.mk hr0_1
 have HC0_1 := Aside0.mk hc0_1
 clear hr0_1 hc0_1
 have HR0_2 := Aside0.mk hr0_2
 have HC0_2 := Aside0.mk hc0_2
 clear hr0_2 hc0_2
 have HR1 := Aside0.mk hr1
 have HC1 := Aside0.mk hc1
 clear hr1 hc1
 have HB := Aside0.mk (Below.refl w.heap.size w)
 have H : ((ring_Points.f k l0_0 l0_1 l0_2 l1).bind fun bt278 => ((lapidarylaw16_long.f k l0_0 l0_1 l0_2).bind fun t282 => (if t282 = true then (lapidarylaw16_RingTurns.j0 k l1 a2 bt278.1 bt278.2 true l0_0 l0_1 l0_2) else (if (l1.length : Int) > 40 then (lapidarylaw16_RingTurns.j0 k l1 a2 bt278.1 bt278.2 true l0_0 l0_1 l0_2) else (if bt278.2 = 0 then (lapidarylaw16_RingTurns.j0 k l1 a2 bt278.1 bt278.2 ((l1.length : Int) == 0) l0_0 l0_1 l0_2) else (lapidarylaw16_RingTurns.j0 k l1 a2 bt278.1 bt278.2 true l0_0 l0_1 l0_2)))))) = some r := h
 clear h
 replace H := Option.bind_eq_some_iff.mp H
 obtain ⟨⟨t278, t281⟩, A40, H⟩ := H
 replace H : ((lapidarylaw16_long.f k l0_0 l0_1 l0_2).bind fun t282 => (if t282 = true then (lapidarylaw16_RingTurns.j0 k l1 a2 t278 t281 true l0_0 l0_1 l0_2) else (if (l1.length : Int) > 40 then (lapidarylaw16_RingTurns.j0 k l1 a2 t278 t281 true l0_0 l0_1 l0_2) else (if t281 = 0 then (lapidarylaw16_RingTurns.j0 k l1 a2 t278 t281 ((l1.length : Int) == 0) l0_0 l0_1 l0_2) else (lapidarylaw16_RingTurns.j0 k l1 a2 t278 t281 true l0_0 l0_1 l0_2))))) = some r := H
 have A4 := Aside0.mk A40
 clear A40
 have HC5 := Aside0.mk H
 clear H
 go_enter Try.func6, Try.ntmps6
 go_upto_region 2 with (first | ((with_reducible refine gate_dst (N := 3) rfl ?_); (try (refine gate_guard (by rfl) ?_; dsimp only)); refine box_event ?hg (N := 3) ?hd (cs := #[.slice A0_0 l0_0.length c0_0, .slice A0_1 l0_1.length c0_1, .slice A0_2 l0_2.length c0_2]) (t := 25) ?hr ?_; (case hd => rfl); (case hg => rfl); (case hr => first | (go_simp; done) | (go_simp; rfl)); intro gb277 hg w6 hbox hb; have n0_ := Aside0.mk (below_step (bH HB) hb); have n1_ := Aside0.mk (hbox); have n2_ := Aside0.mk ((by rw [hg]; exact (below_size (bH HB)) : w.heap.size ≤ gb277)); have n3_ := n2_; clear HB; have HB := n0_; have BK277 := n1_; have GW277 := n2_; have GE277 := n3_; clear n0_ n1_ n2_ n3_; clear hb hbox hg; have hcz7_0 : w6.cell? ⟨gb277, 0, none⟩ = some (.slice A0_0 l0_0.length c0_0) := (blk_cell BK277.out 0).trans rfl; have hcz7_1 : w6.cell? ⟨gb277, 1, none⟩ = some (.slice A0_1 l0_1.length c0_1) := (blk_cell BK277.out 1).trans rfl; have hcz7_2 : w6.cell? ⟨gb277, 2, none⟩ = some (.slice A0_2 l0_2.length c0_2) := (blk_cell BK277.out 2).trans rfl; have hfz7_0 := blk_frozen BK277.out 0; have hfz7_1 := blk_frozen BK277.out 1; have hfz7_2 := blk_frozen BK277.out 2) | ((with_reducible refine gate_callee (f := 10) rfl ?_); refine goesL_ (some 22) rfl rfl Try.func10 (by kernel_rfl) rfl #[.agg #[.slice A0_0 l0_0.length c0_0, .slice A0_1 l0_1.length c0_1, .slice A0_2 l0_2.length c0_2], .slice A1 l1.length c1] rfl (by (try simp only [List.map_toArray, List.map_cons, List.map_nil]); first | done | rfl | (simp only [List.length_drop, List.length_take]; rfl)) ?_; (with_reducible refine (ring_Points.calls k _ _ l0_0 _ _ l0_1 _ _ l0_2 _ _ l1 t278 t281 _ ?side1 ?side2 ?side3 ?side4 ?side5 ?side6 ?side7 ?side8 A4.out).mono ?_); (case side1 => repeat (first | exact (Kd.C_below HR0_0.out HB.out) | (with_reducible refine Kd.C_alloc ?_ _) | (with_reducible refine Kd.C_drewN ?_ _) | (with_reducible refine Kd.C_drew ?_))); (case side2 => exact HC0_0.out); (case side3 => repeat (first | exact (Kd.C_below HR0_1.out HB.out) | (with_reducible refine Kd.C_alloc ?_ _) | (with_reducible refine Kd.C_drewN ?_ _) | (with_reducible refine Kd.C_drew ?_))); (case side4 => exact HC0_1.out); (case side5 => repeat (first | exact (Kd.C_below HR0_2.out HB.out) | (with_reducible refine Kd.C_alloc ?_ _) | (with_reducible refine Kd.C_drewN ?_ _) | (with_reducible refine Kd.C_drew ?_))); (case side6 => exact HC0_2.out); (case side7 => repeat (first | exact (Kd.C_below HR1.out HB.out) | (with_reducible refine Kd.C_alloc ?_ _) | (with_reducible refine Kd.C_drewN ?_ _) | (with_reducible refine Kd.C_drew ?_))); (case side8 => exact HC1.out); rintro e w8 ⟨v279, rfl, ho0, hb⟩; refine ⟨_, rfl, ?_⟩; have n0_ := Aside0.mk (Kd.R_lower ho0 (below_size (bH HB))); have n1_ := Aside0.mk (blk_below (g := gb277) (o := .cells #[.slice A0_0 l0_0.length c0_0, .slice A0_1 l0_1.length c0_1, .slice A0_2 l0_2.length c0_2] 25 (0, 0)) (bK BK277) hb); have n2_ := Aside0.mk (below_step (bH HB) hb); clear BK277; clear HB; have HO280 := n0_; have BK277 := n1_; have HB := n2_; clear n0_ n1_ n2_; (try clear hb); (try clear hb2); (try clear hk); (try clear hi); (try clear ho0)))
 (try simp only [Act.put, List.setIfInBounds_toArray, List.set_cons_zero, List.set_cons_succ])
 go_cut [40] (fun v40 wc => ∃ (kq : Nat) (x40_4 : Bool), v40 = .bool x40_4 ∧ Aside0 (lapidarylaw16_RingTurns.j0 kq l1 a2 t278 t281 x40_4 l0_0 l0_1 l0_2 = some r) ∧ Aside0 (kq ≤ k) ∧ Aside0 (Kd.R k42 42 wc w.heap.size (fun _ => True) v279 t278) ∧ Aside0 (wc.heap[gb277]? = some (.cells #[(.slice A0_0 l0_0.length c0_0), (.slice A0_1 l0_1.length c0_1), (.slice A0_2 l0_2.length c0_2)] 25 (0, 0))) ∧ Aside0 (Below w.heap.size w wc))
 case first =>
  have H := HC5.out
  clear HC5
  replace H := Option.bind_eq_some_iff.mp H
  obtain ⟨t282, A90, H⟩ := H
  replace H : (if t282 = true then (lapidarylaw16_RingTurns.j0 k l1 a2 t278 t281 true l0_0 l0_1 l0_2) else (if (l1.length : Int) > 40 then (lapidarylaw16_RingTurns.j0 k l1 a2 t278 t281 true l0_0 l0_1 l0_2) else (if t281 = 0 then (lapidarylaw16_RingTurns.j0 k l1 a2 t278 t281 ((l1.length : Int) == 0) l0_0 l0_1 l0_2) else (lapidarylaw16_RingTurns.j0 k l1 a2 t278 t281 true l0_0 l0_1 l0_2)))) = some r := H
  have A9 := Aside0.mk A90
  clear A90
  by_cases c10 : t282 = true
  ·subst c10
   have H1 : (lapidarylaw16_RingTurns.j0 k l1 a2 t278 t281 true l0_0 l0_1 l0_2) = some r := by rw [if_pos rfl] at H; exact H
   clear H
   have H := H1
   clear H1
   have H' := Aside0.mk H
   clear H
   have hcz11_0 : w8.cell? ⟨gb277, 0, none⟩ = some (.slice A0_0 l0_0.length c0_0) := (blk_cell BK277.out 0).trans rfl
   have hcz11_1 : w8.cell? ⟨gb277, 1, none⟩ = some (.slice A0_1 l0_1.length c0_1) := (blk_cell BK277.out 1).trans rfl
   have hcz11_2 : w8.cell? ⟨gb277, 2, none⟩ = some (.slice A0_2 l0_2.length c0_2) := (blk_cell BK277.out 2).trans rfl
   have hfz11_0 := blk_frozen BK277.out 0
   have hfz11_1 := blk_frozen BK277.out 1
   have hfz11_2 := blk_frozen BK277.out 2
   go_wp2_with (first | ((with_reducible refine gate_callee (f := 8) rfl ?_); refine goesL_ (some 26) rfl rfl Try.func8 (by kernel_rfl) rfl #[.agg #[.slice A0_0 l0_0.length c0_0, .slice A0_1 l0_1.length c0_1, .slice A0_2 l0_2.length c0_2]] rfl (by (try simp only [List.map_toArray, List.map_cons, List.map_nil]); first | done | rfl | (simp only [List.length_drop, List.length_take]; rfl)) ?_; (with_reducible refine (lapidarylaw16_long.calls k _ _ l0_0 _ _ l0_1 _ _ l0_2 true _ ?side1 ?side2 ?side3 ?side4 ?side5 ?side6 A9.out).mono ?_); (case side1 => repeat (first | exact (Kd.C_below HR0_0.out HB.out) | (with_reducible refine Kd.C_alloc ?_ _) | (with_reducible refine Kd.C_drewN ?_ _) | (with_reducible refine Kd.C_drew ?_))); (case side2 => exact HC0_0.out); (case side3 => repeat (first | exact (Kd.C_below HR0_1.out HB.out) | (with_reducible refine Kd.C_alloc ?_ _) | (with_reducible refine Kd.C_drewN ?_ _) | (with_reducible refine Kd.C_drew ?_))); (case side4 => exact HC0_1.out); (case side5 => repeat (first | exact (Kd.C_below HR0_2.out HB.out) | (with_reducible refine Kd.C_alloc ?_ _) | (with_reducible refine Kd.C_drewN ?_ _) | (with_reducible refine Kd.C_drew ?_))); (case side6 => exact HC0_2.out); rintro e w12 ⟨rfl, hb⟩; refine ⟨_, rfl, ?_⟩; have n0_ := Aside0.mk (Kd.R_below (rK HO280) hb); have n1_ := Aside0.mk (blk_below (g := gb277) (o := .cells #[.slice A0_0 l0_0.length c0_0, .slice A0_1 l0_1.length c0_1, .slice A0_2 l0_2.length c0_2] 25 (0, 0)) (bK BK277) hb); have n2_ := Aside0.mk (below_step (bH HB) hb); clear HO280; clear BK277; clear HB; have HO280 := n0_; have BK277 := n1_; have HB := n2_; clear n0_ n1_ n2_; (try clear hb); (try clear hb2); (try clear hk); (try clear hi)))
   go_meet
   case rel => exact ⟨_, (true), (by first | rfl | (simp; done) | (simp [*]; done)), H', ⟨by first | omega | exact Nat.le_refl _⟩, ⟨by (with_reducible repeat (first | apply Kd.R_alloc | apply Kd.R_drewN | apply Kd.R_drew)); exact HO280.out⟩, ⟨bK BK277⟩, ⟨ bH HB⟩⟩
  ·replace c10 := Bool.eq_false_iff.mpr c10
   subst c10
   have H1 : (if (l1.length : Int) > 40 then (lapidarylaw16_RingTurns.j0 k l1 a2 t278 t281 true l0_0 l0_1 l0_2) else (if t281 = 0 then (lapidarylaw16_RingTurns.j0 k l1 a2 t278 t281 ((l1.length : Int) == 0) l0_0 l0_1 l0_2) else (lapidarylaw16_RingTurns.j0 k l1 a2 t278 t281 true l0_0 l0_1 l0_2))) = some r := by rw [if_neg (show ¬ (false = true) by decide)] at H; exact H
   clear H
   have H := H1
   clear H1
   by_cases c13 : (l1.length : Int) > 40
   ·rw [if_pos c13] at H
    have c13b0 : decide (40 < (l1.length : Int)) = true := decide_eq_true c13
    have c13b1 : decide (40 < l1.length) = true := decide_eq_true (by omega)
    clear c13
    (first | rw [c13b0] | (simp only [i64_w, i32_w]; rw [c13b0]) | skip)
    have H' := Aside0.mk H
    clear H
    have hcz14_0 : w8.cell? ⟨gb277, 0, none⟩ = some (.slice A0_0 l0_0.length c0_0) := (blk_cell BK277.out 0).trans rfl
    have hcz14_1 : w8.cell? ⟨gb277, 1, none⟩ = some (.slice A0_1 l0_1.length c0_1) := (blk_cell BK277.out 1).trans rfl
    have hcz14_2 : w8.cell? ⟨gb277, 2, none⟩ = some (.slice A0_2 l0_2.length c0_2) := (blk_cell BK277.out 2).trans rfl
    have hfz14_0 := blk_frozen BK277.out 0
    have hfz14_1 := blk_frozen BK277.out 1
    have hfz14_2 := blk_frozen BK277.out 2
    go_wp2_with (first | ((with_reducible refine gate_callee (f := 8) rfl ?_); refine goesL_ (some 26) rfl rfl Try.func8 (by kernel_rfl) rfl #[.agg #[.slice A0_0 l0_0.length c0_0, .slice A0_1 l0_1.length c0_1, .slice A0_2 l0_2.length c0_2]] rfl (by (try simp only [List.map_toArray, List.map_cons, List.map_nil]); first | done | rfl | (simp only [List.length_drop, List.length_take]; rfl)) ?_; (with_reducible refine (lapidarylaw16_long.calls k _ _ l0_0 _ _ l0_1 _ _ l0_2 false _ ?side1 ?side2 ?side3 ?side4 ?side5 ?side6 A9.out).mono ?_); (case side1 => repeat (first | exact (Kd.C_below HR0_0.out HB.out) | (with_reducible refine Kd.C_alloc ?_ _) | (with_reducible refine Kd.C_drewN ?_ _) | (with_reducible refine Kd.C_drew ?_))); (case side2 => exact HC0_0.out); (case side3 => repeat (first | exact (Kd.C_below HR0_1.out HB.out) | (with_reducible refine Kd.C_alloc ?_ _) | (with_reducible refine Kd.C_drewN ?_ _) | (with_reducible refine Kd.C_drew ?_))); (case side4 => exact HC0_1.out); (case side5 => repeat (first | exact (Kd.C_below HR0_2.out HB.out) | (with_reducible refine Kd.C_alloc ?_ _) | (with_reducible refine Kd.C_drewN ?_ _) | (with_reducible refine Kd.C_drew ?_))); (case side6 => exact HC0_2.out); rintro e w15 ⟨rfl, hb⟩; refine ⟨_, rfl, ?_⟩; have n0_ := Aside0.mk (Kd.R_below (rK HO280) hb); have n1_ := Aside0.mk (blk_below (g := gb277) (o := .cells #[.slice A0_0 l0_0.length c0_0, .slice A0_1 l0_1.length c0_1, .slice A0_2 l0_2.length c0_2] 25 (0, 0)) (bK BK277) hb); have n2_ := Aside0.mk (below_step (bH HB) hb); clear HO280; clear BK277; clear HB; have HO280 := n0_; have BK277 := n1_; have HB := n2_; clear n0_ n1_ n2_; (try clear hb); (try clear hb2); (try clear hk); (try clear hi)))
    go_meet
    case rel => exact ⟨_, (true), (by first | rfl | (simp; done) | (simp [*]; done)), H', ⟨by first | omega | exact Nat.le_refl _⟩, ⟨by (with_reducible repeat (first | apply Kd.R_alloc | apply Kd.R_drewN | apply Kd.R_drew)); exact HO280.out⟩, ⟨bK BK277⟩, ⟨ bH HB⟩⟩
   ·rw [if_neg c13] at H
    have c13b0 : decide (40 < (l1.length : Int)) = false := decide_eq_false c13
    have c13b1 : decide (40 < l1.length) = false := decide_eq_false (by omega)
    clear c13
    (first | rw [c13b0] | (simp only [i64_w, i32_w]; rw [c13b0]) | skip)
    by_cases c16 : t281 = 0
    ·rw [if_pos c16] at H
     have c16b0 : (t281 == 0) = true := beq_iff_eq.mpr c16
     have c16b1 : (t281 != 0) = false := bne_eq_false_iff_eq.mpr c16
     clear c16
     have H' := Aside0.mk H
     clear H
     have hcz17_0 : w8.cell? ⟨gb277, 0, none⟩ = some (.slice A0_0 l0_0.length c0_0) := (blk_cell BK277.out 0).trans rfl
     have hcz17_1 : w8.cell? ⟨gb277, 1, none⟩ = some (.slice A0_1 l0_1.length c0_1) := (blk_cell BK277.out 1).trans rfl
     have hcz17_2 : w8.cell? ⟨gb277, 2, none⟩ = some (.slice A0_2 l0_2.length c0_2) := (blk_cell BK277.out 2).trans rfl
     have hfz17_0 := blk_frozen BK277.out 0
     have hfz17_1 := blk_frozen BK277.out 1
     have hfz17_2 := blk_frozen BK277.out 2
     go_wp2_with (first | ((with_reducible refine gate_callee (f := 8) rfl ?_); refine goesL_ (some 26) rfl rfl Try.func8 (by kernel_rfl) rfl #[.agg #[.slice A0_0 l0_0.length c0_0, .slice A0_1 l0_1.length c0_1, .slice A0_2 l0_2.length c0_2]] rfl (by (try simp only [List.map_toArray, List.map_cons, List.map_nil]); first | done | rfl | (simp only [List.length_drop, List.length_take]; rfl)) ?_; (with_reducible refine (lapidarylaw16_long.calls k _ _ l0_0 _ _ l0_1 _ _ l0_2 false _ ?side1 ?side2 ?side3 ?side4 ?side5 ?side6 A9.out).mono ?_); (case side1 => repeat (first | exact (Kd.C_below HR0_0.out HB.out) | (with_reducible refine Kd.C_alloc ?_ _) | (with_reducible refine Kd.C_drewN ?_ _) | (with_reducible refine Kd.C_drew ?_))); (case side2 => exact HC0_0.out); (case side3 => repeat (first | exact (Kd.C_below HR0_1.out HB.out) | (with_reducible refine Kd.C_alloc ?_ _) | (with_reducible refine Kd.C_drewN ?_ _) | (with_reducible refine Kd.C_drew ?_))); (case side4 => exact HC0_1.out); (case side5 => repeat (first | exact (Kd.C_below HR0_2.out HB.out) | (with_reducible refine Kd.C_alloc ?_ _) | (with_reducible refine Kd.C_drewN ?_ _) | (with_reducible refine Kd.C_drew ?_))); (case side6 => exact HC0_2.out); rintro e w18 ⟨rfl, hb⟩; refine ⟨_, rfl, ?_⟩; have n0_ := Aside0.mk (Kd.R_below (rK HO280) hb); have n1_ := Aside0.mk (blk_below (g := gb277) (o := .cells #[.slice A0_0 l0_0.length c0_0, .slice A0_1 l0_1.length c0_1, .slice A0_2 l0_2.length c0_2] 25 (0, 0)) (bK BK277) hb); have n2_ := Aside0.mk (below_step (bH HB) hb); clear HO280; clear BK277; clear HB; have HO280 := n0_; have BK277 := n1_; have HB := n2_; clear n0_ n1_ n2_; (try clear hb); (try clear hb2); (try clear hk); (try clear hi)))
     go_meet
     case rel => exact ⟨_, (((l1.length : Int) == 0)), (by first | rfl | (simp; done) | (simp [*]; done)), H', ⟨by first | omega | exact Nat.le_refl _⟩, ⟨by (with_reducible repeat (first | apply Kd.R_alloc | apply Kd.R_drewN | apply Kd.R_drew)); exact HO280.out⟩, ⟨bK BK277⟩, ⟨ bH HB⟩⟩
    ·rw [if_neg c16] at H
     have c16b0 : (t281 == 0) = false := beq_eq_false_iff_ne.mpr c16
     have c16b1 : (t281 != 0) = true := bne_iff_ne.mpr c16
     have H' := Aside0.mk H
     clear H
     have hcz19_0 : w8.cell? ⟨gb277, 0, none⟩ = some (.slice A0_0 l0_0.length c0_0) := (blk_cell BK277.out 0).trans rfl
     have hcz19_1 : w8.cell? ⟨gb277, 1, none⟩ = some (.slice A0_1 l0_1.length c0_1) := (blk_cell BK277.out 1).trans rfl
     have hcz19_2 : w8.cell? ⟨gb277, 2, none⟩ = some (.slice A0_2 l0_2.length c0_2) := (blk_cell BK277.out 2).trans rfl
     have hfz19_0 := blk_frozen BK277.out 0
     have hfz19_1 := blk_frozen BK277.out 1
     have hfz19_2 := blk_frozen BK277.out 2
     go_wp2_with (first | ((with_reducible refine gate_callee (f := 8) rfl ?_); refine goesL_ (some 26) rfl rfl Try.func8 (by kernel_rfl) rfl #[.agg #[.slice A0_0 l0_0.length c0_0, .slice A0_1 l0_1.length c0_1, .slice A0_2 l0_2.length c0_2]] rfl (by (try simp only [List.map_toArray, List.map_cons, List.map_nil]); first | done | rfl | (simp only [List.length_drop, List.length_take]; rfl)) ?_; (with_reducible refine (lapidarylaw16_long.calls k _ _ l0_0 _ _ l0_1 _ _ l0_2 false _ ?side1 ?side2 ?side3 ?side4 ?side5 ?side6 A9.out).mono ?_); (case side1 => repeat (first | exact (Kd.C_below HR0_0.out HB.out) | (with_reducible refine Kd.C_alloc ?_ _) | (with_reducible refine Kd.C_drewN ?_ _) | (with_reducible refine Kd.C_drew ?_))); (case side2 => exact HC0_0.out); (case side3 => repeat (first | exact (Kd.C_below HR0_1.out HB.out) | (with_reducible refine Kd.C_alloc ?_ _) | (with_reducible refine Kd.C_drewN ?_ _) | (with_reducible refine Kd.C_drew ?_))); (case side4 => exact HC0_1.out); (case side5 => repeat (first | exact (Kd.C_below HR0_2.out HB.out) | (with_reducible refine Kd.C_alloc ?_ _) | (with_reducible refine Kd.C_drewN ?_ _) | (with_reducible refine Kd.C_drew ?_))); (case side6 => exact HC0_2.out); rintro e w20 ⟨rfl, hb⟩; refine ⟨_, rfl, ?_⟩; have n0_ := Aside0.mk (Kd.R_below (rK HO280) hb); have n1_ := Aside0.mk (blk_below (g := gb277) (o := .cells #[.slice A0_0 l0_0.length c0_0, .slice A0_1 l0_1.length c0_1, .slice A0_2 l0_2.length c0_2] 25 (0, 0)) (bK BK277) hb); have n2_ := Aside0.mk (below_step (bH HB) hb); clear HO280; clear BK277; clear HB; have HO280 := n0_; have BK277 := n1_; have HB := n2_; clear n0_ n1_ n2_; (try clear hb); (try clear hb2); (try clear hk); (try clear hi)))
     go_meet
     case rel => exact ⟨_, (true), (by first | rfl | (simp; done) | (simp [*]; done)), H', ⟨by first | omega | exact Nat.le_refl _⟩, ⟨by (with_reducible repeat (first | apply Kd.R_alloc | apply Kd.R_drewN | apply Kd.R_drew)); exact HO280.out⟩, ⟨bK BK277⟩, ⟨ bH HB⟩⟩
 case rest =>
  clear HC5
  try clear c1
  try clear p2
  try clear c6
  try clear c8
  try clear c10
  try clear c13
  try clear c13b0
  try clear c13b1
  try clear c16
  try clear c16b0
  try clear c16b1
  try clear hcz11_0
  try clear hcz11_1
  try clear hcz11_2
  try clear hcz14_0
  try clear hcz14_1
  try clear hcz14_2
  try clear hcz17_0
  try clear hcz17_1
  try clear hcz17_2
  try clear hcz19_0
  try clear hcz19_1
  try clear hcz19_2
  try clear hcz7_0
  try clear hcz7_1
  try clear hcz7_2
  try clear hfz11_0
  try clear hfz11_1
  try clear hfz11_2
  try clear hfz14_0
  try clear hfz14_1
  try clear hfz14_2
  try clear hfz17_0
  try clear hfz17_1
  try clear hfz17_2
  try clear hfz19_0
  try clear hfz19_1
  try clear hfz19_2
  try clear hfz7_0
  try clear hfz7_1
  try clear hfz7_2
  obtain ⟨kq, x40_4, rfl, HA, HJ4, HO_7, BK277, HB⟩ := hcut
  cases kq with
  | zero => exact absurd HA.out (by simp [lapidarylaw16_RingTurns.j0])
  | succ kj4 =>
   have H := HA.out
   clear HA
   simp only [lapidarylaw16_RingTurns.j0] at H
   by_cases c21 : x40_4 = true
   ·subst c21
    have H1 : (if t281 = 0 then ((lapidarylaw16_known.f kj4).bind fun t283 => (some t283)) else (if (t278.length : Int) = 0 then ((lapidarylaw16_known.f kj4).bind fun t284 => (some t284)) else (none))) = some r := by rw [if_pos rfl] at H; exact H
    clear H
    have H := H1
    clear H1
    by_cases c22 : t281 = 0
    ·rw [if_pos c22] at H
     have c22b0 : (t281 == 0) = true := beq_iff_eq.mpr c22
     have c22b1 : (t281 != 0) = false := bne_eq_false_iff_eq.mpr c22
     clear c22
     replace H := Option.bind_eq_some_iff.mp H
     obtain ⟨t283, A230, H⟩ := H
     replace H : (some t283) = some r := H
     have A23 := Aside0.mk A230
     clear A230
     obtain rfl := Option.some.inj H
     go_wp2_with (first | (go_at_call 9; (with_reducible refine (lapidarylaw16_known.calls kj4  t283 _ A23.out).mono ?_); rintro e w24 ⟨rfl, hb⟩; have n0_ := Aside0.mk (Kd.R_below (rK HO_7) hb); have n1_ := Aside0.mk (blk_below (g := gb277) (o := .cells #[.slice A0_0 l0_0.length c0_0, .slice A0_1 l0_1.length c0_1, .slice A0_2 l0_2.length c0_2] 25 (0, 0)) (bK BK277) hb); have n2_ := Aside0.mk (below_step (bH HB) hb); clear HO_7; clear BK277; clear HB; have HO_7 := n0_; have BK277 := n1_; have HB := n2_; clear n0_ n1_ n2_; (try clear hb); (try clear hb2); (try clear hk); (try clear hi)))
     go_ret
     exact ⟨by first | rfl | (simp [errW_none, errW_some] <;> rfl) | (simp [*, errW_none, errW_some] <;> rfl), bH HB⟩
    ·rw [if_neg c22] at H
     have c22b0 : (t281 == 0) = false := beq_eq_false_iff_ne.mpr c22
     have c22b1 : (t281 != 0) = true := bne_iff_ne.mpr c22
     by_cases c25 : (t278.length : Int) = 0
     ·rw [if_pos c25] at H
      have c25b0 : ((t278.length : Int) == 0) = true := beq_iff_eq.mpr c25
      have c25b1 : ((t278.length : Int) != 0) = false := bne_eq_false_iff_eq.mpr c25
      clear c25
      replace H := Option.bind_eq_some_iff.mp H
      obtain ⟨t284, A260, H⟩ := H
      replace H : (some t284) = some r := H
      have A26 := Aside0.mk A260
      clear A260
      obtain rfl := Option.some.inj H
      obtain ⟨Ao27, co27, eo27⟩ := Kd.R_slice HO_7.out
      subst eo27
      go_wp2_with (first | (go_at_call 9; (with_reducible refine (lapidarylaw16_known.calls kj4  t284 _ A26.out).mono ?_); rintro e w28 ⟨rfl, hb⟩; have n0_ := Aside0.mk (Kd.R_below (rK HO_7) hb); have n1_ := Aside0.mk (blk_below (g := gb277) (o := .cells #[.slice A0_0 l0_0.length c0_0, .slice A0_1 l0_1.length c0_1, .slice A0_2 l0_2.length c0_2] 25 (0, 0)) (bK BK277) hb); have n2_ := Aside0.mk (below_step (bH HB) hb); clear HO_7; clear BK277; clear HB; have HO_7 := n0_; have BK277 := n1_; have HB := n2_; clear n0_ n1_ n2_; (try clear hb); (try clear hb2); (try clear hk); (try clear hi)))
      go_ret
      exact ⟨by first | rfl | (simp [errW_none, errW_some] <;> rfl) | (simp [*, errW_none, errW_some] <;> rfl), bH HB⟩
     ·rw [if_neg c25] at H
      exact absurd H (by simp)
   ·replace c21 := Bool.eq_false_iff.mpr c21
    subst c21
    have H1 : (if (l1.length : Int) = 0 then (none) else (lapidarylaw16_RingTurns.l0 kj4 l1 t278 (Int.tmod (wrap64 (a2)) (l1.length : Int)) 0 0 0 l0_0 l0_1 l0_2)) = some r := by rw [if_neg (show ¬ (false = true) by decide)] at H; exact H
    clear H
    have H := H1
    clear H1
    by_cases c29 : (l1.length : Int) = 0
    ·rw [if_pos c29] at H
     exact absurd H (by simp)
    ·rw [if_neg c29] at H
     have c29b0 : ((l1.length : Int) == 0) = false := beq_eq_false_iff_ne.mpr c29
     have c29b1 : ((l1.length : Int) != 0) = true := bne_iff_ne.mpr c29
     have c29b2 : ¬ (l1 = []) := fun h_ => c29 (by rw [h_]; rfl)
     have H' := Aside0.mk H
     clear H
     go_wp2
     go_loopg [10, 11, 12] kj4 (fun kq v10 v11 v12 w' => ∃ (x10_2 : Int) (x11_2 : Int) (x12_2 : Int), v10 = .int .i64 x10_2 ∧ v11 = .int .i64 x11_2 ∧ v12 = .int .i64 x12_2 ∧ Aside0 (lapidarylaw16_RingTurns.l0 kq l1 t278 (Int.tmod (wrap64 (a2)) (l1.length : Int)) x10_2 x11_2 x12_2 l0_0 l0_1 l0_2 = some r) ∧ Aside0 (kq ≤ kj4) ∧ Aside0 (Kd.R k42 42 w' w.heap.size (fun _ => True) v279 t278) ∧ Aside0 (w'.heap[gb277]? = some (.cells #[(.slice A0_0 l0_0.length c0_0), (.slice A0_1 l0_1.length c0_1), (.slice A0_2 l0_2.length c0_2)] 25 (0, 0))) ∧ Aside0 (Below w.heap.size w w'))
     case atStart => exact ⟨(0), (0), (0), (by first | rfl | (simp; done) | (simp [*]; done)), (by first | rfl | (simp; done) | (simp [*]; done)), (by first | rfl | (simp; done) | (simp [*]; done)), H', ⟨Nat.le_refl _⟩, ⟨by (with_reducible repeat (first | apply Kd.R_alloc | apply Kd.R_drewN | apply Kd.R_drew)); exact HO_7.out⟩, ⟨bK BK277⟩, ⟨ bH HB⟩⟩
     case round =>
      clear H'
      try clear c1
      try clear c2
      try clear p2
      try clear c6
      try clear p6
      try clear c8
      try clear c10
      try clear c13
      try clear c13b0
      try clear c13b1
      try clear c16
      try clear c16b0
      try clear c16b1
      try clear c21
      try clear c22
      try clear c22b0
      try clear c22b1
      try clear c25
      try clear c25b0
      try clear c25b1
      try clear c29
      try clear c29b0
      try clear c29b1
      try clear c29b2
      try clear hcz11_0
      try clear hcz11_1
      try clear hcz11_2
      try clear hcz14_0
      try clear hcz14_1
      try clear hcz14_2
      try clear hcz17_0
      try clear hcz17_1
      try clear hcz17_2
      try clear hcz19_0
      try clear hcz19_1
      try clear hcz19_2
      try clear hcz7_0
      try clear hcz7_1
      try clear hcz7_2
      try clear hfz11_0
      try clear hfz11_1
      try clear hfz11_2
      try clear hfz14_0
      try clear hfz14_1
      try clear hfz14_2
      try clear hfz17_0
      try clear hfz17_1
      try clear hfz17_2
      try clear hfz19_0
      try clear hfz19_1
      try clear hfz19_2
      try clear hfz7_0
      try clear hfz7_1
      try clear hfz7_2
      try clear p2
      obtain ⟨x10_2, x11_2, x12_2, rfl, rfl, rfl, HA, HK2, HO_7, BK277, HB⟩ := hrel
      cases gk with
      | zero => exact absurd HA.out (by simp [lapidarylaw16_RingTurns.l0])
      | succ k2 =>
       have H := HA.out
       clear HA
       simp only [lapidarylaw16_RingTurns.l0] at H
       by_cases c30 : x12_2 < (l1.length : Int)
       ·rw [if_pos c30] at H
        have c30b0 : decide (x12_2 < (l1.length : Int)) = true := decide_eq_true c30
        clear c30
        by_cases c31 : 0 ≤ x12_2
        ·rw [if_pos c31] at H
         have c31b0 : decide (0 ≤ x12_2) = true := decide_eq_true c31
         clear c31
         replace H := Option.bind_eq_some_iff.mp H
         obtain ⟨⟨t286, t289⟩, A320, H⟩ := H
         replace H : (if x12_2 < (Int.tmod (wrap64 (a2)) (l1.length : Int)) then (lapidarylaw16_RingTurns.l0 k2 l1 t278 (Int.tmod (wrap64 (a2)) (l1.length : Int)) (wrap64 ((wrap64 (x10_2 + (t286.length : Int))) - 1)) (wrap64 ((wrap64 (x11_2 + (t286.length : Int))) - 1)) (wrap64 (x12_2 + 1)) l0_0 l0_1 l0_2) else (lapidarylaw16_RingTurns.l0 k2 l1 t278 (Int.tmod (wrap64 (a2)) (l1.length : Int)) (wrap64 ((wrap64 (x10_2 + (t286.length : Int))) - 1)) x11_2 (wrap64 (x12_2 + 1)) l0_0 l0_1 l0_2)) = some r := H
         have A32 := Aside0.mk A320
         clear A320
         have HC33 := Aside0.mk H
         clear H
         try go_wp2
         have n0_ := Aside0.mk (Kd.R_drew HO_7.out)
         have n1_ := Aside0.mk (blk_drew BK277.out)
         have n2_ := Aside0.mk (below_drew1 HB.out)
         clear HO_7
         clear BK277
         clear HB
         have HO_7 := n0_
         have BK277 := n1_
         have HB := n2_
         clear n0_ n1_ n2_
         have p285 : 0 ≤ (x12_2 : Int) := of_decide_eq_true (by first | (with_reducible assumption) | assumption)
         have q285 : x12_2 < (l1.length : Int) := of_decide_eq_true (by first | (with_reducible assumption) | assumption)
         obtain ⟨ad285, e285, hx285_0⟩ := Kd.at_int HR1.out x12_2 p285 q285
         have hw285_0 := hx285_0
         cases e285
         replace hx285_0 := (HB.out.cell (World.block_lt_of_cell? w _ hx285_0)).trans hx285_0
         replace p285 := eq_true p285
         replace q285 := eq_true q285
         refine start_ (n := 11) (S := fun w' => w'.cell? ⟨gb277, 0, none⟩ = some (.slice A0_0 l0_0.length c0_0) ∧ w'.cell? ⟨gb277, 1, none⟩ = some (.slice A0_1 l0_1.length c0_1) ∧ w'.cell? ⟨gb277, 2, none⟩ = some (.slice A0_2 l0_2.length c0_2) ∧ w'.cell? (ad285.add (x12_2).toNat) = some (.int .i64 (rd l1 x12_2))) (ds := []) #[false, false, false, false, false, false, false, false, false, false, false] (by kernel_rfl) rfl rfl ⟨(blk_cell BK277.out 0).trans rfl, (blk_cell BK277.out 1).trans rfl, (blk_cell BK277.out 2).trans rfl, ((HB.out.cell (World.block_lt_of_cell? w _ hw285_0)).trans hw285_0)⟩ (fun hHeld => ?_); refine with_tabW lapidarylaw16_RingTurns.tab10 lapidarylaw16_RingTurns.bits10 (fun HT_ HW_ => ?_)
         generalize wr.drew = w34 at HO_7 BK277 HB hx285_0 hHeld ⊢
         refine pure_ (i := 1) (N := some 64) (v := ?_) (a' := ?_) #[false, true, false, false, false, false, false, false, false, false, false] rfl rfl (any_of HT_.out (by kernel_rfl)) (fun _ _ _ h => h) (Or.inl ⟨by rfl, ?_⟩) ?_ ?_
         rotate_left
         ·intro w'
          go_simp
          with_reducible rfl
         rotate_left
         ·simp only [Act.put, List.setIfInBounds_toArray, List.set_cons_zero, List.set_cons_succ, i64_w, i32_w]
          rfl
         refine pure_ (i := 2) (N := some 65) (v := ?_) (a' := ?_) #[false, true, true, false, false, false, false, false, false, false, false] rfl rfl (any_of HT_.out (by kernel_rfl)) (fun _ _ _ h => h) (Or.inl ⟨by rfl, ?_⟩) ?_ ?_
         rotate_left
         ·intro w'
          go_simp
          with_reducible rfl
         rotate_left
         ·simp only [Act.put, List.setIfInBounds_toArray, List.set_cons_zero, List.set_cons_succ, i64_w, i32_w]
          rfl
         refine pure_ (i := 3) (N := some 66) (v := ?_) (a' := ?_) #[false, true, true, true, false, false, false, false, false, false, false] rfl rfl (any_of HT_.out (by kernel_rfl)) (fun _ _ _ h => h) (Or.inl ⟨by rfl, ?_⟩) ?_ ?_
         rotate_left
         ·intro w'
          go_simp
          with_reducible rfl
         rotate_left
         ·simp only [Act.put, List.setIfInBounds_toArray, List.set_cons_zero, List.set_cons_succ, i64_w, i32_w]
          rfl
         refine take_ (i := 0) (N := some 63) (v := ?_) (a' := ?_) #[true, true, true, true, false, false, false, false, false, false, false] rfl rfl (take_ofW HT_.out HW_.out (by kernel_rfl)) (fun _ _ _ h => h) (Or.inl ⟨by rfl, ?_⟩) hHeld ?_ ?_
         rotate_left
         ·rintro w' ⟨s0, s1, s2, s3⟩
          go_simp
          with_reducible rfl
         rotate_left
         ·simp only [Act.put, List.setIfInBounds_toArray, List.set_cons_zero, List.set_cons_succ, i64_w, i32_w]
          rfl
         refine take_ (i := 4) (N := some 67) (v := ?_) (a' := ?_) #[true, true, true, true, true, false, false, false, false, false, false] rfl rfl (take_ofW HT_.out HW_.out (by kernel_rfl)) (fun _ _ _ h => h) (Or.inl ⟨by rfl, ?_⟩) hHeld ?_ ?_
         rotate_left
         ·rintro w' ⟨s0, s1, s2, s3⟩
          go_simp
          with_reducible rfl
         rotate_left
         ·simp only [Act.put, List.setIfInBounds_toArray, List.set_cons_zero, List.set_cons_succ, i64_w, i32_w]
          rfl
         refine one_ (i := 5) (N := some 68) #[true, true, true, true, true, true, false, false, false, false, false] rfl rfl (one_of HT_.out (by kernel_rfl)) (by decide) (fun K hK => ?_)
         refine goes_ Try.func12 (by kernel_rfl) rfl #[.agg #[.slice A0_0 l0_0.length c0_0, .slice A0_1 l0_1.length c0_1, .slice A0_2 l0_2.length c0_2], .int .i64 (rd l1 x12_2)] (by rfl) rfl rfl (by (try simp only [List.map_toArray, List.map_cons, List.map_nil]); first | done | rfl | (simp only [List.length_drop, List.length_take]; rfl)) ?_
         with_reducible refine (ring_Arc.calls k2 _ _ l0_0 _ _ l0_1 _ _ l0_2 (rd l1 x12_2) t286 t289 _ ?side1 ?side2 ?side3 ?side4 ?side5 ?side6 A32.out).mono ?_
         (case side1 => repeat (first | exact (Kd.C_below HR0_0.out HB.out) | (with_reducible refine Kd.C_alloc ?_ _) | (with_reducible refine Kd.C_drewN ?_ _) | (with_reducible refine Kd.C_drew ?_)))
         (case side2 => exact HC0_0.out)
         (case side3 => repeat (first | exact (Kd.C_below HR0_1.out HB.out) | (with_reducible refine Kd.C_alloc ?_ _) | (with_reducible refine Kd.C_drewN ?_ _) | (with_reducible refine Kd.C_drew ?_)))
         (case side4 => exact HC0_1.out)
         (case side5 => repeat (first | exact (Kd.C_below HR0_2.out HB.out) | (with_reducible refine Kd.C_alloc ?_ _) | (with_reducible refine Kd.C_drewN ?_ _) | (with_reducible refine Kd.C_drew ?_)))
         (case side6 => exact HC0_2.out)
         rintro e w35 ⟨v287, rfl, ho0, hb⟩
         refine ⟨_, rfl, ?_⟩
         have n0_ := Aside0.mk (Kd.R_elder' (rK HO_7) (Kd.R_base ho0) hb)
         have n1_ := Aside0.mk (Kd.R_lower (Kd.R_new' ho0 (Kd.R_lt (rK HO_7))) (below_size (bH HB)))
         have n2_ := Aside0.mk (blk_below (g := gb277) (o := .cells #[.slice A0_0 l0_0.length c0_0, .slice A0_1 l0_1.length c0_1, .slice A0_2 l0_2.length c0_2] 25 (0, 0)) (bK BK277) hb)
         have n3_ := Aside0.mk (below_step (bH HB) hb)
         clear HO_7
         clear BK277
         clear HB
         have HO_7 := n0_
         have HO288 := n1_
         have BK277 := n2_
         have HB := n3_
         clear n0_ n1_ n2_ n3_
         (try clear hb)
         (try clear hb2)
         (try clear hk)
         (try clear hi)
         (try clear ho0)
         refine hK.out _ _ ⟨(blk_cell BK277.out 0).trans rfl, (blk_cell BK277.out 1).trans rfl, (blk_cell BK277.out 2).trans rfl, ((HB.out.cell (World.block_lt_of_cell? w _ hw285_0)).trans hw285_0)⟩ (fun hHeld => ?_)
         clear hK K
         refine norm_ (a' := ?_) ?_ ?_
         rotate_left
         ·show Act.put _ (some 68) _ = _
          simp only [Act.put, List.setIfInBounds_toArray, List.set_cons_zero, List.set_cons_succ, i64_w, i32_w]
          rfl
         refine pure_ (i := 6) (N := some 62) (v := ?_) (a' := ?_) #[true, true, true, true, true, true, true, false, false, false, false] rfl rfl (any_of HT_.out (by kernel_rfl)) (fun _ _ _ h => h) (Or.inl ⟨by rfl, ?_⟩) ?_ ?_
         rotate_left
         ·intro w'
          go_simp
          with_reducible rfl
         rotate_left
         ·simp only [Act.put, List.setIfInBounds_toArray, List.set_cons_zero, List.set_cons_succ, i64_w, i32_w]
          rfl
         refine pure_ (i := 7) (N := some 69) (v := ?_) (a' := ?_) #[true, true, true, true, true, true, true, true, false, false, false] rfl rfl (any_of HT_.out (by kernel_rfl)) (fun _ _ _ h => h) (Or.inl ⟨by rfl, ?_⟩) ?_ ?_
         rotate_left
         ·intro w'
          go_simp
          with_reducible rfl
         rotate_left
         ·simp only [Act.put, List.setIfInBounds_toArray, List.set_cons_zero, List.set_cons_succ, i64_w, i32_w]
          rfl
         refine pure_ (i := 8) (N := some 70) (v := ?_) (a' := ?_) #[true, true, true, true, true, true, true, true, true, false, false] rfl rfl (any_of HT_.out (by kernel_rfl)) (fun _ _ _ h => h) (Or.inl ⟨by rfl, ?_⟩) ?_ ?_
         rotate_left
         ·intro w'
          go_simp
          with_reducible rfl
         rotate_left
         ·simp only [Act.put, List.setIfInBounds_toArray, List.set_cons_zero, List.set_cons_succ, i64_w, i32_w]
          rfl
         refine pure_ (i := 9) (N := some 13) (v := ?_) (a' := ?_) #[true, true, true, true, true, true, true, true, true, true, false] rfl rfl (any_of HT_.out (by kernel_rfl)) (fun _ _ _ h => h) (Or.inl ⟨by rfl, ?_⟩) ?_ ?_
         rotate_left
         ·intro w'
          go_simp
          with_reducible rfl
         rotate_left
         ·simp only [Act.put, List.setIfInBounds_toArray, List.set_cons_zero, List.set_cons_succ, i64_w, i32_w]
          rfl
         refine pure_ (i := 10) (N := some 14) (v := ?_) (a' := ?_) #[true, true, true, true, true, true, true, true, true, true, true] rfl rfl (any_of HT_.out (by kernel_rfl)) (fun _ _ _ h => h) (Or.inl ⟨by rfl, ?_⟩) ?_ ?_
         rotate_left
         ·intro w'
          go_simp
          with_reducible rfl
         rotate_left
         ·simp only [Act.put, List.setIfInBounds_toArray, List.set_cons_zero, List.set_cons_succ, i64_w, i32_w]
          rfl
         refine done_ (done_of HT_.out (by kernel_rfl)) ?_
         obtain ⟨Ao36, co36, eo36⟩ := Kd.R_slice HO288.out
         subst eo36
         go_upto_if 78 with (fail)
         have H := HC33.out
         clear HC33
         by_cases c37 : x12_2 < (Int.tmod (wrap64 (a2)) (l1.length : Int))
         ·rw [if_pos c37] at H
          have c37b0 : decide (x12_2 < (Int.tmod (wrap64 (a2)) (l1.length : Int))) = true := decide_eq_true c37
          clear c37
          (first | rw [c37b0] | (simp only [i64_w, i32_w]; rw [c37b0]) | skip)
          have H' := Aside0.mk H
          clear H
          go_wp2
          go_roundg k2
          case measure => have := HJ4.out; have := HK2.out; omega
          case rel => exact ⟨(wrap64 ((wrap64 (x10_2 + (t286.length : Int))) - 1)), (wrap64 ((wrap64 (x11_2 + (t286.length : Int))) - 1)), (wrap64 (x12_2 + 1)), (by first | rfl | (simp; done) | (simp [*]; done)), (by first | rfl | (simp; done) | (simp [*]; done)), (by first | rfl | (simp; done) | (simp [*]; done)), H', ⟨by have := HJ4.out; have := HK2.out; omega⟩, ⟨by (with_reducible repeat (first | apply Kd.R_alloc | apply Kd.R_drewN | apply Kd.R_drew)); exact Kd.R_mono HO_7.out (fun _ hk => trivial)⟩, ⟨bK BK277⟩, ⟨ bH HB⟩⟩
         ·rw [if_neg c37] at H
          have c37b0 : decide (x12_2 < (Int.tmod (wrap64 (a2)) (l1.length : Int))) = false := decide_eq_false c37
          clear c37
          (first | rw [c37b0] | (simp only [i64_w, i32_w]; rw [c37b0]) | skip)
          have H' := Aside0.mk H
          clear H
          go_wp2
          go_roundg k2
          case measure => have := HJ4.out; have := HK2.out; omega
          case rel => exact ⟨(wrap64 ((wrap64 (x10_2 + (t286.length : Int))) - 1)), (x11_2), (wrap64 (x12_2 + 1)), (by first | rfl | (simp; done) | (simp [*]; done)), (by first | rfl | (simp; done) | (simp [*]; done)), (by first | rfl | (simp; done) | (simp [*]; done)), H', ⟨by have := HJ4.out; have := HK2.out; omega⟩, ⟨by (with_reducible repeat (first | apply Kd.R_alloc | apply Kd.R_drewN | apply Kd.R_drew)); exact Kd.R_mono HO_7.out (fun _ hk => trivial)⟩, ⟨bK BK277⟩, ⟨ bH HB⟩⟩
        ·rw [if_neg c31] at H
         exact absurd H (by simp)
       ·rw [if_neg c30] at H
        have c30b0 : decide (x12_2 < (l1.length : Int)) = false := decide_eq_false c30
        clear c30
        obtain ⟨ji38, hji38⟩ : ∃ j_ : Int, (Int.tmod (wrap64 (a2)) (l1.length : Int)) = j_ := ⟨_, rfl⟩
        replace H : (if 0 ≤ (ji38) then (if (ji38) ≤ (l1.length : Int) then (if ([] : List Int).length + (l1.drop ((ji38) : Int).toNat).length < 17592186044416 then ((some (([] : List Int) ++ (l1.drop ((ji38) : Int).toNat) : List Int)).bind fun y291 => (if y291.length + (l1.take ((ji38) : Int).toNat).length < 17592186044416 then ((ring_Points.f k2 l0_0 l0_1 l0_2 (y291 ++ (l1.take ((ji38) : Int).toNat))).bind fun bt298 => (if bt298.2 = 0 then (if (t278.length : Int) = x10_2 then (lapidarylaw16_RingTurns.j2 k2 t278 x10_2 x11_2 bt298.1 ((bt298.1.length : Int) != x10_2)) else (lapidarylaw16_RingTurns.j2 k2 t278 x10_2 x11_2 bt298.1 true)) else (lapidarylaw16_RingTurns.j2 k2 t278 x10_2 x11_2 bt298.1 true))) else (none))) else (none)) else (none)) else (none)) = some r := by first | (rw [hji38] at H; exact H) | (simp only [hji38] at H ⊢; exact H)
        by_cases c39 : 0 ≤ (ji38)
        ·rw [if_pos c39] at H
         have c39b0 := eq_true c39
         have c39b1 : decide (0 ≤ (ji38)) = true := decide_eq_true c39
         clear c39
         by_cases c40 : (ji38) ≤ (l1.length : Int)
         ·rw [if_pos c40] at H
          have c40b0 := eq_true c40
          have c40b1 : decide ((ji38) ≤ (l1.length : Int)) = true := decide_eq_true c40
          clear c40
          by_cases c41 : ([] : List Int).length + (l1.drop ((ji38) : Int).toNat).length < 17592186044416
          ·rw [if_pos c41] at H
           have LMc41 := Aside0.mk c41
           clear c41
           obtain ⟨y291, hy291⟩ : ∃ y_ : List Int, y_ = (([] : List Int) ++ (l1.drop ((ji38) : Int).toNat)) := ⟨_, rfl⟩
           replace H : (if y291.length + (l1.take ((ji38) : Int).toNat).length < 17592186044416 then ((ring_Points.f k2 l0_0 l0_1 l0_2 (y291 ++ (l1.take ((ji38) : Int).toNat))).bind fun bt298 => (if bt298.2 = 0 then (if (t278.length : Int) = x10_2 then (lapidarylaw16_RingTurns.j2 k2 t278 x10_2 x11_2 bt298.1 ((bt298.1.length : Int) != x10_2)) else (lapidarylaw16_RingTurns.j2 k2 t278 x10_2 x11_2 bt298.1 true)) else (lapidarylaw16_RingTurns.j2 k2 t278 x10_2 x11_2 bt298.1 true))) else (none)) = some r := by first | (rw [hy291]; with_reducible exact H) | (have H2_ := (Option.bind_some _ _).symm.trans H; rw [hy291]; with_reducible exact H2_) | (have H2_ := (Option.bind_some _ _).symm.trans H; with_reducible exact H2_) | with_reducible exact H | (rw [hy291]; exact H) | exact H
           have Ny291 := Aside0.mk hy291
           clear hy291
           have c42b0 := eq_true (of_decide_eq_true (by first | (with_reducible assumption) | assumption) : 0 ≤ (ji38))
           have c43b0 := eq_true (of_decide_eq_true (by first | (with_reducible assumption) | assumption) : (ji38) ≤ (l1.length : Int))
           by_cases c44 : y291.length + (l1.take ((ji38) : Int).toNat).length < 17592186044416
           ·rw [if_pos c44] at H
            have LMc44 := Aside0.mk c44
            clear c44
            obtain ⟨y295, hy295⟩ : ∃ y_ : List Int, y_ = (y291 ++ (l1.take ((ji38) : Int).toNat)) := ⟨_, rfl⟩
            replace H : ((ring_Points.f k2 l0_0 l0_1 l0_2 y295).bind fun bt298 => (if bt298.2 = 0 then (if (t278.length : Int) = x10_2 then (lapidarylaw16_RingTurns.j2 k2 t278 x10_2 x11_2 bt298.1 ((bt298.1.length : Int) != x10_2)) else (lapidarylaw16_RingTurns.j2 k2 t278 x10_2 x11_2 bt298.1 true)) else (lapidarylaw16_RingTurns.j2 k2 t278 x10_2 x11_2 bt298.1 true))) = some r := by first | (rw [hy295]; with_reducible exact H) | (have H2_ := (Option.bind_some _ _).symm.trans H; rw [hy295]; with_reducible exact H2_) | (have H2_ := (Option.bind_some _ _).symm.trans H; with_reducible exact H2_) | with_reducible exact H | (rw [hy295]; exact H) | exact H
            have Ny295 := Aside0.mk hy295
            clear hy295
            replace H := Option.bind_eq_some_iff.mp H
            obtain ⟨⟨t298, t301⟩, A450, H⟩ := H
            replace H : (if t301 = 0 then (if (t278.length : Int) = x10_2 then (lapidarylaw16_RingTurns.j2 k2 t278 x10_2 x11_2 t298 ((t298.length : Int) != x10_2)) else (lapidarylaw16_RingTurns.j2 k2 t278 x10_2 x11_2 t298 true)) else (lapidarylaw16_RingTurns.j2 k2 t278 x10_2 x11_2 t298 true)) = some r := H
            have A45 := Aside0.mk A450
            clear A450
            have HC46 := Aside0.mk H
            clear H
            obtain ⟨i047, hi047, _, hsz47, _⟩ := info_parts info3
            obtain ⟨A47, hcut47, hA47, hC47⟩ := print_drop_of (P := Try.prog) (Value.int .i64) 0 26 3 .i64 Try.underlying26 hi047 hsz47 A1 c1 l1 (ji38) (of_decide_eq_true (by first | (with_reducible assumption) | assumption)) (of_decide_eq_true (by first | (with_reducible assumption) | assumption)) HC1.out
            have HR290 := Aside0.mk (Kd.C_of_reads (h1 := fun _ => rfl) (hA47 _ (Kd.reads_of_C HR1.out)))
            have HC290 := Aside0.mk hC47
            clear hA47 hC47 hi047 hsz47
            go_upto_region 18 with (first | ((with_reducible refine gate_builtin (b := .append) (xs := #[.tmp 84, .tmp 87]) rfl ?_); (try (refine gate_guard (by rfl) ?_; dsimp only)); at_builtin; refine Kd.R_append_rows (Kd.int .i64) (w0 := w) w.heap.size rfl (.tmp 84) (.tmp 87) 26 3 (.int .i64 0) 8 rfl Try.underlying26 info3 rfl (by decide) (by omega) (.slice none 0 0) ([] : List Int) (l1.drop ((ji38) : Int).toNat) _ _ _ (fun _ => True) (fun _ => False) rfl rfl ?aO ?aR (fun _ _ h => h) (fun _ h => h.elim) ?aF ?aB ?aS ?aL ?_; (case aR => first | (rw [← show (l1.drop ((ji38) : Int).toNat).length = (l1.length - (ji38).toNat) from List.length_drop]; repeat (first | exact (Kd.C_below HR290.out HB.out) | (with_reducible refine Kd.C_alloc ?_ _) | (with_reducible refine Kd.C_drewN ?_ _) | (with_reducible refine Kd.C_drew ?_))) | (repeat (first | exact (Kd.C_below HR290.out HB.out) | (with_reducible refine Kd.C_alloc ?_ _) | (with_reducible refine Kd.C_drewN ?_ _) | (with_reducible refine Kd.C_drew ?_)))); (case aB => exact (bH HB)); (case aF => exact (fun _ _ => trivial)); (case aO => exact ((Kd.R_nil _ _ _ _ (fun _ => True)))); (case aS => exact (below_size (bH HB))); (case aL => have := LMc41.out; have hlx_ := (show (l1.drop ((ji38) : Int).toNat).length = (l1.length - (ji38).toNat) from List.length_drop); omega); intro v292 w48 ho hb hg hat; rw [← Ny291.out] at ho; have n0_ := Aside0.mk (Kd.R_grown (rK HO_7) hg (fun _ _ => by simp [Value.ownBlock])); have n1_ := Aside0.mk (blk_grown (g := gb277) (o := .cells #[.slice A0_0 l0_0.length c0_0, .slice A0_1 l0_1.length c0_1, .slice A0_2 l0_2.length c0_2] 25 (0, 0)) (bK BK277) hg (by simp [Value.ownBlock])); have n2_ := Aside0.mk (hb); have n3_ := Aside0.mk (ho); clear HO_7; clear BK277; clear HB; have HO_7 := n0_; have BK277 := n1_; have HB := n2_; have HO293 := n3_; clear n0_ n1_ n2_ n3_; clear ho hb hg hat; obtain ⟨i049, hi049, _, hsz49, _⟩ := info_parts info3; obtain ⟨hcut49, hA49, hC49⟩ := print_take_of (P := Try.prog) (Value.int .i64) 0 26 3 .i64 Try.underlying26 hi049 hsz49 A1 c1 l1 (ji38) (of_decide_eq_true (by first | (with_reducible assumption) | assumption)) (of_decide_eq_true (by first | (with_reducible assumption) | assumption)) HC1.out; have HR294 := Aside0.mk (Kd.C_of_reads (h1 := fun _ => rfl) (hA49 _ (Kd.reads_of_C HR1.out))); have HC294 := Aside0.mk hC49; clear hA49 hC49 hi049 hsz49) | ((with_reducible refine gate_builtin (b := .append) (xs := #[.tmp 89, .tmp 92]) rfl ?_); (try (refine gate_guard (by rfl) ?_; dsimp only)); at_builtin; refine Kd.R_append_rows (Kd.int .i64) (w0 := w) w.heap.size rfl (.tmp 89) (.tmp 92) 26 3 (.int .i64 0) 8 rfl Try.underlying26 info3 rfl (by decide) (by omega) v292 y291 (l1.take ((ji38) : Int).toNat) _ _ _ (fun _ => True) (fun _ => False) rfl rfl ?aO ?aR (fun _ _ h => h) (fun _ h => h.elim) ?aF ?aB ?aS ?aL ?_; (case aR => first | (have hl_ := (show (l1.take ((ji38) : Int).toNat).length = (ji38).toNat from (by rw [List.length_take]; have h_ : ((ji38) : Int) ≤ (l1.length : Int) := of_decide_eq_true (by first | (with_reducible assumption) | assumption); omega)); have hc_ := Kd.C_below HR294.out HB.out; rw [hl_] at hc_; exact hc_) | (rw [← show (l1.take ((ji38) : Int).toNat).length = (ji38).toNat from (by rw [List.length_take]; have h_ : ((ji38) : Int) ≤ (l1.length : Int) := of_decide_eq_true (by first | (with_reducible assumption) | assumption); omega)]; repeat (first | exact (Kd.C_below HR294.out HB.out) | (with_reducible refine Kd.C_alloc ?_ _) | (with_reducible refine Kd.C_drewN ?_ _) | (with_reducible refine Kd.C_drew ?_))) | (repeat (first | exact (Kd.C_below HR294.out HB.out) | (with_reducible refine Kd.C_alloc ?_ _) | (with_reducible refine Kd.C_drewN ?_ _) | (with_reducible refine Kd.C_drew ?_)))); (case aB => exact (bH HB)); (case aF => exact (fun _ _ => trivial)); (case aO => exact (rK HO293)); (case aS => exact (below_size (bH HB))); (case aL => have := LMc44.out; have hlx_ := (show (l1.take ((ji38) : Int).toNat).length = (ji38).toNat from (by rw [List.length_take]; have h_ : ((ji38) : Int) ≤ (l1.length : Int) := of_decide_eq_true (by first | (with_reducible assumption) | assumption); omega)); omega); intro v296 w50 ho hb hg hat; rw [← Ny295.out] at ho; have n0_ := Aside0.mk (Kd.R_over' (rK HO_7) (Kd.R_typed (rK HO293)) (by decide) hg); have n1_ := Aside0.mk (blk_grown (g := gb277) (o := .cells #[.slice A0_0 l0_0.length c0_0, .slice A0_1 l0_1.length c0_1, .slice A0_2 l0_2.length c0_2] 25 (0, 0)) (bK BK277) hg (Kd.R_ne HO293.out BK277.out (by decide))); have n2_ := Aside0.mk (hb); have n3_ := Aside0.mk (ho); clear HO_7; clear BK277; clear HB; clear HO293; have HO_7 := n0_; have BK277 := n1_; have HB := n2_; have HO297 := n3_; clear n0_ n1_ n2_ n3_; clear ho hb hg hat; have hcz51_0 : w50.cell? ⟨gb277, 0, none⟩ = some (.slice A0_0 l0_0.length c0_0) := (blk_cell BK277.out 0).trans rfl; have hcz51_1 : w50.cell? ⟨gb277, 1, none⟩ = some (.slice A0_1 l0_1.length c0_1) := (blk_cell BK277.out 1).trans rfl; have hcz51_2 : w50.cell? ⟨gb277, 2, none⟩ = some (.slice A0_2 l0_2.length c0_2) := (blk_cell BK277.out 2).trans rfl; have hfz51_0 := blk_frozen BK277.out 0; have hfz51_1 := blk_frozen BK277.out 1; have hfz51_2 := blk_frozen BK277.out 2; obtain ⟨Ao52, co52, eo52⟩ := Kd.R_slice HO297.out; subst eo52) | ((with_reducible refine gate_callee (f := 10) rfl ?_); refine goesL_ (some 97) rfl rfl Try.func10 (by kernel_rfl) rfl #[.agg #[.slice A0_0 l0_0.length c0_0, .slice A0_1 l0_1.length c0_1, .slice A0_2 l0_2.length c0_2], .slice Ao52 y295.length co52] rfl (by (try simp only [List.map_toArray, List.map_cons, List.map_nil]); first | done | rfl | (simp only [List.length_drop, List.length_take]; rfl)) ?_; (with_reducible refine (ring_Points.calls k2 _ _ l0_0 _ _ l0_1 _ _ l0_2 _ _ y295 t298 t301 _ ?side1 ?side2 ?side3 ?side4 ?side5 ?side6 ?side7 ?side8 A45.out).mono ?_); (case side1 => repeat (first | exact (Kd.C_below HR0_0.out HB.out) | (with_reducible refine Kd.C_alloc ?_ _) | (with_reducible refine Kd.C_drewN ?_ _) | (with_reducible refine Kd.C_drew ?_))); (case side2 => exact HC0_0.out); (case side3 => repeat (first | exact (Kd.C_below HR0_1.out HB.out) | (with_reducible refine Kd.C_alloc ?_ _) | (with_reducible refine Kd.C_drewN ?_ _) | (with_reducible refine Kd.C_drew ?_))); (case side4 => exact HC0_1.out); (case side5 => repeat (first | exact (Kd.C_below HR0_2.out HB.out) | (with_reducible refine Kd.C_alloc ?_ _) | (with_reducible refine Kd.C_drewN ?_ _) | (with_reducible refine Kd.C_drew ?_))); (case side6 => exact HC0_2.out); (case side7 => repeat (first | exact (Kd.R_reads' HO297.out).2.2 | (with_reducible refine Kd.C_alloc ?_ _) | (with_reducible refine Kd.C_drewN ?_ _) | (with_reducible refine Kd.C_drew ?_))); (case side8 => exact (Kd.R_reads' HO297.out).2.1); rintro e w53 ⟨v299, rfl, ho0, hb⟩; refine ⟨_, rfl, ?_⟩; have n0_ := Aside0.mk (Kd.R_elder' (rK HO_7) (Kd.R_base ho0) hb); have n1_ := Aside0.mk (Kd.R_below (rK HO297) hb); have n2_ := Aside0.mk (Kd.R_lower (Kd.R_new' ho0 (Kd.R_lt (rK HO_7))) (below_size (bH HB))); have n3_ := Aside0.mk (blk_below (g := gb277) (o := .cells #[.slice A0_0 l0_0.length c0_0, .slice A0_1 l0_1.length c0_1, .slice A0_2 l0_2.length c0_2] 25 (0, 0)) (bK BK277) hb); have n4_ := Aside0.mk (below_step (bH HB) hb); clear HO_7; clear HO297; clear BK277; clear HB; have HO_7 := n0_; have HO297 := n1_; have HO300 := n2_; have BK277 := n3_; have HB := n4_; clear n0_ n1_ n2_ n3_ n4_; (try clear hb); (try clear hb2); (try clear hk); (try clear hi); (try clear ho0)))
            (try simp only [Act.put, List.setIfInBounds_toArray, List.set_cons_zero, List.set_cons_succ])
            go_cut [113] (fun v113 wc => ∃ (kq : Nat) (x113_45 : Bool), v113 = .bool x113_45 ∧ Aside0 (lapidarylaw16_RingTurns.j2 kq t278 x10_2 x11_2 t298 x113_45 = some r) ∧ Aside0 (kq ≤ k2) ∧ Aside0 (Kd.R k42 42 wc w.heap.size (fun k_ => some k_ ≠ (v299 : Value).ownBlock) v279 t278) ∧ Aside0 (Kd.R k42 42 wc w.heap.size (fun k_ => some k_ ≠ (v279 : Value).ownBlock) v299 t298) ∧ Aside0 (wc.heap[gb277]? = some (.cells #[(.slice A0_0 l0_0.length c0_0), (.slice A0_1 l0_1.length c0_1), (.slice A0_2 l0_2.length c0_2)] 25 (0, 0))) ∧ Aside0 (Below w.heap.size w wc))
            case first =>
             have H := HC46.out
             clear HC46
             by_cases c54 : t301 = 0
             ·rw [if_pos c54] at H
              have c54b0 : (t301 == 0) = true := beq_iff_eq.mpr c54
              have c54b1 : (t301 != 0) = false := bne_eq_false_iff_eq.mpr c54
              clear c54
              (first | rw [c54b0] | (simp only [i64_w, i32_w]; rw [c54b0]) | skip)
              by_cases c55 : (t278.length : Int) = x10_2
              ·rw [if_pos c55] at H
               have c55b0 : ((t278.length : Int) == x10_2) = true := beq_iff_eq.mpr c55
               have c55b1 : ((t278.length : Int) != x10_2) = false := bne_eq_false_iff_eq.mpr c55
               clear c55
               have H' := Aside0.mk H
               clear H
               obtain ⟨Ao56, co56, eo56⟩ := Kd.R_slice HO_7.out
               subst eo56
               obtain ⟨Ao57, co57, eo57⟩ := Kd.R_slice HO300.out
               subst eo57
               go_wp2
               go_meet
               case rel => exact ⟨_, (((t298.length : Int) != x10_2)), (by first | rfl | (simp; done) | (simp [*]; done)), H', ⟨by have := HJ4.out; have := HK2.out; first | omega | exact Nat.le_refl _⟩, ⟨by (with_reducible repeat (first | apply Kd.R_alloc | apply Kd.R_drewN | apply Kd.R_drew)); exact Kd.R_mono HO_7.out (fun _ hk => hk.2)⟩, ⟨by (with_reducible repeat (first | apply Kd.R_alloc | apply Kd.R_drewN | apply Kd.R_drew)); exact Kd.R_mono HO300.out (fun _ hk => hk.2)⟩, ⟨bK BK277⟩, ⟨ bH HB⟩⟩
              ·rw [if_neg c55] at H
               have c55b0 : ((t278.length : Int) == x10_2) = false := beq_eq_false_iff_ne.mpr c55
               have c55b1 : ((t278.length : Int) != x10_2) = true := bne_iff_ne.mpr c55
               have H' := Aside0.mk H
               clear H
               obtain ⟨Ao58, co58, eo58⟩ := Kd.R_slice HO_7.out
               subst eo58
               go_wp2
               go_meet
               case rel => exact ⟨_, (true), (by first | rfl | (simp; done) | (simp [*]; done)), H', ⟨by have := HJ4.out; have := HK2.out; first | omega | exact Nat.le_refl _⟩, ⟨by (with_reducible repeat (first | apply Kd.R_alloc | apply Kd.R_drewN | apply Kd.R_drew)); exact Kd.R_mono HO_7.out (fun _ hk => hk.2)⟩, ⟨by (with_reducible repeat (first | apply Kd.R_alloc | apply Kd.R_drewN | apply Kd.R_drew)); exact Kd.R_mono HO300.out (fun _ hk => hk.2)⟩, ⟨bK BK277⟩, ⟨ bH HB⟩⟩
             ·rw [if_neg c54] at H
              have c54b0 : (t301 == 0) = false := beq_eq_false_iff_ne.mpr c54
              have c54b1 : (t301 != 0) = true := bne_iff_ne.mpr c54
              (first | rw [c54b0] | (simp only [i64_w, i32_w]; rw [c54b0]) | skip)
              have H' := Aside0.mk H
              clear H
              go_wp2
              go_meet
              case rel => exact ⟨_, (true), (by first | rfl | (simp; done) | (simp [*]; done)), H', ⟨by have := HJ4.out; have := HK2.out; first | omega | exact Nat.le_refl _⟩, ⟨by (with_reducible repeat (first | apply Kd.R_alloc | apply Kd.R_drewN | apply Kd.R_drew)); exact Kd.R_mono HO_7.out (fun _ hk => hk.2)⟩, ⟨by (with_reducible repeat (first | apply Kd.R_alloc | apply Kd.R_drewN | apply Kd.R_drew)); exact Kd.R_mono HO300.out (fun _ hk => hk.2)⟩, ⟨bK BK277⟩, ⟨ bH HB⟩⟩
            case rest =>
             clear HC46
             try clear c1
             try clear c2
             try clear p2
             try clear q2
             try clear hx2
             try clear c3
             try clear c4
             try clear c5
             try clear c6
             try clear p6
             try clear c8
             try clear c10
             try clear c12
             try clear c13
             try clear c13b0
             try clear c13b1
             try clear c16
             try clear c16b0
             try clear c16b1
             try clear c21
             try clear c22
             try clear c22b0
             try clear c22b1
             try clear c25
             try clear c25b0
             try clear c25b1
             try clear p28
             try clear q28
             try clear hx28
             try clear c29
             try clear c29b0
             try clear c29b1
             try clear c29b2
             try clear c30
             try clear c30b0
             try clear c31
             try clear c31b0
             try clear c37
             try clear c37b0
             try clear c39
             try clear c39b0
             try clear c39b1
             try clear c40
             try clear c40b0
             try clear c40b1
             try clear c41
             try clear c42
             try clear c42b0
             try clear c43
             try clear c43b0
             try clear c44
             try clear c54
             try clear c54b0
             try clear c54b1
             try clear c55
             try clear c55b0
             try clear c55b1
             try clear hcz11_0
             try clear hcz11_1
             try clear hcz11_2
             try clear hcz14_0
             try clear hcz14_1
             try clear hcz14_2
             try clear hcz17_0
             try clear hcz17_1
             try clear hcz17_2
             try clear hcz19_0
             try clear hcz19_1
             try clear hcz19_2
             try clear hcz51_0
             try clear hcz51_1
             try clear hcz51_2
             try clear hcz7_0
             try clear hcz7_1
             try clear hcz7_2
             try clear hfz11_0
             try clear hfz11_1
             try clear hfz11_2
             try clear hfz14_0
             try clear hfz14_1
             try clear hfz14_2
             try clear hfz17_0
             try clear hfz17_1
             try clear hfz17_2
             try clear hfz19_0
             try clear hfz19_1
             try clear hfz19_2
             try clear hfz51_0
             try clear hfz51_1
             try clear hfz51_2
             try clear hfz7_0
             try clear hfz7_1
             try clear hfz7_2
             try clear hx285_0
             try clear p2
             try clear p285
             try clear p6
             try clear q285
             obtain ⟨kq, x113_45, rfl, HA, HJ45, HO_7, HO_16, BK277, HB⟩ := hcut
             cases kq with
             | zero => exact absurd HA.out (by simp [lapidarylaw16_RingTurns.j2])
             | succ kj45 =>
              have H := HA.out
              clear HA
              simp only [lapidarylaw16_RingTurns.j2] at H
              by_cases c59 : x113_45 = true
              ·subst c59
               have H1 : (none) = some r := by rw [if_pos rfl] at H; exact H
               clear H
               have H := H1
               clear H1
               exact absurd H (by simp)
              ·replace c59 := Bool.eq_false_iff.mpr c59
               subst c59
               have H1 : (lapidarylaw16_RingTurns.l1 kj45 t278 x10_2 x11_2 t298 0) = some r := by rw [if_neg (show ¬ (false = true) by decide)] at H; exact H
               clear H
               have H := H1
               clear H1
               have H' := Aside0.mk H
               clear H
               go_wp2
               go_loopg [18] kj45 (fun kq v18 w' => ∃ (x18_4 : Int), v18 = .int .i64 x18_4 ∧ Aside0 (lapidarylaw16_RingTurns.l1 kq t278 x10_2 x11_2 t298 x18_4 = some r) ∧ Aside0 (kq ≤ kj45) ∧ Aside0 (Kd.R k42 42 w' w.heap.size (fun k_ => some k_ ≠ (v299 : Value).ownBlock) v279 t278) ∧ Aside0 (Kd.R k42 42 w' w.heap.size (fun k_ => some k_ ≠ (v279 : Value).ownBlock) v299 t298) ∧ Aside0 (w'.heap[gb277]? = some (.cells #[(.slice A0_0 l0_0.length c0_0), (.slice A0_1 l0_1.length c0_1), (.slice A0_2 l0_2.length c0_2)] 25 (0, 0))) ∧ Aside0 (Below w.heap.size w w'))
               case atStart => exact ⟨(0), (by first | rfl | (simp; done) | (simp [*]; done)), H', ⟨Nat.le_refl _⟩, ⟨by (with_reducible repeat (first | apply Kd.R_alloc | apply Kd.R_drewN | apply Kd.R_drew)); exact HO_7.out⟩, ⟨by (with_reducible repeat (first | apply Kd.R_alloc | apply Kd.R_drewN | apply Kd.R_drew)); exact HO_16.out⟩, ⟨bK BK277⟩, ⟨ bH HB⟩⟩
               case round =>
                clear H'
                try clear c1
                try clear c2
                try clear p2
                try clear q2
                try clear hx2
                try clear c3
                try clear c4
                try clear c5
                try clear c6
                try clear p6
                try clear c8
                try clear c10
                try clear c12
                try clear c13
                try clear c13b0
                try clear c13b1
                try clear c16
                try clear c16b0
                try clear c16b1
                try clear c21
                try clear c22
                try clear c22b0
                try clear c22b1
                try clear c25
                try clear c25b0
                try clear c25b1
                try clear p28
                try clear q28
                try clear hx28
                try clear c29
                try clear c29b0
                try clear c29b1
                try clear c29b2
                try clear c30
                try clear c30b0
                try clear c31
                try clear c31b0
                try clear c37
                try clear c37b0
                try clear c39
                try clear c39b0
                try clear c39b1
                try clear c40
                try clear c40b0
                try clear c40b1
                try clear c41
                try clear c42
                try clear c42b0
                try clear c43
                try clear c43b0
                try clear c44
                try clear c54
                try clear c54b0
                try clear c54b1
                try clear c55
                try clear c55b0
                try clear c55b1
                try clear c59
                try clear hcz11_0
                try clear hcz11_1
                try clear hcz11_2
                try clear hcz14_0
                try clear hcz14_1
                try clear hcz14_2
                try clear hcz17_0
                try clear hcz17_1
                try clear hcz17_2
                try clear hcz19_0
                try clear hcz19_1
                try clear hcz19_2
                try clear hcz51_0
                try clear hcz51_1
                try clear hcz51_2
                try clear hcz7_0
                try clear hcz7_1
                try clear hcz7_2
                try clear hfz11_0
                try clear hfz11_1
                try clear hfz11_2
                try clear hfz14_0
                try clear hfz14_1
                try clear hfz14_2
                try clear hfz17_0
                try clear hfz17_1
                try clear hfz17_2
                try clear hfz19_0
                try clear hfz19_1
                try clear hfz19_2
                try clear hfz51_0
                try clear hfz51_1
                try clear hfz51_2
                try clear hfz7_0
                try clear hfz7_1
                try clear hfz7_2
                try clear hx285_0
                try clear p2
                try clear p28
                try clear p285
                try clear p6
                try clear q2
                try clear q28
                try clear q285
                obtain ⟨x18_4, rfl, HA, HK4, HO_7, HO_16, BK277, HB⟩ := hrel
                cases gk with
                | zero => exact absurd HA.out (by simp [lapidarylaw16_RingTurns.l1])
                | succ k4 =>
                 have H := HA.out
                 clear HA
                 simp only [lapidarylaw16_RingTurns.l1] at H
                 by_cases c60 : x18_4 < x10_2
                 ·rw [if_pos c60] at H
                  have c60b0 : decide (x18_4 < x10_2) = true := decide_eq_true c60
                  clear c60
                  by_cases c61 : 0 ≤ x18_4
                  ·rw [if_pos c61] at H
                   have c61b0 : decide (0 ≤ x18_4) = true := decide_eq_true c61
                   clear c61
                   by_cases c62 : x18_4 < (t298.length : Int)
                   ·rw [if_pos c62] at H
                    have c62b0 : decide (x18_4 < (t298.length : Int)) = true := decide_eq_true c62
                    clear c62
                    by_cases c63 : x10_2 = 0
                    ·rw [if_pos c63] at H
                     exact absurd H (by simp)
                    ·rw [if_neg c63] at H
                     have c63b0 : (x10_2 == 0) = false := beq_eq_false_iff_ne.mpr c63
                     have c63b1 : (x10_2 != 0) = true := bne_iff_ne.mpr c63
                     obtain ⟨ji64, hji64⟩ : ∃ j_ : Int, (Int.tmod (wrap64 (x18_4 + x11_2)) x10_2) = j_ := ⟨_, rfl⟩
                     replace H : (if 0 ≤ (ji64) then (if (ji64) < (t278.length : Int) then (if (!(((rd_T42 t298 x18_4).f0) == ((rd_T42 t278 (ji64)).f0)) || (!(((rd_T42 t298 x18_4).f1) == ((rd_T42 t278 (ji64)).f1)) || (!(((rd_T42 t298 x18_4).f2) == ((rd_T42 t278 (ji64)).f2))))) = true then (none) else (lapidarylaw16_RingTurns.l1 k4 t278 x10_2 x11_2 t298 (wrap64 (x18_4 + 1)))) else (none)) else (none)) = some r := by first | (rw [hji64] at H; exact H) | (simp only [hji64] at H ⊢; exact H)
                     by_cases c65 : 0 ≤ (ji64)
                     ·rw [if_pos c65] at H
                      have c65b0 : decide (0 ≤ (ji64)) = true := decide_eq_true c65
                      clear c65
                      by_cases c66 : (ji64) < (t278.length : Int)
                      ·rw [if_pos c66] at H
                       have c66b0 : decide ((ji64) < (t278.length : Int)) = true := decide_eq_true c66
                       clear c66
                       by_cases c67 : (!(((rd_T42 t298 x18_4).f0) == ((rd_T42 t278 (ji64)).f0)) || (!(((rd_T42 t298 x18_4).f1) == ((rd_T42 t278 (ji64)).f1)) || (!(((rd_T42 t298 x18_4).f2) == ((rd_T42 t278 (ji64)).f2))))) = true
                       ·rw [if_pos c67] at H
                        exact absurd H (by simp)
                       ·rw [if_neg c67] at H
                        have c67b0 : (!(((rd_T42 t298 x18_4).f0) == ((rd_T42 t278 (ji64)).f0)) || (!(((rd_T42 t298 x18_4).f1) == ((rd_T42 t278 (ji64)).f1)) || (!(((rd_T42 t298 x18_4).f2) == ((rd_T42 t278 (ji64)).f2))))) = false := by simpa using c67
                        clear c67
                        have H' := Aside0.mk H
                        clear H
                        try go_wp2
                        have n0_ := Aside0.mk (Kd.R_drew HO_7.out)
                        have n1_ := Aside0.mk (Kd.R_drew HO_16.out)
                        have n2_ := Aside0.mk (blk_drew BK277.out)
                        have n3_ := Aside0.mk (below_drew1 HB.out)
                        clear HO_7
                        clear HO_16
                        clear BK277
                        clear HB
                        have HO_7 := n0_
                        have HO_16 := n1_
                        have BK277 := n2_
                        have HB := n3_
                        clear n0_ n1_ n2_ n3_
                        obtain ⟨Ao69, co69, eo69⟩ := Kd.R_slice HO_16.out
                        (first | subst eo69 | (injection eo69 with f1_ f2_ f3_; have f4_ := f1_.symm; have f5_ := f3_.symm; clear f1_ f2_ f3_; subst f4_; subst f5_))
                        have p302 : 0 ≤ (x18_4 : Int) := of_decide_eq_true (by first | (with_reducible assumption) | assumption)
                        have q302 : x18_4 < (t298.length : Int) := of_decide_eq_true (by first | (with_reducible assumption) | assumption)
                        obtain ⟨ad302, e302, hx302_0, hx302_1, hx302_2⟩ := at_T42 (Kd.R_reads' HO_16.out).2.2 x18_4 p302 q302
                        cases e302
                        replace p302 := eq_true p302
                        replace q302 := eq_true q302
                        obtain ⟨Ao70, co70, eo70⟩ := Kd.R_slice HO_7.out
                        (first | subst eo70 | (injection eo70 with f1_ f2_ f3_; have f4_ := f1_.symm; have f5_ := f3_.symm; clear f1_ f2_ f3_; subst f4_; subst f5_))
                        have p303 : 0 ≤ ((ji64) : Int) := of_decide_eq_true (by first | (with_reducible assumption) | assumption)
                        have q303 : (ji64) < (t278.length : Int) := of_decide_eq_true (by first | (with_reducible assumption) | assumption)
                        obtain ⟨ad303, e303, hx303_0, hx303_1, hx303_2⟩ := at_T42 (Kd.R_reads' HO_7.out).2.2 (ji64) p303 q303
                        cases e303
                        replace p303 := eq_true p303
                        replace q303 := eq_true q303
                        refine start_ (n := 13) (S := fun w' => w'.cell? (ad302.add ((x18_4).toNat * 3)) = some (.int .i64 ((rd_T42 t298 x18_4).f0)) ∧ w'.cell? ⟨(ad302.add ((x18_4).toNat * 3)).block, (ad302.add ((x18_4).toNat * 3)).off + 1, none⟩ = some (.int .i64 ((rd_T42 t298 x18_4).f1)) ∧ w'.cell? ⟨(ad302.add ((x18_4).toNat * 3)).block, (ad302.add ((x18_4).toNat * 3)).off + 2, none⟩ = some (.int .i64 ((rd_T42 t298 x18_4).f2)) ∧ w'.cell? (ad303.add (((ji64)).toNat * 3)) = some (.int .i64 ((rd_T42 t278 (ji64)).f0)) ∧ w'.cell? ⟨(ad303.add (((ji64)).toNat * 3)).block, (ad303.add (((ji64)).toNat * 3)).off + 1, none⟩ = some (.int .i64 ((rd_T42 t278 (ji64)).f1)) ∧ w'.cell? ⟨(ad303.add (((ji64)).toNat * 3)).block, (ad303.add (((ji64)).toNat * 3)).off + 2, none⟩ = some (.int .i64 ((rd_T42 t278 (ji64)).f2))) (ds := []) #[false, false, false, false, false, false, false, false, false, false, false, false, false] (by kernel_rfl) rfl rfl ⟨hx302_0, hx302_1, hx302_2, hx303_0, hx303_1, hx303_2⟩ (fun hHeld => ?_); refine with_tabW lapidarylaw16_RingTurns.tab23 lapidarylaw16_RingTurns.bits23 (fun HT_ HW_ => ?_)
                        generalize wr.drew = w68 at HO_7 HO_16 BK277 HB hx302_0 hx302_1 hx302_2 hx303_0 hx303_1 hx303_2 hHeld ⊢
                        refine pure_ (i := 0) (N := some 119) (v := ?_) (a' := ?_) #[true, false, false, false, false, false, false, false, false, false, false, false, false] rfl rfl (any_of HT_.out (by kernel_rfl)) (fun _ _ _ h => h) (Or.inl ⟨by rfl, ?_⟩) ?_ ?_
                        rotate_left
                        ·intro w'
                         go_simp
                         with_reducible rfl
                        rotate_left
                        ·simp only [Act.put, List.setIfInBounds_toArray, List.set_cons_zero, List.set_cons_succ, i64_w, i32_w]
                         rfl
                        refine pure_ (i := 1) (N := some 120) (v := ?_) (a' := ?_) #[true, true, false, false, false, false, false, false, false, false, false, false, false] rfl rfl (any_of HT_.out (by kernel_rfl)) (fun _ _ _ h => h) (Or.inl ⟨by rfl, ?_⟩) ?_ ?_
                        rotate_left
                        ·intro w'
                         go_simp
                         with_reducible rfl
                        rotate_left
                        ·simp only [Act.put, List.setIfInBounds_toArray, List.set_cons_zero, List.set_cons_succ, i64_w, i32_w]
                         rfl
                        refine pure_ (i := 2) (N := some 121) (v := ?_) (a' := ?_) #[true, true, true, false, false, false, false, false, false, false, false, false, false] rfl rfl (any_of HT_.out (by kernel_rfl)) (fun _ _ _ h => h) (Or.inl ⟨by rfl, ?_⟩) ?_ ?_
                        rotate_left
                        ·intro w'
                         go_simp
                         with_reducible rfl
                        rotate_left
                        ·simp only [Act.put, List.setIfInBounds_toArray, List.set_cons_zero, List.set_cons_succ, i64_w, i32_w]
                         rfl
                        refine pure_ (i := 4) (N := some 123) (v := ?_) (a' := ?_) #[true, true, true, false, true, false, false, false, false, false, false, false, false] rfl rfl (any_of HT_.out (by kernel_rfl)) (fun _ _ _ h => h) (Or.inl ⟨by rfl, ?_⟩) ?_ ?_
                        rotate_left
                        ·intro w'
                         go_simp
                         with_reducible rfl
                        rotate_left
                        ·simp only [Act.put, List.setIfInBounds_toArray, List.set_cons_zero, List.set_cons_succ, i64_w, i32_w]
                         rfl
                        refine pure_ (i := 5) (N := some 124) (v := ?_) (a' := ?_) #[true, true, true, false, true, true, false, false, false, false, false, false, false] rfl rfl (any_of HT_.out (by kernel_rfl)) (fun _ _ _ h => h) (Or.inl ⟨by rfl, ?_⟩) ?_ ?_
                        rotate_left
                        ·intro w'
                         go_simp
                         with_reducible rfl
                        rotate_left
                        ·simp only [Act.put, List.setIfInBounds_toArray, List.set_cons_zero, List.set_cons_succ, i64_w, i32_w]
                         rfl
                        refine pure_ (i := 6) (N := some 125) (v := ?_) (a' := ?_) #[true, true, true, false, true, true, true, false, false, false, false, false, false] rfl rfl (any_of HT_.out (by kernel_rfl)) (fun _ _ _ h => h) (Or.inl ⟨by rfl, ?_⟩) ?_ ?_
                        rotate_left
                        ·intro w'
                         go_simp
                         with_reducible rfl
                        rotate_left
                        ·simp only [Act.put, List.setIfInBounds_toArray, List.set_cons_zero, List.set_cons_succ, i64_w, i32_w]
                         rfl
                        refine pure_ (i := 7) (N := some 126) (v := ?_) (a' := ?_) #[true, true, true, false, true, true, true, true, false, false, false, false, false] rfl rfl (any_of HT_.out (by kernel_rfl)) (fun _ _ _ h => h) (Or.inl ⟨by rfl, ?_⟩) ?_ ?_
                        rotate_left
                        ·intro w'
                         go_simp
                         with_reducible rfl
                        rotate_left
                        ·simp only [Act.put, List.setIfInBounds_toArray, List.set_cons_zero, List.set_cons_succ, i64_w, i32_w]
                         rfl
                        refine pure_ (i := 8) (N := some 127) (v := ?_) (a' := ?_) #[true, true, true, false, true, true, true, true, true, false, false, false, false] rfl rfl (any_of HT_.out (by kernel_rfl)) (fun _ _ _ h => h) (Or.inl ⟨by rfl, ?_⟩) ?_ ?_
                        rotate_left
                        ·intro w'
                         go_simp
                         with_reducible rfl
                        rotate_left
                        ·simp only [Act.put, List.setIfInBounds_toArray, List.set_cons_zero, List.set_cons_succ, i64_w, i32_w]
                         rfl
                        refine pure_ (i := 9) (N := some 128) (v := ?_) (a' := ?_) #[true, true, true, false, true, true, true, true, true, true, false, false, false] rfl rfl (any_of HT_.out (by kernel_rfl)) (fun _ _ _ h => h) (Or.inl ⟨by rfl, ?_⟩) ?_ ?_
                        rotate_left
                        ·intro w'
                         go_simp
                         with_reducible rfl
                        rotate_left
                        ·simp only [Act.put, List.setIfInBounds_toArray, List.set_cons_zero, List.set_cons_succ, i64_w, i32_w]
                         rfl
                        refine pure_ (i := 10) (N := some 129) (v := ?_) (a' := ?_) #[true, true, true, false, true, true, true, true, true, true, true, false, false] rfl rfl (any_of HT_.out (by kernel_rfl)) (fun _ _ _ h => h) (Or.inl ⟨by rfl, ?_⟩) ?_ ?_
                        rotate_left
                        ·intro w'
                         go_simp
                         with_reducible rfl
                        rotate_left
                        ·simp only [Act.put, List.setIfInBounds_toArray, List.set_cons_zero, List.set_cons_succ, i64_w, i32_w]
                         rfl
                        refine take_ (i := 3) (N := some 122) (v := ?_) (a' := ?_) #[true, true, true, true, true, true, true, true, true, true, true, false, false] rfl rfl (take_ofW HT_.out HW_.out (by kernel_rfl)) (fun _ _ _ h => h) (Or.inl ⟨by rfl, ?_⟩) hHeld ?_ ?_
                        rotate_left
                        ·rintro w' ⟨s0, s1, s2, s3, s4, s5⟩
                         go_simp
                         with_reducible rfl
                        rotate_left
                        ·simp only [Act.put, List.setIfInBounds_toArray, List.set_cons_zero, List.set_cons_succ, i64_w, i32_w]
                         rfl
                        refine take_ (i := 11) (N := some 130) (v := ?_) (a' := ?_) #[true, true, true, true, true, true, true, true, true, true, true, true, false] rfl rfl (take_ofW HT_.out HW_.out (by kernel_rfl)) (fun _ _ _ h => h) (Or.inl ⟨by rfl, ?_⟩) hHeld ?_ ?_
                        rotate_left
                        ·rintro w' ⟨s0, s1, s2, s3, s4, s5⟩
                         go_simp
                         with_reducible rfl
                        rotate_left
                        ·simp only [Act.put, List.setIfInBounds_toArray, List.set_cons_zero, List.set_cons_succ, i64_w, i32_w]
                         rfl
                        refine pure_ (i := 12) (N := some 131) (v := ?_) (a' := ?_) #[true, true, true, true, true, true, true, true, true, true, true, true, true] rfl rfl (any_of HT_.out (by kernel_rfl)) (fun _ _ _ h => h) (Or.inl ⟨by rfl, ?_⟩) ?_ ?_
                        rotate_left
                        ·intro w'
                         go_simp
                         with_reducible rfl
                        rotate_left
                        ·simp only [Act.put, List.setIfInBounds_toArray, List.set_cons_zero, List.set_cons_succ, i64_w, i32_w]
                         rfl
                        refine done_ (done_of HT_.out (by kernel_rfl)) ?_
                        try go_wp2
                        go_roundg k4
                        case measure => have := HJ4.out; have := HK2.out; have := HJ45.out; have := HK4.out; omega
                        case rel => exact ⟨(wrap64 (x18_4 + 1)), (by first | rfl | (simp; done) | (simp [*]; done)), H', ⟨by have := HJ4.out; have := HK2.out; have := HJ45.out; have := HK4.out; omega⟩, ⟨by (with_reducible repeat (first | apply Kd.R_alloc | apply Kd.R_drewN | apply Kd.R_drew)); exact HO_7.out⟩, ⟨by (with_reducible repeat (first | apply Kd.R_alloc | apply Kd.R_drewN | apply Kd.R_drew)); exact HO_16.out⟩, ⟨bK BK277⟩, ⟨ bH HB⟩⟩
                      ·rw [if_neg c66] at H
                       exact absurd H (by simp)
                     ·rw [if_neg c65] at H
                      exact absurd H (by simp)
                   ·rw [if_neg c62] at H
                    exact absurd H (by simp)
                  ·rw [if_neg c61] at H
                   exact absurd H (by simp)
                 ·rw [if_neg c60] at H
                  have c60b0 : decide (x18_4 < x10_2) = false := decide_eq_false c60
                  clear c60
                  replace H := Option.bind_eq_some_iff.mp H
                  obtain ⟨t304, A710, H⟩ := H
                  replace H : (some t304) = some r := H
                  have A71 := Aside0.mk A710
                  clear A710
                  obtain rfl := Option.some.inj H
                  go_wp2_with (first | ((with_reducible refine gate_callee (f := 9) rfl ?_); refine goesL_ (some 132) rfl rfl Try.func9 (by kernel_rfl) rfl #[] rfl (by (try simp only [List.map_toArray, List.map_cons, List.map_nil]); first | done | rfl | (simp only [List.length_drop, List.length_take]; rfl)) ?_; (with_reducible refine (lapidarylaw16_known.calls k4  t304 _ A71.out).mono ?_); rintro e w72 ⟨rfl, hb⟩; refine ⟨_, rfl, ?_⟩; have n0_ := Aside0.mk (Kd.R_below (rK HO_7) hb); have n1_ := Aside0.mk (Kd.R_below (rK HO_16) hb); have n2_ := Aside0.mk (blk_below (g := gb277) (o := .cells #[.slice A0_0 l0_0.length c0_0, .slice A0_1 l0_1.length c0_1, .slice A0_2 l0_2.length c0_2] 25 (0, 0)) (bK BK277) hb); have n3_ := Aside0.mk (below_step (bH HB) hb); clear HO_7; clear HO_16; clear BK277; clear HB; have HO_7 := n0_; have HO_16 := n1_; have BK277 := n2_; have HB := n3_; clear n0_ n1_ n2_ n3_; (try clear hb); (try clear hb2); (try clear hk); (try clear hi)))
                  go_ret
                  exact ⟨by first | rfl | (simp [errW_none, errW_some] <;> rfl) | (simp only [← hji38]; first | rfl | (simp [errW_none, errW_some] <;> rfl)) | (simp [*, errW_none, errW_some] <;> rfl), bH HB⟩
           ·rw [if_neg c44] at H
            exact absurd H (by simp)
          ·rw [if_neg c41] at H
           exact absurd H (by simp)
         ·rw [if_neg c40] at H
          exact absurd H (by simp)
        ·rw [if_neg c39] at H
         exact absurd H (by simp)

end Go.Proofs.Ytfbkjgedaadlmaa.P
