/- Written for this claim by a program of this session (a turned copy of the print): Go functions as Lean functions, and that the Go code comes to just these answers; or a statement proved out of them. No condition. -/
import Derived.Test.YtlnjbpapbifjfaaPx0
import Derived.Test.YtlnjbpapbifjfaaPx3
import Derived.Test.YtlnjbpapbifjfaaPx11
import Derived.Test.YtlnjbpapbifjfaaPx12
import Derived.Test.YtlnjbpapbifjfaaPx15
namespace Go.Proofs.Ytlnjbpapbifjfaa.P
open Go.RowKit Go.Proofs.YtlnjbpapbifjfaaW.PrintWords Go.Proofs.YtlnjbpapbifjfaaW.PrintLast Go.Proofs.YtlnjbpapbifjfaaW.PrintMore Go.Proofs.Ytlnjbpapbifjfaa.X
attribute [local go_sem] max2_int min2_int max_two min_two max_three min_three max_four min_four add64_0 add64_1 add64   -- for this text's walks alone
set_option linter.unusedVariables false
set_option linter.unusedSimpArgs false

/-! ### geom_Meet: function 11 -/
mutual
def geom_Meet.j0 : Nat → Int → Int → Int → Int → Bool → Int → Int → Int → Int → Int → Int → Int → Int → Int → Int → Int → Int → Option (Int)
 | 0, _, _, _, _, _, _, _, _, _, _, _, _, _, _, _, _, _ => none
 | k + 1, x9, x10, x11, x12, x36, x173000, x173001, x173002, x174000, x174001, x174002, x175000, x175001, x175002, x176000, x176001, x176002 => if x36 = true then ((geom_along.f k x173000 x173001 x173002 x174000 x174001 x174002 x175000 x175001 x175002 x176000 x176001 x176002).bind fun t184 => (some t184)) else (if (wrap64 (x9 * x10)) < 0 then (geom_Meet.j1 k (decide ((wrap64 (x11 * x12)) < 0)) x173000 x173001 x173002 x174000 x174001 x174002 x175000 x175001 x175002 x176000 x176001 x176002) else (geom_Meet.j1 k false x173000 x173001 x173002 x174000 x174001 x174002 x175000 x175001 x175002 x176000 x176001 x176002))
def geom_Meet.j1 : Nat → Bool → Int → Int → Int → Int → Int → Int → Int → Int → Int → Int → Int → Int → Option (Int)
 | 0, _, _, _, _, _, _, _, _, _, _, _, _, _ => none
 | k + 1, x56, x173000, x173001, x173002, x174000, x174001, x174002, x175000, x175001, x175002, x176000, x176001, x176002 => if x56 = true then (some 2) else ((geom_On.f k x173000 x173001 x173002 x175000 x175001 x175002 x176000 x176001 x176002).bind fun t185 => (if t185 = true then (some 1) else ((geom_On.f k x174000 x174001 x174002 x175000 x175001 x175002 x176000 x176001 x176002).bind fun t186 => (if t186 = true then (some 1) else ((geom_On.f k x175000 x175001 x175002 x173000 x173001 x173002 x174000 x174001 x174002).bind fun t187 => (if t187 = true then (some 1) else ((geom_On.f k x176000 x176001 x176002 x173000 x173001 x173002 x174000 x174001 x174002).bind fun t188 => (if t188 = true then (some 1) else (some 0)))))))))
end
def geom_Meet.f (k : Nat) (a0_0 : Int) (a0_1 : Int) (a0_2 : Int) (a1_0 : Int) (a1_1 : Int) (a1_2 : Int) (a2_0 : Int) (a2_1 : Int) (a2_2 : Int) (a3_0 : Int) (a3_1 : Int) (a3_2 : Int) : Option (Int) := (geom_Right.f k (([(⟨a0_0, a0_1, a0_2⟩ : S23), (⟨a1_0, a1_1, a1_2⟩ : S23), (⟨a2_0, a2_1, a2_2⟩ : S23), (⟨a3_0, a3_1, a3_2⟩ : S23)] : List (S23)))).bind fun t179 => (if t179 = true then ((geom_turn.f k a0_0 a0_1 a0_2 a1_0 a1_1 a1_2 a2_0 a2_1 a2_2).bind fun t180 => ((geom_turn.f k a0_0 a0_1 a0_2 a1_0 a1_1 a1_2 a3_0 a3_1 a3_2).bind fun t181 => ((geom_turn.f k a2_0 a2_1 a2_2 a3_0 a3_1 a3_2 a0_0 a0_1 a0_2).bind fun t182 => ((geom_turn.f k a2_0 a2_1 a2_2 a3_0 a3_1 a3_2 a1_0 a1_1 a1_2).bind fun t183 => (if t180 = 0 then (if t181 = 0 then (if t182 = 0 then (geom_Meet.j0 k t180 t181 t182 t183 (t183 == 0) a0_0 a0_1 a0_2 a1_0 a1_1 a1_2 a2_0 a2_1 a2_2 a3_0 a3_1 a3_2) else (geom_Meet.j0 k t180 t181 t182 t183 false a0_0 a0_1 a0_2 a1_0 a1_1 a1_2 a2_0 a2_1 a2_2 a3_0 a3_1 a3_2)) else (geom_Meet.j0 k t180 t181 t182 t183 false a0_0 a0_1 a0_2 a1_0 a1_1 a1_2 a2_0 a2_1 a2_2 a3_0 a3_1 a3_2)) else (geom_Meet.j0 k t180 t181 t182 t183 false a0_0 a0_1 a0_2 a1_0 a1_1 a1_2 a2_0 a2_1 a2_2 a3_0 a3_1 a3_2)))))) else (some 0))
theorem geom_Meet.mono_l : ∀ k, (∀ y0 y1 y2 y3 y4 y5 y6 y7 y8 y9 y10 y11 y12 y13 y14 y15 y16, LeO (geom_Meet.j0 k y0 y1 y2 y3 y4 y5 y6 y7 y8 y9 y10 y11 y12 y13 y14 y15 y16) (geom_Meet.j0 (k + 1) y0 y1 y2 y3 y4 y5 y6 y7 y8 y9 y10 y11 y12 y13 y14 y15 y16)) ∧ (∀ y0 y1 y2 y3 y4 y5 y6 y7 y8 y9 y10 y11 y12, LeO (geom_Meet.j1 k y0 y1 y2 y3 y4 y5 y6 y7 y8 y9 y10 y11 y12) (geom_Meet.j1 (k + 1) y0 y1 y2 y3 y4 y5 y6 y7 y8 y9 y10 y11 y12))
 | 0 => ⟨fun _ _ _ _ _ _ _ _ _ _ _ _ _ _ _ _ _ r h => by simp [geom_Meet.j0] at h, fun _ _ _ _ _ _ _ _ _ _ _ _ _ r h => by simp [geom_Meet.j1] at h⟩
 | k + 1 => by
  obtain ⟨ih0, ih1⟩ := geom_Meet.mono_l k
  refine ⟨?_, ?_⟩
  ·intro y0 y1 y2 y3 y4 y5 y6 y7 y8 y9 y10 y11 y12 y13 y14 y15 y16
   unfold geom_Meet.j0
   repeat' first
   | (with_reducible exact ih0 _ _ _ _ _ _ _ _ _ _ _ _ _ _ _ _ _)
   | (with_reducible exact ih1 _ _ _ _ _ _ _ _ _ _ _ _ _)
   | (with_reducible exact geom_On.mono _ _ _ _ _ _ _ _ _ _)
   | (with_reducible exact geom_Right.mono _ _)
   | (with_reducible exact geom_along.mono _ _ _ _ _ _ _ _ _ _ _ _ _)
   | (with_reducible exact geom_turn.mono _ _ _ _ _ _ _ _ _ _)
   | (with_reducible exact LeO.refl _)
   | (with_reducible exact LeO.none _)
   | (with_reducible refine LeO.ite ?_ ?_)
   | (with_reducible refine LeO.bind ?_ (fun _ => ?_))
   | exact ih0 _ _ _ _ _ _ _ _ _ _ _ _ _ _ _ _ _
   | exact ih1 _ _ _ _ _ _ _ _ _ _ _ _ _
   | exact geom_On.mono _ _ _ _ _ _ _ _ _ _
   | exact geom_Right.mono _ _
   | exact geom_along.mono _ _ _ _ _ _ _ _ _ _ _ _ _
   | exact geom_turn.mono _ _ _ _ _ _ _ _ _ _
   | exact LeO.none _
   | refine LeO.ite ?_ ?_
   | refine LeO.bind ?_ (fun _ => ?_)
  ·intro y0 y1 y2 y3 y4 y5 y6 y7 y8 y9 y10 y11 y12
   unfold geom_Meet.j1
   repeat' first
   | (with_reducible exact ih0 _ _ _ _ _ _ _ _ _ _ _ _ _ _ _ _ _)
   | (with_reducible exact ih1 _ _ _ _ _ _ _ _ _ _ _ _ _)
   | (with_reducible exact geom_On.mono _ _ _ _ _ _ _ _ _ _)
   | (with_reducible exact geom_Right.mono _ _)
   | (with_reducible exact geom_along.mono _ _ _ _ _ _ _ _ _ _ _ _ _)
   | (with_reducible exact geom_turn.mono _ _ _ _ _ _ _ _ _ _)
   | (with_reducible exact LeO.refl _)
   | (with_reducible exact LeO.none _)
   | (with_reducible refine LeO.ite ?_ ?_)
   | (with_reducible refine LeO.bind ?_ (fun _ => ?_))
   | exact ih0 _ _ _ _ _ _ _ _ _ _ _ _ _ _ _ _ _
   | exact ih1 _ _ _ _ _ _ _ _ _ _ _ _ _
   | exact geom_On.mono _ _ _ _ _ _ _ _ _ _
   | exact geom_Right.mono _ _
   | exact geom_along.mono _ _ _ _ _ _ _ _ _ _ _ _ _
   | exact geom_turn.mono _ _ _ _ _ _ _ _ _ _
   | exact LeO.none _
   | refine LeO.ite ?_ ?_
   | refine LeO.bind ?_ (fun _ => ?_)
theorem geom_Meet.mono : ∀ a0 a1 a2 a3 a4 a5 a6 a7 a8 a9 a10 a11 k, LeO (geom_Meet.f k a0 a1 a2 a3 a4 a5 a6 a7 a8 a9 a10 a11) (geom_Meet.f (k + 1) a0 a1 a2 a3 a4 a5 a6 a7 a8 a9 a10 a11) := by
 intro a0 a1 a2 a3 a4 a5 a6 a7 a8 a9 a10 a11 k
 obtain ⟨ih0, ih1⟩ := geom_Meet.mono_l k
 unfold geom_Meet.f
 repeat' first
   | (with_reducible exact ih0 _ _ _ _ _ _ _ _ _ _ _ _ _ _ _ _ _)
   | (with_reducible exact ih1 _ _ _ _ _ _ _ _ _ _ _ _ _)
   | (with_reducible exact geom_On.mono _ _ _ _ _ _ _ _ _ _)
   | (with_reducible exact geom_Right.mono _ _)
   | (with_reducible exact geom_along.mono _ _ _ _ _ _ _ _ _ _ _ _ _)
   | (with_reducible exact geom_turn.mono _ _ _ _ _ _ _ _ _ _)
   | (with_reducible exact LeO.refl _)
   | (with_reducible exact LeO.none _)
   | (with_reducible refine LeO.ite ?_ ?_)
   | (with_reducible refine LeO.bind ?_ (fun _ => ?_))
   | exact ih0 _ _ _ _ _ _ _ _ _ _ _ _ _ _ _ _ _
   | exact ih1 _ _ _ _ _ _ _ _ _ _ _ _ _
   | exact geom_On.mono _ _ _ _ _ _ _ _ _ _
   | exact geom_Right.mono _ _
   | exact geom_along.mono _ _ _ _ _ _ _ _ _ _ _ _ _
   | exact geom_turn.mono _ _ _ _ _ _ _ _ _ _
   | exact LeO.none _
   | refine LeO.ite ?_ ?_
   | refine LeO.bind ?_ (fun _ => ?_)
def geom_Meet.T3 : Bool × List (List Nat × List Nat) := (true, [([], []), ([], []), ([], []), ([0, 1, 2], [0, 1, 2]), ([], []), ([], []), ([], []), ([4, 5, 6, 3], [4, 5, 6]), ([3, 7, 0, 1, 2, 3], [3]), ([7, 8, 0, 1, 2, 3, 4, 5, 6, 7, 8], [7])])
def geom_Meet.B3 : List Nat := [0, 0, 0, 7, 0, 0, 0, 127, 255, 511]
theorem geom_Meet.tab3 : rtab .any (opsOf Try.f11 3) = geom_Meet.T3 := by kernel_rfl
theorem geom_Meet.bits3 : waitsOk geom_Meet.T3.2 geom_Meet.B3 = true := by kernel_rfl
def geom_Meet.T4 : Bool × List (List Nat × List Nat) := (true, [([], []), ([], []), ([], []), ([0, 1, 2], [0, 1, 2]), ([], []), ([], []), ([], []), ([4, 5, 6, 3], [4, 5, 6]), ([3, 7, 0, 1, 2, 3], [3]), ([7, 8, 0, 1, 2, 3, 4, 5, 6, 7, 8], [7])])
def geom_Meet.B4 : List Nat := [0, 0, 0, 7, 0, 0, 0, 127, 255, 511]
theorem geom_Meet.tab4 : rtab .any (opsOf Try.f11 4) = geom_Meet.T4 := by kernel_rfl
theorem geom_Meet.bits4 : waitsOk geom_Meet.T4.2 geom_Meet.B4 = true := by kernel_rfl
set_option maxHeartbeats 8000000 in
set_option maxRecDepth 100000 in
theorem geom_Meet.calls (k : Nat) (a0_0 : Int) (a0_1 : Int) (a0_2 : Int) (a1_0 : Int) (a1_1 : Int) (a1_2 : Int) (a2_0 : Int) (a2_1 : Int) (a2_2 : Int) (a3_0 : Int) (a3_1 : Int) (a3_2 : Int) (r : Int) (w : World) (h : geom_Meet.f k a0_0 a0_1 a0_2 a1_0 a1_1 a1_2 a2_0 a2_1 a2_2 a3_0 a3_1 a3_2 = some r) :
  Calls Try.prog 11 #[.agg #[.int .i64 a0_0, .int .i64 a0_1, .int .i64 a0_2], .agg #[.int .i64 a1_0, .int .i64 a1_1, .int .i64 a1_2], .agg #[.int .i64 a2_0, .int .i64 a2_1, .int .i64 a2_2], .agg #[.int .i64 a3_0, .int .i64 a3_1, .int .i64 a3_2]] w fun e w' => e = .returned (.int .i64 r) ∧ Below w.heap.size w w' := by
 have hu23 := Try.underlying23
 have HB := Aside0.mk (Below.refl w.heap.size w)
 have H : ((geom_Right.f k (([(⟨a0_0, a0_1, a0_2⟩ : S23), (⟨a1_0, a1_1, a1_2⟩ : S23), (⟨a2_0, a2_1, a2_2⟩ : S23), (⟨a3_0, a3_1, a3_2⟩ : S23)] : List (S23)))).bind fun t179 => (if t179 = true then ((geom_turn.f k a0_0 a0_1 a0_2 a1_0 a1_1 a1_2 a2_0 a2_1 a2_2).bind fun t180 => ((geom_turn.f k a0_0 a0_1 a0_2 a1_0 a1_1 a1_2 a3_0 a3_1 a3_2).bind fun t181 => ((geom_turn.f k a2_0 a2_1 a2_2 a3_0 a3_1 a3_2 a0_0 a0_1 a0_2).bind fun t182 => ((geom_turn.f k a2_0 a2_1 a2_2 a3_0 a3_1 a3_2 a1_0 a1_1 a1_2).bind fun t183 => (if t180 = 0 then (if t181 = 0 then (if t182 = 0 then (geom_Meet.j0 k t180 t181 t182 t183 (t183 == 0) a0_0 a0_1 a0_2 a1_0 a1_1 a1_2 a2_0 a2_1 a2_2 a3_0 a3_1 a3_2) else (geom_Meet.j0 k t180 t181 t182 t183 false a0_0 a0_1 a0_2 a1_0 a1_1 a1_2 a2_0 a2_1 a2_2 a3_0 a3_1 a3_2)) else (geom_Meet.j0 k t180 t181 t182 t183 false a0_0 a0_1 a0_2 a1_0 a1_1 a1_2 a2_0 a2_1 a2_2 a3_0 a3_1 a3_2)) else (geom_Meet.j0 k t180 t181 t182 t183 false a0_0 a0_1 a0_2 a1_0 a1_1 a1_2 a2_0 a2_1 a2_2 a3_0 a3_1 a3_2)))))) else (some 0))) = some r := h
 clear h
 obtain ⟨y176, hy176⟩ : ∃ y_ : List (S23), y_ = (([(⟨a0_0, a0_1, a0_2⟩ : S23), (⟨a1_0, a1_1, a1_2⟩ : S23), (⟨a2_0, a2_1, a2_2⟩ : S23), (⟨a3_0, a3_1, a3_2⟩ : S23)] : List (S23))) := ⟨_, rfl⟩
 replace H : ((geom_Right.f k y176).bind fun t179 => (if t179 = true then ((geom_turn.f k a0_0 a0_1 a0_2 a1_0 a1_1 a1_2 a2_0 a2_1 a2_2).bind fun t180 => ((geom_turn.f k a0_0 a0_1 a0_2 a1_0 a1_1 a1_2 a3_0 a3_1 a3_2).bind fun t181 => ((geom_turn.f k a2_0 a2_1 a2_2 a3_0 a3_1 a3_2 a0_0 a0_1 a0_2).bind fun t182 => ((geom_turn.f k a2_0 a2_1 a2_2 a3_0 a3_1 a3_2 a1_0 a1_1 a1_2).bind fun t183 => (if t180 = 0 then (if t181 = 0 then (if t182 = 0 then (geom_Meet.j0 k t180 t181 t182 t183 (t183 == 0) a0_0 a0_1 a0_2 a1_0 a1_1 a1_2 a2_0 a2_1 a2_2 a3_0 a3_1 a3_2) else (geom_Meet.j0 k t180 t181 t182 t183 false a0_0 a0_1 a0_2 a1_0 a1_1 a1_2 a2_0 a2_1 a2_2 a3_0 a3_1 a3_2)) else (geom_Meet.j0 k t180 t181 t182 t183 false a0_0 a0_1 a0_2 a1_0 a1_1 a1_2 a2_0 a2_1 a2_2 a3_0 a3_1 a3_2)) else (geom_Meet.j0 k t180 t181 t182 t183 false a0_0 a0_1 a0_2 a1_0 a1_1 a1_2 a2_0 a2_1 a2_2 a3_0 a3_1 a3_2)))))) else (some 0))) = some r := by first | (rw [hy176]; with_reducible exact H) | (have H2_ := (Option.bind_some _ _).symm.trans H; rw [hy176]; with_reducible exact H2_) | (have H2_ := (Option.bind_some _ _).symm.trans H; with_reducible exact H2_) | with_reducible exact H | (rw [hy176]; exact H) | exact H
 have Ny176 := Aside0.mk hy176
 clear hy176
 replace H := Option.bind_eq_some_iff.mp H
 obtain ⟨t179, A50, H⟩ := H
 replace H : (if t179 = true then ((geom_turn.f k a0_0 a0_1 a0_2 a1_0 a1_1 a1_2 a2_0 a2_1 a2_2).bind fun t180 => ((geom_turn.f k a0_0 a0_1 a0_2 a1_0 a1_1 a1_2 a3_0 a3_1 a3_2).bind fun t181 => ((geom_turn.f k a2_0 a2_1 a2_2 a3_0 a3_1 a3_2 a0_0 a0_1 a0_2).bind fun t182 => ((geom_turn.f k a2_0 a2_1 a2_2 a3_0 a3_1 a3_2 a1_0 a1_1 a1_2).bind fun t183 => (if t180 = 0 then (if t181 = 0 then (if t182 = 0 then (geom_Meet.j0 k t180 t181 t182 t183 (t183 == 0) a0_0 a0_1 a0_2 a1_0 a1_1 a1_2 a2_0 a2_1 a2_2 a3_0 a3_1 a3_2) else (geom_Meet.j0 k t180 t181 t182 t183 false a0_0 a0_1 a0_2 a1_0 a1_1 a1_2 a2_0 a2_1 a2_2 a3_0 a3_1 a3_2)) else (geom_Meet.j0 k t180 t181 t182 t183 false a0_0 a0_1 a0_2 a1_0 a1_1 a1_2 a2_0 a2_1 a2_2 a3_0 a3_1 a3_2)) else (geom_Meet.j0 k t180 t181 t182 t183 false a0_0 a0_1 a0_2 a1_0 a1_1 a1_2 a2_0 a2_1 a2_2 a3_0 a3_1 a3_2)))))) else (some 0)) = some r := H
 have A5 := Aside0.mk A50
 clear A50
 have HC6 := Aside0.mk H
 clear H
 go_enter Try.func11, Try.ntmps11
 go_upto_if 19 with (first | ((with_reducible refine gate_dst (N := 4) rfl ?_); refine box_event ?hg (N := 4) ?hd (cs := #[.int .i64 a0_0, .int .i64 a0_1, .int .i64 a0_2]) (t := 23) ?hr ?_; (case hd => rfl); (case hg => rfl); (case hr => first | (go_simp; done) | (go_simp; rfl)); intro gb172 hg w7 hbox hb; have n0_ := Aside0.mk (below_step (bH HB) hb); have n1_ := Aside0.mk (hbox); have n2_ := Aside0.mk ((by rw [hg]; exact (below_size (bH HB)) : w.heap.size ≤ gb172)); have n3_ := n2_; clear HB; have HB := n0_; have BK172 := n1_; have GW172 := n2_; have GE172 := n3_; clear n0_ n1_ n2_ n3_; clear hb hbox hg) | ((with_reducible refine gate_dst (N := 5) rfl ?_); refine box_event ?hg (N := 5) ?hd (cs := #[.int .i64 a1_0, .int .i64 a1_1, .int .i64 a1_2]) (t := 23) ?hr ?_; (case hd => rfl); (case hg => rfl); (case hr => first | (go_simp; done) | (go_simp; rfl)); intro gb173 hg w8 hbox hb; have n0_ := Aside0.mk (blk_below (g := gb172) (o := .cells #[.int .i64 a0_0, .int .i64 a0_1, .int .i64 a0_2] 23 (0, 0)) (bK BK172) hb); have n1_ := Aside0.mk (below_step (bH HB) hb); have n2_ := Aside0.mk (hbox); have n3_ := Aside0.mk ((by rw [hg]; exact (below_size (bH HB)) : w.heap.size ≤ gb173)); have n4_ := n3_; have n5_ := Aside0.mk ((by rw [hg]; exact Nat.ne_of_lt (blk_lt (bK BK172)) : gb172 ≠ gb173)); have n6_ := Aside0.mk ((by rw [hg]; exact Nat.ne_of_gt (blk_lt (bK BK172)) : gb173 ≠ gb172)); clear BK172; clear HB; have BK172 := n0_; have HB := n1_; have BK173 := n2_; have GW173 := n3_; have GE173 := n4_; have NB172_173 := n5_; have NB173_172 := n6_; clear n0_ n1_ n2_ n3_ n4_ n5_ n6_; clear hb hbox hg) | ((with_reducible refine gate_dst (N := 6) rfl ?_); refine box_event ?hg (N := 6) ?hd (cs := #[.int .i64 a2_0, .int .i64 a2_1, .int .i64 a2_2]) (t := 23) ?hr ?_; (case hd => rfl); (case hg => rfl); (case hr => first | (go_simp; done) | (go_simp; rfl)); intro gb174 hg w9 hbox hb; have n0_ := Aside0.mk (blk_below (g := gb172) (o := .cells #[.int .i64 a0_0, .int .i64 a0_1, .int .i64 a0_2] 23 (0, 0)) (bK BK172) hb); have n1_ := Aside0.mk (blk_below (g := gb173) (o := .cells #[.int .i64 a1_0, .int .i64 a1_1, .int .i64 a1_2] 23 (0, 0)) (bK BK173) hb); have n2_ := Aside0.mk (below_step (bH HB) hb); have n3_ := Aside0.mk (hbox); have n4_ := Aside0.mk ((by rw [hg]; exact (below_size (bH HB)) : w.heap.size ≤ gb174)); have n5_ := n4_; have n6_ := Aside0.mk ((by rw [hg]; exact Nat.ne_of_lt (blk_lt (bK BK172)) : gb172 ≠ gb174)); have n7_ := Aside0.mk ((by rw [hg]; exact Nat.ne_of_gt (blk_lt (bK BK172)) : gb174 ≠ gb172)); have n8_ := Aside0.mk ((by rw [hg]; exact Nat.ne_of_lt (blk_lt (bK BK173)) : gb173 ≠ gb174)); have n9_ := Aside0.mk ((by rw [hg]; exact Nat.ne_of_gt (blk_lt (bK BK173)) : gb174 ≠ gb173)); clear BK172; clear BK173; clear HB; have BK172 := n0_; have BK173 := n1_; have HB := n2_; have BK174 := n3_; have GW174 := n4_; have GE174 := n5_; have NB172_174 := n6_; have NB174_172 := n7_; have NB173_174 := n8_; have NB174_173 := n9_; clear n0_ n1_ n2_ n3_ n4_ n5_ n6_ n7_ n8_ n9_; clear hb hbox hg) | ((with_reducible refine gate_dst (N := 7) rfl ?_); refine box_event ?hg (N := 7) ?hd (cs := #[.int .i64 a3_0, .int .i64 a3_1, .int .i64 a3_2]) (t := 23) ?hr ?_; (case hd => rfl); (case hg => rfl); (case hr => first | (go_simp; done) | (go_simp; rfl)); intro gb175 hg w10 hbox hb; have n0_ := Aside0.mk (blk_below (g := gb172) (o := .cells #[.int .i64 a0_0, .int .i64 a0_1, .int .i64 a0_2] 23 (0, 0)) (bK BK172) hb); have n1_ := Aside0.mk (blk_below (g := gb173) (o := .cells #[.int .i64 a1_0, .int .i64 a1_1, .int .i64 a1_2] 23 (0, 0)) (bK BK173) hb); have n2_ := Aside0.mk (blk_below (g := gb174) (o := .cells #[.int .i64 a2_0, .int .i64 a2_1, .int .i64 a2_2] 23 (0, 0)) (bK BK174) hb); have n3_ := Aside0.mk (below_step (bH HB) hb); have n4_ := Aside0.mk (hbox); have n5_ := Aside0.mk ((by rw [hg]; exact (below_size (bH HB)) : w.heap.size ≤ gb175)); have n6_ := n5_; have n7_ := Aside0.mk ((by rw [hg]; exact Nat.ne_of_lt (blk_lt (bK BK172)) : gb172 ≠ gb175)); have n8_ := Aside0.mk ((by rw [hg]; exact Nat.ne_of_gt (blk_lt (bK BK172)) : gb175 ≠ gb172)); have n9_ := Aside0.mk ((by rw [hg]; exact Nat.ne_of_lt (blk_lt (bK BK173)) : gb173 ≠ gb175)); have n10_ := Aside0.mk ((by rw [hg]; exact Nat.ne_of_gt (blk_lt (bK BK173)) : gb175 ≠ gb173)); have n11_ := Aside0.mk ((by rw [hg]; exact Nat.ne_of_lt (blk_lt (bK BK174)) : gb174 ≠ gb175)); have n12_ := Aside0.mk ((by rw [hg]; exact Nat.ne_of_gt (blk_lt (bK BK174)) : gb175 ≠ gb174)); clear BK172; clear BK173; clear BK174; clear HB; have BK172 := n0_; have BK173 := n1_; have BK174 := n2_; have HB := n3_; have BK175 := n4_; have GW175 := n5_; have GE175 := n6_; have NB172_175 := n7_; have NB175_172 := n8_; have NB173_175 := n9_; have NB175_173 := n10_; have NB174_175 := n11_; have NB175_174 := n12_; clear n0_ n1_ n2_ n3_ n4_ n5_ n6_ n7_ n8_ n9_ n10_ n11_ n12_; clear hb hbox hg; have hnb11 := NB172_173.out; have hnc11 := NB173_172.out; have hnb12 := NB172_174.out; have hnc12 := NB174_172.out; have hnb13 := NB172_175.out; have hnc13 := NB175_172.out; have hcz14_0 : w10.cell? ⟨gb172, 0, none⟩ = some (.int .i64 a0_0) := (blk_cell BK172.out 0).trans rfl; have hcz14_1 : w10.cell? ⟨gb172, 1, none⟩ = some (.int .i64 a0_1) := (blk_cell BK172.out 1).trans rfl; have hcz14_2 : w10.cell? ⟨gb172, 2, none⟩ = some (.int .i64 a0_2) := (blk_cell BK172.out 2).trans rfl; have hfz14_0 := blk_frozen BK172.out 0; have hfz14_1 := blk_frozen BK172.out 1; have hfz14_2 := blk_frozen BK172.out 2; have hnb15 := NB173_174.out; have hnc15 := NB174_173.out; have hnb16 := NB173_175.out; have hnc16 := NB175_173.out; have hcz17_0 : w10.cell? ⟨gb173, 0, none⟩ = some (.int .i64 a1_0) := (blk_cell BK173.out 0).trans rfl; have hcz17_1 : w10.cell? ⟨gb173, 1, none⟩ = some (.int .i64 a1_1) := (blk_cell BK173.out 1).trans rfl; have hcz17_2 : w10.cell? ⟨gb173, 2, none⟩ = some (.int .i64 a1_2) := (blk_cell BK173.out 2).trans rfl; have hfz17_0 := blk_frozen BK173.out 0; have hfz17_1 := blk_frozen BK173.out 1; have hfz17_2 := blk_frozen BK173.out 2; have hnb18 := NB174_175.out; have hnc18 := NB175_174.out; have hcz19_0 : w10.cell? ⟨gb174, 0, none⟩ = some (.int .i64 a2_0) := (blk_cell BK174.out 0).trans rfl; have hcz19_1 : w10.cell? ⟨gb174, 1, none⟩ = some (.int .i64 a2_1) := (blk_cell BK174.out 1).trans rfl; have hcz19_2 : w10.cell? ⟨gb174, 2, none⟩ = some (.int .i64 a2_2) := (blk_cell BK174.out 2).trans rfl; have hfz19_0 := blk_frozen BK174.out 0; have hfz19_1 := blk_frozen BK174.out 1; have hfz19_2 := blk_frozen BK174.out 2; have hcz20_0 : w10.cell? ⟨gb175, 0, none⟩ = some (.int .i64 a3_0) := (blk_cell BK175.out 0).trans rfl; have hcz20_1 : w10.cell? ⟨gb175, 1, none⟩ = some (.int .i64 a3_1) := (blk_cell BK175.out 1).trans rfl; have hcz20_2 : w10.cell? ⟨gb175, 2, none⟩ = some (.int .i64 a3_2) := (blk_cell BK175.out 2).trans rfl; have hfz20_0 := blk_frozen BK175.out 0; have hfz20_1 := blk_frozen BK175.out 1; have hfz20_2 := blk_frozen BK175.out 2) | ((with_reducible refine gate_dst (N := 17) rfl ?_); refine Kd.R_lit k23 _ 23 ?hg (N := 17) ?hd (xs := ([(⟨a0_0, a0_1, a0_2⟩ : S23), (⟨a1_0, a1_1, a1_2⟩ : S23), (⟨a2_0, a2_1, a2_2⟩ : S23), (⟨a3_0, a3_1, a3_2⟩ : S23)] : List (S23))) (inner := [.int .i64 a0_0, .int .i64 a0_1, .int .i64 a0_2, .int .i64 a1_0, .int .i64 a1_1, .int .i64 a1_2, .int .i64 a2_0, .int .i64 a2_1, .int .i64 a2_2, .int .i64 a3_0, .int .i64 a3_1, .int .i64 a3_2]) (ok := fun _ => True) (okp := fun _ => True) ?hr ?hp (fun _ hk => hk) trivial (Below.refl _ _) (Nat.le_refl _) (by simp) ?_; (case hd => rfl); (case hg => rfl); (case hr => first | (go_simp; done) | (go_simp; rfl)); (case hp => exact (Reps.c3 (show Kd.M k23 _ _ _ (⟨a0_0, a0_1, a0_2⟩ : S23) [.int .i64 a0_0, .int .i64 a0_1, .int .i64 a0_2] from (k23_mkM _ _ _ (⟨a0_0, a0_1, a0_2⟩ : S23) )) (Reps.c3 (show Kd.M k23 _ _ _ (⟨a1_0, a1_1, a1_2⟩ : S23) [.int .i64 a1_0, .int .i64 a1_1, .int .i64 a1_2] from (k23_mkM _ _ _ (⟨a1_0, a1_1, a1_2⟩ : S23) )) (Reps.c3 (show Kd.M k23 _ _ _ (⟨a2_0, a2_1, a2_2⟩ : S23) [.int .i64 a2_0, .int .i64 a2_1, .int .i64 a2_2] from (k23_mkM _ _ _ (⟨a2_0, a2_1, a2_2⟩ : S23) )) (Reps.c3 (show Kd.M k23 _ _ _ (⟨a3_0, a3_1, a3_2⟩ : S23) [.int .i64 a3_0, .int .i64 a3_1, .int .i64 a3_2] from (k23_mkM _ _ _ (⟨a3_0, a3_1, a3_2⟩ : S23) )) (Reps.none _ _)))))); intro v177 w21 ho22 hb hg_ hnew_; clear hg_ hnew_; (first | rw [← Ny176.out] at ho22 | (simp only [Int.reduceToNat] at ho22; rw [← Ny176.out] at ho22)); have n0_ := Aside0.mk (Kd.R_lower (Kd.R_newB (Kd.R_newB (Kd.R_newB (Kd.R_newB ho22 (g := gb172) (o := .cells #[.int .i64 a0_0, .int .i64 a0_1, .int .i64 a0_2] 23 (0, 0)) (bK BK172)) (g := gb173) (o := .cells #[.int .i64 a1_0, .int .i64 a1_1, .int .i64 a1_2] 23 (0, 0)) (bK BK173)) (g := gb174) (o := .cells #[.int .i64 a2_0, .int .i64 a2_1, .int .i64 a2_2] 23 (0, 0)) (bK BK174)) (g := gb175) (o := .cells #[.int .i64 a3_0, .int .i64 a3_1, .int .i64 a3_2] 23 (0, 0)) (bK BK175)) (below_size (bH HB))); have n1_ := Aside0.mk (blk_below (g := gb172) (o := .cells #[.int .i64 a0_0, .int .i64 a0_1, .int .i64 a0_2] 23 (0, 0)) (bK BK172) hb); have n2_ := Aside0.mk (blk_below (g := gb173) (o := .cells #[.int .i64 a1_0, .int .i64 a1_1, .int .i64 a1_2] 23 (0, 0)) (bK BK173) hb); have n3_ := Aside0.mk (blk_below (g := gb174) (o := .cells #[.int .i64 a2_0, .int .i64 a2_1, .int .i64 a2_2] 23 (0, 0)) (bK BK174) hb); have n4_ := Aside0.mk (blk_below (g := gb175) (o := .cells #[.int .i64 a3_0, .int .i64 a3_1, .int .i64 a3_2] 23 (0, 0)) (bK BK175) hb); have n5_ := Aside0.mk (below_step (bH HB) hb); clear BK172; clear BK173; clear BK174; clear BK175; clear HB; have HO178 := n0_; have BK172 := n1_; have BK173 := n2_; have BK174 := n3_; have BK175 := n4_; have HB := n5_; clear n0_ n1_ n2_ n3_ n4_ n5_; clear hb ho22; obtain ⟨Ao23, co23, eo23⟩ := Kd.R_slice HO178.out; subst eo23) | ((with_reducible refine gate_callee (f := 22) rfl ?_); refine goesL_ (some 18) rfl rfl Try.func22 (by kernel_rfl) rfl #[.slice Ao23 y176.length co23] rfl (by (try simp only [List.map_toArray, List.map_cons, List.map_nil]); first | done | rfl | (simp only [List.length_drop, List.length_take]; rfl)) ?_; (with_reducible refine (geom_Right.calls k _ _ y176 t179 _ ?side1 ?side2 A5.out).mono ?_); (case side1 => repeat (first | exact (Kd.R_reads' HO178.out).2.2 | (with_reducible refine Kd.C_alloc ?_ _) | (with_reducible refine Kd.C_drewN ?_ _) | (with_reducible refine Kd.C_drew ?_))); (case side2 => exact (Kd.R_reads' HO178.out).2.1); rintro e w24 ⟨rfl, hb⟩; refine ⟨_, rfl, ?_⟩; have n0_ := Aside0.mk (Kd.R_below (rK HO178) hb); have n1_ := Aside0.mk (blk_below (g := gb172) (o := .cells #[.int .i64 a0_0, .int .i64 a0_1, .int .i64 a0_2] 23 (0, 0)) (bK BK172) hb); have n2_ := Aside0.mk (blk_below (g := gb173) (o := .cells #[.int .i64 a1_0, .int .i64 a1_1, .int .i64 a1_2] 23 (0, 0)) (bK BK173) hb); have n3_ := Aside0.mk (blk_below (g := gb174) (o := .cells #[.int .i64 a2_0, .int .i64 a2_1, .int .i64 a2_2] 23 (0, 0)) (bK BK174) hb); have n4_ := Aside0.mk (blk_below (g := gb175) (o := .cells #[.int .i64 a3_0, .int .i64 a3_1, .int .i64 a3_2] 23 (0, 0)) (bK BK175) hb); have n5_ := Aside0.mk (below_step (bH HB) hb); clear HO178; clear BK172; clear BK173; clear BK174; clear BK175; clear HB; have HO178 := n0_; have BK172 := n1_; have BK173 := n2_; have BK174 := n3_; have BK175 := n4_; have HB := n5_; clear n0_ n1_ n2_ n3_ n4_ n5_; (try clear hb); (try clear hb2); (try clear hk); (try clear hi)))
 (try simp only [Act.put, List.setIfInBounds_toArray, List.set_cons_zero, List.set_cons_succ])
 have H := HC6.out
 clear HC6
 by_cases c25 : t179 = true
 ·subst c25
  have H1 : ((geom_turn.f k a0_0 a0_1 a0_2 a1_0 a1_1 a1_2 a2_0 a2_1 a2_2).bind fun t180 => ((geom_turn.f k a0_0 a0_1 a0_2 a1_0 a1_1 a1_2 a3_0 a3_1 a3_2).bind fun t181 => ((geom_turn.f k a2_0 a2_1 a2_2 a3_0 a3_1 a3_2 a0_0 a0_1 a0_2).bind fun t182 => ((geom_turn.f k a2_0 a2_1 a2_2 a3_0 a3_1 a3_2 a1_0 a1_1 a1_2).bind fun t183 => (if t180 = 0 then (if t181 = 0 then (if t182 = 0 then (geom_Meet.j0 k t180 t181 t182 t183 (t183 == 0) a0_0 a0_1 a0_2 a1_0 a1_1 a1_2 a2_0 a2_1 a2_2 a3_0 a3_1 a3_2) else (geom_Meet.j0 k t180 t181 t182 t183 false a0_0 a0_1 a0_2 a1_0 a1_1 a1_2 a2_0 a2_1 a2_2 a3_0 a3_1 a3_2)) else (geom_Meet.j0 k t180 t181 t182 t183 false a0_0 a0_1 a0_2 a1_0 a1_1 a1_2 a2_0 a2_1 a2_2 a3_0 a3_1 a3_2)) else (geom_Meet.j0 k t180 t181 t182 t183 false a0_0 a0_1 a0_2 a1_0 a1_1 a1_2 a2_0 a2_1 a2_2 a3_0 a3_1 a3_2)))))) = some r := by rw [if_pos rfl] at H; exact H
  clear H
  have H := H1
  clear H1
  replace H := Option.bind_eq_some_iff.mp H
  obtain ⟨t180, A260, H⟩ := H
  replace H : ((geom_turn.f k a0_0 a0_1 a0_2 a1_0 a1_1 a1_2 a3_0 a3_1 a3_2).bind fun t181 => ((geom_turn.f k a2_0 a2_1 a2_2 a3_0 a3_1 a3_2 a0_0 a0_1 a0_2).bind fun t182 => ((geom_turn.f k a2_0 a2_1 a2_2 a3_0 a3_1 a3_2 a1_0 a1_1 a1_2).bind fun t183 => (if t180 = 0 then (if t181 = 0 then (if t182 = 0 then (geom_Meet.j0 k t180 t181 t182 t183 (t183 == 0) a0_0 a0_1 a0_2 a1_0 a1_1 a1_2 a2_0 a2_1 a2_2 a3_0 a3_1 a3_2) else (geom_Meet.j0 k t180 t181 t182 t183 false a0_0 a0_1 a0_2 a1_0 a1_1 a1_2 a2_0 a2_1 a2_2 a3_0 a3_1 a3_2)) else (geom_Meet.j0 k t180 t181 t182 t183 false a0_0 a0_1 a0_2 a1_0 a1_1 a1_2 a2_0 a2_1 a2_2 a3_0 a3_1 a3_2)) else (geom_Meet.j0 k t180 t181 t182 t183 false a0_0 a0_1 a0_2 a1_0 a1_1 a1_2 a2_0 a2_1 a2_2 a3_0 a3_1 a3_2))))) = some r := H
  have A26 := Aside0.mk A260
  clear A260
  replace H := Option.bind_eq_some_iff.mp H
  obtain ⟨t181, A270, H⟩ := H
  replace H : ((geom_turn.f k a2_0 a2_1 a2_2 a3_0 a3_1 a3_2 a0_0 a0_1 a0_2).bind fun t182 => ((geom_turn.f k a2_0 a2_1 a2_2 a3_0 a3_1 a3_2 a1_0 a1_1 a1_2).bind fun t183 => (if t180 = 0 then (if t181 = 0 then (if t182 = 0 then (geom_Meet.j0 k t180 t181 t182 t183 (t183 == 0) a0_0 a0_1 a0_2 a1_0 a1_1 a1_2 a2_0 a2_1 a2_2 a3_0 a3_1 a3_2) else (geom_Meet.j0 k t180 t181 t182 t183 false a0_0 a0_1 a0_2 a1_0 a1_1 a1_2 a2_0 a2_1 a2_2 a3_0 a3_1 a3_2)) else (geom_Meet.j0 k t180 t181 t182 t183 false a0_0 a0_1 a0_2 a1_0 a1_1 a1_2 a2_0 a2_1 a2_2 a3_0 a3_1 a3_2)) else (geom_Meet.j0 k t180 t181 t182 t183 false a0_0 a0_1 a0_2 a1_0 a1_1 a1_2 a2_0 a2_1 a2_2 a3_0 a3_1 a3_2)))) = some r := H
  have A27 := Aside0.mk A270
  clear A270
  replace H := Option.bind_eq_some_iff.mp H
  obtain ⟨t182, A280, H⟩ := H
  replace H : ((geom_turn.f k a2_0 a2_1 a2_2 a3_0 a3_1 a3_2 a1_0 a1_1 a1_2).bind fun t183 => (if t180 = 0 then (if t181 = 0 then (if t182 = 0 then (geom_Meet.j0 k t180 t181 t182 t183 (t183 == 0) a0_0 a0_1 a0_2 a1_0 a1_1 a1_2 a2_0 a2_1 a2_2 a3_0 a3_1 a3_2) else (geom_Meet.j0 k t180 t181 t182 t183 false a0_0 a0_1 a0_2 a1_0 a1_1 a1_2 a2_0 a2_1 a2_2 a3_0 a3_1 a3_2)) else (geom_Meet.j0 k t180 t181 t182 t183 false a0_0 a0_1 a0_2 a1_0 a1_1 a1_2 a2_0 a2_1 a2_2 a3_0 a3_1 a3_2)) else (geom_Meet.j0 k t180 t181 t182 t183 false a0_0 a0_1 a0_2 a1_0 a1_1 a1_2 a2_0 a2_1 a2_2 a3_0 a3_1 a3_2))) = some r := H
  have A28 := Aside0.mk A280
  clear A280
  replace H := Option.bind_eq_some_iff.mp H
  obtain ⟨t183, A290, H⟩ := H
  replace H : (if t180 = 0 then (if t181 = 0 then (if t182 = 0 then (geom_Meet.j0 k t180 t181 t182 t183 (t183 == 0) a0_0 a0_1 a0_2 a1_0 a1_1 a1_2 a2_0 a2_1 a2_2 a3_0 a3_1 a3_2) else (geom_Meet.j0 k t180 t181 t182 t183 false a0_0 a0_1 a0_2 a1_0 a1_1 a1_2 a2_0 a2_1 a2_2 a3_0 a3_1 a3_2)) else (geom_Meet.j0 k t180 t181 t182 t183 false a0_0 a0_1 a0_2 a1_0 a1_1 a1_2 a2_0 a2_1 a2_2 a3_0 a3_1 a3_2)) else (geom_Meet.j0 k t180 t181 t182 t183 false a0_0 a0_1 a0_2 a1_0 a1_1 a1_2 a2_0 a2_1 a2_2 a3_0 a3_1 a3_2)) = some r := H
  have A29 := Aside0.mk A290
  clear A290
  have HC30 := Aside0.mk H
  clear H
  try go_wp2
  have n0_ := Aside0.mk (Kd.R_drew HO178.out)
  have n1_ := Aside0.mk (blk_drew BK172.out)
  have n2_ := Aside0.mk (blk_drew BK173.out)
  have n3_ := Aside0.mk (blk_drew BK174.out)
  have n4_ := Aside0.mk (blk_drew BK175.out)
  have n5_ := Aside0.mk (below_drew1 HB.out)
  clear HO178
  clear BK172
  clear BK173
  clear BK174
  clear BK175
  clear HB
  have HO178 := n0_
  have BK172 := n1_
  have BK173 := n2_
  have BK174 := n3_
  have BK175 := n4_
  have HB := n5_
  clear n0_ n1_ n2_ n3_ n4_ n5_
  refine start_ (n := 10) (S := fun w' => w'.cell? ⟨gb172, 0, none⟩ = some (.int .i64 a0_0) ∧ w'.cell? ⟨gb172, 1, none⟩ = some (.int .i64 a0_1) ∧ w'.cell? ⟨gb172, 2, none⟩ = some (.int .i64 a0_2) ∧ w'.cell? ⟨gb173, 0, none⟩ = some (.int .i64 a1_0) ∧ w'.cell? ⟨gb173, 1, none⟩ = some (.int .i64 a1_1) ∧ w'.cell? ⟨gb173, 2, none⟩ = some (.int .i64 a1_2) ∧ w'.cell? ⟨gb174, 0, none⟩ = some (.int .i64 a2_0) ∧ w'.cell? ⟨gb174, 1, none⟩ = some (.int .i64 a2_1) ∧ w'.cell? ⟨gb174, 2, none⟩ = some (.int .i64 a2_2) ∧ w'.cell? ⟨gb175, 0, none⟩ = some (.int .i64 a3_0) ∧ w'.cell? ⟨gb175, 1, none⟩ = some (.int .i64 a3_1) ∧ w'.cell? ⟨gb175, 2, none⟩ = some (.int .i64 a3_2)) (ds := []) #[false, false, false, false, false, false, false, false, false, false] (by kernel_rfl) rfl rfl ⟨(blk_cell BK172.out 0).trans rfl, (blk_cell BK172.out 1).trans rfl, (blk_cell BK172.out 2).trans rfl, (blk_cell BK173.out 0).trans rfl, (blk_cell BK173.out 1).trans rfl, (blk_cell BK173.out 2).trans rfl, (blk_cell BK174.out 0).trans rfl, (blk_cell BK174.out 1).trans rfl, (blk_cell BK174.out 2).trans rfl, (blk_cell BK175.out 0).trans rfl, (blk_cell BK175.out 1).trans rfl, (blk_cell BK175.out 2).trans rfl⟩ (fun hHeld => ?_); refine with_tabW geom_Meet.tab3 geom_Meet.bits3 (fun HT_ HW_ => ?_)
  generalize w24.drew = w31 at HO178 BK172 BK173 BK174 BK175 HB hHeld ⊢
  refine take_ (i := 0) (N := some 20) (v := ?_) (a' := ?_) #[true, false, false, false, false, false, false, false, false, false] rfl rfl (take_ofW HT_.out HW_.out (by kernel_rfl)) (fun _ _ _ h => h) (Or.inl ⟨by rfl, ?_⟩) hHeld ?_ ?_
  rotate_left
  ·rintro w' ⟨s0, s1, s2, s3, s4, s5, s6, s7, s8, s9, s10, s11⟩
   go_simp
   with_reducible rfl
  rotate_left
  ·simp only [Act.put, List.setIfInBounds_toArray, List.set_cons_zero, List.set_cons_succ, i64_w, i32_w]
   rfl
  refine take_ (i := 1) (N := some 21) (v := ?_) (a' := ?_) #[true, true, false, false, false, false, false, false, false, false] rfl rfl (take_ofW HT_.out HW_.out (by kernel_rfl)) (fun _ _ _ h => h) (Or.inl ⟨by rfl, ?_⟩) hHeld ?_ ?_
  rotate_left
  ·rintro w' ⟨s0, s1, s2, s3, s4, s5, s6, s7, s8, s9, s10, s11⟩
   go_simp
   with_reducible rfl
  rotate_left
  ·simp only [Act.put, List.setIfInBounds_toArray, List.set_cons_zero, List.set_cons_succ, i64_w, i32_w]
   rfl
  refine take_ (i := 2) (N := some 22) (v := ?_) (a' := ?_) #[true, true, true, false, false, false, false, false, false, false] rfl rfl (take_ofW HT_.out HW_.out (by kernel_rfl)) (fun _ _ _ h => h) (Or.inl ⟨by rfl, ?_⟩) hHeld ?_ ?_
  rotate_left
  ·rintro w' ⟨s0, s1, s2, s3, s4, s5, s6, s7, s8, s9, s10, s11⟩
   go_simp
   with_reducible rfl
  rotate_left
  ·simp only [Act.put, List.setIfInBounds_toArray, List.set_cons_zero, List.set_cons_succ, i64_w, i32_w]
   rfl
  refine take_ (i := 4) (N := some 24) (v := ?_) (a' := ?_) #[true, true, true, false, true, false, false, false, false, false] rfl rfl (take_ofW HT_.out HW_.out (by kernel_rfl)) (fun _ _ _ h => h) (Or.inl ⟨by rfl, ?_⟩) hHeld ?_ ?_
  rotate_left
  ·rintro w' ⟨s0, s1, s2, s3, s4, s5, s6, s7, s8, s9, s10, s11⟩
   go_simp
   with_reducible rfl
  rotate_left
  ·simp only [Act.put, List.setIfInBounds_toArray, List.set_cons_zero, List.set_cons_succ, i64_w, i32_w]
   rfl
  refine take_ (i := 5) (N := some 25) (v := ?_) (a' := ?_) #[true, true, true, false, true, true, false, false, false, false] rfl rfl (take_ofW HT_.out HW_.out (by kernel_rfl)) (fun _ _ _ h => h) (Or.inl ⟨by rfl, ?_⟩) hHeld ?_ ?_
  rotate_left
  ·rintro w' ⟨s0, s1, s2, s3, s4, s5, s6, s7, s8, s9, s10, s11⟩
   go_simp
   with_reducible rfl
  rotate_left
  ·simp only [Act.put, List.setIfInBounds_toArray, List.set_cons_zero, List.set_cons_succ, i64_w, i32_w]
   rfl
  refine take_ (i := 6) (N := some 26) (v := ?_) (a' := ?_) #[true, true, true, false, true, true, true, false, false, false] rfl rfl (take_ofW HT_.out HW_.out (by kernel_rfl)) (fun _ _ _ h => h) (Or.inl ⟨by rfl, ?_⟩) hHeld ?_ ?_
  rotate_left
  ·rintro w' ⟨s0, s1, s2, s3, s4, s5, s6, s7, s8, s9, s10, s11⟩
   go_simp
   with_reducible rfl
  rotate_left
  ·simp only [Act.put, List.setIfInBounds_toArray, List.set_cons_zero, List.set_cons_succ, i64_w, i32_w]
   rfl
  refine one_ (i := 3) (N := some 23) #[true, true, true, true, true, true, true, false, false, false] rfl rfl (one_of HT_.out (by kernel_rfl)) (by decide) (fun K hK => ?_)
  refine goes_ Try.func27 (by kernel_rfl) rfl #[.agg #[.int .i64 a0_0, .int .i64 a0_1, .int .i64 a0_2], .agg #[.int .i64 a1_0, .int .i64 a1_1, .int .i64 a1_2], .agg #[.int .i64 a2_0, .int .i64 a2_1, .int .i64 a2_2]] (by rfl) rfl rfl (by (try simp only [List.map_toArray, List.map_cons, List.map_nil]); first | done | rfl | (simp only [List.length_drop, List.length_take]; rfl)) ?_
  with_reducible refine (geom_turn.calls k a0_0 a0_1 a0_2 a1_0 a1_1 a1_2 a2_0 a2_1 a2_2 t180 _ A26.out).mono ?_
  rintro e w32 ⟨rfl, hb⟩
  refine ⟨_, rfl, ?_⟩
  have n0_ := Aside0.mk (Kd.R_below (rK HO178) hb)
  have n1_ := Aside0.mk (blk_below (g := gb172) (o := .cells #[.int .i64 a0_0, .int .i64 a0_1, .int .i64 a0_2] 23 (0, 0)) (bK BK172) hb)
  have n2_ := Aside0.mk (blk_below (g := gb173) (o := .cells #[.int .i64 a1_0, .int .i64 a1_1, .int .i64 a1_2] 23 (0, 0)) (bK BK173) hb)
  have n3_ := Aside0.mk (blk_below (g := gb174) (o := .cells #[.int .i64 a2_0, .int .i64 a2_1, .int .i64 a2_2] 23 (0, 0)) (bK BK174) hb)
  have n4_ := Aside0.mk (blk_below (g := gb175) (o := .cells #[.int .i64 a3_0, .int .i64 a3_1, .int .i64 a3_2] 23 (0, 0)) (bK BK175) hb)
  have n5_ := Aside0.mk (below_step (bH HB) hb)
  clear HO178
  clear BK172
  clear BK173
  clear BK174
  clear BK175
  clear HB
  have HO178 := n0_
  have BK172 := n1_
  have BK173 := n2_
  have BK174 := n3_
  have BK175 := n4_
  have HB := n5_
  clear n0_ n1_ n2_ n3_ n4_ n5_
  (try clear hb)
  (try clear hb2)
  (try clear hk)
  (try clear hi)
  refine hK.out _ _ ⟨(blk_cell BK172.out 0).trans rfl, (blk_cell BK172.out 1).trans rfl, (blk_cell BK172.out 2).trans rfl, (blk_cell BK173.out 0).trans rfl, (blk_cell BK173.out 1).trans rfl, (blk_cell BK173.out 2).trans rfl, (blk_cell BK174.out 0).trans rfl, (blk_cell BK174.out 1).trans rfl, (blk_cell BK174.out 2).trans rfl, (blk_cell BK175.out 0).trans rfl, (blk_cell BK175.out 1).trans rfl, (blk_cell BK175.out 2).trans rfl⟩ (fun hHeld => ?_)
  clear hK K
  refine norm_ (a' := ?_) ?_ ?_
  rotate_left
  ·show Act.put _ (some 23) _ = _
   simp only [Act.put, List.setIfInBounds_toArray, List.set_cons_zero, List.set_cons_succ, i64_w, i32_w]
   rfl
  refine one_ (i := 7) (N := some 27) #[true, true, true, true, true, true, true, true, false, false] rfl rfl (one_of HT_.out (by kernel_rfl)) (by decide) (fun K hK => ?_)
  refine goes_ Try.func27 (by kernel_rfl) rfl #[.agg #[.int .i64 a0_0, .int .i64 a0_1, .int .i64 a0_2], .agg #[.int .i64 a1_0, .int .i64 a1_1, .int .i64 a1_2], .agg #[.int .i64 a3_0, .int .i64 a3_1, .int .i64 a3_2]] (by rfl) rfl rfl (by (try simp only [List.map_toArray, List.map_cons, List.map_nil]); first | done | rfl | (simp only [List.length_drop, List.length_take]; rfl)) ?_
  with_reducible refine (geom_turn.calls k a0_0 a0_1 a0_2 a1_0 a1_1 a1_2 a3_0 a3_1 a3_2 t181 _ A27.out).mono ?_
  rintro e w33 ⟨rfl, hb⟩
  refine ⟨_, rfl, ?_⟩
  have n0_ := Aside0.mk (Kd.R_below (rK HO178) hb)
  have n1_ := Aside0.mk (blk_below (g := gb172) (o := .cells #[.int .i64 a0_0, .int .i64 a0_1, .int .i64 a0_2] 23 (0, 0)) (bK BK172) hb)
  have n2_ := Aside0.mk (blk_below (g := gb173) (o := .cells #[.int .i64 a1_0, .int .i64 a1_1, .int .i64 a1_2] 23 (0, 0)) (bK BK173) hb)
  have n3_ := Aside0.mk (blk_below (g := gb174) (o := .cells #[.int .i64 a2_0, .int .i64 a2_1, .int .i64 a2_2] 23 (0, 0)) (bK BK174) hb)
  have n4_ := Aside0.mk (blk_below (g := gb175) (o := .cells #[.int .i64 a3_0, .int .i64 a3_1, .int .i64 a3_2] 23 (0, 0)) (bK BK175) hb)
  have n5_ := Aside0.mk (below_step (bH HB) hb)
  clear HO178
  clear BK172
  clear BK173
  clear BK174
  clear BK175
  clear HB
  have HO178 := n0_
  have BK172 := n1_
  have BK173 := n2_
  have BK174 := n3_
  have BK175 := n4_
  have HB := n5_
  clear n0_ n1_ n2_ n3_ n4_ n5_
  (try clear hb)
  (try clear hb2)
  (try clear hk)
  (try clear hi)
  refine hK.out _ _ ⟨(blk_cell BK172.out 0).trans rfl, (blk_cell BK172.out 1).trans rfl, (blk_cell BK172.out 2).trans rfl, (blk_cell BK173.out 0).trans rfl, (blk_cell BK173.out 1).trans rfl, (blk_cell BK173.out 2).trans rfl, (blk_cell BK174.out 0).trans rfl, (blk_cell BK174.out 1).trans rfl, (blk_cell BK174.out 2).trans rfl, (blk_cell BK175.out 0).trans rfl, (blk_cell BK175.out 1).trans rfl, (blk_cell BK175.out 2).trans rfl⟩ (fun hHeld => ?_)
  clear hK K
  refine norm_ (a' := ?_) ?_ ?_
  rotate_left
  ·show Act.put _ (some 27) _ = _
   simp only [Act.put, List.setIfInBounds_toArray, List.set_cons_zero, List.set_cons_succ, i64_w, i32_w]
   rfl
  refine pure_ (i := 8) (N := some 9) (v := ?_) (a' := ?_) #[true, true, true, true, true, true, true, true, true, false] rfl rfl (any_of HT_.out (by kernel_rfl)) (fun _ _ _ h => h) (Or.inl ⟨by rfl, ?_⟩) ?_ ?_
  rotate_left
  ·intro w'
   go_simp
   with_reducible rfl
  rotate_left
  ·simp only [Act.put, List.setIfInBounds_toArray, List.set_cons_zero, List.set_cons_succ, i64_w, i32_w]
   rfl
  refine pure_ (i := 9) (N := some 10) (v := ?_) (a' := ?_) #[true, true, true, true, true, true, true, true, true, true] rfl rfl (any_of HT_.out (by kernel_rfl)) (fun _ _ _ h => h) (Or.inl ⟨by rfl, ?_⟩) ?_ ?_
  rotate_left
  ·intro w'
   go_simp
   with_reducible rfl
  rotate_left
  ·simp only [Act.put, List.setIfInBounds_toArray, List.set_cons_zero, List.set_cons_succ, i64_w, i32_w]
   rfl
  refine done_ (done_of HT_.out (by kernel_rfl)) ?_
  try go_wp2
  have n0_ := Aside0.mk (Kd.R_drew HO178.out)
  have n1_ := Aside0.mk (blk_drew BK172.out)
  have n2_ := Aside0.mk (blk_drew BK173.out)
  have n3_ := Aside0.mk (blk_drew BK174.out)
  have n4_ := Aside0.mk (blk_drew BK175.out)
  have n5_ := Aside0.mk (below_drew1 HB.out)
  clear HO178
  clear BK172
  clear BK173
  clear BK174
  clear BK175
  clear HB
  have HO178 := n0_
  have BK172 := n1_
  have BK173 := n2_
  have BK174 := n3_
  have BK175 := n4_
  have HB := n5_
  clear n0_ n1_ n2_ n3_ n4_ n5_
  refine start_ (n := 10) (S := fun w' => w'.cell? ⟨gb174, 0, none⟩ = some (.int .i64 a2_0) ∧ w'.cell? ⟨gb174, 1, none⟩ = some (.int .i64 a2_1) ∧ w'.cell? ⟨gb174, 2, none⟩ = some (.int .i64 a2_2) ∧ w'.cell? ⟨gb175, 0, none⟩ = some (.int .i64 a3_0) ∧ w'.cell? ⟨gb175, 1, none⟩ = some (.int .i64 a3_1) ∧ w'.cell? ⟨gb175, 2, none⟩ = some (.int .i64 a3_2) ∧ w'.cell? ⟨gb172, 0, none⟩ = some (.int .i64 a0_0) ∧ w'.cell? ⟨gb172, 1, none⟩ = some (.int .i64 a0_1) ∧ w'.cell? ⟨gb172, 2, none⟩ = some (.int .i64 a0_2) ∧ w'.cell? ⟨gb173, 0, none⟩ = some (.int .i64 a1_0) ∧ w'.cell? ⟨gb173, 1, none⟩ = some (.int .i64 a1_1) ∧ w'.cell? ⟨gb173, 2, none⟩ = some (.int .i64 a1_2)) (ds := []) #[false, false, false, false, false, false, false, false, false, false] (by kernel_rfl) rfl rfl ⟨(blk_cell BK174.out 0).trans rfl, (blk_cell BK174.out 1).trans rfl, (blk_cell BK174.out 2).trans rfl, (blk_cell BK175.out 0).trans rfl, (blk_cell BK175.out 1).trans rfl, (blk_cell BK175.out 2).trans rfl, (blk_cell BK172.out 0).trans rfl, (blk_cell BK172.out 1).trans rfl, (blk_cell BK172.out 2).trans rfl, (blk_cell BK173.out 0).trans rfl, (blk_cell BK173.out 1).trans rfl, (blk_cell BK173.out 2).trans rfl⟩ (fun hHeld => ?_); refine with_tabW geom_Meet.tab4 geom_Meet.bits4 (fun HT_ HW_ => ?_)
  generalize w33.drew = w34 at HO178 BK172 BK173 BK174 BK175 HB hHeld ⊢
  refine take_ (i := 0) (N := some 28) (v := ?_) (a' := ?_) #[true, false, false, false, false, false, false, false, false, false] rfl rfl (take_ofW HT_.out HW_.out (by kernel_rfl)) (fun _ _ _ h => h) (Or.inl ⟨by rfl, ?_⟩) hHeld ?_ ?_
  rotate_left
  ·rintro w' ⟨s0, s1, s2, s3, s4, s5, s6, s7, s8, s9, s10, s11⟩
   go_simp
   with_reducible rfl
  rotate_left
  ·simp only [Act.put, List.setIfInBounds_toArray, List.set_cons_zero, List.set_cons_succ, i64_w, i32_w]
   rfl
  refine take_ (i := 1) (N := some 29) (v := ?_) (a' := ?_) #[true, true, false, false, false, false, false, false, false, false] rfl rfl (take_ofW HT_.out HW_.out (by kernel_rfl)) (fun _ _ _ h => h) (Or.inl ⟨by rfl, ?_⟩) hHeld ?_ ?_
  rotate_left
  ·rintro w' ⟨s0, s1, s2, s3, s4, s5, s6, s7, s8, s9, s10, s11⟩
   go_simp
   with_reducible rfl
  rotate_left
  ·simp only [Act.put, List.setIfInBounds_toArray, List.set_cons_zero, List.set_cons_succ, i64_w, i32_w]
   rfl
  refine take_ (i := 2) (N := some 30) (v := ?_) (a' := ?_) #[true, true, true, false, false, false, false, false, false, false] rfl rfl (take_ofW HT_.out HW_.out (by kernel_rfl)) (fun _ _ _ h => h) (Or.inl ⟨by rfl, ?_⟩) hHeld ?_ ?_
  rotate_left
  ·rintro w' ⟨s0, s1, s2, s3, s4, s5, s6, s7, s8, s9, s10, s11⟩
   go_simp
   with_reducible rfl
  rotate_left
  ·simp only [Act.put, List.setIfInBounds_toArray, List.set_cons_zero, List.set_cons_succ, i64_w, i32_w]
   rfl
  refine take_ (i := 4) (N := some 32) (v := ?_) (a' := ?_) #[true, true, true, false, true, false, false, false, false, false] rfl rfl (take_ofW HT_.out HW_.out (by kernel_rfl)) (fun _ _ _ h => h) (Or.inl ⟨by rfl, ?_⟩) hHeld ?_ ?_
  rotate_left
  ·rintro w' ⟨s0, s1, s2, s3, s4, s5, s6, s7, s8, s9, s10, s11⟩
   go_simp
   with_reducible rfl
  rotate_left
  ·simp only [Act.put, List.setIfInBounds_toArray, List.set_cons_zero, List.set_cons_succ, i64_w, i32_w]
   rfl
  refine take_ (i := 5) (N := some 33) (v := ?_) (a' := ?_) #[true, true, true, false, true, true, false, false, false, false] rfl rfl (take_ofW HT_.out HW_.out (by kernel_rfl)) (fun _ _ _ h => h) (Or.inl ⟨by rfl, ?_⟩) hHeld ?_ ?_
  rotate_left
  ·rintro w' ⟨s0, s1, s2, s3, s4, s5, s6, s7, s8, s9, s10, s11⟩
   go_simp
   with_reducible rfl
  rotate_left
  ·simp only [Act.put, List.setIfInBounds_toArray, List.set_cons_zero, List.set_cons_succ, i64_w, i32_w]
   rfl
  refine take_ (i := 6) (N := some 34) (v := ?_) (a' := ?_) #[true, true, true, false, true, true, true, false, false, false] rfl rfl (take_ofW HT_.out HW_.out (by kernel_rfl)) (fun _ _ _ h => h) (Or.inl ⟨by rfl, ?_⟩) hHeld ?_ ?_
  rotate_left
  ·rintro w' ⟨s0, s1, s2, s3, s4, s5, s6, s7, s8, s9, s10, s11⟩
   go_simp
   with_reducible rfl
  rotate_left
  ·simp only [Act.put, List.setIfInBounds_toArray, List.set_cons_zero, List.set_cons_succ, i64_w, i32_w]
   rfl
  refine one_ (i := 3) (N := some 31) #[true, true, true, true, true, true, true, false, false, false] rfl rfl (one_of HT_.out (by kernel_rfl)) (by decide) (fun K hK => ?_)
  refine goes_ Try.func27 (by kernel_rfl) rfl #[.agg #[.int .i64 a2_0, .int .i64 a2_1, .int .i64 a2_2], .agg #[.int .i64 a3_0, .int .i64 a3_1, .int .i64 a3_2], .agg #[.int .i64 a0_0, .int .i64 a0_1, .int .i64 a0_2]] (by rfl) rfl rfl (by (try simp only [List.map_toArray, List.map_cons, List.map_nil]); first | done | rfl | (simp only [List.length_drop, List.length_take]; rfl)) ?_
  with_reducible refine (geom_turn.calls k a2_0 a2_1 a2_2 a3_0 a3_1 a3_2 a0_0 a0_1 a0_2 t182 _ A28.out).mono ?_
  rintro e w35 ⟨rfl, hb⟩
  refine ⟨_, rfl, ?_⟩
  have n0_ := Aside0.mk (Kd.R_below (rK HO178) hb)
  have n1_ := Aside0.mk (blk_below (g := gb172) (o := .cells #[.int .i64 a0_0, .int .i64 a0_1, .int .i64 a0_2] 23 (0, 0)) (bK BK172) hb)
  have n2_ := Aside0.mk (blk_below (g := gb173) (o := .cells #[.int .i64 a1_0, .int .i64 a1_1, .int .i64 a1_2] 23 (0, 0)) (bK BK173) hb)
  have n3_ := Aside0.mk (blk_below (g := gb174) (o := .cells #[.int .i64 a2_0, .int .i64 a2_1, .int .i64 a2_2] 23 (0, 0)) (bK BK174) hb)
  have n4_ := Aside0.mk (blk_below (g := gb175) (o := .cells #[.int .i64 a3_0, .int .i64 a3_1, .int .i64 a3_2] 23 (0, 0)) (bK BK175) hb)
  have n5_ := Aside0.mk (below_step (bH HB) hb)
  clear HO178
  clear BK172
  clear BK173
  clear BK174
  clear BK175
  clear HB
  have HO178 := n0_
  have BK172 := n1_
  have BK173 := n2_
  have BK174 := n3_
  have BK175 := n4_
  have HB := n5_
  clear n0_ n1_ n2_ n3_ n4_ n5_
  (try clear hb)
  (try clear hb2)
  (try clear hk)
  (try clear hi)
  refine hK.out _ _ ⟨(blk_cell BK174.out 0).trans rfl, (blk_cell BK174.out 1).trans rfl, (blk_cell BK174.out 2).trans rfl, (blk_cell BK175.out 0).trans rfl, (blk_cell BK175.out 1).trans rfl, (blk_cell BK175.out 2).trans rfl, (blk_cell BK172.out 0).trans rfl, (blk_cell BK172.out 1).trans rfl, (blk_cell BK172.out 2).trans rfl, (blk_cell BK173.out 0).trans rfl, (blk_cell BK173.out 1).trans rfl, (blk_cell BK173.out 2).trans rfl⟩ (fun hHeld => ?_)
  clear hK K
  refine norm_ (a' := ?_) ?_ ?_
  rotate_left
  ·show Act.put _ (some 31) _ = _
   simp only [Act.put, List.setIfInBounds_toArray, List.set_cons_zero, List.set_cons_succ, i64_w, i32_w]
   rfl
  refine one_ (i := 7) (N := some 35) #[true, true, true, true, true, true, true, true, false, false] rfl rfl (one_of HT_.out (by kernel_rfl)) (by decide) (fun K hK => ?_)
  refine goes_ Try.func27 (by kernel_rfl) rfl #[.agg #[.int .i64 a2_0, .int .i64 a2_1, .int .i64 a2_2], .agg #[.int .i64 a3_0, .int .i64 a3_1, .int .i64 a3_2], .agg #[.int .i64 a1_0, .int .i64 a1_1, .int .i64 a1_2]] (by rfl) rfl rfl (by (try simp only [List.map_toArray, List.map_cons, List.map_nil]); first | done | rfl | (simp only [List.length_drop, List.length_take]; rfl)) ?_
  with_reducible refine (geom_turn.calls k a2_0 a2_1 a2_2 a3_0 a3_1 a3_2 a1_0 a1_1 a1_2 t183 _ A29.out).mono ?_
  rintro e w36 ⟨rfl, hb⟩
  refine ⟨_, rfl, ?_⟩
  have n0_ := Aside0.mk (Kd.R_below (rK HO178) hb)
  have n1_ := Aside0.mk (blk_below (g := gb172) (o := .cells #[.int .i64 a0_0, .int .i64 a0_1, .int .i64 a0_2] 23 (0, 0)) (bK BK172) hb)
  have n2_ := Aside0.mk (blk_below (g := gb173) (o := .cells #[.int .i64 a1_0, .int .i64 a1_1, .int .i64 a1_2] 23 (0, 0)) (bK BK173) hb)
  have n3_ := Aside0.mk (blk_below (g := gb174) (o := .cells #[.int .i64 a2_0, .int .i64 a2_1, .int .i64 a2_2] 23 (0, 0)) (bK BK174) hb)
  have n4_ := Aside0.mk (blk_below (g := gb175) (o := .cells #[.int .i64 a3_0, .int .i64 a3_1, .int .i64 a3_2] 23 (0, 0)) (bK BK175) hb)
  have n5_ := Aside0.mk (below_step (bH HB) hb)
  clear HO178
  clear BK172
  clear BK173
  clear BK174
  clear BK175
  clear HB
  have HO178 := n0_
  have BK172 := n1_
  have BK173 := n2_
  have BK174 := n3_
  have BK175 := n4_
  have HB := n5_
  clear n0_ n1_ n2_ n3_ n4_ n5_
  (try clear hb)
  (try clear hb2)
  (try clear hk)
  (try clear hi)
  refine hK.out _ _ ⟨(blk_cell BK174.out 0).trans rfl, (blk_cell BK174.out 1).trans rfl, (blk_cell BK174.out 2).trans rfl, (blk_cell BK175.out 0).trans rfl, (blk_cell BK175.out 1).trans rfl, (blk_cell BK175.out 2).trans rfl, (blk_cell BK172.out 0).trans rfl, (blk_cell BK172.out 1).trans rfl, (blk_cell BK172.out 2).trans rfl, (blk_cell BK173.out 0).trans rfl, (blk_cell BK173.out 1).trans rfl, (blk_cell BK173.out 2).trans rfl⟩ (fun hHeld => ?_)
  clear hK K
  refine norm_ (a' := ?_) ?_ ?_
  rotate_left
  ·show Act.put _ (some 35) _ = _
   simp only [Act.put, List.setIfInBounds_toArray, List.set_cons_zero, List.set_cons_succ, i64_w, i32_w]
   rfl
  refine pure_ (i := 8) (N := some 11) (v := ?_) (a' := ?_) #[true, true, true, true, true, true, true, true, true, false] rfl rfl (any_of HT_.out (by kernel_rfl)) (fun _ _ _ h => h) (Or.inl ⟨by rfl, ?_⟩) ?_ ?_
  rotate_left
  ·intro w'
   go_simp
   with_reducible rfl
  rotate_left
  ·simp only [Act.put, List.setIfInBounds_toArray, List.set_cons_zero, List.set_cons_succ, i64_w, i32_w]
   rfl
  refine pure_ (i := 9) (N := some 12) (v := ?_) (a' := ?_) #[true, true, true, true, true, true, true, true, true, true] rfl rfl (any_of HT_.out (by kernel_rfl)) (fun _ _ _ h => h) (Or.inl ⟨by rfl, ?_⟩) ?_ ?_
  rotate_left
  ·intro w'
   go_simp
   with_reducible rfl
  rotate_left
  ·simp only [Act.put, List.setIfInBounds_toArray, List.set_cons_zero, List.set_cons_succ, i64_w, i32_w]
   rfl
  refine done_ (done_of HT_.out (by kernel_rfl)) ?_
  go_upto_region 5 with (fail)
  go_cut [36] (fun v36 wc => ∃ (kq : Nat) (x36_29 : Bool), v36 = .bool x36_29 ∧ Aside0 (geom_Meet.j0 kq t180 t181 t182 t183 x36_29 a0_0 a0_1 a0_2 a1_0 a1_1 a1_2 a2_0 a2_1 a2_2 a3_0 a3_1 a3_2 = some r) ∧ Aside0 (kq ≤ k) ∧ Aside0 (wc.heap[gb172]? = some (.cells #[.int .i64 a0_0, .int .i64 a0_1, .int .i64 a0_2] 23 (0, 0))) ∧ Aside0 (wc.heap[gb173]? = some (.cells #[.int .i64 a1_0, .int .i64 a1_1, .int .i64 a1_2] 23 (0, 0))) ∧ Aside0 (wc.heap[gb174]? = some (.cells #[.int .i64 a2_0, .int .i64 a2_1, .int .i64 a2_2] 23 (0, 0))) ∧ Aside0 (wc.heap[gb175]? = some (.cells #[.int .i64 a3_0, .int .i64 a3_1, .int .i64 a3_2] 23 (0, 0))) ∧ Aside0 (Below w.heap.size w wc))
  case first =>
   have H := HC30.out
   clear HC30
   by_cases c37 : t180 = 0
   ·rw [if_pos c37] at H
    have c37b0 : (t180 == 0) = true := beq_iff_eq.mpr c37
    have c37b1 : (t180 != 0) = false := bne_eq_false_iff_eq.mpr c37
    clear c37
    (first | rw [c37b0] | (simp only [i64_w, i32_w]; rw [c37b0]) | skip)
    by_cases c38 : t181 = 0
    ·rw [if_pos c38] at H
     have c38b0 : (t181 == 0) = true := beq_iff_eq.mpr c38
     have c38b1 : (t181 != 0) = false := bne_eq_false_iff_eq.mpr c38
     clear c38
     by_cases c39 : t182 = 0
     ·rw [if_pos c39] at H
      have c39b0 : (t182 == 0) = true := beq_iff_eq.mpr c39
      have c39b1 : (t182 != 0) = false := bne_eq_false_iff_eq.mpr c39
      clear c39
      have H' := Aside0.mk H
      clear H
      go_wp2
      go_meet
      case rel => exact ⟨_, ((t183 == 0)), (by first | rfl | (simp; done) | (simp [*]; done)), H', ⟨by first | omega | exact Nat.le_refl _⟩, ⟨bK BK172⟩, ⟨bK BK173⟩, ⟨bK BK174⟩, ⟨bK BK175⟩, ⟨ bH HB⟩⟩
     ·rw [if_neg c39] at H
      have c39b0 : (t182 == 0) = false := beq_eq_false_iff_ne.mpr c39
      have c39b1 : (t182 != 0) = true := bne_iff_ne.mpr c39
      have H' := Aside0.mk H
      clear H
      go_wp2
      go_meet
      case rel => exact ⟨_, (false), (by first | rfl | (simp; done) | (simp [*]; done)), H', ⟨by first | omega | exact Nat.le_refl _⟩, ⟨bK BK172⟩, ⟨bK BK173⟩, ⟨bK BK174⟩, ⟨bK BK175⟩, ⟨ bH HB⟩⟩
    ·rw [if_neg c38] at H
     have c38b0 : (t181 == 0) = false := beq_eq_false_iff_ne.mpr c38
     have c38b1 : (t181 != 0) = true := bne_iff_ne.mpr c38
     have H' := Aside0.mk H
     clear H
     go_wp2
     go_meet
     case rel => exact ⟨_, (false), (by first | rfl | (simp; done) | (simp [*]; done)), H', ⟨by first | omega | exact Nat.le_refl _⟩, ⟨bK BK172⟩, ⟨bK BK173⟩, ⟨bK BK174⟩, ⟨bK BK175⟩, ⟨ bH HB⟩⟩
   ·rw [if_neg c37] at H
    have c37b0 : (t180 == 0) = false := beq_eq_false_iff_ne.mpr c37
    have c37b1 : (t180 != 0) = true := bne_iff_ne.mpr c37
    (first | rw [c37b0] | (simp only [i64_w, i32_w]; rw [c37b0]) | skip)
    have H' := Aside0.mk H
    clear H
    go_wp2
    go_meet
    case rel => exact ⟨_, (false), (by first | rfl | (simp; done) | (simp [*]; done)), H', ⟨by first | omega | exact Nat.le_refl _⟩, ⟨bK BK172⟩, ⟨bK BK173⟩, ⟨bK BK174⟩, ⟨bK BK175⟩, ⟨ bH HB⟩⟩
  case rest =>
   clear HC30
   try clear c1
   try clear c2
   try clear p2
   try clear c3
   try clear c11
   try clear c12
   try clear c13
   try clear c15
   try clear c16
   try clear c18
   try clear c22
   try clear c25
   try clear c27
   try clear c37
   try clear c37b0
   try clear c37b1
   try clear c38
   try clear c38b0
   try clear c38b1
   try clear c39
   try clear c39b0
   try clear c39b1
   try clear hcz14_0
   try clear hcz14_1
   try clear hcz14_2
   try clear hcz17_0
   try clear hcz17_1
   try clear hcz17_2
   try clear hcz19_0
   try clear hcz19_1
   try clear hcz19_2
   try clear hcz20_0
   try clear hcz20_1
   try clear hcz20_2
   try clear hfz14_0
   try clear hfz14_1
   try clear hfz14_2
   try clear hfz17_0
   try clear hfz17_1
   try clear hfz17_2
   try clear hfz19_0
   try clear hfz19_1
   try clear hfz19_2
   try clear hfz20_0
   try clear hfz20_1
   try clear hfz20_2
   obtain ⟨kq, x36_29, rfl, HA, HJ29, BK172, BK173, BK174, BK175, HB⟩ := hcut
   cases kq with
   | zero => exact absurd HA.out (by simp [geom_Meet.j0])
   | succ kj29 =>
    have H := HA.out
    clear HA
    simp only [geom_Meet.j0] at H
    by_cases c40 : x36_29 = true
    ·subst c40
     have H1 : ((geom_along.f kj29 a0_0 a0_1 a0_2 a1_0 a1_1 a1_2 a2_0 a2_1 a2_2 a3_0 a3_1 a3_2).bind fun t184 => (some t184)) = some r := by rw [if_pos rfl] at H; exact H
     clear H
     have H := H1
     clear H1
     replace H := Option.bind_eq_some_iff.mp H
     obtain ⟨t184, A410, H⟩ := H
     replace H : (some t184) = some r := H
     have A41 := Aside0.mk A410
     clear A410
     obtain rfl := Option.some.inj H
     have hnb42 := NB172_173.out
     have hnc42 := NB173_172.out
     have hnb43 := NB172_174.out
     have hnc43 := NB174_172.out
     have hnb44 := NB172_175.out
     have hnc44 := NB175_172.out
     have hcz45_0 : wc.cell? ⟨gb172, 0, none⟩ = some (.int .i64 a0_0) := (blk_cell BK172.out 0).trans rfl
     have hcz45_1 : wc.cell? ⟨gb172, 1, none⟩ = some (.int .i64 a0_1) := (blk_cell BK172.out 1).trans rfl
     have hcz45_2 : wc.cell? ⟨gb172, 2, none⟩ = some (.int .i64 a0_2) := (blk_cell BK172.out 2).trans rfl
     have hfz45_0 := blk_frozen BK172.out 0
     have hfz45_1 := blk_frozen BK172.out 1
     have hfz45_2 := blk_frozen BK172.out 2
     have hnb46 := NB173_174.out
     have hnc46 := NB174_173.out
     have hnb47 := NB173_175.out
     have hnc47 := NB175_173.out
     have hcz48_0 : wc.cell? ⟨gb173, 0, none⟩ = some (.int .i64 a1_0) := (blk_cell BK173.out 0).trans rfl
     have hcz48_1 : wc.cell? ⟨gb173, 1, none⟩ = some (.int .i64 a1_1) := (blk_cell BK173.out 1).trans rfl
     have hcz48_2 : wc.cell? ⟨gb173, 2, none⟩ = some (.int .i64 a1_2) := (blk_cell BK173.out 2).trans rfl
     have hfz48_0 := blk_frozen BK173.out 0
     have hfz48_1 := blk_frozen BK173.out 1
     have hfz48_2 := blk_frozen BK173.out 2
     have hnb49 := NB174_175.out
     have hnc49 := NB175_174.out
     have hcz50_0 : wc.cell? ⟨gb174, 0, none⟩ = some (.int .i64 a2_0) := (blk_cell BK174.out 0).trans rfl
     have hcz50_1 : wc.cell? ⟨gb174, 1, none⟩ = some (.int .i64 a2_1) := (blk_cell BK174.out 1).trans rfl
     have hcz50_2 : wc.cell? ⟨gb174, 2, none⟩ = some (.int .i64 a2_2) := (blk_cell BK174.out 2).trans rfl
     have hfz50_0 := blk_frozen BK174.out 0
     have hfz50_1 := blk_frozen BK174.out 1
     have hfz50_2 := blk_frozen BK174.out 2
     have hcz51_0 : wc.cell? ⟨gb175, 0, none⟩ = some (.int .i64 a3_0) := (blk_cell BK175.out 0).trans rfl
     have hcz51_1 : wc.cell? ⟨gb175, 1, none⟩ = some (.int .i64 a3_1) := (blk_cell BK175.out 1).trans rfl
     have hcz51_2 : wc.cell? ⟨gb175, 2, none⟩ = some (.int .i64 a3_2) := (blk_cell BK175.out 2).trans rfl
     have hfz51_0 := blk_frozen BK175.out 0
     have hfz51_1 := blk_frozen BK175.out 1
     have hfz51_2 := blk_frozen BK175.out 2
     go_wp2_with (first | ((with_reducible refine gate_callee (f := 28) rfl ?_); refine goesL_ (some 55) rfl rfl Try.func28 (by kernel_rfl) rfl #[.agg #[.int .i64 a0_0, .int .i64 a0_1, .int .i64 a0_2], .agg #[.int .i64 a1_0, .int .i64 a1_1, .int .i64 a1_2], .agg #[.int .i64 a2_0, .int .i64 a2_1, .int .i64 a2_2], .agg #[.int .i64 a3_0, .int .i64 a3_1, .int .i64 a3_2]] rfl (by (try simp only [List.map_toArray, List.map_cons, List.map_nil]); first | done | rfl | (simp only [List.length_drop, List.length_take]; rfl)) ?_; (with_reducible refine (geom_along.calls kj29 a0_0 a0_1 a0_2 a1_0 a1_1 a1_2 a2_0 a2_1 a2_2 a3_0 a3_1 a3_2 t184 _ A41.out).mono ?_); rintro e w52 ⟨rfl, hb⟩; refine ⟨_, rfl, ?_⟩; have n0_ := Aside0.mk (blk_below (g := gb172) (o := .cells #[.int .i64 a0_0, .int .i64 a0_1, .int .i64 a0_2] 23 (0, 0)) (bK BK172) hb); have n1_ := Aside0.mk (blk_below (g := gb173) (o := .cells #[.int .i64 a1_0, .int .i64 a1_1, .int .i64 a1_2] 23 (0, 0)) (bK BK173) hb); have n2_ := Aside0.mk (blk_below (g := gb174) (o := .cells #[.int .i64 a2_0, .int .i64 a2_1, .int .i64 a2_2] 23 (0, 0)) (bK BK174) hb); have n3_ := Aside0.mk (blk_below (g := gb175) (o := .cells #[.int .i64 a3_0, .int .i64 a3_1, .int .i64 a3_2] 23 (0, 0)) (bK BK175) hb); have n4_ := Aside0.mk (below_step (bH HB) hb); clear BK172; clear BK173; clear BK174; clear BK175; clear HB; have BK172 := n0_; have BK173 := n1_; have BK174 := n2_; have BK175 := n3_; have HB := n4_; clear n0_ n1_ n2_ n3_ n4_; (try clear hb); (try clear hb2); (try clear hk); (try clear hi)))
     go_ret
     exact ⟨by first | rfl | (simp [errW_none, errW_some] <;> rfl) | (simp [*, errW_none, errW_some] <;> rfl), bH HB⟩
    ·replace c40 := Bool.eq_false_iff.mpr c40
     subst c40
     have H1 : (if (wrap64 (t180 * t181)) < 0 then (geom_Meet.j1 kj29 (decide ((wrap64 (t182 * t183)) < 0)) a0_0 a0_1 a0_2 a1_0 a1_1 a1_2 a2_0 a2_1 a2_2 a3_0 a3_1 a3_2) else (geom_Meet.j1 kj29 false a0_0 a0_1 a0_2 a1_0 a1_1 a1_2 a2_0 a2_1 a2_2 a3_0 a3_1 a3_2)) = some r := by rw [if_neg (show ¬ (false = true) by decide)] at H; exact H
     clear H
     have H := H1
     clear H1
     have HC53 := Aside0.mk H
     clear H
     go_upto_region 7 with (fail)
     go_cut [56] (fun v56 wc => ∃ (kq : Nat) (x56_52 : Bool), v56 = .bool x56_52 ∧ Aside0 (geom_Meet.j1 kq x56_52 a0_0 a0_1 a0_2 a1_0 a1_1 a1_2 a2_0 a2_1 a2_2 a3_0 a3_1 a3_2 = some r) ∧ Aside0 (kq ≤ kj29) ∧ Aside0 (wc.heap[gb172]? = some (.cells #[.int .i64 a0_0, .int .i64 a0_1, .int .i64 a0_2] 23 (0, 0))) ∧ Aside0 (wc.heap[gb173]? = some (.cells #[.int .i64 a1_0, .int .i64 a1_1, .int .i64 a1_2] 23 (0, 0))) ∧ Aside0 (wc.heap[gb174]? = some (.cells #[.int .i64 a2_0, .int .i64 a2_1, .int .i64 a2_2] 23 (0, 0))) ∧ Aside0 (wc.heap[gb175]? = some (.cells #[.int .i64 a3_0, .int .i64 a3_1, .int .i64 a3_2] 23 (0, 0))) ∧ Aside0 (Below w.heap.size w wc))
     case first =>
      have H := HC53.out
      clear HC53
      by_cases c54 : (wrap64 (t180 * t181)) < 0
      ·rw [if_pos c54] at H
       have c54b0 : decide ((wrap64 (t180 * t181)) < 0) = true := decide_eq_true c54
       clear c54
       (first | rw [c54b0] | (simp only [i64_w, i32_w]; rw [c54b0]) | skip)
       have H' := Aside0.mk H
       clear H
       go_wp2
       go_meet
       case rel => exact ⟨_, (decide ((wrap64 (t182 * t183)) < 0)), (by first | rfl | (simp; done) | (simp [*]; done)), H', ⟨by have := HJ29.out; first | omega | exact Nat.le_refl _⟩, ⟨bK BK172⟩, ⟨bK BK173⟩, ⟨bK BK174⟩, ⟨bK BK175⟩, ⟨ bH HB⟩⟩
      ·rw [if_neg c54] at H
       have c54b0 : decide ((wrap64 (t180 * t181)) < 0) = false := decide_eq_false c54
       clear c54
       (first | rw [c54b0] | (simp only [i64_w, i32_w]; rw [c54b0]) | skip)
       have H' := Aside0.mk H
       clear H
       go_wp2
       go_meet
       case rel => exact ⟨_, (false), (by first | rfl | (simp; done) | (simp [*]; done)), H', ⟨by have := HJ29.out; first | omega | exact Nat.le_refl _⟩, ⟨bK BK172⟩, ⟨bK BK173⟩, ⟨bK BK174⟩, ⟨bK BK175⟩, ⟨ bH HB⟩⟩
     case rest =>
      clear HC53
      try clear c1
      try clear c2
      try clear p2
      try clear c3
      try clear c4
      try clear c5
      try clear p6
      try clear c11
      try clear c12
      try clear c13
      try clear c15
      try clear c16
      try clear c18
      try clear c22
      try clear c25
      try clear c27
      try clear c28
      try clear c37
      try clear c37b0
      try clear c37b1
      try clear c38
      try clear c38b0
      try clear c38b1
      try clear c39
      try clear c39b0
      try clear c39b1
      try clear c40
      try clear c42
      try clear c43
      try clear c44
      try clear c46
      try clear c47
      try clear c49
      try clear c54
      try clear c54b0
      try clear hcz14_0
      try clear hcz14_1
      try clear hcz14_2
      try clear hcz17_0
      try clear hcz17_1
      try clear hcz17_2
      try clear hcz19_0
      try clear hcz19_1
      try clear hcz19_2
      try clear hcz20_0
      try clear hcz20_1
      try clear hcz20_2
      try clear hcz45_0
      try clear hcz45_1
      try clear hcz45_2
      try clear hcz48_0
      try clear hcz48_1
      try clear hcz48_2
      try clear hcz50_0
      try clear hcz50_1
      try clear hcz50_2
      try clear hcz51_0
      try clear hcz51_1
      try clear hcz51_2
      try clear hfz14_0
      try clear hfz14_1
      try clear hfz14_2
      try clear hfz17_0
      try clear hfz17_1
      try clear hfz17_2
      try clear hfz19_0
      try clear hfz19_1
      try clear hfz19_2
      try clear hfz20_0
      try clear hfz20_1
      try clear hfz20_2
      try clear hfz45_0
      try clear hfz45_1
      try clear hfz45_2
      try clear hfz48_0
      try clear hfz48_1
      try clear hfz48_2
      try clear hfz50_0
      try clear hfz50_1
      try clear hfz50_2
      try clear hfz51_0
      try clear hfz51_1
      try clear hfz51_2
      try clear p2
      obtain ⟨kq, x56_52, rfl, HA, HJ52, BK172, BK173, BK174, BK175, HB⟩ := hcut
      cases kq with
      | zero => exact absurd HA.out (by simp [geom_Meet.j1])
      | succ kj52 =>
       have H := HA.out
       clear HA
       simp only [geom_Meet.j1] at H
       by_cases c55 : x56_52 = true
       ·subst c55
        have H1 : (some 2) = some r := by rw [if_pos rfl] at H; exact H
        clear H
        have H := H1
        clear H1
        obtain rfl := Option.some.inj H
        go_wp2
        go_ret
        exact ⟨by first | rfl | (simp [errW_none, errW_some] <;> rfl) | (simp [*, errW_none, errW_some] <;> rfl), bH HB⟩
       ·replace c55 := Bool.eq_false_iff.mpr c55
        subst c55
        have H1 : ((geom_On.f kj52 a0_0 a0_1 a0_2 a2_0 a2_1 a2_2 a3_0 a3_1 a3_2).bind fun t185 => (if t185 = true then (some 1) else ((geom_On.f kj52 a1_0 a1_1 a1_2 a2_0 a2_1 a2_2 a3_0 a3_1 a3_2).bind fun t186 => (if t186 = true then (some 1) else ((geom_On.f kj52 a2_0 a2_1 a2_2 a0_0 a0_1 a0_2 a1_0 a1_1 a1_2).bind fun t187 => (if t187 = true then (some 1) else ((geom_On.f kj52 a3_0 a3_1 a3_2 a0_0 a0_1 a0_2 a1_0 a1_1 a1_2).bind fun t188 => (if t188 = true then (some 1) else (some 0))))))))) = some r := by rw [if_neg (show ¬ (false = true) by decide)] at H; exact H
        clear H
        have H := H1
        clear H1
        replace H := Option.bind_eq_some_iff.mp H
        obtain ⟨t185, A560, H⟩ := H
        replace H : (if t185 = true then (some 1) else ((geom_On.f kj52 a1_0 a1_1 a1_2 a2_0 a2_1 a2_2 a3_0 a3_1 a3_2).bind fun t186 => (if t186 = true then (some 1) else ((geom_On.f kj52 a2_0 a2_1 a2_2 a0_0 a0_1 a0_2 a1_0 a1_1 a1_2).bind fun t187 => (if t187 = true then (some 1) else ((geom_On.f kj52 a3_0 a3_1 a3_2 a0_0 a0_1 a0_2 a1_0 a1_1 a1_2).bind fun t188 => (if t188 = true then (some 1) else (some 0)))))))) = some r := H
        have A56 := Aside0.mk A560
        clear A560
        by_cases c57 : t185 = true
        ·subst c57
         have H1 : (some 1) = some r := by rw [if_pos rfl] at H; exact H
         clear H
         have H := H1
         clear H1
         obtain rfl := Option.some.inj H
         have hnb58 := NB172_173.out
         have hnc58 := NB173_172.out
         have hnb59 := NB172_174.out
         have hnc59 := NB174_172.out
         have hnb60 := NB172_175.out
         have hnc60 := NB175_172.out
         have hcz61_0 : wc.cell? ⟨gb172, 0, none⟩ = some (.int .i64 a0_0) := (blk_cell BK172.out 0).trans rfl
         have hcz61_1 : wc.cell? ⟨gb172, 1, none⟩ = some (.int .i64 a0_1) := (blk_cell BK172.out 1).trans rfl
         have hcz61_2 : wc.cell? ⟨gb172, 2, none⟩ = some (.int .i64 a0_2) := (blk_cell BK172.out 2).trans rfl
         have hfz61_0 := blk_frozen BK172.out 0
         have hfz61_1 := blk_frozen BK172.out 1
         have hfz61_2 := blk_frozen BK172.out 2
         have hnb62 := NB174_173.out
         have hnc62 := NB173_174.out
         have hnb63 := NB174_175.out
         have hnc63 := NB175_174.out
         have hcz64_0 : wc.cell? ⟨gb174, 0, none⟩ = some (.int .i64 a2_0) := (blk_cell BK174.out 0).trans rfl
         have hcz64_1 : wc.cell? ⟨gb174, 1, none⟩ = some (.int .i64 a2_1) := (blk_cell BK174.out 1).trans rfl
         have hcz64_2 : wc.cell? ⟨gb174, 2, none⟩ = some (.int .i64 a2_2) := (blk_cell BK174.out 2).trans rfl
         have hfz64_0 := blk_frozen BK174.out 0
         have hfz64_1 := blk_frozen BK174.out 1
         have hfz64_2 := blk_frozen BK174.out 2
         have hnb65 := NB175_173.out
         have hnc65 := NB173_175.out
         have hcz66_0 : wc.cell? ⟨gb175, 0, none⟩ = some (.int .i64 a3_0) := (blk_cell BK175.out 0).trans rfl
         have hcz66_1 : wc.cell? ⟨gb175, 1, none⟩ = some (.int .i64 a3_1) := (blk_cell BK175.out 1).trans rfl
         have hcz66_2 : wc.cell? ⟨gb175, 2, none⟩ = some (.int .i64 a3_2) := (blk_cell BK175.out 2).trans rfl
         have hfz66_0 := blk_frozen BK175.out 0
         have hfz66_1 := blk_frozen BK175.out 1
         have hfz66_2 := blk_frozen BK175.out 2
         go_wp2_with (first | ((with_reducible refine gate_callee (f := 14) rfl ?_); refine goesL_ (some 71) rfl rfl Try.func14 (by kernel_rfl) rfl #[.agg #[.int .i64 a0_0, .int .i64 a0_1, .int .i64 a0_2], .agg #[.int .i64 a2_0, .int .i64 a2_1, .int .i64 a2_2], .agg #[.int .i64 a3_0, .int .i64 a3_1, .int .i64 a3_2]] rfl (by (try simp only [List.map_toArray, List.map_cons, List.map_nil]); first | done | rfl | (simp only [List.length_drop, List.length_take]; rfl)) ?_; (with_reducible refine (geom_On.calls kj52 a0_0 a0_1 a0_2 a2_0 a2_1 a2_2 a3_0 a3_1 a3_2 true _ A56.out).mono ?_); rintro e w67 ⟨rfl, hb⟩; refine ⟨_, rfl, ?_⟩; have n0_ := Aside0.mk (blk_below (g := gb172) (o := .cells #[.int .i64 a0_0, .int .i64 a0_1, .int .i64 a0_2] 23 (0, 0)) (bK BK172) hb); have n1_ := Aside0.mk (blk_below (g := gb173) (o := .cells #[.int .i64 a1_0, .int .i64 a1_1, .int .i64 a1_2] 23 (0, 0)) (bK BK173) hb); have n2_ := Aside0.mk (blk_below (g := gb174) (o := .cells #[.int .i64 a2_0, .int .i64 a2_1, .int .i64 a2_2] 23 (0, 0)) (bK BK174) hb); have n3_ := Aside0.mk (blk_below (g := gb175) (o := .cells #[.int .i64 a3_0, .int .i64 a3_1, .int .i64 a3_2] 23 (0, 0)) (bK BK175) hb); have n4_ := Aside0.mk (below_step (bH HB) hb); clear BK172; clear BK173; clear BK174; clear BK175; clear HB; have BK172 := n0_; have BK173 := n1_; have BK174 := n2_; have BK175 := n3_; have HB := n4_; clear n0_ n1_ n2_ n3_ n4_; (try clear hb); (try clear hb2); (try clear hk); (try clear hi)))
         go_ret
         exact ⟨by first | rfl | (simp [errW_none, errW_some] <;> rfl) | (simp [*, errW_none, errW_some] <;> rfl), bH HB⟩
        ·replace c57 := Bool.eq_false_iff.mpr c57
         subst c57
         have H1 : ((geom_On.f kj52 a1_0 a1_1 a1_2 a2_0 a2_1 a2_2 a3_0 a3_1 a3_2).bind fun t186 => (if t186 = true then (some 1) else ((geom_On.f kj52 a2_0 a2_1 a2_2 a0_0 a0_1 a0_2 a1_0 a1_1 a1_2).bind fun t187 => (if t187 = true then (some 1) else ((geom_On.f kj52 a3_0 a3_1 a3_2 a0_0 a0_1 a0_2 a1_0 a1_1 a1_2).bind fun t188 => (if t188 = true then (some 1) else (some 0))))))) = some r := by rw [if_neg (show ¬ (false = true) by decide)] at H; exact H
         clear H
         have H := H1
         clear H1
         replace H := Option.bind_eq_some_iff.mp H
         obtain ⟨t186, A680, H⟩ := H
         replace H : (if t186 = true then (some 1) else ((geom_On.f kj52 a2_0 a2_1 a2_2 a0_0 a0_1 a0_2 a1_0 a1_1 a1_2).bind fun t187 => (if t187 = true then (some 1) else ((geom_On.f kj52 a3_0 a3_1 a3_2 a0_0 a0_1 a0_2 a1_0 a1_1 a1_2).bind fun t188 => (if t188 = true then (some 1) else (some 0)))))) = some r := H
         have A68 := Aside0.mk A680
         clear A680
         by_cases c69 : t186 = true
         ·subst c69
          have H1 : (some 1) = some r := by rw [if_pos rfl] at H; exact H
          clear H
          have H := H1
          clear H1
          obtain rfl := Option.some.inj H
          have hnb70 := NB172_173.out
          have hnc70 := NB173_172.out
          have hnb71 := NB172_174.out
          have hnc71 := NB174_172.out
          have hnb72 := NB172_175.out
          have hnc72 := NB175_172.out
          have hcz73_0 : wc.cell? ⟨gb172, 0, none⟩ = some (.int .i64 a0_0) := (blk_cell BK172.out 0).trans rfl
          have hcz73_1 : wc.cell? ⟨gb172, 1, none⟩ = some (.int .i64 a0_1) := (blk_cell BK172.out 1).trans rfl
          have hcz73_2 : wc.cell? ⟨gb172, 2, none⟩ = some (.int .i64 a0_2) := (blk_cell BK172.out 2).trans rfl
          have hfz73_0 := blk_frozen BK172.out 0
          have hfz73_1 := blk_frozen BK172.out 1
          have hfz73_2 := blk_frozen BK172.out 2
          have hnb74 := NB174_173.out
          have hnc74 := NB173_174.out
          have hnb75 := NB174_175.out
          have hnc75 := NB175_174.out
          have hcz76_0 : wc.cell? ⟨gb174, 0, none⟩ = some (.int .i64 a2_0) := (blk_cell BK174.out 0).trans rfl
          have hcz76_1 : wc.cell? ⟨gb174, 1, none⟩ = some (.int .i64 a2_1) := (blk_cell BK174.out 1).trans rfl
          have hcz76_2 : wc.cell? ⟨gb174, 2, none⟩ = some (.int .i64 a2_2) := (blk_cell BK174.out 2).trans rfl
          have hfz76_0 := blk_frozen BK174.out 0
          have hfz76_1 := blk_frozen BK174.out 1
          have hfz76_2 := blk_frozen BK174.out 2
          have hnb77 := NB175_173.out
          have hnc77 := NB173_175.out
          have hcz78_0 : wc.cell? ⟨gb175, 0, none⟩ = some (.int .i64 a3_0) := (blk_cell BK175.out 0).trans rfl
          have hcz78_1 : wc.cell? ⟨gb175, 1, none⟩ = some (.int .i64 a3_1) := (blk_cell BK175.out 1).trans rfl
          have hcz78_2 : wc.cell? ⟨gb175, 2, none⟩ = some (.int .i64 a3_2) := (blk_cell BK175.out 2).trans rfl
          have hfz78_0 := blk_frozen BK175.out 0
          have hfz78_1 := blk_frozen BK175.out 1
          have hfz78_2 := blk_frozen BK175.out 2
          go_wp2_with (first | ((with_reducible refine gate_callee (f := 14) rfl ?_); refine goesL_ (some 71) rfl rfl Try.func14 (by kernel_rfl) rfl #[.agg #[.int .i64 a0_0, .int .i64 a0_1, .int .i64 a0_2], .agg #[.int .i64 a2_0, .int .i64 a2_1, .int .i64 a2_2], .agg #[.int .i64 a3_0, .int .i64 a3_1, .int .i64 a3_2]] rfl (by (try simp only [List.map_toArray, List.map_cons, List.map_nil]); first | done | rfl | (simp only [List.length_drop, List.length_take]; rfl)) ?_; (with_reducible refine (geom_On.calls kj52 a0_0 a0_1 a0_2 a2_0 a2_1 a2_2 a3_0 a3_1 a3_2 false _ A56.out).mono ?_); rintro e w79 ⟨rfl, hb⟩; refine ⟨_, rfl, ?_⟩; have n0_ := Aside0.mk (blk_below (g := gb172) (o := .cells #[.int .i64 a0_0, .int .i64 a0_1, .int .i64 a0_2] 23 (0, 0)) (bK BK172) hb); have n1_ := Aside0.mk (blk_below (g := gb173) (o := .cells #[.int .i64 a1_0, .int .i64 a1_1, .int .i64 a1_2] 23 (0, 0)) (bK BK173) hb); have n2_ := Aside0.mk (blk_below (g := gb174) (o := .cells #[.int .i64 a2_0, .int .i64 a2_1, .int .i64 a2_2] 23 (0, 0)) (bK BK174) hb); have n3_ := Aside0.mk (blk_below (g := gb175) (o := .cells #[.int .i64 a3_0, .int .i64 a3_1, .int .i64 a3_2] 23 (0, 0)) (bK BK175) hb); have n4_ := Aside0.mk (below_step (bH HB) hb); clear BK172; clear BK173; clear BK174; clear BK175; clear HB; have BK172 := n0_; have BK173 := n1_; have BK174 := n2_; have BK175 := n3_; have HB := n4_; clear n0_ n1_ n2_ n3_ n4_; (try clear hb); (try clear hb2); (try clear hk); (try clear hi); have hcz80_0 : w79.cell? ⟨gb173, 0, none⟩ = some (.int .i64 a1_0) := (blk_cell BK173.out 0).trans rfl; have hcz80_1 : w79.cell? ⟨gb173, 1, none⟩ = some (.int .i64 a1_1) := (blk_cell BK173.out 1).trans rfl; have hcz80_2 : w79.cell? ⟨gb173, 2, none⟩ = some (.int .i64 a1_2) := (blk_cell BK173.out 2).trans rfl; have hfz80_0 := blk_frozen BK173.out 0; have hfz80_1 := blk_frozen BK173.out 1; have hfz80_2 := blk_frozen BK173.out 2; have hcz81_0 : w79.cell? ⟨gb174, 0, none⟩ = some (.int .i64 a2_0) := (blk_cell BK174.out 0).trans rfl; have hcz81_1 : w79.cell? ⟨gb174, 1, none⟩ = some (.int .i64 a2_1) := (blk_cell BK174.out 1).trans rfl; have hcz81_2 : w79.cell? ⟨gb174, 2, none⟩ = some (.int .i64 a2_2) := (blk_cell BK174.out 2).trans rfl; have hfz81_0 := blk_frozen BK174.out 0; have hfz81_1 := blk_frozen BK174.out 1; have hfz81_2 := blk_frozen BK174.out 2; have hcz82_0 : w79.cell? ⟨gb175, 0, none⟩ = some (.int .i64 a3_0) := (blk_cell BK175.out 0).trans rfl; have hcz82_1 : w79.cell? ⟨gb175, 1, none⟩ = some (.int .i64 a3_1) := (blk_cell BK175.out 1).trans rfl; have hcz82_2 : w79.cell? ⟨gb175, 2, none⟩ = some (.int .i64 a3_2) := (blk_cell BK175.out 2).trans rfl; have hfz82_0 := blk_frozen BK175.out 0; have hfz82_1 := blk_frozen BK175.out 1; have hfz82_2 := blk_frozen BK175.out 2) | (go_at_call 14; (with_reducible refine (geom_On.calls kj52 a1_0 a1_1 a1_2 a2_0 a2_1 a2_2 a3_0 a3_1 a3_2 true _ A68.out).mono ?_); rintro e w83 ⟨rfl, hb⟩; have n0_ := Aside0.mk (blk_below (g := gb172) (o := .cells #[.int .i64 a0_0, .int .i64 a0_1, .int .i64 a0_2] 23 (0, 0)) (bK BK172) hb); have n1_ := Aside0.mk (blk_below (g := gb173) (o := .cells #[.int .i64 a1_0, .int .i64 a1_1, .int .i64 a1_2] 23 (0, 0)) (bK BK173) hb); have n2_ := Aside0.mk (blk_below (g := gb174) (o := .cells #[.int .i64 a2_0, .int .i64 a2_1, .int .i64 a2_2] 23 (0, 0)) (bK BK174) hb); have n3_ := Aside0.mk (blk_below (g := gb175) (o := .cells #[.int .i64 a3_0, .int .i64 a3_1, .int .i64 a3_2] 23 (0, 0)) (bK BK175) hb); have n4_ := Aside0.mk (below_step (bH HB) hb); clear BK172; clear BK173; clear BK174; clear BK175; clear HB; have BK172 := n0_; have BK173 := n1_; have BK174 := n2_; have BK175 := n3_; have HB := n4_; clear n0_ n1_ n2_ n3_ n4_; (try clear hb); (try clear hb2); (try clear hk); (try clear hi)))
          go_ret
          exact ⟨by first | rfl | (simp [errW_none, errW_some] <;> rfl) | (simp [*, errW_none, errW_some] <;> rfl), bH HB⟩
         ·replace c69 := Bool.eq_false_iff.mpr c69
          subst c69
          have H1 : ((geom_On.f kj52 a2_0 a2_1 a2_2 a0_0 a0_1 a0_2 a1_0 a1_1 a1_2).bind fun t187 => (if t187 = true then (some 1) else ((geom_On.f kj52 a3_0 a3_1 a3_2 a0_0 a0_1 a0_2 a1_0 a1_1 a1_2).bind fun t188 => (if t188 = true then (some 1) else (some 0))))) = some r := by rw [if_neg (show ¬ (false = true) by decide)] at H; exact H
          clear H
          have H := H1
          clear H1
          replace H := Option.bind_eq_some_iff.mp H
          obtain ⟨t187, A840, H⟩ := H
          replace H : (if t187 = true then (some 1) else ((geom_On.f kj52 a3_0 a3_1 a3_2 a0_0 a0_1 a0_2 a1_0 a1_1 a1_2).bind fun t188 => (if t188 = true then (some 1) else (some 0)))) = some r := H
          have A84 := Aside0.mk A840
          clear A840
          by_cases c85 : t187 = true
          ·subst c85
           have H1 : (some 1) = some r := by rw [if_pos rfl] at H; exact H
           clear H
           have H := H1
           clear H1
           obtain rfl := Option.some.inj H
           have hnb86 := NB172_173.out
           have hnc86 := NB173_172.out
           have hnb87 := NB172_174.out
           have hnc87 := NB174_172.out
           have hnb88 := NB172_175.out
           have hnc88 := NB175_172.out
           have hcz89_0 : wc.cell? ⟨gb172, 0, none⟩ = some (.int .i64 a0_0) := (blk_cell BK172.out 0).trans rfl
           have hcz89_1 : wc.cell? ⟨gb172, 1, none⟩ = some (.int .i64 a0_1) := (blk_cell BK172.out 1).trans rfl
           have hcz89_2 : wc.cell? ⟨gb172, 2, none⟩ = some (.int .i64 a0_2) := (blk_cell BK172.out 2).trans rfl
           have hfz89_0 := blk_frozen BK172.out 0
           have hfz89_1 := blk_frozen BK172.out 1
           have hfz89_2 := blk_frozen BK172.out 2
           have hnb90 := NB174_173.out
           have hnc90 := NB173_174.out
           have hnb91 := NB174_175.out
           have hnc91 := NB175_174.out
           have hcz92_0 : wc.cell? ⟨gb174, 0, none⟩ = some (.int .i64 a2_0) := (blk_cell BK174.out 0).trans rfl
           have hcz92_1 : wc.cell? ⟨gb174, 1, none⟩ = some (.int .i64 a2_1) := (blk_cell BK174.out 1).trans rfl
           have hcz92_2 : wc.cell? ⟨gb174, 2, none⟩ = some (.int .i64 a2_2) := (blk_cell BK174.out 2).trans rfl
           have hfz92_0 := blk_frozen BK174.out 0
           have hfz92_1 := blk_frozen BK174.out 1
           have hfz92_2 := blk_frozen BK174.out 2
           have hnb93 := NB175_173.out
           have hnc93 := NB173_175.out
           have hcz94_0 : wc.cell? ⟨gb175, 0, none⟩ = some (.int .i64 a3_0) := (blk_cell BK175.out 0).trans rfl
           have hcz94_1 : wc.cell? ⟨gb175, 1, none⟩ = some (.int .i64 a3_1) := (blk_cell BK175.out 1).trans rfl
           have hcz94_2 : wc.cell? ⟨gb175, 2, none⟩ = some (.int .i64 a3_2) := (blk_cell BK175.out 2).trans rfl
           have hfz94_0 := blk_frozen BK175.out 0
           have hfz94_1 := blk_frozen BK175.out 1
           have hfz94_2 := blk_frozen BK175.out 2
           go_wp2_with (first | ((with_reducible refine gate_callee (f := 14) rfl ?_); refine goesL_ (some 71) rfl rfl Try.func14 (by kernel_rfl) rfl #[.agg #[.int .i64 a0_0, .int .i64 a0_1, .int .i64 a0_2], .agg #[.int .i64 a2_0, .int .i64 a2_1, .int .i64 a2_2], .agg #[.int .i64 a3_0, .int .i64 a3_1, .int .i64 a3_2]] rfl (by (try simp only [List.map_toArray, List.map_cons, List.map_nil]); first | done | rfl | (simp only [List.length_drop, List.length_take]; rfl)) ?_; (with_reducible refine (geom_On.calls kj52 a0_0 a0_1 a0_2 a2_0 a2_1 a2_2 a3_0 a3_1 a3_2 false _ A56.out).mono ?_); rintro e w95 ⟨rfl, hb⟩; refine ⟨_, rfl, ?_⟩; have n0_ := Aside0.mk (blk_below (g := gb172) (o := .cells #[.int .i64 a0_0, .int .i64 a0_1, .int .i64 a0_2] 23 (0, 0)) (bK BK172) hb); have n1_ := Aside0.mk (blk_below (g := gb173) (o := .cells #[.int .i64 a1_0, .int .i64 a1_1, .int .i64 a1_2] 23 (0, 0)) (bK BK173) hb); have n2_ := Aside0.mk (blk_below (g := gb174) (o := .cells #[.int .i64 a2_0, .int .i64 a2_1, .int .i64 a2_2] 23 (0, 0)) (bK BK174) hb); have n3_ := Aside0.mk (blk_below (g := gb175) (o := .cells #[.int .i64 a3_0, .int .i64 a3_1, .int .i64 a3_2] 23 (0, 0)) (bK BK175) hb); have n4_ := Aside0.mk (below_step (bH HB) hb); clear BK172; clear BK173; clear BK174; clear BK175; clear HB; have BK172 := n0_; have BK173 := n1_; have BK174 := n2_; have BK175 := n3_; have HB := n4_; clear n0_ n1_ n2_ n3_ n4_; (try clear hb); (try clear hb2); (try clear hk); (try clear hi); have hcz96_0 : w95.cell? ⟨gb173, 0, none⟩ = some (.int .i64 a1_0) := (blk_cell BK173.out 0).trans rfl; have hcz96_1 : w95.cell? ⟨gb173, 1, none⟩ = some (.int .i64 a1_1) := (blk_cell BK173.out 1).trans rfl; have hcz96_2 : w95.cell? ⟨gb173, 2, none⟩ = some (.int .i64 a1_2) := (blk_cell BK173.out 2).trans rfl; have hfz96_0 := blk_frozen BK173.out 0; have hfz96_1 := blk_frozen BK173.out 1; have hfz96_2 := blk_frozen BK173.out 2; have hcz97_0 : w95.cell? ⟨gb174, 0, none⟩ = some (.int .i64 a2_0) := (blk_cell BK174.out 0).trans rfl; have hcz97_1 : w95.cell? ⟨gb174, 1, none⟩ = some (.int .i64 a2_1) := (blk_cell BK174.out 1).trans rfl; have hcz97_2 : w95.cell? ⟨gb174, 2, none⟩ = some (.int .i64 a2_2) := (blk_cell BK174.out 2).trans rfl; have hfz97_0 := blk_frozen BK174.out 0; have hfz97_1 := blk_frozen BK174.out 1; have hfz97_2 := blk_frozen BK174.out 2; have hcz98_0 : w95.cell? ⟨gb175, 0, none⟩ = some (.int .i64 a3_0) := (blk_cell BK175.out 0).trans rfl; have hcz98_1 : w95.cell? ⟨gb175, 1, none⟩ = some (.int .i64 a3_1) := (blk_cell BK175.out 1).trans rfl; have hcz98_2 : w95.cell? ⟨gb175, 2, none⟩ = some (.int .i64 a3_2) := (blk_cell BK175.out 2).trans rfl; have hfz98_0 := blk_frozen BK175.out 0; have hfz98_1 := blk_frozen BK175.out 1; have hfz98_2 := blk_frozen BK175.out 2) | (go_at_call 14; (with_reducible refine (geom_On.calls kj52 a1_0 a1_1 a1_2 a2_0 a2_1 a2_2 a3_0 a3_1 a3_2 false _ A68.out).mono ?_); rintro e w99 ⟨rfl, hb⟩; have n0_ := Aside0.mk (blk_below (g := gb172) (o := .cells #[.int .i64 a0_0, .int .i64 a0_1, .int .i64 a0_2] 23 (0, 0)) (bK BK172) hb); have n1_ := Aside0.mk (blk_below (g := gb173) (o := .cells #[.int .i64 a1_0, .int .i64 a1_1, .int .i64 a1_2] 23 (0, 0)) (bK BK173) hb); have n2_ := Aside0.mk (blk_below (g := gb174) (o := .cells #[.int .i64 a2_0, .int .i64 a2_1, .int .i64 a2_2] 23 (0, 0)) (bK BK174) hb); have n3_ := Aside0.mk (blk_below (g := gb175) (o := .cells #[.int .i64 a3_0, .int .i64 a3_1, .int .i64 a3_2] 23 (0, 0)) (bK BK175) hb); have n4_ := Aside0.mk (below_step (bH HB) hb); clear BK172; clear BK173; clear BK174; clear BK175; clear HB; have BK172 := n0_; have BK173 := n1_; have BK174 := n2_; have BK175 := n3_; have HB := n4_; clear n0_ n1_ n2_ n3_ n4_; (try clear hb); (try clear hb2); (try clear hk); (try clear hi); have hcz100_0 : w99.cell? ⟨gb174, 0, none⟩ = some (.int .i64 a2_0) := (blk_cell BK174.out 0).trans rfl; have hcz100_1 : w99.cell? ⟨gb174, 1, none⟩ = some (.int .i64 a2_1) := (blk_cell BK174.out 1).trans rfl; have hcz100_2 : w99.cell? ⟨gb174, 2, none⟩ = some (.int .i64 a2_2) := (blk_cell BK174.out 2).trans rfl; have hfz100_0 := blk_frozen BK174.out 0; have hfz100_1 := blk_frozen BK174.out 1; have hfz100_2 := blk_frozen BK174.out 2; have hcz101_0 : w99.cell? ⟨gb172, 0, none⟩ = some (.int .i64 a0_0) := (blk_cell BK172.out 0).trans rfl; have hcz101_1 : w99.cell? ⟨gb172, 1, none⟩ = some (.int .i64 a0_1) := (blk_cell BK172.out 1).trans rfl; have hcz101_2 : w99.cell? ⟨gb172, 2, none⟩ = some (.int .i64 a0_2) := (blk_cell BK172.out 2).trans rfl; have hfz101_0 := blk_frozen BK172.out 0; have hfz101_1 := blk_frozen BK172.out 1; have hfz101_2 := blk_frozen BK172.out 2; have hcz102_0 : w99.cell? ⟨gb173, 0, none⟩ = some (.int .i64 a1_0) := (blk_cell BK173.out 0).trans rfl; have hcz102_1 : w99.cell? ⟨gb173, 1, none⟩ = some (.int .i64 a1_1) := (blk_cell BK173.out 1).trans rfl; have hcz102_2 : w99.cell? ⟨gb173, 2, none⟩ = some (.int .i64 a1_2) := (blk_cell BK173.out 2).trans rfl; have hfz102_0 := blk_frozen BK173.out 0; have hfz102_1 := blk_frozen BK173.out 1; have hfz102_2 := blk_frozen BK173.out 2) | (go_at_call 14; (with_reducible refine (geom_On.calls kj52 a2_0 a2_1 a2_2 a0_0 a0_1 a0_2 a1_0 a1_1 a1_2 true _ A84.out).mono ?_); rintro e w103 ⟨rfl, hb⟩; have n0_ := Aside0.mk (blk_below (g := gb172) (o := .cells #[.int .i64 a0_0, .int .i64 a0_1, .int .i64 a0_2] 23 (0, 0)) (bK BK172) hb); have n1_ := Aside0.mk (blk_below (g := gb173) (o := .cells #[.int .i64 a1_0, .int .i64 a1_1, .int .i64 a1_2] 23 (0, 0)) (bK BK173) hb); have n2_ := Aside0.mk (blk_below (g := gb174) (o := .cells #[.int .i64 a2_0, .int .i64 a2_1, .int .i64 a2_2] 23 (0, 0)) (bK BK174) hb); have n3_ := Aside0.mk (blk_below (g := gb175) (o := .cells #[.int .i64 a3_0, .int .i64 a3_1, .int .i64 a3_2] 23 (0, 0)) (bK BK175) hb); have n4_ := Aside0.mk (below_step (bH HB) hb); clear BK172; clear BK173; clear BK174; clear BK175; clear HB; have BK172 := n0_; have BK173 := n1_; have BK174 := n2_; have BK175 := n3_; have HB := n4_; clear n0_ n1_ n2_ n3_ n4_; (try clear hb); (try clear hb2); (try clear hk); (try clear hi)))
           go_ret
           exact ⟨by first | rfl | (simp [errW_none, errW_some] <;> rfl) | (simp [*, errW_none, errW_some] <;> rfl), bH HB⟩
          ·replace c85 := Bool.eq_false_iff.mpr c85
           subst c85
           have H1 : ((geom_On.f kj52 a3_0 a3_1 a3_2 a0_0 a0_1 a0_2 a1_0 a1_1 a1_2).bind fun t188 => (if t188 = true then (some 1) else (some 0))) = some r := by rw [if_neg (show ¬ (false = true) by decide)] at H; exact H
           clear H
           have H := H1
           clear H1
           replace H := Option.bind_eq_some_iff.mp H
           obtain ⟨t188, A1040, H⟩ := H
           replace H : (if t188 = true then (some 1) else (some 0)) = some r := H
           have A104 := Aside0.mk A1040
           clear A1040
           have HC105 := Aside0.mk H
           clear H
           have hnb106 := NB172_173.out
           have hnc106 := NB173_172.out
           have hnb107 := NB172_174.out
           have hnc107 := NB174_172.out
           have hnb108 := NB172_175.out
           have hnc108 := NB175_172.out
           have hcz109_0 : wc.cell? ⟨gb172, 0, none⟩ = some (.int .i64 a0_0) := (blk_cell BK172.out 0).trans rfl
           have hcz109_1 : wc.cell? ⟨gb172, 1, none⟩ = some (.int .i64 a0_1) := (blk_cell BK172.out 1).trans rfl
           have hcz109_2 : wc.cell? ⟨gb172, 2, none⟩ = some (.int .i64 a0_2) := (blk_cell BK172.out 2).trans rfl
           have hfz109_0 := blk_frozen BK172.out 0
           have hfz109_1 := blk_frozen BK172.out 1
           have hfz109_2 := blk_frozen BK172.out 2
           have hnb110 := NB174_173.out
           have hnc110 := NB173_174.out
           have hnb111 := NB174_175.out
           have hnc111 := NB175_174.out
           have hcz112_0 : wc.cell? ⟨gb174, 0, none⟩ = some (.int .i64 a2_0) := (blk_cell BK174.out 0).trans rfl
           have hcz112_1 : wc.cell? ⟨gb174, 1, none⟩ = some (.int .i64 a2_1) := (blk_cell BK174.out 1).trans rfl
           have hcz112_2 : wc.cell? ⟨gb174, 2, none⟩ = some (.int .i64 a2_2) := (blk_cell BK174.out 2).trans rfl
           have hfz112_0 := blk_frozen BK174.out 0
           have hfz112_1 := blk_frozen BK174.out 1
           have hfz112_2 := blk_frozen BK174.out 2
           have hnb113 := NB175_173.out
           have hnc113 := NB173_175.out
           have hcz114_0 : wc.cell? ⟨gb175, 0, none⟩ = some (.int .i64 a3_0) := (blk_cell BK175.out 0).trans rfl
           have hcz114_1 : wc.cell? ⟨gb175, 1, none⟩ = some (.int .i64 a3_1) := (blk_cell BK175.out 1).trans rfl
           have hcz114_2 : wc.cell? ⟨gb175, 2, none⟩ = some (.int .i64 a3_2) := (blk_cell BK175.out 2).trans rfl
           have hfz114_0 := blk_frozen BK175.out 0
           have hfz114_1 := blk_frozen BK175.out 1
           have hfz114_2 := blk_frozen BK175.out 2
           go_upto_if 67 with (first | ((with_reducible refine gate_callee (f := 14) rfl ?_); refine goesL_ (some 71) rfl rfl Try.func14 (by kernel_rfl) rfl #[.agg #[.int .i64 a0_0, .int .i64 a0_1, .int .i64 a0_2], .agg #[.int .i64 a2_0, .int .i64 a2_1, .int .i64 a2_2], .agg #[.int .i64 a3_0, .int .i64 a3_1, .int .i64 a3_2]] rfl (by (try simp only [List.map_toArray, List.map_cons, List.map_nil]); first | done | rfl | (simp only [List.length_drop, List.length_take]; rfl)) ?_; (with_reducible refine (geom_On.calls kj52 a0_0 a0_1 a0_2 a2_0 a2_1 a2_2 a3_0 a3_1 a3_2 false _ A56.out).mono ?_); rintro e w115 ⟨rfl, hb⟩; refine ⟨_, rfl, ?_⟩; have n0_ := Aside0.mk (blk_below (g := gb172) (o := .cells #[.int .i64 a0_0, .int .i64 a0_1, .int .i64 a0_2] 23 (0, 0)) (bK BK172) hb); have n1_ := Aside0.mk (blk_below (g := gb173) (o := .cells #[.int .i64 a1_0, .int .i64 a1_1, .int .i64 a1_2] 23 (0, 0)) (bK BK173) hb); have n2_ := Aside0.mk (blk_below (g := gb174) (o := .cells #[.int .i64 a2_0, .int .i64 a2_1, .int .i64 a2_2] 23 (0, 0)) (bK BK174) hb); have n3_ := Aside0.mk (blk_below (g := gb175) (o := .cells #[.int .i64 a3_0, .int .i64 a3_1, .int .i64 a3_2] 23 (0, 0)) (bK BK175) hb); have n4_ := Aside0.mk (below_step (bH HB) hb); clear BK172; clear BK173; clear BK174; clear BK175; clear HB; have BK172 := n0_; have BK173 := n1_; have BK174 := n2_; have BK175 := n3_; have HB := n4_; clear n0_ n1_ n2_ n3_ n4_; (try clear hb); (try clear hb2); (try clear hk); (try clear hi); have hcz116_0 : w115.cell? ⟨gb173, 0, none⟩ = some (.int .i64 a1_0) := (blk_cell BK173.out 0).trans rfl; have hcz116_1 : w115.cell? ⟨gb173, 1, none⟩ = some (.int .i64 a1_1) := (blk_cell BK173.out 1).trans rfl; have hcz116_2 : w115.cell? ⟨gb173, 2, none⟩ = some (.int .i64 a1_2) := (blk_cell BK173.out 2).trans rfl; have hfz116_0 := blk_frozen BK173.out 0; have hfz116_1 := blk_frozen BK173.out 1; have hfz116_2 := blk_frozen BK173.out 2; have hcz117_0 : w115.cell? ⟨gb174, 0, none⟩ = some (.int .i64 a2_0) := (blk_cell BK174.out 0).trans rfl; have hcz117_1 : w115.cell? ⟨gb174, 1, none⟩ = some (.int .i64 a2_1) := (blk_cell BK174.out 1).trans rfl; have hcz117_2 : w115.cell? ⟨gb174, 2, none⟩ = some (.int .i64 a2_2) := (blk_cell BK174.out 2).trans rfl; have hfz117_0 := blk_frozen BK174.out 0; have hfz117_1 := blk_frozen BK174.out 1; have hfz117_2 := blk_frozen BK174.out 2; have hcz118_0 : w115.cell? ⟨gb175, 0, none⟩ = some (.int .i64 a3_0) := (blk_cell BK175.out 0).trans rfl; have hcz118_1 : w115.cell? ⟨gb175, 1, none⟩ = some (.int .i64 a3_1) := (blk_cell BK175.out 1).trans rfl; have hcz118_2 : w115.cell? ⟨gb175, 2, none⟩ = some (.int .i64 a3_2) := (blk_cell BK175.out 2).trans rfl; have hfz118_0 := blk_frozen BK175.out 0; have hfz118_1 := blk_frozen BK175.out 1; have hfz118_2 := blk_frozen BK175.out 2) | (go_at_call 14; (with_reducible refine (geom_On.calls kj52 a1_0 a1_1 a1_2 a2_0 a2_1 a2_2 a3_0 a3_1 a3_2 false _ A68.out).mono ?_); rintro e w119 ⟨rfl, hb⟩; have n0_ := Aside0.mk (blk_below (g := gb172) (o := .cells #[.int .i64 a0_0, .int .i64 a0_1, .int .i64 a0_2] 23 (0, 0)) (bK BK172) hb); have n1_ := Aside0.mk (blk_below (g := gb173) (o := .cells #[.int .i64 a1_0, .int .i64 a1_1, .int .i64 a1_2] 23 (0, 0)) (bK BK173) hb); have n2_ := Aside0.mk (blk_below (g := gb174) (o := .cells #[.int .i64 a2_0, .int .i64 a2_1, .int .i64 a2_2] 23 (0, 0)) (bK BK174) hb); have n3_ := Aside0.mk (blk_below (g := gb175) (o := .cells #[.int .i64 a3_0, .int .i64 a3_1, .int .i64 a3_2] 23 (0, 0)) (bK BK175) hb); have n4_ := Aside0.mk (below_step (bH HB) hb); clear BK172; clear BK173; clear BK174; clear BK175; clear HB; have BK172 := n0_; have BK173 := n1_; have BK174 := n2_; have BK175 := n3_; have HB := n4_; clear n0_ n1_ n2_ n3_ n4_; (try clear hb); (try clear hb2); (try clear hk); (try clear hi); have hcz120_0 : w119.cell? ⟨gb174, 0, none⟩ = some (.int .i64 a2_0) := (blk_cell BK174.out 0).trans rfl; have hcz120_1 : w119.cell? ⟨gb174, 1, none⟩ = some (.int .i64 a2_1) := (blk_cell BK174.out 1).trans rfl; have hcz120_2 : w119.cell? ⟨gb174, 2, none⟩ = some (.int .i64 a2_2) := (blk_cell BK174.out 2).trans rfl; have hfz120_0 := blk_frozen BK174.out 0; have hfz120_1 := blk_frozen BK174.out 1; have hfz120_2 := blk_frozen BK174.out 2; have hcz121_0 : w119.cell? ⟨gb172, 0, none⟩ = some (.int .i64 a0_0) := (blk_cell BK172.out 0).trans rfl; have hcz121_1 : w119.cell? ⟨gb172, 1, none⟩ = some (.int .i64 a0_1) := (blk_cell BK172.out 1).trans rfl; have hcz121_2 : w119.cell? ⟨gb172, 2, none⟩ = some (.int .i64 a0_2) := (blk_cell BK172.out 2).trans rfl; have hfz121_0 := blk_frozen BK172.out 0; have hfz121_1 := blk_frozen BK172.out 1; have hfz121_2 := blk_frozen BK172.out 2; have hcz122_0 : w119.cell? ⟨gb173, 0, none⟩ = some (.int .i64 a1_0) := (blk_cell BK173.out 0).trans rfl; have hcz122_1 : w119.cell? ⟨gb173, 1, none⟩ = some (.int .i64 a1_1) := (blk_cell BK173.out 1).trans rfl; have hcz122_2 : w119.cell? ⟨gb173, 2, none⟩ = some (.int .i64 a1_2) := (blk_cell BK173.out 2).trans rfl; have hfz122_0 := blk_frozen BK173.out 0; have hfz122_1 := blk_frozen BK173.out 1; have hfz122_2 := blk_frozen BK173.out 2) | (go_at_call 14; (with_reducible refine (geom_On.calls kj52 a2_0 a2_1 a2_2 a0_0 a0_1 a0_2 a1_0 a1_1 a1_2 false _ A84.out).mono ?_); rintro e w123 ⟨rfl, hb⟩; have n0_ := Aside0.mk (blk_below (g := gb172) (o := .cells #[.int .i64 a0_0, .int .i64 a0_1, .int .i64 a0_2] 23 (0, 0)) (bK BK172) hb); have n1_ := Aside0.mk (blk_below (g := gb173) (o := .cells #[.int .i64 a1_0, .int .i64 a1_1, .int .i64 a1_2] 23 (0, 0)) (bK BK173) hb); have n2_ := Aside0.mk (blk_below (g := gb174) (o := .cells #[.int .i64 a2_0, .int .i64 a2_1, .int .i64 a2_2] 23 (0, 0)) (bK BK174) hb); have n3_ := Aside0.mk (blk_below (g := gb175) (o := .cells #[.int .i64 a3_0, .int .i64 a3_1, .int .i64 a3_2] 23 (0, 0)) (bK BK175) hb); have n4_ := Aside0.mk (below_step (bH HB) hb); clear BK172; clear BK173; clear BK174; clear BK175; clear HB; have BK172 := n0_; have BK173 := n1_; have BK174 := n2_; have BK175 := n3_; have HB := n4_; clear n0_ n1_ n2_ n3_ n4_; (try clear hb); (try clear hb2); (try clear hk); (try clear hi); have hcz124_0 : w123.cell? ⟨gb175, 0, none⟩ = some (.int .i64 a3_0) := (blk_cell BK175.out 0).trans rfl; have hcz124_1 : w123.cell? ⟨gb175, 1, none⟩ = some (.int .i64 a3_1) := (blk_cell BK175.out 1).trans rfl; have hcz124_2 : w123.cell? ⟨gb175, 2, none⟩ = some (.int .i64 a3_2) := (blk_cell BK175.out 2).trans rfl; have hfz124_0 := blk_frozen BK175.out 0; have hfz124_1 := blk_frozen BK175.out 1; have hfz124_2 := blk_frozen BK175.out 2; have hcz125_0 : w123.cell? ⟨gb172, 0, none⟩ = some (.int .i64 a0_0) := (blk_cell BK172.out 0).trans rfl; have hcz125_1 : w123.cell? ⟨gb172, 1, none⟩ = some (.int .i64 a0_1) := (blk_cell BK172.out 1).trans rfl; have hcz125_2 : w123.cell? ⟨gb172, 2, none⟩ = some (.int .i64 a0_2) := (blk_cell BK172.out 2).trans rfl; have hfz125_0 := blk_frozen BK172.out 0; have hfz125_1 := blk_frozen BK172.out 1; have hfz125_2 := blk_frozen BK172.out 2; have hcz126_0 : w123.cell? ⟨gb173, 0, none⟩ = some (.int .i64 a1_0) := (blk_cell BK173.out 0).trans rfl; have hcz126_1 : w123.cell? ⟨gb173, 1, none⟩ = some (.int .i64 a1_1) := (blk_cell BK173.out 1).trans rfl; have hcz126_2 : w123.cell? ⟨gb173, 2, none⟩ = some (.int .i64 a1_2) := (blk_cell BK173.out 2).trans rfl; have hfz126_0 := blk_frozen BK173.out 0; have hfz126_1 := blk_frozen BK173.out 1; have hfz126_2 := blk_frozen BK173.out 2) | (go_at_call 14; (with_reducible refine (geom_On.calls kj52 a3_0 a3_1 a3_2 a0_0 a0_1 a0_2 a1_0 a1_1 a1_2 t188 _ A104.out).mono ?_); rintro e w127 ⟨rfl, hb⟩; have n0_ := Aside0.mk (blk_below (g := gb172) (o := .cells #[.int .i64 a0_0, .int .i64 a0_1, .int .i64 a0_2] 23 (0, 0)) (bK BK172) hb); have n1_ := Aside0.mk (blk_below (g := gb173) (o := .cells #[.int .i64 a1_0, .int .i64 a1_1, .int .i64 a1_2] 23 (0, 0)) (bK BK173) hb); have n2_ := Aside0.mk (blk_below (g := gb174) (o := .cells #[.int .i64 a2_0, .int .i64 a2_1, .int .i64 a2_2] 23 (0, 0)) (bK BK174) hb); have n3_ := Aside0.mk (blk_below (g := gb175) (o := .cells #[.int .i64 a3_0, .int .i64 a3_1, .int .i64 a3_2] 23 (0, 0)) (bK BK175) hb); have n4_ := Aside0.mk (below_step (bH HB) hb); clear BK172; clear BK173; clear BK174; clear BK175; clear HB; have BK172 := n0_; have BK173 := n1_; have BK174 := n2_; have BK175 := n3_; have HB := n4_; clear n0_ n1_ n2_ n3_ n4_; (try clear hb); (try clear hb2); (try clear hk); (try clear hi)))
           (try simp only [Act.put, List.setIfInBounds_toArray, List.set_cons_zero, List.set_cons_succ])
           have H := HC105.out
           clear HC105
           by_cases c128 : t188 = true
           ·subst c128
            have H1 : (some 1) = some r := by rw [if_pos rfl] at H; exact H
            clear H
            have H := H1
            clear H1
            obtain rfl := Option.some.inj H
            go_wp2
            go_ret
            exact ⟨by first | rfl | (simp [errW_none, errW_some] <;> rfl) | (simp [*, errW_none, errW_some] <;> rfl), bH HB⟩
           ·replace c128 := Bool.eq_false_iff.mpr c128
            subst c128
            have H1 : (some 0) = some r := by rw [if_neg (show ¬ (false = true) by decide)] at H; exact H
            clear H
            have H := H1
            clear H1
            obtain rfl := Option.some.inj H
            go_wp2
            go_ret
            exact ⟨by first | rfl | (simp [errW_none, errW_some] <;> rfl) | (simp [*, errW_none, errW_some] <;> rfl), bH HB⟩
 ·replace c25 := Bool.eq_false_iff.mpr c25
  subst c25
  have H1 : (some 0) = some r := by rw [if_neg (show ¬ (false = true) by decide)] at H; exact H
  clear H
  have H := H1
  clear H1
  obtain rfl := Option.some.inj H
  go_wp2
  go_ret
  exact ⟨by first | rfl | (simp [errW_none, errW_some] <;> rfl) | (simp [*, errW_none, errW_some] <;> rfl), bH HB⟩

end Go.Proofs.Ytlnjbpapbifjfaa.P
