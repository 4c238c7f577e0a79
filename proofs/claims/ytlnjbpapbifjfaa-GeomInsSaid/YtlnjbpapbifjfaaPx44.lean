/- Written for this claim by a program of this session (a turned copy of the print): Go functions as Lean functions, and that the Go code comes to just these answers; or a statement proved out of them. No condition. -/
import Derived.Test.YtlnjbpapbifjfaaPx0
import Derived.Test.YtlnjbpapbifjfaaPx17
import Derived.Test.YtlnjbpapbifjfaaPx23
import Derived.Test.YtlnjbpapbifjfaaPx25
namespace Go.Proofs.Ytlnjbpapbifjfaa.P
open Go.RowKit Go.Proofs.YtlnjbpapbifjfaaW.PrintWords Go.Proofs.YtlnjbpapbifjfaaW.PrintLast Go.Proofs.YtlnjbpapbifjfaaW.PrintMore Go.Proofs.Ytlnjbpapbifjfaa.X
attribute [local go_sem] max2_int min2_int max_two min_two max_three min_three max_four min_four add64_0 add64_1 add64   -- for this text's walks alone
set_option linter.unusedVariables false
set_option linter.unusedSimpArgs false

/-! ### lapidaryref09_In: function 26 -/
mutual
def lapidaryref09_In.j0 : Nat → List (S23) → Bool → Int → Int → Int → Option (Int)
 | 0, _, _, _, _, _ => none
 | k + 1, x1, x19, x544000, x544001, x544002 => if x19 = true then (some 0) else (lapidaryref09_In.l0 k x1 0 0 x544000 x544001 x544002)
def lapidaryref09_In.l0 : Nat → List (S23) → Int → Int → Int → Int → Int → Option (Int)
 | 0, _, _, _, _, _, _ => none
 | k + 1, x1, x5, x6, x544000, x544001, x544002 => if x6 < (x1.length : Int) then (if 0 ≤ x6 then (if 0 < (x1.length : Int) then (if (wrap64 (x6 + 1)) < (x1.length : Int) then (if 0 ≤ (wrap64 (x6 + 1)) then (lapidaryref09_In.j2 k x1 x5 x6 x544000 x544001 x544002 ((rd_T23 x1 x6).f0) ((rd_T23 x1 x6).f1) ((rd_T23 x1 x6).f2) ((rd_T23 x1 (wrap64 (x6 + 1))).f0) ((rd_T23 x1 (wrap64 (x6 + 1))).f1) ((rd_T23 x1 (wrap64 (x6 + 1))).f2)) else (none)) else (lapidaryref09_In.j2 k x1 x5 x6 x544000 x544001 x544002 ((rd_T23 x1 x6).f0) ((rd_T23 x1 x6).f1) ((rd_T23 x1 x6).f2) ((rd_T23 x1 0).f0) ((rd_T23 x1 0).f1) ((rd_T23 x1 0).f2))) else (none)) else (none)) else (if (Int.tmod x5 2) = 1 then (some 1) else (some (-1)))
def lapidaryref09_In.j2 : Nat → List (S23) → Int → Int → Int → Int → Int → Int → Int → Int → Int → Int → Int → Option (Int)
 | 0, _, _, _, _, _, _, _, _, _, _, _, _ => none
 | k + 1, x1, x5, x6, x544000, x544001, x544002, x551000, x551001, x551002, x553000, x553001, x553002 => (lapidaryref09_On.f k x544000 x544001 x544002 x551000 x551001 x551002 x553000 x553001 x553002).bind fun t554 => (if t554 = true then (some 0) else (if x551001 ≤ x544001 then (lapidaryref09_In.j3 k x1 x5 x6 (decide (x544001 < x553001)) x544000 x544001 x544002 x551000 x551001 x551002 x553000 x553001 x553002) else (lapidaryref09_In.j3 k x1 x5 x6 false x544000 x544001 x544002 x551000 x551001 x551002 x553000 x553001 x553002)))
def lapidaryref09_In.j3 : Nat → List (S23) → Int → Int → Bool → Int → Int → Int → Int → Int → Int → Int → Int → Int → Option (Int)
 | 0, _, _, _, _, _, _, _, _, _, _, _, _, _ => none
 | k + 1, x1, x5, x6, x9, x544000, x544001, x544002, x551000, x551001, x551002, x553000, x553001, x553002 => if x553001 ≤ x544001 then (lapidaryref09_In.j4 k x1 x5 x6 x9 (decide (x544001 < x551001)) x544000 x544001 x544002 x551000 x551001 x551002 x553000 x553001 x553002) else (lapidaryref09_In.j4 k x1 x5 x6 x9 false x544000 x544001 x544002 x551000 x551001 x551002 x553000 x553001 x553002)
def lapidaryref09_In.j4 : Nat → List (S23) → Int → Int → Bool → Bool → Int → Int → Int → Int → Int → Int → Int → Int → Int → Option (Int)
 | 0, _, _, _, _, _, _, _, _, _, _, _, _, _, _ => none
 | k + 1, x1, x5, x6, x9, x10, x544000, x544001, x544002, x551000, x551001, x551002, x553000, x553001, x553002 => if x9 = true then ((lapidaryref09_Turn.f k x551000 x551001 x551002 x553000 x553001 x553002 x544000 x544001 x544002).bind fun t555 => (if t555 > 0 then (lapidaryref09_In.l0 k x1 (wrap64 (x5 + 1)) (wrap64 (x6 + 1)) x544000 x544001 x544002) else (if x10 = true then ((lapidaryref09_Turn.f k x551000 x551001 x551002 x553000 x553001 x553002 x544000 x544001 x544002).bind fun t556 => (if t556 < 0 then (lapidaryref09_In.l0 k x1 (wrap64 (x5 + 1)) (wrap64 (x6 + 1)) x544000 x544001 x544002) else (lapidaryref09_In.l0 k x1 x5 (wrap64 (x6 + 1)) x544000 x544001 x544002))) else (lapidaryref09_In.l0 k x1 x5 (wrap64 (x6 + 1)) x544000 x544001 x544002)))) else (if x10 = true then ((lapidaryref09_Turn.f k x551000 x551001 x551002 x553000 x553001 x553002 x544000 x544001 x544002).bind fun t557 => (if t557 < 0 then (lapidaryref09_In.l0 k x1 (wrap64 (x5 + 1)) (wrap64 (x6 + 1)) x544000 x544001 x544002) else (lapidaryref09_In.l0 k x1 x5 (wrap64 (x6 + 1)) x544000 x544001 x544002))) else (lapidaryref09_In.l0 k x1 x5 (wrap64 (x6 + 1)) x544000 x544001 x544002))
end
def lapidaryref09_In.f (k : Nat) (a0_0 : Int) (a0_1 : Int) (a0_2 : Int) (l1 : List (S23)) : Option (Int) := (lapidaryref09_Right.f k (([(⟨a0_0, a0_1, a0_2⟩ : S23)] : List (S23)))).bind fun t547 => (if t547 = true then ((lapidaryref09_Right.f k l1).bind fun t548 => (lapidaryref09_In.j0 k l1 (!t548) a0_0 a0_1 a0_2)) else (lapidaryref09_In.j0 k l1 true a0_0 a0_1 a0_2))
theorem lapidaryref09_In.mono_l : ∀ k, (∀ y0 y1 y2 y3 y4, LeO (lapidaryref09_In.j0 k y0 y1 y2 y3 y4) (lapidaryref09_In.j0 (k + 1) y0 y1 y2 y3 y4)) ∧ (∀ y0 y1 y2 y3 y4 y5, LeO (lapidaryref09_In.l0 k y0 y1 y2 y3 y4 y5) (lapidaryref09_In.l0 (k + 1) y0 y1 y2 y3 y4 y5)) ∧ (∀ y0 y1 y2 y3 y4 y5 y6 y7 y8 y9 y10 y11, LeO (lapidaryref09_In.j2 k y0 y1 y2 y3 y4 y5 y6 y7 y8 y9 y10 y11) (lapidaryref09_In.j2 (k + 1) y0 y1 y2 y3 y4 y5 y6 y7 y8 y9 y10 y11)) ∧ (∀ y0 y1 y2 y3 y4 y5 y6 y7 y8 y9 y10 y11 y12, LeO (lapidaryref09_In.j3 k y0 y1 y2 y3 y4 y5 y6 y7 y8 y9 y10 y11 y12) (lapidaryref09_In.j3 (k + 1) y0 y1 y2 y3 y4 y5 y6 y7 y8 y9 y10 y11 y12)) ∧ (∀ y0 y1 y2 y3 y4 y5 y6 y7 y8 y9 y10 y11 y12 y13, LeO (lapidaryref09_In.j4 k y0 y1 y2 y3 y4 y5 y6 y7 y8 y9 y10 y11 y12 y13) (lapidaryref09_In.j4 (k + 1) y0 y1 y2 y3 y4 y5 y6 y7 y8 y9 y10 y11 y12 y13))
 | 0 => ⟨fun _ _ _ _ _ r h => by simp [lapidaryref09_In.j0] at h, fun _ _ _ _ _ _ r h => by simp [lapidaryref09_In.l0] at h, fun _ _ _ _ _ _ _ _ _ _ _ _ r h => by simp [lapidaryref09_In.j2] at h, fun _ _ _ _ _ _ _ _ _ _ _ _ _ r h => by simp [lapidaryref09_In.j3] at h, fun _ _ _ _ _ _ _ _ _ _ _ _ _ _ r h => by simp [lapidaryref09_In.j4] at h⟩
 | k + 1 => by
  obtain ⟨ih0, ih1, ih2, ih3, ih4⟩ := lapidaryref09_In.mono_l k
  refine ⟨?_, ?_, ?_, ?_, ?_⟩
  ·intro y0 y1 y2 y3 y4
   unfold lapidaryref09_In.j0
   repeat' first
   | (with_reducible exact ih0 _ _ _ _ _)
   | (with_reducible exact ih1 _ _ _ _ _ _)
   | (with_reducible exact ih2 _ _ _ _ _ _ _ _ _ _ _ _)
   | (with_reducible exact ih3 _ _ _ _ _ _ _ _ _ _ _ _ _)
   | (with_reducible exact ih4 _ _ _ _ _ _ _ _ _ _ _ _ _ _)
   | (with_reducible exact lapidaryref09_On.mono _ _ _ _ _ _ _ _ _ _)
   | (with_reducible exact lapidaryref09_Right.mono _ _)
   | (with_reducible exact lapidaryref09_Turn.mono _ _ _ _ _ _ _ _ _ _)
   | (with_reducible exact LeO.refl _)
   | (with_reducible exact LeO.none _)
   | (with_reducible refine LeO.ite ?_ ?_)
   | (with_reducible refine LeO.bind ?_ (fun _ => ?_))
   | exact ih0 _ _ _ _ _
   | exact ih1 _ _ _ _ _ _
   | exact ih2 _ _ _ _ _ _ _ _ _ _ _ _
   | exact ih3 _ _ _ _ _ _ _ _ _ _ _ _ _
   | exact ih4 _ _ _ _ _ _ _ _ _ _ _ _ _ _
   | exact lapidaryref09_On.mono _ _ _ _ _ _ _ _ _ _
   | exact lapidaryref09_Right.mono _ _
   | exact lapidaryref09_Turn.mono _ _ _ _ _ _ _ _ _ _
   | exact LeO.none _
   | refine LeO.ite ?_ ?_
   | refine LeO.bind ?_ (fun _ => ?_)
  ·intro y0 y1 y2 y3 y4 y5
   unfold lapidaryref09_In.l0
   repeat' first
   | (with_reducible exact ih0 _ _ _ _ _)
   | (with_reducible exact ih1 _ _ _ _ _ _)
   | (with_reducible exact ih2 _ _ _ _ _ _ _ _ _ _ _ _)
   | (with_reducible exact ih3 _ _ _ _ _ _ _ _ _ _ _ _ _)
   | (with_reducible exact ih4 _ _ _ _ _ _ _ _ _ _ _ _ _ _)
   | (with_reducible exact lapidaryref09_On.mono _ _ _ _ _ _ _ _ _ _)
   | (with_reducible exact lapidaryref09_Right.mono _ _)
   | (with_reducible exact lapidaryref09_Turn.mono _ _ _ _ _ _ _ _ _ _)
   | (with_reducible exact LeO.refl _)
   | (with_reducible exact LeO.none _)
   | (with_reducible refine LeO.ite ?_ ?_)
   | (with_reducible refine LeO.bind ?_ (fun _ => ?_))
   | exact ih0 _ _ _ _ _
   | exact ih1 _ _ _ _ _ _
   | exact ih2 _ _ _ _ _ _ _ _ _ _ _ _
   | exact ih3 _ _ _ _ _ _ _ _ _ _ _ _ _
   | exact ih4 _ _ _ _ _ _ _ _ _ _ _ _ _ _
   | exact lapidaryref09_On.mono _ _ _ _ _ _ _ _ _ _
   | exact lapidaryref09_Right.mono _ _
   | exact lapidaryref09_Turn.mono _ _ _ _ _ _ _ _ _ _
   | exact LeO.none _
   | refine LeO.ite ?_ ?_
   | refine LeO.bind ?_ (fun _ => ?_)
  ·intro y0 y1 y2 y3 y4 y5 y6 y7 y8 y9 y10 y11
   unfold lapidaryref09_In.j2
   repeat' first
   | (with_reducible exact ih0 _ _ _ _ _)
   | (with_reducible exact ih1 _ _ _ _ _ _)
   | (with_reducible exact ih2 _ _ _ _ _ _ _ _ _ _ _ _)
   | (with_reducible exact ih3 _ _ _ _ _ _ _ _ _ _ _ _ _)
   | (with_reducible exact ih4 _ _ _ _ _ _ _ _ _ _ _ _ _ _)
   | (with_reducible exact lapidaryref09_On.mono _ _ _ _ _ _ _ _ _ _)
   | (with_reducible exact lapidaryref09_Right.mono _ _)
   | (with_reducible exact lapidaryref09_Turn.mono _ _ _ _ _ _ _ _ _ _)
   | (with_reducible exact LeO.refl _)
   | (with_reducible exact LeO.none _)
   | (with_reducible refine LeO.ite ?_ ?_)
   | (with_reducible refine LeO.bind ?_ (fun _ => ?_))
   | exact ih0 _ _ _ _ _
   | exact ih1 _ _ _ _ _ _
   | exact ih2 _ _ _ _ _ _ _ _ _ _ _ _
   | exact ih3 _ _ _ _ _ _ _ _ _ _ _ _ _
   | exact ih4 _ _ _ _ _ _ _ _ _ _ _ _ _ _
   | exact lapidaryref09_On.mono _ _ _ _ _ _ _ _ _ _
   | exact lapidaryref09_Right.mono _ _
   | exact lapidaryref09_Turn.mono _ _ _ _ _ _ _ _ _ _
   | exact LeO.none _
   | refine LeO.ite ?_ ?_
   | refine LeO.bind ?_ (fun _ => ?_)
  ·intro y0 y1 y2 y3 y4 y5 y6 y7 y8 y9 y10 y11 y12
   unfold lapidaryref09_In.j3
   repeat' first
   | (with_reducible exact ih0 _ _ _ _ _)
   | (with_reducible exact ih1 _ _ _ _ _ _)
   | (with_reducible exact ih2 _ _ _ _ _ _ _ _ _ _ _ _)
   | (with_reducible exact ih3 _ _ _ _ _ _ _ _ _ _ _ _ _)
   | (with_reducible exact ih4 _ _ _ _ _ _ _ _ _ _ _ _ _ _)
   | (with_reducible exact lapidaryref09_On.mono _ _ _ _ _ _ _ _ _ _)
   | (with_reducible exact lapidaryref09_Right.mono _ _)
   | (with_reducible exact lapidaryref09_Turn.mono _ _ _ _ _ _ _ _ _ _)
   | (with_reducible exact LeO.refl _)
   | (with_reducible exact LeO.none _)
   | (with_reducible refine LeO.ite ?_ ?_)
   | (with_reducible refine LeO.bind ?_ (fun _ => ?_))
   | exact ih0 _ _ _ _ _
   | exact ih1 _ _ _ _ _ _
   | exact ih2 _ _ _ _ _ _ _ _ _ _ _ _
   | exact ih3 _ _ _ _ _ _ _ _ _ _ _ _ _
   | exact ih4 _ _ _ _ _ _ _ _ _ _ _ _ _ _
   | exact lapidaryref09_On.mono _ _ _ _ _ _ _ _ _ _
   | exact lapidaryref09_Right.mono _ _
   | exact lapidaryref09_Turn.mono _ _ _ _ _ _ _ _ _ _
   | exact LeO.none _
   | refine LeO.ite ?_ ?_
   | refine LeO.bind ?_ (fun _ => ?_)
  ·intro y0 y1 y2 y3 y4 y5 y6 y7 y8 y9 y10 y11 y12 y13
   unfold lapidaryref09_In.j4
   repeat' first
   | (with_reducible exact ih0 _ _ _ _ _)
   | (with_reducible exact ih1 _ _ _ _ _ _)
   | (with_reducible exact ih2 _ _ _ _ _ _ _ _ _ _ _ _)
   | (with_reducible exact ih3 _ _ _ _ _ _ _ _ _ _ _ _ _)
   | (with_reducible exact ih4 _ _ _ _ _ _ _ _ _ _ _ _ _ _)
   | (with_reducible exact lapidaryref09_On.mono _ _ _ _ _ _ _ _ _ _)
   | (with_reducible exact lapidaryref09_Right.mono _ _)
   | (with_reducible exact lapidaryref09_Turn.mono _ _ _ _ _ _ _ _ _ _)
   | (with_reducible exact LeO.refl _)
   | (with_reducible exact LeO.none _)
   | (with_reducible refine LeO.ite ?_ ?_)
   | (with_reducible refine LeO.bind ?_ (fun _ => ?_))
   | exact ih0 _ _ _ _ _
   | exact ih1 _ _ _ _ _ _
   | exact ih2 _ _ _ _ _ _ _ _ _ _ _ _
   | exact ih3 _ _ _ _ _ _ _ _ _ _ _ _ _
   | exact ih4 _ _ _ _ _ _ _ _ _ _ _ _ _ _
   | exact lapidaryref09_On.mono _ _ _ _ _ _ _ _ _ _
   | exact lapidaryref09_Right.mono _ _
   | exact lapidaryref09_Turn.mono _ _ _ _ _ _ _ _ _ _
   | exact LeO.none _
   | refine LeO.ite ?_ ?_
   | refine LeO.bind ?_ (fun _ => ?_)
theorem lapidaryref09_In.mono : ∀ a0 a1 a2 a3 k, LeO (lapidaryref09_In.f k a0 a1 a2 a3) (lapidaryref09_In.f (k + 1) a0 a1 a2 a3) := by
 intro a0 a1 a2 a3 k
 obtain ⟨ih0, ih1, ih2, ih3, ih4⟩ := lapidaryref09_In.mono_l k
 unfold lapidaryref09_In.f
 repeat' first
   | (with_reducible exact ih0 _ _ _ _ _)
   | (with_reducible exact ih1 _ _ _ _ _ _)
   | (with_reducible exact ih2 _ _ _ _ _ _ _ _ _ _ _ _)
   | (with_reducible exact ih3 _ _ _ _ _ _ _ _ _ _ _ _ _)
   | (with_reducible exact ih4 _ _ _ _ _ _ _ _ _ _ _ _ _ _)
   | (with_reducible exact lapidaryref09_On.mono _ _ _ _ _ _ _ _ _ _)
   | (with_reducible exact lapidaryref09_Right.mono _ _)
   | (with_reducible exact lapidaryref09_Turn.mono _ _ _ _ _ _ _ _ _ _)
   | (with_reducible exact LeO.refl _)
   | (with_reducible exact LeO.none _)
   | (with_reducible refine LeO.ite ?_ ?_)
   | (with_reducible refine LeO.bind ?_ (fun _ => ?_))
   | exact ih0 _ _ _ _ _
   | exact ih1 _ _ _ _ _ _
   | exact ih2 _ _ _ _ _ _ _ _ _ _ _ _
   | exact ih3 _ _ _ _ _ _ _ _ _ _ _ _ _
   | exact ih4 _ _ _ _ _ _ _ _ _ _ _ _ _ _
   | exact lapidaryref09_On.mono _ _ _ _ _ _ _ _ _ _
   | exact lapidaryref09_Right.mono _ _
   | exact lapidaryref09_Turn.mono _ _ _ _ _ _ _ _ _ _
   | exact LeO.none _
   | refine LeO.ite ?_ ?_
   | refine LeO.bind ?_ (fun _ => ?_)
set_option maxHeartbeats 8000000 in
set_option maxRecDepth 100000 in
theorem lapidaryref09_In.calls (k : Nat) (a0_0 : Int) (a0_1 : Int) (a0_2 : Int) (A1 : Option Addr) (c1 : Nat) (l1 : List (S23)) (r : Int) (w : World) (hr1 : Kd.C k23 w A1 l1.length l1) (hc1 : l1.length ≤ c1) (h : lapidaryref09_In.f k a0_0 a0_1 a0_2 l1 = some r) :
  Calls Try.prog 26 #[.agg #[.int .i64 a0_0, .int .i64 a0_1, .int .i64 a0_2], .slice A1 l1.length c1] w fun e w' => e = .returned (.int .i64 r) ∧ Below w.heap.size w w' := by
 have hu23 := Try.underlying23
 have HR1 := Aside0.mk hr1
 have HC1 := Aside0.mk hc1
 clear hr1 hc1
 have HB := Aside0.mk (Below.refl w.heap.size w)
 have H : ((lapidaryref09_Right.f k (([(⟨a0_0, a0_1, a0_2⟩ : S23)] : List (S23)))).bind fun t547 => (if t547 = true then ((lapidaryref09_Right.f k l1).bind fun t548 => (lapidaryref09_In.j0 k l1 (!t548) a0_0 a0_1 a0_2)) else (lapidaryref09_In.j0 k l1 true a0_0 a0_1 a0_2))) = some r := h
 clear h
 have HC3 := Aside0.mk H
 clear H
 go_enter Try.func26, Try.ntmps26
 go_upto_region 1 with (first | ((with_reducible refine gate_dst (N := 2) rfl ?_); refine box_event ?hg (N := 2) ?hd (cs := #[.int .i64 a0_0, .int .i64 a0_1, .int .i64 a0_2]) (t := 23) ?hr ?_; (case hd => rfl); (case hg => rfl); (case hr => first | (go_simp; done) | (go_simp; rfl)); intro gb543 hg w4 hbox hb; have n0_ := Aside0.mk (below_step (bH HB) hb); have n1_ := Aside0.mk (hbox); have n2_ := Aside0.mk ((by rw [hg]; exact (below_size (bH HB)) : w.heap.size ≤ gb543)); have n3_ := n2_; clear HB; have HB := n0_; have BK543 := n1_; have GW543 := n2_; have GE543 := n3_; clear n0_ n1_ n2_ n3_; clear hb hbox hg))
 (try simp only [Act.put, List.setIfInBounds_toArray, List.set_cons_zero, List.set_cons_succ])
 go_cut [19] (fun v19 wc => ∃ (kq : Nat) (x19_2 : Bool), v19 = .bool x19_2 ∧ Aside0 (lapidaryref09_In.j0 kq l1 x19_2 a0_0 a0_1 a0_2 = some r) ∧ Aside0 (kq ≤ k) ∧ Aside0 (wc.heap[gb543]? = some (.cells #[.int .i64 a0_0, .int .i64 a0_1, .int .i64 a0_2] 23 (0, 0))) ∧ Aside0 (Below w.heap.size w wc))
 case first =>
  have H := HC3.out
  clear HC3
  obtain ⟨y544, hy544⟩ : ∃ y_ : List (S23), y_ = (([(⟨a0_0, a0_1, a0_2⟩ : S23)] : List (S23))) := ⟨_, rfl⟩
  replace H : ((lapidaryref09_Right.f k y544).bind fun t547 => (if t547 = true then ((lapidaryref09_Right.f k l1).bind fun t548 => (lapidaryref09_In.j0 k l1 (!t548) a0_0 a0_1 a0_2)) else (lapidaryref09_In.j0 k l1 true a0_0 a0_1 a0_2))) = some r := by first | (rw [hy544]; with_reducible exact H) | (have H2_ := (Option.bind_some _ _).symm.trans H; rw [hy544]; with_reducible exact H2_) | (have H2_ := (Option.bind_some _ _).symm.trans H; with_reducible exact H2_) | with_reducible exact H | (rw [hy544]; exact H) | exact H
  have Ny544 := Aside0.mk hy544
  clear hy544
  replace H := Option.bind_eq_some_iff.mp H
  obtain ⟨t547, A50, H⟩ := H
  replace H : (if t547 = true then ((lapidaryref09_Right.f k l1).bind fun t548 => (lapidaryref09_In.j0 k l1 (!t548) a0_0 a0_1 a0_2)) else (lapidaryref09_In.j0 k l1 true a0_0 a0_1 a0_2)) = some r := H
  have A5 := Aside0.mk A50
  clear A50
  by_cases c6 : t547 = true
  ·subst c6
   have H1 : ((lapidaryref09_Right.f k l1).bind fun t548 => (lapidaryref09_In.j0 k l1 (!t548) a0_0 a0_1 a0_2)) = some r := by rw [if_pos rfl] at H; exact H
   clear H
   have H := H1
   clear H1
   replace H := Option.bind_eq_some_iff.mp H
   obtain ⟨t548, A70, H⟩ := H
   replace H : (lapidaryref09_In.j0 k l1 (!t548) a0_0 a0_1 a0_2) = some r := H
   have A7 := Aside0.mk A70
   clear A70
   have H' := Aside0.mk H
   clear H
   have hcz8_0 : w4.cell? ⟨gb543, 0, none⟩ = some (.int .i64 a0_0) := (blk_cell BK543.out 0).trans rfl
   have hcz8_1 : w4.cell? ⟨gb543, 1, none⟩ = some (.int .i64 a0_1) := (blk_cell BK543.out 1).trans rfl
   have hcz8_2 : w4.cell? ⟨gb543, 2, none⟩ = some (.int .i64 a0_2) := (blk_cell BK543.out 2).trans rfl
   have hfz8_0 := blk_frozen BK543.out 0
   have hfz8_1 := blk_frozen BK543.out 1
   have hfz8_2 := blk_frozen BK543.out 2
   go_wp2_with (first | ((with_reducible refine gate_dst (N := 12) rfl ?_); refine Kd.R_lit k23 _ 23 ?hg (N := 12) ?hd (xs := ([(⟨a0_0, a0_1, a0_2⟩ : S23)] : List (S23))) (inner := [.int .i64 a0_0, .int .i64 a0_1, .int .i64 a0_2]) (ok := fun _ => True) (okp := fun _ => True) ?hr ?hp (fun _ hk => hk) trivial (Below.refl _ _) (Nat.le_refl _) (by simp) ?_; (case hd => rfl); (case hg => rfl); (case hr => first | (go_simp; done) | (go_simp; rfl)); (case hp => exact (Reps.c3 (show Kd.M k23 _ _ _ (⟨a0_0, a0_1, a0_2⟩ : S23) [.int .i64 a0_0, .int .i64 a0_1, .int .i64 a0_2] from (k23_mkM _ _ _ (⟨a0_0, a0_1, a0_2⟩ : S23) )) (Reps.none _ _))); intro v545 w9 ho10 hb hg_ hnew_; clear hg_ hnew_; (first | rw [← Ny544.out] at ho10 | (simp only [Int.reduceToNat] at ho10; rw [← Ny544.out] at ho10)); have n0_ := Aside0.mk (Kd.R_lower (Kd.R_newB ho10 (g := gb543) (o := .cells #[.int .i64 a0_0, .int .i64 a0_1, .int .i64 a0_2] 23 (0, 0)) (bK BK543)) (below_size (bH HB))); have n1_ := Aside0.mk (blk_below (g := gb543) (o := .cells #[.int .i64 a0_0, .int .i64 a0_1, .int .i64 a0_2] 23 (0, 0)) (bK BK543) hb); have n2_ := Aside0.mk (below_step (bH HB) hb); clear BK543; clear HB; have HO546 := n0_; have BK543 := n1_; have HB := n2_; clear n0_ n1_ n2_; clear hb ho10; obtain ⟨Ao11, co11, eo11⟩ := Kd.R_slice HO546.out; subst eo11) | ((with_reducible refine gate_callee (f := 23) rfl ?_); refine goesL_ (some 13) rfl rfl Try.func23 (by kernel_rfl) rfl #[.slice Ao11 y544.length co11] rfl (by (try simp only [List.map_toArray, List.map_cons, List.map_nil]); first | done | rfl | (simp only [List.length_drop, List.length_take]; rfl)) ?_; (with_reducible refine (lapidaryref09_Right.calls k _ _ y544 true _ ?side1 ?side2 A5.out).mono ?_); (case side1 => repeat (first | exact (Kd.R_reads' HO546.out).2.2 | (with_reducible refine Kd.C_alloc ?_ _) | (with_reducible refine Kd.C_drewN ?_ _) | (with_reducible refine Kd.C_drew ?_))); (case side2 => exact (Kd.R_reads' HO546.out).2.1); rintro e w12 ⟨rfl, hb⟩; refine ⟨_, rfl, ?_⟩; have n0_ := Aside0.mk (Kd.R_below (rK HO546) hb); have n1_ := Aside0.mk (blk_below (g := gb543) (o := .cells #[.int .i64 a0_0, .int .i64 a0_1, .int .i64 a0_2] 23 (0, 0)) (bK BK543) hb); have n2_ := Aside0.mk (below_step (bH HB) hb); clear HO546; clear BK543; clear HB; have HO546 := n0_; have BK543 := n1_; have HB := n2_; clear n0_ n1_ n2_; (try clear hb); (try clear hb2); (try clear hk); (try clear hi)) | (go_at_call 23; (with_reducible refine (lapidaryref09_Right.calls k _ _ l1 t548 _ ?side1 ?side2 A7.out).mono ?_); (case side1 => repeat (first | exact (Kd.C_below HR1.out HB.out) | (with_reducible refine Kd.C_alloc ?_ _) | (with_reducible refine Kd.C_drewN ?_ _) | (with_reducible refine Kd.C_drew ?_))); (case side2 => exact HC1.out); rintro e w13 ⟨rfl, hb⟩; have n0_ := Aside0.mk (Kd.R_below (rK HO546) hb); have n1_ := Aside0.mk (blk_below (g := gb543) (o := .cells #[.int .i64 a0_0, .int .i64 a0_1, .int .i64 a0_2] 23 (0, 0)) (bK BK543) hb); have n2_ := Aside0.mk (below_step (bH HB) hb); clear HO546; clear BK543; clear HB; have HO546 := n0_; have BK543 := n1_; have HB := n2_; clear n0_ n1_ n2_; (try clear hb); (try clear hb2); (try clear hk); (try clear hi)))
   go_meet
   case rel => exact ⟨_, (!t548), (by first | rfl | (simp; done) | (simp [*]; done)), H', ⟨by first | omega | exact Nat.le_refl _⟩, ⟨bK BK543⟩, ⟨ bH HB⟩⟩
  ·replace c6 := Bool.eq_false_iff.mpr c6
   subst c6
   have H1 : (lapidaryref09_In.j0 k l1 true a0_0 a0_1 a0_2) = some r := by rw [if_neg (show ¬ (false = true) by decide)] at H; exact H
   clear H
   have H := H1
   clear H1
   have H' := Aside0.mk H
   clear H
   have hcz14_0 : w4.cell? ⟨gb543, 0, none⟩ = some (.int .i64 a0_0) := (blk_cell BK543.out 0).trans rfl
   have hcz14_1 : w4.cell? ⟨gb543, 1, none⟩ = some (.int .i64 a0_1) := (blk_cell BK543.out 1).trans rfl
   have hcz14_2 : w4.cell? ⟨gb543, 2, none⟩ = some (.int .i64 a0_2) := (blk_cell BK543.out 2).trans rfl
   have hfz14_0 := blk_frozen BK543.out 0
   have hfz14_1 := blk_frozen BK543.out 1
   have hfz14_2 := blk_frozen BK543.out 2
   go_wp2_with (first | ((with_reducible refine gate_dst (N := 12) rfl ?_); refine Kd.R_lit k23 _ 23 ?hg (N := 12) ?hd (xs := ([(⟨a0_0, a0_1, a0_2⟩ : S23)] : List (S23))) (inner := [.int .i64 a0_0, .int .i64 a0_1, .int .i64 a0_2]) (ok := fun _ => True) (okp := fun _ => True) ?hr ?hp (fun _ hk => hk) trivial (Below.refl _ _) (Nat.le_refl _) (by simp) ?_; (case hd => rfl); (case hg => rfl); (case hr => first | (go_simp; done) | (go_simp; rfl)); (case hp => exact (Reps.c3 (show Kd.M k23 _ _ _ (⟨a0_0, a0_1, a0_2⟩ : S23) [.int .i64 a0_0, .int .i64 a0_1, .int .i64 a0_2] from (k23_mkM _ _ _ (⟨a0_0, a0_1, a0_2⟩ : S23) )) (Reps.none _ _))); intro v545 w15 ho16 hb hg_ hnew_; clear hg_ hnew_; (first | rw [← Ny544.out] at ho16 | (simp only [Int.reduceToNat] at ho16; rw [← Ny544.out] at ho16)); have n0_ := Aside0.mk (Kd.R_lower (Kd.R_newB ho16 (g := gb543) (o := .cells #[.int .i64 a0_0, .int .i64 a0_1, .int .i64 a0_2] 23 (0, 0)) (bK BK543)) (below_size (bH HB))); have n1_ := Aside0.mk (blk_below (g := gb543) (o := .cells #[.int .i64 a0_0, .int .i64 a0_1, .int .i64 a0_2] 23 (0, 0)) (bK BK543) hb); have n2_ := Aside0.mk (below_step (bH HB) hb); clear BK543; clear HB; have HO546 := n0_; have BK543 := n1_; have HB := n2_; clear n0_ n1_ n2_; clear hb ho16; obtain ⟨Ao17, co17, eo17⟩ := Kd.R_slice HO546.out; subst eo17) | ((with_reducible refine gate_callee (f := 23) rfl ?_); refine goesL_ (some 13) rfl rfl Try.func23 (by kernel_rfl) rfl #[.slice Ao17 y544.length co17] rfl (by (try simp only [List.map_toArray, List.map_cons, List.map_nil]); first | done | rfl | (simp only [List.length_drop, List.length_take]; rfl)) ?_; (with_reducible refine (lapidaryref09_Right.calls k _ _ y544 false _ ?side1 ?side2 A5.out).mono ?_); (case side1 => repeat (first | exact (Kd.R_reads' HO546.out).2.2 | (with_reducible refine Kd.C_alloc ?_ _) | (with_reducible refine Kd.C_drewN ?_ _) | (with_reducible refine Kd.C_drew ?_))); (case side2 => exact (Kd.R_reads' HO546.out).2.1); rintro e w18 ⟨rfl, hb⟩; refine ⟨_, rfl, ?_⟩; have n0_ := Aside0.mk (Kd.R_below (rK HO546) hb); have n1_ := Aside0.mk (blk_below (g := gb543) (o := .cells #[.int .i64 a0_0, .int .i64 a0_1, .int .i64 a0_2] 23 (0, 0)) (bK BK543) hb); have n2_ := Aside0.mk (below_step (bH HB) hb); clear HO546; clear BK543; clear HB; have HO546 := n0_; have BK543 := n1_; have HB := n2_; clear n0_ n1_ n2_; (try clear hb); (try clear hb2); (try clear hk); (try clear hi)))
   go_meet
   case rel => exact ⟨_, (true), (by first | rfl | (simp; done) | (simp [*]; done)), H', ⟨by first | omega | exact Nat.le_refl _⟩, ⟨bK BK543⟩, ⟨ bH HB⟩⟩
 case rest =>
  clear HC3
  try clear c1
  try clear c2
  try clear p2
  try clear c3
  try clear c6
  try clear hcz14_0
  try clear hcz14_1
  try clear hcz14_2
  try clear hcz8_0
  try clear hcz8_1
  try clear hcz8_2
  try clear hfz14_0
  try clear hfz14_1
  try clear hfz14_2
  try clear hfz8_0
  try clear hfz8_1
  try clear hfz8_2
  obtain ⟨kq, x19_2, rfl, HA, HJ2, BK543, HB⟩ := hcut
  cases kq with
  | zero => exact absurd HA.out (by simp [lapidaryref09_In.j0])
  | succ kj2 =>
   have H := HA.out
   clear HA
   simp only [lapidaryref09_In.j0] at H
   by_cases c19 : x19_2 = true
   ·subst c19
    have H1 : (some 0) = some r := by rw [if_pos rfl] at H; exact H
    clear H
    have H := H1
    clear H1
    obtain rfl := Option.some.inj H
    go_wp2
    go_ret
    exact ⟨by first | rfl | (simp [errW_none, errW_some] <;> rfl) | (simp [*, errW_none, errW_some] <;> rfl), bH HB⟩
   ·replace c19 := Bool.eq_false_iff.mpr c19
    subst c19
    have H1 : (lapidaryref09_In.l0 kj2 l1 0 0 a0_0 a0_1 a0_2) = some r := by rw [if_neg (show ¬ (false = true) by decide)] at H; exact H
    clear H
    have H := H1
    clear H1
    have H' := Aside0.mk H
    clear H
    go_wp2
    go_loopg [5, 6] kj2 (fun kq v5 v6 w' => ∃ (x5_2 : Int) (x6_2 : Int), v5 = .int .i64 x5_2 ∧ v6 = .int .i64 x6_2 ∧ Aside0 (lapidaryref09_In.l0 kq l1 x5_2 x6_2 a0_0 a0_1 a0_2 = some r) ∧ Aside0 (kq ≤ kj2) ∧ Aside0 (w'.heap[gb543]? = some (.cells #[.int .i64 a0_0, .int .i64 a0_1, .int .i64 a0_2] 23 (0, 0))) ∧ Aside0 (Below w.heap.size w w'))
    case atStart => exact ⟨(0), (0), (by first | rfl | (simp; done) | (simp [*]; done)), (by first | rfl | (simp; done) | (simp [*]; done)), H', ⟨Nat.le_refl _⟩, ⟨bK BK543⟩, ⟨ bH HB⟩⟩
    case round =>
     clear H'
     try clear c1
     try clear c2
     try clear p2
     try clear c3
     try clear c6
     try clear c19
     try clear hcz14_0
     try clear hcz14_1
     try clear hcz14_2
     try clear hcz8_0
     try clear hcz8_1
     try clear hcz8_2
     try clear hfz14_0
     try clear hfz14_1
     try clear hfz14_2
     try clear hfz8_0
     try clear hfz8_1
     try clear hfz8_2
     try clear p2
     obtain ⟨x5_2, x6_2, rfl, rfl, HA, HK2, BK543, HB⟩ := hrel
     cases gk with
     | zero => exact absurd HA.out (by simp [lapidaryref09_In.l0])
     | succ k2 =>
      have H := HA.out
      clear HA
      simp only [lapidaryref09_In.l0] at H
      by_cases c20 : x6_2 < (l1.length : Int)
      ·rw [if_pos c20] at H
       have c20b0 : decide (x6_2 < (l1.length : Int)) = true := decide_eq_true c20
       clear c20
       by_cases c21 : 0 ≤ x6_2
       ·rw [if_pos c21] at H
        have c21b0 : decide (0 ≤ x6_2) = true := decide_eq_true c21
        clear c21
        by_cases c22 : 0 < (l1.length : Int)
        ·rw [if_pos c22] at H
         have c22b0 : decide (0 < (l1.length : Int)) = true := decide_eq_true c22
         have c22b1 : decide (0 < l1.length) = true := decide_eq_true (by omega)
         clear c22
         have HC23 := Aside0.mk H
         clear H
         have p549 : 0 ≤ (x6_2 : Int) := of_decide_eq_true (by first | (with_reducible assumption) | assumption)
         have q549 : x6_2 < (l1.length : Int) := of_decide_eq_true (by first | (with_reducible assumption) | assumption)
         obtain ⟨ad549, e549, hx549_0, hx549_1, hx549_2⟩ := at_T23 HR1.out x6_2 p549 q549
         cases e549
         replace hx549_0 := (HB.out.cell (World.block_lt_of_cell? w _ hx549_0)).trans hx549_0
         replace hx549_1 := (HB.out.cell (World.block_lt_of_cell? w _ hx549_1)).trans hx549_1
         replace hx549_2 := (HB.out.cell (World.block_lt_of_cell? w _ hx549_2)).trans hx549_2
         replace p549 := eq_true p549
         replace q549 := eq_true q549
         go_upto_if 37 with (first | ((with_reducible refine gate_dst (N := 7) rfl ?_); refine box_event ?hg (N := 7) ?hd (cs := #[.int .i64 0, .int .i64 0, .int .i64 0]) (t := 23) ?hr ?_; (case hd => rfl); (case hg => rfl); (case hr => first | (go_simp; done) | (go_simp; rfl)); intro gb550 hg w24 hbox hb; have n0_ := Aside0.mk (blk_below (g := gb543) (o := .cells #[.int .i64 a0_0, .int .i64 a0_1, .int .i64 a0_2] 23 (0, 0)) (bK BK543) hb); have n1_ := Aside0.mk (below_step (bH HB) hb); have n2_ := Aside0.mk (hbox); have n3_ := Aside0.mk ((by rw [hg]; exact (below_size (bH HB)) : w.heap.size ≤ gb550)); have n4_ := n3_; have n5_ := Aside0.mk ((by rw [hg]; exact Nat.ne_of_lt (blk_lt (bK BK543)) : gb543 ≠ gb550)); have n6_ := Aside0.mk ((by rw [hg]; exact Nat.ne_of_gt (blk_lt (bK BK543)) : gb550 ≠ gb543)); clear BK543; clear HB; have BK543 := n0_; have HB := n1_; have BK550 := n2_; have GW550 := n3_; have GE550 := n4_; have NB543_550 := n5_; have NB550_543 := n6_; clear n0_ n1_ n2_ n3_ n4_ n5_ n6_; clear hb hbox hg; have hnb25 := NB550_543.out; have hnc25 := NB543_550.out; have hcz26_0 : w24.cell? ⟨gb550, 0, none⟩ = some (.int .i64 0) := (blk_cell BK550.out 0).trans rfl; have hcz26_1 : w24.cell? ⟨gb550, 1, none⟩ = some (.int .i64 0) := (blk_cell BK550.out 1).trans rfl; have hcz26_2 : w24.cell? ⟨gb550, 2, none⟩ = some (.int .i64 0) := (blk_cell BK550.out 2).trans rfl; have hfz26_0 := blk_frozen BK550.out 0; have hfz26_1 := blk_frozen BK550.out 1; have hfz26_2 := blk_frozen BK550.out 2; have p551 : 0 ≤ (0 : Int) := (by omega); have q551 : 0 < (l1.length : Int) := of_decide_eq_true (by first | (with_reducible assumption) | assumption); obtain ⟨ad551, e551, hx551_0, hx551_1, hx551_2⟩ := at_T23 HR1.out 0 p551 q551; obtain rfl : ad549 = ad551 := (by injection e551); have qi551 : (0 < l1.length) = True := eq_true (by omega); (try rw [show ((0 : Int)).toNat = 0 from rfl] at hx551_0); (try rw [show 0 * 3 = 0 from rfl] at hx551_0); (try rw [Addr.add_zero'] at hx551_0); (try rw [show ((0 : Int)).toNat = 0 from rfl] at hx551_1); (try rw [show 0 * 3 = 0 from rfl] at hx551_1); (try rw [Addr.add_zero'] at hx551_1); (try rw [show ((0 : Int)).toNat = 0 from rfl] at hx551_2); (try rw [show 0 * 3 = 0 from rfl] at hx551_2); (try rw [Addr.add_zero'] at hx551_2); have hn551_0 : ad549.block ≠ gb550 := Nat.ne_of_lt (Nat.lt_of_lt_of_le (by have := World.block_lt_of_cell? _ _ hx551_0; first | rwa [add_block] at this | exact this) GW550.out); have hn551_1 : ad549.block ≠ gb550 := Nat.ne_of_lt (Nat.lt_of_lt_of_le (by have := World.block_lt_of_cell? _ _ hx551_0; first | rwa [add_block] at this | exact this) GW550.out); have hn551_2 : ad549.block ≠ gb550 := Nat.ne_of_lt (Nat.lt_of_lt_of_le (by have := World.block_lt_of_cell? _ _ hx551_0; first | rwa [add_block] at this | exact this) GW550.out); replace hx551_0 := (HB.out.cell (World.block_lt_of_cell? w _ hx551_0)).trans hx551_0; replace hx551_1 := (HB.out.cell (World.block_lt_of_cell? w _ hx551_1)).trans hx551_1; replace hx551_2 := (HB.out.cell (World.block_lt_of_cell? w _ hx551_2)).trans hx551_2; replace hx551_0 := (cell_far (p := ⟨gb550, 0, none⟩) (by first | (rw [add_block]; exact hn551_0) | (show (Addr.add _ _).block ≠ _; rw [add_block]; exact hn551_0) | exact hn551_0) (.int .i64 ((rd_T23 l1 x6_2).f0))).trans hx551_0; replace hx551_1 := (cell_far (p := ⟨gb550, 0, none⟩) (by first | (rw [add_block]; exact hn551_0) | (show (Addr.add _ _).block ≠ _; rw [add_block]; exact hn551_0) | exact hn551_0) (.int .i64 ((rd_T23 l1 x6_2).f0))).trans hx551_1; replace hx551_2 := (cell_far (p := ⟨gb550, 0, none⟩) (by first | (rw [add_block]; exact hn551_0) | (show (Addr.add _ _).block ≠ _; rw [add_block]; exact hn551_0) | exact hn551_0) (.int .i64 ((rd_T23 l1 x6_2).f0))).trans hx551_2; replace hx551_0 := (cell_far (p := ⟨gb550, 1, none⟩) (by first | (rw [add_block]; exact hn551_1) | (show (Addr.add _ _).block ≠ _; rw [add_block]; exact hn551_1) | exact hn551_1) (.int .i64 ((rd_T23 l1 x6_2).f1))).trans hx551_0; replace hx551_1 := (cell_far (p := ⟨gb550, 1, none⟩) (by first | (rw [add_block]; exact hn551_1) | (show (Addr.add _ _).block ≠ _; rw [add_block]; exact hn551_1) | exact hn551_1) (.int .i64 ((rd_T23 l1 x6_2).f1))).trans hx551_1; replace hx551_2 := (cell_far (p := ⟨gb550, 1, none⟩) (by first | (rw [add_block]; exact hn551_1) | (show (Addr.add _ _).block ≠ _; rw [add_block]; exact hn551_1) | exact hn551_1) (.int .i64 ((rd_T23 l1 x6_2).f1))).trans hx551_2; replace hx551_0 := (cell_far (p := ⟨gb550, 2, none⟩) (by first | (rw [add_block]; exact hn551_2) | (show (Addr.add _ _).block ≠ _; rw [add_block]; exact hn551_2) | exact hn551_2) (.int .i64 ((rd_T23 l1 x6_2).f2))).trans hx551_0; replace hx551_1 := (cell_far (p := ⟨gb550, 2, none⟩) (by first | (rw [add_block]; exact hn551_2) | (show (Addr.add _ _).block ≠ _; rw [add_block]; exact hn551_2) | exact hn551_2) (.int .i64 ((rd_T23 l1 x6_2).f2))).trans hx551_1; replace hx551_2 := (cell_far (p := ⟨gb550, 2, none⟩) (by first | (rw [add_block]; exact hn551_2) | (show (Addr.add _ _).block ≠ _; rw [add_block]; exact hn551_2) | exact hn551_2) (.int .i64 ((rd_T23 l1 x6_2).f2))).trans hx551_2; clear hn551_0; clear hn551_1; clear hn551_2; replace p551 := eq_true p551; replace q551 := eq_true q551) | ((with_reducible refine gate_dst (N := 8) rfl ?_); refine box_event ?hg (N := 8) ?hd (cs := #[.int .i64 0, .int .i64 0, .int .i64 0]) (t := 23) ?hr ?_; (case hd => rfl); (case hg => rfl); (case hr => first | (go_simp; done) | (go_simp; rfl)); intro gb552 hg w27 hbox hb; have n0_ := Aside0.mk (blk_below (g := gb543) (o := .cells #[.int .i64 a0_0, .int .i64 a0_1, .int .i64 a0_2] 23 (0, 0)) (bK BK543) hb); have n1_ := Aside0.mk (blk_below (g := gb550) (o := .cells #[.int .i64 ((rd_T23 l1 x6_2).f0), .int .i64 ((rd_T23 l1 x6_2).f1), .int .i64 ((rd_T23 l1 x6_2).f2)] 23 (0, 0)) (by (with_reducible repeat (first | refine blk_drewN ?_ _ | refine blk_drew ?_ | refine blk_alloc ?_ _)); refine blk_put (cs := #[.int .i64 ((rd_T23 l1 x6_2).f0), .int .i64 ((rd_T23 l1 x6_2).f1), .int .i64 0]) ?_ 2 _ rfl; (with_reducible repeat (first | refine blk_drewN ?_ _ | refine blk_drew ?_ | refine blk_alloc ?_ _)); refine blk_put (cs := #[.int .i64 ((rd_T23 l1 x6_2).f0), .int .i64 0, .int .i64 0]) ?_ 1 _ rfl; (with_reducible repeat (first | refine blk_drewN ?_ _ | refine blk_drew ?_ | refine blk_alloc ?_ _)); refine blk_put (cs := #[.int .i64 0, .int .i64 0, .int .i64 0]) ?_ 0 _ rfl; (with_reducible repeat (first | refine blk_drewN ?_ _ | refine blk_drew ?_ | refine blk_alloc ?_ _)); exact BK550.out) hb); have n2_ := Aside0.mk (below_step (bH HB) hb); have n3_ := Aside0.mk (hbox); have n4_ := Aside0.mk ((by rw [hg]; exact (below_size (bH HB)) : w.heap.size ≤ gb552)); have n5_ := n4_; have n6_ := Aside0.mk ((by rw [hg]; exact Nat.ne_of_lt (blk_lt (bK BK543)) : gb543 ≠ gb552)); have n7_ := Aside0.mk ((by rw [hg]; exact Nat.ne_of_gt (blk_lt (bK BK543)) : gb552 ≠ gb543)); have n8_ := Aside0.mk ((by rw [hg]; exact Nat.ne_of_lt (blk_lt (g := gb550) (o := .cells #[.int .i64 ((rd_T23 l1 x6_2).f0), .int .i64 ((rd_T23 l1 x6_2).f1), .int .i64 ((rd_T23 l1 x6_2).f2)] 23 (0, 0)) (by (with_reducible repeat (first | refine blk_drewN ?_ _ | refine blk_drew ?_ | refine blk_alloc ?_ _)); refine blk_put (cs := #[.int .i64 ((rd_T23 l1 x6_2).f0), .int .i64 ((rd_T23 l1 x6_2).f1), .int .i64 0]) ?_ 2 _ rfl; (with_reducible repeat (first | refine blk_drewN ?_ _ | refine blk_drew ?_ | refine blk_alloc ?_ _)); refine blk_put (cs := #[.int .i64 ((rd_T23 l1 x6_2).f0), .int .i64 0, .int .i64 0]) ?_ 1 _ rfl; (with_reducible repeat (first | refine blk_drewN ?_ _ | refine blk_drew ?_ | refine blk_alloc ?_ _)); refine blk_put (cs := #[.int .i64 0, .int .i64 0, .int .i64 0]) ?_ 0 _ rfl; (with_reducible repeat (first | refine blk_drewN ?_ _ | refine blk_drew ?_ | refine blk_alloc ?_ _)); exact BK550.out)) : gb550 ≠ gb552)); have n9_ := Aside0.mk ((by rw [hg]; exact Nat.ne_of_gt (blk_lt (g := gb550) (o := .cells #[.int .i64 ((rd_T23 l1 x6_2).f0), .int .i64 ((rd_T23 l1 x6_2).f1), .int .i64 ((rd_T23 l1 x6_2).f2)] 23 (0, 0)) (by (with_reducible repeat (first | refine blk_drewN ?_ _ | refine blk_drew ?_ | refine blk_alloc ?_ _)); refine blk_put (cs := #[.int .i64 ((rd_T23 l1 x6_2).f0), .int .i64 ((rd_T23 l1 x6_2).f1), .int .i64 0]) ?_ 2 _ rfl; (with_reducible repeat (first | refine blk_drewN ?_ _ | refine blk_drew ?_ | refine blk_alloc ?_ _)); refine blk_put (cs := #[.int .i64 ((rd_T23 l1 x6_2).f0), .int .i64 0, .int .i64 0]) ?_ 1 _ rfl; (with_reducible repeat (first | refine blk_drewN ?_ _ | refine blk_drew ?_ | refine blk_alloc ?_ _)); refine blk_put (cs := #[.int .i64 0, .int .i64 0, .int .i64 0]) ?_ 0 _ rfl; (with_reducible repeat (first | refine blk_drewN ?_ _ | refine blk_drew ?_ | refine blk_alloc ?_ _)); exact BK550.out)) : gb552 ≠ gb550)); clear BK543; clear BK550; clear HB; have BK543 := n0_; have BK550 := n1_; have HB := n2_; have BK552 := n3_; have GW552 := n4_; have GE552 := n5_; have NB543_552 := n6_; have NB552_543 := n7_; have NB550_552 := n8_; have NB552_550 := n9_; clear n0_ n1_ n2_ n3_ n4_ n5_ n6_ n7_ n8_ n9_; clear hb hbox hg; have hnb28 := NB552_543.out; have hnc28 := NB543_552.out; have hnb29 := NB552_550.out; have hnc29 := NB550_552.out; have hcz30_0 : w27.cell? ⟨gb552, 0, none⟩ = some (.int .i64 0) := (blk_cell BK552.out 0).trans rfl; have hcz30_1 : w27.cell? ⟨gb552, 1, none⟩ = some (.int .i64 0) := (blk_cell BK552.out 1).trans rfl; have hcz30_2 : w27.cell? ⟨gb552, 2, none⟩ = some (.int .i64 0) := (blk_cell BK552.out 2).trans rfl; have hfz30_0 := blk_frozen BK552.out 0; have hfz30_1 := blk_frozen BK552.out 1; have hfz30_2 := blk_frozen BK552.out 2))
         (try simp only [Act.put, List.setIfInBounds_toArray, List.set_cons_zero, List.set_cons_succ])
         go_cut [] (fun wc => ∃ (kq : Nat) (x553000_22 : Int) (x553001_22 : Int) (x553002_22 : Int), Aside0 (lapidaryref09_In.j2 kq l1 x5_2 x6_2 a0_0 a0_1 a0_2 ((rd_T23 l1 x6_2).f0) ((rd_T23 l1 x6_2).f1) ((rd_T23 l1 x6_2).f2) x553000_22 x553001_22 x553002_22 = some r) ∧ Aside0 (kq ≤ k2) ∧ Aside0 (wc.heap[gb543]? = some (.cells #[.int .i64 a0_0, .int .i64 a0_1, .int .i64 a0_2] 23 (0, 0))) ∧ Aside0 (wc.heap[gb550]? = some (.cells #[.int .i64 ((rd_T23 l1 x6_2).f0), .int .i64 ((rd_T23 l1 x6_2).f1), .int .i64 ((rd_T23 l1 x6_2).f2)] 23 (0, 0))) ∧ Aside0 (wc.heap[gb552]? = some (.cells #[.int .i64 x553000_22, .int .i64 x553001_22, .int .i64 x553002_22] 23 (0, 0))) ∧ Aside0 (Below w.heap.size w wc))
         case first =>
          have H := HC23.out
          clear HC23
          by_cases c31 : (wrap64 (x6_2 + 1)) < (l1.length : Int)
          ·rw [if_pos c31] at H
           have c31b0 : decide ((wrap64 (x6_2 + 1)) < (l1.length : Int)) = true := decide_eq_true c31
           clear c31
           (first | rw [c31b0] | (simp only [i64_w, i32_w]; rw [c31b0]) | skip)
           obtain ⟨ji32, hji32⟩ : ∃ j_ : Int, (wrap64 (x6_2 + 1)) = j_ := ⟨_, rfl⟩
           replace H : (if 0 ≤ (ji32) then (lapidaryref09_In.j2 k2 l1 x5_2 x6_2 a0_0 a0_1 a0_2 ((rd_T23 l1 x6_2).f0) ((rd_T23 l1 x6_2).f1) ((rd_T23 l1 x6_2).f2) ((rd_T23 l1 (ji32)).f0) ((rd_T23 l1 (ji32)).f1) ((rd_T23 l1 (ji32)).f2)) else (none)) = some r := by first | (rw [hji32] at H; exact H) | (simp only [hji32] at H ⊢; exact H)
           (try rw [hji32] at c31b0)
           have hji32w : (IntKind.i64.wrap (x6_2 + 1)) = ji32 := (i64_w _).trans hji32
           by_cases c33 : 0 ≤ (ji32)
           ·rw [if_pos c33] at H
            have c33b0 : decide (0 ≤ (ji32)) = true := decide_eq_true c33
            clear c33
            have H' := Aside0.mk H
            clear H
            have p553 : 0 ≤ ((ji32) : Int) := of_decide_eq_true (by first | (with_reducible assumption) | assumption)
            have q553 : (ji32) < (l1.length : Int) := of_decide_eq_true (by first | (with_reducible assumption) | assumption)
            obtain ⟨ad553, e553, hx553_0, hx553_1, hx553_2⟩ := at_T23 HR1.out (ji32) p553 q553
            obtain rfl : ad549 = ad553 := (by injection e553)
            have hn553_0 : ad549.block ≠ gb552 := Nat.ne_of_lt (Nat.lt_of_lt_of_le (by have := World.block_lt_of_cell? _ _ hx553_0; first | rwa [add_block] at this | exact this) GW552.out)
            have hn553_1 : ad549.block ≠ gb552 := Nat.ne_of_lt (Nat.lt_of_lt_of_le (by have := World.block_lt_of_cell? _ _ hx553_0; first | rwa [add_block] at this | exact this) GW552.out)
            have hn553_2 : ad549.block ≠ gb552 := Nat.ne_of_lt (Nat.lt_of_lt_of_le (by have := World.block_lt_of_cell? _ _ hx553_0; first | rwa [add_block] at this | exact this) GW552.out)
            replace hx553_0 := (HB.out.cell (World.block_lt_of_cell? w _ hx553_0)).trans hx553_0
            replace hx553_1 := (HB.out.cell (World.block_lt_of_cell? w _ hx553_1)).trans hx553_1
            replace hx553_2 := (HB.out.cell (World.block_lt_of_cell? w _ hx553_2)).trans hx553_2
            replace hx553_0 := (cell_far (p := ⟨gb552, 0, none⟩) (by first | (rw [add_block]; exact hn553_0) | (show (Addr.add _ _).block ≠ _; rw [add_block]; exact hn553_0) | exact hn553_0) (.int .i64 ((rd_T23 l1 0).f0))).trans hx553_0
            replace hx553_1 := (cell_far (p := ⟨gb552, 0, none⟩) (by first | (rw [add_block]; exact hn553_0) | (show (Addr.add _ _).block ≠ _; rw [add_block]; exact hn553_0) | exact hn553_0) (.int .i64 ((rd_T23 l1 0).f0))).trans hx553_1
            replace hx553_2 := (cell_far (p := ⟨gb552, 0, none⟩) (by first | (rw [add_block]; exact hn553_0) | (show (Addr.add _ _).block ≠ _; rw [add_block]; exact hn553_0) | exact hn553_0) (.int .i64 ((rd_T23 l1 0).f0))).trans hx553_2
            replace hx553_0 := (cell_far (p := ⟨gb552, 1, none⟩) (by first | (rw [add_block]; exact hn553_1) | (show (Addr.add _ _).block ≠ _; rw [add_block]; exact hn553_1) | exact hn553_1) (.int .i64 ((rd_T23 l1 0).f1))).trans hx553_0
            replace hx553_1 := (cell_far (p := ⟨gb552, 1, none⟩) (by first | (rw [add_block]; exact hn553_1) | (show (Addr.add _ _).block ≠ _; rw [add_block]; exact hn553_1) | exact hn553_1) (.int .i64 ((rd_T23 l1 0).f1))).trans hx553_1
            replace hx553_2 := (cell_far (p := ⟨gb552, 1, none⟩) (by first | (rw [add_block]; exact hn553_1) | (show (Addr.add _ _).block ≠ _; rw [add_block]; exact hn553_1) | exact hn553_1) (.int .i64 ((rd_T23 l1 0).f1))).trans hx553_2
            replace hx553_0 := (cell_far (p := ⟨gb552, 2, none⟩) (by first | (rw [add_block]; exact hn553_2) | (show (Addr.add _ _).block ≠ _; rw [add_block]; exact hn553_2) | exact hn553_2) (.int .i64 ((rd_T23 l1 0).f2))).trans hx553_0
            replace hx553_1 := (cell_far (p := ⟨gb552, 2, none⟩) (by first | (rw [add_block]; exact hn553_2) | (show (Addr.add _ _).block ≠ _; rw [add_block]; exact hn553_2) | exact hn553_2) (.int .i64 ((rd_T23 l1 0).f2))).trans hx553_1
            replace hx553_2 := (cell_far (p := ⟨gb552, 2, none⟩) (by first | (rw [add_block]; exact hn553_2) | (show (Addr.add _ _).block ≠ _; rw [add_block]; exact hn553_2) | exact hn553_2) (.int .i64 ((rd_T23 l1 0).f2))).trans hx553_2
            clear hn553_0
            clear hn553_1
            clear hn553_2
            replace p553 := eq_true p553
            replace q553 := eq_true q553
            have hnb34 := NB552_543.out
            have hnc34 := NB543_552.out
            have hnb35 := NB552_550.out
            have hnc35 := NB550_552.out
            have hcz36_0 : w27.cell? ⟨gb552, 0, none⟩ = some (.int .i64 0) := (blk_cell BK552.out 0).trans rfl
            have hcz36_1 : w27.cell? ⟨gb552, 1, none⟩ = some (.int .i64 0) := (blk_cell BK552.out 1).trans rfl
            have hcz36_2 : w27.cell? ⟨gb552, 2, none⟩ = some (.int .i64 0) := (blk_cell BK552.out 2).trans rfl
            have hfz36_0 := blk_frozen BK552.out 0
            have hfz36_1 := blk_frozen BK552.out 1
            have hfz36_2 := blk_frozen BK552.out 2
            go_wp2
            go_meet
            case rel => exact ⟨_, ((rd_T23 l1 (ji32)).f0), ((rd_T23 l1 (ji32)).f1), ((rd_T23 l1 (ji32)).f2), H', ⟨by have := HJ2.out; have := HK2.out; first | omega | exact Nat.le_refl _⟩, ⟨bK BK543⟩, ⟨bK BK550⟩, ⟨by (with_reducible repeat (first | refine blk_drewN ?_ _ | refine blk_drew ?_ | refine blk_alloc ?_ _)); refine blk_put (cs := #[.int .i64 ((rd_T23 l1 (ji32)).f0), .int .i64 ((rd_T23 l1 (ji32)).f1), .int .i64 ((rd_T23 l1 0).f2)]) ?_ 2 _ rfl; (with_reducible repeat (first | refine blk_drewN ?_ _ | refine blk_drew ?_ | refine blk_alloc ?_ _)); refine blk_put (cs := #[.int .i64 ((rd_T23 l1 (ji32)).f0), .int .i64 ((rd_T23 l1 0).f1), .int .i64 ((rd_T23 l1 0).f2)]) ?_ 1 _ rfl; (with_reducible repeat (first | refine blk_drewN ?_ _ | refine blk_drew ?_ | refine blk_alloc ?_ _)); refine blk_put (cs := #[.int .i64 ((rd_T23 l1 0).f0), .int .i64 ((rd_T23 l1 0).f1), .int .i64 ((rd_T23 l1 0).f2)]) ?_ 0 _ rfl; (with_reducible repeat (first | refine blk_drewN ?_ _ | refine blk_drew ?_ | refine blk_alloc ?_ _)); refine blk_put (cs := #[.int .i64 ((rd_T23 l1 0).f0), .int .i64 ((rd_T23 l1 0).f1), .int .i64 0]) ?_ 2 _ rfl; (with_reducible repeat (first | refine blk_drewN ?_ _ | refine blk_drew ?_ | refine blk_alloc ?_ _)); refine blk_put (cs := #[.int .i64 ((rd_T23 l1 0).f0), .int .i64 0, .int .i64 0]) ?_ 1 _ rfl; (with_reducible repeat (first | refine blk_drewN ?_ _ | refine blk_drew ?_ | refine blk_alloc ?_ _)); refine blk_put (cs := #[.int .i64 0, .int .i64 0, .int .i64 0]) ?_ 0 _ rfl; (with_reducible repeat (first | refine blk_drewN ?_ _ | refine blk_drew ?_ | refine blk_alloc ?_ _)); exact BK552.out⟩, ⟨ bH HB⟩⟩
           ·rw [if_neg c33] at H
            exact absurd H (by simp)
          ·rw [if_neg c31] at H
           have c31b0 : decide ((wrap64 (x6_2 + 1)) < (l1.length : Int)) = false := decide_eq_false c31
           clear c31
           (first | rw [c31b0] | (simp only [i64_w, i32_w]; rw [c31b0]) | skip)
           have H' := Aside0.mk H
           clear H
           go_wp2
           go_meet
           case rel => exact ⟨_, ((rd_T23 l1 0).f0), ((rd_T23 l1 0).f1), ((rd_T23 l1 0).f2), H', ⟨by have := HJ2.out; have := HK2.out; first | omega | exact Nat.le_refl _⟩, ⟨bK BK543⟩, ⟨bK BK550⟩, ⟨by (with_reducible repeat (first | refine blk_drewN ?_ _ | refine blk_drew ?_ | refine blk_alloc ?_ _)); refine blk_put (cs := #[.int .i64 ((rd_T23 l1 0).f0), .int .i64 ((rd_T23 l1 0).f1), .int .i64 0]) ?_ 2 _ rfl; (with_reducible repeat (first | refine blk_drewN ?_ _ | refine blk_drew ?_ | refine blk_alloc ?_ _)); refine blk_put (cs := #[.int .i64 ((rd_T23 l1 0).f0), .int .i64 0, .int .i64 0]) ?_ 1 _ rfl; (with_reducible repeat (first | refine blk_drewN ?_ _ | refine blk_drew ?_ | refine blk_alloc ?_ _)); refine blk_put (cs := #[.int .i64 0, .int .i64 0, .int .i64 0]) ?_ 0 _ rfl; (with_reducible repeat (first | refine blk_drewN ?_ _ | refine blk_drew ?_ | refine blk_alloc ?_ _)); exact BK552.out⟩, ⟨ bH HB⟩⟩
         case rest =>
          clear HC23
          try clear c1
          try clear c2
          try clear p2
          try clear c3
          try clear p5
          try clear q5
          try clear hx5
          try clear qi5
          try clear c6
          try clear p6
          try clear c19
          try clear c20
          try clear c20b0
          try clear c21
          try clear c21b0
          try clear c22
          try clear c22b0
          try clear c22b1
          try clear c23
          try clear c25
          try clear c26
          try clear c28
          try clear c29
          try clear c31
          try clear c31b0
          try clear c33
          try clear c33b0
          try clear c34
          try clear c35
          try clear hcz14_0
          try clear hcz14_1
          try clear hcz14_2
          try clear hcz26_0
          try clear hcz26_1
          try clear hcz26_2
          try clear hcz30_0
          try clear hcz30_1
          try clear hcz30_2
          try clear hcz36_0
          try clear hcz36_1
          try clear hcz36_2
          try clear hcz8_0
          try clear hcz8_1
          try clear hcz8_2
          try clear hfz14_0
          try clear hfz14_1
          try clear hfz14_2
          try clear hfz26_0
          try clear hfz26_1
          try clear hfz26_2
          try clear hfz30_0
          try clear hfz30_1
          try clear hfz30_2
          try clear hfz36_0
          try clear hfz36_1
          try clear hfz36_2
          try clear hfz8_0
          try clear hfz8_1
          try clear hfz8_2
          try clear hx549_0
          try clear hx549_1
          try clear hx549_2
          try clear hx551_0
          try clear hx551_1
          try clear hx551_2
          try clear hx553_0
          try clear hx553_1
          try clear hx553_2
          try clear p2
          try clear p549
          try clear p551
          try clear p553
          try clear q549
          try clear q551
          try clear q553
          obtain ⟨kq, x553000_22, x553001_22, x553002_22, HA, HJ22, BK543, BK550, BK552, HB⟩ := hcut
          cases kq with
          | zero => exact absurd HA.out (by simp [lapidaryref09_In.j2])
          | succ kj22 =>
           have H := HA.out
           clear HA
           simp only [lapidaryref09_In.j2] at H
           replace H := Option.bind_eq_some_iff.mp H
           obtain ⟨t554, A370, H⟩ := H
           replace H : (if t554 = true then (some 0) else (if ((rd_T23 l1 x6_2).f1) ≤ a0_1 then (lapidaryref09_In.j3 kj22 l1 x5_2 x6_2 (decide (a0_1 < x553001_22)) a0_0 a0_1 a0_2 ((rd_T23 l1 x6_2).f0) ((rd_T23 l1 x6_2).f1) ((rd_T23 l1 x6_2).f2) x553000_22 x553001_22 x553002_22) else (lapidaryref09_In.j3 kj22 l1 x5_2 x6_2 false a0_0 a0_1 a0_2 ((rd_T23 l1 x6_2).f0) ((rd_T23 l1 x6_2).f1) ((rd_T23 l1 x6_2).f2) x553000_22 x553001_22 x553002_22))) = some r := H
           have A37 := Aside0.mk A370
           clear A370
           have HC38 := Aside0.mk H
           clear H
           have hnb39 := NB543_550.out
           have hnc39 := NB550_543.out
           have hnb40 := NB543_552.out
           have hnc40 := NB552_543.out
           have hcz41_0 : wc.cell? ⟨gb543, 0, none⟩ = some (.int .i64 a0_0) := (blk_cell BK543.out 0).trans rfl
           have hcz41_1 : wc.cell? ⟨gb543, 1, none⟩ = some (.int .i64 a0_1) := (blk_cell BK543.out 1).trans rfl
           have hcz41_2 : wc.cell? ⟨gb543, 2, none⟩ = some (.int .i64 a0_2) := (blk_cell BK543.out 2).trans rfl
           have hfz41_0 := blk_frozen BK543.out 0
           have hfz41_1 := blk_frozen BK543.out 1
           have hfz41_2 := blk_frozen BK543.out 2
           have hnb42 := NB550_552.out
           have hnc42 := NB552_550.out
           have hcz43_0 : wc.cell? ⟨gb550, 0, none⟩ = some (.int .i64 ((rd_T23 l1 x6_2).f0)) := (blk_cell BK550.out 0).trans rfl
           have hcz43_1 : wc.cell? ⟨gb550, 1, none⟩ = some (.int .i64 ((rd_T23 l1 x6_2).f1)) := (blk_cell BK550.out 1).trans rfl
           have hcz43_2 : wc.cell? ⟨gb550, 2, none⟩ = some (.int .i64 ((rd_T23 l1 x6_2).f2)) := (blk_cell BK550.out 2).trans rfl
           have hfz43_0 := blk_frozen BK550.out 0
           have hfz43_1 := blk_frozen BK550.out 1
           have hfz43_2 := blk_frozen BK550.out 2
           have hcz44_0 : wc.cell? ⟨gb552, 0, none⟩ = some (.int .i64 x553000_22) := (blk_cell BK552.out 0).trans rfl
           have hcz44_1 : wc.cell? ⟨gb552, 1, none⟩ = some (.int .i64 x553001_22) := (blk_cell BK552.out 1).trans rfl
           have hcz44_2 : wc.cell? ⟨gb552, 2, none⟩ = some (.int .i64 x553002_22) := (blk_cell BK552.out 2).trans rfl
           have hfz44_0 := blk_frozen BK552.out 0
           have hfz44_1 := blk_frozen BK552.out 1
           have hfz44_2 := blk_frozen BK552.out 2
           go_upto_if 46 with (first | ((with_reducible refine gate_callee (f := 15) rfl ?_); refine goesL_ (some 46) rfl rfl Try.func15 (by kernel_rfl) rfl #[.agg #[.int .i64 a0_0, .int .i64 a0_1, .int .i64 a0_2], .agg #[.int .i64 ((rd_T23 l1 x6_2).f0), .int .i64 ((rd_T23 l1 x6_2).f1), .int .i64 ((rd_T23 l1 x6_2).f2)], .agg #[.int .i64 x553000_22, .int .i64 x553001_22, .int .i64 x553002_22]] rfl (by (try simp only [List.map_toArray, List.map_cons, List.map_nil]); first | done | rfl | (simp only [List.length_drop, List.length_take]; rfl)) ?_; (with_reducible refine (lapidaryref09_On.calls kj22 a0_0 a0_1 a0_2 ((rd_T23 l1 x6_2).f0) ((rd_T23 l1 x6_2).f1) ((rd_T23 l1 x6_2).f2) x553000_22 x553001_22 x553002_22 t554 _ A37.out).mono ?_); rintro e w45 ⟨rfl, hb⟩; refine ⟨_, rfl, ?_⟩; have n0_ := Aside0.mk (blk_below (g := gb543) (o := .cells #[.int .i64 a0_0, .int .i64 a0_1, .int .i64 a0_2] 23 (0, 0)) (bK BK543) hb); have n1_ := Aside0.mk (blk_below (g := gb550) (o := .cells #[.int .i64 ((rd_T23 l1 x6_2).f0), .int .i64 ((rd_T23 l1 x6_2).f1), .int .i64 ((rd_T23 l1 x6_2).f2)] 23 (0, 0)) (bK BK550) hb); have n2_ := Aside0.mk (blk_below (g := gb552) (o := .cells #[.int .i64 x553000_22, .int .i64 x553001_22, .int .i64 x553002_22] 23 (0, 0)) (bK BK552) hb); have n3_ := Aside0.mk (below_step (bH HB) hb); clear BK543; clear BK550; clear BK552; clear HB; have BK543 := n0_; have BK550 := n1_; have BK552 := n2_; have HB := n3_; clear n0_ n1_ n2_ n3_; (try clear hb); (try clear hb2); (try clear hk); (try clear hi)))
           (try simp only [Act.put, List.setIfInBounds_toArray, List.set_cons_zero, List.set_cons_succ])
           have H := HC38.out
           clear HC38
           by_cases c46 : t554 = true
           ·subst c46
            have H1 : (some 0) = some r := by rw [if_pos rfl] at H; exact H
            clear H
            have H := H1
            clear H1
            obtain rfl := Option.some.inj H
            go_wp2
            go_ret
            exact ⟨by first | rfl | (simp [errW_none, errW_some] <;> rfl) | (simp [*, errW_none, errW_some] <;> rfl), bH HB⟩
           ·replace c46 := Bool.eq_false_iff.mpr c46
            subst c46
            have H1 : (if ((rd_T23 l1 x6_2).f1) ≤ a0_1 then (lapidaryref09_In.j3 kj22 l1 x5_2 x6_2 (decide (a0_1 < x553001_22)) a0_0 a0_1 a0_2 ((rd_T23 l1 x6_2).f0) ((rd_T23 l1 x6_2).f1) ((rd_T23 l1 x6_2).f2) x553000_22 x553001_22 x553002_22) else (lapidaryref09_In.j3 kj22 l1 x5_2 x6_2 false a0_0 a0_1 a0_2 ((rd_T23 l1 x6_2).f0) ((rd_T23 l1 x6_2).f1) ((rd_T23 l1 x6_2).f2) x553000_22 x553001_22 x553002_22)) = some r := by rw [if_neg (show ¬ (false = true) by decide)] at H; exact H
            clear H
            have H := H1
            clear H1
            have HC47 := Aside0.mk H
            clear H
            go_upto_region 13 with (fail)
            go_cut [9] (fun v9 wc => ∃ (kq : Nat) (x9_46 : Bool), v9 = .bool x9_46 ∧ Aside0 (lapidaryref09_In.j3 kq l1 x5_2 x6_2 x9_46 a0_0 a0_1 a0_2 ((rd_T23 l1 x6_2).f0) ((rd_T23 l1 x6_2).f1) ((rd_T23 l1 x6_2).f2) x553000_22 x553001_22 x553002_22 = some r) ∧ Aside0 (kq ≤ kj22) ∧ Aside0 (wc.heap[gb543]? = some (.cells #[.int .i64 a0_0, .int .i64 a0_1, .int .i64 a0_2] 23 (0, 0))) ∧ Aside0 (wc.heap[gb550]? = some (.cells #[.int .i64 ((rd_T23 l1 x6_2).f0), .int .i64 ((rd_T23 l1 x6_2).f1), .int .i64 ((rd_T23 l1 x6_2).f2)] 23 (0, 0))) ∧ Aside0 (wc.heap[gb552]? = some (.cells #[.int .i64 x553000_22, .int .i64 x553001_22, .int .i64 x553002_22] 23 (0, 0))) ∧ Aside0 (Below w.heap.size w wc))
            case first =>
             have H := HC47.out
             clear HC47
             by_cases c48 : ((rd_T23 l1 x6_2).f1) ≤ a0_1
             ·rw [if_pos c48] at H
              have c48b0 : decide (((rd_T23 l1 x6_2).f1) ≤ a0_1) = true := decide_eq_true c48
              clear c48
              (first | rw [c48b0] | (simp only [i64_w, i32_w]; rw [c48b0]) | skip)
              have H' := Aside0.mk H
              clear H
              have hnb49 := NB550_543.out
              have hnc49 := NB543_550.out
              have hnb50 := NB550_552.out
              have hnc50 := NB552_550.out
              have hcz51_0 : w45.cell? ⟨gb550, 0, none⟩ = some (.int .i64 ((rd_T23 l1 x6_2).f0)) := (blk_cell BK550.out 0).trans rfl
              have hcz51_1 : w45.cell? ⟨gb550, 1, none⟩ = some (.int .i64 ((rd_T23 l1 x6_2).f1)) := (blk_cell BK550.out 1).trans rfl
              have hcz51_2 : w45.cell? ⟨gb550, 2, none⟩ = some (.int .i64 ((rd_T23 l1 x6_2).f2)) := (blk_cell BK550.out 2).trans rfl
              have hfz51_0 := blk_frozen BK550.out 0
              have hfz51_1 := blk_frozen BK550.out 1
              have hfz51_2 := blk_frozen BK550.out 2
              have hnb52 := NB543_552.out
              have hnc52 := NB552_543.out
              have hcz53_0 : w45.cell? ⟨gb543, 0, none⟩ = some (.int .i64 a0_0) := (blk_cell BK543.out 0).trans rfl
              have hcz53_1 : w45.cell? ⟨gb543, 1, none⟩ = some (.int .i64 a0_1) := (blk_cell BK543.out 1).trans rfl
              have hcz53_2 : w45.cell? ⟨gb543, 2, none⟩ = some (.int .i64 a0_2) := (blk_cell BK543.out 2).trans rfl
              have hfz53_0 := blk_frozen BK543.out 0
              have hfz53_1 := blk_frozen BK543.out 1
              have hfz53_2 := blk_frozen BK543.out 2
              have hcz54_0 : w45.cell? ⟨gb552, 0, none⟩ = some (.int .i64 x553000_22) := (blk_cell BK552.out 0).trans rfl
              have hcz54_1 : w45.cell? ⟨gb552, 1, none⟩ = some (.int .i64 x553001_22) := (blk_cell BK552.out 1).trans rfl
              have hcz54_2 : w45.cell? ⟨gb552, 2, none⟩ = some (.int .i64 x553002_22) := (blk_cell BK552.out 2).trans rfl
              have hfz54_0 := blk_frozen BK552.out 0
              have hfz54_1 := blk_frozen BK552.out 1
              have hfz54_2 := blk_frozen BK552.out 2
              go_wp2
              go_meet
              case rel => exact ⟨_, (decide (a0_1 < x553001_22)), (by first | rfl | (simp; done) | (simp [*]; done)), H', ⟨by have := HJ2.out; have := HK2.out; have := HJ22.out; first | omega | exact Nat.le_refl _⟩, ⟨bK BK543⟩, ⟨bK BK550⟩, ⟨bK BK552⟩, ⟨ bH HB⟩⟩
             ·rw [if_neg c48] at H
              have c48b0 : decide (((rd_T23 l1 x6_2).f1) ≤ a0_1) = false := decide_eq_false c48
              clear c48
              (first | rw [c48b0] | (simp only [i64_w, i32_w]; rw [c48b0]) | skip)
              have H' := Aside0.mk H
              clear H
              have hnb55 := NB550_543.out
              have hnc55 := NB543_550.out
              have hnb56 := NB550_552.out
              have hnc56 := NB552_550.out
              have hcz57_0 : w45.cell? ⟨gb550, 0, none⟩ = some (.int .i64 ((rd_T23 l1 x6_2).f0)) := (blk_cell BK550.out 0).trans rfl
              have hcz57_1 : w45.cell? ⟨gb550, 1, none⟩ = some (.int .i64 ((rd_T23 l1 x6_2).f1)) := (blk_cell BK550.out 1).trans rfl
              have hcz57_2 : w45.cell? ⟨gb550, 2, none⟩ = some (.int .i64 ((rd_T23 l1 x6_2).f2)) := (blk_cell BK550.out 2).trans rfl
              have hfz57_0 := blk_frozen BK550.out 0
              have hfz57_1 := blk_frozen BK550.out 1
              have hfz57_2 := blk_frozen BK550.out 2
              have hnb58 := NB543_552.out
              have hnc58 := NB552_543.out
              have hcz59_0 : w45.cell? ⟨gb543, 0, none⟩ = some (.int .i64 a0_0) := (blk_cell BK543.out 0).trans rfl
              have hcz59_1 : w45.cell? ⟨gb543, 1, none⟩ = some (.int .i64 a0_1) := (blk_cell BK543.out 1).trans rfl
              have hcz59_2 : w45.cell? ⟨gb543, 2, none⟩ = some (.int .i64 a0_2) := (blk_cell BK543.out 2).trans rfl
              have hfz59_0 := blk_frozen BK543.out 0
              have hfz59_1 := blk_frozen BK543.out 1
              have hfz59_2 := blk_frozen BK543.out 2
              go_wp2
              go_meet
              case rel => exact ⟨_, (false), (by first | rfl | (simp; done) | (simp [*]; done)), H', ⟨by have := HJ2.out; have := HK2.out; have := HJ22.out; first | omega | exact Nat.le_refl _⟩, ⟨bK BK543⟩, ⟨bK BK550⟩, ⟨bK BK552⟩, ⟨ bH HB⟩⟩
            case rest =>
             clear HC47
             try clear c1
             try clear c2
             try clear p2
             try clear c3
             try clear c4
             try clear c5
             try clear p5
             try clear q5
             try clear hx5
             try clear qi5
             try clear c6
             try clear p6
             try clear c15
             try clear c19
             try clear c20
             try clear c20b0
             try clear c21
             try clear c21b0
             try clear c22
             try clear c22b0
             try clear c22b1
             try clear c23
             try clear c25
             try clear c26
             try clear c28
             try clear c29
             try clear c31
             try clear c31b0
             try clear c33
             try clear c33b0
             try clear c34
             try clear c35
             try clear c39
             try clear c40
             try clear c42
             try clear c46
             try clear c48
             try clear c48b0
             try clear c49
             try clear c50
             try clear c52
             try clear p54
             try clear q54
             try clear hx54
             try clear c55
             try clear p55
             try clear q55
             try clear hx55
             try clear qi55
             try clear c56
             try clear c58
             try clear hcz14_0
             try clear hcz14_1
             try clear hcz14_2
             try clear hcz26_0
             try clear hcz26_1
             try clear hcz26_2
             try clear hcz30_0
             try clear hcz30_1
             try clear hcz30_2
             try clear hcz36_0
             try clear hcz36_1
             try clear hcz36_2
             try clear hcz41_0
             try clear hcz41_1
             try clear hcz41_2
             try clear hcz43_0
             try clear hcz43_1
             try clear hcz43_2
             try clear hcz44_0
             try clear hcz44_1
             try clear hcz44_2
             try clear hcz51_0
             try clear hcz51_1
             try clear hcz51_2
             try clear hcz53_0
             try clear hcz53_1
             try clear hcz53_2
             try clear hcz54_0
             try clear hcz54_1
             try clear hcz54_2
             try clear hcz57_0
             try clear hcz57_1
             try clear hcz57_2
             try clear hcz59_0
             try clear hcz59_1
             try clear hcz59_2
             try clear hcz8_0
             try clear hcz8_1
             try clear hcz8_2
             try clear hfz14_0
             try clear hfz14_1
             try clear hfz14_2
             try clear hfz26_0
             try clear hfz26_1
             try clear hfz26_2
             try clear hfz30_0
             try clear hfz30_1
             try clear hfz30_2
             try clear hfz36_0
             try clear hfz36_1
             try clear hfz36_2
             try clear hfz41_0
             try clear hfz41_1
             try clear hfz41_2
             try clear hfz43_0
             try clear hfz43_1
             try clear hfz43_2
             try clear hfz44_0
             try clear hfz44_1
             try clear hfz44_2
             try clear hfz51_0
             try clear hfz51_1
             try clear hfz51_2
             try clear hfz53_0
             try clear hfz53_1
             try clear hfz53_2
             try clear hfz54_0
             try clear hfz54_1
             try clear hfz54_2
             try clear hfz57_0
             try clear hfz57_1
             try clear hfz57_2
             try clear hfz59_0
             try clear hfz59_1
             try clear hfz59_2
             try clear hfz8_0
             try clear hfz8_1
             try clear hfz8_2
             try clear hx549_0
             try clear hx549_1
             try clear hx549_2
             try clear hx551_0
             try clear hx551_1
             try clear hx551_2
             try clear hx553_0
             try clear hx553_1
             try clear hx553_2
             try clear p2
             try clear p5
             try clear p549
             try clear p551
             try clear p553
             try clear p6
             try clear q5
             try clear q549
             try clear q551
             try clear q553
             obtain ⟨kq, x9_46, rfl, HA, HJ46, BK543, BK550, BK552, HB⟩ := hcut
             cases kq with
             | zero => exact absurd HA.out (by simp [lapidaryref09_In.j3])
             | succ kj46 =>
              have H := HA.out
              clear HA
              simp only [lapidaryref09_In.j3] at H
              have HC60 := Aside0.mk H
              clear H
              go_upto_region 14 with (fail)
              go_cut [10] (fun v10 wc => ∃ (kq : Nat) (x10_59 : Bool), v10 = .bool x10_59 ∧ Aside0 (lapidaryref09_In.j4 kq l1 x5_2 x6_2 x9_46 x10_59 a0_0 a0_1 a0_2 ((rd_T23 l1 x6_2).f0) ((rd_T23 l1 x6_2).f1) ((rd_T23 l1 x6_2).f2) x553000_22 x553001_22 x553002_22 = some r) ∧ Aside0 (kq ≤ kj46) ∧ Aside0 (wc.heap[gb543]? = some (.cells #[.int .i64 a0_0, .int .i64 a0_1, .int .i64 a0_2] 23 (0, 0))) ∧ Aside0 (wc.heap[gb550]? = some (.cells #[.int .i64 ((rd_T23 l1 x6_2).f0), .int .i64 ((rd_T23 l1 x6_2).f1), .int .i64 ((rd_T23 l1 x6_2).f2)] 23 (0, 0))) ∧ Aside0 (wc.heap[gb552]? = some (.cells #[.int .i64 x553000_22, .int .i64 x553001_22, .int .i64 x553002_22] 23 (0, 0))) ∧ Aside0 (Below w.heap.size w wc))
              case first =>
               have H := HC60.out
               clear HC60
               by_cases c61 : x553001_22 ≤ a0_1
               ·rw [if_pos c61] at H
                have c61b0 : decide (x553001_22 ≤ a0_1) = true := decide_eq_true c61
                clear c61
                (first | rw [c61b0] | (simp only [i64_w, i32_w]; rw [c61b0]) | skip)
                have H' := Aside0.mk H
                clear H
                have hnb62 := NB552_543.out
                have hnc62 := NB543_552.out
                have hnb63 := NB552_550.out
                have hnc63 := NB550_552.out
                have hcz64_0 : wc.cell? ⟨gb552, 0, none⟩ = some (.int .i64 x553000_22) := (blk_cell BK552.out 0).trans rfl
                have hcz64_1 : wc.cell? ⟨gb552, 1, none⟩ = some (.int .i64 x553001_22) := (blk_cell BK552.out 1).trans rfl
                have hcz64_2 : wc.cell? ⟨gb552, 2, none⟩ = some (.int .i64 x553002_22) := (blk_cell BK552.out 2).trans rfl
                have hfz64_0 := blk_frozen BK552.out 0
                have hfz64_1 := blk_frozen BK552.out 1
                have hfz64_2 := blk_frozen BK552.out 2
                have hnb65 := NB543_550.out
                have hnc65 := NB550_543.out
                have hcz66_0 : wc.cell? ⟨gb543, 0, none⟩ = some (.int .i64 a0_0) := (blk_cell BK543.out 0).trans rfl
                have hcz66_1 : wc.cell? ⟨gb543, 1, none⟩ = some (.int .i64 a0_1) := (blk_cell BK543.out 1).trans rfl
                have hcz66_2 : wc.cell? ⟨gb543, 2, none⟩ = some (.int .i64 a0_2) := (blk_cell BK543.out 2).trans rfl
                have hfz66_0 := blk_frozen BK543.out 0
                have hfz66_1 := blk_frozen BK543.out 1
                have hfz66_2 := blk_frozen BK543.out 2
                have hcz67_0 : wc.cell? ⟨gb550, 0, none⟩ = some (.int .i64 ((rd_T23 l1 x6_2).f0)) := (blk_cell BK550.out 0).trans rfl
                have hcz67_1 : wc.cell? ⟨gb550, 1, none⟩ = some (.int .i64 ((rd_T23 l1 x6_2).f1)) := (blk_cell BK550.out 1).trans rfl
                have hcz67_2 : wc.cell? ⟨gb550, 2, none⟩ = some (.int .i64 ((rd_T23 l1 x6_2).f2)) := (blk_cell BK550.out 2).trans rfl
                have hfz67_0 := blk_frozen BK550.out 0
                have hfz67_1 := blk_frozen BK550.out 1
                have hfz67_2 := blk_frozen BK550.out 2
                go_wp2
                go_meet
                case rel => exact ⟨_, (decide (a0_1 < ((rd_T23 l1 x6_2).f1))), (by first | rfl | (simp; done) | (simp [*]; done)), H', ⟨by have := HJ2.out; have := HK2.out; have := HJ22.out; have := HJ46.out; first | omega | exact Nat.le_refl _⟩, ⟨bK BK543⟩, ⟨bK BK550⟩, ⟨bK BK552⟩, ⟨ bH HB⟩⟩
               ·rw [if_neg c61] at H
                have c61b0 : decide (x553001_22 ≤ a0_1) = false := decide_eq_false c61
                clear c61
                (first | rw [c61b0] | (simp only [i64_w, i32_w]; rw [c61b0]) | skip)
                have H' := Aside0.mk H
                clear H
                have hnb68 := NB552_543.out
                have hnc68 := NB543_552.out
                have hnb69 := NB552_550.out
                have hnc69 := NB550_552.out
                have hcz70_0 : wc.cell? ⟨gb552, 0, none⟩ = some (.int .i64 x553000_22) := (blk_cell BK552.out 0).trans rfl
                have hcz70_1 : wc.cell? ⟨gb552, 1, none⟩ = some (.int .i64 x553001_22) := (blk_cell BK552.out 1).trans rfl
                have hcz70_2 : wc.cell? ⟨gb552, 2, none⟩ = some (.int .i64 x553002_22) := (blk_cell BK552.out 2).trans rfl
                have hfz70_0 := blk_frozen BK552.out 0
                have hfz70_1 := blk_frozen BK552.out 1
                have hfz70_2 := blk_frozen BK552.out 2
                have hnb71 := NB543_550.out
                have hnc71 := NB550_543.out
                have hcz72_0 : wc.cell? ⟨gb543, 0, none⟩ = some (.int .i64 a0_0) := (blk_cell BK543.out 0).trans rfl
                have hcz72_1 : wc.cell? ⟨gb543, 1, none⟩ = some (.int .i64 a0_1) := (blk_cell BK543.out 1).trans rfl
                have hcz72_2 : wc.cell? ⟨gb543, 2, none⟩ = some (.int .i64 a0_2) := (blk_cell BK543.out 2).trans rfl
                have hfz72_0 := blk_frozen BK543.out 0
                have hfz72_1 := blk_frozen BK543.out 1
                have hfz72_2 := blk_frozen BK543.out 2
                go_wp2
                go_meet
                case rel => exact ⟨_, (false), (by first | rfl | (simp; done) | (simp [*]; done)), H', ⟨by have := HJ2.out; have := HK2.out; have := HJ22.out; have := HJ46.out; first | omega | exact Nat.le_refl _⟩, ⟨bK BK543⟩, ⟨bK BK550⟩, ⟨bK BK552⟩, ⟨ bH HB⟩⟩
              case rest =>
               clear HC60
               try clear c1
               try clear c2
               try clear p2
               try clear c3
               try clear c4
               try clear c5
               try clear p5
               try clear q5
               try clear hx5
               try clear qi5
               try clear c6
               try clear p6
               try clear c7
               try clear c15
               try clear c19
               try clear c20
               try clear c20b0
               try clear c21
               try clear c21b0
               try clear c22
               try clear c22b0
               try clear c22b1
               try clear c23
               try clear c25
               try clear c26
               try clear c28
               try clear c29
               try clear c31
               try clear c31b0
               try clear c33
               try clear c33b0
               try clear c34
               try clear c35
               try clear c39
               try clear c40
               try clear c42
               try clear c46
               try clear c48
               try clear c48b0
               try clear c49
               try clear c50
               try clear c52
               try clear p54
               try clear q54
               try clear hx54
               try clear c55
               try clear p55
               try clear q55
               try clear hx55
               try clear qi55
               try clear c56
               try clear c58
               try clear c61
               try clear c61b0
               try clear c62
               try clear c63
               try clear p64
               try clear c65
               try clear c68
               try clear c69
               try clear c71
               try clear hcz14_0
               try clear hcz14_1
               try clear hcz14_2
               try clear hcz26_0
               try clear hcz26_1
               try clear hcz26_2
               try clear hcz30_0
               try clear hcz30_1
               try clear hcz30_2
               try clear hcz36_0
               try clear hcz36_1
               try clear hcz36_2
               try clear hcz41_0
               try clear hcz41_1
               try clear hcz41_2
               try clear hcz43_0
               try clear hcz43_1
               try clear hcz43_2
               try clear hcz44_0
               try clear hcz44_1
               try clear hcz44_2
               try clear hcz51_0
               try clear hcz51_1
               try clear hcz51_2
               try clear hcz53_0
               try clear hcz53_1
               try clear hcz53_2
               try clear hcz54_0
               try clear hcz54_1
               try clear hcz54_2
               try clear hcz57_0
               try clear hcz57_1
               try clear hcz57_2
               try clear hcz59_0
               try clear hcz59_1
               try clear hcz59_2
               try clear hcz64_0
               try clear hcz64_1
               try clear hcz64_2
               try clear hcz66_0
               try clear hcz66_1
               try clear hcz66_2
               try clear hcz67_0
               try clear hcz67_1
               try clear hcz67_2
               try clear hcz70_0
               try clear hcz70_1
               try clear hcz70_2
               try clear hcz72_0
               try clear hcz72_1
               try clear hcz72_2
               try clear hcz8_0
               try clear hcz8_1
               try clear hcz8_2
               try clear hfz14_0
               try clear hfz14_1
               try clear hfz14_2
               try clear hfz26_0
               try clear hfz26_1
               try clear hfz26_2
               try clear hfz30_0
               try clear hfz30_1
               try clear hfz30_2
               try clear hfz36_0
               try clear hfz36_1
               try clear hfz36_2
               try clear hfz41_0
               try clear hfz41_1
               try clear hfz41_2
               try clear hfz43_0
               try clear hfz43_1
               try clear hfz43_2
               try clear hfz44_0
               try clear hfz44_1
               try clear hfz44_2
               try clear hfz51_0
               try clear hfz51_1
               try clear hfz51_2
               try clear hfz53_0
               try clear hfz53_1
               try clear hfz53_2
               try clear hfz54_0
               try clear hfz54_1
               try clear hfz54_2
               try clear hfz57_0
               try clear hfz57_1
               try clear hfz57_2
               try clear hfz59_0
               try clear hfz59_1
               try clear hfz59_2
               try clear hfz64_0
               try clear hfz64_1
               try clear hfz64_2
               try clear hfz66_0
               try clear hfz66_1
               try clear hfz66_2
               try clear hfz67_0
               try clear hfz67_1
               try clear hfz67_2
               try clear hfz70_0
               try clear hfz70_1
               try clear hfz70_2
               try clear hfz72_0
               try clear hfz72_1
               try clear hfz72_2
               try clear hfz8_0
               try clear hfz8_1
               try clear hfz8_2
               try clear hx549_0
               try clear hx549_1
               try clear hx549_2
               try clear hx551_0
               try clear hx551_1
               try clear hx551_2
               try clear hx553_0
               try clear hx553_1
               try clear hx553_2
               try clear p2
               try clear p5
               try clear p54
               try clear p549
               try clear p55
               try clear p551
               try clear p553
               try clear p6
               try clear q5
               try clear q54
               try clear q549
               try clear q55
               try clear q551
               try clear q553
               obtain ⟨kq, x10_59, rfl, HA, HJ59, BK543, BK550, BK552, HB⟩ := hcut
               cases kq with
               | zero => exact absurd HA.out (by simp [lapidaryref09_In.j4])
               | succ kj59 =>
                have H := HA.out
                clear HA
                simp only [lapidaryref09_In.j4] at H
                by_cases c73 : x9_46 = true
                ·subst c73
                 have H1 : ((lapidaryref09_Turn.f kj59 ((rd_T23 l1 x6_2).f0) ((rd_T23 l1 x6_2).f1) ((rd_T23 l1 x6_2).f2) x553000_22 x553001_22 x553002_22 a0_0 a0_1 a0_2).bind fun t555 => (if t555 > 0 then (lapidaryref09_In.l0 kj59 l1 (wrap64 (x5_2 + 1)) (wrap64 (x6_2 + 1)) a0_0 a0_1 a0_2) else (if x10_59 = true then ((lapidaryref09_Turn.f kj59 ((rd_T23 l1 x6_2).f0) ((rd_T23 l1 x6_2).f1) ((rd_T23 l1 x6_2).f2) x553000_22 x553001_22 x553002_22 a0_0 a0_1 a0_2).bind fun t556 => (if t556 < 0 then (lapidaryref09_In.l0 kj59 l1 (wrap64 (x5_2 + 1)) (wrap64 (x6_2 + 1)) a0_0 a0_1 a0_2) else (lapidaryref09_In.l0 kj59 l1 x5_2 (wrap64 (x6_2 + 1)) a0_0 a0_1 a0_2))) else (lapidaryref09_In.l0 kj59 l1 x5_2 (wrap64 (x6_2 + 1)) a0_0 a0_1 a0_2)))) = some r := by rw [if_pos rfl] at H; exact H
                 clear H
                 have H := H1
                 clear H1
                 replace H := Option.bind_eq_some_iff.mp H
                 obtain ⟨t555, A740, H⟩ := H
                 replace H : (if t555 > 0 then (lapidaryref09_In.l0 kj59 l1 (wrap64 (x5_2 + 1)) (wrap64 (x6_2 + 1)) a0_0 a0_1 a0_2) else (if x10_59 = true then ((lapidaryref09_Turn.f kj59 ((rd_T23 l1 x6_2).f0) ((rd_T23 l1 x6_2).f1) ((rd_T23 l1 x6_2).f2) x553000_22 x553001_22 x553002_22 a0_0 a0_1 a0_2).bind fun t556 => (if t556 < 0 then (lapidaryref09_In.l0 kj59 l1 (wrap64 (x5_2 + 1)) (wrap64 (x6_2 + 1)) a0_0 a0_1 a0_2) else (lapidaryref09_In.l0 kj59 l1 x5_2 (wrap64 (x6_2 + 1)) a0_0 a0_1 a0_2))) else (lapidaryref09_In.l0 kj59 l1 x5_2 (wrap64 (x6_2 + 1)) a0_0 a0_1 a0_2))) = some r := H
                 have A74 := Aside0.mk A740
                 clear A740
                 by_cases c75 : t555 > 0
                 ·rw [if_pos c75] at H
                  have c75b0 : decide (0 < t555) = true := decide_eq_true c75
                  clear c75
                  have H' := Aside0.mk H
                  clear H
                  have hnb76 := NB550_543.out
                  have hnc76 := NB543_550.out
                  have hnb77 := NB550_552.out
                  have hnc77 := NB552_550.out
                  have hcz78_0 : wc.cell? ⟨gb550, 0, none⟩ = some (.int .i64 ((rd_T23 l1 x6_2).f0)) := (blk_cell BK550.out 0).trans rfl
                  have hcz78_1 : wc.cell? ⟨gb550, 1, none⟩ = some (.int .i64 ((rd_T23 l1 x6_2).f1)) := (blk_cell BK550.out 1).trans rfl
                  have hcz78_2 : wc.cell? ⟨gb550, 2, none⟩ = some (.int .i64 ((rd_T23 l1 x6_2).f2)) := (blk_cell BK550.out 2).trans rfl
                  have hfz78_0 := blk_frozen BK550.out 0
                  have hfz78_1 := blk_frozen BK550.out 1
                  have hfz78_2 := blk_frozen BK550.out 2
                  have hnb79 := NB552_543.out
                  have hnc79 := NB543_552.out
                  have hcz80_0 : wc.cell? ⟨gb552, 0, none⟩ = some (.int .i64 x553000_22) := (blk_cell BK552.out 0).trans rfl
                  have hcz80_1 : wc.cell? ⟨gb552, 1, none⟩ = some (.int .i64 x553001_22) := (blk_cell BK552.out 1).trans rfl
                  have hcz80_2 : wc.cell? ⟨gb552, 2, none⟩ = some (.int .i64 x553002_22) := (blk_cell BK552.out 2).trans rfl
                  have hfz80_0 := blk_frozen BK552.out 0
                  have hfz80_1 := blk_frozen BK552.out 1
                  have hfz80_2 := blk_frozen BK552.out 2
                  have hcz81_0 : wc.cell? ⟨gb543, 0, none⟩ = some (.int .i64 a0_0) := (blk_cell BK543.out 0).trans rfl
                  have hcz81_1 : wc.cell? ⟨gb543, 1, none⟩ = some (.int .i64 a0_1) := (blk_cell BK543.out 1).trans rfl
                  have hcz81_2 : wc.cell? ⟨gb543, 2, none⟩ = some (.int .i64 a0_2) := (blk_cell BK543.out 2).trans rfl
                  have hfz81_0 := blk_frozen BK543.out 0
                  have hfz81_1 := blk_frozen BK543.out 1
                  have hfz81_2 := blk_frozen BK543.out 2
                  go_wp2_with (first | (go_at_call 21; (with_reducible refine (lapidaryref09_Turn.calls kj59 ((rd_T23 l1 x6_2).f0) ((rd_T23 l1 x6_2).f1) ((rd_T23 l1 x6_2).f2) x553000_22 x553001_22 x553002_22 a0_0 a0_1 a0_2 t555 _ A74.out).mono ?_); rintro e w82 ⟨rfl, hb⟩; have n0_ := Aside0.mk (blk_below (g := gb543) (o := .cells #[.int .i64 a0_0, .int .i64 a0_1, .int .i64 a0_2] 23 (0, 0)) (bK BK543) hb); have n1_ := Aside0.mk (blk_below (g := gb550) (o := .cells #[.int .i64 ((rd_T23 l1 x6_2).f0), .int .i64 ((rd_T23 l1 x6_2).f1), .int .i64 ((rd_T23 l1 x6_2).f2)] 23 (0, 0)) (bK BK550) hb); have n2_ := Aside0.mk (blk_below (g := gb552) (o := .cells #[.int .i64 x553000_22, .int .i64 x553001_22, .int .i64 x553002_22] 23 (0, 0)) (bK BK552) hb); have n3_ := Aside0.mk (below_step (bH HB) hb); clear BK543; clear BK550; clear BK552; clear HB; have BK543 := n0_; have BK550 := n1_; have BK552 := n2_; have HB := n3_; clear n0_ n1_ n2_ n3_; (try clear hb); (try clear hb2); (try clear hk); (try clear hi)))
                  go_roundg kj59
                  case measure => have := HJ2.out; have := HK2.out; have := HJ22.out; have := HJ46.out; have := HJ59.out; omega
                  case rel => exact ⟨(wrap64 (x5_2 + 1)), (wrap64 (x6_2 + 1)), (by first | rfl | (simp; done) | (simp [*]; done)), (by first | rfl | (simp; done) | (simp [*]; done)), H', ⟨by have := HJ2.out; have := HK2.out; have := HJ22.out; have := HJ46.out; have := HJ59.out; omega⟩, ⟨bK BK543⟩, ⟨ bH HB⟩⟩
                 ·rw [if_neg c75] at H
                  have c75b0 : decide (0 < t555) = false := decide_eq_false c75
                  clear c75
                  by_cases c83 : x10_59 = true
                  ·subst c83
                   have H1 : ((lapidaryref09_Turn.f kj59 ((rd_T23 l1 x6_2).f0) ((rd_T23 l1 x6_2).f1) ((rd_T23 l1 x6_2).f2) x553000_22 x553001_22 x553002_22 a0_0 a0_1 a0_2).bind fun t556 => (if t556 < 0 then (lapidaryref09_In.l0 kj59 l1 (wrap64 (x5_2 + 1)) (wrap64 (x6_2 + 1)) a0_0 a0_1 a0_2) else (lapidaryref09_In.l0 kj59 l1 x5_2 (wrap64 (x6_2 + 1)) a0_0 a0_1 a0_2))) = some r := by rw [if_pos rfl] at H; exact H
                   clear H
                   have H := H1
                   clear H1
                   replace H := Option.bind_eq_some_iff.mp H
                   obtain ⟨t556, A840, H⟩ := H
                   replace H : (if t556 < 0 then (lapidaryref09_In.l0 kj59 l1 (wrap64 (x5_2 + 1)) (wrap64 (x6_2 + 1)) a0_0 a0_1 a0_2) else (lapidaryref09_In.l0 kj59 l1 x5_2 (wrap64 (x6_2 + 1)) a0_0 a0_1 a0_2)) = some r := H
                   have A84 := Aside0.mk A840
                   clear A840
                   have HC85 := Aside0.mk H
                   clear H
                   have hnb86 := NB550_543.out
                   have hnc86 := NB543_550.out
                   have hnb87 := NB550_552.out
                   have hnc87 := NB552_550.out
                   have hcz88_0 : wc.cell? ⟨gb550, 0, none⟩ = some (.int .i64 ((rd_T23 l1 x6_2).f0)) := (blk_cell BK550.out 0).trans rfl
                   have hcz88_1 : wc.cell? ⟨gb550, 1, none⟩ = some (.int .i64 ((rd_T23 l1 x6_2).f1)) := (blk_cell BK550.out 1).trans rfl
                   have hcz88_2 : wc.cell? ⟨gb550, 2, none⟩ = some (.int .i64 ((rd_T23 l1 x6_2).f2)) := (blk_cell BK550.out 2).trans rfl
                   have hfz88_0 := blk_frozen BK550.out 0
                   have hfz88_1 := blk_frozen BK550.out 1
                   have hfz88_2 := blk_frozen BK550.out 2
                   have hnb89 := NB552_543.out
                   have hnc89 := NB543_552.out
                   have hcz90_0 : wc.cell? ⟨gb552, 0, none⟩ = some (.int .i64 x553000_22) := (blk_cell BK552.out 0).trans rfl
                   have hcz90_1 : wc.cell? ⟨gb552, 1, none⟩ = some (.int .i64 x553001_22) := (blk_cell BK552.out 1).trans rfl
                   have hcz90_2 : wc.cell? ⟨gb552, 2, none⟩ = some (.int .i64 x553002_22) := (blk_cell BK552.out 2).trans rfl
                   have hfz90_0 := blk_frozen BK552.out 0
                   have hfz90_1 := blk_frozen BK552.out 1
                   have hfz90_2 := blk_frozen BK552.out 2
                   have hcz91_0 : wc.cell? ⟨gb543, 0, none⟩ = some (.int .i64 a0_0) := (blk_cell BK543.out 0).trans rfl
                   have hcz91_1 : wc.cell? ⟨gb543, 1, none⟩ = some (.int .i64 a0_1) := (blk_cell BK543.out 1).trans rfl
                   have hcz91_2 : wc.cell? ⟨gb543, 2, none⟩ = some (.int .i64 a0_2) := (blk_cell BK543.out 2).trans rfl
                   have hfz91_0 := blk_frozen BK543.out 0
                   have hfz91_1 := blk_frozen BK543.out 1
                   have hfz91_2 := blk_frozen BK543.out 2
                   go_upto_if 88 with (first | (go_at_call 21; (with_reducible refine (lapidaryref09_Turn.calls kj59 ((rd_T23 l1 x6_2).f0) ((rd_T23 l1 x6_2).f1) ((rd_T23 l1 x6_2).f2) x553000_22 x553001_22 x553002_22 a0_0 a0_1 a0_2 t555 _ A74.out).mono ?_); rintro e w92 ⟨rfl, hb⟩; have n0_ := Aside0.mk (blk_below (g := gb543) (o := .cells #[.int .i64 a0_0, .int .i64 a0_1, .int .i64 a0_2] 23 (0, 0)) (bK BK543) hb); have n1_ := Aside0.mk (blk_below (g := gb550) (o := .cells #[.int .i64 ((rd_T23 l1 x6_2).f0), .int .i64 ((rd_T23 l1 x6_2).f1), .int .i64 ((rd_T23 l1 x6_2).f2)] 23 (0, 0)) (bK BK550) hb); have n2_ := Aside0.mk (blk_below (g := gb552) (o := .cells #[.int .i64 x553000_22, .int .i64 x553001_22, .int .i64 x553002_22] 23 (0, 0)) (bK BK552) hb); have n3_ := Aside0.mk (below_step (bH HB) hb); clear BK543; clear BK550; clear BK552; clear HB; have BK543 := n0_; have BK550 := n1_; have BK552 := n2_; have HB := n3_; clear n0_ n1_ n2_ n3_; (try clear hb); (try clear hb2); (try clear hk); (try clear hi); have hcz93_0 : w92.cell? ⟨gb550, 0, none⟩ = some (.int .i64 ((rd_T23 l1 x6_2).f0)) := (blk_cell BK550.out 0).trans rfl; have hcz93_1 : w92.cell? ⟨gb550, 1, none⟩ = some (.int .i64 ((rd_T23 l1 x6_2).f1)) := (blk_cell BK550.out 1).trans rfl; have hcz93_2 : w92.cell? ⟨gb550, 2, none⟩ = some (.int .i64 ((rd_T23 l1 x6_2).f2)) := (blk_cell BK550.out 2).trans rfl; have hfz93_0 := blk_frozen BK550.out 0; have hfz93_1 := blk_frozen BK550.out 1; have hfz93_2 := blk_frozen BK550.out 2; have hcz94_0 : w92.cell? ⟨gb552, 0, none⟩ = some (.int .i64 x553000_22) := (blk_cell BK552.out 0).trans rfl; have hcz94_1 : w92.cell? ⟨gb552, 1, none⟩ = some (.int .i64 x553001_22) := (blk_cell BK552.out 1).trans rfl; have hcz94_2 : w92.cell? ⟨gb552, 2, none⟩ = some (.int .i64 x553002_22) := (blk_cell BK552.out 2).trans rfl; have hfz94_0 := blk_frozen BK552.out 0; have hfz94_1 := blk_frozen BK552.out 1; have hfz94_2 := blk_frozen BK552.out 2; have hcz95_0 : w92.cell? ⟨gb543, 0, none⟩ = some (.int .i64 a0_0) := (blk_cell BK543.out 0).trans rfl; have hcz95_1 : w92.cell? ⟨gb543, 1, none⟩ = some (.int .i64 a0_1) := (blk_cell BK543.out 1).trans rfl; have hcz95_2 : w92.cell? ⟨gb543, 2, none⟩ = some (.int .i64 a0_2) := (blk_cell BK543.out 2).trans rfl; have hfz95_0 := blk_frozen BK543.out 0; have hfz95_1 := blk_frozen BK543.out 1; have hfz95_2 := blk_frozen BK543.out 2; (try clear A74)) | (go_at_call 21; (with_reducible refine (lapidaryref09_Turn.calls kj59 ((rd_T23 l1 x6_2).f0) ((rd_T23 l1 x6_2).f1) ((rd_T23 l1 x6_2).f2) x553000_22 x553001_22 x553002_22 a0_0 a0_1 a0_2 t556 _ A84.out).mono ?_); rintro e w96 ⟨rfl, hb⟩; have n0_ := Aside0.mk (blk_below (g := gb543) (o := .cells #[.int .i64 a0_0, .int .i64 a0_1, .int .i64 a0_2] 23 (0, 0)) (bK BK543) hb); have n1_ := Aside0.mk (blk_below (g := gb550) (o := .cells #[.int .i64 ((rd_T23 l1 x6_2).f0), .int .i64 ((rd_T23 l1 x6_2).f1), .int .i64 ((rd_T23 l1 x6_2).f2)] 23 (0, 0)) (bK BK550) hb); have n2_ := Aside0.mk (blk_below (g := gb552) (o := .cells #[.int .i64 x553000_22, .int .i64 x553001_22, .int .i64 x553002_22] 23 (0, 0)) (bK BK552) hb); have n3_ := Aside0.mk (below_step (bH HB) hb); clear BK543; clear BK550; clear BK552; clear HB; have BK543 := n0_; have BK550 := n1_; have BK552 := n2_; have HB := n3_; clear n0_ n1_ n2_ n3_; (try clear hb); (try clear hb2); (try clear hk); (try clear hi); (try clear A84)))
                   (try simp only [Act.put, List.setIfInBounds_toArray, List.set_cons_zero, List.set_cons_succ])
                   have H := HC85.out
                   clear HC85
                   by_cases c97 : t556 < 0
                   ·rw [if_pos c97] at H
                    have c97b0 : decide (t556 < 0) = true := decide_eq_true c97
                    clear c97
                    (first | rw [c97b0] | (simp only [i64_w, i32_w]; rw [c97b0]) | skip)
                    have H' := Aside0.mk H
                    clear H
                    go_wp2
                    go_roundg kj59
                    case measure => have := HJ2.out; have := HK2.out; have := HJ22.out; have := HJ46.out; have := HJ59.out; omega
                    case rel => exact ⟨(wrap64 (x5_2 + 1)), (wrap64 (x6_2 + 1)), (by first | rfl | (simp; done) | (simp [*]; done)), (by first | rfl | (simp; done) | (simp [*]; done)), H', ⟨by have := HJ2.out; have := HK2.out; have := HJ22.out; have := HJ46.out; have := HJ59.out; omega⟩, ⟨bK BK543⟩, ⟨ bH HB⟩⟩
                   ·rw [if_neg c97] at H
                    have c97b0 : decide (t556 < 0) = false := decide_eq_false c97
                    clear c97
                    (first | rw [c97b0] | (simp only [i64_w, i32_w]; rw [c97b0]) | skip)
                    have H' := Aside0.mk H
                    clear H
                    go_wp2
                    go_roundg kj59
                    case measure => have := HJ2.out; have := HK2.out; have := HJ22.out; have := HJ46.out; have := HJ59.out; omega
                    case rel => exact ⟨(x5_2), (wrap64 (x6_2 + 1)), (by first | rfl | (simp; done) | (simp [*]; done)), (by first | rfl | (simp; done) | (simp [*]; done)), H', ⟨by have := HJ2.out; have := HK2.out; have := HJ22.out; have := HJ46.out; have := HJ59.out; omega⟩, ⟨bK BK543⟩, ⟨ bH HB⟩⟩
                  ·replace c83 := Bool.eq_false_iff.mpr c83
                   subst c83
                   have H1 : (lapidaryref09_In.l0 kj59 l1 x5_2 (wrap64 (x6_2 + 1)) a0_0 a0_1 a0_2) = some r := by rw [if_neg (show ¬ (false = true) by decide)] at H; exact H
                   clear H
                   have H := H1
                   clear H1
                   have H' := Aside0.mk H
                   clear H
                   have hnb98 := NB550_543.out
                   have hnc98 := NB543_550.out
                   have hnb99 := NB550_552.out
                   have hnc99 := NB552_550.out
                   have hcz100_0 : wc.cell? ⟨gb550, 0, none⟩ = some (.int .i64 ((rd_T23 l1 x6_2).f0)) := (blk_cell BK550.out 0).trans rfl
                   have hcz100_1 : wc.cell? ⟨gb550, 1, none⟩ = some (.int .i64 ((rd_T23 l1 x6_2).f1)) := (blk_cell BK550.out 1).trans rfl
                   have hcz100_2 : wc.cell? ⟨gb550, 2, none⟩ = some (.int .i64 ((rd_T23 l1 x6_2).f2)) := (blk_cell BK550.out 2).trans rfl
                   have hfz100_0 := blk_frozen BK550.out 0
                   have hfz100_1 := blk_frozen BK550.out 1
                   have hfz100_2 := blk_frozen BK550.out 2
                   have hnb101 := NB552_543.out
                   have hnc101 := NB543_552.out
                   have hcz102_0 : wc.cell? ⟨gb552, 0, none⟩ = some (.int .i64 x553000_22) := (blk_cell BK552.out 0).trans rfl
                   have hcz102_1 : wc.cell? ⟨gb552, 1, none⟩ = some (.int .i64 x553001_22) := (blk_cell BK552.out 1).trans rfl
                   have hcz102_2 : wc.cell? ⟨gb552, 2, none⟩ = some (.int .i64 x553002_22) := (blk_cell BK552.out 2).trans rfl
                   have hfz102_0 := blk_frozen BK552.out 0
                   have hfz102_1 := blk_frozen BK552.out 1
                   have hfz102_2 := blk_frozen BK552.out 2
                   have hcz103_0 : wc.cell? ⟨gb543, 0, none⟩ = some (.int .i64 a0_0) := (blk_cell BK543.out 0).trans rfl
                   have hcz103_1 : wc.cell? ⟨gb543, 1, none⟩ = some (.int .i64 a0_1) := (blk_cell BK543.out 1).trans rfl
                   have hcz103_2 : wc.cell? ⟨gb543, 2, none⟩ = some (.int .i64 a0_2) := (blk_cell BK543.out 2).trans rfl
                   have hfz103_0 := blk_frozen BK543.out 0
                   have hfz103_1 := blk_frozen BK543.out 1
                   have hfz103_2 := blk_frozen BK543.out 2
                   go_wp2_with (first | (go_at_call 21; (with_reducible refine (lapidaryref09_Turn.calls kj59 ((rd_T23 l1 x6_2).f0) ((rd_T23 l1 x6_2).f1) ((rd_T23 l1 x6_2).f2) x553000_22 x553001_22 x553002_22 a0_0 a0_1 a0_2 t555 _ A74.out).mono ?_); rintro e w104 ⟨rfl, hb⟩; have n0_ := Aside0.mk (blk_below (g := gb543) (o := .cells #[.int .i64 a0_0, .int .i64 a0_1, .int .i64 a0_2] 23 (0, 0)) (bK BK543) hb); have n1_ := Aside0.mk (blk_below (g := gb550) (o := .cells #[.int .i64 ((rd_T23 l1 x6_2).f0), .int .i64 ((rd_T23 l1 x6_2).f1), .int .i64 ((rd_T23 l1 x6_2).f2)] 23 (0, 0)) (bK BK550) hb); have n2_ := Aside0.mk (blk_below (g := gb552) (o := .cells #[.int .i64 x553000_22, .int .i64 x553001_22, .int .i64 x553002_22] 23 (0, 0)) (bK BK552) hb); have n3_ := Aside0.mk (below_step (bH HB) hb); clear BK543; clear BK550; clear BK552; clear HB; have BK543 := n0_; have BK550 := n1_; have BK552 := n2_; have HB := n3_; clear n0_ n1_ n2_ n3_; (try clear hb); (try clear hb2); (try clear hk); (try clear hi)))
                   go_roundg kj59
                   case measure => have := HJ2.out; have := HK2.out; have := HJ22.out; have := HJ46.out; have := HJ59.out; omega
                   case rel => exact ⟨(x5_2), (wrap64 (x6_2 + 1)), (by first | rfl | (simp; done) | (simp [*]; done)), (by first | rfl | (simp; done) | (simp [*]; done)), H', ⟨by have := HJ2.out; have := HK2.out; have := HJ22.out; have := HJ46.out; have := HJ59.out; omega⟩, ⟨bK BK543⟩, ⟨ bH HB⟩⟩
                ·replace c73 := Bool.eq_false_iff.mpr c73
                 subst c73
                 have H1 : (if x10_59 = true then ((lapidaryref09_Turn.f kj59 ((rd_T23 l1 x6_2).f0) ((rd_T23 l1 x6_2).f1) ((rd_T23 l1 x6_2).f2) x553000_22 x553001_22 x553002_22 a0_0 a0_1 a0_2).bind fun t557 => (if t557 < 0 then (lapidaryref09_In.l0 kj59 l1 (wrap64 (x5_2 + 1)) (wrap64 (x6_2 + 1)) a0_0 a0_1 a0_2) else (lapidaryref09_In.l0 kj59 l1 x5_2 (wrap64 (x6_2 + 1)) a0_0 a0_1 a0_2))) else (lapidaryref09_In.l0 kj59 l1 x5_2 (wrap64 (x6_2 + 1)) a0_0 a0_1 a0_2)) = some r := by rw [if_neg (show ¬ (false = true) by decide)] at H; exact H
                 clear H
                 have H := H1
                 clear H1
                 by_cases c105 : x10_59 = true
                 ·subst c105
                  have H1 : ((lapidaryref09_Turn.f kj59 ((rd_T23 l1 x6_2).f0) ((rd_T23 l1 x6_2).f1) ((rd_T23 l1 x6_2).f2) x553000_22 x553001_22 x553002_22 a0_0 a0_1 a0_2).bind fun t557 => (if t557 < 0 then (lapidaryref09_In.l0 kj59 l1 (wrap64 (x5_2 + 1)) (wrap64 (x6_2 + 1)) a0_0 a0_1 a0_2) else (lapidaryref09_In.l0 kj59 l1 x5_2 (wrap64 (x6_2 + 1)) a0_0 a0_1 a0_2))) = some r := by rw [if_pos rfl] at H; exact H
                  clear H
                  have H := H1
                  clear H1
                  replace H := Option.bind_eq_some_iff.mp H
                  obtain ⟨t557, A1060, H⟩ := H
                  replace H : (if t557 < 0 then (lapidaryref09_In.l0 kj59 l1 (wrap64 (x5_2 + 1)) (wrap64 (x6_2 + 1)) a0_0 a0_1 a0_2) else (lapidaryref09_In.l0 kj59 l1 x5_2 (wrap64 (x6_2 + 1)) a0_0 a0_1 a0_2)) = some r := H
                  have A106 := Aside0.mk A1060
                  clear A1060
                  have HC107 := Aside0.mk H
                  clear H
                  have hnb108 := NB550_543.out
                  have hnc108 := NB543_550.out
                  have hnb109 := NB550_552.out
                  have hnc109 := NB552_550.out
                  have hcz110_0 : wc.cell? ⟨gb550, 0, none⟩ = some (.int .i64 ((rd_T23 l1 x6_2).f0)) := (blk_cell BK550.out 0).trans rfl
                  have hcz110_1 : wc.cell? ⟨gb550, 1, none⟩ = some (.int .i64 ((rd_T23 l1 x6_2).f1)) := (blk_cell BK550.out 1).trans rfl
                  have hcz110_2 : wc.cell? ⟨gb550, 2, none⟩ = some (.int .i64 ((rd_T23 l1 x6_2).f2)) := (blk_cell BK550.out 2).trans rfl
                  have hfz110_0 := blk_frozen BK550.out 0
                  have hfz110_1 := blk_frozen BK550.out 1
                  have hfz110_2 := blk_frozen BK550.out 2
                  have hnb111 := NB552_543.out
                  have hnc111 := NB543_552.out
                  have hcz112_0 : wc.cell? ⟨gb552, 0, none⟩ = some (.int .i64 x553000_22) := (blk_cell BK552.out 0).trans rfl
                  have hcz112_1 : wc.cell? ⟨gb552, 1, none⟩ = some (.int .i64 x553001_22) := (blk_cell BK552.out 1).trans rfl
                  have hcz112_2 : wc.cell? ⟨gb552, 2, none⟩ = some (.int .i64 x553002_22) := (blk_cell BK552.out 2).trans rfl
                  have hfz112_0 := blk_frozen BK552.out 0
                  have hfz112_1 := blk_frozen BK552.out 1
                  have hfz112_2 := blk_frozen BK552.out 2
                  have hcz113_0 : wc.cell? ⟨gb543, 0, none⟩ = some (.int .i64 a0_0) := (blk_cell BK543.out 0).trans rfl
                  have hcz113_1 : wc.cell? ⟨gb543, 1, none⟩ = some (.int .i64 a0_1) := (blk_cell BK543.out 1).trans rfl
                  have hcz113_2 : wc.cell? ⟨gb543, 2, none⟩ = some (.int .i64 a0_2) := (blk_cell BK543.out 2).trans rfl
                  have hfz113_0 := blk_frozen BK543.out 0
                  have hfz113_1 := blk_frozen BK543.out 1
                  have hfz113_2 := blk_frozen BK543.out 2
                  go_upto_if 88 with (first | (go_at_call 21; (with_reducible refine (lapidaryref09_Turn.calls kj59 ((rd_T23 l1 x6_2).f0) ((rd_T23 l1 x6_2).f1) ((rd_T23 l1 x6_2).f2) x553000_22 x553001_22 x553002_22 a0_0 a0_1 a0_2 t557 _ A106.out).mono ?_); rintro e w114 ⟨rfl, hb⟩; have n0_ := Aside0.mk (blk_below (g := gb543) (o := .cells #[.int .i64 a0_0, .int .i64 a0_1, .int .i64 a0_2] 23 (0, 0)) (bK BK543) hb); have n1_ := Aside0.mk (blk_below (g := gb550) (o := .cells #[.int .i64 ((rd_T23 l1 x6_2).f0), .int .i64 ((rd_T23 l1 x6_2).f1), .int .i64 ((rd_T23 l1 x6_2).f2)] 23 (0, 0)) (bK BK550) hb); have n2_ := Aside0.mk (blk_below (g := gb552) (o := .cells #[.int .i64 x553000_22, .int .i64 x553001_22, .int .i64 x553002_22] 23 (0, 0)) (bK BK552) hb); have n3_ := Aside0.mk (below_step (bH HB) hb); clear BK543; clear BK550; clear BK552; clear HB; have BK543 := n0_; have BK550 := n1_; have BK552 := n2_; have HB := n3_; clear n0_ n1_ n2_ n3_; (try clear hb); (try clear hb2); (try clear hk); (try clear hi)))
                  (try simp only [Act.put, List.setIfInBounds_toArray, List.set_cons_zero, List.set_cons_succ])
                  have H := HC107.out
                  clear HC107
                  by_cases c115 : t557 < 0
                  ·rw [if_pos c115] at H
                   have c115b0 : decide (t557 < 0) = true := decide_eq_true c115
                   clear c115
                   (first | rw [c115b0] | (simp only [i64_w, i32_w]; rw [c115b0]) | skip)
                   have H' := Aside0.mk H
                   clear H
                   go_wp2
                   go_roundg kj59
                   case measure => have := HJ2.out; have := HK2.out; have := HJ22.out; have := HJ46.out; have := HJ59.out; omega
                   case rel => exact ⟨(wrap64 (x5_2 + 1)), (wrap64 (x6_2 + 1)), (by first | rfl | (simp; done) | (simp [*]; done)), (by first | rfl | (simp; done) | (simp [*]; done)), H', ⟨by have := HJ2.out; have := HK2.out; have := HJ22.out; have := HJ46.out; have := HJ59.out; omega⟩, ⟨bK BK543⟩, ⟨ bH HB⟩⟩
                  ·rw [if_neg c115] at H
                   have c115b0 : decide (t557 < 0) = false := decide_eq_false c115
                   clear c115
                   (first | rw [c115b0] | (simp only [i64_w, i32_w]; rw [c115b0]) | skip)
                   have H' := Aside0.mk H
                   clear H
                   go_wp2
                   go_roundg kj59
                   case measure => have := HJ2.out; have := HK2.out; have := HJ22.out; have := HJ46.out; have := HJ59.out; omega
                   case rel => exact ⟨(x5_2), (wrap64 (x6_2 + 1)), (by first | rfl | (simp; done) | (simp [*]; done)), (by first | rfl | (simp; done) | (simp [*]; done)), H', ⟨by have := HJ2.out; have := HK2.out; have := HJ22.out; have := HJ46.out; have := HJ59.out; omega⟩, ⟨bK BK543⟩, ⟨ bH HB⟩⟩
                 ·replace c105 := Bool.eq_false_iff.mpr c105
                  subst c105
                  have H1 : (lapidaryref09_In.l0 kj59 l1 x5_2 (wrap64 (x6_2 + 1)) a0_0 a0_1 a0_2) = some r := by rw [if_neg (show ¬ (false = true) by decide)] at H; exact H
                  clear H
                  have H := H1
                  clear H1
                  have H' := Aside0.mk H
                  clear H
                  go_wp2
                  go_roundg kj59
                  case measure => have := HJ2.out; have := HK2.out; have := HJ22.out; have := HJ46.out; have := HJ59.out; omega
                  case rel => exact ⟨(x5_2), (wrap64 (x6_2 + 1)), (by first | rfl | (simp; done) | (simp [*]; done)), (by first | rfl | (simp; done) | (simp [*]; done)), H', ⟨by have := HJ2.out; have := HK2.out; have := HJ22.out; have := HJ46.out; have := HJ59.out; omega⟩, ⟨bK BK543⟩, ⟨ bH HB⟩⟩
        ·rw [if_neg c22] at H
         exact absurd H (by simp)
       ·rw [if_neg c21] at H
        exact absurd H (by simp)
      ·rw [if_neg c20] at H
       have c20b0 : decide (x6_2 < (l1.length : Int)) = false := decide_eq_false c20
       clear c20
       by_cases c116 : (Int.tmod x5_2 2) = 1
       ·rw [if_pos c116] at H
        have c116b0 : ((Int.tmod x5_2 2) == 1) = true := beq_iff_eq.mpr c116
        have c116b1 : ((Int.tmod x5_2 2) != 1) = false := bne_eq_false_iff_eq.mpr c116
        clear c116
        obtain rfl := Option.some.inj H
        go_wp2
        go_ret
        exact ⟨by first | rfl | (simp [errW_none, errW_some] <;> rfl) | (simp [*, errW_none, errW_some] <;> rfl), bH HB⟩
       ·rw [if_neg c116] at H
        have c116b0 : ((Int.tmod x5_2 2) == 1) = false := beq_eq_false_iff_ne.mpr c116
        have c116b1 : ((Int.tmod x5_2 2) != 1) = true := bne_iff_ne.mpr c116
        obtain rfl := Option.some.inj H
        go_wp2
        go_ret
        exact ⟨by first | rfl | (simp [errW_none, errW_some] <;> rfl) | (simp [*, errW_none, errW_some] <;> rfl), bH HB⟩

end Go.Proofs.Ytlnjbpapbifjfaa.P
