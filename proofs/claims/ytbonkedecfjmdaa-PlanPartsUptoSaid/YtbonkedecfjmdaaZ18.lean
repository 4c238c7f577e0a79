/- Written for this claim by a program of this session (a turned copy of the print): Go functions as Lean functions, and that the Go code comes to just these answers; or a statement proved out of them. No condition. -/
import Derived.Test.YtbonkedecfjmdaaZ2
import Derived.Test.YtbonkedecfjmdaaZ15
import Derived.Test.YtbonkedecfjmdaaZ16
import Derived.Test.YtbonkedecfjmdaaZ17

namespace Go.Proofs.Ytbonkedecfjmdaa.P
open Go.RowKit Go.Proofs.YtbonkedecfjmdaaW.PrintWords Go.Proofs.YtbonkedecfjmdaaW.PrintLast Go.Proofs.YtbonkedecfjmdaaW.PrintMore Go.Proofs.Ytbonkedecfjmdaa.X
attribute [local go_sem] max2_int min2_int max_two min_two max_three min_three max_four min_four add64_0 add64_1 add64
set_option linter.unusedVariables false
set_option linter.unusedSimpArgs false
mutual
def geom_In.j0 : Nat → List (S27) → Bool → Int → Int → Int → Option (Int)
 | 0, _, _, _, _, _ => none
 | k + 1, x1, x17, x663000, x663001, x663002 => if x17 = true then (some 0) else (geom_In.l0 k x1 (-1) x1 (x1.length : Int) 0 x663000 x663001 x663002)
def geom_In.l0 : Nat → List (S27) → Int → List (S27) → Int → Int → Int → Int → Int → Option (Int)
 | 0, _, _, _, _, _, _, _, _ => none
 | k + 1, x1, x5, x18, x19, x20, x663000, x663001, x663002 => if x20 < x19 then (if 0 ≤ x20 then (if x20 < (x18.length : Int) then (if (x1.length : Int) = 0 then (none) else (if 0 ≤ (Int.tmod (wrap64 (x20 + 1)) (x1.length : Int)) then (if (Int.tmod (wrap64 (x20 + 1)) (x1.length : Int)) < (x1.length : Int) then ((geom_On.f x663000 x663001 x663002 ((rd_T27 x18 x20).f0) ((rd_T27 x18 x20).f1) ((rd_T27 x18 x20).f2) ((rd_T27 x1 (Int.tmod (wrap64 (x20 + 1)) (x1.length : Int))).f0) ((rd_T27 x1 (Int.tmod (wrap64 (x20 + 1)) (x1.length : Int))).f1) ((rd_T27 x1 (Int.tmod (wrap64 (x20 + 1)) (x1.length : Int))).f2)).bind fun t672 => (if t672 = true then (some 0) else (if ((decide (((rd_T27 x18 x20).f1) > x663001)) == (decide (((rd_T27 x1 (Int.tmod (wrap64 (x20 + 1)) (x1.length : Int))).f1) > x663001))) = true then (geom_In.l0 k x1 x5 x18 x19 (wrap64 (x20 + 1)) x663000 x663001 x663002) else (if ((rd_T27 x1 (Int.tmod (wrap64 (x20 + 1)) (x1.length : Int))).f1) < ((rd_T27 x18 x20).f1) then ((geom_turn.f k ((rd_T27 x1 (Int.tmod (wrap64 (x20 + 1)) (x1.length : Int))).f0) ((rd_T27 x1 (Int.tmod (wrap64 (x20 + 1)) (x1.length : Int))).f1) ((rd_T27 x1 (Int.tmod (wrap64 (x20 + 1)) (x1.length : Int))).f2) ((rd_T27 x18 x20).f0) ((rd_T27 x18 x20).f1) ((rd_T27 x18 x20).f2) x663000 x663001 x663002).bind fun t673 => (if t673 > 0 then (geom_In.l0 k x1 (wrap64 (-x5)) x18 x19 (wrap64 (x20 + 1)) x663000 x663001 x663002) else (geom_In.l0 k x1 x5 x18 x19 (wrap64 (x20 + 1)) x663000 x663001 x663002))) else ((geom_turn.f k ((rd_T27 x18 x20).f0) ((rd_T27 x18 x20).f1) ((rd_T27 x18 x20).f2) ((rd_T27 x1 (Int.tmod (wrap64 (x20 + 1)) (x1.length : Int))).f0) ((rd_T27 x1 (Int.tmod (wrap64 (x20 + 1)) (x1.length : Int))).f1) ((rd_T27 x1 (Int.tmod (wrap64 (x20 + 1)) (x1.length : Int))).f2) x663000 x663001 x663002).bind fun t674 => (if t674 > 0 then (geom_In.l0 k x1 (wrap64 (-x5)) x18 x19 (wrap64 (x20 + 1)) x663000 x663001 x663002) else (geom_In.l0 k x1 x5 x18 x19 (wrap64 (x20 + 1)) x663000 x663001 x663002))))))) else (none)) else (none))) else (none)) else (none)) else (some x5)
end
def geom_In.f (k : Nat) (a0_0 : Int) (a0_1 : Int) (a0_2 : Int) (l1 : List (S27)) : Option (Int) := (geom_Right.f k (([(⟨a0_0, a0_1, a0_2⟩ : S27)] : List (S27)))).bind fun t666 => (if t666 = true then ((geom_Right.f k l1).bind fun t667 => (geom_In.j0 k l1 (!t667) a0_0 a0_1 a0_2)) else (geom_In.j0 k l1 true a0_0 a0_1 a0_2))
theorem geom_In.mono_l : ∀ k, (∀ y0 y1 y2 y3 y4, LeO (geom_In.j0 k y0 y1 y2 y3 y4) (geom_In.j0 (k + 1) y0 y1 y2 y3 y4)) ∧ (∀ y0 y1 y2 y3 y4 y5 y6 y7, LeO (geom_In.l0 k y0 y1 y2 y3 y4 y5 y6 y7) (geom_In.l0 (k + 1) y0 y1 y2 y3 y4 y5 y6 y7))
 | 0 => ⟨fun _ _ _ _ _ r h => by simp [geom_In.j0] at h, fun _ _ _ _ _ _ _ _ r h => by simp [geom_In.l0] at h⟩
 | k + 1 => by
  obtain ⟨ih0, ih1⟩ := geom_In.mono_l k
  refine ⟨?_, ?_⟩
  all_goals
   intros
   first | unfold geom_In.j0 | unfold geom_In.l0
   repeat' with_reducible first | exact ih0 _ _ _ _ _ | exact ih1 _ _ _ _ _ _ _ _ | exact geom_Right.mono _ _ | exact geom_turn.mono _ _ _ _ _ _ _ _ _ _ | exact LeO.refl _ | exact LeO.none _ | refine LeO.ite ?_ ?_ | refine LeO.bind ?_ (fun _ => ?_)
theorem geom_In.mono : ∀ a0 a1 a2 a3 k, LeO (geom_In.f k a0 a1 a2 a3) (geom_In.f (k + 1) a0 a1 a2 a3) := by
 intro a0 a1 a2 a3 k
 obtain ⟨ih0, ih1⟩ := geom_In.mono_l k
 unfold geom_In.f
 repeat' first
   | (with_reducible exact ih0 _ _ _ _ _)
   | (with_reducible exact ih1 _ _ _ _ _ _ _ _)
   | (with_reducible exact geom_Right.mono _ _)
   | (with_reducible exact geom_turn.mono _ _ _ _ _ _ _ _ _ _)
   | (with_reducible exact LeO.refl _)
   | (with_reducible exact LeO.none _)
   | (with_reducible refine LeO.ite ?_ ?_)
   | (with_reducible refine LeO.bind ?_ (fun _ => ?_))
   | exact ih0 _ _ _ _ _
   | exact ih1 _ _ _ _ _ _ _ _
   | exact geom_Right.mono _ _
   | exact geom_turn.mono _ _ _ _ _ _ _ _ _ _
   | exact LeO.none _
   | refine LeO.ite ?_ ?_
   | refine LeO.bind ?_ (fun _ => ?_)
set_option maxHeartbeats 8000000 in
set_option maxRecDepth 100000 in
theorem geom_In.calls (k : Nat) (a0_0 : Int) (a0_1 : Int) (a0_2 : Int) (A1 : Option Addr) (c1 : Nat) (l1 : List (S27)) (r : Int) (w : World) (hr1 : Kd.C k27 w A1 l1.length l1) (hc1 : l1.length ≤ c1) (h : geom_In.f k a0_0 a0_1 a0_2 l1 = some r) :
  Calls Try.prog 34 #[.agg #[.int .i64 a0_0, .int .i64 a0_1, .int .i64 a0_2], .slice A1 l1.length c1] w fun e w' => e = .returned (.int .i64 r) ∧ Below w.heap.size w w' := by
 have hu27 := Try.underlying27
 have HR1 := AM hr1
 have HC1 := AM hc1
 clear hr1 hc1
 have HB := AM (Below.refl w.heap.size w)
 have H : ((geom_Right.f k (([(⟨a0_0, a0_1, a0_2⟩ : S27)] : List (S27)))).bind fun t666 => (if t666 = true then ((geom_Right.f k l1).bind fun t667 => (geom_In.j0 k l1 (!t667) a0_0 a0_1 a0_2)) else (geom_In.j0 k l1 true a0_0 a0_1 a0_2))) = some r := h
 clear h
 have HC3 := AM H
 clear H
 go_enter Try.func34, Try.ntmps34
 go_upto_region 1 with (first | go_step3 | ((with_reducible refine gate_dst (N := 2) rfl ?_); refine bE 2 #[.int .i64 a0_0, .int .i64 a0_1, .int .i64 a0_2] 27 ?_; intro gb662 hg w4 hbox hb; have BK662 := AM hbox; have GW662 := kG HB hg; replace HB := kH HB hb; have GE662 := GW662; clear hb hbox hg))
 (try simp only [Act.put, List.setIfInBounds_toArray, List.set_cons_zero, List.set_cons_succ])
 go_cut [17] (fun v17 wc => ∃ (kq : Nat) (x17_2 : Bool), v17 = .bool x17_2 ∧ Aside0 (geom_In.j0 kq l1 x17_2 a0_0 a0_1 a0_2 = some r) ∧ Aside0 (kq ≤ k) ∧ Aside0 (wc.heap[gb662]? = some (.cells #[.int .i64 a0_0, .int .i64 a0_1, .int .i64 a0_2] 27 (0, 0))) ∧ Aside0 (Below w.heap.size w wc))
 case first =>
  have H := HC3.out; clear HC3
  obtain ⟨y663, hy663⟩ : ∃ y_ : List (S27), y_ = (([(⟨a0_0, a0_1, a0_2⟩ : S27)] : List (S27))) := ⟨_, rfl⟩
  replace H : ((geom_Right.f k y663).bind fun t666 => (if t666 = true then ((geom_Right.f k l1).bind fun t667 => (geom_In.j0 k l1 (!t667) a0_0 a0_1 a0_2)) else (geom_In.j0 k l1 true a0_0 a0_1 a0_2))) = some r := by first | (rw [hy663]; with_reducible exact H) | (have H2_ := (Option.bind_some _ _).symm.trans H; rw [hy663]; with_reducible exact H2_) | (have H2_ := (Option.bind_some _ _).symm.trans H; with_reducible exact H2_) | with_reducible exact H | (rw [hy663]; exact H) | exact H
  have Ny663 := AM hy663
  clear hy663
  obtain ⟨t666, A5, H⟩ := bS H
  by_cases c6 : t666 = true
  ·subst c6
   have H1 : ((geom_Right.f k l1).bind fun t667 => (geom_In.j0 k l1 (!t667) a0_0 a0_1 a0_2)) = some r := by rw [if_pos rfl] at H; exact H
   clear H; have H := H1; clear H1
   obtain ⟨t667, A7, H⟩ := bS H
   have H' := AM H
   clear H; obtain ⟨hcz8_0, hcz8_1, hcz8_2, hfz8_0, hfz8_1, hfz8_2⟩ := c3 BK662
   go_wp2_with (first | go_step3 | ((with_reducible refine gate_dst (N := 10) rfl ?_); refine Kd.R_lit k27 _ 27 ?hg (N := 10) ?hd (xs := ([(⟨a0_0, a0_1, a0_2⟩ : S27)] : List (S27))) (inner := [.int .i64 a0_0, .int .i64 a0_1, .int .i64 a0_2]) (ok := fun _ => True) (okp := fun _ => True) ?hr ?hp (fun _ hk => hk) trivial (Below.refl _ _) (Nat.le_refl _) (by simp) ?_; (case hd => rfl); (case hg => rfl); (case hr => first | (go_simp; done) | (go_simp; rfl)); (case hp => exact (Reps.c3 (show Kd.M k27 _ _ _ (⟨a0_0, a0_1, a0_2⟩ : S27) [.int .i64 a0_0, .int .i64 a0_1, .int .i64 a0_2] from (k27_mkM _ _ _ (⟨a0_0, a0_1, a0_2⟩ : S27) )) (Reps.none _ _))); intro v664 w9 ho10 hb hg_ hnew_; clear hg_ hnew_; (first | rw [← Ny663.out] at ho10 | (simp only [Int.reduceToNat] at ho10; rw [← Ny663.out] at ho10)); have HO665 := AM (Kd.R_lower (Kd.R_newB ho10 (g := gb662) (o := .cells #[.int .i64 a0_0, .int .i64 a0_1, .int .i64 a0_2] 27 (0, 0)) (bK BK662)) (below_size (bH HB))); replace BK662 := kB BK662 hb; replace HB := kH HB hb; clear hb ho10; obtain ⟨Ao11, co11, eo11⟩ := Kd.R_slice HO665.out; subst eo11) | ((with_reducible refine gate_callee (f := 32) rfl ?_); refine gL (some 11) Try.func32 #[.slice Ao11 y663.length co11] ?_; (with_reducible refine (geom_Right.calls k _ _ y663 true _ ?side1 ?side2 A5.out).mono ?_); (case side1 => exact sR HO665); (case side2 => exact (Kd.R_reads' HO665.out).2.1); rintro e w12 ⟨rfl, hb⟩; refine ⟨_, rfl, ?_⟩; replace HO665 := kR HO665 hb; replace BK662 := kB BK662 hb; replace HB := kH HB hb; (try clear hb); (try clear hb2); (try clear hk); (try clear hi)) | (go_at_call 32; (with_reducible refine (geom_Right.calls k _ _ l1 t667 _ ?side1 ?side2 A7.out).mono ?_); (case side1 => exact sC HR1 HB); (case side2 => exact HC1.out); rintro e w13 ⟨rfl, hb⟩; replace HO665 := kR HO665 hb; replace BK662 := kB BK662 hb; replace HB := kH HB hb; (try clear hb); (try clear hb2); (try clear hk); (try clear hi)))
   go_meet
   case rel => exact ⟨_, (!t667), rS, H', ⟨by first | omega | exact Nat.le_refl _⟩, ⟨bK BK662⟩, ⟨ bH HB⟩⟩
  ·replace c6 := Bool.eq_false_iff.mpr c6
   subst c6
   have H1 : (geom_In.j0 k l1 true a0_0 a0_1 a0_2) = some r := by rw [if_neg (show ¬ (false = true) by decide)] at H; exact H
   clear H; have H := H1; clear H1
   have H' := AM H
   clear H; obtain ⟨hcz14_0, hcz14_1, hcz14_2, hfz14_0, hfz14_1, hfz14_2⟩ := c3 BK662
   go_wp2_with (first | go_step3 | ((with_reducible refine gate_dst (N := 10) rfl ?_); refine Kd.R_lit k27 _ 27 ?hg (N := 10) ?hd (xs := ([(⟨a0_0, a0_1, a0_2⟩ : S27)] : List (S27))) (inner := [.int .i64 a0_0, .int .i64 a0_1, .int .i64 a0_2]) (ok := fun _ => True) (okp := fun _ => True) ?hr ?hp (fun _ hk => hk) trivial (Below.refl _ _) (Nat.le_refl _) (by simp) ?_; (case hd => rfl); (case hg => rfl); (case hr => first | (go_simp; done) | (go_simp; rfl)); (case hp => exact (Reps.c3 (show Kd.M k27 _ _ _ (⟨a0_0, a0_1, a0_2⟩ : S27) [.int .i64 a0_0, .int .i64 a0_1, .int .i64 a0_2] from (k27_mkM _ _ _ (⟨a0_0, a0_1, a0_2⟩ : S27) )) (Reps.none _ _))); intro v664 w15 ho16 hb hg_ hnew_; clear hg_ hnew_; (first | rw [← Ny663.out] at ho16 | (simp only [Int.reduceToNat] at ho16; rw [← Ny663.out] at ho16)); have HO665 := AM (Kd.R_lower (Kd.R_newB ho16 (g := gb662) (o := .cells #[.int .i64 a0_0, .int .i64 a0_1, .int .i64 a0_2] 27 (0, 0)) (bK BK662)) (below_size (bH HB))); replace BK662 := kB BK662 hb; replace HB := kH HB hb; clear hb ho16; obtain ⟨Ao17, co17, eo17⟩ := Kd.R_slice HO665.out; subst eo17) | ((with_reducible refine gate_callee (f := 32) rfl ?_); refine gL (some 11) Try.func32 #[.slice Ao17 y663.length co17] ?_; (with_reducible refine (geom_Right.calls k _ _ y663 false _ ?side1 ?side2 A5.out).mono ?_); (case side1 => exact sR HO665); (case side2 => exact (Kd.R_reads' HO665.out).2.1); rintro e w18 ⟨rfl, hb⟩; refine ⟨_, rfl, ?_⟩; replace HO665 := kR HO665 hb; replace BK662 := kB BK662 hb; replace HB := kH HB hb; (try clear hb); (try clear hb2); (try clear hk); (try clear hi)))
   go_meet
   case rel => exact ⟨_, (true), rS, H', ⟨by first | omega | exact Nat.le_refl _⟩, ⟨bK BK662⟩, ⟨ bH HB⟩⟩
 case rest =>
  clear HC3; (try clear c1); (try clear p2); (try clear c3); (try clear c6); (try clear hcz14_0); (try clear hcz14_1); (try clear hcz14_2); (try clear hcz8_0); (try clear hcz8_1); (try clear hcz8_2); (try clear hfz14_0); (try clear hfz14_1); (try clear hfz14_2); (try clear hfz8_0); (try clear hfz8_1); (try clear hfz8_2)
  obtain ⟨kq, x17_2, rfl, HA, HJ2, BK662, HB⟩ := hcut
  cases kq with
  | zero => exact absurd HA.out (by simp [geom_In.j0])
  | succ kj2 =>
   have H := HA.out; clear HA
   simp only [geom_In.j0] at H
   by_cases c19 : x17_2 = true
   ·subst c19
    have H1 : (some 0) = some r := by rw [if_pos rfl] at H; exact H
    clear H; have H := H1; clear H1
    obtain rfl := Option.some.inj H
    go_wp2_with (go_step3)
    (try rw [Exit.noGoto_ret])
    go_ret
    exact ⟨rE, bH HB⟩
   ·replace c19 := Bool.eq_false_iff.mpr c19
    subst c19
    have H1 : (geom_In.l0 kj2 l1 (-1) l1 (l1.length : Int) 0 a0_0 a0_1 a0_2) = some r := by rw [if_neg (show ¬ (false = true) by decide)] at H; exact H
    clear H; have H := H1; clear H1
    have H' := AM H
    clear H
    go_wp2_with (go_step3)
    go_loopg [5, 20] kj2 (fun kq v5 v20 w' => ∃ (x5_2 : Int) (x20_2 : Int), v5 = .int .i64 x5_2 ∧ v20 = .int .i64 x20_2 ∧ Aside0 (geom_In.l0 kq l1 x5_2 l1 (l1.length : Int) x20_2 a0_0 a0_1 a0_2 = some r) ∧ Aside0 (kq ≤ kj2) ∧ Aside0 (w'.heap[gb662]? = some (.cells #[.int .i64 a0_0, .int .i64 a0_1, .int .i64 a0_2] 27 (0, 0))) ∧ Aside0 (Below w.heap.size w w'))
    case atStart => exact ⟨((-1)), (0), rS, rS, H', ⟨Nat.le_refl _⟩, ⟨bK BK662⟩, ⟨ bH HB⟩⟩
    case round =>
     clear H'
     (try clear c1); (try clear p2); (try clear c3); (try clear c6); (try clear c19); (try clear hcz14_0); (try clear hcz14_1); (try clear hcz14_2); (try clear hcz8_0); (try clear hcz8_1); (try clear hcz8_2); (try clear hfz14_0); (try clear hfz14_1); (try clear hfz14_2); (try clear hfz8_0); (try clear hfz8_1); (try clear hfz8_2); (try clear p2)
     obtain ⟨x5_2, x20_2, rfl, rfl, HA, HK2, BK662, HB⟩ := hrel
     cases gk with
     | zero => exact absurd HA.out (by simp [geom_In.l0])
     | succ k2 =>
      have H := HA.out; clear HA
      simp only [geom_In.l0] at H
      by_cases c20 : x20_2 < (l1.length : Int)
      ·rw [if_pos c20] at H
       have c20b0 := decide_eq_true c20; clear c20
       by_cases c21 : 0 ≤ x20_2
       ·rw [if_pos c21] at H
        have c21b0 := decide_eq_true c21; clear c21
        by_cases c22 : x20_2 < (l1.length : Int)
        ·rw [if_pos c22] at H
         have c22b0 := decide_eq_true c22; clear c22
         by_cases c23 : (l1.length : Int) = 0
         ·rw [if_pos c23] at H
          exact absurd H (by simp)
         ·rw [if_neg c23] at H
          have c23b0 : ((l1.length : Int) == 0) = false := beq_eq_false_iff_ne.mpr c23
          have c23b1 : ((l1.length : Int) != 0) = true := bne_iff_ne.mpr c23
          have c23b2 : ¬ (l1 = []) := fun h_ => c23 (by rw [h_]; rfl)
          obtain ⟨ji24, hji24⟩ : ∃ j_ : Int, (Int.tmod (wrap64 (x20_2 + 1)) (l1.length : Int)) = j_ := ⟨_, rfl⟩
          replace H : (if 0 ≤ (ji24) then (if (ji24) < (l1.length : Int) then ((geom_On.f a0_0 a0_1 a0_2 ((rd_T27 l1 x20_2).f0) ((rd_T27 l1 x20_2).f1) ((rd_T27 l1 x20_2).f2) ((rd_T27 l1 (ji24)).f0) ((rd_T27 l1 (ji24)).f1) ((rd_T27 l1 (ji24)).f2)).bind fun t672 => (if t672 = true then (some 0) else (if ((decide (((rd_T27 l1 x20_2).f1) > a0_1)) == (decide (((rd_T27 l1 (ji24)).f1) > a0_1))) = true then (geom_In.l0 k2 l1 x5_2 l1 (l1.length : Int) (wrap64 (x20_2 + 1)) a0_0 a0_1 a0_2) else (if ((rd_T27 l1 (ji24)).f1) < ((rd_T27 l1 x20_2).f1) then ((geom_turn.f k2 ((rd_T27 l1 (ji24)).f0) ((rd_T27 l1 (ji24)).f1) ((rd_T27 l1 (ji24)).f2) ((rd_T27 l1 x20_2).f0) ((rd_T27 l1 x20_2).f1) ((rd_T27 l1 x20_2).f2) a0_0 a0_1 a0_2).bind fun t673 => (if t673 > 0 then (geom_In.l0 k2 l1 (wrap64 (-x5_2)) l1 (l1.length : Int) (wrap64 (x20_2 + 1)) a0_0 a0_1 a0_2) else (geom_In.l0 k2 l1 x5_2 l1 (l1.length : Int) (wrap64 (x20_2 + 1)) a0_0 a0_1 a0_2))) else ((geom_turn.f k2 ((rd_T27 l1 x20_2).f0) ((rd_T27 l1 x20_2).f1) ((rd_T27 l1 x20_2).f2) ((rd_T27 l1 (ji24)).f0) ((rd_T27 l1 (ji24)).f1) ((rd_T27 l1 (ji24)).f2) a0_0 a0_1 a0_2).bind fun t674 => (if t674 > 0 then (geom_In.l0 k2 l1 (wrap64 (-x5_2)) l1 (l1.length : Int) (wrap64 (x20_2 + 1)) a0_0 a0_1 a0_2) else (geom_In.l0 k2 l1 x5_2 l1 (l1.length : Int) (wrap64 (x20_2 + 1)) a0_0 a0_1 a0_2))))))) else (none)) else (none)) = some r := by first | (rw [hji24] at H; exact H) | (simp only [hji24] at H ⊢; exact H)
          by_cases c25 : 0 ≤ (ji24)
          ·rw [if_pos c25] at H
           have c25b0 := decide_eq_true c25; clear c25
           by_cases c26 : (ji24) < (l1.length : Int)
           ·rw [if_pos c26] at H
            have c26b0 := decide_eq_true c26; clear c26
            obtain ⟨t672, A27, H⟩ := bS H
            have HC28 := AM H
            clear H
            have p668 : 0 ≤ (x20_2 : Int) := pD
            have q668 : x20_2 < (l1.length : Int) := pD
            obtain ⟨ad668, e668, hx668_0, hx668_1, hx668_2⟩ := at_T27 HR1.out x20_2 p668 q668
            cases e668
            replace hx668_0 := hW HB hx668_0; replace hx668_1 := hW HB hx668_1; replace hx668_2 := hW HB hx668_2; replace p668 := eq_true p668; replace q668 := eq_true q668
            go_upto_if 36 with (first | go_step3 | ((with_reducible refine gate_dst (N := 7) rfl ?_); refine bE 7 #[.int .i64 0, .int .i64 0, .int .i64 0] 27 ?_; intro gb669 hg w29 hbox hb; have BK669 := AM hbox; have GW669 := kG HB hg; replace HB := kH HB hb; have GE669 := GW669; have NB662_669 := kN BK662 hg; have NB669_662 := kM BK662 hg; replace BK662 := kB BK662 hb; clear hb hbox hg; have hnb30 := NB669_662.out; have hnc30 := NB662_669.out; obtain ⟨hcz31_0, hcz31_1, hcz31_2, hfz31_0, hfz31_1, hfz31_2⟩ := c3 BK669; have p670 : 0 ≤ ((ji24) : Int) := pD; have q670 : (ji24) < (l1.length : Int) := pD; obtain ⟨ad670, e670, hx670_0, hx670_1, hx670_2⟩ := at_T27 HR1.out (ji24) p670 q670; obtain rfl : ad668 = ad670 := (by injection e670); have hn670_0 : ad668.block ≠ gb669 := Nat.ne_of_lt (Nat.lt_of_lt_of_le (by have := World.block_lt_of_cell? _ _ hx670_0; first | rwa [add_block] at this | exact this) GW669.out); have hn670_1 : ad668.block ≠ gb669 := Nat.ne_of_lt (Nat.lt_of_lt_of_le (by have := World.block_lt_of_cell? _ _ hx670_0; first | rwa [add_block] at this | exact this) GW669.out); have hn670_2 : ad668.block ≠ gb669 := Nat.ne_of_lt (Nat.lt_of_lt_of_le (by have := World.block_lt_of_cell? _ _ hx670_0; first | rwa [add_block] at this | exact this) GW669.out); replace hx670_0 := hW HB hx670_0; replace hx670_1 := hW HB hx670_1; replace hx670_2 := hW HB hx670_2; replace hx670_0 := (cell_far (p := ⟨gb669, 0, none⟩) (by first | (rw [add_block]; exact hn670_0) | (show (Addr.add _ _).block ≠ _; rw [add_block]; exact hn670_0) | exact hn670_0) (.int .i64 ((rd_T27 l1 x20_2).f0))).trans hx670_0; replace hx670_1 := (cell_far (p := ⟨gb669, 0, none⟩) (by first | (rw [add_block]; exact hn670_0) | (show (Addr.add _ _).block ≠ _; rw [add_block]; exact hn670_0) | exact hn670_0) (.int .i64 ((rd_T27 l1 x20_2).f0))).trans hx670_1; replace hx670_2 := (cell_far (p := ⟨gb669, 0, none⟩) (by first | (rw [add_block]; exact hn670_0) | (show (Addr.add _ _).block ≠ _; rw [add_block]; exact hn670_0) | exact hn670_0) (.int .i64 ((rd_T27 l1 x20_2).f0))).trans hx670_2; replace hx670_0 := (cell_far (p := ⟨gb669, 1, none⟩) (by first | (rw [add_block]; exact hn670_1) | (show (Addr.add _ _).block ≠ _; rw [add_block]; exact hn670_1) | exact hn670_1) (.int .i64 ((rd_T27 l1 x20_2).f1))).trans hx670_0; replace hx670_1 := (cell_far (p := ⟨gb669, 1, none⟩) (by first | (rw [add_block]; exact hn670_1) | (show (Addr.add _ _).block ≠ _; rw [add_block]; exact hn670_1) | exact hn670_1) (.int .i64 ((rd_T27 l1 x20_2).f1))).trans hx670_1; replace hx670_2 := (cell_far (p := ⟨gb669, 1, none⟩) (by first | (rw [add_block]; exact hn670_1) | (show (Addr.add _ _).block ≠ _; rw [add_block]; exact hn670_1) | exact hn670_1) (.int .i64 ((rd_T27 l1 x20_2).f1))).trans hx670_2; replace hx670_0 := (cell_far (p := ⟨gb669, 2, none⟩) (by first | (rw [add_block]; exact hn670_2) | (show (Addr.add _ _).block ≠ _; rw [add_block]; exact hn670_2) | exact hn670_2) (.int .i64 ((rd_T27 l1 x20_2).f2))).trans hx670_0; replace hx670_1 := (cell_far (p := ⟨gb669, 2, none⟩) (by first | (rw [add_block]; exact hn670_2) | (show (Addr.add _ _).block ≠ _; rw [add_block]; exact hn670_2) | exact hn670_2) (.int .i64 ((rd_T27 l1 x20_2).f2))).trans hx670_1; replace hx670_2 := (cell_far (p := ⟨gb669, 2, none⟩) (by first | (rw [add_block]; exact hn670_2) | (show (Addr.add _ _).block ≠ _; rw [add_block]; exact hn670_2) | exact hn670_2) (.int .i64 ((rd_T27 l1 x20_2).f2))).trans hx670_2; clear hn670_0; clear hn670_1; clear hn670_2; replace p670 := eq_true p670; replace q670 := eq_true q670) | ((with_reducible refine gate_dst (N := 8) rfl ?_); refine bE 8 #[.int .i64 0, .int .i64 0, .int .i64 0] 27 ?_; intro gb671 hg w32 hbox hb; have BK671 := AM hbox; have GW671 := kG HB hg; replace HB := kH HB hb; have GE671 := GW671; have NB662_671 := kN BK662 hg; have NB671_662 := kM BK662 hg; replace BK662 := kB BK662 hb; have NB669_671 := AM (by rw [hg]; exact Nat.ne_of_lt (blk_lt (g := gb669) (o := .cells #[.int .i64 ((rd_T27 l1 x20_2).f0), .int .i64 ((rd_T27 l1 x20_2).f1), .int .i64 ((rd_T27 l1 x20_2).f2)] 27 (0, 0)) (by (with_reducible repeat (first | refine blk_drewN ?_ _ | refine blk_drew ?_ | refine blk_alloc ?_ _)); refine blk_put (cs := #[.int .i64 ((rd_T27 l1 x20_2).f0), .int .i64 ((rd_T27 l1 x20_2).f1), .int .i64 0]) ?_ 2 _ rfl; (with_reducible repeat (first | refine blk_drewN ?_ _ | refine blk_drew ?_ | refine blk_alloc ?_ _)); refine blk_put (cs := #[.int .i64 ((rd_T27 l1 x20_2).f0), .int .i64 0, .int .i64 0]) ?_ 1 _ rfl; (with_reducible repeat (first | refine blk_drewN ?_ _ | refine blk_drew ?_ | refine blk_alloc ?_ _)); refine blk_put (cs := #[.int .i64 0, .int .i64 0, .int .i64 0]) ?_ 0 _ rfl; (with_reducible repeat (first | refine blk_drewN ?_ _ | refine blk_drew ?_ | refine blk_alloc ?_ _)); exact BK669.out)) : gb669 ≠ gb671); have NB671_669 := AM (by rw [hg]; exact Nat.ne_of_gt (blk_lt (g := gb669) (o := .cells #[.int .i64 ((rd_T27 l1 x20_2).f0), .int .i64 ((rd_T27 l1 x20_2).f1), .int .i64 ((rd_T27 l1 x20_2).f2)] 27 (0, 0)) (by (with_reducible repeat (first | refine blk_drewN ?_ _ | refine blk_drew ?_ | refine blk_alloc ?_ _)); refine blk_put (cs := #[.int .i64 ((rd_T27 l1 x20_2).f0), .int .i64 ((rd_T27 l1 x20_2).f1), .int .i64 0]) ?_ 2 _ rfl; (with_reducible repeat (first | refine blk_drewN ?_ _ | refine blk_drew ?_ | refine blk_alloc ?_ _)); refine blk_put (cs := #[.int .i64 ((rd_T27 l1 x20_2).f0), .int .i64 0, .int .i64 0]) ?_ 1 _ rfl; (with_reducible repeat (first | refine blk_drewN ?_ _ | refine blk_drew ?_ | refine blk_alloc ?_ _)); refine blk_put (cs := #[.int .i64 0, .int .i64 0, .int .i64 0]) ?_ 0 _ rfl; (with_reducible repeat (first | refine blk_drewN ?_ _ | refine blk_drew ?_ | refine blk_alloc ?_ _)); exact BK669.out)) : gb671 ≠ gb669); replace BK669 := AM (blk_below (g := gb669) (o := .cells #[.int .i64 ((rd_T27 l1 x20_2).f0), .int .i64 ((rd_T27 l1 x20_2).f1), .int .i64 ((rd_T27 l1 x20_2).f2)] 27 (0, 0)) (by (with_reducible repeat (first | refine blk_drewN ?_ _ | refine blk_drew ?_ | refine blk_alloc ?_ _)); refine blk_put (cs := #[.int .i64 ((rd_T27 l1 x20_2).f0), .int .i64 ((rd_T27 l1 x20_2).f1), .int .i64 0]) ?_ 2 _ rfl; (with_reducible repeat (first | refine blk_drewN ?_ _ | refine blk_drew ?_ | refine blk_alloc ?_ _)); refine blk_put (cs := #[.int .i64 ((rd_T27 l1 x20_2).f0), .int .i64 0, .int .i64 0]) ?_ 1 _ rfl; (with_reducible repeat (first | refine blk_drewN ?_ _ | refine blk_drew ?_ | refine blk_alloc ?_ _)); refine blk_put (cs := #[.int .i64 0, .int .i64 0, .int .i64 0]) ?_ 0 _ rfl; (with_reducible repeat (first | refine blk_drewN ?_ _ | refine blk_drew ?_ | refine blk_alloc ?_ _)); exact BK669.out) hb); clear hb hbox hg; have hnb33 := NB671_662.out; have hnc33 := NB662_671.out; have hnb34 := NB671_669.out; have hnc34 := NB669_671.out; obtain ⟨hcz35_0, hcz35_1, hcz35_2, hfz35_0, hfz35_1, hfz35_2⟩ := c3 BK671; obtain ⟨hcz36_0, hcz36_1, hcz36_2, hfz36_0, hfz36_1, hfz36_2⟩ := c3 BK662; obtain ⟨hcz37_0, hcz37_1, hcz37_2, hfz37_0, hfz37_1, hfz37_2⟩ := c3 BK669) | ((with_reducible refine gate_callee (f := 59) rfl ?_); refine goesL_ (some 36) rfl rfl Try.func59 (by kernel_rfl) rfl #[.agg #[.int .i64 a0_0, .int .i64 a0_1, .int .i64 a0_2], .agg #[.int .i64 ((rd_T27 l1 x20_2).f0), .int .i64 ((rd_T27 l1 x20_2).f1), .int .i64 ((rd_T27 l1 x20_2).f2)], .agg #[.int .i64 ((rd_T27 l1 (ji24)).f0), .int .i64 ((rd_T27 l1 (ji24)).f1), .int .i64 ((rd_T27 l1 (ji24)).f2)]] rfl (by (try simp only [List.map_toArray, List.map_cons, List.map_nil]); first | done | (simp only [hji24]; rfl) | rfl | (simp only [List.length_drop, List.length_take]; rfl)) ?_; (with_reducible refine (geom_On.calls a0_0 a0_1 a0_2 ((rd_T27 l1 x20_2).f0) ((rd_T27 l1 x20_2).f1) ((rd_T27 l1 x20_2).f2) ((rd_T27 l1 (ji24)).f0) ((rd_T27 l1 (ji24)).f1) ((rd_T27 l1 (ji24)).f2) t672 _ A27.out).mono ?_); rintro e w38 ⟨rfl, hb⟩; refine ⟨_, rfl, ?_⟩; replace BK662 := kB BK662 hb; replace BK669 := kB BK669 hb; replace BK671 := AM (blk_below (g := gb671) (o := .cells #[.int .i64 ((rd_T27 l1 (ji24)).f0), .int .i64 ((rd_T27 l1 (ji24)).f1), .int .i64 ((rd_T27 l1 (ji24)).f2)] 27 (0, 0)) (by (with_reducible repeat (first | refine blk_drewN ?_ _ | refine blk_drew ?_ | refine blk_alloc ?_ _)); refine blk_put (cs := #[.int .i64 ((rd_T27 l1 (ji24)).f0), .int .i64 ((rd_T27 l1 (ji24)).f1), .int .i64 0]) ?_ 2 _ rfl; (with_reducible repeat (first | refine blk_drewN ?_ _ | refine blk_drew ?_ | refine blk_alloc ?_ _)); refine blk_put (cs := #[.int .i64 ((rd_T27 l1 (ji24)).f0), .int .i64 0, .int .i64 0]) ?_ 1 _ rfl; (with_reducible repeat (first | refine blk_drewN ?_ _ | refine blk_drew ?_ | refine blk_alloc ?_ _)); refine blk_put (cs := #[.int .i64 0, .int .i64 0, .int .i64 0]) ?_ 0 _ rfl; (with_reducible repeat (first | refine blk_drewN ?_ _ | refine blk_drew ?_ | refine blk_alloc ?_ _)); exact BK671.out) hb); replace HB := kH HB hb; (try clear hb); (try clear hb2); (try clear hk); (try clear hi)))
            (try simp only [Act.put, List.setIfInBounds_toArray, List.set_cons_zero, List.set_cons_succ])
            have H := HC28.out; clear HC28
            by_cases c39 : t672 = true
            ·subst c39
             have H1 : (some 0) = some r := by rw [if_pos rfl] at H; exact H
             clear H; have H := H1; clear H1
             obtain rfl := Option.some.inj H
             go_wp2_with (go_step3)
             (try rw [Exit.noGoto_ret])
             go_ret
             exact ⟨by first | rfl | (simp [errW_none, errW_some] <;> rfl) | (simp only [← hji24]; first | rfl | (simp [errW_none, errW_some] <;> rfl)) | (simp [*, errW_none, errW_some] <;> rfl), bH HB⟩
            ·replace c39 := Bool.eq_false_iff.mpr c39
             subst c39
             have H1 : (if ((decide (((rd_T27 l1 x20_2).f1) > a0_1)) == (decide (((rd_T27 l1 (ji24)).f1) > a0_1))) = true then (geom_In.l0 k2 l1 x5_2 l1 (l1.length : Int) (wrap64 (x20_2 + 1)) a0_0 a0_1 a0_2) else (if ((rd_T27 l1 (ji24)).f1) < ((rd_T27 l1 x20_2).f1) then ((geom_turn.f k2 ((rd_T27 l1 (ji24)).f0) ((rd_T27 l1 (ji24)).f1) ((rd_T27 l1 (ji24)).f2) ((rd_T27 l1 x20_2).f0) ((rd_T27 l1 x20_2).f1) ((rd_T27 l1 x20_2).f2) a0_0 a0_1 a0_2).bind fun t673 => (if t673 > 0 then (geom_In.l0 k2 l1 (wrap64 (-x5_2)) l1 (l1.length : Int) (wrap64 (x20_2 + 1)) a0_0 a0_1 a0_2) else (geom_In.l0 k2 l1 x5_2 l1 (l1.length : Int) (wrap64 (x20_2 + 1)) a0_0 a0_1 a0_2))) else ((geom_turn.f k2 ((rd_T27 l1 x20_2).f0) ((rd_T27 l1 x20_2).f1) ((rd_T27 l1 x20_2).f2) ((rd_T27 l1 (ji24)).f0) ((rd_T27 l1 (ji24)).f1) ((rd_T27 l1 (ji24)).f2) a0_0 a0_1 a0_2).bind fun t674 => (if t674 > 0 then (geom_In.l0 k2 l1 (wrap64 (-x5_2)) l1 (l1.length : Int) (wrap64 (x20_2 + 1)) a0_0 a0_1 a0_2) else (geom_In.l0 k2 l1 x5_2 l1 (l1.length : Int) (wrap64 (x20_2 + 1)) a0_0 a0_1 a0_2))))) = some r := by rw [if_neg (show ¬ (false = true) by decide)] at H; exact H
             clear H; have H := H1; clear H1
             by_cases c40 : ((decide (((rd_T27 l1 x20_2).f1) > a0_1)) == (decide (((rd_T27 l1 (ji24)).f1) > a0_1))) = true
             ·rw [if_pos c40] at H
              have c40b0 : ((decide (((rd_T27 l1 x20_2).f1) > a0_1)) == (decide (((rd_T27 l1 (ji24)).f1) > a0_1))) = true := c40
              (try (have c40b1 : decide ((decide (((rd_T27 l1 x20_2).f1) > a0_1)) = (decide (((rd_T27 l1 (ji24)).f1) > a0_1))) = true := by simpa using c40))
              (try (have c40b2 : ((decide (((rd_T27 l1 x20_2).f1) > a0_1)) == (decide (((rd_T27 l1 (ji24)).f1) > a0_1))) = true := by simpa using c40))
              clear c40
              (first | rw [c40b0] | (simp only [i64_w, i32_w]; rw [c40b0]) | skip)
              have H' := AM H
              clear H; have hnb41 := NB669_662.out; have hnc41 := NB662_669.out; have hnb42 := NB669_671.out; have hnc42 := NB671_669.out; obtain ⟨hcz43_0, hcz43_1, hcz43_2, hfz43_0, hfz43_1, hfz43_2⟩ := c3 BK669; have hnb44 := NB662_671.out; have hnc44 := NB671_662.out; obtain ⟨hcz45_0, hcz45_1, hcz45_2, hfz45_0, hfz45_1, hfz45_2⟩ := c3 BK662; obtain ⟨hcz46_0, hcz46_1, hcz46_2, hfz46_0, hfz46_1, hfz46_2⟩ := c3 BK671
              go_wp2_with (go_step3)
              go_roundg k2
              case measure => have := HJ2.out; have := HK2.out; omega
              case rel => exact ⟨(x5_2), (wrap64 (x20_2 + 1)), rS, rS, H', ⟨by have := HJ2.out; have := HK2.out; omega⟩, ⟨bK BK662⟩, ⟨ bH HB⟩⟩
             ·rw [if_neg c40] at H
              have c40b0 : ((decide (((rd_T27 l1 x20_2).f1) > a0_1)) == (decide (((rd_T27 l1 (ji24)).f1) > a0_1))) = false := by simpa using c40
              (try (have c40b1 : decide ((decide (((rd_T27 l1 x20_2).f1) > a0_1)) = (decide (((rd_T27 l1 (ji24)).f1) > a0_1))) = false := by simpa using c40))
              (try (have c40b2 : ((decide (((rd_T27 l1 x20_2).f1) > a0_1)) == (decide (((rd_T27 l1 (ji24)).f1) > a0_1))) = false := by simpa using c40))
              (try (have c40b3 : ¬ ((decide (((rd_T27 l1 x20_2).f1) > a0_1)) = (decide (((rd_T27 l1 (ji24)).f1) > a0_1))) := by simpa using c40))
              clear c40
              (first | rw [c40b0] | (simp only [i64_w, i32_w]; rw [c40b0]) | skip)
              by_cases c47 : ((rd_T27 l1 (ji24)).f1) < ((rd_T27 l1 x20_2).f1)
              ·rw [if_pos c47] at H
               have c47b0 := decide_eq_true c47; clear c47
               obtain ⟨t673, A48, H⟩ := bS H
               have HC49 := AM H
               clear H; have hnb50 := NB669_662.out; have hnc50 := NB662_669.out; have hnb51 := NB669_671.out; have hnc51 := NB671_669.out; obtain ⟨hcz52_0, hcz52_1, hcz52_2, hfz52_0, hfz52_1, hfz52_2⟩ := c3 BK669; have hnb53 := NB662_671.out; have hnc53 := NB671_662.out; obtain ⟨hcz54_0, hcz54_1, hcz54_2, hfz54_0, hfz54_1, hfz54_2⟩ := c3 BK662; obtain ⟨hcz55_0, hcz55_1, hcz55_2, hfz55_0, hfz55_1, hfz55_2⟩ := c3 BK671
               go_upto_if 59 with (first | go_step3 | ((with_reducible refine gate_callee (f := 60) rfl ?_); refine goesL_ (some 58) rfl rfl Try.func60 (by kernel_rfl) rfl #[.agg #[.int .i64 ((rd_T27 l1 (ji24)).f0), .int .i64 ((rd_T27 l1 (ji24)).f1), .int .i64 ((rd_T27 l1 (ji24)).f2)], .agg #[.int .i64 ((rd_T27 l1 x20_2).f0), .int .i64 ((rd_T27 l1 x20_2).f1), .int .i64 ((rd_T27 l1 x20_2).f2)], .agg #[.int .i64 a0_0, .int .i64 a0_1, .int .i64 a0_2]] rfl (by (try simp only [List.map_toArray, List.map_cons, List.map_nil]); first | done | (simp only [hji24]; rfl) | rfl | (simp only [List.length_drop, List.length_take]; rfl)) ?_; (with_reducible refine (geom_turn.calls k2 ((rd_T27 l1 (ji24)).f0) ((rd_T27 l1 (ji24)).f1) ((rd_T27 l1 (ji24)).f2) ((rd_T27 l1 x20_2).f0) ((rd_T27 l1 x20_2).f1) ((rd_T27 l1 x20_2).f2) a0_0 a0_1 a0_2 t673 _ A48.out).mono ?_); rintro e w56 ⟨rfl, hb⟩; refine ⟨_, rfl, ?_⟩; replace BK662 := kB BK662 hb; replace BK669 := AM (blk_below (g := gb669) (o := .cells #[.int .i64 ((rd_T27 l1 (ji24)).f0), .int .i64 ((rd_T27 l1 (ji24)).f1), .int .i64 ((rd_T27 l1 (ji24)).f2)] 27 (0, 0)) (by (with_reducible repeat (first | refine blk_drewN ?_ _ | refine blk_drew ?_ | refine blk_alloc ?_ _)); refine blk_far ?_ NB669_671.out _; (with_reducible repeat (first | refine blk_drewN ?_ _ | refine blk_drew ?_ | refine blk_alloc ?_ _)); refine blk_far ?_ NB669_671.out _; (with_reducible repeat (first | refine blk_drewN ?_ _ | refine blk_drew ?_ | refine blk_alloc ?_ _)); refine blk_far ?_ NB669_671.out _; (with_reducible repeat (first | refine blk_drewN ?_ _ | refine blk_drew ?_ | refine blk_alloc ?_ _)); refine blk_put (cs := #[.int .i64 ((rd_T27 l1 (ji24)).f0), .int .i64 ((rd_T27 l1 (ji24)).f1), .int .i64 ((rd_T27 l1 x20_2).f2)]) ?_ 2 _ rfl; (with_reducible repeat (first | refine blk_drewN ?_ _ | refine blk_drew ?_ | refine blk_alloc ?_ _)); refine blk_put (cs := #[.int .i64 ((rd_T27 l1 (ji24)).f0), .int .i64 ((rd_T27 l1 x20_2).f1), .int .i64 ((rd_T27 l1 x20_2).f2)]) ?_ 1 _ rfl; (with_reducible repeat (first | refine blk_drewN ?_ _ | refine blk_drew ?_ | refine blk_alloc ?_ _)); refine blk_put (cs := #[.int .i64 ((rd_T27 l1 x20_2).f0), .int .i64 ((rd_T27 l1 x20_2).f1), .int .i64 ((rd_T27 l1 x20_2).f2)]) ?_ 0 _ rfl; (with_reducible repeat (first | refine blk_drewN ?_ _ | refine blk_drew ?_ | refine blk_alloc ?_ _)); exact BK669.out) hb); replace BK671 := AM (blk_below (g := gb671) (o := .cells #[.int .i64 ((rd_T27 l1 x20_2).f0), .int .i64 ((rd_T27 l1 x20_2).f1), .int .i64 ((rd_T27 l1 x20_2).f2)] 27 (0, 0)) (by (with_reducible repeat (first | refine blk_drewN ?_ _ | refine blk_drew ?_ | refine blk_alloc ?_ _)); refine blk_put (cs := #[.int .i64 ((rd_T27 l1 x20_2).f0), .int .i64 ((rd_T27 l1 x20_2).f1), .int .i64 ((rd_T27 l1 (ji24)).f2)]) ?_ 2 _ rfl; (with_reducible repeat (first | refine blk_drewN ?_ _ | refine blk_drew ?_ | refine blk_alloc ?_ _)); refine blk_put (cs := #[.int .i64 ((rd_T27 l1 x20_2).f0), .int .i64 ((rd_T27 l1 (ji24)).f1), .int .i64 ((rd_T27 l1 (ji24)).f2)]) ?_ 1 _ rfl; (with_reducible repeat (first | refine blk_drewN ?_ _ | refine blk_drew ?_ | refine blk_alloc ?_ _)); refine blk_put (cs := #[.int .i64 ((rd_T27 l1 (ji24)).f0), .int .i64 ((rd_T27 l1 (ji24)).f1), .int .i64 ((rd_T27 l1 (ji24)).f2)]) ?_ 0 _ rfl; (with_reducible repeat (first | refine blk_drewN ?_ _ | refine blk_drew ?_ | refine blk_alloc ?_ _)); refine blk_far ?_ NB671_669.out _; (with_reducible repeat (first | refine blk_drewN ?_ _ | refine blk_drew ?_ | refine blk_alloc ?_ _)); refine blk_far ?_ NB671_669.out _; (with_reducible repeat (first | refine blk_drewN ?_ _ | refine blk_drew ?_ | refine blk_alloc ?_ _)); refine blk_far ?_ NB671_669.out _; (with_reducible repeat (first | refine blk_drewN ?_ _ | refine blk_drew ?_ | refine blk_alloc ?_ _)); exact BK671.out) hb); replace HB := kH HB hb; (try clear hb); (try clear hb2); (try clear hk); (try clear hi)))
               (try simp only [Act.put, List.setIfInBounds_toArray, List.set_cons_zero, List.set_cons_succ])
               have H := HC49.out; clear HC49
               by_cases c57 : t673 > 0
               ·rw [if_pos c57] at H
                have c57b0 := decide_eq_true c57; clear c57
                (first | rw [c57b0] | (simp only [i64_w, i32_w]; rw [c57b0]) | skip)
                have H' := AM H
                clear H
                go_wp2_with (go_step3)
                go_roundg k2
                case measure => have := HJ2.out; have := HK2.out; omega
                case rel => exact ⟨(wrap64 (-x5_2)), (wrap64 (x20_2 + 1)), rS, rS, H', ⟨by have := HJ2.out; have := HK2.out; omega⟩, ⟨bK BK662⟩, ⟨ bH HB⟩⟩
               ·rw [if_neg c57] at H
                have c57b0 := decide_eq_false c57; clear c57
                (first | rw [c57b0] | (simp only [i64_w, i32_w]; rw [c57b0]) | skip)
                have H' := AM H
                clear H
                go_wp2_with (go_step3)
                go_roundg k2
                case measure => have := HJ2.out; have := HK2.out; omega
                case rel => exact ⟨(x5_2), (wrap64 (x20_2 + 1)), rS, rS, H', ⟨by have := HJ2.out; have := HK2.out; omega⟩, ⟨bK BK662⟩, ⟨ bH HB⟩⟩
              ·rw [if_neg c47] at H
               have c47b0 := decide_eq_false c47; clear c47
               obtain ⟨t674, A58, H⟩ := bS H
               have HC59 := AM H
               clear H; have hnb60 := NB669_662.out; have hnc60 := NB662_669.out; have hnb61 := NB669_671.out; have hnc61 := NB671_669.out; obtain ⟨hcz62_0, hcz62_1, hcz62_2, hfz62_0, hfz62_1, hfz62_2⟩ := c3 BK669; have hnb63 := NB662_671.out; have hnc63 := NB671_662.out; obtain ⟨hcz64_0, hcz64_1, hcz64_2, hfz64_0, hfz64_1, hfz64_2⟩ := c3 BK662; obtain ⟨hcz65_0, hcz65_1, hcz65_2, hfz65_0, hfz65_1, hfz65_2⟩ := c3 BK671
               go_upto_if 59 with (first | go_step3 | ((with_reducible refine gate_callee (f := 60) rfl ?_); refine goesL_ (some 58) rfl rfl Try.func60 (by kernel_rfl) rfl #[.agg #[.int .i64 ((rd_T27 l1 x20_2).f0), .int .i64 ((rd_T27 l1 x20_2).f1), .int .i64 ((rd_T27 l1 x20_2).f2)], .agg #[.int .i64 ((rd_T27 l1 (ji24)).f0), .int .i64 ((rd_T27 l1 (ji24)).f1), .int .i64 ((rd_T27 l1 (ji24)).f2)], .agg #[.int .i64 a0_0, .int .i64 a0_1, .int .i64 a0_2]] rfl (by (try simp only [List.map_toArray, List.map_cons, List.map_nil]); first | done | (simp only [hji24]; rfl) | rfl | (simp only [List.length_drop, List.length_take]; rfl)) ?_; (with_reducible refine (geom_turn.calls k2 ((rd_T27 l1 x20_2).f0) ((rd_T27 l1 x20_2).f1) ((rd_T27 l1 x20_2).f2) ((rd_T27 l1 (ji24)).f0) ((rd_T27 l1 (ji24)).f1) ((rd_T27 l1 (ji24)).f2) a0_0 a0_1 a0_2 t674 _ A58.out).mono ?_); rintro e w66 ⟨rfl, hb⟩; refine ⟨_, rfl, ?_⟩; replace BK662 := kB BK662 hb; replace BK669 := kB BK669 hb; replace BK671 := kB BK671 hb; replace HB := kH HB hb; (try clear hb); (try clear hb2); (try clear hk); (try clear hi)))
               (try simp only [Act.put, List.setIfInBounds_toArray, List.set_cons_zero, List.set_cons_succ])
               have H := HC59.out; clear HC59
               by_cases c67 : t674 > 0
               ·rw [if_pos c67] at H
                have c67b0 := decide_eq_true c67; clear c67
                (first | rw [c67b0] | (simp only [i64_w, i32_w]; rw [c67b0]) | skip)
                have H' := AM H
                clear H
                go_wp2_with (go_step3)
                go_roundg k2
                case measure => have := HJ2.out; have := HK2.out; omega
                case rel => exact ⟨(wrap64 (-x5_2)), (wrap64 (x20_2 + 1)), rS, rS, H', ⟨by have := HJ2.out; have := HK2.out; omega⟩, ⟨bK BK662⟩, ⟨ bH HB⟩⟩
               ·rw [if_neg c67] at H
                have c67b0 := decide_eq_false c67; clear c67
                (first | rw [c67b0] | (simp only [i64_w, i32_w]; rw [c67b0]) | skip)
                have H' := AM H
                clear H
                go_wp2_with (go_step3)
                go_roundg k2
                case measure => have := HJ2.out; have := HK2.out; omega
                case rel => exact ⟨(x5_2), (wrap64 (x20_2 + 1)), rS, rS, H', ⟨by have := HJ2.out; have := HK2.out; omega⟩, ⟨bK BK662⟩, ⟨ bH HB⟩⟩
           ·rw [if_neg c26] at H
            exact absurd H (by simp)
          ·rw [if_neg c25] at H
           exact absurd H (by simp)
        ·rw [if_neg c22] at H
         exact absurd H (by simp)
       ·rw [if_neg c21] at H
        exact absurd H (by simp)
      ·rw [if_neg c20] at H
       have c20b0 := decide_eq_false c20; clear c20
       obtain rfl := Option.some.inj H
       go_wp2_with (go_step3)
       (try rw [Exit.noGoto_ret])
       go_ret
       exact ⟨rE, bH HB⟩
end Go.Proofs.Ytbonkedecfjmdaa.P
