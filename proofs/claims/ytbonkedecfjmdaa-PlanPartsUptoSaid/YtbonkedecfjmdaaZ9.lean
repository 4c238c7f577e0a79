/- Written for this claim by a program of this session (a turned copy of the print): Go functions as Lean functions, and that the Go code comes to just these answers; or a statement proved out of them. No condition. -/
import Derived.Test.YtbonkedecfjmdaaZ2
import Derived.Test.YtbonkedecfjmdaaZ6
import Derived.Test.YtbonkedecfjmdaaZ8

namespace Go.Proofs.Ytbonkedecfjmdaa.P
open Go.RowKit Go.Proofs.YtbonkedecfjmdaaW.PrintWords Go.Proofs.YtbonkedecfjmdaaW.PrintLast Go.Proofs.YtbonkedecfjmdaaW.PrintMore Go.Proofs.Ytbonkedecfjmdaa.X
attribute [local go_sem] max2_int min2_int max_two min_two max_three min_three max_four min_four add64_0 add64_1 add64
set_option linter.unusedVariables false
set_option linter.unusedSimpArgs false
mutual
def rf09_In.j0 : Nat → List (S27) → Bool → Int → Int → Int → Option (Int)
 | 0, _, _, _, _, _ => none
 | k + 1, x1, x19, x276000, x276001, x276002 => if x19 = true then (some 0) else (rf09_In.l0 k x1 0 0 x276000 x276001 x276002)
def rf09_In.l0 : Nat → List (S27) → Int → Int → Int → Int → Int → Option (Int)
 | 0, _, _, _, _, _, _ => none
 | k + 1, x1, x5, x6, x276000, x276001, x276002 => if x6 < (x1.length : Int) then (if 0 ≤ x6 then (if 0 < (x1.length : Int) then (if (wrap64 (x6 + 1)) < (x1.length : Int) then (if 0 ≤ (wrap64 (x6 + 1)) then (rf09_In.j2 k x1 x5 x6 x276000 x276001 x276002 ((rd_T27 x1 x6).f0) ((rd_T27 x1 x6).f1) ((rd_T27 x1 x6).f2) ((rd_T27 x1 (wrap64 (x6 + 1))).f0) ((rd_T27 x1 (wrap64 (x6 + 1))).f1) ((rd_T27 x1 (wrap64 (x6 + 1))).f2)) else (none)) else (rf09_In.j2 k x1 x5 x6 x276000 x276001 x276002 ((rd_T27 x1 x6).f0) ((rd_T27 x1 x6).f1) ((rd_T27 x1 x6).f2) ((rd_T27 x1 0).f0) ((rd_T27 x1 0).f1) ((rd_T27 x1 0).f2))) else (none)) else (none)) else (if (Int.tmod x5 2) = 1 then (some 1) else (some (-1)))
def rf09_In.j2 : Nat → List (S27) → Int → Int → Int → Int → Int → Int → Int → Int → Int → Int → Int → Option (Int)
 | 0, _, _, _, _, _, _, _, _, _, _, _, _ => none
 | k + 1, x1, x5, x6, x276000, x276001, x276002, x283000, x283001, x283002, x285000, x285001, x285002 => (rf09_On.f k x276000 x276001 x276002 x283000 x283001 x283002 x285000 x285001 x285002).bind fun t286 => (if t286 = true then (some 0) else (if x283001 ≤ x276001 then (rf09_In.j3 k x1 x5 x6 (decide (x276001 < x285001)) x276000 x276001 x276002 x283000 x283001 x283002 x285000 x285001 x285002) else (rf09_In.j3 k x1 x5 x6 false x276000 x276001 x276002 x283000 x283001 x283002 x285000 x285001 x285002)))
def rf09_In.j3 : Nat → List (S27) → Int → Int → Bool → Int → Int → Int → Int → Int → Int → Int → Int → Int → Option (Int)
 | 0, _, _, _, _, _, _, _, _, _, _, _, _, _ => none
 | k + 1, x1, x5, x6, x9, x276000, x276001, x276002, x283000, x283001, x283002, x285000, x285001, x285002 => if x285001 ≤ x276001 then (rf09_In.j4 k x1 x5 x6 x9 (decide (x276001 < x283001)) x276000 x276001 x276002 x283000 x283001 x283002 x285000 x285001 x285002) else (rf09_In.j4 k x1 x5 x6 x9 false x276000 x276001 x276002 x283000 x283001 x283002 x285000 x285001 x285002)
def rf09_In.j4 : Nat → List (S27) → Int → Int → Bool → Bool → Int → Int → Int → Int → Int → Int → Int → Int → Int → Option (Int)
 | 0, _, _, _, _, _, _, _, _, _, _, _, _, _, _ => none
 | k + 1, x1, x5, x6, x9, x10, x276000, x276001, x276002, x283000, x283001, x283002, x285000, x285001, x285002 => if x9 = true then ((rf09_Turn.f k x283000 x283001 x283002 x285000 x285001 x285002 x276000 x276001 x276002).bind fun t287 => (if t287 > 0 then (rf09_In.l0 k x1 (wrap64 (x5 + 1)) (wrap64 (x6 + 1)) x276000 x276001 x276002) else (if x10 = true then ((rf09_Turn.f k x283000 x283001 x283002 x285000 x285001 x285002 x276000 x276001 x276002).bind fun t288 => (if t288 < 0 then (rf09_In.l0 k x1 (wrap64 (x5 + 1)) (wrap64 (x6 + 1)) x276000 x276001 x276002) else (rf09_In.l0 k x1 x5 (wrap64 (x6 + 1)) x276000 x276001 x276002))) else (rf09_In.l0 k x1 x5 (wrap64 (x6 + 1)) x276000 x276001 x276002)))) else (if x10 = true then ((rf09_Turn.f k x283000 x283001 x283002 x285000 x285001 x285002 x276000 x276001 x276002).bind fun t289 => (if t289 < 0 then (rf09_In.l0 k x1 (wrap64 (x5 + 1)) (wrap64 (x6 + 1)) x276000 x276001 x276002) else (rf09_In.l0 k x1 x5 (wrap64 (x6 + 1)) x276000 x276001 x276002))) else (rf09_In.l0 k x1 x5 (wrap64 (x6 + 1)) x276000 x276001 x276002))
end
def rf09_In.f (k : Nat) (a0_0 : Int) (a0_1 : Int) (a0_2 : Int) (l1 : List (S27)) : Option (Int) := (rf09_Right.f k (([(⟨a0_0, a0_1, a0_2⟩ : S27)] : List (S27)))).bind fun t279 => (if t279 = true then ((rf09_Right.f k l1).bind fun t280 => (rf09_In.j0 k l1 (!t280) a0_0 a0_1 a0_2)) else (rf09_In.j0 k l1 true a0_0 a0_1 a0_2))
theorem rf09_In.mono_l : ∀ k, (∀ y0 y1 y2 y3 y4, LeO (rf09_In.j0 k y0 y1 y2 y3 y4) (rf09_In.j0 (k + 1) y0 y1 y2 y3 y4)) ∧ (∀ y0 y1 y2 y3 y4 y5, LeO (rf09_In.l0 k y0 y1 y2 y3 y4 y5) (rf09_In.l0 (k + 1) y0 y1 y2 y3 y4 y5)) ∧ (∀ y0 y1 y2 y3 y4 y5 y6 y7 y8 y9 y10 y11, LeO (rf09_In.j2 k y0 y1 y2 y3 y4 y5 y6 y7 y8 y9 y10 y11) (rf09_In.j2 (k + 1) y0 y1 y2 y3 y4 y5 y6 y7 y8 y9 y10 y11)) ∧ (∀ y0 y1 y2 y3 y4 y5 y6 y7 y8 y9 y10 y11 y12, LeO (rf09_In.j3 k y0 y1 y2 y3 y4 y5 y6 y7 y8 y9 y10 y11 y12) (rf09_In.j3 (k + 1) y0 y1 y2 y3 y4 y5 y6 y7 y8 y9 y10 y11 y12)) ∧ (∀ y0 y1 y2 y3 y4 y5 y6 y7 y8 y9 y10 y11 y12 y13, LeO (rf09_In.j4 k y0 y1 y2 y3 y4 y5 y6 y7 y8 y9 y10 y11 y12 y13) (rf09_In.j4 (k + 1) y0 y1 y2 y3 y4 y5 y6 y7 y8 y9 y10 y11 y12 y13))
 | 0 => ⟨fun _ _ _ _ _ r h => by simp [rf09_In.j0] at h, fun _ _ _ _ _ _ r h => by simp [rf09_In.l0] at h, fun _ _ _ _ _ _ _ _ _ _ _ _ r h => by simp [rf09_In.j2] at h, fun _ _ _ _ _ _ _ _ _ _ _ _ _ r h => by simp [rf09_In.j3] at h, fun _ _ _ _ _ _ _ _ _ _ _ _ _ _ r h => by simp [rf09_In.j4] at h⟩
 | k + 1 => by
  obtain ⟨ih0, ih1, ih2, ih3, ih4⟩ := rf09_In.mono_l k
  refine ⟨?_, ?_, ?_, ?_, ?_⟩
  all_goals
   intros
   first | unfold rf09_In.j0 | unfold rf09_In.l0 | unfold rf09_In.j2 | unfold rf09_In.j3 | unfold rf09_In.j4
   repeat' with_reducible first | exact ih0 _ _ _ _ _ | exact ih1 _ _ _ _ _ _ | exact ih2 _ _ _ _ _ _ _ _ _ _ _ _ | exact ih3 _ _ _ _ _ _ _ _ _ _ _ _ _ | exact ih4 _ _ _ _ _ _ _ _ _ _ _ _ _ _ | exact rf09_On.mono _ _ _ _ _ _ _ _ _ _ | exact rf09_Right.mono _ _ | exact rf09_Turn.mono _ _ _ _ _ _ _ _ _ _ | exact LeO.refl _ | exact LeO.none _ | refine LeO.ite ?_ ?_ | refine LeO.bind ?_ (fun _ => ?_)
theorem rf09_In.mono : ∀ a0 a1 a2 a3 k, LeO (rf09_In.f k a0 a1 a2 a3) (rf09_In.f (k + 1) a0 a1 a2 a3) := by
 intro a0 a1 a2 a3 k
 obtain ⟨ih0, ih1, ih2, ih3, ih4⟩ := rf09_In.mono_l k
 unfold rf09_In.f
 repeat' first
   | (with_reducible exact ih0 _ _ _ _ _)
   | (with_reducible exact ih1 _ _ _ _ _ _)
   | (with_reducible exact ih2 _ _ _ _ _ _ _ _ _ _ _ _)
   | (with_reducible exact ih3 _ _ _ _ _ _ _ _ _ _ _ _ _)
   | (with_reducible exact ih4 _ _ _ _ _ _ _ _ _ _ _ _ _ _)
   | (with_reducible exact rf09_On.mono _ _ _ _ _ _ _ _ _ _)
   | (with_reducible exact rf09_Right.mono _ _)
   | (with_reducible exact rf09_Turn.mono _ _ _ _ _ _ _ _ _ _)
   | (with_reducible exact LeO.refl _)
   | (with_reducible exact LeO.none _)
   | (with_reducible refine LeO.ite ?_ ?_)
   | (with_reducible refine LeO.bind ?_ (fun _ => ?_))
   | exact ih0 _ _ _ _ _
   | exact ih1 _ _ _ _ _ _
   | exact ih2 _ _ _ _ _ _ _ _ _ _ _ _
   | exact ih3 _ _ _ _ _ _ _ _ _ _ _ _ _
   | exact ih4 _ _ _ _ _ _ _ _ _ _ _ _ _ _
   | exact rf09_On.mono _ _ _ _ _ _ _ _ _ _
   | exact rf09_Right.mono _ _
   | exact rf09_Turn.mono _ _ _ _ _ _ _ _ _ _
   | exact LeO.none _
   | refine LeO.ite ?_ ?_
   | refine LeO.bind ?_ (fun _ => ?_)
set_option maxHeartbeats 8000000 in
set_option maxRecDepth 100000 in
theorem rf09_In.calls (k : Nat) (a0_0 : Int) (a0_1 : Int) (a0_2 : Int) (A1 : Option Addr) (c1 : Nat) (l1 : List (S27)) (r : Int) (w : World) (hr1 : Kd.C k27 w A1 l1.length l1) (hc1 : l1.length ≤ c1) (h : rf09_In.f k a0_0 a0_1 a0_2 l1 = some r) :
  Calls Try.prog 36 #[.agg #[.int .i64 a0_0, .int .i64 a0_1, .int .i64 a0_2], .slice A1 l1.length c1] w fun e w' => e = .returned (.int .i64 r) ∧ Below w.heap.size w w' := by
 have hu27 := Try.underlying27
 have HR1 := AM hr1
 have HC1 := AM hc1
 clear hr1 hc1
 have HB := AM (Below.refl w.heap.size w)
 have H : ((rf09_Right.f k (([(⟨a0_0, a0_1, a0_2⟩ : S27)] : List (S27)))).bind fun t279 => (if t279 = true then ((rf09_Right.f k l1).bind fun t280 => (rf09_In.j0 k l1 (!t280) a0_0 a0_1 a0_2)) else (rf09_In.j0 k l1 true a0_0 a0_1 a0_2))) = some r := h
 clear h
 have HC3 := AM H
 clear H
 go_enter Try.func36, Try.ntmps36
 go_upto_region 1 with (first | ((with_reducible refine gate_dst (N := 2) rfl ?_); refine bE 2 #[.int .i64 a0_0, .int .i64 a0_1, .int .i64 a0_2] 27 ?_; intro gb275 hg w4 hbox hb; have BK275 := AM hbox; have GW275 := kG HB hg; replace HB := kH HB hb; have GE275 := GW275; clear hb hbox hg))
 (try simp only [Act.put, List.setIfInBounds_toArray, List.set_cons_zero, List.set_cons_succ])
 go_cut [19] (fun v19 wc => ∃ (kq : Nat) (x19_2 : Bool), v19 = .bool x19_2 ∧ Aside0 (rf09_In.j0 kq l1 x19_2 a0_0 a0_1 a0_2 = some r) ∧ Aside0 (kq ≤ k) ∧ Aside0 (wc.heap[gb275]? = some (.cells #[.int .i64 a0_0, .int .i64 a0_1, .int .i64 a0_2] 27 (0, 0))) ∧ Aside0 (Below w.heap.size w wc))
 case first =>
  have H := HC3.out; clear HC3
  obtain ⟨y276, hy276⟩ : ∃ y_ : List (S27), y_ = (([(⟨a0_0, a0_1, a0_2⟩ : S27)] : List (S27))) := ⟨_, rfl⟩
  replace H : ((rf09_Right.f k y276).bind fun t279 => (if t279 = true then ((rf09_Right.f k l1).bind fun t280 => (rf09_In.j0 k l1 (!t280) a0_0 a0_1 a0_2)) else (rf09_In.j0 k l1 true a0_0 a0_1 a0_2))) = some r := by first | (rw [hy276]; with_reducible exact H) | (have H2_ := (Option.bind_some _ _).symm.trans H; rw [hy276]; with_reducible exact H2_) | (have H2_ := (Option.bind_some _ _).symm.trans H; with_reducible exact H2_) | with_reducible exact H | (rw [hy276]; exact H) | exact H
  have Ny276 := AM hy276
  clear hy276
  obtain ⟨t279, A5, H⟩ := bS H
  by_cases c6 : t279 = true
  ·subst c6
   have H1 : ((rf09_Right.f k l1).bind fun t280 => (rf09_In.j0 k l1 (!t280) a0_0 a0_1 a0_2)) = some r := by rw [if_pos rfl] at H; exact H
   clear H; have H := H1; clear H1
   obtain ⟨t280, A7, H⟩ := bS H
   have H' := AM H
   clear H; obtain ⟨hcz8_0, hcz8_1, hcz8_2, hfz8_0, hfz8_1, hfz8_2⟩ := c3 BK275
   go_wp2_with (first | ((with_reducible refine gate_dst (N := 12) rfl ?_); refine Kd.R_lit k27 _ 27 ?hg (N := 12) ?hd (xs := ([(⟨a0_0, a0_1, a0_2⟩ : S27)] : List (S27))) (inner := [.int .i64 a0_0, .int .i64 a0_1, .int .i64 a0_2]) (ok := fun _ => True) (okp := fun _ => True) ?hr ?hp (fun _ hk => hk) trivial (Below.refl _ _) (Nat.le_refl _) (by simp) ?_; (case hd => rfl); (case hg => rfl); (case hr => first | (go_simp; done) | (go_simp; rfl)); (case hp => exact (Reps.c3 (show Kd.M k27 _ _ _ (⟨a0_0, a0_1, a0_2⟩ : S27) [.int .i64 a0_0, .int .i64 a0_1, .int .i64 a0_2] from (k27_mkM _ _ _ (⟨a0_0, a0_1, a0_2⟩ : S27) )) (Reps.none _ _))); intro v277 w9 ho10 hb hg_ hnew_; clear hg_ hnew_; (first | rw [← Ny276.out] at ho10 | (simp only [Int.reduceToNat] at ho10; rw [← Ny276.out] at ho10)); have HO278 := AM (Kd.R_lower (Kd.R_newB ho10 (g := gb275) (o := .cells #[.int .i64 a0_0, .int .i64 a0_1, .int .i64 a0_2] 27 (0, 0)) (bK BK275)) (below_size (bH HB))); replace BK275 := kB BK275 hb; replace HB := kH HB hb; clear hb ho10; obtain ⟨Ao11, co11, eo11⟩ := Kd.R_slice HO278.out; subst eo11) | ((with_reducible refine gate_callee (f := 22) rfl ?_); refine gL (some 13) Try.func22 #[.slice Ao11 y276.length co11] ?_; (with_reducible refine (rf09_Right.calls k _ _ y276 true _ ?side1 ?side2 A5.out).mono ?_); (case side1 => exact sR HO278); (case side2 => exact (Kd.R_reads' HO278.out).2.1); rintro e w12 ⟨rfl, hb⟩; refine ⟨_, rfl, ?_⟩; replace HO278 := kR HO278 hb; replace BK275 := kB BK275 hb; replace HB := kH HB hb; (try clear hb); (try clear hb2); (try clear hk); (try clear hi)) | (go_at_call 22; (with_reducible refine (rf09_Right.calls k _ _ l1 t280 _ ?side1 ?side2 A7.out).mono ?_); (case side1 => exact sC HR1 HB); (case side2 => exact HC1.out); rintro e w13 ⟨rfl, hb⟩; replace HO278 := kR HO278 hb; replace BK275 := kB BK275 hb; replace HB := kH HB hb; (try clear hb); (try clear hb2); (try clear hk); (try clear hi)))
   go_meet
   case rel => exact ⟨_, (!t280), rS, H', ⟨by first | omega | exact Nat.le_refl _⟩, ⟨bK BK275⟩, ⟨ bH HB⟩⟩
  ·replace c6 := Bool.eq_false_iff.mpr c6
   subst c6
   have H1 : (rf09_In.j0 k l1 true a0_0 a0_1 a0_2) = some r := by rw [if_neg (show ¬ (false = true) by decide)] at H; exact H
   clear H; have H := H1; clear H1
   have H' := AM H
   clear H; obtain ⟨hcz14_0, hcz14_1, hcz14_2, hfz14_0, hfz14_1, hfz14_2⟩ := c3 BK275
   go_wp2_with (first | ((with_reducible refine gate_dst (N := 12) rfl ?_); refine Kd.R_lit k27 _ 27 ?hg (N := 12) ?hd (xs := ([(⟨a0_0, a0_1, a0_2⟩ : S27)] : List (S27))) (inner := [.int .i64 a0_0, .int .i64 a0_1, .int .i64 a0_2]) (ok := fun _ => True) (okp := fun _ => True) ?hr ?hp (fun _ hk => hk) trivial (Below.refl _ _) (Nat.le_refl _) (by simp) ?_; (case hd => rfl); (case hg => rfl); (case hr => first | (go_simp; done) | (go_simp; rfl)); (case hp => exact (Reps.c3 (show Kd.M k27 _ _ _ (⟨a0_0, a0_1, a0_2⟩ : S27) [.int .i64 a0_0, .int .i64 a0_1, .int .i64 a0_2] from (k27_mkM _ _ _ (⟨a0_0, a0_1, a0_2⟩ : S27) )) (Reps.none _ _))); intro v277 w15 ho16 hb hg_ hnew_; clear hg_ hnew_; (first | rw [← Ny276.out] at ho16 | (simp only [Int.reduceToNat] at ho16; rw [← Ny276.out] at ho16)); have HO278 := AM (Kd.R_lower (Kd.R_newB ho16 (g := gb275) (o := .cells #[.int .i64 a0_0, .int .i64 a0_1, .int .i64 a0_2] 27 (0, 0)) (bK BK275)) (below_size (bH HB))); replace BK275 := kB BK275 hb; replace HB := kH HB hb; clear hb ho16; obtain ⟨Ao17, co17, eo17⟩ := Kd.R_slice HO278.out; subst eo17) | ((with_reducible refine gate_callee (f := 22) rfl ?_); refine gL (some 13) Try.func22 #[.slice Ao17 y276.length co17] ?_; (with_reducible refine (rf09_Right.calls k _ _ y276 false _ ?side1 ?side2 A5.out).mono ?_); (case side1 => exact sR HO278); (case side2 => exact (Kd.R_reads' HO278.out).2.1); rintro e w18 ⟨rfl, hb⟩; refine ⟨_, rfl, ?_⟩; replace HO278 := kR HO278 hb; replace BK275 := kB BK275 hb; replace HB := kH HB hb; (try clear hb); (try clear hb2); (try clear hk); (try clear hi)))
   go_meet
   case rel => exact ⟨_, (true), rS, H', ⟨by first | omega | exact Nat.le_refl _⟩, ⟨bK BK275⟩, ⟨ bH HB⟩⟩
 case rest =>
  clear HC3; (try clear c1); (try clear c2); (try clear p2); (try clear c3); (try clear c6); (try clear hcz14_0); (try clear hcz14_1); (try clear hcz14_2); (try clear hcz8_0); (try clear hcz8_1); (try clear hcz8_2); (try clear hfz14_0); (try clear hfz14_1); (try clear hfz14_2); (try clear hfz8_0); (try clear hfz8_1); (try clear hfz8_2)
  obtain ⟨kq, x19_2, rfl, HA, HJ2, BK275, HB⟩ := hcut
  cases kq with
  | zero => exact absurd HA.out (by simp [rf09_In.j0])
  | succ kj2 =>
   have H := HA.out; clear HA
   simp only [rf09_In.j0] at H
   by_cases c19 : x19_2 = true
   ·subst c19
    have H1 : (some 0) = some r := by rw [if_pos rfl] at H; exact H
    clear H; have H := H1; clear H1
    obtain rfl := Option.some.inj H
    go_wp2
    go_ret
    exact ⟨rE, bH HB⟩
   ·replace c19 := Bool.eq_false_iff.mpr c19
    subst c19
    have H1 : (rf09_In.l0 kj2 l1 0 0 a0_0 a0_1 a0_2) = some r := by rw [if_neg (show ¬ (false = true) by decide)] at H; exact H
    clear H; have H := H1; clear H1
    have H' := AM H
    clear H
    go_wp2
    go_loopg [5, 6] kj2 (fun kq v5 v6 w' => ∃ (x5_2 : Int) (x6_2 : Int), v5 = .int .i64 x5_2 ∧ v6 = .int .i64 x6_2 ∧ Aside0 (rf09_In.l0 kq l1 x5_2 x6_2 a0_0 a0_1 a0_2 = some r) ∧ Aside0 (kq ≤ kj2) ∧ Aside0 (w'.heap[gb275]? = some (.cells #[.int .i64 a0_0, .int .i64 a0_1, .int .i64 a0_2] 27 (0, 0))) ∧ Aside0 (Below w.heap.size w w'))
    case atStart => exact ⟨(0), (0), rS, rS, H', ⟨Nat.le_refl _⟩, ⟨bK BK275⟩, ⟨ bH HB⟩⟩
    case round =>
     clear H'
     (try clear c1); (try clear c2); (try clear p2); (try clear c3); (try clear c6); (try clear c19); (try clear hcz14_0); (try clear hcz14_1); (try clear hcz14_2); (try clear hcz8_0); (try clear hcz8_1); (try clear hcz8_2); (try clear hfz14_0); (try clear hfz14_1); (try clear hfz14_2); (try clear hfz8_0); (try clear hfz8_1); (try clear hfz8_2); (try clear p2)
     obtain ⟨x5_2, x6_2, rfl, rfl, HA, HK2, BK275, HB⟩ := hrel
     cases gk with
     | zero => exact absurd HA.out (by simp [rf09_In.l0])
     | succ k2 =>
      have H := HA.out; clear HA
      simp only [rf09_In.l0] at H
      by_cases c20 : x6_2 < (l1.length : Int)
      ·rw [if_pos c20] at H
       have c20b0 := decide_eq_true c20; clear c20
       by_cases c21 : 0 ≤ x6_2
       ·rw [if_pos c21] at H
        have c21b0 := decide_eq_true c21; clear c21
        by_cases c22 : 0 < (l1.length : Int)
        ·rw [if_pos c22] at H
         have c22b0 := decide_eq_true c22
         have c22b1 : decide (0 < l1.length) = true := decide_eq_true (by omega)
         clear c22
         have HC23 := AM H
         clear H
         have p281 : 0 ≤ (x6_2 : Int) := pD
         have q281 : x6_2 < (l1.length : Int) := pD
         obtain ⟨ad281, e281, hx281_0, hx281_1, hx281_2⟩ := at_T27 HR1.out x6_2 p281 q281
         cases e281
         replace hx281_0 := hW HB hx281_0; replace hx281_1 := hW HB hx281_1; replace hx281_2 := hW HB hx281_2; replace p281 := eq_true p281; replace q281 := eq_true q281
         go_upto_if 37 with (first | ((with_reducible refine gate_dst (N := 7) rfl ?_); refine bE 7 #[.int .i64 0, .int .i64 0, .int .i64 0] 27 ?_; intro gb282 hg w24 hbox hb; have BK282 := AM hbox; have GW282 := kG HB hg; replace HB := kH HB hb; have GE282 := GW282; have NB275_282 := kN BK275 hg; have NB282_275 := kM BK275 hg; replace BK275 := kB BK275 hb; clear hb hbox hg; have hnb25 := NB282_275.out; have hnc25 := NB275_282.out; obtain ⟨hcz26_0, hcz26_1, hcz26_2, hfz26_0, hfz26_1, hfz26_2⟩ := c3 BK282; have p283 : 0 ≤ (0 : Int) := (by omega); have q283 : 0 < (l1.length : Int) := pD; obtain ⟨ad283, e283, hx283_0, hx283_1, hx283_2⟩ := at_T27 HR1.out 0 p283 q283; obtain rfl : ad281 = ad283 := (by injection e283); have qi283 : (0 < l1.length) = True := eq_true (by omega); (try rw [show ((0 : Int)).toNat = 0 from rfl] at hx283_0); (try rw [show 0 * 3 = 0 from rfl] at hx283_0); (try rw [Addr.add_zero'] at hx283_0); (try rw [show ((0 : Int)).toNat = 0 from rfl] at hx283_1); (try rw [show 0 * 3 = 0 from rfl] at hx283_1); (try rw [Addr.add_zero'] at hx283_1); (try rw [show ((0 : Int)).toNat = 0 from rfl] at hx283_2); (try rw [show 0 * 3 = 0 from rfl] at hx283_2); (try rw [Addr.add_zero'] at hx283_2); have hn283_0 : ad281.block ≠ gb282 := Nat.ne_of_lt (Nat.lt_of_lt_of_le (by have := World.block_lt_of_cell? _ _ hx283_0; first | rwa [add_block] at this | exact this) GW282.out); have hn283_1 : ad281.block ≠ gb282 := Nat.ne_of_lt (Nat.lt_of_lt_of_le (by have := World.block_lt_of_cell? _ _ hx283_0; first | rwa [add_block] at this | exact this) GW282.out); have hn283_2 : ad281.block ≠ gb282 := Nat.ne_of_lt (Nat.lt_of_lt_of_le (by have := World.block_lt_of_cell? _ _ hx283_0; first | rwa [add_block] at this | exact this) GW282.out); replace hx283_0 := hW HB hx283_0; replace hx283_1 := hW HB hx283_1; replace hx283_2 := hW HB hx283_2; replace hx283_0 := (cell_far (p := ⟨gb282, 0, none⟩) (by first | (rw [add_block]; exact hn283_0) | (show (Addr.add _ _).block ≠ _; rw [add_block]; exact hn283_0) | exact hn283_0) (.int .i64 ((rd_T27 l1 x6_2).f0))).trans hx283_0; replace hx283_1 := (cell_far (p := ⟨gb282, 0, none⟩) (by first | (rw [add_block]; exact hn283_0) | (show (Addr.add _ _).block ≠ _; rw [add_block]; exact hn283_0) | exact hn283_0) (.int .i64 ((rd_T27 l1 x6_2).f0))).trans hx283_1; replace hx283_2 := (cell_far (p := ⟨gb282, 0, none⟩) (by first | (rw [add_block]; exact hn283_0) | (show (Addr.add _ _).block ≠ _; rw [add_block]; exact hn283_0) | exact hn283_0) (.int .i64 ((rd_T27 l1 x6_2).f0))).trans hx283_2; replace hx283_0 := (cell_far (p := ⟨gb282, 1, none⟩) (by first | (rw [add_block]; exact hn283_1) | (show (Addr.add _ _).block ≠ _; rw [add_block]; exact hn283_1) | exact hn283_1) (.int .i64 ((rd_T27 l1 x6_2).f1))).trans hx283_0; replace hx283_1 := (cell_far (p := ⟨gb282, 1, none⟩) (by first | (rw [add_block]; exact hn283_1) | (show (Addr.add _ _).block ≠ _; rw [add_block]; exact hn283_1) | exact hn283_1) (.int .i64 ((rd_T27 l1 x6_2).f1))).trans hx283_1; replace hx283_2 := (cell_far (p := ⟨gb282, 1, none⟩) (by first | (rw [add_block]; exact hn283_1) | (show (Addr.add _ _).block ≠ _; rw [add_block]; exact hn283_1) | exact hn283_1) (.int .i64 ((rd_T27 l1 x6_2).f1))).trans hx283_2; replace hx283_0 := (cell_far (p := ⟨gb282, 2, none⟩) (by first | (rw [add_block]; exact hn283_2) | (show (Addr.add _ _).block ≠ _; rw [add_block]; exact hn283_2) | exact hn283_2) (.int .i64 ((rd_T27 l1 x6_2).f2))).trans hx283_0; replace hx283_1 := (cell_far (p := ⟨gb282, 2, none⟩) (by first | (rw [add_block]; exact hn283_2) | (show (Addr.add _ _).block ≠ _; rw [add_block]; exact hn283_2) | exact hn283_2) (.int .i64 ((rd_T27 l1 x6_2).f2))).trans hx283_1; replace hx283_2 := (cell_far (p := ⟨gb282, 2, none⟩) (by first | (rw [add_block]; exact hn283_2) | (show (Addr.add _ _).block ≠ _; rw [add_block]; exact hn283_2) | exact hn283_2) (.int .i64 ((rd_T27 l1 x6_2).f2))).trans hx283_2; clear hn283_0; clear hn283_1; clear hn283_2; replace p283 := eq_true p283; replace q283 := eq_true q283) | ((with_reducible refine gate_dst (N := 8) rfl ?_); refine bE 8 #[.int .i64 0, .int .i64 0, .int .i64 0] 27 ?_; intro gb284 hg w27 hbox hb; have BK284 := AM hbox; have GW284 := kG HB hg; replace HB := kH HB hb; have GE284 := GW284; have NB275_284 := kN BK275 hg; have NB284_275 := kM BK275 hg; replace BK275 := kB BK275 hb; have NB282_284 := AM (by rw [hg]; exact Nat.ne_of_lt (blk_lt (g := gb282) (o := .cells #[.int .i64 ((rd_T27 l1 x6_2).f0), .int .i64 ((rd_T27 l1 x6_2).f1), .int .i64 ((rd_T27 l1 x6_2).f2)] 27 (0, 0)) (by (with_reducible repeat (first | refine blk_drewN ?_ _ | refine blk_drew ?_ | refine blk_alloc ?_ _)); refine blk_put (cs := #[.int .i64 ((rd_T27 l1 x6_2).f0), .int .i64 ((rd_T27 l1 x6_2).f1), .int .i64 0]) ?_ 2 _ rfl; (with_reducible repeat (first | refine blk_drewN ?_ _ | refine blk_drew ?_ | refine blk_alloc ?_ _)); refine blk_put (cs := #[.int .i64 ((rd_T27 l1 x6_2).f0), .int .i64 0, .int .i64 0]) ?_ 1 _ rfl; (with_reducible repeat (first | refine blk_drewN ?_ _ | refine blk_drew ?_ | refine blk_alloc ?_ _)); refine blk_put (cs := #[.int .i64 0, .int .i64 0, .int .i64 0]) ?_ 0 _ rfl; (with_reducible repeat (first | refine blk_drewN ?_ _ | refine blk_drew ?_ | refine blk_alloc ?_ _)); exact BK282.out)) : gb282 ≠ gb284); have NB284_282 := AM (by rw [hg]; exact Nat.ne_of_gt (blk_lt (g := gb282) (o := .cells #[.int .i64 ((rd_T27 l1 x6_2).f0), .int .i64 ((rd_T27 l1 x6_2).f1), .int .i64 ((rd_T27 l1 x6_2).f2)] 27 (0, 0)) (by (with_reducible repeat (first | refine blk_drewN ?_ _ | refine blk_drew ?_ | refine blk_alloc ?_ _)); refine blk_put (cs := #[.int .i64 ((rd_T27 l1 x6_2).f0), .int .i64 ((rd_T27 l1 x6_2).f1), .int .i64 0]) ?_ 2 _ rfl; (with_reducible repeat (first | refine blk_drewN ?_ _ | refine blk_drew ?_ | refine blk_alloc ?_ _)); refine blk_put (cs := #[.int .i64 ((rd_T27 l1 x6_2).f0), .int .i64 0, .int .i64 0]) ?_ 1 _ rfl; (with_reducible repeat (first | refine blk_drewN ?_ _ | refine blk_drew ?_ | refine blk_alloc ?_ _)); refine blk_put (cs := #[.int .i64 0, .int .i64 0, .int .i64 0]) ?_ 0 _ rfl; (with_reducible repeat (first | refine blk_drewN ?_ _ | refine blk_drew ?_ | refine blk_alloc ?_ _)); exact BK282.out)) : gb284 ≠ gb282); replace BK282 := AM (blk_below (g := gb282) (o := .cells #[.int .i64 ((rd_T27 l1 x6_2).f0), .int .i64 ((rd_T27 l1 x6_2).f1), .int .i64 ((rd_T27 l1 x6_2).f2)] 27 (0, 0)) (by (with_reducible repeat (first | refine blk_drewN ?_ _ | refine blk_drew ?_ | refine blk_alloc ?_ _)); refine blk_put (cs := #[.int .i64 ((rd_T27 l1 x6_2).f0), .int .i64 ((rd_T27 l1 x6_2).f1), .int .i64 0]) ?_ 2 _ rfl; (with_reducible repeat (first | refine blk_drewN ?_ _ | refine blk_drew ?_ | refine blk_alloc ?_ _)); refine blk_put (cs := #[.int .i64 ((rd_T27 l1 x6_2).f0), .int .i64 0, .int .i64 0]) ?_ 1 _ rfl; (with_reducible repeat (first | refine blk_drewN ?_ _ | refine blk_drew ?_ | refine blk_alloc ?_ _)); refine blk_put (cs := #[.int .i64 0, .int .i64 0, .int .i64 0]) ?_ 0 _ rfl; (with_reducible repeat (first | refine blk_drewN ?_ _ | refine blk_drew ?_ | refine blk_alloc ?_ _)); exact BK282.out) hb); clear hb hbox hg; have hnb28 := NB284_275.out; have hnc28 := NB275_284.out; have hnb29 := NB284_282.out; have hnc29 := NB282_284.out; obtain ⟨hcz30_0, hcz30_1, hcz30_2, hfz30_0, hfz30_1, hfz30_2⟩ := c3 BK284))
         (try simp only [Act.put, List.setIfInBounds_toArray, List.set_cons_zero, List.set_cons_succ])
         go_cut [] (fun wc => ∃ (kq : Nat) (x285000_22 : Int) (x285001_22 : Int) (x285002_22 : Int), Aside0 (rf09_In.j2 kq l1 x5_2 x6_2 a0_0 a0_1 a0_2 ((rd_T27 l1 x6_2).f0) ((rd_T27 l1 x6_2).f1) ((rd_T27 l1 x6_2).f2) x285000_22 x285001_22 x285002_22 = some r) ∧ Aside0 (kq ≤ k2) ∧ Aside0 (wc.heap[gb275]? = some (.cells #[.int .i64 a0_0, .int .i64 a0_1, .int .i64 a0_2] 27 (0, 0))) ∧ Aside0 (wc.heap[gb282]? = some (.cells #[.int .i64 ((rd_T27 l1 x6_2).f0), .int .i64 ((rd_T27 l1 x6_2).f1), .int .i64 ((rd_T27 l1 x6_2).f2)] 27 (0, 0))) ∧ Aside0 (wc.heap[gb284]? = some (.cells #[.int .i64 x285000_22, .int .i64 x285001_22, .int .i64 x285002_22] 27 (0, 0))) ∧ Aside0 (Below w.heap.size w wc))
         case first =>
          have H := HC23.out; clear HC23
          by_cases c31 : (wrap64 (x6_2 + 1)) < (l1.length : Int)
          ·rw [if_pos c31] at H
           have c31b0 := decide_eq_true c31; clear c31
           (first | rw [c31b0] | (simp only [i64_w, i32_w]; rw [c31b0]) | skip)
           obtain ⟨ji32, hji32⟩ : ∃ j_ : Int, (wrap64 (x6_2 + 1)) = j_ := ⟨_, rfl⟩
           replace H : (if 0 ≤ (ji32) then (rf09_In.j2 k2 l1 x5_2 x6_2 a0_0 a0_1 a0_2 ((rd_T27 l1 x6_2).f0) ((rd_T27 l1 x6_2).f1) ((rd_T27 l1 x6_2).f2) ((rd_T27 l1 (ji32)).f0) ((rd_T27 l1 (ji32)).f1) ((rd_T27 l1 (ji32)).f2)) else (none)) = some r := by first | (rw [hji32] at H; exact H) | (simp only [hji32] at H ⊢; exact H)
           (try rw [hji32] at c31b0)
           have hji32w : (IntKind.i64.wrap (x6_2 + 1)) = ji32 := (i64_w _).trans hji32
           by_cases c33 : 0 ≤ (ji32)
           ·rw [if_pos c33] at H
            have c33b0 := decide_eq_true c33; clear c33
            have H' := AM H
            clear H
            have p285 : 0 ≤ ((ji32) : Int) := pD
            have q285 : (ji32) < (l1.length : Int) := pD
            obtain ⟨ad285, e285, hx285_0, hx285_1, hx285_2⟩ := at_T27 HR1.out (ji32) p285 q285
            obtain rfl : ad281 = ad285 := (by injection e285)
            have hn285_0 : ad281.block ≠ gb284 := Nat.ne_of_lt (Nat.lt_of_lt_of_le (by have := World.block_lt_of_cell? _ _ hx285_0; first | rwa [add_block] at this | exact this) GW284.out)
            have hn285_1 : ad281.block ≠ gb284 := Nat.ne_of_lt (Nat.lt_of_lt_of_le (by have := World.block_lt_of_cell? _ _ hx285_0; first | rwa [add_block] at this | exact this) GW284.out)
            have hn285_2 : ad281.block ≠ gb284 := Nat.ne_of_lt (Nat.lt_of_lt_of_le (by have := World.block_lt_of_cell? _ _ hx285_0; first | rwa [add_block] at this | exact this) GW284.out)
            replace hx285_0 := hW HB hx285_0; replace hx285_1 := hW HB hx285_1; replace hx285_2 := hW HB hx285_2
            replace hx285_0 := (cell_far (p := ⟨gb284, 0, none⟩) (by first | (rw [add_block]; exact hn285_0) | (show (Addr.add _ _).block ≠ _; rw [add_block]; exact hn285_0) | exact hn285_0) (.int .i64 ((rd_T27 l1 0).f0))).trans hx285_0
            replace hx285_1 := (cell_far (p := ⟨gb284, 0, none⟩) (by first | (rw [add_block]; exact hn285_0) | (show (Addr.add _ _).block ≠ _; rw [add_block]; exact hn285_0) | exact hn285_0) (.int .i64 ((rd_T27 l1 0).f0))).trans hx285_1
            replace hx285_2 := (cell_far (p := ⟨gb284, 0, none⟩) (by first | (rw [add_block]; exact hn285_0) | (show (Addr.add _ _).block ≠ _; rw [add_block]; exact hn285_0) | exact hn285_0) (.int .i64 ((rd_T27 l1 0).f0))).trans hx285_2
            replace hx285_0 := (cell_far (p := ⟨gb284, 1, none⟩) (by first | (rw [add_block]; exact hn285_1) | (show (Addr.add _ _).block ≠ _; rw [add_block]; exact hn285_1) | exact hn285_1) (.int .i64 ((rd_T27 l1 0).f1))).trans hx285_0
            replace hx285_1 := (cell_far (p := ⟨gb284, 1, none⟩) (by first | (rw [add_block]; exact hn285_1) | (show (Addr.add _ _).block ≠ _; rw [add_block]; exact hn285_1) | exact hn285_1) (.int .i64 ((rd_T27 l1 0).f1))).trans hx285_1
            replace hx285_2 := (cell_far (p := ⟨gb284, 1, none⟩) (by first | (rw [add_block]; exact hn285_1) | (show (Addr.add _ _).block ≠ _; rw [add_block]; exact hn285_1) | exact hn285_1) (.int .i64 ((rd_T27 l1 0).f1))).trans hx285_2
            replace hx285_0 := (cell_far (p := ⟨gb284, 2, none⟩) (by first | (rw [add_block]; exact hn285_2) | (show (Addr.add _ _).block ≠ _; rw [add_block]; exact hn285_2) | exact hn285_2) (.int .i64 ((rd_T27 l1 0).f2))).trans hx285_0
            replace hx285_1 := (cell_far (p := ⟨gb284, 2, none⟩) (by first | (rw [add_block]; exact hn285_2) | (show (Addr.add _ _).block ≠ _; rw [add_block]; exact hn285_2) | exact hn285_2) (.int .i64 ((rd_T27 l1 0).f2))).trans hx285_1
            replace hx285_2 := (cell_far (p := ⟨gb284, 2, none⟩) (by first | (rw [add_block]; exact hn285_2) | (show (Addr.add _ _).block ≠ _; rw [add_block]; exact hn285_2) | exact hn285_2) (.int .i64 ((rd_T27 l1 0).f2))).trans hx285_2
            clear hn285_0; clear hn285_1; clear hn285_2; replace p285 := eq_true p285; replace q285 := eq_true q285; have hnb34 := NB284_275.out; have hnc34 := NB275_284.out; have hnb35 := NB284_282.out; have hnc35 := NB282_284.out; obtain ⟨hcz36_0, hcz36_1, hcz36_2, hfz36_0, hfz36_1, hfz36_2⟩ := c3 BK284
            go_wp2
            go_meet
            case rel => exact ⟨_, ((rd_T27 l1 (ji32)).f0), ((rd_T27 l1 (ji32)).f1), ((rd_T27 l1 (ji32)).f2), H', ⟨by have := HJ2.out; have := HK2.out; first | omega | exact Nat.le_refl _⟩, ⟨bK BK275⟩, ⟨bK BK282⟩, ⟨by (with_reducible repeat (first | refine blk_drewN ?_ _ | refine blk_drew ?_ | refine blk_alloc ?_ _)); refine blk_put (cs := #[.int .i64 ((rd_T27 l1 (ji32)).f0), .int .i64 ((rd_T27 l1 (ji32)).f1), .int .i64 ((rd_T27 l1 0).f2)]) ?_ 2 _ rfl; (with_reducible repeat (first | refine blk_drewN ?_ _ | refine blk_drew ?_ | refine blk_alloc ?_ _)); refine blk_put (cs := #[.int .i64 ((rd_T27 l1 (ji32)).f0), .int .i64 ((rd_T27 l1 0).f1), .int .i64 ((rd_T27 l1 0).f2)]) ?_ 1 _ rfl; (with_reducible repeat (first | refine blk_drewN ?_ _ | refine blk_drew ?_ | refine blk_alloc ?_ _)); refine blk_put (cs := #[.int .i64 ((rd_T27 l1 0).f0), .int .i64 ((rd_T27 l1 0).f1), .int .i64 ((rd_T27 l1 0).f2)]) ?_ 0 _ rfl; (with_reducible repeat (first | refine blk_drewN ?_ _ | refine blk_drew ?_ | refine blk_alloc ?_ _)); refine blk_put (cs := #[.int .i64 ((rd_T27 l1 0).f0), .int .i64 ((rd_T27 l1 0).f1), .int .i64 0]) ?_ 2 _ rfl; (with_reducible repeat (first | refine blk_drewN ?_ _ | refine blk_drew ?_ | refine blk_alloc ?_ _)); refine blk_put (cs := #[.int .i64 ((rd_T27 l1 0).f0), .int .i64 0, .int .i64 0]) ?_ 1 _ rfl; (with_reducible repeat (first | refine blk_drewN ?_ _ | refine blk_drew ?_ | refine blk_alloc ?_ _)); refine blk_put (cs := #[.int .i64 0, .int .i64 0, .int .i64 0]) ?_ 0 _ rfl; (with_reducible repeat (first | refine blk_drewN ?_ _ | refine blk_drew ?_ | refine blk_alloc ?_ _)); exact BK284.out⟩, ⟨ bH HB⟩⟩
           ·rw [if_neg c33] at H
            exact absurd H (by simp)
          ·rw [if_neg c31] at H
           have c31b0 := decide_eq_false c31; clear c31
           (first | rw [c31b0] | (simp only [i64_w, i32_w]; rw [c31b0]) | skip)
           have H' := AM H
           clear H
           go_wp2
           go_meet
           case rel => exact ⟨_, ((rd_T27 l1 0).f0), ((rd_T27 l1 0).f1), ((rd_T27 l1 0).f2), H', ⟨by have := HJ2.out; have := HK2.out; first | omega | exact Nat.le_refl _⟩, ⟨bK BK275⟩, ⟨bK BK282⟩, ⟨by (with_reducible repeat (first | refine blk_drewN ?_ _ | refine blk_drew ?_ | refine blk_alloc ?_ _)); refine blk_put (cs := #[.int .i64 ((rd_T27 l1 0).f0), .int .i64 ((rd_T27 l1 0).f1), .int .i64 0]) ?_ 2 _ rfl; (with_reducible repeat (first | refine blk_drewN ?_ _ | refine blk_drew ?_ | refine blk_alloc ?_ _)); refine blk_put (cs := #[.int .i64 ((rd_T27 l1 0).f0), .int .i64 0, .int .i64 0]) ?_ 1 _ rfl; (with_reducible repeat (first | refine blk_drewN ?_ _ | refine blk_drew ?_ | refine blk_alloc ?_ _)); refine blk_put (cs := #[.int .i64 0, .int .i64 0, .int .i64 0]) ?_ 0 _ rfl; (with_reducible repeat (first | refine blk_drewN ?_ _ | refine blk_drew ?_ | refine blk_alloc ?_ _)); exact BK284.out⟩, ⟨ bH HB⟩⟩
         case rest =>
          clear HC23; (try clear c1); (try clear c2); (try clear p2); (try clear q2); (try clear hx2); (try clear qi2); (try clear c3); (try clear c6); (try clear p6); (try clear c19); (try clear c20); (try clear c20b0); (try clear c21); (try clear c21b0); (try clear c22); (try clear c22b0); (try clear c22b1); (try clear c25); (try clear c28); (try clear p28); (try clear q28); (try clear hx28); (try clear qi28); (try clear c29); (try clear c31); (try clear c31b0); (try clear c33); (try clear c33b0); (try clear c34); (try clear c35); (try clear c36); (try clear hcz14_0); (try clear hcz14_1); (try clear hcz14_2); (try clear hcz26_0); (try clear hcz26_1); (try clear hcz26_2); (try clear hcz30_0); (try clear hcz30_1); (try clear hcz30_2); (try clear hcz36_0); (try clear hcz36_1); (try clear hcz36_2); (try clear hcz8_0); (try clear hcz8_1); (try clear hcz8_2); (try clear hfz14_0); (try clear hfz14_1); (try clear hfz14_2); (try clear hfz26_0); (try clear hfz26_1); (try clear hfz26_2); (try clear hfz30_0); (try clear hfz30_1)
          (try clear hfz30_2); (try clear hfz36_0); (try clear hfz36_1); (try clear hfz36_2); (try clear hfz8_0); (try clear hfz8_1); (try clear hfz8_2); (try clear hx281_0); (try clear hx281_1); (try clear hx281_2); (try clear hx283_0); (try clear hx283_1); (try clear hx283_2); (try clear hx285_0); (try clear hx285_1); (try clear hx285_2); (try clear p2); (try clear p281); (try clear p283); (try clear p285); (try clear q281); (try clear q283); (try clear q285)
          obtain ⟨kq, x285000_22, x285001_22, x285002_22, HA, HJ22, BK275, BK282, BK284, HB⟩ := hcut
          cases kq with
          | zero => exact absurd HA.out (by simp [rf09_In.j2])
          | succ kj22 =>
           have H := HA.out; clear HA
           simp only [rf09_In.j2] at H
           obtain ⟨t286, A37, H⟩ := bS H
           have HC38 := AM H
           clear H; have hnb39 := NB275_282.out; have hnc39 := NB282_275.out; have hnb40 := NB275_284.out; have hnc40 := NB284_275.out; obtain ⟨hcz41_0, hcz41_1, hcz41_2, hfz41_0, hfz41_1, hfz41_2⟩ := c3 BK275; have hnb42 := NB282_284.out; have hnc42 := NB284_282.out; obtain ⟨hcz43_0, hcz43_1, hcz43_2, hfz43_0, hfz43_1, hfz43_2⟩ := c3 BK282; obtain ⟨hcz44_0, hcz44_1, hcz44_2, hfz44_0, hfz44_1, hfz44_2⟩ := c3 BK284
           go_upto_if 46 with (first | ((with_reducible refine gate_callee (f := 62) rfl ?_); refine gL (some 46) Try.func62 #[.agg #[.int .i64 a0_0, .int .i64 a0_1, .int .i64 a0_2], .agg #[.int .i64 ((rd_T27 l1 x6_2).f0), .int .i64 ((rd_T27 l1 x6_2).f1), .int .i64 ((rd_T27 l1 x6_2).f2)], .agg #[.int .i64 x285000_22, .int .i64 x285001_22, .int .i64 x285002_22]] ?_; (with_reducible refine (rf09_On.calls kj22 a0_0 a0_1 a0_2 ((rd_T27 l1 x6_2).f0) ((rd_T27 l1 x6_2).f1) ((rd_T27 l1 x6_2).f2) x285000_22 x285001_22 x285002_22 t286 _ A37.out).mono ?_); rintro e w45 ⟨rfl, hb⟩; refine ⟨_, rfl, ?_⟩; replace BK275 := kB BK275 hb; replace BK282 := kB BK282 hb; replace BK284 := kB BK284 hb; replace HB := kH HB hb; (try clear hb); (try clear hb2); (try clear hk); (try clear hi)))
           (try simp only [Act.put, List.setIfInBounds_toArray, List.set_cons_zero, List.set_cons_succ])
           have H := HC38.out; clear HC38
           by_cases c46 : t286 = true
           ·subst c46
            have H1 : (some 0) = some r := by rw [if_pos rfl] at H; exact H
            clear H; have H := H1; clear H1
            obtain rfl := Option.some.inj H
            go_wp2
            go_ret
            exact ⟨rE, bH HB⟩
           ·replace c46 := Bool.eq_false_iff.mpr c46
            subst c46
            have H1 : (if ((rd_T27 l1 x6_2).f1) ≤ a0_1 then (rf09_In.j3 kj22 l1 x5_2 x6_2 (decide (a0_1 < x285001_22)) a0_0 a0_1 a0_2 ((rd_T27 l1 x6_2).f0) ((rd_T27 l1 x6_2).f1) ((rd_T27 l1 x6_2).f2) x285000_22 x285001_22 x285002_22) else (rf09_In.j3 kj22 l1 x5_2 x6_2 false a0_0 a0_1 a0_2 ((rd_T27 l1 x6_2).f0) ((rd_T27 l1 x6_2).f1) ((rd_T27 l1 x6_2).f2) x285000_22 x285001_22 x285002_22)) = some r := by rw [if_neg (show ¬ (false = true) by decide)] at H; exact H
            clear H; have H := H1; clear H1
            have HC47 := AM H
            clear H
            go_upto_region 13 with (fail)
            go_cut [9] (fun v9 wc => ∃ (kq : Nat) (x9_46 : Bool), v9 = .bool x9_46 ∧ Aside0 (rf09_In.j3 kq l1 x5_2 x6_2 x9_46 a0_0 a0_1 a0_2 ((rd_T27 l1 x6_2).f0) ((rd_T27 l1 x6_2).f1) ((rd_T27 l1 x6_2).f2) x285000_22 x285001_22 x285002_22 = some r) ∧ Aside0 (kq ≤ kj22) ∧ Aside0 (wc.heap[gb275]? = some (.cells #[.int .i64 a0_0, .int .i64 a0_1, .int .i64 a0_2] 27 (0, 0))) ∧ Aside0 (wc.heap[gb282]? = some (.cells #[.int .i64 ((rd_T27 l1 x6_2).f0), .int .i64 ((rd_T27 l1 x6_2).f1), .int .i64 ((rd_T27 l1 x6_2).f2)] 27 (0, 0))) ∧ Aside0 (wc.heap[gb284]? = some (.cells #[.int .i64 x285000_22, .int .i64 x285001_22, .int .i64 x285002_22] 27 (0, 0))) ∧ Aside0 (Below w.heap.size w wc))
            case first =>
             have H := HC47.out; clear HC47
             by_cases c48 : ((rd_T27 l1 x6_2).f1) ≤ a0_1
             ·rw [if_pos c48] at H
              have c48b0 := decide_eq_true c48; clear c48
              (first | rw [c48b0] | (simp only [i64_w, i32_w]; rw [c48b0]) | skip)
              have H' := AM H
              clear H; have hnb49 := NB282_275.out; have hnc49 := NB275_282.out; have hnb50 := NB282_284.out; have hnc50 := NB284_282.out; obtain ⟨hcz51_0, hcz51_1, hcz51_2, hfz51_0, hfz51_1, hfz51_2⟩ := c3 BK282; have hnb52 := NB275_284.out; have hnc52 := NB284_275.out; obtain ⟨hcz53_0, hcz53_1, hcz53_2, hfz53_0, hfz53_1, hfz53_2⟩ := c3 BK275; obtain ⟨hcz54_0, hcz54_1, hcz54_2, hfz54_0, hfz54_1, hfz54_2⟩ := c3 BK284
              go_wp2
              go_meet
              case rel => exact ⟨_, (decide (a0_1 < x285001_22)), rS, H', ⟨by have := HJ2.out; have := HK2.out; have := HJ22.out; first | omega | exact Nat.le_refl _⟩, ⟨bK BK275⟩, ⟨bK BK282⟩, ⟨bK BK284⟩, ⟨ bH HB⟩⟩
             ·rw [if_neg c48] at H
              have c48b0 := decide_eq_false c48; clear c48
              (first | rw [c48b0] | (simp only [i64_w, i32_w]; rw [c48b0]) | skip)
              have H' := AM H
              clear H; have hnb55 := NB282_275.out; have hnc55 := NB275_282.out; have hnb56 := NB282_284.out; have hnc56 := NB284_282.out; obtain ⟨hcz57_0, hcz57_1, hcz57_2, hfz57_0, hfz57_1, hfz57_2⟩ := c3 BK282; have hnb58 := NB275_284.out; have hnc58 := NB284_275.out; obtain ⟨hcz59_0, hcz59_1, hcz59_2, hfz59_0, hfz59_1, hfz59_2⟩ := c3 BK275
              go_wp2
              go_meet
              case rel => exact ⟨_, (false), rS, H', ⟨by have := HJ2.out; have := HK2.out; have := HJ22.out; first | omega | exact Nat.le_refl _⟩, ⟨bK BK275⟩, ⟨bK BK282⟩, ⟨bK BK284⟩, ⟨ bH HB⟩⟩
            case rest =>
             clear HC47; (try clear c1); (try clear c2); (try clear p2); (try clear q2); (try clear hx2); (try clear qi2); (try clear c3); (try clear c4); (try clear c5); (try clear c6); (try clear p6); (try clear c19); (try clear c20); (try clear c20b0); (try clear c21); (try clear c21b0); (try clear c22); (try clear c22b0); (try clear c22b1); (try clear c25); (try clear c28); (try clear p28); (try clear q28); (try clear hx28); (try clear qi28); (try clear c29); (try clear c31); (try clear c31b0); (try clear c33); (try clear c33b0); (try clear c34); (try clear c35); (try clear c36); (try clear c39); (try clear c40); (try clear c42); (try clear c46); (try clear c48); (try clear c48b0); (try clear c49); (try clear c50); (try clear c52); (try clear c55); (try clear c56); (try clear c58); (try clear hcz14_0); (try clear hcz14_1); (try clear hcz14_2); (try clear hcz26_0); (try clear hcz26_1); (try clear hcz26_2); (try clear hcz30_0); (try clear hcz30_1); (try clear hcz30_2); (try clear hcz36_0); (try clear hcz36_1)
             (try clear hcz36_2); (try clear hcz41_0); (try clear hcz41_1); (try clear hcz41_2); (try clear hcz43_0); (try clear hcz43_1); (try clear hcz43_2); (try clear hcz44_0); (try clear hcz44_1); (try clear hcz44_2); (try clear hcz51_0); (try clear hcz51_1); (try clear hcz51_2); (try clear hcz53_0); (try clear hcz53_1); (try clear hcz53_2); (try clear hcz54_0); (try clear hcz54_1); (try clear hcz54_2); (try clear hcz57_0); (try clear hcz57_1); (try clear hcz57_2); (try clear hcz59_0); (try clear hcz59_1); (try clear hcz59_2); (try clear hcz8_0); (try clear hcz8_1); (try clear hcz8_2); (try clear hfz14_0); (try clear hfz14_1); (try clear hfz14_2); (try clear hfz26_0); (try clear hfz26_1); (try clear hfz26_2); (try clear hfz30_0); (try clear hfz30_1); (try clear hfz30_2); (try clear hfz36_0); (try clear hfz36_1); (try clear hfz36_2); (try clear hfz41_0); (try clear hfz41_1); (try clear hfz41_2); (try clear hfz43_0); (try clear hfz43_1); (try clear hfz43_2); (try clear hfz44_0); (try clear hfz44_1)
             (try clear hfz44_2); (try clear hfz51_0); (try clear hfz51_1); (try clear hfz51_2); (try clear hfz53_0); (try clear hfz53_1); (try clear hfz53_2); (try clear hfz54_0); (try clear hfz54_1); (try clear hfz54_2); (try clear hfz57_0); (try clear hfz57_1); (try clear hfz57_2); (try clear hfz59_0); (try clear hfz59_1); (try clear hfz59_2); (try clear hfz8_0); (try clear hfz8_1); (try clear hfz8_2); (try clear hx281_0); (try clear hx281_1); (try clear hx281_2); (try clear hx283_0); (try clear hx283_1); (try clear hx283_2); (try clear hx285_0); (try clear hx285_1); (try clear hx285_2); (try clear p2); (try clear p28); (try clear p281); (try clear p283); (try clear p285); (try clear p6); (try clear q2); (try clear q28); (try clear q281); (try clear q283); (try clear q285)
             obtain ⟨kq, x9_46, rfl, HA, HJ46, BK275, BK282, BK284, HB⟩ := hcut
             cases kq with
             | zero => exact absurd HA.out (by simp [rf09_In.j3])
             | succ kj46 =>
              have H := HA.out; clear HA
              simp only [rf09_In.j3] at H
              have HC60 := AM H
              clear H
              go_upto_region 14 with (fail)
              go_cut [10] (fun v10 wc => ∃ (kq : Nat) (x10_59 : Bool), v10 = .bool x10_59 ∧ Aside0 (rf09_In.j4 kq l1 x5_2 x6_2 x9_46 x10_59 a0_0 a0_1 a0_2 ((rd_T27 l1 x6_2).f0) ((rd_T27 l1 x6_2).f1) ((rd_T27 l1 x6_2).f2) x285000_22 x285001_22 x285002_22 = some r) ∧ Aside0 (kq ≤ kj46) ∧ Aside0 (wc.heap[gb275]? = some (.cells #[.int .i64 a0_0, .int .i64 a0_1, .int .i64 a0_2] 27 (0, 0))) ∧ Aside0 (wc.heap[gb282]? = some (.cells #[.int .i64 ((rd_T27 l1 x6_2).f0), .int .i64 ((rd_T27 l1 x6_2).f1), .int .i64 ((rd_T27 l1 x6_2).f2)] 27 (0, 0))) ∧ Aside0 (wc.heap[gb284]? = some (.cells #[.int .i64 x285000_22, .int .i64 x285001_22, .int .i64 x285002_22] 27 (0, 0))) ∧ Aside0 (Below w.heap.size w wc))
              case first =>
               have H := HC60.out; clear HC60
               by_cases c61 : x285001_22 ≤ a0_1
               ·rw [if_pos c61] at H
                have c61b0 := decide_eq_true c61; clear c61
                (first | rw [c61b0] | (simp only [i64_w, i32_w]; rw [c61b0]) | skip)
                have H' := AM H
                clear H; have hnb62 := NB284_275.out; have hnc62 := NB275_284.out; have hnb63 := NB284_282.out; have hnc63 := NB282_284.out; obtain ⟨hcz64_0, hcz64_1, hcz64_2, hfz64_0, hfz64_1, hfz64_2⟩ := c3 BK284; have hnb65 := NB275_282.out; have hnc65 := NB282_275.out; obtain ⟨hcz66_0, hcz66_1, hcz66_2, hfz66_0, hfz66_1, hfz66_2⟩ := c3 BK275; obtain ⟨hcz67_0, hcz67_1, hcz67_2, hfz67_0, hfz67_1, hfz67_2⟩ := c3 BK282
                go_wp2
                go_meet
                case rel => exact ⟨_, (decide (a0_1 < ((rd_T27 l1 x6_2).f1))), rS, H', ⟨by have := HJ2.out; have := HK2.out; have := HJ22.out; have := HJ46.out; first | omega | exact Nat.le_refl _⟩, ⟨bK BK275⟩, ⟨bK BK282⟩, ⟨bK BK284⟩, ⟨ bH HB⟩⟩
               ·rw [if_neg c61] at H
                have c61b0 := decide_eq_false c61; clear c61
                (first | rw [c61b0] | (simp only [i64_w, i32_w]; rw [c61b0]) | skip)
                have H' := AM H
                clear H; have hnb68 := NB284_275.out; have hnc68 := NB275_284.out; have hnb69 := NB284_282.out; have hnc69 := NB282_284.out; obtain ⟨hcz70_0, hcz70_1, hcz70_2, hfz70_0, hfz70_1, hfz70_2⟩ := c3 BK284; have hnb71 := NB275_282.out; have hnc71 := NB282_275.out; obtain ⟨hcz72_0, hcz72_1, hcz72_2, hfz72_0, hfz72_1, hfz72_2⟩ := c3 BK275
                go_wp2
                go_meet
                case rel => exact ⟨_, (false), rS, H', ⟨by have := HJ2.out; have := HK2.out; have := HJ22.out; have := HJ46.out; first | omega | exact Nat.le_refl _⟩, ⟨bK BK275⟩, ⟨bK BK282⟩, ⟨bK BK284⟩, ⟨ bH HB⟩⟩
              case rest =>
               clear HC60; (try clear c1); (try clear c2); (try clear p2); (try clear q2); (try clear hx2); (try clear qi2); (try clear c3); (try clear c4); (try clear c5); (try clear c6); (try clear p6); (try clear c7); (try clear c19); (try clear c20); (try clear c20b0); (try clear c21); (try clear c21b0); (try clear c22); (try clear c22b0); (try clear c22b1); (try clear c25); (try clear c28); (try clear p28); (try clear q28); (try clear hx28); (try clear qi28); (try clear c29); (try clear c31); (try clear c31b0); (try clear c33); (try clear c33b0); (try clear c34); (try clear c35); (try clear c36); (try clear c39); (try clear c40); (try clear c42); (try clear c46); (try clear c48); (try clear c48b0); (try clear c49); (try clear c50); (try clear c52); (try clear c55); (try clear c56); (try clear c58); (try clear c61); (try clear c61b0); (try clear c62); (try clear c63); (try clear p64); (try clear c65); (try clear c68); (try clear c69); (try clear c71); (try clear hcz14_0); (try clear hcz14_1); (try clear hcz14_2); (try clear hcz26_0)
               (try clear hcz26_1); (try clear hcz26_2); (try clear hcz30_0); (try clear hcz30_1); (try clear hcz30_2); (try clear hcz36_0); (try clear hcz36_1); (try clear hcz36_2); (try clear hcz41_0); (try clear hcz41_1); (try clear hcz41_2); (try clear hcz43_0); (try clear hcz43_1); (try clear hcz43_2); (try clear hcz44_0); (try clear hcz44_1); (try clear hcz44_2); (try clear hcz51_0); (try clear hcz51_1); (try clear hcz51_2); (try clear hcz53_0); (try clear hcz53_1); (try clear hcz53_2); (try clear hcz54_0); (try clear hcz54_1); (try clear hcz54_2); (try clear hcz57_0); (try clear hcz57_1); (try clear hcz57_2); (try clear hcz59_0); (try clear hcz59_1); (try clear hcz59_2); (try clear hcz64_0); (try clear hcz64_1); (try clear hcz64_2); (try clear hcz66_0); (try clear hcz66_1); (try clear hcz66_2); (try clear hcz67_0); (try clear hcz67_1); (try clear hcz67_2); (try clear hcz70_0); (try clear hcz70_1); (try clear hcz70_2); (try clear hcz72_0); (try clear hcz72_1); (try clear hcz72_2); (try clear hcz8_0)
               (try clear hcz8_1); (try clear hcz8_2); (try clear hfz14_0); (try clear hfz14_1); (try clear hfz14_2); (try clear hfz26_0); (try clear hfz26_1); (try clear hfz26_2); (try clear hfz30_0); (try clear hfz30_1); (try clear hfz30_2); (try clear hfz36_0); (try clear hfz36_1); (try clear hfz36_2); (try clear hfz41_0); (try clear hfz41_1); (try clear hfz41_2); (try clear hfz43_0); (try clear hfz43_1); (try clear hfz43_2); (try clear hfz44_0); (try clear hfz44_1); (try clear hfz44_2); (try clear hfz51_0); (try clear hfz51_1); (try clear hfz51_2); (try clear hfz53_0); (try clear hfz53_1); (try clear hfz53_2); (try clear hfz54_0); (try clear hfz54_1); (try clear hfz54_2); (try clear hfz57_0); (try clear hfz57_1); (try clear hfz57_2); (try clear hfz59_0); (try clear hfz59_1); (try clear hfz59_2); (try clear hfz64_0); (try clear hfz64_1); (try clear hfz64_2); (try clear hfz66_0); (try clear hfz66_1); (try clear hfz66_2); (try clear hfz67_0); (try clear hfz67_1); (try clear hfz67_2); (try clear hfz70_0)
               (try clear hfz70_1); (try clear hfz70_2); (try clear hfz72_0); (try clear hfz72_1); (try clear hfz72_2); (try clear hfz8_0); (try clear hfz8_1); (try clear hfz8_2); (try clear hx281_0); (try clear hx281_1); (try clear hx281_2); (try clear hx283_0); (try clear hx283_1); (try clear hx283_2); (try clear hx285_0); (try clear hx285_1); (try clear hx285_2); (try clear p2); (try clear p28); (try clear p281); (try clear p283); (try clear p285); (try clear p6); (try clear q2); (try clear q28); (try clear q281); (try clear q283); (try clear q285)
               obtain ⟨kq, x10_59, rfl, HA, HJ59, BK275, BK282, BK284, HB⟩ := hcut
               cases kq with
               | zero => exact absurd HA.out (by simp [rf09_In.j4])
               | succ kj59 =>
                have H := HA.out; clear HA
                simp only [rf09_In.j4] at H
                by_cases c73 : x9_46 = true
                ·subst c73
                 have H1 : ((rf09_Turn.f kj59 ((rd_T27 l1 x6_2).f0) ((rd_T27 l1 x6_2).f1) ((rd_T27 l1 x6_2).f2) x285000_22 x285001_22 x285002_22 a0_0 a0_1 a0_2).bind fun t287 => (if t287 > 0 then (rf09_In.l0 kj59 l1 (wrap64 (x5_2 + 1)) (wrap64 (x6_2 + 1)) a0_0 a0_1 a0_2) else (if x10_59 = true then ((rf09_Turn.f kj59 ((rd_T27 l1 x6_2).f0) ((rd_T27 l1 x6_2).f1) ((rd_T27 l1 x6_2).f2) x285000_22 x285001_22 x285002_22 a0_0 a0_1 a0_2).bind fun t288 => (if t288 < 0 then (rf09_In.l0 kj59 l1 (wrap64 (x5_2 + 1)) (wrap64 (x6_2 + 1)) a0_0 a0_1 a0_2) else (rf09_In.l0 kj59 l1 x5_2 (wrap64 (x6_2 + 1)) a0_0 a0_1 a0_2))) else (rf09_In.l0 kj59 l1 x5_2 (wrap64 (x6_2 + 1)) a0_0 a0_1 a0_2)))) = some r := by rw [if_pos rfl] at H; exact H
                 clear H; have H := H1; clear H1
                 obtain ⟨t287, A74, H⟩ := bS H
                 by_cases c75 : t287 > 0
                 ·rw [if_pos c75] at H
                  have c75b0 := decide_eq_true c75; clear c75
                  have H' := AM H
                  clear H; have hnb76 := NB282_275.out; have hnc76 := NB275_282.out; have hnb77 := NB282_284.out; have hnc77 := NB284_282.out; obtain ⟨hcz78_0, hcz78_1, hcz78_2, hfz78_0, hfz78_1, hfz78_2⟩ := c3 BK282; have hnb79 := NB284_275.out; have hnc79 := NB275_284.out; obtain ⟨hcz80_0, hcz80_1, hcz80_2, hfz80_0, hfz80_1, hfz80_2⟩ := c3 BK284; obtain ⟨hcz81_0, hcz81_1, hcz81_2, hfz81_0, hfz81_1, hfz81_2⟩ := c3 BK275
                  go_wp2_with (first | (go_at_call 63; (with_reducible refine (rf09_Turn.calls kj59 ((rd_T27 l1 x6_2).f0) ((rd_T27 l1 x6_2).f1) ((rd_T27 l1 x6_2).f2) x285000_22 x285001_22 x285002_22 a0_0 a0_1 a0_2 t287 _ A74.out).mono ?_); rintro e w82 ⟨rfl, hb⟩; replace BK275 := kB BK275 hb; replace BK282 := kB BK282 hb; replace BK284 := kB BK284 hb; replace HB := kH HB hb; (try clear hb); (try clear hb2); (try clear hk); (try clear hi)))
                  go_roundg kj59
                  case measure => have := HJ2.out; have := HK2.out; have := HJ22.out; have := HJ46.out; have := HJ59.out; omega
                  case rel => exact ⟨(wrap64 (x5_2 + 1)), (wrap64 (x6_2 + 1)), rS, rS, H', ⟨by have := HJ2.out; have := HK2.out; have := HJ22.out; have := HJ46.out; have := HJ59.out; omega⟩, ⟨bK BK275⟩, ⟨ bH HB⟩⟩
                 ·rw [if_neg c75] at H
                  have c75b0 := decide_eq_false c75; clear c75
                  by_cases c83 : x10_59 = true
                  ·subst c83
                   have H1 : ((rf09_Turn.f kj59 ((rd_T27 l1 x6_2).f0) ((rd_T27 l1 x6_2).f1) ((rd_T27 l1 x6_2).f2) x285000_22 x285001_22 x285002_22 a0_0 a0_1 a0_2).bind fun t288 => (if t288 < 0 then (rf09_In.l0 kj59 l1 (wrap64 (x5_2 + 1)) (wrap64 (x6_2 + 1)) a0_0 a0_1 a0_2) else (rf09_In.l0 kj59 l1 x5_2 (wrap64 (x6_2 + 1)) a0_0 a0_1 a0_2))) = some r := by rw [if_pos rfl] at H; exact H
                   clear H; have H := H1; clear H1
                   obtain ⟨t288, A84, H⟩ := bS H
                   have HC85 := AM H
                   clear H; have hnb86 := NB282_275.out; have hnc86 := NB275_282.out; have hnb87 := NB282_284.out; have hnc87 := NB284_282.out; obtain ⟨hcz88_0, hcz88_1, hcz88_2, hfz88_0, hfz88_1, hfz88_2⟩ := c3 BK282; have hnb89 := NB284_275.out; have hnc89 := NB275_284.out; obtain ⟨hcz90_0, hcz90_1, hcz90_2, hfz90_0, hfz90_1, hfz90_2⟩ := c3 BK284; obtain ⟨hcz91_0, hcz91_1, hcz91_2, hfz91_0, hfz91_1, hfz91_2⟩ := c3 BK275
                   go_upto_if 88 with (first | (go_at_call 63; (with_reducible refine (rf09_Turn.calls kj59 ((rd_T27 l1 x6_2).f0) ((rd_T27 l1 x6_2).f1) ((rd_T27 l1 x6_2).f2) x285000_22 x285001_22 x285002_22 a0_0 a0_1 a0_2 t287 _ A74.out).mono ?_); rintro e w92 ⟨rfl, hb⟩; replace BK275 := kB BK275 hb; replace BK282 := kB BK282 hb; replace BK284 := kB BK284 hb; replace HB := kH HB hb; (try clear hb); (try clear hb2); (try clear hk); (try clear hi); obtain ⟨hcz93_0, hcz93_1, hcz93_2, hfz93_0, hfz93_1, hfz93_2⟩ := c3 BK282; obtain ⟨hcz94_0, hcz94_1, hcz94_2, hfz94_0, hfz94_1, hfz94_2⟩ := c3 BK284; obtain ⟨hcz95_0, hcz95_1, hcz95_2, hfz95_0, hfz95_1, hfz95_2⟩ := c3 BK275; (try clear A74)) | (go_at_call 63; (with_reducible refine (rf09_Turn.calls kj59 ((rd_T27 l1 x6_2).f0) ((rd_T27 l1 x6_2).f1) ((rd_T27 l1 x6_2).f2) x285000_22 x285001_22 x285002_22 a0_0 a0_1 a0_2 t288 _ A84.out).mono ?_); rintro e w96 ⟨rfl, hb⟩; replace BK275 := kB BK275 hb; replace BK282 := kB BK282 hb; replace BK284 := kB BK284 hb; replace HB := kH HB hb; (try clear hb); (try clear hb2); (try clear hk); (try clear hi); (try clear A84)))
                   (try simp only [Act.put, List.setIfInBounds_toArray, List.set_cons_zero, List.set_cons_succ])
                   have H := HC85.out; clear HC85
                   by_cases c97 : t288 < 0
                   ·rw [if_pos c97] at H
                    have c97b0 := decide_eq_true c97; clear c97
                    (first | rw [c97b0] | (simp only [i64_w, i32_w]; rw [c97b0]) | skip)
                    have H' := AM H
                    clear H
                    go_wp2
                    go_roundg kj59
                    case measure => have := HJ2.out; have := HK2.out; have := HJ22.out; have := HJ46.out; have := HJ59.out; omega
                    case rel => exact ⟨(wrap64 (x5_2 + 1)), (wrap64 (x6_2 + 1)), rS, rS, H', ⟨by have := HJ2.out; have := HK2.out; have := HJ22.out; have := HJ46.out; have := HJ59.out; omega⟩, ⟨bK BK275⟩, ⟨ bH HB⟩⟩
                   ·rw [if_neg c97] at H
                    have c97b0 := decide_eq_false c97; clear c97
                    (first | rw [c97b0] | (simp only [i64_w, i32_w]; rw [c97b0]) | skip)
                    have H' := AM H
                    clear H
                    go_wp2
                    go_roundg kj59
                    case measure => have := HJ2.out; have := HK2.out; have := HJ22.out; have := HJ46.out; have := HJ59.out; omega
                    case rel => exact ⟨(x5_2), (wrap64 (x6_2 + 1)), rS, rS, H', ⟨by have := HJ2.out; have := HK2.out; have := HJ22.out; have := HJ46.out; have := HJ59.out; omega⟩, ⟨bK BK275⟩, ⟨ bH HB⟩⟩
                  ·replace c83 := Bool.eq_false_iff.mpr c83
                   subst c83
                   have H1 : (rf09_In.l0 kj59 l1 x5_2 (wrap64 (x6_2 + 1)) a0_0 a0_1 a0_2) = some r := by rw [if_neg (show ¬ (false = true) by decide)] at H; exact H
                   clear H; have H := H1; clear H1
                   have H' := AM H
                   clear H; have hnb98 := NB282_275.out; have hnc98 := NB275_282.out; have hnb99 := NB282_284.out; have hnc99 := NB284_282.out; obtain ⟨hcz100_0, hcz100_1, hcz100_2, hfz100_0, hfz100_1, hfz100_2⟩ := c3 BK282; have hnb101 := NB284_275.out; have hnc101 := NB275_284.out; obtain ⟨hcz102_0, hcz102_1, hcz102_2, hfz102_0, hfz102_1, hfz102_2⟩ := c3 BK284; obtain ⟨hcz103_0, hcz103_1, hcz103_2, hfz103_0, hfz103_1, hfz103_2⟩ := c3 BK275
                   go_wp2_with (first | (go_at_call 63; (with_reducible refine (rf09_Turn.calls kj59 ((rd_T27 l1 x6_2).f0) ((rd_T27 l1 x6_2).f1) ((rd_T27 l1 x6_2).f2) x285000_22 x285001_22 x285002_22 a0_0 a0_1 a0_2 t287 _ A74.out).mono ?_); rintro e w104 ⟨rfl, hb⟩; replace BK275 := kB BK275 hb; replace BK282 := kB BK282 hb; replace BK284 := kB BK284 hb; replace HB := kH HB hb; (try clear hb); (try clear hb2); (try clear hk); (try clear hi)))
                   go_roundg kj59
                   case measure => have := HJ2.out; have := HK2.out; have := HJ22.out; have := HJ46.out; have := HJ59.out; omega
                   case rel => exact ⟨(x5_2), (wrap64 (x6_2 + 1)), rS, rS, H', ⟨by have := HJ2.out; have := HK2.out; have := HJ22.out; have := HJ46.out; have := HJ59.out; omega⟩, ⟨bK BK275⟩, ⟨ bH HB⟩⟩
                ·replace c73 := Bool.eq_false_iff.mpr c73
                 subst c73
                 have H1 : (if x10_59 = true then ((rf09_Turn.f kj59 ((rd_T27 l1 x6_2).f0) ((rd_T27 l1 x6_2).f1) ((rd_T27 l1 x6_2).f2) x285000_22 x285001_22 x285002_22 a0_0 a0_1 a0_2).bind fun t289 => (if t289 < 0 then (rf09_In.l0 kj59 l1 (wrap64 (x5_2 + 1)) (wrap64 (x6_2 + 1)) a0_0 a0_1 a0_2) else (rf09_In.l0 kj59 l1 x5_2 (wrap64 (x6_2 + 1)) a0_0 a0_1 a0_2))) else (rf09_In.l0 kj59 l1 x5_2 (wrap64 (x6_2 + 1)) a0_0 a0_1 a0_2)) = some r := by rw [if_neg (show ¬ (false = true) by decide)] at H; exact H
                 clear H; have H := H1; clear H1
                 by_cases c105 : x10_59 = true
                 ·subst c105
                  have H1 : ((rf09_Turn.f kj59 ((rd_T27 l1 x6_2).f0) ((rd_T27 l1 x6_2).f1) ((rd_T27 l1 x6_2).f2) x285000_22 x285001_22 x285002_22 a0_0 a0_1 a0_2).bind fun t289 => (if t289 < 0 then (rf09_In.l0 kj59 l1 (wrap64 (x5_2 + 1)) (wrap64 (x6_2 + 1)) a0_0 a0_1 a0_2) else (rf09_In.l0 kj59 l1 x5_2 (wrap64 (x6_2 + 1)) a0_0 a0_1 a0_2))) = some r := by rw [if_pos rfl] at H; exact H
                  clear H; have H := H1; clear H1
                  obtain ⟨t289, A106, H⟩ := bS H
                  have HC107 := AM H
                  clear H; have hnb108 := NB282_275.out; have hnc108 := NB275_282.out; have hnb109 := NB282_284.out; have hnc109 := NB284_282.out; obtain ⟨hcz110_0, hcz110_1, hcz110_2, hfz110_0, hfz110_1, hfz110_2⟩ := c3 BK282; have hnb111 := NB284_275.out; have hnc111 := NB275_284.out; obtain ⟨hcz112_0, hcz112_1, hcz112_2, hfz112_0, hfz112_1, hfz112_2⟩ := c3 BK284; obtain ⟨hcz113_0, hcz113_1, hcz113_2, hfz113_0, hfz113_1, hfz113_2⟩ := c3 BK275
                  go_upto_if 88 with (first | (go_at_call 63; (with_reducible refine (rf09_Turn.calls kj59 ((rd_T27 l1 x6_2).f0) ((rd_T27 l1 x6_2).f1) ((rd_T27 l1 x6_2).f2) x285000_22 x285001_22 x285002_22 a0_0 a0_1 a0_2 t289 _ A106.out).mono ?_); rintro e w114 ⟨rfl, hb⟩; replace BK275 := kB BK275 hb; replace BK282 := kB BK282 hb; replace BK284 := kB BK284 hb; replace HB := kH HB hb; (try clear hb); (try clear hb2); (try clear hk); (try clear hi)))
                  (try simp only [Act.put, List.setIfInBounds_toArray, List.set_cons_zero, List.set_cons_succ])
                  have H := HC107.out; clear HC107
                  by_cases c115 : t289 < 0
                  ·rw [if_pos c115] at H
                   have c115b0 := decide_eq_true c115; clear c115
                   (first | rw [c115b0] | (simp only [i64_w, i32_w]; rw [c115b0]) | skip)
                   have H' := AM H
                   clear H
                   go_wp2
                   go_roundg kj59
                   case measure => have := HJ2.out; have := HK2.out; have := HJ22.out; have := HJ46.out; have := HJ59.out; omega
                   case rel => exact ⟨(wrap64 (x5_2 + 1)), (wrap64 (x6_2 + 1)), rS, rS, H', ⟨by have := HJ2.out; have := HK2.out; have := HJ22.out; have := HJ46.out; have := HJ59.out; omega⟩, ⟨bK BK275⟩, ⟨ bH HB⟩⟩
                  ·rw [if_neg c115] at H
                   have c115b0 := decide_eq_false c115; clear c115
                   (first | rw [c115b0] | (simp only [i64_w, i32_w]; rw [c115b0]) | skip)
                   have H' := AM H
                   clear H
                   go_wp2
                   go_roundg kj59
                   case measure => have := HJ2.out; have := HK2.out; have := HJ22.out; have := HJ46.out; have := HJ59.out; omega
                   case rel => exact ⟨(x5_2), (wrap64 (x6_2 + 1)), rS, rS, H', ⟨by have := HJ2.out; have := HK2.out; have := HJ22.out; have := HJ46.out; have := HJ59.out; omega⟩, ⟨bK BK275⟩, ⟨ bH HB⟩⟩
                 ·replace c105 := Bool.eq_false_iff.mpr c105
                  subst c105
                  have H1 : (rf09_In.l0 kj59 l1 x5_2 (wrap64 (x6_2 + 1)) a0_0 a0_1 a0_2) = some r := by rw [if_neg (show ¬ (false = true) by decide)] at H; exact H
                  clear H; have H := H1; clear H1
                  have H' := AM H
                  clear H
                  go_wp2
                  go_roundg kj59
                  case measure => have := HJ2.out; have := HK2.out; have := HJ22.out; have := HJ46.out; have := HJ59.out; omega
                  case rel => exact ⟨(x5_2), (wrap64 (x6_2 + 1)), rS, rS, H', ⟨by have := HJ2.out; have := HK2.out; have := HJ22.out; have := HJ46.out; have := HJ59.out; omega⟩, ⟨bK BK275⟩, ⟨ bH HB⟩⟩
        ·rw [if_neg c22] at H
         exact absurd H (by simp)
       ·rw [if_neg c21] at H
        exact absurd H (by simp)
      ·rw [if_neg c20] at H
       have c20b0 := decide_eq_false c20; clear c20
       by_cases c116 : (Int.tmod x5_2 2) = 1
       ·rw [if_pos c116] at H
        have c116b0 : ((Int.tmod x5_2 2) == 1) = true := beq_iff_eq.mpr c116
        have c116b1 : ((Int.tmod x5_2 2) != 1) = false := bne_eq_false_iff_eq.mpr c116
        clear c116
        obtain rfl := Option.some.inj H
        go_wp2
        go_ret
        exact ⟨rE, bH HB⟩
       ·rw [if_neg c116] at H
        have c116b0 : ((Int.tmod x5_2 2) == 1) = false := beq_eq_false_iff_ne.mpr c116
        have c116b1 : ((Int.tmod x5_2 2) != 1) = true := bne_iff_ne.mpr c116
        obtain rfl := Option.some.inj H
        go_wp2
        go_ret
        exact ⟨rE, bH HB⟩
end Go.Proofs.Ytbonkedecfjmdaa.P
