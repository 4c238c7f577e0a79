/- Written for this claim by a program of this session (a turned copy of the print): Go functions as Lean functions, and that the Go code comes to just these answers; or a statement proved out of them. No condition. Rows of rows in memory, as the headers that stand there: cut, and laid behind one another. No condition. -/
import Derived.Test.YtbonkedecfjmdaaZ2
import Derived.Test.YtbonkedecfjmdaaZ22
import Derived.Test.YtbonkedecfjmdaaZ15
import Derived.Test.YtbonkedecfjmdaaZ26
import Derived.Test.YtbonkedecfjmdaaZ18
import Derived.Test.YtbonkedecfjmdaaZ1

namespace Go.Proofs.Ytbonkedecfjmdaa.P
open Go.RowKit Go.Proofs.YtbonkedecfjmdaaW.PrintWords Go.Proofs.YtbonkedecfjmdaaW.PrintLast Go.Proofs.YtbonkedecfjmdaaW.PrintMore Go.Proofs.Ytbonkedecfjmdaa.X
attribute [local go_sem] max2_int min2_int max_two min_two max_three min_three max_four min_four add64_0 add64_1 add64
set_option linter.unusedVariables false
set_option linter.unusedSimpArgs false
mutual
def plan_Where.l0 : Nat → List Int → List (List Int) → Int → Int → List (List (S27)) → List (List Int) → List (List Int) → Int → Int → Int → Option (List Int × Int)
 | 0, _, _, _, _, _, _, _, _, _, _ => none
 | k + 1, x7, x26, x27, x28, x676000, x676001, x676002, x677000, x677001, x677002 => if x28 < x27 then (if 0 ≤ x28 then (if x28 < (x26.length : Int) then (plan_Where.l1 k x7 x28 true x26 x27 x28 (rd_L3 x26 x28) ((rd_L3 x26 x28).length : Int) 0 x676000 x676001 x676002 x677000 x677001 x677002) else (none)) else (none)) else (some (x7, 0))
def plan_Where.l1 : Nat → List Int → Int → Bool → List (List Int) → Int → Int → List Int → Int → Int → List (List (S27)) → List (List Int) → List (List Int) → Int → Int → Int → Option (List Int × Int)
 | 0, _, _, _, _, _, _, _, _, _, _, _, _, _, _, _ => none
 | k + 1, x7, x8, x10, x26, x27, x28, x33, x34, x35, x676000, x676001, x676002, x677000, x677001, x677002 => if x35 < x34 then (if 0 ≤ x35 then (if x35 < (x33.length : Int) then ((ring_Ring.f k x676000 x676001 x676002 (rd x33 x35)).bind fun bt684 => ((geom_In.f k x677000 x677001 x677002 bt684.1).bind fun t688 => (if x10 = true then (if x35 = 0 then (if t688 ≥ 0 then (plan_Where.l1 k x7 x8 true x26 x27 x28 x33 x34 (wrap64 (x35 + 1)) x676000 x676001 x676002 x677000 x677001 x677002) else (if x35 > 0 then (plan_Where.l1 k x7 x8 (decide (t688 < 1)) x26 x27 x28 x33 x34 (wrap64 (x35 + 1)) x676000 x676001 x676002 x677000 x677001 x677002) else (plan_Where.l1 k x7 x8 false x26 x27 x28 x33 x34 (wrap64 (x35 + 1)) x676000 x676001 x676002 x677000 x677001 x677002))) else (if x35 > 0 then (plan_Where.l1 k x7 x8 (decide (t688 < 1)) x26 x27 x28 x33 x34 (wrap64 (x35 + 1)) x676000 x676001 x676002 x677000 x677001 x677002) else (plan_Where.l1 k x7 x8 false x26 x27 x28 x33 x34 (wrap64 (x35 + 1)) x676000 x676001 x676002 x677000 x677001 x677002))) else (plan_Where.l1 k x7 x8 false x26 x27 x28 x33 x34 (wrap64 (x35 + 1)) x676000 x676001 x676002 x677000 x677001 x677002)))) else (none)) else (none)) else (if x10 = true then (if x7.length < 17592186044416 then (plan_Where.l0 k (x7 ++ [x8]) x26 x27 (wrap64 (x28 + 1)) x676000 x676001 x676002 x677000 x677001 x677002) else (none)) else (plan_Where.l0 k x7 x26 x27 (wrap64 (x28 + 1)) x676000 x676001 x676002 x677000 x677001 x677002))
end
def plan_Where.f (k : Nat) (l0_0 : List (List (S27))) (l0_1 : List (List Int)) (l0_2 : List (List Int)) (a1_0 : Int) (a1_1 : Int) (a1_2 : Int) : Option (List Int × Int) := (plan_Check.f k l0_0 l0_1 l0_2).bind fun t677 => (if t677 = 0 then ((geom_Right.f k (([(⟨a1_0, a1_1, a1_2⟩ : S27)] : List (S27)))).bind fun t681 => (if t681 = true then (plan_Where.l0 k ([] : List Int) l0_2 (l0_2.length : Int) 0 l0_0 l0_1 l0_2 a1_0 a1_1 a1_2) else (some (([] : List Int), 2)))) else (some (([] : List Int), t677)))
theorem plan_Where.mono_l : ∀ k, (∀ y0 y1 y2 y3 y4 y5 y6 y7 y8 y9, LeO (plan_Where.l0 k y0 y1 y2 y3 y4 y5 y6 y7 y8 y9) (plan_Where.l0 (k + 1) y0 y1 y2 y3 y4 y5 y6 y7 y8 y9)) ∧ (∀ y0 y1 y2 y3 y4 y5 y6 y7 y8 y9 y10 y11 y12 y13 y14, LeO (plan_Where.l1 k y0 y1 y2 y3 y4 y5 y6 y7 y8 y9 y10 y11 y12 y13 y14) (plan_Where.l1 (k + 1) y0 y1 y2 y3 y4 y5 y6 y7 y8 y9 y10 y11 y12 y13 y14))
 | 0 => ⟨fun _ _ _ _ _ _ _ _ _ _ r h => by simp [plan_Where.l0] at h, fun _ _ _ _ _ _ _ _ _ _ _ _ _ _ _ r h => by simp [plan_Where.l1] at h⟩
 | k + 1 => by
  obtain ⟨ih0, ih1⟩ := plan_Where.mono_l k
  refine ⟨?_, ?_⟩
  all_goals
   intros
   first | unfold plan_Where.l0 | unfold plan_Where.l1
   repeat' with_reducible first | exact ih0 _ _ _ _ _ _ _ _ _ _ | exact ih1 _ _ _ _ _ _ _ _ _ _ _ _ _ _ _ | exact geom_In.mono _ _ _ _ _ | exact geom_Right.mono _ _ | exact plan_Check.mono _ _ _ _ | exact ring_Ring.mono _ _ _ _ _ | exact LeO.refl _ | exact LeO.none _ | refine LeO.ite ?_ ?_ | refine LeO.bind ?_ (fun _ => ?_)
theorem plan_Where.mono : ∀ a0 a1 a2 a3 a4 a5 k, LeO (plan_Where.f k a0 a1 a2 a3 a4 a5) (plan_Where.f (k + 1) a0 a1 a2 a3 a4 a5) := by
 intro a0 a1 a2 a3 a4 a5 k
 obtain ⟨ih0, ih1⟩ := plan_Where.mono_l k
 unfold plan_Where.f
 repeat' first
   | (with_reducible exact ih0 _ _ _ _ _ _ _ _ _ _)
   | (with_reducible exact ih1 _ _ _ _ _ _ _ _ _ _ _ _ _ _ _)
   | (with_reducible exact geom_In.mono _ _ _ _ _)
   | (with_reducible exact geom_Right.mono _ _)
   | (with_reducible exact plan_Check.mono _ _ _ _)
   | (with_reducible exact ring_Ring.mono _ _ _ _ _)
   | (with_reducible exact LeO.refl _)
   | (with_reducible exact LeO.none _)
   | (with_reducible refine LeO.ite ?_ ?_)
   | (with_reducible refine LeO.bind ?_ (fun _ => ?_))
   | exact ih0 _ _ _ _ _ _ _ _ _ _
   | exact ih1 _ _ _ _ _ _ _ _ _ _ _ _ _ _ _
   | exact geom_In.mono _ _ _ _ _
   | exact geom_Right.mono _ _
   | exact plan_Check.mono _ _ _ _
   | exact ring_Ring.mono _ _ _ _ _
   | exact LeO.none _
   | refine LeO.ite ?_ ?_
   | refine LeO.bind ?_ (fun _ => ?_)
set_option maxHeartbeats 8000000 in
set_option maxRecDepth 100000 in
theorem plan_Where.calls (k : Nat) (A0_0 : Option Addr) (c0_0 : Nat) (l0_0 : List (List (S27))) (A0_1 : Option Addr) (c0_1 : Nat) (l0_1 : List (List Int)) (A0_2 : Option Addr) (c0_2 : Nat) (l0_2 : List (List Int)) (a1_0 : Int) (a1_1 : Int) (a1_2 : Int) (r1 : List Int) (r2 : Int) (w : World) (hr0_0 : Kd.C (Kd.slice 27 k27) w A0_0 l0_0.length l0_0) (hc0_0 : l0_0.length ≤ c0_0) (hr0_1 : Kd.C (Kd.slice 3 (Kd.int .i64)) w A0_1 l0_1.length l0_1) (hc0_1 : l0_1.length ≤ c0_1) (hr0_2 : Kd.C (Kd.slice 3 (Kd.int .i64)) w A0_2 l0_2.length l0_2) (hc0_2 : l0_2.length ≤ c0_2) (h : plan_Where.f k l0_0 l0_1 l0_2 a1_0 a1_1 a1_2 = some (r1, r2)) :
  Calls Try.prog 10 #[.agg #[.slice A0_0 l0_0.length c0_0, .slice A0_1 l0_1.length c0_1, .slice A0_2 l0_2.length c0_2], .agg #[.int .i64 a1_0, .int .i64 a1_1, .int .i64 a1_2]] w fun e w' => ∃ v0_ : Value, e = .returned (.tuple #[v0_, .int .i64 r2]) ∧ Kd.R (Kd.int .i64) 3 w' w.heap.size (fun _ => True) v0_ r1 ∧ Below w.heap.size w w' := by
 have hu25 := Try.underlying25
 have hu27 := Try.underlying27
 have HR0_0 := AM hr0_0
 have HC0_0 := AM hc0_0
 clear hr0_0 hc0_0
 have HR0_1 := AM hr0_1
 have HC0_1 := AM hc0_1
 clear hr0_1 hc0_1
 have HR0_2 := AM hr0_2
 have HC0_2 := AM hc0_2
 clear hr0_2 hc0_2
 have HB := AM (Below.refl w.heap.size w)
 have H : ((plan_Check.f k l0_0 l0_1 l0_2).bind fun t677 => (if t677 = 0 then ((geom_Right.f k (([(⟨a1_0, a1_1, a1_2⟩ : S27)] : List (S27)))).bind fun t681 => (if t681 = true then (plan_Where.l0 k ([] : List Int) l0_2 (l0_2.length : Int) 0 l0_0 l0_1 l0_2 a1_0 a1_1 a1_2) else (some (([] : List Int), 2)))) else (some (([] : List Int), t677)))) = some (r1, r2) := h
 clear h
 obtain ⟨t677, A3, H⟩ := bS H
 have HC4 := AM H
 clear H
 go_enter Try.func10, Try.ntmps10
 go_upto_if 19 with (first | ((with_reducible refine gate_dst (N := 2) rfl ?_); refine bE 2 #[.slice A0_0 l0_0.length c0_0, .slice A0_1 l0_1.length c0_1, .slice A0_2 l0_2.length c0_2] 25 ?_; intro gb675 hg w5 hbox hb; have BK675 := AM hbox; have GW675 := kG HB hg; replace HB := kH HB hb; have GE675 := GW675; clear hb hbox hg) | ((with_reducible refine gate_dst (N := 3) rfl ?_); refine bE 3 #[.int .i64 a1_0, .int .i64 a1_1, .int .i64 a1_2] 27 ?_; intro gb676 hg w6 hbox hb; have BK676 := AM hbox; have GW676 := kG HB hg; replace HB := kH HB hb; have GE676 := GW676; have NB675_676 := kN BK675 hg; have NB676_675 := kM BK675 hg; replace BK675 := kB BK675 hb; clear hb hbox hg; have hnb7 := NB675_676.out; have hnc7 := NB676_675.out; obtain ⟨hcz8_0, hcz8_1, hcz8_2, hfz8_0, hfz8_1, hfz8_2⟩ := c3 BK675) | ((with_reducible refine gate_callee (f := 31) rfl ?_); refine gL (some 17) Try.func31 #[.agg #[.slice A0_0 l0_0.length c0_0, .slice A0_1 l0_1.length c0_1, .slice A0_2 l0_2.length c0_2]] ?_; (with_reducible refine (plan_Check.calls k _ _ l0_0 _ _ l0_1 _ _ l0_2 t677 _ ?side1 ?side2 ?side3 ?side4 ?side5 ?side6 A3.out).mono ?_); (case side1 => exact sC HR0_0 HB); (case side2 => exact HC0_0.out); (case side3 => exact sC HR0_1 HB); (case side4 => exact HC0_1.out); (case side5 => exact sC HR0_2 HB); (case side6 => exact HC0_2.out); rintro e w9 ⟨rfl, hb⟩; refine ⟨_, rfl, ?_⟩; replace BK675 := kB BK675 hb; replace BK676 := kB BK676 hb; replace HB := kH HB hb; (try clear hb); (try clear hb2); (try clear hk); (try clear hi)))
 (try simp only [Act.put, List.setIfInBounds_toArray, List.set_cons_zero, List.set_cons_succ])
 have H := HC4.out; clear HC4
 by_cases c10 : t677 = 0
 ·rw [if_pos c10] at H
  have c10b0 : (t677 == 0) = true := beq_iff_eq.mpr c10
  have c10b1 : (t677 != 0) = false := bne_eq_false_iff_eq.mpr c10
  clear c10
  (first | rw [c10b0] | (simp only [i64_w, i32_w]; rw [c10b0]) | skip)
  obtain ⟨y678, hy678⟩ : ∃ y_ : List (S27), y_ = (([(⟨a1_0, a1_1, a1_2⟩ : S27)] : List (S27))) := ⟨_, rfl⟩
  replace H : ((geom_Right.f k y678).bind fun t681 => (if t681 = true then (plan_Where.l0 k ([] : List Int) l0_2 (l0_2.length : Int) 0 l0_0 l0_1 l0_2 a1_0 a1_1 a1_2) else (some (([] : List Int), 2)))) = some (r1, r2) := by first | (rw [hy678]; with_reducible exact H) | (have H2_ := (Option.bind_some _ _).symm.trans H; rw [hy678]; with_reducible exact H2_) | (have H2_ := (Option.bind_some _ _).symm.trans H; with_reducible exact H2_) | with_reducible exact H | (rw [hy678]; exact H) | exact H
  have Ny678 := AM hy678
  clear hy678
  obtain ⟨t681, A11, H⟩ := bS H
  have HC12 := AM H
  clear H; have hnb13 := NB676_675.out; have hnc13 := NB675_676.out; obtain ⟨hcz14_0, hcz14_1, hcz14_2, hfz14_0, hfz14_1, hfz14_2⟩ := c3 BK676
  go_upto_if 24 with (first | ((with_reducible refine gate_dst (N := 22) rfl ?_); refine Kd.R_lit k27 _ 27 ?hg (N := 22) ?hd (xs := ([(⟨a1_0, a1_1, a1_2⟩ : S27)] : List (S27))) (inner := [.int .i64 a1_0, .int .i64 a1_1, .int .i64 a1_2]) (ok := fun _ => True) (okp := fun _ => True) ?hr ?hp (fun _ hk => hk) trivial (Below.refl _ _) (Nat.le_refl _) (by simp) ?_; (case hd => rfl); (case hg => rfl); (case hr => first | (go_simp; done) | (go_simp; rfl)); (case hp => exact (Reps.c3 (show Kd.M k27 _ _ _ (⟨a1_0, a1_1, a1_2⟩ : S27) [.int .i64 a1_0, .int .i64 a1_1, .int .i64 a1_2] from (k27_mkM _ _ _ (⟨a1_0, a1_1, a1_2⟩ : S27) )) (Reps.none _ _))); intro v679 w15 ho16 hb hg_ hnew_; clear hg_ hnew_; (first | rw [← Ny678.out] at ho16 | (simp only [Int.reduceToNat] at ho16; rw [← Ny678.out] at ho16)); have HO680 := AM (Kd.R_lower (Kd.R_newB ho16 (g := gb676) (o := .cells #[.int .i64 a1_0, .int .i64 a1_1, .int .i64 a1_2] 27 (0, 0)) (bK BK676)) (below_size (bH HB))); replace BK675 := kB BK675 hb; replace BK676 := kB BK676 hb; replace HB := kH HB hb; clear hb ho16; obtain ⟨Ao17, co17, eo17⟩ := Kd.R_slice HO680.out; subst eo17) | ((with_reducible refine gate_callee (f := 32) rfl ?_); refine gL (some 23) Try.func32 #[.slice Ao17 y678.length co17] ?_; (with_reducible refine (geom_Right.calls k _ _ y678 t681 _ ?side1 ?side2 A11.out).mono ?_); (case side1 => exact sR HO680); (case side2 => exact (Kd.R_reads' HO680.out).2.1); rintro e w18 ⟨rfl, hb⟩; refine ⟨_, rfl, ?_⟩; replace HO680 := kR HO680 hb; replace BK675 := kB BK675 hb; replace BK676 := kB BK676 hb; replace HB := kH HB hb; (try clear hb); (try clear hb2); (try clear hk); (try clear hi)))
  (try simp only [Act.put, List.setIfInBounds_toArray, List.set_cons_zero, List.set_cons_succ])
  have H := HC12.out; clear HC12
  by_cases c19 : t681 = true
  ·subst c19
   have H1 : (plan_Where.l0 k ([] : List Int) l0_2 (l0_2.length : Int) 0 l0_0 l0_1 l0_2 a1_0 a1_1 a1_2) = some (r1, r2) := by rw [if_pos rfl] at H; exact H
   clear H; have H := H1; clear H1
   have H' := AM H
   clear H; have hnb20 := NB675_676.out; have hnc20 := NB676_675.out; obtain ⟨hcz21_0, hcz21_1, hcz21_2, hfz21_0, hfz21_1, hfz21_2⟩ := c3 BK675
   go_wp2
   go_loopg [7, 28] k (fun kq v7 v28 w' => ∃ (x7_1 : List Int) (x28_1 : Int), v28 = .int .i64 x28_1 ∧ Aside0 (plan_Where.l0 kq x7_1 l0_2 (l0_2.length : Int) x28_1 l0_0 l0_1 l0_2 a1_0 a1_1 a1_2 = some (r1, r2)) ∧ Aside0 (kq ≤ k) ∧ Aside0 (Kd.R (Kd.int .i64) 3 w' w.heap.size (fun _ => True) v7 x7_1) ∧ Aside0 (w'.heap[gb675]? = some (.cells #[(.slice A0_0 l0_0.length c0_0), (.slice A0_1 l0_1.length c0_1), (.slice A0_2 l0_2.length c0_2)] 25 (0, 0))) ∧ Aside0 (w'.heap[gb676]? = some (.cells #[.int .i64 a1_0, .int .i64 a1_1, .int .i64 a1_2] 27 (0, 0))) ∧ Aside0 (Below w.heap.size w w'))
   case atStart => exact ⟨(([] : List Int)), (0), rS, H', ⟨Nat.le_refl _⟩, ⟨by first | exact Kd.R_nil _ _ _ _ _ | exact Kd.N_nil _ _ _ _ _ | exact Kd.V_nil _ _ _ _ _ | exact Kd.Q_nil _ _ _ _ _ | exact Kd.S_nil _ _ _ _ _⟩, ⟨bK BK675⟩, ⟨bK BK676⟩, ⟨ bH HB⟩⟩
   case round =>
    clear H'
    (try clear c1); (try clear c2); (try clear p2); (try clear c3); (try clear c7); (try clear c10); (try clear c10b0); (try clear c10b1); (try clear c13); (try clear c19); (try clear c20); (try clear hcz14_0); (try clear hcz14_1); (try clear hcz14_2); (try clear hcz21_0); (try clear hcz21_1); (try clear hcz21_2); (try clear hcz8_0); (try clear hcz8_1); (try clear hcz8_2); (try clear hfz14_0); (try clear hfz14_1); (try clear hfz14_2); (try clear hfz21_0); (try clear hfz21_1); (try clear hfz21_2); (try clear hfz8_0); (try clear hfz8_1); (try clear hfz8_2)
    obtain ⟨x7_1, x28_1, rfl, HA, HK1, HO_7, BK675, BK676, HB⟩ := hrel
    cases gk with
    | zero => exact absurd HA.out (by simp [plan_Where.l0])
    | succ k1 =>
     have H := HA.out; clear HA
     simp only [plan_Where.l0] at H
     by_cases c22 : x28_1 < (l0_2.length : Int)
     ·rw [if_pos c22] at H
      have c22b0 := decide_eq_true c22; clear c22
      (first | rw [c22b0] | (simp only [i64_w, i32_w]; rw [c22b0]) | skip)
      by_cases c23 : 0 ≤ x28_1
      ·rw [if_pos c23] at H
       have c23b0 := decide_eq_true c23; clear c23
       by_cases c24 : x28_1 < (l0_2.length : Int)
       ·rw [if_pos c24] at H
        have c24b0 := decide_eq_true c24; clear c24
        have H' := AM H
        clear H
        have p682 : 0 ≤ (x28_1 : Int) := pD
        have q682 : x28_1 < (l0_2.length : Int) := pD
        obtain ⟨ad682, A682_0, c682_0, e682, hx682_0, hl682_0, hi682_0⟩ := at_L3 HR0_2.out x28_1 p682 q682
        cases e682
        replace hx682_0 := hW HB hx682_0
        have HR682_0 := AM hi682_0
        have HC682_0 := AM hl682_0
        clear hi682_0 hl682_0; replace p682 := eq_true p682; replace q682 := eq_true q682
        go_wp2
        go_loopg [10, 35] k1 (fun kq v10 v35 w' => ∃ (x10_2 : Bool) (x35_2 : Int), v10 = .bool x10_2 ∧ v35 = .int .i64 x35_2 ∧ Aside0 (plan_Where.l1 kq x7_1 x28_1 x10_2 l0_2 (l0_2.length : Int) x28_1 (rd_L3 l0_2 x28_1) ((rd_L3 l0_2 x28_1).length : Int) x35_2 l0_0 l0_1 l0_2 a1_0 a1_1 a1_2 = some (r1, r2)) ∧ Aside0 (kq ≤ k1) ∧ Aside0 (Kd.R (Kd.int .i64) 3 w' w.heap.size (fun _ => True) u7 x7_1) ∧ Aside0 (w'.heap[gb675]? = some (.cells #[(.slice A0_0 l0_0.length c0_0), (.slice A0_1 l0_1.length c0_1), (.slice (some ad682) l0_2.length c0_2)] 25 (0, 0))) ∧ Aside0 (w'.heap[gb676]? = some (.cells #[.int .i64 a1_0, .int .i64 a1_1, .int .i64 a1_2] 27 (0, 0))) ∧ Aside0 (Below w.heap.size w w'))
        case atStart => exact ⟨(true), (0), rS, rS, H', ⟨Nat.le_refl _⟩, ⟨rK HO_7⟩, ⟨bK BK675⟩, ⟨bK BK676⟩, ⟨ bH HB⟩⟩
        case round =>
         clear H'
         (try clear c1); (try clear c2); (try clear p2); (try clear c3); (try clear c6); (try clear p6); (try clear q6); (try clear hx6); (try clear c7); (try clear c10); (try clear c10b0); (try clear c10b1); (try clear c13); (try clear c19); (try clear c20); (try clear c22); (try clear c22b0); (try clear c23); (try clear c23b0); (try clear c24); (try clear c24b0); (try clear hcz14_0); (try clear hcz14_1); (try clear hcz14_2); (try clear hcz21_0); (try clear hcz21_1); (try clear hcz21_2); (try clear hcz8_0); (try clear hcz8_1); (try clear hcz8_2); (try clear hfz14_0); (try clear hfz14_1); (try clear hfz14_2); (try clear hfz21_0); (try clear hfz21_1); (try clear hfz21_2); (try clear hfz8_0); (try clear hfz8_1); (try clear hfz8_2); (try clear hx682_0); (try clear p2); (try clear p682); (try clear q682)
         obtain ⟨x10_2, x35_2, rfl, rfl, HA, HK2, HO_7, BK675, BK676, HB⟩ := hrel
         cases gk with
         | zero => exact absurd HA.out (by simp [plan_Where.l1])
         | succ k2 =>
          have H := HA.out; clear HA
          simp only [plan_Where.l1] at H
          by_cases c25 : x35_2 < ((rd_L3 l0_2 x28_1).length : Int)
          ·rw [if_pos c25] at H
           have c25b0 := decide_eq_true c25; clear c25
           by_cases c26 : 0 ≤ x35_2
           ·rw [if_pos c26] at H
            have c26b0 := decide_eq_true c26; clear c26
            by_cases c27 : x35_2 < ((rd_L3 l0_2 x28_1).length : Int)
            ·rw [if_pos c27] at H
             have c27b0 := decide_eq_true c27; clear c27
             obtain ⟨⟨t684, t687⟩, A28, H⟩ := bS H
             try dsimp only at H
             obtain ⟨t688, A29, H⟩ := bS H
             by_cases c30 : x10_2 = true
             ·subst c30
              have H1 : (if x35_2 = 0 then (if t688 ≥ 0 then (plan_Where.l1 k2 x7_1 x28_1 true l0_2 (l0_2.length : Int) x28_1 (rd_L3 l0_2 x28_1) ((rd_L3 l0_2 x28_1).length : Int) (wrap64 (x35_2 + 1)) l0_0 l0_1 l0_2 a1_0 a1_1 a1_2) else (if x35_2 > 0 then (plan_Where.l1 k2 x7_1 x28_1 (decide (t688 < 1)) l0_2 (l0_2.length : Int) x28_1 (rd_L3 l0_2 x28_1) ((rd_L3 l0_2 x28_1).length : Int) (wrap64 (x35_2 + 1)) l0_0 l0_1 l0_2 a1_0 a1_1 a1_2) else (plan_Where.l1 k2 x7_1 x28_1 false l0_2 (l0_2.length : Int) x28_1 (rd_L3 l0_2 x28_1) ((rd_L3 l0_2 x28_1).length : Int) (wrap64 (x35_2 + 1)) l0_0 l0_1 l0_2 a1_0 a1_1 a1_2))) else (if x35_2 > 0 then (plan_Where.l1 k2 x7_1 x28_1 (decide (t688 < 1)) l0_2 (l0_2.length : Int) x28_1 (rd_L3 l0_2 x28_1) ((rd_L3 l0_2 x28_1).length : Int) (wrap64 (x35_2 + 1)) l0_0 l0_1 l0_2 a1_0 a1_1 a1_2) else (plan_Where.l1 k2 x7_1 x28_1 false l0_2 (l0_2.length : Int) x28_1 (rd_L3 l0_2 x28_1) ((rd_L3 l0_2 x28_1).length : Int) (wrap64 (x35_2 + 1)) l0_0 l0_1 l0_2 a1_0 a1_1 a1_2))) = some (r1, r2) := by rw [if_pos rfl] at H; exact H
              clear H; have H := H1; clear H1
              by_cases c31 : x35_2 = 0
              ·rw [if_pos c31] at H
               have c31b0 : (x35_2 == 0) = true := beq_iff_eq.mpr c31
               have c31b1 : (x35_2 != 0) = false := bne_eq_false_iff_eq.mpr c31
               clear c31
               by_cases c32 : t688 ≥ 0
               ·rw [if_pos c32] at H
                have c32b0 := decide_eq_true c32; clear c32
                have H' := AM H
                clear H
                have p683 : 0 ≤ (x35_2 : Int) := pD
                have q683 : x35_2 < ((rd_L3 l0_2 x28_1).length : Int) := pD
                obtain ⟨ad683, e683, hx683_0⟩ := Kd.at_int HR682_0.out x35_2 p683 q683
                cases e683
                replace hx683_0 := hW HB hx683_0; replace p683 := eq_true p683; replace q683 := eq_true q683; have hnb33 := NB675_676.out; have hnc33 := NB676_675.out; obtain ⟨hcz34_0, hcz34_1, hcz34_2, hfz34_0, hfz34_1, hfz34_2⟩ := c3 BK675
                go_wp2_with (first | ((with_reducible refine gate_callee (f := 33) rfl ?_); refine gL (some 43) Try.func33 #[.agg #[.slice A0_0 l0_0.length c0_0, .slice A0_1 l0_1.length c0_1, .slice (some ad682) l0_2.length c0_2], .int .i64 (rd (rd_L3 l0_2 x28_1) x35_2)] ?_; (with_reducible refine (ring_Ring.calls k2 _ _ l0_0 _ _ l0_1 _ _ l0_2 (rd (rd_L3 l0_2 x28_1) x35_2) t684 t687 _ ?side1 ?side2 ?side3 ?side4 ?side5 ?side6 A28.out).mono ?_); (case side1 => exact sC HR0_0 HB); (case side2 => exact HC0_0.out); (case side3 => exact sC HR0_1 HB); (case side4 => exact HC0_1.out); (case side5 => exact sC HR0_2 HB); (case side6 => exact HC0_2.out); rintro e w35 ⟨v685, rfl, ho0, hb⟩; refine ⟨_, rfl, ?_⟩; replace HO_7 := kR HO_7 hb; have HO686 := AM (Kd.R_lower (Kd.R_newB ho0 (g := gb676) (o := .cells #[.int .i64 a1_0, .int .i64 a1_1, .int .i64 a1_2] 27 (0, 0)) (bK BK676)) (below_size (bH HB))); replace BK675 := kB BK675 hb; replace BK676 := kB BK676 hb; replace HB := kH HB hb; (try clear hb); (try clear hb2); (try clear hk); (try clear hi); (try clear ho0); obtain ⟨hcz36_0, hcz36_1, hcz36_2, hfz36_0, hfz36_1, hfz36_2⟩ := c3 BK676; obtain ⟨Ao37, co37, eo37⟩ := Kd.R_slice HO686.out; subst eo37) | ((with_reducible refine gate_callee (f := 34) rfl ?_); refine gL (some 48) Try.func34 #[.agg #[.int .i64 a1_0, .int .i64 a1_1, .int .i64 a1_2], .slice Ao37 t684.length co37] ?_; (with_reducible refine (geom_In.calls k2 a1_0 a1_1 a1_2 _ _ t684 t688 _ ?side1 ?side2 A29.out).mono ?_); (case side1 => exact sR HO686); (case side2 => exact (Kd.R_reads' HO686.out).2.1); rintro e w38 ⟨rfl, hb⟩; refine ⟨_, rfl, ?_⟩; replace HO_7 := kR HO_7 hb; replace HO686 := kR HO686 hb; replace BK675 := kB BK675 hb; replace BK676 := kB BK676 hb; replace HB := kH HB hb; (try clear hb); (try clear hb2); (try clear hk); (try clear hi)))
                go_roundg k2
                case measure => have := HK1.out; have := HK2.out; omega
                case rel => exact ⟨(true), (wrap64 (x35_2 + 1)), rS, rS, H', ⟨by have := HK1.out; have := HK2.out; omega⟩, ⟨rK HO_7⟩, ⟨bK BK675⟩, ⟨bK BK676⟩, ⟨ bH HB⟩⟩
               ·rw [if_neg c32] at H
                have c32b0 := decide_eq_false c32; clear c32
                by_cases c39 : x35_2 > 0
                ·rw [if_pos c39] at H
                 have c39b0 := decide_eq_true c39; clear c39
                 have H' := AM H
                 clear H
                 have p683 : 0 ≤ (x35_2 : Int) := pD
                 have q683 : x35_2 < ((rd_L3 l0_2 x28_1).length : Int) := pD
                 obtain ⟨ad683, e683, hx683_0⟩ := Kd.at_int HR682_0.out x35_2 p683 q683
                 cases e683
                 replace hx683_0 := hW HB hx683_0; replace p683 := eq_true p683; replace q683 := eq_true q683; have hnb40 := NB675_676.out; have hnc40 := NB676_675.out; obtain ⟨hcz41_0, hcz41_1, hcz41_2, hfz41_0, hfz41_1, hfz41_2⟩ := c3 BK675
                 go_wp2_with (first | ((with_reducible refine gate_callee (f := 33) rfl ?_); refine gL (some 43) Try.func33 #[.agg #[.slice A0_0 l0_0.length c0_0, .slice A0_1 l0_1.length c0_1, .slice (some ad682) l0_2.length c0_2], .int .i64 (rd (rd_L3 l0_2 x28_1) x35_2)] ?_; (with_reducible refine (ring_Ring.calls k2 _ _ l0_0 _ _ l0_1 _ _ l0_2 (rd (rd_L3 l0_2 x28_1) x35_2) t684 t687 _ ?side1 ?side2 ?side3 ?side4 ?side5 ?side6 A28.out).mono ?_); (case side1 => exact sC HR0_0 HB); (case side2 => exact HC0_0.out); (case side3 => exact sC HR0_1 HB); (case side4 => exact HC0_1.out); (case side5 => exact sC HR0_2 HB); (case side6 => exact HC0_2.out); rintro e w42 ⟨v685, rfl, ho0, hb⟩; refine ⟨_, rfl, ?_⟩; replace HO_7 := kR HO_7 hb; have HO686 := AM (Kd.R_lower (Kd.R_newB ho0 (g := gb676) (o := .cells #[.int .i64 a1_0, .int .i64 a1_1, .int .i64 a1_2] 27 (0, 0)) (bK BK676)) (below_size (bH HB))); replace BK675 := kB BK675 hb; replace BK676 := kB BK676 hb; replace HB := kH HB hb; (try clear hb); (try clear hb2); (try clear hk); (try clear hi); (try clear ho0); obtain ⟨hcz43_0, hcz43_1, hcz43_2, hfz43_0, hfz43_1, hfz43_2⟩ := c3 BK676; obtain ⟨Ao44, co44, eo44⟩ := Kd.R_slice HO686.out; subst eo44) | ((with_reducible refine gate_callee (f := 34) rfl ?_); refine gL (some 48) Try.func34 #[.agg #[.int .i64 a1_0, .int .i64 a1_1, .int .i64 a1_2], .slice Ao44 t684.length co44] ?_; (with_reducible refine (geom_In.calls k2 a1_0 a1_1 a1_2 _ _ t684 t688 _ ?side1 ?side2 A29.out).mono ?_); (case side1 => exact sR HO686); (case side2 => exact (Kd.R_reads' HO686.out).2.1); rintro e w45 ⟨rfl, hb⟩; refine ⟨_, rfl, ?_⟩; replace HO_7 := kR HO_7 hb; replace HO686 := kR HO686 hb; replace BK675 := kB BK675 hb; replace BK676 := kB BK676 hb; replace HB := kH HB hb; (try clear hb); (try clear hb2); (try clear hk); (try clear hi)))
                 go_roundg k2
                 case measure => have := HK1.out; have := HK2.out; omega
                 case rel => exact ⟨(decide (t688 < 1)), (wrap64 (x35_2 + 1)), rS, rS, H', ⟨by have := HK1.out; have := HK2.out; omega⟩, ⟨rK HO_7⟩, ⟨bK BK675⟩, ⟨bK BK676⟩, ⟨ bH HB⟩⟩
                ·rw [if_neg c39] at H
                 have c39b0 := decide_eq_false c39; clear c39
                 have H' := AM H
                 clear H
                 have p683 : 0 ≤ (x35_2 : Int) := pD
                 have q683 : x35_2 < ((rd_L3 l0_2 x28_1).length : Int) := pD
                 obtain ⟨ad683, e683, hx683_0⟩ := Kd.at_int HR682_0.out x35_2 p683 q683
                 cases e683
                 replace hx683_0 := hW HB hx683_0; replace p683 := eq_true p683; replace q683 := eq_true q683; have hnb46 := NB675_676.out; have hnc46 := NB676_675.out; obtain ⟨hcz47_0, hcz47_1, hcz47_2, hfz47_0, hfz47_1, hfz47_2⟩ := c3 BK675
                 go_wp2_with (first | ((with_reducible refine gate_callee (f := 33) rfl ?_); refine gL (some 43) Try.func33 #[.agg #[.slice A0_0 l0_0.length c0_0, .slice A0_1 l0_1.length c0_1, .slice (some ad682) l0_2.length c0_2], .int .i64 (rd (rd_L3 l0_2 x28_1) x35_2)] ?_; (with_reducible refine (ring_Ring.calls k2 _ _ l0_0 _ _ l0_1 _ _ l0_2 (rd (rd_L3 l0_2 x28_1) x35_2) t684 t687 _ ?side1 ?side2 ?side3 ?side4 ?side5 ?side6 A28.out).mono ?_); (case side1 => exact sC HR0_0 HB); (case side2 => exact HC0_0.out); (case side3 => exact sC HR0_1 HB); (case side4 => exact HC0_1.out); (case side5 => exact sC HR0_2 HB); (case side6 => exact HC0_2.out); rintro e w48 ⟨v685, rfl, ho0, hb⟩; refine ⟨_, rfl, ?_⟩; replace HO_7 := kR HO_7 hb; have HO686 := AM (Kd.R_lower (Kd.R_newB ho0 (g := gb676) (o := .cells #[.int .i64 a1_0, .int .i64 a1_1, .int .i64 a1_2] 27 (0, 0)) (bK BK676)) (below_size (bH HB))); replace BK675 := kB BK675 hb; replace BK676 := kB BK676 hb; replace HB := kH HB hb; (try clear hb); (try clear hb2); (try clear hk); (try clear hi); (try clear ho0); obtain ⟨hcz49_0, hcz49_1, hcz49_2, hfz49_0, hfz49_1, hfz49_2⟩ := c3 BK676; obtain ⟨Ao50, co50, eo50⟩ := Kd.R_slice HO686.out; subst eo50) | ((with_reducible refine gate_callee (f := 34) rfl ?_); refine gL (some 48) Try.func34 #[.agg #[.int .i64 a1_0, .int .i64 a1_1, .int .i64 a1_2], .slice Ao50 t684.length co50] ?_; (with_reducible refine (geom_In.calls k2 a1_0 a1_1 a1_2 _ _ t684 t688 _ ?side1 ?side2 A29.out).mono ?_); (case side1 => exact sR HO686); (case side2 => exact (Kd.R_reads' HO686.out).2.1); rintro e w51 ⟨rfl, hb⟩; refine ⟨_, rfl, ?_⟩; replace HO_7 := kR HO_7 hb; replace HO686 := kR HO686 hb; replace BK675 := kB BK675 hb; replace BK676 := kB BK676 hb; replace HB := kH HB hb; (try clear hb); (try clear hb2); (try clear hk); (try clear hi)))
                 go_roundg k2
                 case measure => have := HK1.out; have := HK2.out; omega
                 case rel => exact ⟨(false), (wrap64 (x35_2 + 1)), rS, rS, H', ⟨by have := HK1.out; have := HK2.out; omega⟩, ⟨rK HO_7⟩, ⟨bK BK675⟩, ⟨bK BK676⟩, ⟨ bH HB⟩⟩
              ·rw [if_neg c31] at H
               have c31b0 : (x35_2 == 0) = false := beq_eq_false_iff_ne.mpr c31
               have c31b1 : (x35_2 != 0) = true := bne_iff_ne.mpr c31
               by_cases c52 : x35_2 > 0
               ·rw [if_pos c52] at H
                have c52b0 := decide_eq_true c52; clear c52
                have H' := AM H
                clear H
                have p683 : 0 ≤ (x35_2 : Int) := pD
                have q683 : x35_2 < ((rd_L3 l0_2 x28_1).length : Int) := pD
                obtain ⟨ad683, e683, hx683_0⟩ := Kd.at_int HR682_0.out x35_2 p683 q683
                cases e683
                replace hx683_0 := hW HB hx683_0; replace p683 := eq_true p683; replace q683 := eq_true q683; have hnb53 := NB675_676.out; have hnc53 := NB676_675.out; obtain ⟨hcz54_0, hcz54_1, hcz54_2, hfz54_0, hfz54_1, hfz54_2⟩ := c3 BK675
                go_wp2_with (first | ((with_reducible refine gate_callee (f := 33) rfl ?_); refine gL (some 43) Try.func33 #[.agg #[.slice A0_0 l0_0.length c0_0, .slice A0_1 l0_1.length c0_1, .slice (some ad682) l0_2.length c0_2], .int .i64 (rd (rd_L3 l0_2 x28_1) x35_2)] ?_; (with_reducible refine (ring_Ring.calls k2 _ _ l0_0 _ _ l0_1 _ _ l0_2 (rd (rd_L3 l0_2 x28_1) x35_2) t684 t687 _ ?side1 ?side2 ?side3 ?side4 ?side5 ?side6 A28.out).mono ?_); (case side1 => exact sC HR0_0 HB); (case side2 => exact HC0_0.out); (case side3 => exact sC HR0_1 HB); (case side4 => exact HC0_1.out); (case side5 => exact sC HR0_2 HB); (case side6 => exact HC0_2.out); rintro e w55 ⟨v685, rfl, ho0, hb⟩; refine ⟨_, rfl, ?_⟩; replace HO_7 := kR HO_7 hb; have HO686 := AM (Kd.R_lower (Kd.R_newB ho0 (g := gb676) (o := .cells #[.int .i64 a1_0, .int .i64 a1_1, .int .i64 a1_2] 27 (0, 0)) (bK BK676)) (below_size (bH HB))); replace BK675 := kB BK675 hb; replace BK676 := kB BK676 hb; replace HB := kH HB hb; (try clear hb); (try clear hb2); (try clear hk); (try clear hi); (try clear ho0); obtain ⟨hcz56_0, hcz56_1, hcz56_2, hfz56_0, hfz56_1, hfz56_2⟩ := c3 BK676; obtain ⟨Ao57, co57, eo57⟩ := Kd.R_slice HO686.out; subst eo57) | ((with_reducible refine gate_callee (f := 34) rfl ?_); refine gL (some 48) Try.func34 #[.agg #[.int .i64 a1_0, .int .i64 a1_1, .int .i64 a1_2], .slice Ao57 t684.length co57] ?_; (with_reducible refine (geom_In.calls k2 a1_0 a1_1 a1_2 _ _ t684 t688 _ ?side1 ?side2 A29.out).mono ?_); (case side1 => exact sR HO686); (case side2 => exact (Kd.R_reads' HO686.out).2.1); rintro e w58 ⟨rfl, hb⟩; refine ⟨_, rfl, ?_⟩; replace HO_7 := kR HO_7 hb; replace HO686 := kR HO686 hb; replace BK675 := kB BK675 hb; replace BK676 := kB BK676 hb; replace HB := kH HB hb; (try clear hb); (try clear hb2); (try clear hk); (try clear hi)))
                go_roundg k2
                case measure => have := HK1.out; have := HK2.out; omega
                case rel => exact ⟨(decide (t688 < 1)), (wrap64 (x35_2 + 1)), rS, rS, H', ⟨by have := HK1.out; have := HK2.out; omega⟩, ⟨rK HO_7⟩, ⟨bK BK675⟩, ⟨bK BK676⟩, ⟨ bH HB⟩⟩
               ·rw [if_neg c52] at H
                have c52b0 := decide_eq_false c52; clear c52
                have H' := AM H
                clear H
                have p683 : 0 ≤ (x35_2 : Int) := pD
                have q683 : x35_2 < ((rd_L3 l0_2 x28_1).length : Int) := pD
                obtain ⟨ad683, e683, hx683_0⟩ := Kd.at_int HR682_0.out x35_2 p683 q683
                cases e683
                replace hx683_0 := hW HB hx683_0; replace p683 := eq_true p683; replace q683 := eq_true q683; have hnb59 := NB675_676.out; have hnc59 := NB676_675.out; obtain ⟨hcz60_0, hcz60_1, hcz60_2, hfz60_0, hfz60_1, hfz60_2⟩ := c3 BK675
                go_wp2_with (first | ((with_reducible refine gate_callee (f := 33) rfl ?_); refine gL (some 43) Try.func33 #[.agg #[.slice A0_0 l0_0.length c0_0, .slice A0_1 l0_1.length c0_1, .slice (some ad682) l0_2.length c0_2], .int .i64 (rd (rd_L3 l0_2 x28_1) x35_2)] ?_; (with_reducible refine (ring_Ring.calls k2 _ _ l0_0 _ _ l0_1 _ _ l0_2 (rd (rd_L3 l0_2 x28_1) x35_2) t684 t687 _ ?side1 ?side2 ?side3 ?side4 ?side5 ?side6 A28.out).mono ?_); (case side1 => exact sC HR0_0 HB); (case side2 => exact HC0_0.out); (case side3 => exact sC HR0_1 HB); (case side4 => exact HC0_1.out); (case side5 => exact sC HR0_2 HB); (case side6 => exact HC0_2.out); rintro e w61 ⟨v685, rfl, ho0, hb⟩; refine ⟨_, rfl, ?_⟩; replace HO_7 := kR HO_7 hb; have HO686 := AM (Kd.R_lower (Kd.R_newB ho0 (g := gb676) (o := .cells #[.int .i64 a1_0, .int .i64 a1_1, .int .i64 a1_2] 27 (0, 0)) (bK BK676)) (below_size (bH HB))); replace BK675 := kB BK675 hb; replace BK676 := kB BK676 hb; replace HB := kH HB hb; (try clear hb); (try clear hb2); (try clear hk); (try clear hi); (try clear ho0); obtain ⟨hcz62_0, hcz62_1, hcz62_2, hfz62_0, hfz62_1, hfz62_2⟩ := c3 BK676; obtain ⟨Ao63, co63, eo63⟩ := Kd.R_slice HO686.out; subst eo63) | ((with_reducible refine gate_callee (f := 34) rfl ?_); refine gL (some 48) Try.func34 #[.agg #[.int .i64 a1_0, .int .i64 a1_1, .int .i64 a1_2], .slice Ao63 t684.length co63] ?_; (with_reducible refine (geom_In.calls k2 a1_0 a1_1 a1_2 _ _ t684 t688 _ ?side1 ?side2 A29.out).mono ?_); (case side1 => exact sR HO686); (case side2 => exact (Kd.R_reads' HO686.out).2.1); rintro e w64 ⟨rfl, hb⟩; refine ⟨_, rfl, ?_⟩; replace HO_7 := kR HO_7 hb; replace HO686 := kR HO686 hb; replace BK675 := kB BK675 hb; replace BK676 := kB BK676 hb; replace HB := kH HB hb; (try clear hb); (try clear hb2); (try clear hk); (try clear hi)))
                go_roundg k2
                case measure => have := HK1.out; have := HK2.out; omega
                case rel => exact ⟨(false), (wrap64 (x35_2 + 1)), rS, rS, H', ⟨by have := HK1.out; have := HK2.out; omega⟩, ⟨rK HO_7⟩, ⟨bK BK675⟩, ⟨bK BK676⟩, ⟨ bH HB⟩⟩
             ·replace c30 := Bool.eq_false_iff.mpr c30
              subst c30
              have H1 : (plan_Where.l1 k2 x7_1 x28_1 false l0_2 (l0_2.length : Int) x28_1 (rd_L3 l0_2 x28_1) ((rd_L3 l0_2 x28_1).length : Int) (wrap64 (x35_2 + 1)) l0_0 l0_1 l0_2 a1_0 a1_1 a1_2) = some (r1, r2) := by rw [if_neg (show ¬ (false = true) by decide)] at H; exact H
              clear H; have H := H1; clear H1
              have H' := AM H
              clear H
              have p683 : 0 ≤ (x35_2 : Int) := pD
              have q683 : x35_2 < ((rd_L3 l0_2 x28_1).length : Int) := pD
              obtain ⟨ad683, e683, hx683_0⟩ := Kd.at_int HR682_0.out x35_2 p683 q683
              cases e683
              replace hx683_0 := hW HB hx683_0; replace p683 := eq_true p683; replace q683 := eq_true q683; have hnb65 := NB675_676.out; have hnc65 := NB676_675.out; obtain ⟨hcz66_0, hcz66_1, hcz66_2, hfz66_0, hfz66_1, hfz66_2⟩ := c3 BK675
              go_wp2_with (first | ((with_reducible refine gate_callee (f := 33) rfl ?_); refine gL (some 43) Try.func33 #[.agg #[.slice A0_0 l0_0.length c0_0, .slice A0_1 l0_1.length c0_1, .slice (some ad682) l0_2.length c0_2], .int .i64 (rd (rd_L3 l0_2 x28_1) x35_2)] ?_; (with_reducible refine (ring_Ring.calls k2 _ _ l0_0 _ _ l0_1 _ _ l0_2 (rd (rd_L3 l0_2 x28_1) x35_2) t684 t687 _ ?side1 ?side2 ?side3 ?side4 ?side5 ?side6 A28.out).mono ?_); (case side1 => exact sC HR0_0 HB); (case side2 => exact HC0_0.out); (case side3 => exact sC HR0_1 HB); (case side4 => exact HC0_1.out); (case side5 => exact sC HR0_2 HB); (case side6 => exact HC0_2.out); rintro e w67 ⟨v685, rfl, ho0, hb⟩; refine ⟨_, rfl, ?_⟩; replace HO_7 := kR HO_7 hb; have HO686 := AM (Kd.R_lower (Kd.R_newB ho0 (g := gb676) (o := .cells #[.int .i64 a1_0, .int .i64 a1_1, .int .i64 a1_2] 27 (0, 0)) (bK BK676)) (below_size (bH HB))); replace BK675 := kB BK675 hb; replace BK676 := kB BK676 hb; replace HB := kH HB hb; (try clear hb); (try clear hb2); (try clear hk); (try clear hi); (try clear ho0); obtain ⟨hcz68_0, hcz68_1, hcz68_2, hfz68_0, hfz68_1, hfz68_2⟩ := c3 BK676; obtain ⟨Ao69, co69, eo69⟩ := Kd.R_slice HO686.out; subst eo69) | ((with_reducible refine gate_callee (f := 34) rfl ?_); refine gL (some 48) Try.func34 #[.agg #[.int .i64 a1_0, .int .i64 a1_1, .int .i64 a1_2], .slice Ao69 t684.length co69] ?_; (with_reducible refine (geom_In.calls k2 a1_0 a1_1 a1_2 _ _ t684 t688 _ ?side1 ?side2 A29.out).mono ?_); (case side1 => exact sR HO686); (case side2 => exact (Kd.R_reads' HO686.out).2.1); rintro e w70 ⟨rfl, hb⟩; refine ⟨_, rfl, ?_⟩; replace HO_7 := kR HO_7 hb; replace HO686 := kR HO686 hb; replace BK675 := kB BK675 hb; replace BK676 := kB BK676 hb; replace HB := kH HB hb; (try clear hb); (try clear hb2); (try clear hk); (try clear hi)))
              go_roundg k2
              case measure => have := HK1.out; have := HK2.out; omega
              case rel => exact ⟨(false), (wrap64 (x35_2 + 1)), rS, rS, H', ⟨by have := HK1.out; have := HK2.out; omega⟩, ⟨rK HO_7⟩, ⟨bK BK675⟩, ⟨bK BK676⟩, ⟨ bH HB⟩⟩
            ·rw [if_neg c27] at H
             exact absurd H (by simp)
           ·rw [if_neg c26] at H
            exact absurd H (by simp)
          ·rw [if_neg c25] at H
           have c25b0 := decide_eq_false c25; clear c25
           by_cases c71 : x10_2 = true
           ·subst c71
            have H1 : (if x7_1.length < 17592186044416 then (plan_Where.l0 k2 (x7_1 ++ [x28_1]) l0_2 (l0_2.length : Int) (wrap64 (x28_1 + 1)) l0_0 l0_1 l0_2 a1_0 a1_1 a1_2) else (none)) = some (r1, r2) := by rw [if_pos rfl] at H; exact H
            clear H; have H := H1; clear H1
            by_cases c72 : x7_1.length < 17592186044416
            ·rw [if_pos c72] at H
             have LMc72 := AM c72
             clear c72
             obtain ⟨y689, hy689⟩ : ∃ y_ : List Int, y_ = (x7_1 ++ [x28_1]) := ⟨_, rfl⟩
             replace H : (plan_Where.l0 k2 y689 l0_2 (l0_2.length : Int) (wrap64 (x28_1 + 1)) l0_0 l0_1 l0_2 a1_0 a1_1 a1_2) = some (r1, r2) := by first | (rw [hy689]; with_reducible exact H) | (have H2_ := (Option.bind_some _ _).symm.trans H; rw [hy689]; with_reducible exact H2_) | (have H2_ := (Option.bind_some _ _).symm.trans H; with_reducible exact H2_) | with_reducible exact H | (rw [hy689]; exact H) | exact H
             have Ny689 := AM hy689
             clear hy689
             have H' := AM H
             clear H
             go_wp2_with (first | ((with_reducible refine gate_builtin (b := .append) (xs := #[.tmp 68, .tmp 70]) rfl ?_); at_builtin; refine Kd.R_append (Kd.int .i64) (w0 := w) w.heap.size rfl (.tmp 68) (.tmp 70) 32 3 (.int .i64 0) 8 rfl Try.underlying32 info3 rfl (by decide) (by omega) u7 x7_1 x28_1 [.int .i64 x28_1] (fun _ => True) (fun _ => False) rfl rfl ?aP (fun _ hk => hk.elim) ?aF ?aO ?aB ?aS ?aL ?_; (case aP => exact rfl); (case aB => exact (bH HB)); (case aF => exact (fun _ _ => trivial)); (case aO => exact (rK HO_7)); (case aS => exact (below_size (bH HB))); (case aL => have := LMc72.out; omega); intro v690 w73 ho hb hg hat; rw [← Ny689.out] at ho; replace BK675 := AM (blk_grown (g := gb675) (o := .cells #[.slice A0_0 l0_0.length c0_0, .slice A0_1 l0_1.length c0_1, .slice (some ad682) l0_2.length c0_2] 25 (0, 0)) (bK BK675) hg (Kd.R_ne HO_7.out BK675.out (by decide))); replace BK676 := AM (blk_grown (g := gb676) (o := .cells #[.int .i64 a1_0, .int .i64 a1_1, .int .i64 a1_2] 27 (0, 0)) (bK BK676) hg (Kd.R_ne HO_7.out BK676.out (by decide))); replace HB := AM hb; have HO691 := AM ho; clear HO_7; clear ho hb hg hat))
             go_roundg k2
             case measure => have := HK1.out; have := HK2.out; omega
             case rel => exact ⟨(y689), (wrap64 (x28_1 + 1)), rS, H', ⟨by have := HK1.out; have := HK2.out; omega⟩, ⟨rK HO691⟩, ⟨bK BK675⟩, ⟨bK BK676⟩, ⟨ bH HB⟩⟩
            ·rw [if_neg c72] at H
             exact absurd H (by simp)
           ·replace c71 := Bool.eq_false_iff.mpr c71
            subst c71
            have H1 : (plan_Where.l0 k2 x7_1 l0_2 (l0_2.length : Int) (wrap64 (x28_1 + 1)) l0_0 l0_1 l0_2 a1_0 a1_1 a1_2) = some (r1, r2) := by rw [if_neg (show ¬ (false = true) by decide)] at H; exact H
            clear H; have H := H1; clear H1
            have H' := AM H
            clear H
            go_wp2
            go_roundg k2
            case measure => have := HK1.out; have := HK2.out; omega
            case rel => exact ⟨(x7_1), (wrap64 (x28_1 + 1)), rS, H', ⟨by have := HK1.out; have := HK2.out; omega⟩, ⟨rK HO_7⟩, ⟨bK BK675⟩, ⟨bK BK676⟩, ⟨ bH HB⟩⟩
       ·rw [if_neg c24] at H
        exact absurd H (by simp)
      ·rw [if_neg c23] at H
       exact absurd H (by simp)
     ·rw [if_neg c22] at H
      have c22b0 := decide_eq_false c22; clear c22
      (first | rw [c22b0] | (simp only [i64_w, i32_w]; rw [c22b0]) | skip)
      simp only [Option.some.injEq, Prod.mk.injEq] at H
      obtain ⟨rfl, rfl⟩ := H
      go_wp2
      go_ret2
      exact ⟨_, rE, rK HO_7, bH HB⟩
  ·replace c19 := Bool.eq_false_iff.mpr c19
   subst c19
   have H1 : (some (([] : List Int), 2)) = some (r1, r2) := by rw [if_neg (show ¬ (false = true) by decide)] at H; exact H
   clear H; have H := H1; clear H1
   simp only [Option.some.injEq, Prod.mk.injEq] at H
   obtain ⟨rfl, rfl⟩ := H
   go_wp2
   go_ret2
   exact ⟨_, rE, by first | exact Kd.R_nil _ _ _ _ _ | exact Kd.N_nil _ _ _ _ _ | exact Kd.V_nil _ _ _ _ _ | exact Kd.Q_nil _ _ _ _ _ | exact Kd.S_nil _ _ _ _ _, bH HB⟩
 ·rw [if_neg c10] at H
  have c10b0 : (t677 == 0) = false := beq_eq_false_iff_ne.mpr c10
  have c10b1 : (t677 != 0) = true := bne_iff_ne.mpr c10
  (first | rw [c10b0] | (simp only [i64_w, i32_w]; rw [c10b0]) | skip)
  simp only [Option.some.injEq, Prod.mk.injEq] at H
  obtain ⟨rfl, rfl⟩ := H
  go_wp2
  go_ret2
  exact ⟨_, rE, by first | exact Kd.R_nil _ _ _ _ _ | exact Kd.N_nil _ _ _ _ _ | exact Kd.V_nil _ _ _ _ _ | exact Kd.Q_nil _ _ _ _ _ | exact Kd.S_nil _ _ _ _ _, bH HB⟩

def rf00_SameInts.l0 : Nat → List Int → List Int → Int → Option (Bool)
 | 0, _, _, _ => none
 | k + 1, x0, x1, x5 => if x5 < (x0.length : Int) then (if 0 ≤ x5 then (if x5 < (x1.length : Int) then (if (rd x0 x5) = (rd x1 x5) then (rf00_SameInts.l0 k x0 x1 (wrap64 (x5 + 1))) else (some false)) else (none)) else (none)) else (some true)
def rf00_SameInts.f (k : Nat) (l0 : List Int) (l1 : List Int) : Option (Bool) := if (l0.length : Int) = (l1.length : Int) then (rf00_SameInts.l0 k l0 l1 0) else (some false)
theorem rf00_SameInts.mono_l : ∀ k, (∀ y0 y1 y2, LeO (rf00_SameInts.l0 k y0 y1 y2) (rf00_SameInts.l0 (k + 1) y0 y1 y2))
 | 0 => fun _ _ _ r h => by simp [rf00_SameInts.l0] at h
 | k + 1 => by
  have ih0 := rf00_SameInts.mono_l k
  ·intro y0 y1 y2
   unfold rf00_SameInts.l0
   repeat' first
   | (with_reducible exact ih0 _ _ _)
   | (with_reducible exact LeO.refl _)
   | (with_reducible exact LeO.none _)
   | (with_reducible refine LeO.ite ?_ ?_)
   | (with_reducible refine LeO.bind ?_ (fun _ => ?_))
   | exact ih0 _ _ _
   | exact LeO.none _
   | refine LeO.ite ?_ ?_
   | refine LeO.bind ?_ (fun _ => ?_)
theorem rf00_SameInts.mono : ∀ a0 a1 k, LeO (rf00_SameInts.f k a0 a1) (rf00_SameInts.f (k + 1) a0 a1) := by
 intro a0 a1 k
 have ih0 := rf00_SameInts.mono_l k
 unfold rf00_SameInts.f
 repeat' first
   | (with_reducible exact ih0 _ _ _)
   | (with_reducible exact LeO.refl _)
   | (with_reducible exact LeO.none _)
   | (with_reducible refine LeO.ite ?_ ?_)
   | (with_reducible refine LeO.bind ?_ (fun _ => ?_))
   | exact ih0 _ _ _
   | exact LeO.none _
   | refine LeO.ite ?_ ?_
   | refine LeO.bind ?_ (fun _ => ?_)
set_option maxHeartbeats 8000000 in
set_option maxRecDepth 100000 in
theorem rf00_SameInts.calls (k : Nat) (A0 : Option Addr) (c0 : Nat) (l0 : List Int) (A1 : Option Addr) (c1 : Nat) (l1 : List Int) (r : Bool) (w : World) (hr0 : Kd.C (Kd.int .i64) w A0 l0.length l0) (hc0 : l0.length ≤ c0) (hr1 : Kd.C (Kd.int .i64) w A1 l1.length l1) (hc1 : l1.length ≤ c1) (h : rf00_SameInts.f k l0 l1 = some r) :
  Calls Try.prog 11 #[.slice A0 l0.length c0, .slice A1 l1.length c1] w fun e w' => e = .returned (.bool r) ∧ Drawn0 w w' := by
 have HR0 := AM hr0
 have HC0 := AM hc0
 clear hr0 hc0
 have HR1 := AM hr1
 have HC1 := AM hc1
 clear hr1 hc1
 have H : (if (l0.length : Int) = (l1.length : Int) then (rf00_SameInts.l0 k l0 l1 0) else (some false)) = some r := h
 clear h
 by_cases c3 : (l0.length : Int) = (l1.length : Int)
 ·rw [if_pos c3] at H
  have c3b0 : ((l0.length : Int) == (l1.length : Int)) = true := beq_iff_eq.mpr c3
  have c3b1 : ((l0.length : Int) != (l1.length : Int)) = false := bne_eq_false_iff_eq.mpr c3
  have c3b2 : (l0.length == l1.length) = true := by first | simpa using c3 | (simp at c3 ⊢; omega)
  clear c3
  have H' := AM H
  clear H
  go_enter Try.func11, Try.ntmps11
  go_wp2
  repeat (go_quiet (fail); try go_wp2)
  go_loopg [5] k (fun kq v5 w' => ∃ (x5_1 : Int), v5 = .int .i64 x5_1 ∧ Aside0 (rf00_SameInts.l0 kq l0 l1 x5_1 = some r) ∧ Aside0 (kq ≤ k) ∧ Drawn0 w w')
  case atStart => exact ⟨(0), rS, H', ⟨Nat.le_refl _⟩, by repeat (first | exact Drawn0.refl _ | apply Drawn0.step)⟩
  case round =>
   clear H'
   (try clear c1); (try clear p2); (try clear c3); (try clear c3b0); (try clear c3b1); (try clear c3b2)
   obtain ⟨x5_1, rfl, HA, HK1, ⟨m1, rfl⟩⟩ := hrel
   cases gk with
   | zero => exact absurd HA.out (by simp [rf00_SameInts.l0])
   | succ k1 =>
    have H := HA.out; clear HA
    simp only [rf00_SameInts.l0] at H
    by_cases c4 : x5_1 < (l0.length : Int)
    ·rw [if_pos c4] at H
     have c4b0 := decide_eq_true c4; clear c4
     by_cases c5 : 0 ≤ x5_1
     ·rw [if_pos c5] at H
      have c5b0 := decide_eq_true c5; clear c5
      by_cases c6 : x5_1 < (l1.length : Int)
      ·rw [if_pos c6] at H
       have c6b0 := decide_eq_true c6; clear c6
       by_cases c7 : (rd l0 x5_1) = (rd l1 x5_1)
       ·rw [if_pos c7] at H
        have c7b0 : ((rd l0 x5_1) == (rd l1 x5_1)) = true := beq_iff_eq.mpr c7
        have c7b1 : ((rd l0 x5_1) != (rd l1 x5_1)) = false := bne_eq_false_iff_eq.mpr c7
        clear c7
        have H' := AM H
        clear H
        have p692 : 0 ≤ (x5_1 : Int) := pD
        have q692 : x5_1 < (l0.length : Int) := pD
        obtain ⟨ad692, e692, hx692_0⟩ := Kd.at_int HR0.out x5_1 p692 q692
        cases e692
        replace p692 := eq_true p692; replace q692 := eq_true q692
        have p693 : 0 ≤ (x5_1 : Int) := pD
        have q693 : x5_1 < (l1.length : Int) := pD
        obtain ⟨ad693, e693, hx693_0⟩ := Kd.at_int HR1.out x5_1 p693 q693
        cases e693
        replace p693 := eq_true p693; replace q693 := eq_true q693
        go_wp2
        repeat (go_quiet (fail); try go_wp2)
        go_roundg k1
        case measure => have := HK1.out; omega
        case rel => exact ⟨(wrap64 (x5_1 + 1)), rS, H', ⟨by have := HK1.out; omega⟩, by repeat (first | exact Drawn0.refl _ | apply Drawn0.step)⟩
       ·rw [if_neg c7] at H
        have c7b0 : ((rd l0 x5_1) == (rd l1 x5_1)) = false := beq_eq_false_iff_ne.mpr c7
        have c7b1 : ((rd l0 x5_1) != (rd l1 x5_1)) = true := bne_iff_ne.mpr c7
        obtain rfl := Option.some.inj H
        have p692 : 0 ≤ (x5_1 : Int) := pD
        have q692 : x5_1 < (l0.length : Int) := pD
        obtain ⟨ad692, e692, hx692_0⟩ := Kd.at_int HR0.out x5_1 p692 q692
        cases e692
        replace p692 := eq_true p692; replace q692 := eq_true q692
        have p693 : 0 ≤ (x5_1 : Int) := pD
        have q693 : x5_1 < (l1.length : Int) := pD
        obtain ⟨ad693, e693, hx693_0⟩ := Kd.at_int HR1.out x5_1 p693 q693
        cases e693
        replace p693 := eq_true p693; replace q693 := eq_true q693
        go_wp2
        repeat (go_quiet (fail); try go_wp2)
        go_ret
        exact ⟨by first | rfl | (simp; done) | (simp [*]; done), by repeat (first | exact Drawn0.refl _ | apply Drawn0.step)⟩
      ·rw [if_neg c6] at H
       exact absurd H (by simp)
     ·rw [if_neg c5] at H
      exact absurd H (by simp)
    ·rw [if_neg c4] at H
     have c4b0 := decide_eq_false c4; clear c4
     obtain rfl := Option.some.inj H
     go_wp2
     repeat (go_quiet (fail); try go_wp2)
     go_ret
     exact ⟨by first | rfl | (simp; done) | (simp [*]; done), by repeat (first | exact Drawn0.refl _ | apply Drawn0.step)⟩
 ·rw [if_neg c3] at H
  have c3b0 : ((l0.length : Int) == (l1.length : Int)) = false := beq_eq_false_iff_ne.mpr c3
  have c3b1 : ((l0.length : Int) != (l1.length : Int)) = true := bne_iff_ne.mpr c3
  have c3b2 : (l0.length == l1.length) = false := by first | simpa using c3 | (simp at c3 ⊢; omega)
  obtain rfl := Option.some.inj H
  go_enter Try.func11, Try.ntmps11
  go_wp2
  repeat (go_quiet (fail); try go_wp2)
  go_ret
  exact ⟨by first | rfl | (simp; done) | (simp [*]; done), by repeat (first | exact Drawn0.refl _ | apply Drawn0.step)⟩
end Go.Proofs.Ytbonkedecfjmdaa.P

namespace Go.Proofs.Ytbonkedecfjmdaa.Pl
set_option linter.unusedVariables false
set_option linter.unusedSimpArgs false
open Go Go.RowKit Go.Proofs.YtbonkedecfjmdaaW.PrintWords Go.Proofs.YtbonkedecfjmdaaW.PrintLast Go.Proofs.YtbonkedecfjmdaaW.PrintMore
variable {α : Type}
def Hds (d : Kd α) (w : World) (xs : List α) (H : List (List Value)) : Prop := H.length = xs.length ∧ ∀ (j : Nat) (x : α), xs[j]? = some x → ∃ c, H[j]? = some c ∧ d.K w x c
theorem Hds.of_C {d : Kd α} {w : World} {A : Option Addr} {xs : List α} (h : d.C w A xs.length xs) : ∃ H, Hds d w xs H ∧ (Kd.raw d.sz).C w A xs.length H := by
 cases xs with
 | nil => exact ⟨[], ⟨rfl, fun j x hj => by simp at hj⟩, rfl, by simp, fun h0 => absurd h0 (Nat.lt_irrefl 0)⟩
 | cons y ys =>
  obtain ⟨h1, h2, h3⟩ := h
  obtain ⟨ad, rfl, hc⟩ := h3 (by simp)
  generalize y :: ys = xs at *
  have key : ∀ n, n ≤ xs.length → ∃ H : List (List Value), H.length = n ∧ ∀ (j : Nat) (x : α), j < n → xs[j]? = some x → ∃ c, H[j]? = some c ∧ d.K w x c ∧ ∀ i u, c[i]? = some u → w.cell? (ad.add (j * d.sz + i)) = some u := by
   intro n
   induction n with
   | zero => exact fun _ => ⟨[], rfl, fun j x hj => absurd hj (Nat.not_lt_zero _)⟩
   | succ n ih =>
    intro hn
    obtain ⟨H, hl, hH⟩ := ih (by omega)
    obtain ⟨c, q1, q2, q3⟩ := hc n _ (List.getElem?_eq_getElem (show n < xs.length by omega))
    refine ⟨H ++ [c], by simp [hl], fun j x hj hx => ?_⟩
    rcases Nat.lt_or_ge j n with hlt | hge
    ·obtain ⟨c', e1, e2⟩ := hH j x hlt hx
     exact ⟨c', by rw [List.getElem?_append_left (by omega)]; exact e1, e2⟩
    ·obtain rfl : j = n := by omega
     rw [List.getElem?_eq_getElem (by omega)] at hx
     injection hx with hx
     subst hx
     exact ⟨c, by rw [List.getElem?_append_right (by omega), hl, Nat.sub_self]; rfl, q2, q3⟩
  obtain ⟨H, hl, hH⟩ := key xs.length (Nat.le_refl _)
  have hj : ∀ (j : Nat) (x : α), xs[j]? = some x → j < xs.length := fun j x hx => by
   rw [List.getElem?_eq_some_iff] at hx
   exact hx.1
  refine ⟨H, ⟨hl, fun j x hx => ?_⟩, hl, h2, fun _ => ⟨ad, rfl, fun j c hc' => ?_⟩⟩
  ·obtain ⟨c, e1, e2, _⟩ := hH j x (hj j x hx) hx
   exact ⟨c, e1, e2⟩
  ·have hlt : j < xs.length := by
    rw [List.getElem?_eq_some_iff] at hc'
    obtain ⟨q, _⟩ := hc'
    omega
   obtain ⟨c2, e1, e2, e3⟩ := hH j _ hlt (List.getElem?_eq_getElem hlt)
   rw [hc'] at e1
   injection e1 with e1
   subst e1
   exact ⟨c, d.K_len e2, ⟨rfl, d.K_len e2, d.K_one e2⟩, e3⟩
theorem Hds.to_C {d : Kd α} {w : World} {A : Option Addr} {xs : List α} {H : List (List Value)} (hh : Hds d w xs H) (h : (Kd.raw d.sz).C w A H.length H) : d.C w A xs.length xs := by
 obtain ⟨hl, hh⟩ := hh
 obtain ⟨h1, h2, h3⟩ := h
 refine ⟨rfl, by omega, fun h0 => ?_⟩
 obtain ⟨ad, rfl, hc⟩ := h3 (by omega)
 refine ⟨ad, rfl, fun j x hx => ?_⟩
 obtain ⟨c, e1, e2⟩ := hh j x hx
 obtain ⟨c', q1, ⟨rfl, q2, _⟩, q3⟩ := hc j c e1
 exact ⟨_, q1, e2, q3⟩
theorem Hds.below {d : Kd α} {w w1 : World} {xs : List α} {H : List (List Value)} (h : Hds d w xs H) (hb : Below w.heap.size w w1) : Hds d w1 xs H :=
 ⟨h.1, fun j x hx => by
  obtain ⟨c, e1, e2⟩ := h.2 j x hx
  exact ⟨c, e1, d.K_below hb e2⟩⟩
theorem Hds.take {d : Kd α} {w : World} {xs : List α} {H : List (List Value)} (h : Hds d w xs H) (k : Nat) : Hds d w (xs.take k) (H.take k) :=
 ⟨by rw [List.length_take, List.length_take, h.1], fun j x hx => by
  rw [List.getElem?_take] at hx
  split at hx
  ·rename_i hj
   obtain ⟨c, e1, e2⟩ := h.2 j x hx
   exact ⟨c, by rw [List.getElem?_take, if_pos hj]; exact e1, e2⟩
  ·cases hx⟩
theorem Hds.drop {d : Kd α} {w : World} {xs : List α} {H : List (List Value)} (h : Hds d w xs H) (k : Nat) : Hds d w (xs.drop k) (H.drop k) :=
 ⟨by rw [List.length_drop, List.length_drop, h.1], fun j x hx => by
  rw [List.getElem?_drop] at hx
  obtain ⟨c, e1, e2⟩ := h.2 (k + j) x hx
  exact ⟨c, by rw [List.getElem?_drop]; exact e1, e2⟩⟩
theorem Hds.append {d : Kd α} {w : World} {xs ys : List α} {H G : List (List Value)} (h : Hds d w xs H) (h' : Hds d w ys G) : Hds d w (xs ++ ys) (H ++ G) :=
 ⟨by rw [List.length_append, List.length_append, h.1, h'.1], fun j x hx => by
  rcases Nat.lt_or_ge j xs.length with hlt | hge
  ·rw [List.getElem?_append_left hlt] at hx
   obtain ⟨c, e1, e2⟩ := h.2 j x hx
   exact ⟨c, by rw [List.getElem?_append_left (by rw [h.1]; exact hlt)]; exact e1, e2⟩
  ·rw [List.getElem?_append_right hge] at hx
   obtain ⟨c, e1, e2⟩ := h'.2 _ x hx
   exact ⟨c, by rw [List.getElem?_append_right (by rw [h.1]; exact hge), h.1]; exact e1, e2⟩⟩
theorem turn_get {l : List α} (k : Nat) (hk : k < l.length) (i : Nat) (hi : i < l.length) : (l.drop k ++ l.take k)[i]? = l[(i + k) % l.length]? := by
 rcases Nat.lt_or_ge (i + k) l.length with h | h
 ·rw [List.getElem?_append_left (by rw [List.length_drop]; omega), List.getElem?_drop, Nat.mod_eq_of_lt h, Nat.add_comm]
 ·rw [List.getElem?_append_right (by rw [List.length_drop]; omega), List.length_drop, List.getElem?_take, if_pos (by omega)]
  congr 1
  rw [Nat.mod_eq_sub_mod h, Nat.mod_eq_of_lt (by omega)]
  omega
end Go.Proofs.Ytbonkedecfjmdaa.Pl
