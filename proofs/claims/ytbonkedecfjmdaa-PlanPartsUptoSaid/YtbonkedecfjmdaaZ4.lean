/- Written for this claim by a program of this session (a turned copy of the print): Go functions as Lean functions, and that the Go code comes to just these answers; or a statement proved out of them. No condition. -/
import Derived.Test.YtbonkedecfjmdaaZ2
import Derived.Test.YtbonkedecfjmdaaZ3

namespace Go.Proofs.Ytbonkedecfjmdaa.P
open Go.RowKit Go.Proofs.YtbonkedecfjmdaaW.PrintWords Go.Proofs.YtbonkedecfjmdaaW.PrintLast Go.Proofs.YtbonkedecfjmdaaW.PrintMore Go.Proofs.Ytbonkedecfjmdaa.X
attribute [local go_sem] max2_int min2_int max_two min_two max_three min_three max_four min_four add64_0 add64_1 add64
set_option linter.unusedVariables false
set_option linter.unusedSimpArgs false
attribute [local go_sem high] eqA27
mutual
def rf16_Points.l0 : Nat → List Int → Int → List (List (S27)) → List (List Int) → List (List Int) → Option ((List (S27)) × Int)
 | 0, _, _, _, _, _ => none
 | k + 1, x1, x7, x116000, x116001, x116002 => if x7 < (x1.length : Int) then (if 0 ≤ x7 then ((rf16_Arc.f k x116000 x116001 x116002 (rd x1 x7)).bind fun bt117 => (if bt117.2 = 0 then (if (bt117.1.length : Int) = 0 then (some (([] : List (S27)), 2)) else (rf16_Points.l0 k x1 (wrap64 (x7 + 1)) x116000 x116001 x116002)) else (some (([] : List (S27)), 2)))) else (none)) else (if (x1.length : Int) = 0 then (some (([] : List (S27)), 90)) else (rf16_Points.l1 k x1 ([] : List (S27)) 0 x116000 x116001 x116002))
def rf16_Points.l1 : Nat → List Int → List (S27) → Int → List (List (S27)) → List (List Int) → List (List Int) → Option ((List (S27)) × Int)
 | 0, _, _, _, _, _, _ => none
 | k + 1, x1, x6, x10, x116000, x116001, x116002 => if x10 < (x1.length : Int) then (if (wrap64 (x10 + 1)) = (x1.length : Int) then (rf16_Points.j2 k x1 x6 x10 0 x116000 x116001 x116002) else (rf16_Points.j2 k x1 x6 x10 (wrap64 (x10 + 1)) x116000 x116001 x116002)) else (some (x6, 0))
def rf16_Points.j2 : Nat → List Int → List (S27) → Int → Int → List (List (S27)) → List (List Int) → List (List Int) → Option ((List (S27)) × Int)
 | 0, _, _, _, _, _, _, _ => none
 | k + 1, x1, x6, x10, x11, x116000, x116001, x116002 => if 0 ≤ x10 then (if x10 < (x1.length : Int) then ((rf16_Arc.f k x116000 x116001 x116002 (rd x1 x10)).bind fun bt122 => (if 0 ≤ x11 then (if x11 < (x1.length : Int) then ((rf16_Arc.f k x116000 x116001 x116002 (rd x1 x11)).bind fun bt127 => (if 0 ≤ (wrap64 ((bt122.1.length : Int) - 1)) then (if (wrap64 ((bt122.1.length : Int) - 1)) < (bt122.1.length : Int) then (if 0 < (bt127.1.length : Int) then (if (!(((rd_T27 bt122.1 (wrap64 ((bt122.1.length : Int) - 1))).f0) == ((rd_T27 bt127.1 0).f0)) || (!(((rd_T27 bt122.1 (wrap64 ((bt122.1.length : Int) - 1))).f1) == ((rd_T27 bt127.1 0).f1)) || (!(((rd_T27 bt122.1 (wrap64 ((bt122.1.length : Int) - 1))).f2) == ((rd_T27 bt127.1 0).f2))))) = true then (some (([] : List (S27)), 90)) else (if (wrap64 ((bt122.1.length : Int) - 1)) ≤ (bt122.1.length : Int) then ((some (bt122.1.take ((wrap64 ((bt122.1.length : Int) - 1)) : Int).toNat : List (S27))).bind fun y133 => (if x6.length + y133.length < 5864062014805 then (rf16_Points.l1 k x1 (x6 ++ y133) (wrap64 (x10 + 1)) x116000 x116001 x116002) else (none))) else (none))) else (none)) else (none)) else (none))) else (none)) else (none))) else (none)) else (none)
end
def rf16_Points.f (k : Nat) (l0_0 : List (List (S27))) (l0_1 : List (List Int)) (l0_2 : List (List Int)) (l1 : List Int) : Option ((List (S27)) × Int) := rf16_Points.l0 k l1 0 l0_0 l0_1 l0_2
theorem rf16_Points.mono_l : ∀ k, (∀ y0 y1 y2 y3 y4, LeO (rf16_Points.l0 k y0 y1 y2 y3 y4) (rf16_Points.l0 (k + 1) y0 y1 y2 y3 y4)) ∧ (∀ y0 y1 y2 y3 y4 y5, LeO (rf16_Points.l1 k y0 y1 y2 y3 y4 y5) (rf16_Points.l1 (k + 1) y0 y1 y2 y3 y4 y5)) ∧ (∀ y0 y1 y2 y3 y4 y5 y6, LeO (rf16_Points.j2 k y0 y1 y2 y3 y4 y5 y6) (rf16_Points.j2 (k + 1) y0 y1 y2 y3 y4 y5 y6))
 | 0 => ⟨fun _ _ _ _ _ r h => by simp [rf16_Points.l0] at h, fun _ _ _ _ _ _ r h => by simp [rf16_Points.l1] at h, fun _ _ _ _ _ _ _ r h => by simp [rf16_Points.j2] at h⟩
 | k + 1 => by
  obtain ⟨ih0, ih1, ih2⟩ := rf16_Points.mono_l k
  refine ⟨?_, ?_, ?_⟩
  all_goals
   intros
   first | unfold rf16_Points.l0 | unfold rf16_Points.l1 | unfold rf16_Points.j2
   repeat' with_reducible first | exact ih0 _ _ _ _ _ | exact ih1 _ _ _ _ _ _ | exact ih2 _ _ _ _ _ _ _ | exact rf16_Arc.mono _ _ _ _ _ | exact LeO.refl _ | exact LeO.none _ | refine LeO.ite ?_ ?_ | refine LeO.bind ?_ (fun _ => ?_)
theorem rf16_Points.mono : ∀ a0 a1 a2 a3 k, LeO (rf16_Points.f k a0 a1 a2 a3) (rf16_Points.f (k + 1) a0 a1 a2 a3) := by
 intro a0 a1 a2 a3 k
 obtain ⟨ih0, ih1, ih2⟩ := rf16_Points.mono_l k
 unfold rf16_Points.f
 repeat' first
   | (with_reducible exact ih0 _ _ _ _ _)
   | (with_reducible exact ih1 _ _ _ _ _ _)
   | (with_reducible exact ih2 _ _ _ _ _ _ _)
   | (with_reducible exact rf16_Arc.mono _ _ _ _ _)
   | (with_reducible exact LeO.refl _)
   | (with_reducible exact LeO.none _)
   | (with_reducible refine LeO.ite ?_ ?_)
   | (with_reducible refine LeO.bind ?_ (fun _ => ?_))
   | exact ih0 _ _ _ _ _
   | exact ih1 _ _ _ _ _ _
   | exact ih2 _ _ _ _ _ _ _
   | exact rf16_Arc.mono _ _ _ _ _
   | exact LeO.none _
   | refine LeO.ite ?_ ?_
   | refine LeO.bind ?_ (fun _ => ?_)
def rf16_Points.T5 : Bool × List (List Nat × List Nat) := (true, [([], []), ([], []), ([], []), ([1, 2], [1, 2]), ([3], [3]), ([0, 4], [0, 4]), ([5], [5]), ([6], [6]), ([6], [6]), ([7, 5, 0, 1, 2, 3, 4, 5, 6, 7], [7]), ([8, 9, 0, 1, 2, 3, 4, 5, 6, 7, 8, 9], [8])])
def rf16_Points.B5 : List Nat := [0, 0, 0, 6, 14, 31, 63, 127, 127, 255, 1023]
theorem rf16_Points.tab5 : rtab .any (opsOf Try.f35 5) = rf16_Points.T5 := by kernel_rfl
theorem rf16_Points.bits5 : waitsOk rf16_Points.T5.2 rf16_Points.B5 = true := by kernel_rfl
def rf16_Points.T16 : Bool × List (List Nat × List Nat) := (true, [([], []), ([], []), ([], []), ([1, 2], [1, 2]), ([3], [3]), ([0, 4], [0, 4]), ([5], [5]), ([6], [6]), ([6], [6]), ([7, 5, 0, 1, 2, 3, 4, 5, 6, 7], [7]), ([8, 9, 0, 1, 2, 3, 4, 5, 6, 7, 8, 9], [8])])
def rf16_Points.B16 : List Nat := [0, 0, 0, 6, 14, 31, 63, 127, 127, 255, 1023]
theorem rf16_Points.tab16 : rtab .any (opsOf Try.f35 16) = rf16_Points.T16 := by kernel_rfl
theorem rf16_Points.bits16 : waitsOk rf16_Points.T16.2 rf16_Points.B16 = true := by kernel_rfl
def rf16_Points.T17 : Bool × List (List Nat × List Nat) := (true, [([], []), ([], []), ([], []), ([1, 2], [1, 2]), ([3], [3]), ([0, 4], [0, 4]), ([5], [5]), ([6], [6]), ([6], [6]), ([7, 5, 0, 1, 2, 3, 4, 5, 6, 7], [7]), ([8, 9, 0, 1, 2, 3, 4, 5, 6, 7, 8, 9], [8])])
def rf16_Points.B17 : List Nat := [0, 0, 0, 6, 14, 31, 63, 127, 127, 255, 1023]
theorem rf16_Points.tab17 : rtab .any (opsOf Try.f35 17) = rf16_Points.T17 := by kernel_rfl
theorem rf16_Points.bits17 : waitsOk rf16_Points.T17.2 rf16_Points.B17 = true := by kernel_rfl
def rf16_Points.T18 : Bool × List (List Nat × List Nat) := (true, [([], []), ([], []), ([1], [1]), ([2], [2]), ([0, 3], [0, 3]), ([4], [4]), ([], []), ([6], [6]), ([7], [7]), ([5, 8], [5, 8])])
def rf16_Points.B18 : List Nat := [0, 0, 2, 6, 15, 31, 0, 64, 192, 511]
theorem rf16_Points.tab18 : rtab .any (opsOf Try.f35 18) = rf16_Points.T18 := by kernel_rfl
theorem rf16_Points.bits18 : waitsOk rf16_Points.T18.2 rf16_Points.B18 = true := by kernel_rfl
set_option maxHeartbeats 8000000 in
set_option maxRecDepth 100000 in
theorem rf16_Points.calls (k : Nat) (A0_0 : Option Addr) (c0_0 : Nat) (l0_0 : List (List (S27))) (A0_1 : Option Addr) (c0_1 : Nat) (l0_1 : List (List Int)) (A0_2 : Option Addr) (c0_2 : Nat) (l0_2 : List (List Int)) (A1 : Option Addr) (c1 : Nat) (l1 : List Int) (r1 : List (S27)) (r2 : Int) (w : World) (hr0_0 : Kd.C (Kd.slice 27 k27) w A0_0 l0_0.length l0_0) (hc0_0 : l0_0.length ≤ c0_0) (hr0_1 : Kd.C (Kd.slice 3 (Kd.int .i64)) w A0_1 l0_1.length l0_1) (hc0_1 : l0_1.length ≤ c0_1) (hr0_2 : Kd.C (Kd.slice 3 (Kd.int .i64)) w A0_2 l0_2.length l0_2) (hc0_2 : l0_2.length ≤ c0_2) (hr1 : Kd.C (Kd.int .i64) w A1 l1.length l1) (hc1 : l1.length ≤ c1) (h : rf16_Points.f k l0_0 l0_1 l0_2 l1 = some (r1, r2)) :
  Calls Try.prog 35 #[.agg #[.slice A0_0 l0_0.length c0_0, .slice A0_1 l0_1.length c0_1, .slice A0_2 l0_2.length c0_2], .slice A1 l1.length c1] w fun e w' => ∃ v0_ : Value, e = .returned (.tuple #[v0_, .int .i64 r2]) ∧ Kd.R k27 27 w' w.heap.size (fun _ => True) v0_ r1 ∧ Below w.heap.size w w' := by
 have hu25 := Try.underlying25
 have hu27 := Try.underlying27
 have HR0_0 := AM hr0_0
 have HC0_0 := AM hc0_0
 clear hr0_0 hc0_0
 have HR0_1 := AM hr0_1
 have HC0_1 := AM hc0_1
 clear hr0_1 hc0_1
 have HR0_2 := AM hr0_2
 have HC0_2 := AM hc0_2
 clear hr0_2 hc0_2
 have HR1 := AM hr1
 have HC1 := AM hc1
 clear hr1 hc1
 have HB := AM (Below.refl w.heap.size w)
 have H : (rf16_Points.l0 k l1 0 l0_0 l0_1 l0_2) = some (r1, r2) := h
 clear h
 have H' := AM H
 clear H
 go_enter Try.func35, Try.ntmps35
 go_wp2_with (first | ((with_reducible refine gate_dst (N := 2) rfl ?_); (try (refine gate_guard (by rfl) ?_; dsimp only)); refine bE 2 #[.slice A0_0 l0_0.length c0_0, .slice A0_1 l0_1.length c0_1, .slice A0_2 l0_2.length c0_2] 25 ?_; intro gb115 hg w3 hbox hb; have BK115 := AM hbox; have GW115 := kG HB hg; replace HB := kH HB hb; have GE115 := GW115; clear hb hbox hg))
 go_loopg [7] k (fun kq v7 w' => ∃ (x7_1 : Int), v7 = .int .i64 x7_1 ∧ Aside0 (rf16_Points.l0 kq l1 x7_1 l0_0 l0_1 l0_2 = some (r1, r2)) ∧ Aside0 (kq ≤ k) ∧ Aside0 (w'.heap[gb115]? = some (.cells #[(.slice A0_0 l0_0.length c0_0), (.slice A0_1 l0_1.length c0_1), (.slice A0_2 l0_2.length c0_2)] 25 (0, 0))) ∧ Aside0 (Below w.heap.size w w'))
 case atStart => exact ⟨(0), rS, H', ⟨Nat.le_refl _⟩, ⟨bK BK115⟩, ⟨ bH HB⟩⟩
 case round =>
  clear H'
  (try clear c1); (try clear p2); (try clear c3)
  obtain ⟨x7_1, rfl, HA, HK1, BK115, HB⟩ := hrel
  cases gk with
  | zero => exact absurd HA.out (by simp [rf16_Points.l0])
  | succ k1 =>
   have H := HA.out; clear HA
   simp only [rf16_Points.l0] at H
   by_cases c4 : x7_1 < (l1.length : Int)
   ·rw [if_pos c4] at H
    have c4b0 := decide_eq_true c4; clear c4
    by_cases c5 : 0 ≤ x7_1
    ·rw [if_pos c5] at H
     have c5b0 := decide_eq_true c5; clear c5
     obtain ⟨⟨t117, t120⟩, A6, H⟩ := bS H
     try dsimp only at H
     by_cases c7 : t120 = 0
     ·rw [if_pos c7] at H
      have c7b0 : (t120 == 0) = true := beq_iff_eq.mpr c7
      have c7b1 : (t120 != 0) = false := bne_eq_false_iff_eq.mpr c7
      clear c7
      have HC8 := AM H
      clear H
      try go_wp2
      replace BK115 := dB BK115; replace HB := dH HB
      have p116 : 0 ≤ (x7_1 : Int) := pD
      have q116 : x7_1 < (l1.length : Int) := pD
      obtain ⟨ad116, e116, hx116_0⟩ := Kd.at_int HR1.out x7_1 p116 q116
      have hw116_0 := hx116_0
      cases e116
      replace hx116_0 := hW HB hx116_0; replace p116 := eq_true p116; replace q116 := eq_true q116
      refine sP 11 (S := fun w' => w'.cell? ⟨gb115, 0, none⟩ = some (.slice A0_0 l0_0.length c0_0) ∧ w'.cell? ⟨gb115, 1, none⟩ = some (.slice A0_1 l0_1.length c0_1) ∧ w'.cell? ⟨gb115, 2, none⟩ = some (.slice A0_2 l0_2.length c0_2) ∧ w'.cell? (ad116.add (x7_1).toNat) = some (.int .i64 (rd l1 x7_1))) (ds := []) ⟨bC BK115, bC BK115, bC BK115, (hW HB hw116_0)⟩ fun hHeld => ?_; refine with_tabW rf16_Points.tab5 rf16_Points.bits5 (fun HT_ HW_ => ?_)
      generalize wr.drew = w9 at BK115 HB hx116_0 hHeld ⊢
      refine pQ 1 (some 24) HT_ ?_; refine pQ 2 (some 25) HT_ ?_; refine pQ 3 (some 26) HT_ ?_; refine tQ 0 (some 23) HT_ HW_ hHeld ?_; refine tQ 4 (some 27) HT_ HW_ hHeld ?_
      refine oQ 5 (some 28) HT_ rfl fun K hK => ?_
      refine gO Try.func61 #[.agg #[.slice A0_0 l0_0.length c0_0, .slice A0_1 l0_1.length c0_1, .slice A0_2 l0_2.length c0_2], .int .i64 (rd l1 x7_1)] ?_
      with_reducible refine (rf16_Arc.calls k1 _ _ l0_0 _ _ l0_1 _ _ l0_2 (rd l1 x7_1) t117 t120 _ ?side1 ?side2 ?side3 ?side4 ?side5 ?side6 A6.out).mono ?_
      (case side1 => exact sC HR0_0 HB)
      (case side2 => exact HC0_0.out)
      (case side3 => exact sC HR0_1 HB)
      (case side4 => exact HC0_1.out)
      (case side5 => exact sC HR0_2 HB)
      (case side6 => exact HC0_2.out)
      rintro e w10 ⟨v118, rfl, ho0, hb⟩
      refine ⟨_, rfl, ?_⟩
      have HO119 := AM (Kd.R_lower ho0 (below_size (bH HB)))
      replace BK115 := kB BK115 hb; replace HB := kH HB hb; (try clear hb); (try clear hb2); (try clear hk); (try clear hi); (try clear ho0)
      refine hK.out _ _ ⟨bC BK115, bC BK115, bC BK115, (hW HB hw116_0)⟩ (fun hHeld => ?_)
      clear hK K; refine nP (some 28) ?_; refine pQ 6 (some 22) HT_ ?_; refine pQ 7 (some 29) HT_ ?_; refine pQ 8 (some 30) HT_ ?_; refine pQ 9 (some 8) HT_ ?_; refine pQ 10 (some 9) HT_ ?_
      refine done_ (done_of HT_.out (by kernel_rfl)) ?_
      obtain ⟨Ao11, co11, eo11⟩ := Kd.R_slice HO119.out
      subst eo11
      go_upto_if 37 with (fail)
      have H := HC8.out; clear HC8
      by_cases c12 : (t117.length : Int) = 0
      ·rw [if_pos c12] at H
       have c12b0 : ((t117.length : Int) == 0) = true := beq_iff_eq.mpr c12
       have c12b1 : ((t117.length : Int) != 0) = false := bne_eq_false_iff_eq.mpr c12
       clear c12
       (first | rw [c12b0] | (simp only [i64_w, i32_w]; rw [c12b0]) | skip)
       simp only [Option.some.injEq, Prod.mk.injEq] at H
       obtain ⟨rfl, rfl⟩ := H
       go_wp2
       go_ret2
       exact ⟨_, rE, by first | exact Kd.R_nil _ _ _ _ _ | exact Kd.N_nil _ _ _ _ _ | exact Kd.V_nil _ _ _ _ _ | exact Kd.Q_nil _ _ _ _ _ | exact Kd.S_nil _ _ _ _ _, bH HB⟩
      ·rw [if_neg c12] at H
       have c12b0 : ((t117.length : Int) == 0) = false := beq_eq_false_iff_ne.mpr c12
       have c12b1 : ((t117.length : Int) != 0) = true := bne_iff_ne.mpr c12
       have c12b2 : ¬ (t117 = []) := fun h_ => c12 (by rw [h_]; rfl)
       (first | rw [c12b0] | (simp only [i64_w, i32_w]; rw [c12b0]) | skip)
       have H' := AM H
       clear H
       go_wp2
       go_roundg k1
       case measure => have := HK1.out; omega
       case rel => exact ⟨(wrap64 (x7_1 + 1)), rS, H', ⟨by have := HK1.out; omega⟩, ⟨bK BK115⟩, ⟨ bH HB⟩⟩
     ·rw [if_neg c7] at H
      have c7b0 : (t120 == 0) = false := beq_eq_false_iff_ne.mpr c7
      have c7b1 : (t120 != 0) = true := bne_iff_ne.mpr c7
      simp only [Option.some.injEq, Prod.mk.injEq] at H
      obtain ⟨rfl, rfl⟩ := H
      try go_wp2
      replace BK115 := dB BK115; replace HB := dH HB
      have p116 : 0 ≤ (x7_1 : Int) := pD
      have q116 : x7_1 < (l1.length : Int) := pD
      obtain ⟨ad116, e116, hx116_0⟩ := Kd.at_int HR1.out x7_1 p116 q116
      have hw116_0 := hx116_0
      cases e116
      replace hx116_0 := hW HB hx116_0; replace p116 := eq_true p116; replace q116 := eq_true q116
      refine sP 11 (S := fun w' => w'.cell? ⟨gb115, 0, none⟩ = some (.slice A0_0 l0_0.length c0_0) ∧ w'.cell? ⟨gb115, 1, none⟩ = some (.slice A0_1 l0_1.length c0_1) ∧ w'.cell? ⟨gb115, 2, none⟩ = some (.slice A0_2 l0_2.length c0_2) ∧ w'.cell? (ad116.add (x7_1).toNat) = some (.int .i64 (rd l1 x7_1))) (ds := []) ⟨bC BK115, bC BK115, bC BK115, (hW HB hw116_0)⟩ fun hHeld => ?_; refine with_tabW rf16_Points.tab5 rf16_Points.bits5 (fun HT_ HW_ => ?_)
      generalize wr.drew = w13 at BK115 HB hx116_0 hHeld ⊢
      refine pQ 1 (some 24) HT_ ?_; refine pQ 2 (some 25) HT_ ?_; refine pQ 3 (some 26) HT_ ?_; refine tQ 0 (some 23) HT_ HW_ hHeld ?_; refine tQ 4 (some 27) HT_ HW_ hHeld ?_
      refine oQ 5 (some 28) HT_ rfl fun K hK => ?_
      refine gO Try.func61 #[.agg #[.slice A0_0 l0_0.length c0_0, .slice A0_1 l0_1.length c0_1, .slice A0_2 l0_2.length c0_2], .int .i64 (rd l1 x7_1)] ?_
      with_reducible refine (rf16_Arc.calls k1 _ _ l0_0 _ _ l0_1 _ _ l0_2 (rd l1 x7_1) t117 t120 _ ?side1 ?side2 ?side3 ?side4 ?side5 ?side6 A6.out).mono ?_
      (case side1 => exact sC HR0_0 HB)
      (case side2 => exact HC0_0.out)
      (case side3 => exact sC HR0_1 HB)
      (case side4 => exact HC0_1.out)
      (case side5 => exact sC HR0_2 HB)
      (case side6 => exact HC0_2.out)
      rintro e w14 ⟨v118, rfl, ho0, hb⟩
      refine ⟨_, rfl, ?_⟩
      have HO119 := AM (Kd.R_lower ho0 (below_size (bH HB)))
      replace BK115 := kB BK115 hb; replace HB := kH HB hb; (try clear hb); (try clear hb2); (try clear hk); (try clear hi); (try clear ho0)
      refine hK.out _ _ ⟨bC BK115, bC BK115, bC BK115, (hW HB hw116_0)⟩ (fun hHeld => ?_)
      clear hK K; refine nP (some 28) ?_; refine pQ 6 (some 22) HT_ ?_; refine pQ 7 (some 29) HT_ ?_; refine pQ 8 (some 30) HT_ ?_; refine pQ 9 (some 8) HT_ ?_; refine pQ 10 (some 9) HT_ ?_
      refine done_ (done_of HT_.out (by kernel_rfl)) ?_
      try go_wp2
      go_ret2
      exact ⟨_, rE, by first | exact Kd.R_nil _ _ _ _ _ | exact Kd.N_nil _ _ _ _ _ | exact Kd.V_nil _ _ _ _ _ | exact Kd.Q_nil _ _ _ _ _ | exact Kd.S_nil _ _ _ _ _, bH HB⟩
    ·rw [if_neg c5] at H
     exact absurd H (by simp)
   ·rw [if_neg c4] at H
    have c4b0 := decide_eq_false c4; clear c4
    by_cases c15 : (l1.length : Int) = 0
    ·rw [if_pos c15] at H
     have c15b0 : ((l1.length : Int) == 0) = true := beq_iff_eq.mpr c15
     have c15b1 : ((l1.length : Int) != 0) = false := bne_eq_false_iff_eq.mpr c15
     clear c15
     simp only [Option.some.injEq, Prod.mk.injEq] at H
     obtain ⟨rfl, rfl⟩ := H
     go_wp2
     go_ret2
     exact ⟨_, rE, by first | exact Kd.R_nil _ _ _ _ _ | exact Kd.N_nil _ _ _ _ _ | exact Kd.V_nil _ _ _ _ _ | exact Kd.Q_nil _ _ _ _ _ | exact Kd.S_nil _ _ _ _ _, bH HB⟩
    ·rw [if_neg c15] at H
     have c15b0 : ((l1.length : Int) == 0) = false := beq_eq_false_iff_ne.mpr c15
     have c15b1 : ((l1.length : Int) != 0) = true := bne_iff_ne.mpr c15
     have c15b2 : ¬ (l1 = []) := fun h_ => c15 (by rw [h_]; rfl)
     have H' := AM H
     clear H
     go_wp2
     go_loopg [6, 10] k1 (fun kq v6 v10 w' => ∃ (x6_2 : List (S27)) (x10_2 : Int), v10 = .int .i64 x10_2 ∧ Aside0 (rf16_Points.l1 kq l1 x6_2 x10_2 l0_0 l0_1 l0_2 = some (r1, r2)) ∧ Aside0 (kq ≤ k1) ∧ Aside0 (Kd.R k27 27 w' w.heap.size (fun _ => True) v6 x6_2) ∧ Aside0 (w'.heap[gb115]? = some (.cells #[(.slice A0_0 l0_0.length c0_0), (.slice A0_1 l0_1.length c0_1), (.slice A0_2 l0_2.length c0_2)] 25 (0, 0))) ∧ Aside0 (Below w.heap.size w w'))
     case atStart => exact ⟨(([] : List (S27))), (0), rS, H', ⟨Nat.le_refl _⟩, ⟨by first | exact Kd.R_nil _ _ _ _ _ | exact Kd.N_nil _ _ _ _ _ | exact Kd.V_nil _ _ _ _ _ | exact Kd.Q_nil _ _ _ _ _ | exact Kd.S_nil _ _ _ _ _⟩, ⟨bK BK115⟩, ⟨ bH HB⟩⟩
     case round =>
      clear H'
      (try clear c1); (try clear p1); (try clear q1); (try clear hx1); (try clear p2); (try clear c3); (try clear c4); (try clear c4b0); (try clear c5); (try clear c5b0); (try clear c6); (try clear p6); (try clear c7); (try clear c7b0); (try clear c7b1); (try clear p11); (try clear q11); (try clear hx11); (try clear c12); (try clear c12b0); (try clear c12b1); (try clear c12b2); (try clear c15); (try clear c15b0); (try clear c15b1); (try clear c15b2); (try clear hx116_0); (try clear p116); (try clear p2); (try clear q116)
      obtain ⟨x6_2, x10_2, rfl, HA, HK2, HO_6, BK115, HB⟩ := hrel
      cases gk with
      | zero => exact absurd HA.out (by simp [rf16_Points.l1])
      | succ k2 =>
       have H := HA.out; clear HA
       simp only [rf16_Points.l1] at H
       by_cases c16 : x10_2 < (l1.length : Int)
       ·rw [if_pos c16] at H
        have c16b0 := decide_eq_true c16; clear c16
        have HC17 := AM H
        clear H
        go_upto_if 52 with (fail)
        go_cut [11] (fun v11 wc => ∃ (kq : Nat) (x11_16 : Int), v11 = .int .i64 x11_16 ∧ Aside0 (rf16_Points.j2 kq l1 x6_2 x10_2 x11_16 l0_0 l0_1 l0_2 = some (r1, r2)) ∧ Aside0 (kq ≤ k2) ∧ Aside0 (Kd.R k27 27 wc w.heap.size (fun _ => True) u6 x6_2) ∧ Aside0 (wc.heap[gb115]? = some (.cells #[(.slice A0_0 l0_0.length c0_0), (.slice A0_1 l0_1.length c0_1), (.slice A0_2 l0_2.length c0_2)] 25 (0, 0))) ∧ Aside0 (Below w.heap.size w wc))
        case first =>
         have H := HC17.out; clear HC17
         by_cases c18 : (wrap64 (x10_2 + 1)) = (l1.length : Int)
         ·rw [if_pos c18] at H
          have c18b0 : ((wrap64 (x10_2 + 1)) == (l1.length : Int)) = true := beq_iff_eq.mpr c18
          have c18b1 : ((wrap64 (x10_2 + 1)) != (l1.length : Int)) = false := bne_eq_false_iff_eq.mpr c18
          clear c18
          (first | rw [c18b0] | (simp only [i64_w, i32_w]; rw [c18b0]) | skip)
          have H' := AM H
          clear H
          go_wp2
          go_meet
          case rel => exact ⟨_, (0), rS, H', ⟨by have := HK1.out; have := HK2.out; first | omega | exact Nat.le_refl _⟩, ⟨rK HO_6⟩, ⟨bK BK115⟩, ⟨ bH HB⟩⟩
         ·rw [if_neg c18] at H
          have c18b0 : ((wrap64 (x10_2 + 1)) == (l1.length : Int)) = false := beq_eq_false_iff_ne.mpr c18
          have c18b1 : ((wrap64 (x10_2 + 1)) != (l1.length : Int)) = true := bne_iff_ne.mpr c18
          (first | rw [c18b0] | (simp only [i64_w, i32_w]; rw [c18b0]) | skip)
          have H' := AM H
          clear H
          go_wp2
          go_meet
          case rel => exact ⟨_, (wrap64 (x10_2 + 1)), rS, H', ⟨by have := HK1.out; have := HK2.out; first | omega | exact Nat.le_refl _⟩, ⟨rK HO_6⟩, ⟨bK BK115⟩, ⟨ bH HB⟩⟩
        case rest =>
         clear HC17; (try clear c1); (try clear p1); (try clear q1); (try clear hx1); (try clear p2); (try clear c3); (try clear c4); (try clear c4b0); (try clear c5); (try clear c5b0); (try clear c6); (try clear p6); (try clear c7); (try clear c7b0); (try clear c7b1); (try clear p11); (try clear q11); (try clear hx11); (try clear c12); (try clear c12b0); (try clear c12b1); (try clear c12b2); (try clear c15); (try clear c15b0); (try clear c15b1); (try clear c15b2); (try clear c16); (try clear c16b0); (try clear c18); (try clear c18b0); (try clear c18b1); (try clear hx116_0); (try clear p1); (try clear p11); (try clear p116); (try clear p2); (try clear p6); (try clear q1); (try clear q11); (try clear q116)
         obtain ⟨kq, x11_16, rfl, HA, HJ16, HO_6, BK115, HB⟩ := hcut
         cases kq with
         | zero => exact absurd HA.out (by simp [rf16_Points.j2])
         | succ kj16 =>
          have H := HA.out; clear HA
          simp only [rf16_Points.j2] at H
          by_cases c19 : 0 ≤ x10_2
          ·rw [if_pos c19] at H
           have c19b0 := decide_eq_true c19; clear c19
           by_cases c20 : x10_2 < (l1.length : Int)
           ·rw [if_pos c20] at H
            have c20b0 := decide_eq_true c20; clear c20
            obtain ⟨⟨t122, t125⟩, A21, H⟩ := bS H
            try dsimp only at H
            by_cases c22 : 0 ≤ x11_16
            ·rw [if_pos c22] at H
             have c22b0 := decide_eq_true c22; clear c22
             by_cases c23 : x11_16 < (l1.length : Int)
             ·rw [if_pos c23] at H
              have c23b0 := decide_eq_true c23; clear c23
              obtain ⟨⟨t127, t130⟩, A24, H⟩ := bS H
              try dsimp only at H
              obtain ⟨ji25, hji25⟩ : ∃ j_ : Int, (wrap64 ((t122.length : Int) - 1)) = j_ := ⟨_, rfl⟩
              replace H : (if 0 ≤ (ji25) then (if (ji25) < (t122.length : Int) then (if 0 < (t127.length : Int) then (if (!(((rd_T27 t122 (ji25)).f0) == ((rd_T27 t127 0).f0)) || (!(((rd_T27 t122 (ji25)).f1) == ((rd_T27 t127 0).f1)) || (!(((rd_T27 t122 (ji25)).f2) == ((rd_T27 t127 0).f2))))) = true then (some (([] : List (S27)), 90)) else (if (ji25) ≤ (t122.length : Int) then ((some (t122.take ((ji25) : Int).toNat : List (S27))).bind fun y133 => (if x6_2.length + y133.length < 5864062014805 then (rf16_Points.l1 kj16 l1 (x6_2 ++ y133) (wrap64 (x10_2 + 1)) l0_0 l0_1 l0_2) else (none))) else (none))) else (none)) else (none)) else (none)) = some (r1, r2) := by first | (rw [hji25] at H; exact H) | (simp only [hji25] at H ⊢; exact H)
              (try rw [hji25] at A21)
              (try rw [hji25] at A24)
              have hji25w : (IntKind.i64.wrap ((t122.length : Int) - 1)) = ji25 := (i64_w _).trans hji25
              by_cases c26 : 0 ≤ (ji25)
              ·rw [if_pos c26] at H
               have c26b0 := decide_eq_true c26; clear c26
               by_cases c27 : (ji25) < (t122.length : Int)
               ·rw [if_pos c27] at H
                have c27b0 := decide_eq_true c27; clear c27
                by_cases c28 : 0 < (t127.length : Int)
                ·rw [if_pos c28] at H
                 have c28b0 := decide_eq_true c28
                 have c28b1 : decide (0 < t127.length) = true := decide_eq_true (by omega)
                 clear c28
                 have HC29 := AM H
                 clear H
                 try go_wp2
                 replace HO_6 := dR HO_6; replace BK115 := dB BK115; replace HB := dH HB
                 have p121 : 0 ≤ (x10_2 : Int) := pD
                 have q121 : x10_2 < (l1.length : Int) := pD
                 obtain ⟨ad121, e121, hx121_0⟩ := Kd.at_int HR1.out x10_2 p121 q121
                 have hw121_0 := hx121_0
                 cases e121
                 replace hx121_0 := hW HB hx121_0; replace p121 := eq_true p121; replace q121 := eq_true q121
                 refine sP 11 (S := fun w' => w'.cell? ⟨gb115, 0, none⟩ = some (.slice A0_0 l0_0.length c0_0) ∧ w'.cell? ⟨gb115, 1, none⟩ = some (.slice A0_1 l0_1.length c0_1) ∧ w'.cell? ⟨gb115, 2, none⟩ = some (.slice A0_2 l0_2.length c0_2) ∧ w'.cell? (ad121.add (x10_2).toNat) = some (.int .i64 (rd l1 x10_2))) (ds := []) ⟨bC BK115, bC BK115, bC BK115, (hW HB hw121_0)⟩ fun hHeld => ?_; refine with_tabW rf16_Points.tab16 rf16_Points.bits16 (fun HT_ HW_ => ?_)
                 generalize wc.drew = w30 at HO_6 BK115 HB hx121_0 hHeld ⊢
                 refine pQ 1 (some 55) HT_ ?_; refine pQ 2 (some 56) HT_ ?_; refine pQ 3 (some 57) HT_ ?_; refine tQ 0 (some 54) HT_ HW_ hHeld ?_; refine tQ 4 (some 58) HT_ HW_ hHeld ?_
                 refine oQ 5 (some 59) HT_ rfl fun K hK => ?_
                 refine gO Try.func61 #[.agg #[.slice A0_0 l0_0.length c0_0, .slice A0_1 l0_1.length c0_1, .slice A0_2 l0_2.length c0_2], .int .i64 (rd l1 x10_2)] ?_
                 with_reducible refine (rf16_Arc.calls kj16 _ _ l0_0 _ _ l0_1 _ _ l0_2 (rd l1 x10_2) t122 t125 _ ?side1 ?side2 ?side3 ?side4 ?side5 ?side6 A21.out).mono ?_
                 (case side1 => exact sC HR0_0 HB)
                 (case side2 => exact HC0_0.out)
                 (case side3 => exact sC HR0_1 HB)
                 (case side4 => exact HC0_1.out)
                 (case side5 => exact sC HR0_2 HB)
                 (case side6 => exact HC0_2.out)
                 rintro e w31 ⟨v123, rfl, ho0, hb⟩
                 refine ⟨_, rfl, ?_⟩
                 have HO124 := AM (Kd.R_lower (Kd.R_new' ho0 (Kd.R_lt (rK HO_6))) (below_size (bH HB)))
                 replace HO_6 := AM (Kd.R_elder' (rK HO_6) (Kd.R_base ho0) hb)
                 replace BK115 := kB BK115 hb; replace HB := kH HB hb; (try clear hb); (try clear hb2); (try clear hk); (try clear hi); (try clear ho0)
                 refine hK.out _ _ ⟨bC BK115, bC BK115, bC BK115, (hW HB hw121_0)⟩ (fun hHeld => ?_)
                 clear hK K; refine nP (some 59) ?_; refine pQ 6 (some 53) HT_ ?_; refine pQ 7 (some 60) HT_ ?_; refine pQ 8 (some 61) HT_ ?_; refine pQ 9 (some 12) HT_ ?_; refine pQ 10 (some 13) HT_ ?_
                 refine done_ (done_of HT_.out (by kernel_rfl)) ?_
                 try go_wp2
                 replace HO_6 := dR HO_6; replace HO124 := dR HO124; replace BK115 := dB BK115; replace HB := dH HB
                 have p126 : 0 ≤ (x11_16 : Int) := pD
                 have q126 : x11_16 < (l1.length : Int) := pD
                 obtain ⟨ad126, e126, hx126_0⟩ := Kd.at_int HR1.out x11_16 p126 q126
                 have hw126_0 := hx126_0
                 obtain rfl : ad121 = ad126 := (by injection e126)
                 replace hx126_0 := hW HB hx126_0; replace p126 := eq_true p126; replace q126 := eq_true q126
                 refine sP 11 (S := fun w' => w'.cell? ⟨gb115, 0, none⟩ = some (.slice A0_0 l0_0.length c0_0) ∧ w'.cell? ⟨gb115, 1, none⟩ = some (.slice A0_1 l0_1.length c0_1) ∧ w'.cell? ⟨gb115, 2, none⟩ = some (.slice A0_2 l0_2.length c0_2) ∧ w'.cell? (ad121.add (x11_16).toNat) = some (.int .i64 (rd l1 x11_16))) (ds := []) ⟨bC BK115, bC BK115, bC BK115, (hW HB hw126_0)⟩ fun hHeld => ?_; refine with_tabW rf16_Points.tab17 rf16_Points.bits17 (fun HT_ HW_ => ?_)
                 generalize w31.drew = w32 at HO_6 HO124 BK115 HB hx126_0 hHeld ⊢
                 refine pQ 1 (some 64) HT_ ?_; refine pQ 2 (some 65) HT_ ?_; refine pQ 3 (some 66) HT_ ?_; refine tQ 0 (some 63) HT_ HW_ hHeld ?_; refine tQ 4 (some 67) HT_ HW_ hHeld ?_
                 refine oQ 5 (some 68) HT_ rfl fun K hK => ?_
                 refine gO Try.func61 #[.agg #[.slice A0_0 l0_0.length c0_0, .slice A0_1 l0_1.length c0_1, .slice A0_2 l0_2.length c0_2], .int .i64 (rd l1 x11_16)] ?_
                 with_reducible refine (rf16_Arc.calls kj16 _ _ l0_0 _ _ l0_1 _ _ l0_2 (rd l1 x11_16) t127 t130 _ ?side1 ?side2 ?side3 ?side4 ?side5 ?side6 A24.out).mono ?_
                 (case side1 => exact sC HR0_0 HB)
                 (case side2 => exact HC0_0.out)
                 (case side3 => exact sC HR0_1 HB)
                 (case side4 => exact HC0_1.out)
                 (case side5 => exact sC HR0_2 HB)
                 (case side6 => exact HC0_2.out)
                 rintro e w33 ⟨v128, rfl, ho0, hb⟩
                 refine ⟨_, rfl, ?_⟩
                 have HO129 := AM (Kd.R_lower (Kd.R_new' (Kd.R_new' ho0 (Kd.R_lt (rK HO_6))) (Kd.R_lt (rK HO124))) (below_size (bH HB)))
                 replace HO_6 := AM (Kd.R_elder' (rK HO_6) (Kd.R_base ho0) hb)
                 replace HO124 := AM (Kd.R_elder' (rK HO124) (Kd.R_base ho0) hb)
                 replace BK115 := kB BK115 hb; replace HB := kH HB hb; (try clear hb); (try clear hb2); (try clear hk); (try clear hi); (try clear ho0)
                 refine hK.out _ _ ⟨bC BK115, bC BK115, bC BK115, (hW HB hw126_0)⟩ (fun hHeld => ?_)
                 clear hK K; refine nP (some 68) ?_; refine pQ 6 (some 62) HT_ ?_; refine pQ 7 (some 69) HT_ ?_; refine pQ 8 (some 70) HT_ ?_; refine pQ 9 (some 14) HT_ ?_; refine pQ 10 (some 15) HT_ ?_
                 refine done_ (done_of HT_.out (by kernel_rfl)) ?_
                 try go_wp2
                 replace HO_6 := dR HO_6; replace HO124 := dR HO124; replace HO129 := dR HO129; replace BK115 := dB BK115; replace HB := dH HB
                 obtain ⟨Ao35, co35, eo35⟩ := Kd.R_slice HO124.out
                 (first | subst eo35 | (injection eo35 with f1_ f2_ f3_; have f4_ := f1_.symm; have f5_ := f3_.symm; clear f1_ f2_ f3_; subst f4_; subst f5_))
                 have p131 : 0 ≤ ((ji25) : Int) := pD
                 have q131 : (ji25) < (t122.length : Int) := pD
                 obtain ⟨ad131, e131, hx131_0, hx131_1, hx131_2⟩ := at_T27 (Kd.R_reads' HO124.out).2.2 (ji25) p131 q131
                 cases e131
                 replace p131 := eq_true p131; replace q131 := eq_true q131
                 obtain ⟨Ao36, co36, eo36⟩ := Kd.R_slice HO129.out
                 (first | subst eo36 | (injection eo36 with f1_ f2_ f3_; have f4_ := f1_.symm; have f5_ := f3_.symm; clear f1_ f2_ f3_; subst f4_; subst f5_))
                 have p132 : 0 ≤ (0 : Int) := (by omega)
                 have q132 : 0 < (t127.length : Int) := pD
                 obtain ⟨ad132, e132, hx132_0, hx132_1, hx132_2⟩ := at_T27 (Kd.R_reads' HO129.out).2.2 0 p132 q132
                 cases e132
                 have qi132 : (0 < t127.length) = True := eq_true (by omega)
                 (try rw [show ((0 : Int)).toNat = 0 from rfl] at hx132_0)
                 (try rw [show 0 * 3 = 0 from rfl] at hx132_0)
                 (try rw [Addr.add_zero'] at hx132_0)
                 (try rw [show ((0 : Int)).toNat = 0 from rfl] at hx132_1)
                 (try rw [show 0 * 3 = 0 from rfl] at hx132_1)
                 (try rw [Addr.add_zero'] at hx132_1)
                 (try rw [show ((0 : Int)).toNat = 0 from rfl] at hx132_2)
                 (try rw [show 0 * 3 = 0 from rfl] at hx132_2)
                 (try rw [Addr.add_zero'] at hx132_2)
                 replace p132 := eq_true p132; replace q132 := eq_true q132
                 refine sP 10 (S := fun w' => w'.cell? (ad131.add (((ji25)).toNat * 3)) = some (.int .i64 ((rd_T27 t122 (ji25)).f0)) ∧ w'.cell? ⟨(ad131.add (((ji25)).toNat * 3)).block, (ad131.add (((ji25)).toNat * 3)).off + 1, none⟩ = some (.int .i64 ((rd_T27 t122 (ji25)).f1)) ∧ w'.cell? ⟨(ad131.add (((ji25)).toNat * 3)).block, (ad131.add (((ji25)).toNat * 3)).off + 2, none⟩ = some (.int .i64 ((rd_T27 t122 (ji25)).f2)) ∧ w'.cell? ad132 = some (.int .i64 ((rd_T27 t127 0).f0)) ∧ w'.cell? ⟨ad132.block, ad132.off + 1, none⟩ = some (.int .i64 ((rd_T27 t127 0).f1)) ∧ w'.cell? ⟨ad132.block, ad132.off + 2, none⟩ = some (.int .i64 ((rd_T27 t127 0).f2))) (ds := []) ⟨hx131_0, hx131_1, hx131_2, hx132_0, hx132_1, hx132_2⟩ fun hHeld => ?_; refine with_tabW rf16_Points.tab18 rf16_Points.bits18 (fun HT_ HW_ => ?_)
                 generalize w33.drew = w34 at HO_6 HO124 HO129 BK115 HB hx131_0 hx131_1 hx131_2 hx132_0 hx132_1 hx132_2 hHeld ⊢
                 refine pQ 0 (some 71) HT_ ?_; refine pQ 1 (some 72) HT_ ?_; refine pQ 2 (some 73) HT_ ?_; refine pQ 3 (some 74) HT_ ?_; refine pQ 4 (some 75) HT_ ?_; refine pQ 6 (some 77) HT_ ?_; refine pQ 7 (some 78) HT_ ?_; refine tQ 5 (some 76) HT_ HW_ hHeld ?_; refine tQ 8 (some 79) HT_ HW_ hHeld ?_; refine pQ 9 (some 80) HT_ ?_
                 refine done_ (done_of HT_.out (by kernel_rfl)) ?_
                 go_upto_if 80 with (fail)
                 have H := HC29.out; clear HC29
                 by_cases c37 : (!(((rd_T27 t122 (ji25)).f0) == ((rd_T27 t127 0).f0)) || (!(((rd_T27 t122 (ji25)).f1) == ((rd_T27 t127 0).f1)) || (!(((rd_T27 t122 (ji25)).f2) == ((rd_T27 t127 0).f2))))) = true
                 ·rw [if_pos c37] at H
                  have c37b0 : (!(((rd_T27 t122 (ji25)).f0) == ((rd_T27 t127 0).f0)) || (!(((rd_T27 t122 (ji25)).f1) == ((rd_T27 t127 0).f1)) || (!(((rd_T27 t122 (ji25)).f2) == ((rd_T27 t127 0).f2))))) = true := c37
                  clear c37
                  (first | rw [c37b0] | (simp only [i64_w, i32_w]; rw [c37b0]) | skip)
                  simp only [Option.some.injEq, Prod.mk.injEq] at H
                  obtain ⟨rfl, rfl⟩ := H
                  go_wp2
                  go_ret2
                  exact ⟨_, by first | rfl | (simp [errW_none, errW_some] <;> rfl) | (simp only [← hji25]; first | rfl | (simp [errW_none, errW_some] <;> rfl)) | (simp [*, errW_none, errW_some] <;> rfl), by first | exact Kd.R_nil _ _ _ _ _ | exact Kd.N_nil _ _ _ _ _ | exact Kd.V_nil _ _ _ _ _ | exact Kd.Q_nil _ _ _ _ _ | exact Kd.S_nil _ _ _ _ _, bH HB⟩
                 ·rw [if_neg c37] at H
                  have c37b0 : (!(((rd_T27 t122 (ji25)).f0) == ((rd_T27 t127 0).f0)) || (!(((rd_T27 t122 (ji25)).f1) == ((rd_T27 t127 0).f1)) || (!(((rd_T27 t122 (ji25)).f2) == ((rd_T27 t127 0).f2))))) = false := by simpa using c37
                  clear c37
                  (first | rw [c37b0] | (simp only [i64_w, i32_w]; rw [c37b0]) | skip)
                  have c38b0 := eq_true (pD : 0 ≤ (ji25))
                  by_cases c39 : (ji25) ≤ (t122.length : Int)
                  ·rw [if_pos c39] at H
                   have c39b0 := eq_true c39; have c39b1 := decide_eq_true c39; clear c39
                   obtain ⟨y133, hy133⟩ : ∃ y_ : List (S27), y_ = (t122.take ((ji25) : Int).toNat) := ⟨_, rfl⟩
                   replace H : (if x6_2.length + y133.length < 5864062014805 then (rf16_Points.l1 kj16 l1 (x6_2 ++ y133) (wrap64 (x10_2 + 1)) l0_0 l0_1 l0_2) else (none)) = some (r1, r2) := by first | (rw [hy133]; with_reducible exact H) | (have H2_ := (Option.bind_some _ _).symm.trans H; rw [hy133]; with_reducible exact H2_) | (have H2_ := (Option.bind_some _ _).symm.trans H; with_reducible exact H2_) | with_reducible exact H | (rw [hy133]; exact H) | exact H
                   have Ny133 := AM hy133
                   clear hy133
                   by_cases c40 : x6_2.length + y133.length < 5864062014805
                   ·rw [if_pos c40] at H
                    have LMc40 := AM c40
                    clear c40
                    obtain ⟨y137, hy137⟩ : ∃ y_ : List (S27), y_ = (x6_2 ++ y133) := ⟨_, rfl⟩
                    replace H : (rf16_Points.l1 kj16 l1 y137 (wrap64 (x10_2 + 1)) l0_0 l0_1 l0_2) = some (r1, r2) := by first | (rw [hy137]; with_reducible exact H) | (have H2_ := (Option.bind_some _ _).symm.trans H; rw [hy137]; with_reducible exact H2_) | (have H2_ := (Option.bind_some _ _).symm.trans H; with_reducible exact H2_) | with_reducible exact H | (rw [hy137]; exact H) | exact H
                    have Ny137 := AM hy137
                    clear hy137
                    have H' := AM H
                    clear H
                    have q41 : ((ji25) : Int) ≤ ((t122.length : Int) : Int) := pD
                    obtain ⟨i041, hi041, _, hsz41, _⟩ := info_parts info27
                    have hroom41 : t122.length ≤ co35 := (Kd.R_reads' HO124.out).2.1
                    have hC41 : Kd.C k27 _ (some ad131) t122.length t122 := (Kd.R_reads' HO124.out).2.2
                    have hcut41 := cut_to (P := Try.prog) 31 27 .i64 Try.underlying31 hi041 (some ad131) t122.length co35 (ji25) (pD) q41 hroom41
                    have hr41 := Kd.C_take (m := ((ji25) : Int).toNat) hC41 (by omega)
                    have hy41 : y133.length = ((ji25) : Int).toNat := (by rw [Ny133.out, List.length_take]; omega)
                    rw [← Ny133.out] at hr41
                    rw [← hy41] at hcut41
                    have HR136 := AM hr41
                    have HC136 := AM (show y133.length ≤ co35 from by omega)
                    clear hr41 hC41 hroom41 hi041 hsz41
                    have KY41 := AM hy41
                    clear hy41
                    have KL41 := AM (show ((ji25) : Int).toNat ≤ t122.length from by omega)
                    replace q41 := eq_true q41
                    go_wp2_with (first | ((with_reducible refine gate_builtin (b := .append) (xs := #[.tmp 81, .tmp 86]) rfl ?_); (try (refine gate_guard (by rfl) ?_; dsimp only)); at_builtin; refine Kd.R_append_rows k27 (w0 := w) w.heap.size rfl (.tmp 81) (.tmp 86) 31 27 (.agg #[(.int .i64 0), (.int .i64 0), (.int .i64 0)]) 24 rfl Try.underlying31 info27 rfl (by decide) (by omega) u6 x6_2 y133 _ _ _ (fun k_ => some k_ ≠ (.slice (some ad131) t122.length co35 : Value).ownBlock ∧ some k_ ≠ (.slice (some ad132) t127.length co36 : Value).ownBlock) (fun _ => False) rfl rfl ?aO ?aR (fun _ _ h => h) (fun _ h => h.elim) ?aF ?aB ?aS ?aL ?_; (case aR => repeat (first | exact (by repeat (first | (with_reducible exact HR136.out) | (with_reducible refine Kd.C_alloc ?_ _) | (with_reducible refine Kd.C_drewN ?_ _) | (with_reducible refine Kd.C_drew ?_) | exact HR136.out)) | (with_reducible refine Kd.C_alloc ?_ _) | (with_reducible refine Kd.C_drewN ?_ _) | (with_reducible refine Kd.C_drew ?_))); (case aB => exact (bH HB)); (case aF => exact (fun k_ hk => ⟨Kd.fresh' (Kd.R_lt (rK HO124)) k_ hk, Kd.fresh' (Kd.R_lt (rK HO129)) k_ hk⟩)); (case aO => exact (by (with_reducible repeat (first | apply Kd.R_alloc | apply Kd.R_drewN | apply Kd.R_drew)); exact Kd.R_mono HO_6.out (fun _ hk => ⟨hk.1.2, hk.2⟩))); (case aS => exact (below_size (bH HB))); (case aL => have := LMc40.out; omega); intro v138 w42 ho hb hg hat; rw [← Ny137.out] at ho; replace BK115 := AM (blk_grown (g := gb115) (o := .cells #[.slice A0_0 l0_0.length c0_0, .slice A0_1 l0_1.length c0_1, .slice A0_2 l0_2.length c0_2] 25 (0, 0)) (bK BK115) hg (Kd.R_ne HO_6.out BK115.out (by decide))); replace HO129 := AM (Kd.R_after (ok := (fun k_ => some k_ ≠ (.slice (some ad131) t122.length co35 : Value).ownBlock)) (by (with_reducible repeat (first | apply Kd.R_alloc | apply Kd.R_drewN | apply Kd.R_drew)); exact Kd.R_mono HO129.out (fun _ hk => ⟨hk.2, hk.1.2⟩)) hg hat); replace HB := AM hb; replace HR136 := AM (show Kd.C k27 w42 (some ad131) y133.length y133 from by rw [Ny133.out]; exact Kd.C_take (m := ((ji25) : Int).toNat) ((Kd.R_reads' (Kd.R_after (ok := (fun k_ => some k_ ≠ (.slice (some ad132) t127.length co36 : Value).ownBlock)) (by (with_reducible repeat (first | apply Kd.R_alloc | apply Kd.R_drewN | apply Kd.R_drew)); exact Kd.R_mono HO124.out (fun _ hk => ⟨hk.2, hk.1.2⟩)) hg hat)).2.2) KL41.out); replace HO124 := AM (Kd.R_after (ok := (fun k_ => some k_ ≠ (.slice (some ad132) t127.length co36 : Value).ownBlock)) (by (with_reducible repeat (first | apply Kd.R_alloc | apply Kd.R_drewN | apply Kd.R_drew)); exact Kd.R_mono HO124.out (fun _ hk => ⟨hk.2, hk.1.2⟩)) hg hat); have HO139 := AM ho; clear HO_6; clear ho hb hg hat))
                    go_roundg kj16
                    case measure => have := HK1.out; have := HK2.out; have := HJ16.out; omega
                    case rel => exact ⟨(y137), (wrap64 (x10_2 + 1)), rS, H', ⟨by have := HK1.out; have := HK2.out; have := HJ16.out; omega⟩, ⟨by (with_reducible repeat (first | apply Kd.R_alloc | apply Kd.R_drewN | apply Kd.R_drew)); exact Kd.R_mono HO139.out (fun _ hk => trivial)⟩, ⟨bK BK115⟩, ⟨ bH HB⟩⟩
                   ·rw [if_neg c40] at H
                    exact absurd H (by simp)
                  ·rw [if_neg c39] at H
                   exact absurd H (by simp)
                ·rw [if_neg c28] at H
                 exact absurd H (by simp)
               ·rw [if_neg c27] at H
                exact absurd H (by simp)
              ·rw [if_neg c26] at H
               exact absurd H (by simp)
             ·rw [if_neg c23] at H
              exact absurd H (by simp)
            ·rw [if_neg c22] at H
             exact absurd H (by simp)
           ·rw [if_neg c20] at H
            exact absurd H (by simp)
          ·rw [if_neg c19] at H
           exact absurd H (by simp)
       ·rw [if_neg c16] at H
        have c16b0 := decide_eq_false c16; clear c16
        simp only [Option.some.injEq, Prod.mk.injEq] at H
        obtain ⟨rfl, rfl⟩ := H
        go_wp2
        go_ret2
        exact ⟨_, rE, rK HO_6, bH HB⟩
end Go.Proofs.Ytbonkedecfjmdaa.P

namespace Go.Proofs.Ytbonkedecfjmdaa.P
open Go.RowKit Go.Proofs.YtbonkedecfjmdaaW.PrintWords Go.Proofs.YtbonkedecfjmdaaW.PrintLast Go.Proofs.YtbonkedecfjmdaaW.PrintMore Go.Proofs.Ytbonkedecfjmdaa.X
attribute [local go_sem] max2_int min2_int max_two min_two max_three min_three max_four min_four add64_0 add64_1 add64
set_option linter.unusedVariables false
set_option linter.unusedSimpArgs false
mutual
def rf16_Uses.l0 : Nat → Int → Int → Int → List (List (S27)) → List (List Int) → List (List Int) → Option (Int)
 | 0, _, _, _, _, _, _ => none
 | k + 1, x1, x5, x6, x141000, x141001, x141002 => if x6 < (x141001.length : Int) then (rf16_Uses.l1 k x1 x5 x6 0 x141000 x141001 x141002) else (some x5)
def rf16_Uses.l1 : Nat → Int → Int → Int → Int → List (List (S27)) → List (List Int) → List (List Int) → Option (Int)
 | 0, _, _, _, _, _, _, _ => none
 | k + 1, x1, x5, x6, x7, x141000, x141001, x141002 => if 0 ≤ x6 then (if x6 < (x141001.length : Int) then (if x7 < ((rd_L3 x141001 x6).length : Int) then (if 0 ≤ x7 then (if (rd (rd_L3 x141001 x6) x7) = x1 then (rf16_Uses.l1 k x1 (wrap64 (x5 + 1)) x6 (wrap64 (x7 + 1)) x141000 x141001 x141002) else (rf16_Uses.l1 k x1 x5 x6 (wrap64 (x7 + 1)) x141000 x141001 x141002)) else (none)) else (rf16_Uses.l0 k x1 x5 (wrap64 (x6 + 1)) x141000 x141001 x141002)) else (none)) else (none)
end
def rf16_Uses.f (k : Nat) (l0_0 : List (List (S27))) (l0_1 : List (List Int)) (l0_2 : List (List Int)) (a1 : Int) : Option (Int) := rf16_Uses.l0 k a1 0 0 l0_0 l0_1 l0_2
theorem rf16_Uses.mono_l : ∀ k, (∀ y0 y1 y2 y3 y4 y5, LeO (rf16_Uses.l0 k y0 y1 y2 y3 y4 y5) (rf16_Uses.l0 (k + 1) y0 y1 y2 y3 y4 y5)) ∧ (∀ y0 y1 y2 y3 y4 y5 y6, LeO (rf16_Uses.l1 k y0 y1 y2 y3 y4 y5 y6) (rf16_Uses.l1 (k + 1) y0 y1 y2 y3 y4 y5 y6))
 | 0 => ⟨fun _ _ _ _ _ _ r h => by simp [rf16_Uses.l0] at h, fun _ _ _ _ _ _ _ r h => by simp [rf16_Uses.l1] at h⟩
 | k + 1 => by
  obtain ⟨ih0, ih1⟩ := rf16_Uses.mono_l k
  refine ⟨?_, ?_⟩
  all_goals
   intros
   first | unfold rf16_Uses.l0 | unfold rf16_Uses.l1
   repeat' with_reducible first | exact ih0 _ _ _ _ _ _ | exact ih1 _ _ _ _ _ _ _ | exact LeO.refl _ | exact LeO.none _ | refine LeO.ite ?_ ?_ | refine LeO.bind ?_ (fun _ => ?_)
theorem rf16_Uses.mono : ∀ a0 a1 a2 a3 k, LeO (rf16_Uses.f k a0 a1 a2 a3) (rf16_Uses.f (k + 1) a0 a1 a2 a3) := by
 intro a0 a1 a2 a3 k
 obtain ⟨ih0, ih1⟩ := rf16_Uses.mono_l k
 unfold rf16_Uses.f
 repeat' first
   | (with_reducible exact ih0 _ _ _ _ _ _)
   | (with_reducible exact ih1 _ _ _ _ _ _ _)
   | (with_reducible exact LeO.refl _)
   | (with_reducible exact LeO.none _)
   | (with_reducible refine LeO.ite ?_ ?_)
   | (with_reducible refine LeO.bind ?_ (fun _ => ?_))
   | exact ih0 _ _ _ _ _ _
   | exact ih1 _ _ _ _ _ _ _
   | exact LeO.none _
   | refine LeO.ite ?_ ?_
   | refine LeO.bind ?_ (fun _ => ?_)
set_option maxHeartbeats 8000000 in
set_option maxRecDepth 100000 in
theorem rf16_Uses.calls (k : Nat) (A0_0 : Option Addr) (c0_0 : Nat) (l0_0 : List (List (S27))) (A0_1 : Option Addr) (c0_1 : Nat) (l0_1 : List (List Int)) (A0_2 : Option Addr) (c0_2 : Nat) (l0_2 : List (List Int)) (a1 : Int) (r : Int) (w : World) (hr0_0 : Kd.C (Kd.slice 27 k27) w A0_0 l0_0.length l0_0) (hc0_0 : l0_0.length ≤ c0_0) (hr0_1 : Kd.C (Kd.slice 3 (Kd.int .i64)) w A0_1 l0_1.length l0_1) (hc0_1 : l0_1.length ≤ c0_1) (hr0_2 : Kd.C (Kd.slice 3 (Kd.int .i64)) w A0_2 l0_2.length l0_2) (hc0_2 : l0_2.length ≤ c0_2) (h : rf16_Uses.f k l0_0 l0_1 l0_2 a1 = some r) :
  Calls Try.prog 38 #[.agg #[.slice A0_0 l0_0.length c0_0, .slice A0_1 l0_1.length c0_1, .slice A0_2 l0_2.length c0_2], .int .i64 a1] w fun e w' => e = .returned (.int .i64 r) ∧ Below w.heap.size w w' := by
 have hu25 := Try.underlying25
 have HR0_0 := AM hr0_0
 have HC0_0 := AM hc0_0
 clear hr0_0 hc0_0
 have HR0_1 := AM hr0_1
 have HC0_1 := AM hc0_1
 clear hr0_1 hc0_1
 have HR0_2 := AM hr0_2
 have HC0_2 := AM hc0_2
 clear hr0_2 hc0_2
 have HB := AM (Below.refl w.heap.size w)
 have H : (rf16_Uses.l0 k a1 0 0 l0_0 l0_1 l0_2) = some r := h
 clear h
 have H' := AM H
 clear H
 go_enter Try.func38, Try.ntmps38
 go_wp2_with (first | ((with_reducible refine gate_dst (N := 2) rfl ?_); refine bE 2 #[.slice A0_0 l0_0.length c0_0, .slice A0_1 l0_1.length c0_1, .slice A0_2 l0_2.length c0_2] 25 ?_; intro gb140 hg w3 hbox hb; have BK140 := AM hbox; have GW140 := kG HB hg; replace HB := kH HB hb; have GE140 := GW140; clear hb hbox hg))
 go_loopg [5, 6] k (fun kq v5 v6 w' => ∃ (x5_1 : Int) (x6_1 : Int), v5 = .int .i64 x5_1 ∧ v6 = .int .i64 x6_1 ∧ Aside0 (rf16_Uses.l0 kq a1 x5_1 x6_1 l0_0 l0_1 l0_2 = some r) ∧ Aside0 (kq ≤ k) ∧ Aside0 (w'.heap[gb140]? = some (.cells #[(.slice A0_0 l0_0.length c0_0), (.slice A0_1 l0_1.length c0_1), (.slice A0_2 l0_2.length c0_2)] 25 (0, 0))) ∧ Aside0 (Below w.heap.size w w'))
 case atStart => exact ⟨(0), (0), rS, rS, H', ⟨Nat.le_refl _⟩, ⟨bK BK140⟩, ⟨ bH HB⟩⟩
 case round =>
  clear H'
  (try clear p2); (try clear c3)
  obtain ⟨x5_1, x6_1, rfl, rfl, HA, HK1, BK140, HB⟩ := hrel
  cases gk with
  | zero => exact absurd HA.out (by simp [rf16_Uses.l0])
  | succ k1 =>
   have H := HA.out; clear HA
   simp only [rf16_Uses.l0] at H
   by_cases c4 : x6_1 < (l0_1.length : Int)
   ·rw [if_pos c4] at H
    have c4b0 := decide_eq_true c4; clear c4
    have H' := AM H
    clear H; obtain ⟨hcz5_0, hcz5_1, hcz5_2, hfz5_0, hfz5_1, hfz5_2⟩ := c3 BK140
    go_wp2
    go_loopg [5, 7] k1 (fun kq v5 v7 w' => ∃ (x5_2 : Int) (x7_2 : Int), v5 = .int .i64 x5_2 ∧ v7 = .int .i64 x7_2 ∧ Aside0 (rf16_Uses.l1 kq a1 x5_2 x6_1 x7_2 l0_0 l0_1 l0_2 = some r) ∧ Aside0 (kq ≤ k1) ∧ Aside0 (w'.heap[gb140]? = some (.cells #[(.slice A0_0 l0_0.length c0_0), (.slice A0_1 l0_1.length c0_1), (.slice A0_2 l0_2.length c0_2)] 25 (0, 0))) ∧ Aside0 (Below w.heap.size w w'))
    case atStart => exact ⟨(x5_1), (0), rS, rS, H', ⟨Nat.le_refl _⟩, ⟨bK BK140⟩, ⟨ bH HB⟩⟩
    case round =>
     clear H'
     (try clear p2); (try clear c3); (try clear c4); (try clear c4b0); (try clear hcz5_0); (try clear hcz5_1); (try clear hcz5_2); (try clear hfz5_0); (try clear hfz5_1); (try clear hfz5_2); (try clear p2)
     obtain ⟨x5_2, x7_2, rfl, rfl, HA, HK2, BK140, HB⟩ := hrel
     cases gk with
     | zero => exact absurd HA.out (by simp [rf16_Uses.l1])
     | succ k2 =>
      have H := HA.out; clear HA
      simp only [rf16_Uses.l1] at H
      by_cases c6 : 0 ≤ x6_1
      ·rw [if_pos c6] at H
       have c6b0 := decide_eq_true c6; clear c6
       by_cases c7 : x6_1 < (l0_1.length : Int)
       ·rw [if_pos c7] at H
        have c7b0 := decide_eq_true c7; clear c7
        by_cases c8 : x7_2 < ((rd_L3 l0_1 x6_1).length : Int)
        ·rw [if_pos c8] at H
         have c8b0 := decide_eq_true c8; clear c8
         by_cases c9 : 0 ≤ x7_2
         ·rw [if_pos c9] at H
          have c9b0 := decide_eq_true c9; clear c9
          by_cases c10 : (rd (rd_L3 l0_1 x6_1) x7_2) = a1
          ·rw [if_pos c10] at H
           have c10b0 : ((rd (rd_L3 l0_1 x6_1) x7_2) == a1) = true := beq_iff_eq.mpr c10
           have c10b1 : ((rd (rd_L3 l0_1 x6_1) x7_2) != a1) = false := bne_eq_false_iff_eq.mpr c10
           clear c10
           have H' := AM H
           clear H; obtain ⟨hcz11_0, hcz11_1, hcz11_2, hfz11_0, hfz11_1, hfz11_2⟩ := c3 BK140
           have p141 : 0 ≤ (x6_1 : Int) := pD
           have q141 : x6_1 < (l0_1.length : Int) := pD
           obtain ⟨ad141, A141_0, c141_0, e141, hx141_0, hl141_0, hi141_0⟩ := at_L3 HR0_1.out x6_1 p141 q141
           cases e141
           replace hx141_0 := hW HB hx141_0
           have HR141_0 := AM hi141_0
           have HC141_0 := AM hl141_0
           clear hi141_0 hl141_0; replace p141 := eq_true p141; replace q141 := eq_true q141
           have p142 : 0 ≤ (x6_1 : Int) := pD
           have q142 : x6_1 < (l0_1.length : Int) := pD
           obtain ⟨ad142, A142_0, c142_0, e142, hx142_0, hl142_0, hi142_0⟩ := at_L3 HR0_1.out x6_1 p142 q142
           obtain rfl : ad141 = ad142 := (by injection e142)
           replace hx142_0 := hW HB hx142_0
           have HR142_0 := AM hi142_0
           have HC142_0 := AM hl142_0
           clear hi142_0 hl142_0; replace p142 := eq_true p142; replace q142 := eq_true q142
           have ea_ := Option.some.inj (hx141_0.symm.trans hx142_0)
           injection ea_ with ea_ en_ ec_
           subst ea_
           subst ec_
           clear en_
           have p143 : 0 ≤ (x7_2 : Int) := pD
           have q143 : x7_2 < ((rd_L3 l0_1 x6_1).length : Int) := pD
           obtain ⟨ad143, e143, hx143_0⟩ := Kd.at_int HR142_0.out x7_2 p143 q143
           cases e143
           replace hx143_0 := hW HB hx143_0; replace p143 := eq_true p143; replace q143 := eq_true q143
           go_wp2
           go_roundg k2
           case measure => have := HK1.out; have := HK2.out; omega
           case rel => exact ⟨(wrap64 (x5_2 + 1)), (wrap64 (x7_2 + 1)), rS, rS, H', ⟨by have := HK1.out; have := HK2.out; omega⟩, ⟨bK BK140⟩, ⟨ bH HB⟩⟩
          ·rw [if_neg c10] at H
           have c10b0 : ((rd (rd_L3 l0_1 x6_1) x7_2) == a1) = false := beq_eq_false_iff_ne.mpr c10
           have c10b1 : ((rd (rd_L3 l0_1 x6_1) x7_2) != a1) = true := bne_iff_ne.mpr c10
           have H' := AM H
           clear H; obtain ⟨hcz12_0, hcz12_1, hcz12_2, hfz12_0, hfz12_1, hfz12_2⟩ := c3 BK140
           have p141 : 0 ≤ (x6_1 : Int) := pD
           have q141 : x6_1 < (l0_1.length : Int) := pD
           obtain ⟨ad141, A141_0, c141_0, e141, hx141_0, hl141_0, hi141_0⟩ := at_L3 HR0_1.out x6_1 p141 q141
           cases e141
           replace hx141_0 := hW HB hx141_0
           have HR141_0 := AM hi141_0
           have HC141_0 := AM hl141_0
           clear hi141_0 hl141_0; replace p141 := eq_true p141; replace q141 := eq_true q141
           have p142 : 0 ≤ (x6_1 : Int) := pD
           have q142 : x6_1 < (l0_1.length : Int) := pD
           obtain ⟨ad142, A142_0, c142_0, e142, hx142_0, hl142_0, hi142_0⟩ := at_L3 HR0_1.out x6_1 p142 q142
           obtain rfl : ad141 = ad142 := (by injection e142)
           replace hx142_0 := hW HB hx142_0
           have HR142_0 := AM hi142_0
           have HC142_0 := AM hl142_0
           clear hi142_0 hl142_0; replace p142 := eq_true p142; replace q142 := eq_true q142
           have ea_ := Option.some.inj (hx141_0.symm.trans hx142_0)
           injection ea_ with ea_ en_ ec_
           subst ea_
           subst ec_
           clear en_
           have p143 : 0 ≤ (x7_2 : Int) := pD
           have q143 : x7_2 < ((rd_L3 l0_1 x6_1).length : Int) := pD
           obtain ⟨ad143, e143, hx143_0⟩ := Kd.at_int HR142_0.out x7_2 p143 q143
           cases e143
           replace hx143_0 := hW HB hx143_0; replace p143 := eq_true p143; replace q143 := eq_true q143
           go_wp2
           go_roundg k2
           case measure => have := HK1.out; have := HK2.out; omega
           case rel => exact ⟨(x5_2), (wrap64 (x7_2 + 1)), rS, rS, H', ⟨by have := HK1.out; have := HK2.out; omega⟩, ⟨bK BK140⟩, ⟨ bH HB⟩⟩
         ·rw [if_neg c9] at H
          exact absurd H (by simp)
        ·rw [if_neg c8] at H
         have c8b0 := decide_eq_false c8; clear c8
         have H' := AM H
         clear H; obtain ⟨hcz13_0, hcz13_1, hcz13_2, hfz13_0, hfz13_1, hfz13_2⟩ := c3 BK140
         have p141 : 0 ≤ (x6_1 : Int) := pD
         have q141 : x6_1 < (l0_1.length : Int) := pD
         obtain ⟨ad141, A141_0, c141_0, e141, hx141_0, hl141_0, hi141_0⟩ := at_L3 HR0_1.out x6_1 p141 q141
         cases e141
         replace hx141_0 := hW HB hx141_0
         have HR141_0 := AM hi141_0
         have HC141_0 := AM hl141_0
         clear hi141_0 hl141_0; replace p141 := eq_true p141; replace q141 := eq_true q141
         go_wp2
         go_roundg k2
         case measure => have := HK1.out; have := HK2.out; omega
         case rel => exact ⟨(x5_2), (wrap64 (x6_1 + 1)), rS, rS, H', ⟨by have := HK1.out; have := HK2.out; omega⟩, ⟨bK BK140⟩, ⟨ bH HB⟩⟩
       ·rw [if_neg c7] at H
        exact absurd H (by simp)
      ·rw [if_neg c6] at H
       exact absurd H (by simp)
   ·rw [if_neg c4] at H
    have c4b0 := decide_eq_false c4; clear c4
    obtain rfl := Option.some.inj H
    obtain ⟨hcz14_0, hcz14_1, hcz14_2, hfz14_0, hfz14_1, hfz14_2⟩ := c3 BK140
    go_wp2
    go_ret
    exact ⟨rE, bH HB⟩
end Go.Proofs.Ytbonkedecfjmdaa.P
