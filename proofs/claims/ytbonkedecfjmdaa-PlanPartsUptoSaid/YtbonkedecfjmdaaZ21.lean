/- Written for this claim by a program of this session (a turned copy of the print): Go functions as Lean functions, and that the Go code comes to just these answers; or a statement proved out of them. No condition. -/
import Derived.Test.YtbonkedecfjmdaaZ2
import Derived.Test.YtbonkedecfjmdaaZ3
import Derived.Test.YtbonkedecfjmdaaZ20

namespace Go.Proofs.Ytbonkedecfjmdaa.P
open Go.RowKit Go.Proofs.YtbonkedecfjmdaaW.PrintWords Go.Proofs.YtbonkedecfjmdaaW.PrintLast Go.Proofs.YtbonkedecfjmdaaW.PrintMore Go.Proofs.Ytbonkedecfjmdaa.X
attribute [local go_sem] max2_int min2_int max_two min_two max_three min_three max_four min_four add64_0 add64_1 add64
set_option linter.unusedVariables false
set_option linter.unusedSimpArgs false
attribute [local go_sem high] eqA27
mutual
def ring_Points.l0 : Nat → List (List (S27)) → List Int → Int → Int → List (List (S27)) → List (List Int) → List (List Int) → Option ((List (S27)) × Int)
 | 0, _, _, _, _, _, _, _ => none
 | k + 1, x6, x16, x17, x18, x496000, x496001, x496002 => if x18 < x17 then (if 0 ≤ x18 then (if x18 < (x16.length : Int) then ((ring_Arc.f k x496000 x496001 x496002 (rd x16 x18)).bind fun bt497 => (if bt497.2 = 0 then (if (bt497.1.length : Int) = 0 then (some (([] : List (S27)), 2)) else (if x6.length < 5864062014805 then (ring_Points.l0 k (x6 ++ [bt497.1]) x16 x17 (wrap64 (x18 + 1)) x496000 x496001 x496002) else (none))) else (some (([] : List (S27)), 2)))) else (none)) else (none)) else (ring_Points.l1 k x6 ([] : List (S27)) (decide ((x6.length : Int) > 0)) x6 (x6.length : Int) 0)
def ring_Points.l1 : Nat → List (List (S27)) → List (S27) → Bool → List (List (S27)) → Int → Int → Option ((List (S27)) × Int)
 | 0, _, _, _, _, _, _ => none
 | k + 1, x6, x11, x12, x43, x44, x45 => if x45 < x44 then (if 0 ≤ x45 then (if x45 < (x43.length : Int) then (if (x6.length : Int) = 0 then (none) else (if 0 ≤ (Int.tmod (wrap64 ((wrap64 (x45 + (x6.length : Int))) - 1)) (x6.length : Int)) then (if (Int.tmod (wrap64 ((wrap64 (x45 + (x6.length : Int))) - 1)) (x6.length : Int)) < (x6.length : Int) then (if 0 ≤ (wrap64 (((rd_L2 x6 (Int.tmod (wrap64 ((wrap64 (x45 + (x6.length : Int))) - 1)) (x6.length : Int))).length : Int) - 1)) then (if (wrap64 (((rd_L2 x6 (Int.tmod (wrap64 ((wrap64 (x45 + (x6.length : Int))) - 1)) (x6.length : Int))).length : Int) - 1)) < ((rd_L2 x6 (Int.tmod (wrap64 ((wrap64 (x45 + (x6.length : Int))) - 1)) (x6.length : Int))).length : Int) then (if 0 < ((rd_L2 x43 x45).length : Int) then (if ((((rd_T27 (rd_L2 x6 (Int.tmod (wrap64 ((wrap64 (x45 + (x6.length : Int))) - 1)) (x6.length : Int))) (wrap64 (((rd_L2 x6 (Int.tmod (wrap64 ((wrap64 (x45 + (x6.length : Int))) - 1)) (x6.length : Int))).length : Int) - 1))).f0) == ((rd_T27 (rd_L2 x43 x45) 0).f0) && (((rd_T27 (rd_L2 x6 (Int.tmod (wrap64 ((wrap64 (x45 + (x6.length : Int))) - 1)) (x6.length : Int))) (wrap64 (((rd_L2 x6 (Int.tmod (wrap64 ((wrap64 (x45 + (x6.length : Int))) - 1)) (x6.length : Int))).length : Int) - 1))).f1) == ((rd_T27 (rd_L2 x43 x45) 0).f1) && (((rd_T27 (rd_L2 x6 (Int.tmod (wrap64 ((wrap64 (x45 + (x6.length : Int))) - 1)) (x6.length : Int))) (wrap64 (((rd_L2 x6 (Int.tmod (wrap64 ((wrap64 (x45 + (x6.length : Int))) - 1)) (x6.length : Int))).length : Int) - 1))).f2) == ((rd_T27 (rd_L2 x43 x45) 0).f2)))) = true) then (if 0 ≤ (wrap64 (((rd_L2 x43 x45).length : Int) - 1)) then (if (wrap64 (((rd_L2 x43 x45).length : Int) - 1)) ≤ ((rd_L2 x43 x45).length : Int) then ((some ((rd_L2 x43 x45).take ((wrap64 (((rd_L2 x43 x45).length : Int) - 1)) : Int).toNat : List (S27))).bind fun y508 => (if x11.length + y508.length < 5864062014805 then (ring_Points.l1 k x6 (x11 ++ y508) (((rd_T27 (rd_L2 x6 (Int.tmod (wrap64 ((wrap64 (x45 + (x6.length : Int))) - 1)) (x6.length : Int))) (wrap64 (((rd_L2 x6 (Int.tmod (wrap64 ((wrap64 (x45 + (x6.length : Int))) - 1)) (x6.length : Int))).length : Int) - 1))).f0) == ((rd_T27 (rd_L2 x43 x45) 0).f0) && (((rd_T27 (rd_L2 x6 (Int.tmod (wrap64 ((wrap64 (x45 + (x6.length : Int))) - 1)) (x6.length : Int))) (wrap64 (((rd_L2 x6 (Int.tmod (wrap64 ((wrap64 (x45 + (x6.length : Int))) - 1)) (x6.length : Int))).length : Int) - 1))).f1) == ((rd_T27 (rd_L2 x43 x45) 0).f1) && (((rd_T27 (rd_L2 x6 (Int.tmod (wrap64 ((wrap64 (x45 + (x6.length : Int))) - 1)) (x6.length : Int))) (wrap64 (((rd_L2 x6 (Int.tmod (wrap64 ((wrap64 (x45 + (x6.length : Int))) - 1)) (x6.length : Int))).length : Int) - 1))).f2) == ((rd_T27 (rd_L2 x43 x45) 0).f2)))) x43 x44 (wrap64 (x45 + 1))) else (none))) else (none)) else (none)) else (some (([] : List (S27)), 90))) else (none)) else (none)) else (none)) else (none)) else (none))) else (none)) else (none)) else (if x12 = true then (some (x11, 0)) else (some (([] : List (S27)), 90)))
end
def ring_Points.f (k : Nat) (l0_0 : List (List (S27))) (l0_1 : List (List Int)) (l0_2 : List (List Int)) (l1 : List Int) : Option ((List (S27)) × Int) := ring_Points.l0 k ([] : List (List (S27))) l1 (l1.length : Int) 0 l0_0 l0_1 l0_2
theorem ring_Points.mono_l : ∀ k, (∀ y0 y1 y2 y3 y4 y5 y6, LeO (ring_Points.l0 k y0 y1 y2 y3 y4 y5 y6) (ring_Points.l0 (k + 1) y0 y1 y2 y3 y4 y5 y6)) ∧ (∀ y0 y1 y2 y3 y4 y5, LeO (ring_Points.l1 k y0 y1 y2 y3 y4 y5) (ring_Points.l1 (k + 1) y0 y1 y2 y3 y4 y5))
 | 0 => ⟨fun _ _ _ _ _ _ _ r h => by simp [ring_Points.l0] at h, fun _ _ _ _ _ _ r h => by simp [ring_Points.l1] at h⟩
 | k + 1 => by
  obtain ⟨ih0, ih1⟩ := ring_Points.mono_l k
  refine ⟨?_, ?_⟩
  all_goals
   intros
   first | unfold ring_Points.l0 | unfold ring_Points.l1
   repeat' with_reducible first | exact ih0 _ _ _ _ _ _ _ | exact ih1 _ _ _ _ _ _ | exact ring_Arc.mono _ _ _ _ _ | exact LeO.refl _ | exact LeO.none _ | refine LeO.ite ?_ ?_ | refine LeO.bind ?_ (fun _ => ?_)
theorem ring_Points.mono : ∀ a0 a1 a2 a3 k, LeO (ring_Points.f k a0 a1 a2 a3) (ring_Points.f (k + 1) a0 a1 a2 a3) := by
 intro a0 a1 a2 a3 k
 obtain ⟨ih0, ih1⟩ := ring_Points.mono_l k
 unfold ring_Points.f
 repeat' first
   | (with_reducible exact ih0 _ _ _ _ _ _ _)
   | (with_reducible exact ih1 _ _ _ _ _ _)
   | (with_reducible exact ring_Arc.mono _ _ _ _ _)
   | (with_reducible exact LeO.refl _)
   | (with_reducible exact LeO.none _)
   | (with_reducible refine LeO.ite ?_ ?_)
   | (with_reducible refine LeO.bind ?_ (fun _ => ?_))
   | exact ih0 _ _ _ _ _ _ _
   | exact ih1 _ _ _ _ _ _
   | exact ring_Arc.mono _ _ _ _ _
   | exact LeO.none _
   | refine LeO.ite ?_ ?_
   | refine LeO.bind ?_ (fun _ => ?_)
set_option maxHeartbeats 8000000 in
set_option maxRecDepth 100000 in
theorem ring_Points.calls (k : Nat) (A0_0 : Option Addr) (c0_0 : Nat) (l0_0 : List (List (S27))) (A0_1 : Option Addr) (c0_1 : Nat) (l0_1 : List (List Int)) (A0_2 : Option Addr) (c0_2 : Nat) (l0_2 : List (List Int)) (A1 : Option Addr) (c1 : Nat) (l1 : List Int) (r1 : List (S27)) (r2 : Int) (w : World) (hr0_0 : Kd.C (Kd.slice 27 k27) w A0_0 l0_0.length l0_0) (hc0_0 : l0_0.length ≤ c0_0) (hr0_1 : Kd.C (Kd.slice 3 (Kd.int .i64)) w A0_1 l0_1.length l0_1) (hc0_1 : l0_1.length ≤ c0_1) (hr0_2 : Kd.C (Kd.slice 3 (Kd.int .i64)) w A0_2 l0_2.length l0_2) (hc0_2 : l0_2.length ≤ c0_2) (hr1 : Kd.C (Kd.int .i64) w A1 l1.length l1) (hc1 : l1.length ≤ c1) (h : ring_Points.f k l0_0 l0_1 l0_2 l1 = some (r1, r2)) :
  Calls Try.prog 58 #[.agg #[.slice A0_0 l0_0.length c0_0, .slice A0_1 l0_1.length c0_1, .slice A0_2 l0_2.length c0_2], .slice A1 l1.length c1] w fun e w' => ∃ v0_ : Value, e = .returned (.tuple #[v0_, .int .i64 r2]) ∧ Kd.R k27 27 w' w.heap.size (fun _ => True) v0_ r1 ∧ Below w.heap.size w w' := by
 have hu25 := Try.underlying25
 have hu27 := Try.underlying27
 have HR0_0 := AM hr0_0
 have HC0_0 := AM hc0_0
 clear hr0_0 hc0_0
 have HR0_1 := AM hr0_1
 have HC0_1 := AM hc0_1
 clear hr0_1 hc0_1
 have HR0_2 := AM hr0_2
 have HC0_2 := AM hc0_2
 clear hr0_2 hc0_2
 have HR1 := AM hr1
 have HC1 := AM hc1
 clear hr1 hc1
 have HB := AM (Below.refl w.heap.size w)
 have H : (ring_Points.l0 k ([] : List (List (S27))) l1 (l1.length : Int) 0 l0_0 l0_1 l0_2) = some (r1, r2) := h
 clear h
 have H' := AM H
 clear H
 go_enter Try.func58, Try.ntmps58
 go_wp2_with (first | go_step3 | ((with_reducible refine gate_dst (N := 2) rfl ?_); (try (refine gate_guard (by rfl) ?_; dsimp only)); refine bE 2 #[.slice A0_0 l0_0.length c0_0, .slice A0_1 l0_1.length c0_1, .slice A0_2 l0_2.length c0_2] 25 ?_; intro gb495 hg w3 hbox hb; have BK495 := AM hbox; have GW495 := kG HB hg; replace HB := kH HB hb; have GE495 := GW495; clear hb hbox hg))
 repeat (go_quiet (first | ((with_reducible refine gate_dst (N := 2) rfl ?_); (try (refine gate_guard (by rfl) ?_; dsimp only)); refine bE 2 #[.slice A0_0 l0_0.length c0_0, .slice A0_1 l0_1.length c0_1, .slice A0_2 l0_2.length c0_2] 25 ?_; intro gb495 hg w3 hbox hb; have BK495 := AM hbox; have GW495 := kG HB hg; replace HB := kH HB hb; have GE495 := GW495; clear hb hbox hg)); try go_wp2_with (first | go_step3 | ((with_reducible refine gate_dst (N := 2) rfl ?_); (try (refine gate_guard (by rfl) ?_; dsimp only)); refine bE 2 #[.slice A0_0 l0_0.length c0_0, .slice A0_1 l0_1.length c0_1, .slice A0_2 l0_2.length c0_2] 25 ?_; intro gb495 hg w3 hbox hb; have BK495 := AM hbox; have GW495 := kG HB hg; replace HB := kH HB hb; have GE495 := GW495; clear hb hbox hg)))
 go_loopg [6, 18] k (fun kq v6 v18 w' => ∃ (x6_1 : List (List (S27))) (x18_1 : Int), v18 = .int .i64 x18_1 ∧ Aside0 (ring_Points.l0 kq x6_1 l1 (l1.length : Int) x18_1 l0_0 l0_1 l0_2 = some (r1, r2)) ∧ Aside0 (kq ≤ k) ∧ Aside0 (Kd.S (Kd.slice 27 k27) 31 w' w.heap.size (fun _ => True) v6 x6_1) ∧ Aside0 (w'.heap[gb495]? = some (.cells #[(.slice A0_0 l0_0.length c0_0), (.slice A0_1 l0_1.length c0_1), (.slice A0_2 l0_2.length c0_2)] 25 (0, 0))) ∧ Aside0 (Below w.heap.size w w'))
 case atStart => exact ⟨(([] : List (List (S27)))), (0), rS, H', ⟨Nat.le_refl _⟩, ⟨by first | exact Kd.S_nil _ _ _ _ _ | exact Kd.N_nil _ _ _ _ _ | exact Kd.V_nil _ _ _ _ _ | exact Kd.Q_nil _ _ _ _ _ | exact Kd.R_nil _ _ _ _ _⟩, ⟨bK BK495⟩, ⟨ bH HB⟩⟩
 case round =>
  clear H'
  (try clear c1); (try clear p2)
  obtain ⟨x6_1, x18_1, rfl, HA, HK1, HO_6, BK495, HB⟩ := hrel
  cases gk with
  | zero => exact absurd HA.out (by simp [ring_Points.l0])
  | succ k1 =>
   have H := HA.out; clear HA
   simp only [ring_Points.l0] at H
   by_cases c4 : x18_1 < (l1.length : Int)
   ·rw [if_pos c4] at H
    have c4b0 := decide_eq_true c4; clear c4
    by_cases c5 : 0 ≤ x18_1
    ·rw [if_pos c5] at H
     have c5b0 := decide_eq_true c5; clear c5
     by_cases c6 : x18_1 < (l1.length : Int)
     ·rw [if_pos c6] at H
      have c6b0 := decide_eq_true c6; clear c6
      obtain ⟨⟨t497, t500⟩, A7, H⟩ := bS H
      try dsimp only at H
      by_cases c8 : t500 = 0
      ·rw [if_pos c8] at H
       have c8b0 : (t500 == 0) = true := beq_iff_eq.mpr c8
       have c8b1 : (t500 != 0) = false := bne_eq_false_iff_eq.mpr c8
       clear c8
       by_cases c9 : (t497.length : Int) = 0
       ·rw [if_pos c9] at H
        have c9b0 : ((t497.length : Int) == 0) = true := beq_iff_eq.mpr c9
        have c9b1 : ((t497.length : Int) != 0) = false := bne_eq_false_iff_eq.mpr c9
        clear c9
        simp only [Option.some.injEq, Prod.mk.injEq] at H
        obtain ⟨rfl, rfl⟩ := H
        have p496 : 0 ≤ (x18_1 : Int) := pD
        have q496 : x18_1 < (l1.length : Int) := pD
        obtain ⟨ad496, e496, hx496_0⟩ := Kd.at_int HR1.out x18_1 p496 q496
        cases e496
        replace hx496_0 := hW HB hx496_0; replace p496 := eq_true p496; replace q496 := eq_true q496; obtain ⟨hcz10_0, hcz10_1, hcz10_2, hfz10_0, hfz10_1, hfz10_2⟩ := c3 BK495
        go_wp2_with (first | go_step3 | (go_at_call 78; (with_reducible refine (ring_Arc.calls k1 _ _ l0_0 _ _ l0_1 _ _ l0_2 (rd l1 x18_1) t497 t500 _ ?side1 ?side2 ?side3 ?side4 ?side5 ?side6 A7.out).mono ?_); (case side1 => exact sC HR0_0 HB); (case side2 => exact HC0_0.out); (case side3 => exact sC HR0_1 HB); (case side4 => exact HC0_1.out); (case side5 => exact sC HR0_2 HB); (case side6 => exact HC0_2.out); rintro e w11 ⟨v498, rfl, ho0, hb⟩; replace HO_6 := AM (Kd.S_elder' (by (with_reducible repeat (first | apply Kd.S_alloc | apply Kd.S_drewN | apply Kd.S_drew)); exact HO_6.out) (Kd.R_base ho0) hb); have HO499 := AM (Kd.R_lower ho0 (below_size (bH HB))); replace BK495 := kB BK495 hb; replace HB := kH HB hb; (try clear hb); (try clear hb2); (try clear hk); (try clear hi); (try clear ho0); obtain ⟨Ao12, co12, eo12⟩ := Kd.R_slice HO499.out; subst eo12))
        repeat (go_quiet (first | (go_at_call 78; (with_reducible refine (ring_Arc.calls k1 _ _ l0_0 _ _ l0_1 _ _ l0_2 (rd l1 x18_1) t497 t500 _ ?side1 ?side2 ?side3 ?side4 ?side5 ?side6 A7.out).mono ?_); (case side1 => exact sC HR0_0 HB); (case side2 => exact HC0_0.out); (case side3 => exact sC HR0_1 HB); (case side4 => exact HC0_1.out); (case side5 => exact sC HR0_2 HB); (case side6 => exact HC0_2.out); rintro e w11 ⟨v498, rfl, ho0, hb⟩; replace HO_6 := AM (Kd.S_elder' (by (with_reducible repeat (first | apply Kd.S_alloc | apply Kd.S_drewN | apply Kd.S_drew)); exact HO_6.out) (Kd.R_base ho0) hb); have HO499 := AM (Kd.R_lower ho0 (below_size (bH HB))); replace BK495 := kB BK495 hb; replace HB := kH HB hb; (try clear hb); (try clear hb2); (try clear hk); (try clear hi); (try clear ho0); obtain ⟨Ao12, co12, eo12⟩ := Kd.R_slice HO499.out; subst eo12)); try go_wp2_with (first | go_step3 | (go_at_call 78; (with_reducible refine (ring_Arc.calls k1 _ _ l0_0 _ _ l0_1 _ _ l0_2 (rd l1 x18_1) t497 t500 _ ?side1 ?side2 ?side3 ?side4 ?side5 ?side6 A7.out).mono ?_); (case side1 => exact sC HR0_0 HB); (case side2 => exact HC0_0.out); (case side3 => exact sC HR0_1 HB); (case side4 => exact HC0_1.out); (case side5 => exact sC HR0_2 HB); (case side6 => exact HC0_2.out); rintro e w11 ⟨v498, rfl, ho0, hb⟩; replace HO_6 := AM (Kd.S_elder' (by (with_reducible repeat (first | apply Kd.S_alloc | apply Kd.S_drewN | apply Kd.S_drew)); exact HO_6.out) (Kd.R_base ho0) hb); have HO499 := AM (Kd.R_lower ho0 (below_size (bH HB))); replace BK495 := kB BK495 hb; replace HB := kH HB hb; (try clear hb); (try clear hb2); (try clear hk); (try clear hi); (try clear ho0); obtain ⟨Ao12, co12, eo12⟩ := Kd.R_slice HO499.out; subst eo12)))
        (try rw [Exit.noGoto_ret])
        go_ret2
        exact ⟨_, rE, by first | exact Kd.R_nil _ _ _ _ _ | exact Kd.N_nil _ _ _ _ _ | exact Kd.V_nil _ _ _ _ _ | exact Kd.Q_nil _ _ _ _ _ | exact Kd.S_nil _ _ _ _ _, bH HB⟩
       ·rw [if_neg c9] at H
        have c9b0 : ((t497.length : Int) == 0) = false := beq_eq_false_iff_ne.mpr c9
        have c9b1 : ((t497.length : Int) != 0) = true := bne_iff_ne.mpr c9
        have c9b2 : ¬ (t497 = []) := fun h_ => c9 (by rw [h_]; rfl)
        by_cases c13 : x6_1.length < 5864062014805
        ·rw [if_pos c13] at H
         have LMc13 := AM c13
         clear c13
         obtain ⟨y501, hy501⟩ : ∃ y_ : List (List (S27)), y_ = (x6_1 ++ [t497]) := ⟨_, rfl⟩
         replace H : (ring_Points.l0 k1 y501 l1 (l1.length : Int) (wrap64 (x18_1 + 1)) l0_0 l0_1 l0_2) = some (r1, r2) := by first | (rw [hy501]; with_reducible exact H) | (have H2_ := (Option.bind_some _ _).symm.trans H; rw [hy501]; with_reducible exact H2_) | (have H2_ := (Option.bind_some _ _).symm.trans H; with_reducible exact H2_) | with_reducible exact H | (rw [hy501]; exact H) | exact H
         have Ny501 := AM hy501
         clear hy501
         have H' := AM H
         clear H
         have p496 : 0 ≤ (x18_1 : Int) := pD
         have q496 : x18_1 < (l1.length : Int) := pD
         obtain ⟨ad496, e496, hx496_0⟩ := Kd.at_int HR1.out x18_1 p496 q496
         cases e496
         replace hx496_0 := hW HB hx496_0; replace p496 := eq_true p496; replace q496 := eq_true q496; obtain ⟨hcz14_0, hcz14_1, hcz14_2, hfz14_0, hfz14_1, hfz14_2⟩ := c3 BK495
         go_wp2_with (first | go_step3 | (go_at_call 78; (with_reducible refine (ring_Arc.calls k1 _ _ l0_0 _ _ l0_1 _ _ l0_2 (rd l1 x18_1) t497 t500 _ ?side1 ?side2 ?side3 ?side4 ?side5 ?side6 A7.out).mono ?_); (case side1 => exact sC HR0_0 HB); (case side2 => exact HC0_0.out); (case side3 => exact sC HR0_1 HB); (case side4 => exact HC0_1.out); (case side5 => exact sC HR0_2 HB); (case side6 => exact HC0_2.out); rintro e w15 ⟨v498, rfl, ho0, hb⟩; replace HO_6 := AM (Kd.S_elder' (by (with_reducible repeat (first | apply Kd.S_alloc | apply Kd.S_drewN | apply Kd.S_drew)); exact HO_6.out) (Kd.R_base ho0) hb); have HO499 := AM (Kd.R_lower ho0 (below_size (bH HB))); replace BK495 := kB BK495 hb; replace HB := kH HB hb; (try clear hb); (try clear hb2); (try clear hk); (try clear hi); (try clear ho0); obtain ⟨Ao16, co16, eo16⟩ := Kd.R_slice HO499.out; subst eo16) | ((with_reducible refine gate_builtin (b := .append) (xs := #[.tmp 35, .tmp 37]) rfl ?_); (try (refine gate_guard (by rfl) ?_; dsimp only)); at_builtin; refine Kd.S_append (Kd.slice 27 k27) (w0 := w) w.heap.size rfl (.tmp 35) (.tmp 37) 22 31 (.slice none 0 0) 24 rfl Try.underlying22 info31 rfl (by decide) (by omega) u6 x6_1 t497 [.slice Ao16 t497.length co16] (fun _ => True) (fun k_ => some k_ = (.slice Ao16 t497.length co16 : Value).ownBlock) rfl rfl ?aP (fun k_ hk_ => ((Kd.R_mono (ok' := fun k_ => ((fun _ => True)) k_ ∧ some k_ ≠ (u6 : Value).ownBlock) (Kd.R_apart' (HO499.out) (Kd.S_typed HO_6.out) (by decide)) (fun k_ hk => ⟨trivial, hk.2⟩))).1 k_ hk_.symm) ?aF ?aO ?aB ?aS ?aL ?_; (case aP => exact Kd.M_row (Kd.R_mono (Kd.R_tight rfl (Kd.R_mono (ok' := fun k_ => ((fun _ => True)) k_ ∧ some k_ ≠ (u6 : Value).ownBlock) (Kd.R_apart' (HO499.out) (Kd.S_typed HO_6.out) (by decide)) (fun k_ hk => ⟨trivial, hk.2⟩))) (fun _ h_ => h_))); (case aB => exact (bH HB)); (case aF => exact (fun _ _ => trivial)); (case aO => exact (by (with_reducible repeat (first | apply Kd.S_alloc | apply Kd.S_drewN | apply Kd.S_drew)); exact Kd.S_mono HO_6.out (fun k_ hk => ⟨trivial, fun e_ => hk.2 e_⟩))); (case aS => exact (below_size (bH HB))); (case aL => have := LMc13.out; omega); intro v502 w17 ho hb hg hat; rw [← Ny501.out] at ho; replace BK495 := AM (blk_grown (g := gb495) (o := .cells #[.slice A0_0 l0_0.length c0_0, .slice A0_1 l0_1.length c0_1, .slice A0_2 l0_2.length c0_2] 25 (0, 0)) (bK BK495) hg (Kd.S_ne HO_6.out BK495.out (by decide))); replace HB := AM hb; have HO503 := AM ho; clear HO_6 HO499; clear ho hb hg hat))
         repeat (go_quiet (first | (go_at_call 78; (with_reducible refine (ring_Arc.calls k1 _ _ l0_0 _ _ l0_1 _ _ l0_2 (rd l1 x18_1) t497 t500 _ ?side1 ?side2 ?side3 ?side4 ?side5 ?side6 A7.out).mono ?_); (case side1 => exact sC HR0_0 HB); (case side2 => exact HC0_0.out); (case side3 => exact sC HR0_1 HB); (case side4 => exact HC0_1.out); (case side5 => exact sC HR0_2 HB); (case side6 => exact HC0_2.out); rintro e w15 ⟨v498, rfl, ho0, hb⟩; replace HO_6 := AM (Kd.S_elder' (by (with_reducible repeat (first | apply Kd.S_alloc | apply Kd.S_drewN | apply Kd.S_drew)); exact HO_6.out) (Kd.R_base ho0) hb); have HO499 := AM (Kd.R_lower ho0 (below_size (bH HB))); replace BK495 := kB BK495 hb; replace HB := kH HB hb; (try clear hb); (try clear hb2); (try clear hk); (try clear hi); (try clear ho0); obtain ⟨Ao16, co16, eo16⟩ := Kd.R_slice HO499.out; subst eo16) | ((with_reducible refine gate_builtin (b := .append) (xs := #[.tmp 35, .tmp 37]) rfl ?_); (try (refine gate_guard (by rfl) ?_; dsimp only)); at_builtin; refine Kd.S_append (Kd.slice 27 k27) (w0 := w) w.heap.size rfl (.tmp 35) (.tmp 37) 22 31 (.slice none 0 0) 24 rfl Try.underlying22 info31 rfl (by decide) (by omega) u6 x6_1 t497 [.slice Ao16 t497.length co16] (fun _ => True) (fun k_ => some k_ = (.slice Ao16 t497.length co16 : Value).ownBlock) rfl rfl ?aP (fun k_ hk_ => ((Kd.R_mono (ok' := fun k_ => ((fun _ => True)) k_ ∧ some k_ ≠ (u6 : Value).ownBlock) (Kd.R_apart' (HO499.out) (Kd.S_typed HO_6.out) (by decide)) (fun k_ hk => ⟨trivial, hk.2⟩))).1 k_ hk_.symm) ?aF ?aO ?aB ?aS ?aL ?_; (case aP => exact Kd.M_row (Kd.R_mono (Kd.R_tight rfl (Kd.R_mono (ok' := fun k_ => ((fun _ => True)) k_ ∧ some k_ ≠ (u6 : Value).ownBlock) (Kd.R_apart' (HO499.out) (Kd.S_typed HO_6.out) (by decide)) (fun k_ hk => ⟨trivial, hk.2⟩))) (fun _ h_ => h_))); (case aB => exact (bH HB)); (case aF => exact (fun _ _ => trivial)); (case aO => exact (by (with_reducible repeat (first | apply Kd.S_alloc | apply Kd.S_drewN | apply Kd.S_drew)); exact Kd.S_mono HO_6.out (fun k_ hk => ⟨trivial, fun e_ => hk.2 e_⟩))); (case aS => exact (below_size (bH HB))); (case aL => have := LMc13.out; omega); intro v502 w17 ho hb hg hat; rw [← Ny501.out] at ho; replace BK495 := AM (blk_grown (g := gb495) (o := .cells #[.slice A0_0 l0_0.length c0_0, .slice A0_1 l0_1.length c0_1, .slice A0_2 l0_2.length c0_2] 25 (0, 0)) (bK BK495) hg (Kd.S_ne HO_6.out BK495.out (by decide))); replace HB := AM hb; have HO503 := AM ho; clear HO_6 HO499; clear ho hb hg hat)); try go_wp2_with (first | go_step3 | (go_at_call 78; (with_reducible refine (ring_Arc.calls k1 _ _ l0_0 _ _ l0_1 _ _ l0_2 (rd l1 x18_1) t497 t500 _ ?side1 ?side2 ?side3 ?side4 ?side5 ?side6 A7.out).mono ?_); (case side1 => exact sC HR0_0 HB); (case side2 => exact HC0_0.out); (case side3 => exact sC HR0_1 HB); (case side4 => exact HC0_1.out); (case side5 => exact sC HR0_2 HB); (case side6 => exact HC0_2.out); rintro e w15 ⟨v498, rfl, ho0, hb⟩; replace HO_6 := AM (Kd.S_elder' (by (with_reducible repeat (first | apply Kd.S_alloc | apply Kd.S_drewN | apply Kd.S_drew)); exact HO_6.out) (Kd.R_base ho0) hb); have HO499 := AM (Kd.R_lower ho0 (below_size (bH HB))); replace BK495 := kB BK495 hb; replace HB := kH HB hb; (try clear hb); (try clear hb2); (try clear hk); (try clear hi); (try clear ho0); obtain ⟨Ao16, co16, eo16⟩ := Kd.R_slice HO499.out; subst eo16) | ((with_reducible refine gate_builtin (b := .append) (xs := #[.tmp 35, .tmp 37]) rfl ?_); (try (refine gate_guard (by rfl) ?_; dsimp only)); at_builtin; refine Kd.S_append (Kd.slice 27 k27) (w0 := w) w.heap.size rfl (.tmp 35) (.tmp 37) 22 31 (.slice none 0 0) 24 rfl Try.underlying22 info31 rfl (by decide) (by omega) u6 x6_1 t497 [.slice Ao16 t497.length co16] (fun _ => True) (fun k_ => some k_ = (.slice Ao16 t497.length co16 : Value).ownBlock) rfl rfl ?aP (fun k_ hk_ => ((Kd.R_mono (ok' := fun k_ => ((fun _ => True)) k_ ∧ some k_ ≠ (u6 : Value).ownBlock) (Kd.R_apart' (HO499.out) (Kd.S_typed HO_6.out) (by decide)) (fun k_ hk => ⟨trivial, hk.2⟩))).1 k_ hk_.symm) ?aF ?aO ?aB ?aS ?aL ?_; (case aP => exact Kd.M_row (Kd.R_mono (Kd.R_tight rfl (Kd.R_mono (ok' := fun k_ => ((fun _ => True)) k_ ∧ some k_ ≠ (u6 : Value).ownBlock) (Kd.R_apart' (HO499.out) (Kd.S_typed HO_6.out) (by decide)) (fun k_ hk => ⟨trivial, hk.2⟩))) (fun _ h_ => h_))); (case aB => exact (bH HB)); (case aF => exact (fun _ _ => trivial)); (case aO => exact (by (with_reducible repeat (first | apply Kd.S_alloc | apply Kd.S_drewN | apply Kd.S_drew)); exact Kd.S_mono HO_6.out (fun k_ hk => ⟨trivial, fun e_ => hk.2 e_⟩))); (case aS => exact (below_size (bH HB))); (case aL => have := LMc13.out; omega); intro v502 w17 ho hb hg hat; rw [← Ny501.out] at ho; replace BK495 := AM (blk_grown (g := gb495) (o := .cells #[.slice A0_0 l0_0.length c0_0, .slice A0_1 l0_1.length c0_1, .slice A0_2 l0_2.length c0_2] 25 (0, 0)) (bK BK495) hg (Kd.S_ne HO_6.out BK495.out (by decide))); replace HB := AM hb; have HO503 := AM ho; clear HO_6 HO499; clear ho hb hg hat)))
         go_roundg k1
         case measure => have := HK1.out; omega
         case rel => exact ⟨(y501), (wrap64 (x18_1 + 1)), (by first | rfl | exact congrArg Value.bool (Eq.symm (by with_reducible assumption)) | (simp; done) | (simp [*]; done)), H', ⟨by have := HK1.out; omega⟩, ⟨by (with_reducible repeat (first | apply Kd.S_alloc | apply Kd.S_drewN | apply Kd.S_drew)); exact HO503.out⟩, ⟨bK BK495⟩, ⟨ bH HB⟩⟩
        ·rw [if_neg c13] at H
         exact absurd H (by simp)
      ·rw [if_neg c8] at H
       have c8b0 : (t500 == 0) = false := beq_eq_false_iff_ne.mpr c8
       have c8b1 : (t500 != 0) = true := bne_iff_ne.mpr c8
       simp only [Option.some.injEq, Prod.mk.injEq] at H
       obtain ⟨rfl, rfl⟩ := H
       have p496 : 0 ≤ (x18_1 : Int) := pD
       have q496 : x18_1 < (l1.length : Int) := pD
       obtain ⟨ad496, e496, hx496_0⟩ := Kd.at_int HR1.out x18_1 p496 q496
       cases e496
       replace hx496_0 := hW HB hx496_0; replace p496 := eq_true p496; replace q496 := eq_true q496; obtain ⟨hcz18_0, hcz18_1, hcz18_2, hfz18_0, hfz18_1, hfz18_2⟩ := c3 BK495
       go_wp2_with (first | go_step3 | (go_at_call 78; (with_reducible refine (ring_Arc.calls k1 _ _ l0_0 _ _ l0_1 _ _ l0_2 (rd l1 x18_1) t497 t500 _ ?side1 ?side2 ?side3 ?side4 ?side5 ?side6 A7.out).mono ?_); (case side1 => exact sC HR0_0 HB); (case side2 => exact HC0_0.out); (case side3 => exact sC HR0_1 HB); (case side4 => exact HC0_1.out); (case side5 => exact sC HR0_2 HB); (case side6 => exact HC0_2.out); rintro e w19 ⟨v498, rfl, ho0, hb⟩; replace HO_6 := AM (Kd.S_elder' (by (with_reducible repeat (first | apply Kd.S_alloc | apply Kd.S_drewN | apply Kd.S_drew)); exact HO_6.out) (Kd.R_base ho0) hb); have HO499 := AM (Kd.R_lower ho0 (below_size (bH HB))); replace BK495 := kB BK495 hb; replace HB := kH HB hb; (try clear hb); (try clear hb2); (try clear hk); (try clear hi); (try clear ho0)))
       repeat (go_quiet (first | (go_at_call 78; (with_reducible refine (ring_Arc.calls k1 _ _ l0_0 _ _ l0_1 _ _ l0_2 (rd l1 x18_1) t497 t500 _ ?side1 ?side2 ?side3 ?side4 ?side5 ?side6 A7.out).mono ?_); (case side1 => exact sC HR0_0 HB); (case side2 => exact HC0_0.out); (case side3 => exact sC HR0_1 HB); (case side4 => exact HC0_1.out); (case side5 => exact sC HR0_2 HB); (case side6 => exact HC0_2.out); rintro e w19 ⟨v498, rfl, ho0, hb⟩; replace HO_6 := AM (Kd.S_elder' (by (with_reducible repeat (first | apply Kd.S_alloc | apply Kd.S_drewN | apply Kd.S_drew)); exact HO_6.out) (Kd.R_base ho0) hb); have HO499 := AM (Kd.R_lower ho0 (below_size (bH HB))); replace BK495 := kB BK495 hb; replace HB := kH HB hb; (try clear hb); (try clear hb2); (try clear hk); (try clear hi); (try clear ho0))); try go_wp2_with (first | go_step3 | (go_at_call 78; (with_reducible refine (ring_Arc.calls k1 _ _ l0_0 _ _ l0_1 _ _ l0_2 (rd l1 x18_1) t497 t500 _ ?side1 ?side2 ?side3 ?side4 ?side5 ?side6 A7.out).mono ?_); (case side1 => exact sC HR0_0 HB); (case side2 => exact HC0_0.out); (case side3 => exact sC HR0_1 HB); (case side4 => exact HC0_1.out); (case side5 => exact sC HR0_2 HB); (case side6 => exact HC0_2.out); rintro e w19 ⟨v498, rfl, ho0, hb⟩; replace HO_6 := AM (Kd.S_elder' (by (with_reducible repeat (first | apply Kd.S_alloc | apply Kd.S_drewN | apply Kd.S_drew)); exact HO_6.out) (Kd.R_base ho0) hb); have HO499 := AM (Kd.R_lower ho0 (below_size (bH HB))); replace BK495 := kB BK495 hb; replace HB := kH HB hb; (try clear hb); (try clear hb2); (try clear hk); (try clear hi); (try clear ho0))))
       (try rw [Exit.noGoto_ret])
       go_ret2
       exact ⟨_, rE, by first | exact Kd.R_nil _ _ _ _ _ | exact Kd.N_nil _ _ _ _ _ | exact Kd.V_nil _ _ _ _ _ | exact Kd.Q_nil _ _ _ _ _ | exact Kd.S_nil _ _ _ _ _, bH HB⟩
     ·rw [if_neg c6] at H
      exact absurd H (by simp)
    ·rw [if_neg c5] at H
     exact absurd H (by simp)
   ·rw [if_neg c4] at H
    have c4b0 := decide_eq_false c4; clear c4
    have H' := AM H
    clear H
    obtain ⟨Ao20, co20, eo20⟩ := Kd.S_slice HO_6.out
    subst eo20
    go_wp2_with (go_step3)
    repeat (go_quiet (fail); try go_wp2)
    go_loopg [11, 12, 45] k1 (fun kq v11 v12 v45 w' => ∃ (x11_2 : List (S27)) (x12_2 : Bool) (x45_2 : Int), v12 = .bool x12_2 ∧ v45 = .int .i64 x45_2 ∧ Aside0 (ring_Points.l1 kq x6_1 x11_2 x12_2 x6_1 (x6_1.length : Int) x45_2 = some (r1, r2)) ∧ Aside0 (kq ≤ k1) ∧ Aside0 (Kd.S (Kd.slice 27 k27) 31 w' w.heap.size (fun k_ => some k_ ≠ (v11 : Value).ownBlock) (.slice Ao20 x6_1.length co20) x6_1) ∧ Aside0 (Kd.R k27 27 w' w.heap.size (fun _ => True) v11 x11_2) ∧ Aside0 (Kd.S (Kd.slice 27 k27) 31 w' w.heap.size (fun k_ => some k_ ≠ (v11 : Value).ownBlock) (.slice Ao20 x6_1.length co20) x6_1) ∧ Aside0 (w'.heap[gb495]? = some (.cells #[(.slice A0_0 l0_0.length c0_0), (.slice A0_1 l0_1.length c0_1), (.slice A0_2 l0_2.length c0_2)] 25 (0, 0))) ∧ Aside0 (Below w.heap.size w w'))
    case atStart => exact ⟨(([] : List (S27))), (decide ((x6_1.length : Int) > 0)), (0), rS, rS, H', ⟨Nat.le_refl _⟩, ⟨by (with_reducible repeat (first | apply Kd.S_alloc | apply Kd.S_drewN | apply Kd.S_drew)); exact Kd.S_mono HO_6.out (fun _ hk => (by simp [Value.ownBlock]))⟩, ⟨by first | exact Kd.R_nil _ _ _ _ _ | exact Kd.N_nil _ _ _ _ _ | exact Kd.V_nil _ _ _ _ _ | exact Kd.Q_nil _ _ _ _ _ | exact Kd.S_nil _ _ _ _ _⟩, ⟨by (with_reducible repeat (first | apply Kd.S_alloc | apply Kd.S_drewN | apply Kd.S_drew)); exact Kd.S_mono HO_6.out (fun _ hk => (by simp [Value.ownBlock]))⟩, ⟨bK BK495⟩, ⟨ bH HB⟩⟩
    case round =>
     clear H'
     (try clear c1); (try clear p2); (try clear c4); (try clear c4b0); (try clear p4); (try clear q4); (try clear hx4); (try clear c5); (try clear c5b0); (try clear c6); (try clear c6b0); (try clear p6); (try clear c8); (try clear c8b0); (try clear c8b1); (try clear c9); (try clear c9b0); (try clear c9b1); (try clear c9b2); (try clear c13); (try clear hcz10_0); (try clear hcz10_1); (try clear hcz10_2); (try clear hcz14_0); (try clear hcz14_1); (try clear hcz14_2); (try clear hcz18_0); (try clear hcz18_1); (try clear hcz18_2); (try clear hfz10_0); (try clear hfz10_1); (try clear hfz10_2); (try clear hfz14_0); (try clear hfz14_1); (try clear hfz14_2); (try clear hfz18_0); (try clear hfz18_1); (try clear hfz18_2); (try clear hx496_0); (try clear p2); (try clear p496); (try clear q496)
     obtain ⟨x11_2, x12_2, x45_2, rfl, rfl, HA, HK2, HO_6, HO_11, HO_43, BK495, HB⟩ := hrel
     cases gk with
     | zero => exact absurd HA.out (by simp [ring_Points.l1])
     | succ k2 =>
      have H := HA.out; clear HA
      simp only [ring_Points.l1] at H
      by_cases c21 : x45_2 < (x6_1.length : Int)
      ·rw [if_pos c21] at H
       have c21b0 := decide_eq_true c21; clear c21
       by_cases c22 : 0 ≤ x45_2
       ·rw [if_pos c22] at H
        have c22b0 := decide_eq_true c22; clear c22
        by_cases c23 : x45_2 < (x6_1.length : Int)
        ·rw [if_pos c23] at H
         have c23b0 := decide_eq_true c23; clear c23
         by_cases c24 : (x6_1.length : Int) = 0
         ·rw [if_pos c24] at H
          exact absurd H (by simp)
         ·rw [if_neg c24] at H
          have c24b0 : ((x6_1.length : Int) == 0) = false := beq_eq_false_iff_ne.mpr c24
          have c24b1 : ((x6_1.length : Int) != 0) = true := bne_iff_ne.mpr c24
          have c24b2 : ¬ (x6_1 = []) := fun h_ => c24 (by rw [h_]; rfl)
          obtain ⟨ji25, hji25⟩ : ∃ j_ : Int, (Int.tmod (wrap64 ((wrap64 (x45_2 + (x6_1.length : Int))) - 1)) (x6_1.length : Int)) = j_ := ⟨_, rfl⟩
          replace H : (if 0 ≤ (ji25) then (if (ji25) < (x6_1.length : Int) then (if 0 ≤ (wrap64 (((rd_L2 x6_1 (ji25)).length : Int) - 1)) then (if (wrap64 (((rd_L2 x6_1 (ji25)).length : Int) - 1)) < ((rd_L2 x6_1 (ji25)).length : Int) then (if 0 < ((rd_L2 x6_1 x45_2).length : Int) then (if ((((rd_T27 (rd_L2 x6_1 (ji25)) (wrap64 (((rd_L2 x6_1 (ji25)).length : Int) - 1))).f0) == ((rd_T27 (rd_L2 x6_1 x45_2) 0).f0) && (((rd_T27 (rd_L2 x6_1 (ji25)) (wrap64 (((rd_L2 x6_1 (ji25)).length : Int) - 1))).f1) == ((rd_T27 (rd_L2 x6_1 x45_2) 0).f1) && (((rd_T27 (rd_L2 x6_1 (ji25)) (wrap64 (((rd_L2 x6_1 (ji25)).length : Int) - 1))).f2) == ((rd_T27 (rd_L2 x6_1 x45_2) 0).f2)))) = true) then (if 0 ≤ (wrap64 (((rd_L2 x6_1 x45_2).length : Int) - 1)) then (if (wrap64 (((rd_L2 x6_1 x45_2).length : Int) - 1)) ≤ ((rd_L2 x6_1 x45_2).length : Int) then ((some ((rd_L2 x6_1 x45_2).take ((wrap64 (((rd_L2 x6_1 x45_2).length : Int) - 1)) : Int).toNat : List (S27))).bind fun y508 => (if x11_2.length + y508.length < 5864062014805 then (ring_Points.l1 k2 x6_1 (x11_2 ++ y508) (((rd_T27 (rd_L2 x6_1 (ji25)) (wrap64 (((rd_L2 x6_1 (ji25)).length : Int) - 1))).f0) == ((rd_T27 (rd_L2 x6_1 x45_2) 0).f0) && (((rd_T27 (rd_L2 x6_1 (ji25)) (wrap64 (((rd_L2 x6_1 (ji25)).length : Int) - 1))).f1) == ((rd_T27 (rd_L2 x6_1 x45_2) 0).f1) && (((rd_T27 (rd_L2 x6_1 (ji25)) (wrap64 (((rd_L2 x6_1 (ji25)).length : Int) - 1))).f2) == ((rd_T27 (rd_L2 x6_1 x45_2) 0).f2)))) x6_1 (x6_1.length : Int) (wrap64 (x45_2 + 1))) else (none))) else (none)) else (none)) else (some (([] : List (S27)), 90))) else (none)) else (none)) else (none)) else (none)) else (none)) = some (r1, r2) := by first | (rw [hji25] at H; exact H) | (simp only [hji25] at H ⊢; exact H)
          by_cases c26 : 0 ≤ (ji25)
          ·rw [if_pos c26] at H
           have c26b0 := decide_eq_true c26; clear c26
           by_cases c27 : (ji25) < (x6_1.length : Int)
           ·rw [if_pos c27] at H
            have c27b0 := decide_eq_true c27; clear c27
            obtain ⟨ji28, hji28⟩ : ∃ j_ : Int, (wrap64 (((rd_L2 x6_1 (ji25)).length : Int) - 1)) = j_ := ⟨_, rfl⟩
            replace H : (if 0 ≤ (ji28) then (if (ji28) < ((rd_L2 x6_1 (ji25)).length : Int) then (if 0 < ((rd_L2 x6_1 x45_2).length : Int) then (if ((((rd_T27 (rd_L2 x6_1 (ji25)) (ji28)).f0) == ((rd_T27 (rd_L2 x6_1 x45_2) 0).f0) && (((rd_T27 (rd_L2 x6_1 (ji25)) (ji28)).f1) == ((rd_T27 (rd_L2 x6_1 x45_2) 0).f1) && (((rd_T27 (rd_L2 x6_1 (ji25)) (ji28)).f2) == ((rd_T27 (rd_L2 x6_1 x45_2) 0).f2)))) = true) then (if 0 ≤ (wrap64 (((rd_L2 x6_1 x45_2).length : Int) - 1)) then (if (wrap64 (((rd_L2 x6_1 x45_2).length : Int) - 1)) ≤ ((rd_L2 x6_1 x45_2).length : Int) then ((some ((rd_L2 x6_1 x45_2).take ((wrap64 (((rd_L2 x6_1 x45_2).length : Int) - 1)) : Int).toNat : List (S27))).bind fun y508 => (if x11_2.length + y508.length < 5864062014805 then (ring_Points.l1 k2 x6_1 (x11_2 ++ y508) (((rd_T27 (rd_L2 x6_1 (ji25)) (ji28)).f0) == ((rd_T27 (rd_L2 x6_1 x45_2) 0).f0) && (((rd_T27 (rd_L2 x6_1 (ji25)) (ji28)).f1) == ((rd_T27 (rd_L2 x6_1 x45_2) 0).f1) && (((rd_T27 (rd_L2 x6_1 (ji25)) (ji28)).f2) == ((rd_T27 (rd_L2 x6_1 x45_2) 0).f2)))) x6_1 (x6_1.length : Int) (wrap64 (x45_2 + 1))) else (none))) else (none)) else (none)) else (some (([] : List (S27)), 90))) else (none)) else (none)) else (none)) = some (r1, r2) := by first | (rw [hji28] at H; exact H) | (simp only [hji28] at H ⊢; exact H)
            have hji28w : (IntKind.i64.wrap (((rd_L2 x6_1 (ji25)).length : Int) - 1)) = ji28 := (i64_w _).trans hji28
            by_cases c29 : 0 ≤ (ji28)
            ·rw [if_pos c29] at H
             have c29b0 := decide_eq_true c29; clear c29
             by_cases c30 : (ji28) < ((rd_L2 x6_1 (ji25)).length : Int)
             ·rw [if_pos c30] at H
              have c30b0 := decide_eq_true c30; clear c30
              by_cases c31 : 0 < ((rd_L2 x6_1 x45_2).length : Int)
              ·rw [if_pos c31] at H
               have c31b0 := decide_eq_true c31
               have c31b1 : decide (0 < (rd_L2 x6_1 x45_2).length) = true := decide_eq_true (by omega)
               clear c31
               by_cases c32 : ((((rd_T27 (rd_L2 x6_1 (ji25)) (ji28)).f0) == ((rd_T27 (rd_L2 x6_1 x45_2) 0).f0) && (((rd_T27 (rd_L2 x6_1 (ji25)) (ji28)).f1) == ((rd_T27 (rd_L2 x6_1 x45_2) 0).f1) && (((rd_T27 (rd_L2 x6_1 (ji25)) (ji28)).f2) == ((rd_T27 (rd_L2 x6_1 x45_2) 0).f2)))) = true)
               ·rw [if_pos c32] at H
                have c32b0 : (((rd_T27 (rd_L2 x6_1 (ji25)) (ji28)).f0) == ((rd_T27 (rd_L2 x6_1 x45_2) 0).f0) && (((rd_T27 (rd_L2 x6_1 (ji25)) (ji28)).f1) == ((rd_T27 (rd_L2 x6_1 x45_2) 0).f1) && (((rd_T27 (rd_L2 x6_1 (ji25)) (ji28)).f2) == ((rd_T27 (rd_L2 x6_1 x45_2) 0).f2)))) = true := c32
                (try (have c32b1 : decide (((rd_T27 (rd_L2 x6_1 (ji25)) (ji28)).f0) = ((rd_T27 (rd_L2 x6_1 x45_2) 0).f0) && (((rd_T27 (rd_L2 x6_1 (ji25)) (ji28)).f1) == ((rd_T27 (rd_L2 x6_1 x45_2) 0).f1) && (((rd_T27 (rd_L2 x6_1 (ji25)) (ji28)).f2) == ((rd_T27 (rd_L2 x6_1 x45_2) 0).f2)))) = true := by simpa using c32))
                (try (have c32b2 : (((rd_T27 (rd_L2 x6_1 (ji25)) (ji28)).f0) == ((rd_T27 (rd_L2 x6_1 x45_2) 0).f0) && (((rd_T27 (rd_L2 x6_1 (ji25)) (ji28)).f1) == ((rd_T27 (rd_L2 x6_1 x45_2) 0).f1) && (((rd_T27 (rd_L2 x6_1 (ji25)) (ji28)).f2) == ((rd_T27 (rd_L2 x6_1 x45_2) 0).f2)))) = true := by simpa using c32))
                clear c32
                obtain ⟨ji33, hji33⟩ : ∃ j_ : Int, (wrap64 (((rd_L2 x6_1 x45_2).length : Int) - 1)) = j_ := ⟨_, rfl⟩
                replace H : (if 0 ≤ (ji33) then (if (ji33) ≤ ((rd_L2 x6_1 x45_2).length : Int) then ((some ((rd_L2 x6_1 x45_2).take ((ji33) : Int).toNat : List (S27))).bind fun y508 => (if x11_2.length + y508.length < 5864062014805 then (ring_Points.l1 k2 x6_1 (x11_2 ++ y508) (((rd_T27 (rd_L2 x6_1 (ji25)) (ji28)).f0) == ((rd_T27 (rd_L2 x6_1 x45_2) 0).f0) && (((rd_T27 (rd_L2 x6_1 (ji25)) (ji28)).f1) == ((rd_T27 (rd_L2 x6_1 x45_2) 0).f1) && (((rd_T27 (rd_L2 x6_1 (ji25)) (ji28)).f2) == ((rd_T27 (rd_L2 x6_1 x45_2) 0).f2)))) x6_1 (x6_1.length : Int) (wrap64 (x45_2 + 1))) else (none))) else (none)) else (none)) = some (r1, r2) := by first | (rw [hji33] at H; exact H) | (simp only [hji33] at H ⊢; exact H)
                have hji33w : (IntKind.i64.wrap (((rd_L2 x6_1 x45_2).length : Int) - 1)) = ji33 := (i64_w _).trans hji33
                by_cases c34 : 0 ≤ (ji33)
                ·rw [if_pos c34] at H
                 have c34b0 := eq_true c34; have c34b1 := decide_eq_true c34; clear c34
                 by_cases c35 : (ji33) ≤ ((rd_L2 x6_1 x45_2).length : Int)
                 ·rw [if_pos c35] at H
                  have c35b0 := eq_true c35; have c35b1 := decide_eq_true c35; clear c35
                  obtain ⟨y508, hy508⟩ : ∃ y_ : List (S27), y_ = ((rd_L2 x6_1 x45_2).take ((ji33) : Int).toNat) := ⟨_, rfl⟩
                  replace H : (if x11_2.length + y508.length < 5864062014805 then (ring_Points.l1 k2 x6_1 (x11_2 ++ y508) (((rd_T27 (rd_L2 x6_1 (ji25)) (ji28)).f0) == ((rd_T27 (rd_L2 x6_1 x45_2) 0).f0) && (((rd_T27 (rd_L2 x6_1 (ji25)) (ji28)).f1) == ((rd_T27 (rd_L2 x6_1 x45_2) 0).f1) && (((rd_T27 (rd_L2 x6_1 (ji25)) (ji28)).f2) == ((rd_T27 (rd_L2 x6_1 x45_2) 0).f2)))) x6_1 (x6_1.length : Int) (wrap64 (x45_2 + 1))) else (none)) = some (r1, r2) := by first | (rw [hy508]; with_reducible exact H) | (have H2_ := (Option.bind_some _ _).symm.trans H; rw [hy508]; with_reducible exact H2_) | (have H2_ := (Option.bind_some _ _).symm.trans H; with_reducible exact H2_) | with_reducible exact H | (rw [hy508]; exact H) | exact H
                  have Ny508 := AM hy508
                  clear hy508
                  by_cases c36 : x11_2.length + y508.length < 5864062014805
                  ·rw [if_pos c36] at H
                   have LMc36 := AM c36
                   clear c36
                   obtain ⟨y512, hy512⟩ : ∃ y_ : List (S27), y_ = (x11_2 ++ y508) := ⟨_, rfl⟩
                   replace H : (ring_Points.l1 k2 x6_1 y512 (((rd_T27 (rd_L2 x6_1 (ji25)) (ji28)).f0) == ((rd_T27 (rd_L2 x6_1 x45_2) 0).f0) && (((rd_T27 (rd_L2 x6_1 (ji25)) (ji28)).f1) == ((rd_T27 (rd_L2 x6_1 x45_2) 0).f1) && (((rd_T27 (rd_L2 x6_1 (ji25)) (ji28)).f2) == ((rd_T27 (rd_L2 x6_1 x45_2) 0).f2)))) x6_1 (x6_1.length : Int) (wrap64 (x45_2 + 1))) = some (r1, r2) := by first | (rw [hy512]; with_reducible exact H) | (have H2_ := (Option.bind_some _ _).symm.trans H; rw [hy512]; with_reducible exact H2_) | (have H2_ := (Option.bind_some _ _).symm.trans H; with_reducible exact H2_) | with_reducible exact H | (rw [hy512]; exact H) | exact H
                   have Ny512 := AM hy512
                   clear hy512
                   have H' := AM H
                   clear H
                   have p504 : 0 ≤ (x45_2 : Int) := pD
                   have q504 : x45_2 < (x6_1.length : Int) := pD
                   obtain ⟨ad504, A504_0, c504_0, e504, hx504_0, hl504_0, hi504_0⟩ := at_L2 (Kd.S_reads' HO_43.out).2.2 x45_2 p504 q504
                   cases e504
                   obtain ⟨ce504, hce504, hMe504, hcc504⟩ := Kd.S_get HO_43.out [] x45_2 p504 (by first | exact q504 | exact pD | (have e_ := (Kd.S_reads' HO_43.out).1; omega))
                   obtain ⟨ve504_0, rfl, ge504_0⟩ := hMe504
                   have hv504_0 := hcc504 0 _ rfl
                   rw [Nat.add_zero, show ((Kd.slice 27 k27)).sz = 1 from rfl, Nat.mul_one] at hv504_0
                   replace hv504_0 := Option.some.inj (hv504_0.symm.trans hx504_0)
                   rw [hv504_0] at ge504_0
                   have HL504_0 := AM (show Kd.R k27 27 _ _ _ _ (rd_L2 x6_1 x45_2) from ge504_0)
                   clear hv504_0 ge504_0; clear hcc504 hce504
                   have HR504_0 := AM hi504_0
                   have HC504_0 := AM hl504_0
                   clear hi504_0 hl504_0; replace p504 := eq_true p504; replace q504 := eq_true q504
                   have p505 : 0 ≤ ((ji25) : Int) := pD
                   have q505 : (ji25) < (x6_1.length : Int) := pD
                   obtain ⟨ad505, A505_0, c505_0, e505, hx505_0, hl505_0, hi505_0⟩ := at_L2 (Kd.S_reads' HO_6.out).2.2 (ji25) p505 q505
                   obtain rfl : ad504 = ad505 := (by injection e505)
                   obtain ⟨ce505, hce505, hMe505, hcc505⟩ := Kd.S_get HO_6.out [] (ji25) p505 (by first | exact q505 | exact pD | (have e_ := (Kd.S_reads' HO_6.out).1; omega))
                   obtain ⟨ve505_0, rfl, ge505_0⟩ := hMe505
                   have hv505_0 := hcc505 0 _ rfl
                   rw [Nat.add_zero, show ((Kd.slice 27 k27)).sz = 1 from rfl, Nat.mul_one] at hv505_0
                   replace hv505_0 := Option.some.inj (hv505_0.symm.trans hx505_0)
                   rw [hv505_0] at ge505_0
                   have HL505_0 := AM (show Kd.R k27 27 _ _ _ _ (rd_L2 x6_1 (ji25)) from ge505_0)
                   clear hv505_0 ge505_0; clear hcc505 hce505
                   have HR505_0 := AM hi505_0
                   have HC505_0 := AM hl505_0
                   clear hi505_0 hl505_0; replace p505 := eq_true p505; replace q505 := eq_true q505
                   have p506 : 0 ≤ ((ji28) : Int) := pD
                   have q506 : (ji28) < ((rd_L2 x6_1 (ji25)).length : Int) := pD
                   obtain ⟨ad506, e506, hx506_0, hx506_1, hx506_2⟩ := at_T27 (by repeat (first | (with_reducible exact HR505_0.out) | (with_reducible refine Kd.C_alloc ?_ _) | (with_reducible refine Kd.C_drewN ?_ _) | (with_reducible refine Kd.C_drew ?_) | exact HR505_0.out)) (ji28) p506 q506
                   cases e506
                   replace p506 := eq_true p506; replace q506 := eq_true q506
                   have p507 : 0 ≤ (0 : Int) := (by omega)
                   have q507 : 0 < ((rd_L2 x6_1 x45_2).length : Int) := pD
                   obtain ⟨ad507, e507, hx507_0, hx507_1, hx507_2⟩ := at_T27 (by repeat (first | (with_reducible exact HR504_0.out) | (with_reducible refine Kd.C_alloc ?_ _) | (with_reducible refine Kd.C_drewN ?_ _) | (with_reducible refine Kd.C_drew ?_) | exact HR504_0.out)) 0 p507 q507
                   cases e507
                   have qi507 : (0 < (rd_L2 x6_1 x45_2).length) = True := eq_true (by omega)
                   (try rw [show ((0 : Int)).toNat = 0 from rfl] at hx507_0)
                   (try rw [show 0 * 3 = 0 from rfl] at hx507_0)
                   (try rw [Addr.add_zero'] at hx507_0)
                   (try rw [show ((0 : Int)).toNat = 0 from rfl] at hx507_1)
                   (try rw [show 0 * 3 = 0 from rfl] at hx507_1)
                   (try rw [Addr.add_zero'] at hx507_1)
                   (try rw [show ((0 : Int)).toNat = 0 from rfl] at hx507_2)
                   (try rw [show 0 * 3 = 0 from rfl] at hx507_2)
                   (try rw [Addr.add_zero'] at hx507_2)
                   replace p507 := eq_true p507; replace q507 := eq_true q507
                   have q37 : ((ji33) : Int) ≤ (((rd_L2 x6_1 x45_2).length : Int) : Int) := pD
                   obtain ⟨i037, hi037, _, hsz37, _⟩ := info_parts info27
                   have hroom37 : (rd_L2 x6_1 x45_2).length ≤ c504_0 := HC504_0.out
                   have hC37 : Kd.C k27 _ (some ad507) (rd_L2 x6_1 x45_2).length (rd_L2 x6_1 x45_2) := (by repeat (first | (with_reducible exact HR504_0.out) | (with_reducible refine Kd.C_alloc ?_ _) | (with_reducible refine Kd.C_drewN ?_ _) | (with_reducible refine Kd.C_drew ?_) | exact HR504_0.out))
                   have hcut37 := cut_to (P := Try.prog) 31 27 .i64 Try.underlying31 hi037 (some ad507) (rd_L2 x6_1 x45_2).length c504_0 (ji33) (pD) q37 hroom37
                   have hr37 := Kd.C_take (m := ((ji33) : Int).toNat) hC37 (by omega)
                   have hy37 : y508.length = ((ji33) : Int).toNat := (by rw [Ny508.out, List.length_take]; omega)
                   rw [← Ny508.out] at hr37
                   rw [← hy37] at hcut37
                   have HR511 := AM hr37
                   have HC511 := AM (show y508.length ≤ c504_0 from by omega)
                   clear hr37 hC37 hroom37 hi037 hsz37
                   have KY37 := AM hy37
                   clear hy37; replace q37 := eq_true q37
                   go_wp2_with (first | go_step3 | ((with_reducible refine gate_builtin (b := .append) (xs := #[.tmp 73, .tmp 78]) rfl ?_); (try (refine gate_guard (by rfl) ?_; dsimp only)); at_builtin; refine Kd.R_append_rows k27 (w0 := w) w.heap.size rfl (.tmp 73) (.tmp 78) 31 27 (.agg #[(.int .i64 0), (.int .i64 0), (.int .i64 0)]) 24 rfl Try.underlying31 info27 rfl (by decide) (by omega) u11 x11_2 y508 _ _ _ (fun _ => True) (fun _ => False) rfl rfl ?aO ?aR (fun _ _ h => h) (fun _ h => h.elim) ?aF ?aB ?aS ?aL ?_; (case aR => repeat (first | exact (by repeat (first | (with_reducible exact HR511.out) | (with_reducible refine Kd.C_alloc ?_ _) | (with_reducible refine Kd.C_drewN ?_ _) | (with_reducible refine Kd.C_drew ?_) | exact HR511.out)) | (with_reducible refine Kd.C_alloc ?_ _) | (with_reducible refine Kd.C_drewN ?_ _) | (with_reducible refine Kd.C_drew ?_))); (case aB => exact (bH HB)); (case aF => exact (fun _ _ => trivial)); (case aO => exact (rK HO_11)); (case aS => exact (below_size (bH HB))); (case aL => have := LMc36.out; omega); intro v513 w38 ho hb hg hat; rw [← Ny512.out] at ho; replace HO_6 := AM (Kd.S_after (ok := (fun _ => True)) (by (with_reducible repeat (first | apply Kd.S_alloc | apply Kd.S_drewN | apply Kd.S_drew)); exact Kd.S_mono HO_6.out (fun _ hk => ⟨trivial, hk⟩)) hg hat); replace HO_43 := AM (Kd.S_after (ok := (fun _ => True)) (by (with_reducible repeat (first | apply Kd.S_alloc | apply Kd.S_drewN | apply Kd.S_drew)); exact Kd.S_mono HO_43.out (fun _ hk => ⟨trivial, hk⟩)) hg hat); replace BK495 := AM (blk_grown (g := gb495) (o := .cells #[.slice A0_0 l0_0.length c0_0, .slice A0_1 l0_1.length c0_1, .slice A0_2 l0_2.length c0_2] 25 (0, 0)) (bK BK495) hg (Kd.R_ne HO_11.out BK495.out (by decide))); replace HL504_0 := AM (Kd.R_after (ok := (fun k_ => some k_ ≠ (.slice (some ad504) x6_1.length co20 : Value).ownBlock)) (by (with_reducible repeat (first | apply Kd.R_alloc | apply Kd.R_drewN | apply Kd.R_drew)); exact Kd.R_mono HL504_0.out (fun _ hk => ⟨hk.2, hk.1⟩)) hg hat); replace HL505_0 := AM (Kd.R_after (ok := (fun k_ => some k_ ≠ (.slice (some ad504) x6_1.length co20 : Value).ownBlock)) (by (with_reducible repeat (first | apply Kd.R_alloc | apply Kd.R_drewN | apply Kd.R_drew)); exact Kd.R_mono HL505_0.out (fun _ hk => ⟨hk.2, hk.1⟩)) hg hat); replace HB := AM hb; have HO514 := AM ho; clear HO_11; clear ho hb hg hat))
                   repeat (go_quiet (first | ((with_reducible refine gate_builtin (b := .append) (xs := #[.tmp 73, .tmp 78]) rfl ?_); (try (refine gate_guard (by rfl) ?_; dsimp only)); at_builtin; refine Kd.R_append_rows k27 (w0 := w) w.heap.size rfl (.tmp 73) (.tmp 78) 31 27 (.agg #[(.int .i64 0), (.int .i64 0), (.int .i64 0)]) 24 rfl Try.underlying31 info27 rfl (by decide) (by omega) u11 x11_2 y508 _ _ _ (fun _ => True) (fun _ => False) rfl rfl ?aO ?aR (fun _ _ h => h) (fun _ h => h.elim) ?aF ?aB ?aS ?aL ?_; (case aR => repeat (first | exact (by repeat (first | (with_reducible exact HR511.out) | (with_reducible refine Kd.C_alloc ?_ _) | (with_reducible refine Kd.C_drewN ?_ _) | (with_reducible refine Kd.C_drew ?_) | exact HR511.out)) | (with_reducible refine Kd.C_alloc ?_ _) | (with_reducible refine Kd.C_drewN ?_ _) | (with_reducible refine Kd.C_drew ?_))); (case aB => exact (bH HB)); (case aF => exact (fun _ _ => trivial)); (case aO => exact (rK HO_11)); (case aS => exact (below_size (bH HB))); (case aL => have := LMc36.out; omega); intro v513 w38 ho hb hg hat; rw [← Ny512.out] at ho; replace HO_6 := AM (Kd.S_after (ok := (fun _ => True)) (by (with_reducible repeat (first | apply Kd.S_alloc | apply Kd.S_drewN | apply Kd.S_drew)); exact Kd.S_mono HO_6.out (fun _ hk => ⟨trivial, hk⟩)) hg hat); replace HO_43 := AM (Kd.S_after (ok := (fun _ => True)) (by (with_reducible repeat (first | apply Kd.S_alloc | apply Kd.S_drewN | apply Kd.S_drew)); exact Kd.S_mono HO_43.out (fun _ hk => ⟨trivial, hk⟩)) hg hat); replace BK495 := AM (blk_grown (g := gb495) (o := .cells #[.slice A0_0 l0_0.length c0_0, .slice A0_1 l0_1.length c0_1, .slice A0_2 l0_2.length c0_2] 25 (0, 0)) (bK BK495) hg (Kd.R_ne HO_11.out BK495.out (by decide))); replace HL504_0 := AM (Kd.R_after (ok := (fun k_ => some k_ ≠ (.slice (some ad504) x6_1.length co20 : Value).ownBlock)) (by (with_reducible repeat (first | apply Kd.R_alloc | apply Kd.R_drewN | apply Kd.R_drew)); exact Kd.R_mono HL504_0.out (fun _ hk => ⟨hk.2, hk.1⟩)) hg hat); replace HL505_0 := AM (Kd.R_after (ok := (fun k_ => some k_ ≠ (.slice (some ad504) x6_1.length co20 : Value).ownBlock)) (by (with_reducible repeat (first | apply Kd.R_alloc | apply Kd.R_drewN | apply Kd.R_drew)); exact Kd.R_mono HL505_0.out (fun _ hk => ⟨hk.2, hk.1⟩)) hg hat); replace HB := AM hb; have HO514 := AM ho; clear HO_11; clear ho hb hg hat)); try go_wp2_with (first | go_step3 | ((with_reducible refine gate_builtin (b := .append) (xs := #[.tmp 73, .tmp 78]) rfl ?_); (try (refine gate_guard (by rfl) ?_; dsimp only)); at_builtin; refine Kd.R_append_rows k27 (w0 := w) w.heap.size rfl (.tmp 73) (.tmp 78) 31 27 (.agg #[(.int .i64 0), (.int .i64 0), (.int .i64 0)]) 24 rfl Try.underlying31 info27 rfl (by decide) (by omega) u11 x11_2 y508 _ _ _ (fun _ => True) (fun _ => False) rfl rfl ?aO ?aR (fun _ _ h => h) (fun _ h => h.elim) ?aF ?aB ?aS ?aL ?_; (case aR => repeat (first | exact (by repeat (first | (with_reducible exact HR511.out) | (with_reducible refine Kd.C_alloc ?_ _) | (with_reducible refine Kd.C_drewN ?_ _) | (with_reducible refine Kd.C_drew ?_) | exact HR511.out)) | (with_reducible refine Kd.C_alloc ?_ _) | (with_reducible refine Kd.C_drewN ?_ _) | (with_reducible refine Kd.C_drew ?_))); (case aB => exact (bH HB)); (case aF => exact (fun _ _ => trivial)); (case aO => exact (rK HO_11)); (case aS => exact (below_size (bH HB))); (case aL => have := LMc36.out; omega); intro v513 w38 ho hb hg hat; rw [← Ny512.out] at ho; replace HO_6 := AM (Kd.S_after (ok := (fun _ => True)) (by (with_reducible repeat (first | apply Kd.S_alloc | apply Kd.S_drewN | apply Kd.S_drew)); exact Kd.S_mono HO_6.out (fun _ hk => ⟨trivial, hk⟩)) hg hat); replace HO_43 := AM (Kd.S_after (ok := (fun _ => True)) (by (with_reducible repeat (first | apply Kd.S_alloc | apply Kd.S_drewN | apply Kd.S_drew)); exact Kd.S_mono HO_43.out (fun _ hk => ⟨trivial, hk⟩)) hg hat); replace BK495 := AM (blk_grown (g := gb495) (o := .cells #[.slice A0_0 l0_0.length c0_0, .slice A0_1 l0_1.length c0_1, .slice A0_2 l0_2.length c0_2] 25 (0, 0)) (bK BK495) hg (Kd.R_ne HO_11.out BK495.out (by decide))); replace HL504_0 := AM (Kd.R_after (ok := (fun k_ => some k_ ≠ (.slice (some ad504) x6_1.length co20 : Value).ownBlock)) (by (with_reducible repeat (first | apply Kd.R_alloc | apply Kd.R_drewN | apply Kd.R_drew)); exact Kd.R_mono HL504_0.out (fun _ hk => ⟨hk.2, hk.1⟩)) hg hat); replace HL505_0 := AM (Kd.R_after (ok := (fun k_ => some k_ ≠ (.slice (some ad504) x6_1.length co20 : Value).ownBlock)) (by (with_reducible repeat (first | apply Kd.R_alloc | apply Kd.R_drewN | apply Kd.R_drew)); exact Kd.R_mono HL505_0.out (fun _ hk => ⟨hk.2, hk.1⟩)) hg hat); replace HB := AM hb; have HO514 := AM ho; clear HO_11; clear ho hb hg hat)))
                   go_roundg k2
                   case measure => have := HK1.out; have := HK2.out; omega
                   case rel => exact ⟨(y512), ((((rd_T27 (rd_L2 x6_1 (ji25)) (ji28)).f0) == ((rd_T27 (rd_L2 x6_1 x45_2) 0).f0) && (((rd_T27 (rd_L2 x6_1 (ji25)) (ji28)).f1) == ((rd_T27 (rd_L2 x6_1 x45_2) 0).f1) && (((rd_T27 (rd_L2 x6_1 (ji25)) (ji28)).f2) == ((rd_T27 (rd_L2 x6_1 x45_2) 0).f2))))), (wrap64 (x45_2 + 1)), (by first | rfl | exact congrArg Value.bool (Eq.symm (by with_reducible assumption)) | (simp; done) | (simp only [← hji25, ← hji28] <;> (first | rfl | simp)) | (simp [*]; done)), (by first | rfl | exact congrArg Value.bool (Eq.symm (by with_reducible assumption)) | (simp; done) | (simp [*]; done)), H', ⟨by have := HK1.out; have := HK2.out; omega⟩, ⟨by (with_reducible repeat (first | apply Kd.S_alloc | apply Kd.S_drewN | apply Kd.S_drew)); exact Kd.S_mono HO_6.out (fun _ hk => hk.2)⟩, ⟨rK HO514⟩, ⟨by (with_reducible repeat (first | apply Kd.S_alloc | apply Kd.S_drewN | apply Kd.S_drew)); exact Kd.S_mono HO_43.out (fun _ hk => hk.2)⟩, ⟨bK BK495⟩, ⟨ bH HB⟩⟩
                  ·rw [if_neg c36] at H
                   exact absurd H (by simp)
                 ·rw [if_neg c35] at H
                  exact absurd H (by simp)
                ·rw [if_neg c34] at H
                 exact absurd H (by simp)
               ·rw [if_neg c32] at H
                have c32b0 : (((rd_T27 (rd_L2 x6_1 (ji25)) (ji28)).f0) == ((rd_T27 (rd_L2 x6_1 x45_2) 0).f0) && (((rd_T27 (rd_L2 x6_1 (ji25)) (ji28)).f1) == ((rd_T27 (rd_L2 x6_1 x45_2) 0).f1) && (((rd_T27 (rd_L2 x6_1 (ji25)) (ji28)).f2) == ((rd_T27 (rd_L2 x6_1 x45_2) 0).f2)))) = false := by simpa using c32
                (try (have c32b1 : decide (((rd_T27 (rd_L2 x6_1 (ji25)) (ji28)).f0) = ((rd_T27 (rd_L2 x6_1 x45_2) 0).f0) && (((rd_T27 (rd_L2 x6_1 (ji25)) (ji28)).f1) == ((rd_T27 (rd_L2 x6_1 x45_2) 0).f1) && (((rd_T27 (rd_L2 x6_1 (ji25)) (ji28)).f2) == ((rd_T27 (rd_L2 x6_1 x45_2) 0).f2)))) = false := by simpa using c32))
                (try (have c32b2 : (((rd_T27 (rd_L2 x6_1 (ji25)) (ji28)).f0) == ((rd_T27 (rd_L2 x6_1 x45_2) 0).f0) && (((rd_T27 (rd_L2 x6_1 (ji25)) (ji28)).f1) == ((rd_T27 (rd_L2 x6_1 x45_2) 0).f1) && (((rd_T27 (rd_L2 x6_1 (ji25)) (ji28)).f2) == ((rd_T27 (rd_L2 x6_1 x45_2) 0).f2)))) = false := by simpa using c32))
                (try (have c32b3 : ¬ (((rd_T27 (rd_L2 x6_1 (ji25)) (ji28)).f0) = ((rd_T27 (rd_L2 x6_1 x45_2) 0).f0) && (((rd_T27 (rd_L2 x6_1 (ji25)) (ji28)).f1) == ((rd_T27 (rd_L2 x6_1 x45_2) 0).f1) && (((rd_T27 (rd_L2 x6_1 (ji25)) (ji28)).f2) == ((rd_T27 (rd_L2 x6_1 x45_2) 0).f2)))) := by simpa using c32))
                clear c32
                simp only [Option.some.injEq, Prod.mk.injEq] at H
                obtain ⟨rfl, rfl⟩ := H
                have p504 : 0 ≤ (x45_2 : Int) := pD
                have q504 : x45_2 < (x6_1.length : Int) := pD
                obtain ⟨ad504, A504_0, c504_0, e504, hx504_0, hl504_0, hi504_0⟩ := at_L2 (Kd.S_reads' HO_43.out).2.2 x45_2 p504 q504
                cases e504
                obtain ⟨ce504, hce504, hMe504, hcc504⟩ := Kd.S_get HO_43.out [] x45_2 p504 (by first | exact q504 | exact pD | (have e_ := (Kd.S_reads' HO_43.out).1; omega))
                obtain ⟨ve504_0, rfl, ge504_0⟩ := hMe504
                have hv504_0 := hcc504 0 _ rfl
                rw [Nat.add_zero, show ((Kd.slice 27 k27)).sz = 1 from rfl, Nat.mul_one] at hv504_0
                replace hv504_0 := Option.some.inj (hv504_0.symm.trans hx504_0)
                rw [hv504_0] at ge504_0
                have HL504_0 := AM (show Kd.R k27 27 _ _ _ _ (rd_L2 x6_1 x45_2) from ge504_0)
                clear hv504_0 ge504_0; clear hcc504 hce504
                have HR504_0 := AM hi504_0
                have HC504_0 := AM hl504_0
                clear hi504_0 hl504_0; replace p504 := eq_true p504; replace q504 := eq_true q504
                have p505 : 0 ≤ ((ji25) : Int) := pD
                have q505 : (ji25) < (x6_1.length : Int) := pD
                obtain ⟨ad505, A505_0, c505_0, e505, hx505_0, hl505_0, hi505_0⟩ := at_L2 (Kd.S_reads' HO_6.out).2.2 (ji25) p505 q505
                obtain rfl : ad504 = ad505 := (by injection e505)
                obtain ⟨ce505, hce505, hMe505, hcc505⟩ := Kd.S_get HO_6.out [] (ji25) p505 (by first | exact q505 | exact pD | (have e_ := (Kd.S_reads' HO_6.out).1; omega))
                obtain ⟨ve505_0, rfl, ge505_0⟩ := hMe505
                have hv505_0 := hcc505 0 _ rfl
                rw [Nat.add_zero, show ((Kd.slice 27 k27)).sz = 1 from rfl, Nat.mul_one] at hv505_0
                replace hv505_0 := Option.some.inj (hv505_0.symm.trans hx505_0)
                rw [hv505_0] at ge505_0
                have HL505_0 := AM (show Kd.R k27 27 _ _ _ _ (rd_L2 x6_1 (ji25)) from ge505_0)
                clear hv505_0 ge505_0; clear hcc505 hce505
                have HR505_0 := AM hi505_0
                have HC505_0 := AM hl505_0
                clear hi505_0 hl505_0; replace p505 := eq_true p505; replace q505 := eq_true q505
                have p506 : 0 ≤ ((ji28) : Int) := pD
                have q506 : (ji28) < ((rd_L2 x6_1 (ji25)).length : Int) := pD
                obtain ⟨ad506, e506, hx506_0, hx506_1, hx506_2⟩ := at_T27 (by repeat (first | (with_reducible exact HR505_0.out) | (with_reducible refine Kd.C_alloc ?_ _) | (with_reducible refine Kd.C_drewN ?_ _) | (with_reducible refine Kd.C_drew ?_) | exact HR505_0.out)) (ji28) p506 q506
                cases e506
                replace p506 := eq_true p506; replace q506 := eq_true q506
                have p507 : 0 ≤ (0 : Int) := (by omega)
                have q507 : 0 < ((rd_L2 x6_1 x45_2).length : Int) := pD
                obtain ⟨ad507, e507, hx507_0, hx507_1, hx507_2⟩ := at_T27 (by repeat (first | (with_reducible exact HR504_0.out) | (with_reducible refine Kd.C_alloc ?_ _) | (with_reducible refine Kd.C_drewN ?_ _) | (with_reducible refine Kd.C_drew ?_) | exact HR504_0.out)) 0 p507 q507
                cases e507
                have qi507 : (0 < (rd_L2 x6_1 x45_2).length) = True := eq_true (by omega)
                (try rw [show ((0 : Int)).toNat = 0 from rfl] at hx507_0)
                (try rw [show 0 * 3 = 0 from rfl] at hx507_0)
                (try rw [Addr.add_zero'] at hx507_0)
                (try rw [show ((0 : Int)).toNat = 0 from rfl] at hx507_1)
                (try rw [show 0 * 3 = 0 from rfl] at hx507_1)
                (try rw [Addr.add_zero'] at hx507_1)
                (try rw [show ((0 : Int)).toNat = 0 from rfl] at hx507_2)
                (try rw [show 0 * 3 = 0 from rfl] at hx507_2)
                (try rw [Addr.add_zero'] at hx507_2)
                replace p507 := eq_true p507; replace q507 := eq_true q507
                go_wp2_with (go_step3)
                repeat (go_quiet (fail); try go_wp2)
                (try rw [Exit.noGoto_ret])
                go_ret2
                exact ⟨_, by first | rfl | (simp [errW_none, errW_some] <;> rfl) | (simp only [← hji25, ← hji28]; first | rfl | (simp [errW_none, errW_some] <;> rfl)) | (simp [*, errW_none, errW_some] <;> rfl), by first | exact Kd.R_nil _ _ _ _ _ | exact Kd.N_nil _ _ _ _ _ | exact Kd.V_nil _ _ _ _ _ | exact Kd.Q_nil _ _ _ _ _ | exact Kd.S_nil _ _ _ _ _, bH HB⟩
              ·rw [if_neg c31] at H
               exact absurd H (by simp)
             ·rw [if_neg c30] at H
              exact absurd H (by simp)
            ·rw [if_neg c29] at H
             exact absurd H (by simp)
           ·rw [if_neg c27] at H
            exact absurd H (by simp)
          ·rw [if_neg c26] at H
           exact absurd H (by simp)
        ·rw [if_neg c23] at H
         exact absurd H (by simp)
       ·rw [if_neg c22] at H
        exact absurd H (by simp)
      ·rw [if_neg c21] at H
       have c21b0 := decide_eq_false c21; clear c21
       by_cases c39 : x12_2 = true
       ·subst c39
        have H1 : (some (x11_2, 0)) = some (r1, r2) := by rw [if_pos rfl] at H; exact H
        clear H; have H := H1; clear H1
        simp only [Option.some.injEq, Prod.mk.injEq] at H
        obtain ⟨rfl, rfl⟩ := H
        go_wp2_with (go_step3)
        repeat (go_quiet (fail); try go_wp2)
        (try rw [Exit.noGoto_ret])
        go_ret2
        exact ⟨_, rE, rK HO_11, bH HB⟩
       ·replace c39 := Bool.eq_false_iff.mpr c39
        subst c39
        have H1 : (some (([] : List (S27)), 90)) = some (r1, r2) := by rw [if_neg (show ¬ (false = true) by decide)] at H; exact H
        clear H; have H := H1; clear H1
        simp only [Option.some.injEq, Prod.mk.injEq] at H
        obtain ⟨rfl, rfl⟩ := H
        go_wp2_with (go_step3)
        repeat (go_quiet (fail); try go_wp2)
        (try rw [Exit.noGoto_ret])
        go_ret2
        exact ⟨_, rE, by first | exact Kd.R_nil _ _ _ _ _ | exact Kd.N_nil _ _ _ _ _ | exact Kd.V_nil _ _ _ _ _ | exact Kd.Q_nil _ _ _ _ _ | exact Kd.S_nil _ _ _ _ _, bH HB⟩
end Go.Proofs.Ytbonkedecfjmdaa.P
