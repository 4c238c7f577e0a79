/- Written for this claim by a program of this session (a turned copy of the print): Go functions as Lean functions, and that the Go code comes to just these answers; or a statement proved out of them. No condition. -/
import Derived.Test.YtbonkedecfjmdaaZ2
import Derived.Test.YtbonkedecfjmdaaZ19

namespace Go.Proofs.Ytbonkedecfjmdaa.P
open Go.RowKit Go.Proofs.YtbonkedecfjmdaaW.PrintWords Go.Proofs.YtbonkedecfjmdaaW.PrintLast Go.Proofs.YtbonkedecfjmdaaW.PrintMore Go.Proofs.Ytbonkedecfjmdaa.X
attribute [local go_sem] max2_int min2_int max_two min_two max_three min_three max_four min_four add64_0 add64_1 add64
set_option linter.unusedVariables false
set_option linter.unusedSimpArgs false
def ring_Arc.j0 : Nat → Int → Bool → List (List (S27)) → List (List Int) → List (List Int) → Option ((List (S27)) × Int)
 | 0, _, _, _, _, _ => none
 | k + 1, x1, x6, x487000, x487001, x487002 => if x1 ≥ (x487000.length : Int) then (some (([] : List (S27)), 2)) else (if x6 = true then (if 0 ≤ x1 then (if x1 < (x487000.length : Int) then ((arc_Back.f k (rd_L2 x487000 x1)).bind fun t488 => (some (t488, 0))) else (none)) else (none)) else (if 0 ≤ x1 then (if x1 < (x487000.length : Int) then ((api_Point_72.f (rd_L2 x487000 x1)).bind fun t492 => (some (t492, 0))) else (none)) else (none)))
def ring_Arc.f (k : Nat) (l0_0 : List (List (S27))) (l0_1 : List (List Int)) (l0_2 : List (List Int)) (a1 : Int) : Option ((List (S27)) × Int) := if a1 < 0 then (ring_Arc.j0 k (Go.bits .xor .i64 (-1) a1) (decide (a1 < 0)) l0_0 l0_1 l0_2) else (ring_Arc.j0 k a1 (decide (a1 < 0)) l0_0 l0_1 l0_2)
theorem ring_Arc.mono_l : ∀ k, (∀ y0 y1 y2 y3 y4, LeO (ring_Arc.j0 k y0 y1 y2 y3 y4) (ring_Arc.j0 (k + 1) y0 y1 y2 y3 y4))
 | 0 => fun _ _ _ _ _ r h => by simp [ring_Arc.j0] at h
 | k + 1 => by
  have ih0 := ring_Arc.mono_l k
  ·intro y0 y1 y2 y3 y4
   unfold ring_Arc.j0
   repeat' first
   | (with_reducible exact ih0 _ _ _ _ _)
   | (with_reducible exact arc_Back.mono _ _)
   | (with_reducible exact LeO.refl _)
   | (with_reducible exact LeO.none _)
   | (with_reducible refine LeO.ite ?_ ?_)
   | (with_reducible refine LeO.bind ?_ (fun _ => ?_))
   | exact ih0 _ _ _ _ _
   | exact arc_Back.mono _ _
   | exact LeO.none _
   | refine LeO.ite ?_ ?_
   | refine LeO.bind ?_ (fun _ => ?_)
theorem ring_Arc.mono : ∀ a0 a1 a2 a3 k, LeO (ring_Arc.f k a0 a1 a2 a3) (ring_Arc.f (k + 1) a0 a1 a2 a3) := by
 intro a0 a1 a2 a3 k
 have ih0 := ring_Arc.mono_l k
 unfold ring_Arc.f
 repeat' first
   | (with_reducible exact ih0 _ _ _ _ _)
   | (with_reducible exact arc_Back.mono _ _)
   | (with_reducible exact LeO.refl _)
   | (with_reducible exact LeO.none _)
   | (with_reducible refine LeO.ite ?_ ?_)
   | (with_reducible refine LeO.bind ?_ (fun _ => ?_))
   | exact ih0 _ _ _ _ _
   | exact arc_Back.mono _ _
   | exact LeO.none _
   | refine LeO.ite ?_ ?_
   | refine LeO.bind ?_ (fun _ => ?_)
set_option maxHeartbeats 8000000 in
set_option maxRecDepth 100000 in
theorem ring_Arc.calls (k : Nat) (A0_0 : Option Addr) (c0_0 : Nat) (l0_0 : List (List (S27))) (A0_1 : Option Addr) (c0_1 : Nat) (l0_1 : List (List Int)) (A0_2 : Option Addr) (c0_2 : Nat) (l0_2 : List (List Int)) (a1 : Int) (r1 : List (S27)) (r2 : Int) (w : World) (hr0_0 : Kd.C (Kd.slice 27 k27) w A0_0 l0_0.length l0_0) (hc0_0 : l0_0.length ≤ c0_0) (hr0_1 : Kd.C (Kd.slice 3 (Kd.int .i64)) w A0_1 l0_1.length l0_1) (hc0_1 : l0_1.length ≤ c0_1) (hr0_2 : Kd.C (Kd.slice 3 (Kd.int .i64)) w A0_2 l0_2.length l0_2) (hc0_2 : l0_2.length ≤ c0_2) (h : ring_Arc.f k l0_0 l0_1 l0_2 a1 = some (r1, r2)) :
  Calls Try.prog 78 #[.agg #[.slice A0_0 l0_0.length c0_0, .slice A0_1 l0_1.length c0_1, .slice A0_2 l0_2.length c0_2], .int .i64 a1] w fun e w' => ∃ v0_ : Value, e = .returned (.tuple #[v0_, .int .i64 r2]) ∧ Kd.R k27 27 w' w.heap.size (fun _ => True) v0_ r1 ∧ Below w.heap.size w w' := by
 have hu25 := Try.underlying25
 have HR0_0 := AM hr0_0
 have HC0_0 := AM hc0_0
 clear hr0_0 hc0_0
 have HR0_1 := AM hr0_1
 have HC0_1 := AM hc0_1
 clear hr0_1 hc0_1
 have HR0_2 := AM hr0_2
 have HC0_2 := AM hc0_2
 clear hr0_2 hc0_2
 have HB := AM (Below.refl w.heap.size w)
 have H : (if a1 < 0 then (ring_Arc.j0 k (Go.bits .xor .i64 (-1) a1) (decide (a1 < 0)) l0_0 l0_1 l0_2) else (ring_Arc.j0 k a1 (decide (a1 < 0)) l0_0 l0_1 l0_2)) = some (r1, r2) := h
 clear h
 have HC3 := AM H
 clear H
 go_enter Try.func78, Try.ntmps78
 go_upto_if 9 with (first | ((with_reducible refine gate_dst (N := 2) rfl ?_); refine bE 2 #[.slice A0_0 l0_0.length c0_0, .slice A0_1 l0_1.length c0_1, .slice A0_2 l0_2.length c0_2] 25 ?_; intro gb486 hg w4 hbox hb; have BK486 := AM hbox; have GW486 := kG HB hg; replace HB := kH HB hb; have GE486 := GW486; clear hb hbox hg))
 (try simp only [Act.put, List.setIfInBounds_toArray, List.set_cons_zero, List.set_cons_succ])
 go_cut [1] (fun v1 wc => ∃ (kq : Nat) (x1_2 : Int), v1 = .int .i64 x1_2 ∧ Aside0 (ring_Arc.j0 kq x1_2 (decide (a1 < 0)) l0_0 l0_1 l0_2 = some (r1, r2)) ∧ Aside0 (kq ≤ k) ∧ Aside0 (wc.heap[gb486]? = some (.cells #[(.slice A0_0 l0_0.length c0_0), (.slice A0_1 l0_1.length c0_1), (.slice A0_2 l0_2.length c0_2)] 25 (0, 0))) ∧ Aside0 (Below w.heap.size w wc))
 case first =>
  have H := HC3.out; clear HC3
  by_cases c5 : a1 < 0
  ·rw [if_pos c5] at H
   have c5b0 := decide_eq_true c5; clear c5
   (first | rw [c5b0] | (simp only [i64_w, i32_w]; rw [c5b0]) | skip)
   have H' := AM H
   clear H
   go_wp2
   (try rw [← c5b0])
   go_meet
   case rel => exact ⟨_, (Go.bits .xor .i64 (-1) a1), rS, H', ⟨by first | omega | exact Nat.le_refl _⟩, ⟨bK BK486⟩, ⟨ bH HB⟩⟩
  ·rw [if_neg c5] at H
   have c5b0 := decide_eq_false c5; clear c5
   (first | rw [c5b0] | (simp only [i64_w, i32_w]; rw [c5b0]) | skip)
   have H' := AM H
   clear H
   go_wp2
   (try rw [← c5b0])
   go_meet
   case rel => exact ⟨_, (a1), rS, H', ⟨by first | omega | exact Nat.le_refl _⟩, ⟨bK BK486⟩, ⟨ bH HB⟩⟩
 case rest =>
  clear HC3; (try clear p2); (try clear c5); (try clear c5b0)
  obtain ⟨kq, x1_2, rfl, HA, HJ2, BK486, HB⟩ := hcut
  cases kq with
  | zero => exact absurd HA.out (by simp [ring_Arc.j0])
  | succ kj2 =>
   have H := HA.out; clear HA
   simp only [ring_Arc.j0] at H
   by_cases c6 : x1_2 ≥ (l0_0.length : Int)
   ·rw [if_pos c6] at H
    have c6b0 := decide_eq_true c6; clear c6
    simp only [Option.some.injEq, Prod.mk.injEq] at H
    obtain ⟨rfl, rfl⟩ := H
    obtain ⟨hcz7_0, hcz7_1, hcz7_2, hfz7_0, hfz7_1, hfz7_2⟩ := c3 BK486
    go_wp2
    go_ret2
    exact ⟨_, rE, by first | exact Kd.R_nil _ _ _ _ _ | exact Kd.N_nil _ _ _ _ _ | exact Kd.V_nil _ _ _ _ _ | exact Kd.Q_nil _ _ _ _ _ | exact Kd.S_nil _ _ _ _ _, bH HB⟩
   ·rw [if_neg c6] at H
    have c6b0 := decide_eq_false c6; clear c6
    by_cases c8 : (decide (a1 < 0)) = true
    ·rw [if_pos c8] at H
     have c8b0 : (decide (a1 < 0)) = true := c8
     (try rw [c8b0])
     clear c8
     by_cases c9 : 0 ≤ x1_2
     ·rw [if_pos c9] at H
      have c9b0 := decide_eq_true c9; clear c9
      by_cases c10 : x1_2 < (l0_0.length : Int)
      ·rw [if_pos c10] at H
       have c10b0 := decide_eq_true c10; clear c10
       obtain ⟨t488, A11, H⟩ := bS H
       simp only [Option.some.injEq, Prod.mk.injEq] at H
       obtain ⟨rfl, rfl⟩ := H
       obtain ⟨hcz12_0, hcz12_1, hcz12_2, hfz12_0, hfz12_1, hfz12_2⟩ := c3 BK486
       have p487 : 0 ≤ (x1_2 : Int) := pD
       have q487 : x1_2 < (l0_0.length : Int) := pD
       obtain ⟨ad487, A487_0, c487_0, e487, hx487_0, hl487_0, hi487_0⟩ := at_L2 HR0_0.out x1_2 p487 q487
       cases e487
       replace hx487_0 := hW HB hx487_0
       have HR487_0 := AM hi487_0
       have HC487_0 := AM hl487_0
       clear hi487_0 hl487_0; replace p487 := eq_true p487; replace q487 := eq_true q487
       go_wp2_with (first | ((with_reducible refine gate_callee (f := 85) rfl ?_); refine gL (some 23) Try.func85 #[.slice A487_0 (rd_L2 l0_0 x1_2).length c487_0] ?_; (with_reducible refine (arc_Back.calls kj2 _ _ (rd_L2 l0_0 x1_2) t488 _ ?side1 ?side2 A11.out).mono ?_); (case side1 => exact sC HR487_0 HB); (case side2 => exact HC487_0.out); rintro e w13 ⟨v489, rfl, ho0, hb⟩; refine ⟨_, rfl, ?_⟩; have HO490 := AM (Kd.R_lower ho0 (below_size (bH HB))); replace BK486 := kB BK486 hb; replace HB := kH HB hb; (try clear hb); (try clear hb2); (try clear hk); (try clear hi); (try clear ho0)))
       go_ret2
       exact ⟨_, rE, rK HO490, bH HB⟩
      ·rw [if_neg c10] at H
       exact absurd H (by simp)
     ·rw [if_neg c9] at H
      exact absurd H (by simp)
    ·rw [if_neg c8] at H
     have c8b0 : (decide (a1 < 0)) = false := by simpa using c8
     (try rw [c8b0])
     clear c8
     by_cases c14 : 0 ≤ x1_2
     ·rw [if_pos c14] at H
      have c14b0 := decide_eq_true c14; clear c14
      by_cases c15 : x1_2 < (l0_0.length : Int)
      ·rw [if_pos c15] at H
       have c15b0 := decide_eq_true c15; clear c15
       obtain ⟨t492, A16, H⟩ := bS H
       simp only [Option.some.injEq, Prod.mk.injEq] at H
       obtain ⟨rfl, rfl⟩ := H
       obtain ⟨hcz17_0, hcz17_1, hcz17_2, hfz17_0, hfz17_1, hfz17_2⟩ := c3 BK486
       have p491 : 0 ≤ (x1_2 : Int) := pD
       have q491 : x1_2 < (l0_0.length : Int) := pD
       obtain ⟨ad491, A491_0, c491_0, e491, hx491_0, hl491_0, hi491_0⟩ := at_L2 HR0_0.out x1_2 p491 q491
       cases e491
       replace hx491_0 := hW HB hx491_0
       have HR491_0 := AM hi491_0
       have HC491_0 := AM hl491_0
       clear hi491_0 hl491_0; replace p491 := eq_true p491; replace q491 := eq_true q491
       go_wp2_with (first | ((with_reducible refine gate_callee (f := 72) rfl ?_); refine gL (some 29) Try.func72 #[.slice A491_0 (rd_L2 l0_0 x1_2).length c491_0] ?_; (with_reducible refine (api_Point_72.calls _ _ (rd_L2 l0_0 x1_2) t492 _ ?side1 ?side2 A16.out).mono ?_); (case side1 => exact sC HR491_0 HB); (case side2 => exact HC491_0.out); rintro e w18 ⟨v493, rfl, ho0, hb⟩; refine ⟨_, rfl, ?_⟩; have HO494 := AM (Kd.R_lower ho0 (below_size (bH HB))); replace BK486 := kB BK486 hb; replace HB := kH HB hb; (try clear hb); (try clear hb2); (try clear hk); (try clear hi); (try clear ho0)))
       go_ret2
       exact ⟨_, rE, rK HO494, bH HB⟩
      ·rw [if_neg c15] at H
       exact absurd H (by simp)
     ·rw [if_neg c14] at H
      exact absurd H (by simp)
end Go.Proofs.Ytbonkedecfjmdaa.P
