/- Written for this claim by a program of this session (a turned copy of the print): Go functions as Lean functions, and that the Go code comes to just these answers; or a statement proved out of them. No condition. -/
import Derived.Test.YtbonkedecfjmdaaZ2
import Derived.Test.YtbonkedecfjmdaaZ4

namespace Go.Proofs.Ytbonkedecfjmdaa.P
open Go.RowKit Go.Proofs.YtbonkedecfjmdaaW.PrintWords Go.Proofs.YtbonkedecfjmdaaW.PrintLast Go.Proofs.YtbonkedecfjmdaaW.PrintMore Go.Proofs.Ytbonkedecfjmdaa.X
attribute [local go_sem] max2_int min2_int max_two min_two max_three min_three max_four min_four add64_0 add64_1 add64
set_option linter.unusedVariables false
set_option linter.unusedSimpArgs false
mutual
def rf17_Closes.l0 : Nat → Int → List (List (S27)) → List (List Int) → List (List Int) → Option (Bool)
 | 0, _, _, _, _ => none
 | k + 1, x3, x145000, x145001, x145002 => if x3 < (x145001.length : Int) then (if 0 ≤ x3 then ((rf16_Points.f k x145000 x145001 x145002 (rd_L3 x145001 x3)).bind fun bt146 => (if bt146.2 = 0 then (rf17_Closes.l0 k (wrap64 (x3 + 1)) x145000 x145001 x145002) else (some false))) else (none)) else (rf17_Closes.l1 k 0 x145000 x145001 x145002)
def rf17_Closes.l1 : Nat → Int → List (List (S27)) → List (List Int) → List (List Int) → Option (Bool)
 | 0, _, _, _, _ => none
 | k + 1, x6, x145000, x145001, x145002 => if x6 < (x145000.length : Int) then ((rf16_Uses.f k x145000 x145001 x145002 x6).bind fun t150 => ((rf16_Uses.f k x145000 x145001 x145002 (wrap64 ((-1) - x6))).bind fun t151 => (if t150 > 1 then (some false) else (if t151 > 1 then (some false) else (if (wrap64 (t150 + t151)) = 0 then (some false) else (rf17_Closes.l1 k (wrap64 (x6 + 1)) x145000 x145001 x145002)))))) else (some true)
end
def rf17_Closes.f (k : Nat) (l0_0 : List (List (S27))) (l0_1 : List (List Int)) (l0_2 : List (List Int)) : Option (Bool) := rf17_Closes.l0 k 0 l0_0 l0_1 l0_2
theorem rf17_Closes.mono_l : ∀ k, (∀ y0 y1 y2 y3, LeO (rf17_Closes.l0 k y0 y1 y2 y3) (rf17_Closes.l0 (k + 1) y0 y1 y2 y3)) ∧ (∀ y0 y1 y2 y3, LeO (rf17_Closes.l1 k y0 y1 y2 y3) (rf17_Closes.l1 (k + 1) y0 y1 y2 y3))
 | 0 => ⟨fun _ _ _ _ r h => by simp [rf17_Closes.l0] at h, fun _ _ _ _ r h => by simp [rf17_Closes.l1] at h⟩
 | k + 1 => by
  obtain ⟨ih0, ih1⟩ := rf17_Closes.mono_l k
  refine ⟨?_, ?_⟩
  all_goals
   intros
   first | unfold rf17_Closes.l0 | unfold rf17_Closes.l1
   repeat' with_reducible first | exact ih0 _ _ _ _ | exact ih1 _ _ _ _ | exact rf16_Points.mono _ _ _ _ _ | exact rf16_Uses.mono _ _ _ _ _ | exact LeO.refl _ | exact LeO.none _ | refine LeO.ite ?_ ?_ | refine LeO.bind ?_ (fun _ => ?_)
theorem rf17_Closes.mono : ∀ a0 a1 a2 k, LeO (rf17_Closes.f k a0 a1 a2) (rf17_Closes.f (k + 1) a0 a1 a2) := by
 intro a0 a1 a2 k
 obtain ⟨ih0, ih1⟩ := rf17_Closes.mono_l k
 unfold rf17_Closes.f
 repeat' first
   | (with_reducible exact ih0 _ _ _ _)
   | (with_reducible exact ih1 _ _ _ _)
   | (with_reducible exact rf16_Points.mono _ _ _ _ _)
   | (with_reducible exact rf16_Uses.mono _ _ _ _ _)
   | (with_reducible exact LeO.refl _)
   | (with_reducible exact LeO.none _)
   | (with_reducible refine LeO.ite ?_ ?_)
   | (with_reducible refine LeO.bind ?_ (fun _ => ?_))
   | exact ih0 _ _ _ _
   | exact ih1 _ _ _ _
   | exact rf16_Points.mono _ _ _ _ _
   | exact rf16_Uses.mono _ _ _ _ _
   | exact LeO.none _
   | refine LeO.ite ?_ ?_
   | refine LeO.bind ?_ (fun _ => ?_)
def rf17_Closes.T4 : Bool × List (List Nat × List Nat) := (true, [([], []), ([], []), ([1], [1]), ([], []), ([2, 3], [2, 3]), ([4], [4]), ([0, 5], [0, 5]), ([6], [6]), ([7], [7]), ([7], [7]), ([8, 6, 0, 1, 2, 3, 4, 5, 6, 7, 8], [8]), ([9, 10, 0, 1, 2, 3, 4, 5, 6, 7, 8, 9, 10], [9])])
def rf17_Closes.B4 : List Nat := [0, 0, 2, 0, 14, 30, 63, 127, 255, 255, 511, 2047]
theorem rf17_Closes.tab4 : rtab .any (opsOf Try.f14 4) = rf17_Closes.T4 := by kernel_rfl
theorem rf17_Closes.bits4 : waitsOk rf17_Closes.T4.2 rf17_Closes.B4 = true := by kernel_rfl
set_option maxHeartbeats 8000000 in
set_option maxRecDepth 100000 in
theorem rf17_Closes.calls (k : Nat) (A0_0 : Option Addr) (c0_0 : Nat) (l0_0 : List (List (S27))) (A0_1 : Option Addr) (c0_1 : Nat) (l0_1 : List (List Int)) (A0_2 : Option Addr) (c0_2 : Nat) (l0_2 : List (List Int)) (r : Bool) (w : World) (hr0_0 : Kd.C (Kd.slice 27 k27) w A0_0 l0_0.length l0_0) (hc0_0 : l0_0.length ≤ c0_0) (hr0_1 : Kd.C (Kd.slice 3 (Kd.int .i64)) w A0_1 l0_1.length l0_1) (hc0_1 : l0_1.length ≤ c0_1) (hr0_2 : Kd.C (Kd.slice 3 (Kd.int .i64)) w A0_2 l0_2.length l0_2) (hc0_2 : l0_2.length ≤ c0_2) (h : rf17_Closes.f k l0_0 l0_1 l0_2 = some r) :
  Calls Try.prog 14 #[.agg #[.slice A0_0 l0_0.length c0_0, .slice A0_1 l0_1.length c0_1, .slice A0_2 l0_2.length c0_2]] w fun e w' => e = .returned (.bool r) ∧ Below w.heap.size w w' := by
 have hu25 := Try.underlying25
 have HR0_0 := AM hr0_0
 have HC0_0 := AM hc0_0
 clear hr0_0 hc0_0
 have HR0_1 := AM hr0_1
 have HC0_1 := AM hc0_1
 clear hr0_1 hc0_1
 have HR0_2 := AM hr0_2
 have HC0_2 := AM hc0_2
 clear hr0_2 hc0_2
 have HB := AM (Below.refl w.heap.size w)
 have H : (rf17_Closes.l0 k 0 l0_0 l0_1 l0_2) = some r := h
 clear h
 have H' := AM H
 clear H
 go_enter Try.func14, Try.ntmps14
 go_wp2_with (first | ((with_reducible refine gate_dst (N := 1) rfl ?_); refine bE 1 #[.slice A0_0 l0_0.length c0_0, .slice A0_1 l0_1.length c0_1, .slice A0_2 l0_2.length c0_2] 25 ?_; intro gb144 hg w2 hbox hb; have BK144 := AM hbox; have GW144 := kG HB hg; replace HB := kH HB hb; have GE144 := GW144; clear hb hbox hg))
 go_loopg [3] k (fun kq v3 w' => ∃ (x3_1 : Int), v3 = .int .i64 x3_1 ∧ Aside0 (rf17_Closes.l0 kq x3_1 l0_0 l0_1 l0_2 = some r) ∧ Aside0 (kq ≤ k) ∧ Aside0 (w'.heap[gb144]? = some (.cells #[(.slice A0_0 l0_0.length c0_0), (.slice A0_1 l0_1.length c0_1), (.slice A0_2 l0_2.length c0_2)] 25 (0, 0))) ∧ Aside0 (Below w.heap.size w w'))
 case atStart => exact ⟨(0), rS, H', ⟨Nat.le_refl _⟩, ⟨bK BK144⟩, ⟨ bH HB⟩⟩
 case round =>
  clear H'
  (try clear c1); (try clear p2)
  obtain ⟨x3_1, rfl, HA, HK1, BK144, HB⟩ := hrel
  cases gk with
  | zero => exact absurd HA.out (by simp [rf17_Closes.l0])
  | succ k1 =>
   have H := HA.out; clear HA
   simp only [rf17_Closes.l0] at H
   by_cases c3 : x3_1 < (l0_1.length : Int)
   ·rw [if_pos c3] at H
    have c3b0 := decide_eq_true c3; clear c3
    by_cases c4 : 0 ≤ x3_1
    ·rw [if_pos c4] at H
     have c4b0 := decide_eq_true c4; clear c4
     obtain ⟨⟨t146, t149⟩, A5, H⟩ := bS H
     try dsimp only at H
     have HC6 := AM H
     clear H; obtain ⟨hcz7_0, hcz7_1, hcz7_2, hfz7_0, hfz7_1, hfz7_2⟩ := c3 BK144
     try go_wp2
     replace BK144 := dB BK144; replace HB := dH HB
     have p145 : 0 ≤ (x3_1 : Int) := pD
     have q145 : x3_1 < (l0_1.length : Int) := pD
     obtain ⟨ad145, A145_0, c145_0, e145, hx145_0, hl145_0, hi145_0⟩ := at_L3 HR0_1.out x3_1 p145 q145
     have hw145_0 := hx145_0
     cases e145
     replace hx145_0 := hW HB hx145_0
     have HR145_0 := AM hi145_0
     have HC145_0 := AM hl145_0
     clear hi145_0 hl145_0; replace p145 := eq_true p145; replace q145 := eq_true q145
     refine sP 12 (S := fun w' => w'.cell? ⟨gb144, 0, none⟩ = some (.slice A0_0 l0_0.length c0_0) ∧ w'.cell? ⟨gb144, 1, none⟩ = some (.slice (some ad145) l0_1.length c0_1) ∧ w'.cell? ⟨gb144, 2, none⟩ = some (.slice A0_2 l0_2.length c0_2) ∧ w'.cell? (ad145.add (x3_1).toNat) = some (.slice A145_0 (rd_L3 l0_1 x3_1).length c145_0)) (ds := []) ⟨bC BK144, bC BK144, bC BK144, (hW HB hw145_0)⟩ fun hHeld => ?_; refine with_tabW rf17_Closes.tab4 rf17_Closes.bits4 (fun HT_ HW_ => ?_)
     generalize wr.drew = w8 at BK144 HB HR145_0 hx145_0 hHeld ⊢
     refine pQ 1 (some 18) HT_ ?_; refine pQ 3 (some 20) HT_ ?_; refine tQ 0 (some 17) HT_ HW_ hHeld ?_; refine tQ 2 (some 19) HT_ HW_ hHeld ?_; refine pQ 4 (some 21) HT_ ?_; refine tQ 5 (some 22) HT_ HW_ hHeld ?_
     refine oQ 6 (some 23) HT_ rfl fun K hK => ?_
     refine gO Try.func35 #[.agg #[.slice A0_0 l0_0.length c0_0, .slice (some ad145) l0_1.length c0_1, .slice A0_2 l0_2.length c0_2], .slice A145_0 (rd_L3 l0_1 x3_1).length c145_0] ?_
     with_reducible refine (rf16_Points.calls k1 _ _ l0_0 _ _ l0_1 _ _ l0_2 _ _ (rd_L3 l0_1 x3_1) t146 t149 _ ?side1 ?side2 ?side3 ?side4 ?side5 ?side6 ?side7 ?side8 A5.out).mono ?_
     (case side1 => exact sC HR0_0 HB)
     (case side2 => exact HC0_0.out)
     (case side3 => exact sC HR0_1 HB)
     (case side4 => exact HC0_1.out)
     (case side5 => exact sC HR0_2 HB)
     (case side6 => exact HC0_2.out)
     (case side7 => exact sC HR145_0 HB)
     (case side8 => exact HC145_0.out)
     rintro e w9 ⟨v147, rfl, ho0, hb⟩
     refine ⟨_, rfl, ?_⟩
     have HO148 := AM (Kd.R_lower ho0 (below_size (bH HB)))
     replace BK144 := kB BK144 hb; replace HB := kH HB hb; (try clear hb); (try clear hb2); (try clear hk); (try clear hi); (try clear ho0)
     refine hK.out _ _ ⟨bC BK144, bC BK144, bC BK144, (hW HB hw145_0)⟩ (fun hHeld => ?_)
     clear hK K; refine nP (some 23) ?_; refine pQ 7 (some 16) HT_ ?_; refine pQ 8 (some 24) HT_ ?_; refine pQ 9 (some 25) HT_ ?_; refine pQ 10 (some 4) HT_ ?_; refine pQ 11 (some 5) HT_ ?_
     refine done_ (done_of HT_.out (by kernel_rfl)) ?_
     go_upto_if 27 with (fail)
     have H := HC6.out; clear HC6
     by_cases c10 : t149 = 0
     ·rw [if_pos c10] at H
      have c10b0 : (t149 == 0) = true := beq_iff_eq.mpr c10
      have c10b1 : (t149 != 0) = false := bne_eq_false_iff_eq.mpr c10
      clear c10
      (first | rw [c10b0] | (simp only [i64_w, i32_w]; rw [c10b0]) | skip)
      have H' := AM H
      clear H
      go_wp2
      go_roundg k1
      case measure => have := HK1.out; omega
      case rel => exact ⟨(wrap64 (x3_1 + 1)), rS, H', ⟨by have := HK1.out; omega⟩, ⟨bK BK144⟩, ⟨ bH HB⟩⟩
     ·rw [if_neg c10] at H
      have c10b0 : (t149 == 0) = false := beq_eq_false_iff_ne.mpr c10
      have c10b1 : (t149 != 0) = true := bne_iff_ne.mpr c10
      (first | rw [c10b0] | (simp only [i64_w, i32_w]; rw [c10b0]) | skip)
      obtain rfl := Option.some.inj H
      go_wp2
      go_ret
      exact ⟨rE, bH HB⟩
    ·rw [if_neg c4] at H
     exact absurd H (by simp)
   ·rw [if_neg c3] at H
    have c3b0 := decide_eq_false c3; clear c3
    have H' := AM H
    clear H; obtain ⟨hcz11_0, hcz11_1, hcz11_2, hfz11_0, hfz11_1, hfz11_2⟩ := c3 BK144
    go_wp2
    go_loopg [6] k1 (fun kq v6 w' => ∃ (x6_2 : Int), v6 = .int .i64 x6_2 ∧ Aside0 (rf17_Closes.l1 kq x6_2 l0_0 l0_1 l0_2 = some r) ∧ Aside0 (kq ≤ k1) ∧ Aside0 (w'.heap[gb144]? = some (.cells #[(.slice A0_0 l0_0.length c0_0), (.slice A0_1 l0_1.length c0_1), (.slice A0_2 l0_2.length c0_2)] 25 (0, 0))) ∧ Aside0 (Below w.heap.size w w'))
    case atStart => exact ⟨(0), rS, H', ⟨Nat.le_refl _⟩, ⟨bK BK144⟩, ⟨ bH HB⟩⟩
    case round =>
     clear H'
     (try clear c1); (try clear p1); (try clear q1); (try clear hx1); (try clear p2); (try clear c3); (try clear c3b0); (try clear c4); (try clear c4b0); (try clear p6); (try clear c10); (try clear c10b0); (try clear c10b1); (try clear hcz11_0); (try clear hcz11_1); (try clear hcz11_2); (try clear hcz7_0); (try clear hcz7_1); (try clear hcz7_2); (try clear hfz11_0); (try clear hfz11_1); (try clear hfz11_2); (try clear hfz7_0); (try clear hfz7_1); (try clear hfz7_2); (try clear hx145_0); (try clear p145); (try clear p2); (try clear q145)
     obtain ⟨x6_2, rfl, HA, HK2, BK144, HB⟩ := hrel
     cases gk with
     | zero => exact absurd HA.out (by simp [rf17_Closes.l1])
     | succ k2 =>
      have H := HA.out; clear HA
      simp only [rf17_Closes.l1] at H
      by_cases c12 : x6_2 < (l0_0.length : Int)
      ·rw [if_pos c12] at H
       have c12b0 := decide_eq_true c12; clear c12
       obtain ⟨t150, A13, H⟩ := bS H
       obtain ⟨t151, A14, H⟩ := bS H
       by_cases c15 : t150 > 1
       ·rw [if_pos c15] at H
        have c15b0 := decide_eq_true c15; clear c15
        obtain rfl := Option.some.inj H
        obtain ⟨hcz16_0, hcz16_1, hcz16_2, hfz16_0, hfz16_1, hfz16_2⟩ := c3 BK144
        go_wp2_with (first | ((with_reducible refine gate_callee (f := 38) rfl ?_); refine gL (some 37) Try.func38 #[.agg #[.slice A0_0 l0_0.length c0_0, .slice A0_1 l0_1.length c0_1, .slice A0_2 l0_2.length c0_2], .int .i64 x6_2] ?_; (with_reducible refine (rf16_Uses.calls k2 _ _ l0_0 _ _ l0_1 _ _ l0_2 x6_2 t150 _ ?side1 ?side2 ?side3 ?side4 ?side5 ?side6 A13.out).mono ?_); (case side1 => exact sC HR0_0 HB); (case side2 => exact HC0_0.out); (case side3 => exact sC HR0_1 HB); (case side4 => exact HC0_1.out); (case side5 => exact sC HR0_2 HB); (case side6 => exact HC0_2.out); rintro e w17 ⟨rfl, hb⟩; refine ⟨_, rfl, ?_⟩; replace BK144 := kB BK144 hb; replace HB := kH HB hb; (try clear hb); (try clear hb2); (try clear hk); (try clear hi); obtain ⟨hcz18_0, hcz18_1, hcz18_2, hfz18_0, hfz18_1, hfz18_2⟩ := c3 BK144) | ((with_reducible refine gate_callee (f := 38) rfl ?_); refine gL (some 41) Try.func38 #[.agg #[.slice A0_0 l0_0.length c0_0, .slice A0_1 l0_1.length c0_1, .slice A0_2 l0_2.length c0_2], .int .i64 (wrap64 ((-1) - x6_2))] ?_; (with_reducible refine (rf16_Uses.calls k2 _ _ l0_0 _ _ l0_1 _ _ l0_2 (wrap64 ((-1) - x6_2)) t151 _ ?side1 ?side2 ?side3 ?side4 ?side5 ?side6 A14.out).mono ?_); (case side1 => exact sC HR0_0 HB); (case side2 => exact HC0_0.out); (case side3 => exact sC HR0_1 HB); (case side4 => exact HC0_1.out); (case side5 => exact sC HR0_2 HB); (case side6 => exact HC0_2.out); rintro e w19 ⟨rfl, hb⟩; refine ⟨_, rfl, ?_⟩; replace BK144 := kB BK144 hb; replace HB := kH HB hb; (try clear hb); (try clear hb2); (try clear hk); (try clear hi)))
        go_ret
        exact ⟨rE, bH HB⟩
       ·rw [if_neg c15] at H
        have c15b0 := decide_eq_false c15; clear c15
        by_cases c20 : t151 > 1
        ·rw [if_pos c20] at H
         have c20b0 := decide_eq_true c20; clear c20
         obtain rfl := Option.some.inj H
         obtain ⟨hcz21_0, hcz21_1, hcz21_2, hfz21_0, hfz21_1, hfz21_2⟩ := c3 BK144
         go_wp2_with (first | ((with_reducible refine gate_callee (f := 38) rfl ?_); refine gL (some 37) Try.func38 #[.agg #[.slice A0_0 l0_0.length c0_0, .slice A0_1 l0_1.length c0_1, .slice A0_2 l0_2.length c0_2], .int .i64 x6_2] ?_; (with_reducible refine (rf16_Uses.calls k2 _ _ l0_0 _ _ l0_1 _ _ l0_2 x6_2 t150 _ ?side1 ?side2 ?side3 ?side4 ?side5 ?side6 A13.out).mono ?_); (case side1 => exact sC HR0_0 HB); (case side2 => exact HC0_0.out); (case side3 => exact sC HR0_1 HB); (case side4 => exact HC0_1.out); (case side5 => exact sC HR0_2 HB); (case side6 => exact HC0_2.out); rintro e w22 ⟨rfl, hb⟩; refine ⟨_, rfl, ?_⟩; replace BK144 := kB BK144 hb; replace HB := kH HB hb; (try clear hb); (try clear hb2); (try clear hk); (try clear hi); obtain ⟨hcz23_0, hcz23_1, hcz23_2, hfz23_0, hfz23_1, hfz23_2⟩ := c3 BK144) | ((with_reducible refine gate_callee (f := 38) rfl ?_); refine gL (some 41) Try.func38 #[.agg #[.slice A0_0 l0_0.length c0_0, .slice A0_1 l0_1.length c0_1, .slice A0_2 l0_2.length c0_2], .int .i64 (wrap64 ((-1) - x6_2))] ?_; (with_reducible refine (rf16_Uses.calls k2 _ _ l0_0 _ _ l0_1 _ _ l0_2 (wrap64 ((-1) - x6_2)) t151 _ ?side1 ?side2 ?side3 ?side4 ?side5 ?side6 A14.out).mono ?_); (case side1 => exact sC HR0_0 HB); (case side2 => exact HC0_0.out); (case side3 => exact sC HR0_1 HB); (case side4 => exact HC0_1.out); (case side5 => exact sC HR0_2 HB); (case side6 => exact HC0_2.out); rintro e w24 ⟨rfl, hb⟩; refine ⟨_, rfl, ?_⟩; replace BK144 := kB BK144 hb; replace HB := kH HB hb; (try clear hb); (try clear hb2); (try clear hk); (try clear hi)))
         go_ret
         exact ⟨rE, bH HB⟩
        ·rw [if_neg c20] at H
         have c20b0 := decide_eq_false c20; clear c20
         have HC25 := AM H
         clear H; obtain ⟨hcz26_0, hcz26_1, hcz26_2, hfz26_0, hfz26_1, hfz26_2⟩ := c3 BK144
         go_upto_if 53 with (first | ((with_reducible refine gate_callee (f := 38) rfl ?_); refine gL (some 37) Try.func38 #[.agg #[.slice A0_0 l0_0.length c0_0, .slice A0_1 l0_1.length c0_1, .slice A0_2 l0_2.length c0_2], .int .i64 x6_2] ?_; (with_reducible refine (rf16_Uses.calls k2 _ _ l0_0 _ _ l0_1 _ _ l0_2 x6_2 t150 _ ?side1 ?side2 ?side3 ?side4 ?side5 ?side6 A13.out).mono ?_); (case side1 => exact sC HR0_0 HB); (case side2 => exact HC0_0.out); (case side3 => exact sC HR0_1 HB); (case side4 => exact HC0_1.out); (case side5 => exact sC HR0_2 HB); (case side6 => exact HC0_2.out); rintro e w27 ⟨rfl, hb⟩; refine ⟨_, rfl, ?_⟩; replace BK144 := kB BK144 hb; replace HB := kH HB hb; (try clear hb); (try clear hb2); (try clear hk); (try clear hi); obtain ⟨hcz28_0, hcz28_1, hcz28_2, hfz28_0, hfz28_1, hfz28_2⟩ := c3 BK144) | ((with_reducible refine gate_callee (f := 38) rfl ?_); refine gL (some 41) Try.func38 #[.agg #[.slice A0_0 l0_0.length c0_0, .slice A0_1 l0_1.length c0_1, .slice A0_2 l0_2.length c0_2], .int .i64 (wrap64 ((-1) - x6_2))] ?_; (with_reducible refine (rf16_Uses.calls k2 _ _ l0_0 _ _ l0_1 _ _ l0_2 (wrap64 ((-1) - x6_2)) t151 _ ?side1 ?side2 ?side3 ?side4 ?side5 ?side6 A14.out).mono ?_); (case side1 => exact sC HR0_0 HB); (case side2 => exact HC0_0.out); (case side3 => exact sC HR0_1 HB); (case side4 => exact HC0_1.out); (case side5 => exact sC HR0_2 HB); (case side6 => exact HC0_2.out); rintro e w29 ⟨rfl, hb⟩; refine ⟨_, rfl, ?_⟩; replace BK144 := kB BK144 hb; replace HB := kH HB hb; (try clear hb); (try clear hb2); (try clear hk); (try clear hi)))
         (try simp only [Act.put, List.setIfInBounds_toArray, List.set_cons_zero, List.set_cons_succ])
         have H := HC25.out; clear HC25
         by_cases c30 : (wrap64 (t150 + t151)) = 0
         ·rw [if_pos c30] at H
          have c30b0 : ((wrap64 (t150 + t151)) == 0) = true := beq_iff_eq.mpr c30
          have c30b1 : ((wrap64 (t150 + t151)) != 0) = false := bne_eq_false_iff_eq.mpr c30
          clear c30
          (first | rw [c30b0] | (simp only [i64_w, i32_w]; rw [c30b0]) | skip)
          obtain rfl := Option.some.inj H
          go_wp2
          go_ret
          exact ⟨rE, bH HB⟩
         ·rw [if_neg c30] at H
          have c30b0 : ((wrap64 (t150 + t151)) == 0) = false := beq_eq_false_iff_ne.mpr c30
          have c30b1 : ((wrap64 (t150 + t151)) != 0) = true := bne_iff_ne.mpr c30
          (first | rw [c30b0] | (simp only [i64_w, i32_w]; rw [c30b0]) | skip)
          have H' := AM H
          clear H
          go_wp2
          go_roundg k2
          case measure => have := HK1.out; have := HK2.out; omega
          case rel => exact ⟨(wrap64 (x6_2 + 1)), rS, H', ⟨by have := HK1.out; have := HK2.out; omega⟩, ⟨bK BK144⟩, ⟨ bH HB⟩⟩
      ·rw [if_neg c12] at H
       have c12b0 := decide_eq_false c12; clear c12
       obtain rfl := Option.some.inj H
       obtain ⟨hcz31_0, hcz31_1, hcz31_2, hfz31_0, hfz31_1, hfz31_2⟩ := c3 BK144
       go_wp2
       go_ret
       exact ⟨rE, bH HB⟩

def rf08_Of.l0 : Nat → Int → List Int → Int → Option (List Int)
 | 0, _, _, _ => none
 | k + 1, x0, x3, x4 => if x4 < 8 then (if (Int.tmod x0 65536) < 0 then (if x3.length < 17592186044416 then (rf08_Of.l0 k (wrap64 (Int.tdiv (wrap64 (x0 - (wrap64 ((Int.tmod x0 65536) + 65536)))) 65536)) (x3 ++ [wrap64 ((Int.tmod x0 65536) + 65536)]) (wrap64 (x4 + 1))) else (none)) else (if x3.length < 17592186044416 then (rf08_Of.l0 k (wrap64 (Int.tdiv (wrap64 (x0 - (Int.tmod x0 65536))) 65536)) (x3 ++ [Int.tmod x0 65536]) (wrap64 (x4 + 1))) else (none))) else (some x3)
def rf08_Of.f (k : Nat) (a0 : Int) : Option (List Int) := rf08_Of.l0 k a0 ([] : List Int) 0
theorem rf08_Of.mono_l : ∀ k, (∀ y0 y1 y2, LeO (rf08_Of.l0 k y0 y1 y2) (rf08_Of.l0 (k + 1) y0 y1 y2))
 | 0 => fun _ _ _ r h => by simp [rf08_Of.l0] at h
 | k + 1 => by
  have ih0 := rf08_Of.mono_l k
  ·intro y0 y1 y2
   unfold rf08_Of.l0
   repeat' first
   | (with_reducible exact ih0 _ _ _)
   | (with_reducible exact LeO.refl _)
   | (with_reducible exact LeO.none _)
   | (with_reducible refine LeO.ite ?_ ?_)
   | (with_reducible refine LeO.bind ?_ (fun _ => ?_))
   | exact ih0 _ _ _
   | exact LeO.none _
   | refine LeO.ite ?_ ?_
   | refine LeO.bind ?_ (fun _ => ?_)
theorem rf08_Of.mono : ∀ a0 k, LeO (rf08_Of.f k a0) (rf08_Of.f (k + 1) a0) := by
 intro a0 k
 have ih0 := rf08_Of.mono_l k
 unfold rf08_Of.f
 repeat' first
   | (with_reducible exact ih0 _ _ _)
   | (with_reducible exact LeO.refl _)
   | (with_reducible exact LeO.none _)
   | (with_reducible refine LeO.ite ?_ ?_)
   | (with_reducible refine LeO.bind ?_ (fun _ => ?_))
   | exact ih0 _ _ _
   | exact LeO.none _
   | refine LeO.ite ?_ ?_
   | refine LeO.bind ?_ (fun _ => ?_)
set_option maxHeartbeats 8000000 in
set_option maxRecDepth 100000 in
theorem rf08_Of.calls (k : Nat) (a0 : Int) (r : List Int) (w : World) (h : rf08_Of.f k a0 = some r) :
  Calls Try.prog 18 #[.int .i64 a0] w fun e w' => ∃ v0_ : Value, e = .returned (.agg #[v0_]) ∧ Kd.R (Kd.int .i64) 3 w' w.heap.size (fun _ => True) v0_ r ∧ Below w.heap.size w w' := by
 have hu43 := Try.underlying43
 have HB := AM (Below.refl w.heap.size w)
 have H : (rf08_Of.l0 k a0 ([] : List Int) 0) = some r := h
 clear h
 have H' := AM H
 clear H
 go_enter Try.func18, Try.ntmps18
 go_wp2_with (first | ((with_reducible refine gate_dst (N := 2) rfl ?_); refine bE 2 #[.slice none 0 0] 43 ?_; intro gb152 hg w2 hbox hb; have BK152 := AM hbox; have GW152 := kG HB hg; replace HB := kH HB hb; have GE152 := GW152; clear hb hbox hg))
 go_loopg [0, 3, 4] k (fun kq v0 v3 v4 w' => ∃ (x0_1 : Int) (x3_1 : List Int) (x4_1 : Int), v0 = .int .i64 x0_1 ∧ v4 = .int .i64 x4_1 ∧ Aside0 (rf08_Of.l0 kq x0_1 x3_1 x4_1 = some r) ∧ Aside0 (kq ≤ k) ∧ Aside0 (Kd.R (Kd.int .i64) 3 w' w.heap.size (fun _ => True) v3 x3_1) ∧ Aside0 (w'.heap[gb152]? = some (.cells #[(.slice none 0 0)] 43 (0, 0))) ∧ Aside0 (Below w.heap.size w w'))
 case atStart => exact ⟨(a0), (([] : List Int)), (0), rS, rS, H', ⟨Nat.le_refl _⟩, ⟨by first | exact Kd.R_nil _ _ _ _ _ | exact Kd.N_nil _ _ _ _ _ | exact Kd.V_nil _ _ _ _ _ | exact Kd.Q_nil _ _ _ _ _ | exact Kd.S_nil _ _ _ _ _⟩, ⟨bK BK152⟩, ⟨ bH HB⟩⟩
 case round =>
  clear H'
  (try clear c1); (try clear p2)
  obtain ⟨x0_1, x3_1, x4_1, rfl, rfl, HA, HK1, HO_3, BK152, HB⟩ := hrel
  cases gk with
  | zero => exact absurd HA.out (by simp [rf08_Of.l0])
  | succ k1 =>
   have H := HA.out; clear HA
   simp only [rf08_Of.l0] at H
   by_cases c3 : x4_1 < 8
   ·rw [if_pos c3] at H
    have c3b0 := decide_eq_true c3; clear c3
    by_cases c4 : (Int.tmod x0_1 65536) < 0
    ·rw [if_pos c4] at H
     have c4b0 := decide_eq_true c4; clear c4
     by_cases c5 : x3_1.length < 17592186044416
     ·rw [if_pos c5] at H
      have LMc5 := AM c5
      clear c5
      obtain ⟨y153, hy153⟩ : ∃ y_ : List Int, y_ = (x3_1 ++ [wrap64 ((Int.tmod x0_1 65536) + 65536)]) := ⟨_, rfl⟩
      replace H : (rf08_Of.l0 k1 (wrap64 (Int.tdiv (wrap64 (x0_1 - (wrap64 ((Int.tmod x0_1 65536) + 65536)))) 65536)) y153 (wrap64 (x4_1 + 1))) = some r := by first | (rw [hy153]; with_reducible exact H) | (have H2_ := (Option.bind_some _ _).symm.trans H; rw [hy153]; with_reducible exact H2_) | (have H2_ := (Option.bind_some _ _).symm.trans H; with_reducible exact H2_) | with_reducible exact H | (rw [hy153]; exact H) | exact H
      have Ny153 := AM hy153
      clear hy153
      have H' := AM H
      clear H
      go_wp2_with (first | ((with_reducible refine gate_builtin (b := .append) (xs := #[.tmp 16, .tmp 18]) rfl ?_); at_builtin; refine Kd.R_append (Kd.int .i64) (w0 := w) w.heap.size rfl (.tmp 16) (.tmp 18) 32 3 (.int .i64 0) 8 rfl Try.underlying32 info3 rfl (by decide) (by omega) u3 x3_1 (wrap64 ((Int.tmod x0_1 65536) + 65536)) [.int .i64 (wrap64 ((Int.tmod x0_1 65536) + 65536))] (fun _ => True) (fun _ => False) rfl rfl ?aP (fun _ hk => hk.elim) ?aF ?aO ?aB ?aS ?aL ?_; (case aP => exact rfl); (case aB => exact (bH HB)); (case aF => exact (fun _ _ => trivial)); (case aO => exact (rK HO_3)); (case aS => exact (below_size (bH HB))); (case aL => have := LMc5.out; omega); intro v154 w6 ho hb hg hat; rw [← Ny153.out] at ho; replace BK152 := AM (blk_grown (g := gb152) (o := .cells #[.slice none 0 0] 43 (0, 0)) (bK BK152) hg (Kd.R_ne HO_3.out BK152.out (by decide))); replace HB := AM hb; have HO155 := AM ho; clear HO_3; clear ho hb hg hat))
      go_roundg k1
      case measure => have := HK1.out; omega
      case rel => exact ⟨(wrap64 (Int.tdiv (wrap64 (x0_1 - (wrap64 ((Int.tmod x0_1 65536) + 65536)))) 65536)), (y153), (wrap64 (x4_1 + 1)), rS, rS, H', ⟨by have := HK1.out; omega⟩, ⟨rK HO155⟩, ⟨bK BK152⟩, ⟨ bH HB⟩⟩
     ·rw [if_neg c5] at H
      exact absurd H (by simp)
    ·rw [if_neg c4] at H
     have c4b0 := decide_eq_false c4; clear c4
     by_cases c7 : x3_1.length < 17592186044416
     ·rw [if_pos c7] at H
      have LMc7 := AM c7
      clear c7
      obtain ⟨y156, hy156⟩ : ∃ y_ : List Int, y_ = (x3_1 ++ [Int.tmod x0_1 65536]) := ⟨_, rfl⟩
      replace H : (rf08_Of.l0 k1 (wrap64 (Int.tdiv (wrap64 (x0_1 - (Int.tmod x0_1 65536))) 65536)) y156 (wrap64 (x4_1 + 1))) = some r := by first | (rw [hy156]; with_reducible exact H) | (have H2_ := (Option.bind_some _ _).symm.trans H; rw [hy156]; with_reducible exact H2_) | (have H2_ := (Option.bind_some _ _).symm.trans H; with_reducible exact H2_) | with_reducible exact H | (rw [hy156]; exact H) | exact H
      have Ny156 := AM hy156
      clear hy156
      have H' := AM H
      clear H
      go_wp2_with (first | ((with_reducible refine gate_builtin (b := .append) (xs := #[.tmp 16, .tmp 18]) rfl ?_); at_builtin; refine Kd.R_append (Kd.int .i64) (w0 := w) w.heap.size rfl (.tmp 16) (.tmp 18) 32 3 (.int .i64 0) 8 rfl Try.underlying32 info3 rfl (by decide) (by omega) u3 x3_1 (Int.tmod x0_1 65536) [.int .i64 (Int.tmod x0_1 65536)] (fun _ => True) (fun _ => False) rfl rfl ?aP (fun _ hk => hk.elim) ?aF ?aO ?aB ?aS ?aL ?_; (case aP => exact rfl); (case aB => exact (bH HB)); (case aF => exact (fun _ _ => trivial)); (case aO => exact (rK HO_3)); (case aS => exact (below_size (bH HB))); (case aL => have := LMc7.out; omega); intro v157 w8 ho hb hg hat; rw [← Ny156.out] at ho; replace BK152 := AM (blk_grown (g := gb152) (o := .cells #[.slice none 0 0] 43 (0, 0)) (bK BK152) hg (Kd.R_ne HO_3.out BK152.out (by decide))); replace HB := AM hb; have HO158 := AM ho; clear HO_3; clear ho hb hg hat))
      go_roundg k1
      case measure => have := HK1.out; omega
      case rel => exact ⟨(wrap64 (Int.tdiv (wrap64 (x0_1 - (Int.tmod x0_1 65536))) 65536)), (y156), (wrap64 (x4_1 + 1)), rS, rS, H', ⟨by have := HK1.out; omega⟩, ⟨rK HO158⟩, ⟨bK BK152⟩, ⟨ bH HB⟩⟩
     ·rw [if_neg c7] at H
      exact absurd H (by simp)
   ·rw [if_neg c3] at H
    have c3b0 := decide_eq_false c3; clear c3
    obtain rfl := Option.some.inj H
    obtain ⟨Ao9, co9, eo9⟩ := Kd.R_slice HO_3.out
    subst eo9
    obtain ⟨hcz10_0, hfz10_0⟩ := c1 BK152
    go_wp2
    refine bodyPost_ret (results_cell_row rfl _ _ gb152 43 #[.slice Ao9 x3_1.length co9] (0, 0) _ rfl (by (with_reducible repeat (first | refine blk_drewN ?_ _ | refine blk_drew ?_ | refine blk_alloc ?_ _)); refine blk_put (cs := #[.slice none 0 0]) ?_ 0 _ rfl; (with_reducible repeat (first | refine blk_drewN ?_ _ | refine blk_drew ?_ | refine blk_alloc ?_ _)); exact BK152.out) Try.underlying43 rfl (by kernel_rfl)) rfl ?_
    exact ⟨_, rE, by (with_reducible repeat (first | apply Kd.R_alloc | apply Kd.R_drewN | apply Kd.R_drew)); exact Kd.R_mono (Kd.R_far (p := ⟨gb152, 0, none⟩) (Kd.R_types HO_3.out BK152.out (by decide)) (fun _ hk => hk.2) (.slice Ao9 x3_1.length co9)) (fun _ hk => trivial), bH HB⟩

def rf08_settled.l0 : Nat → List Int → List Int → Int → Int → Option (List Int)
 | 0, _, _, _, _ => none
 | k + 1, x0, x3, x4, x5 => if x5 < 8 then (if 0 ≤ x5 then (if x5 < (x0.length : Int) then (if x3.length < 17592186044416 then (rf08_settled.l0 k x0 (x3 ++ [Int.tmod (wrap64 (x4 + (rd x0 x5))) 65536]) (wrap64 (Int.tdiv (wrap64 (x4 + (rd x0 x5))) 65536)) (wrap64 (x5 + 1))) else (none)) else (none)) else (none)) else (some x3)
def rf08_settled.f (k : Nat) (l0 : List Int) : Option (List Int) := rf08_settled.l0 k l0 ([] : List Int) 0 0
theorem rf08_settled.mono_l : ∀ k, (∀ y0 y1 y2 y3, LeO (rf08_settled.l0 k y0 y1 y2 y3) (rf08_settled.l0 (k + 1) y0 y1 y2 y3))
 | 0 => fun _ _ _ _ r h => by simp [rf08_settled.l0] at h
 | k + 1 => by
  have ih0 := rf08_settled.mono_l k
  ·intro y0 y1 y2 y3
   unfold rf08_settled.l0
   repeat' first
   | (with_reducible exact ih0 _ _ _ _)
   | (with_reducible exact LeO.refl _)
   | (with_reducible exact LeO.none _)
   | (with_reducible refine LeO.ite ?_ ?_)
   | (with_reducible refine LeO.bind ?_ (fun _ => ?_))
   | exact ih0 _ _ _ _
   | exact LeO.none _
   | refine LeO.ite ?_ ?_
   | refine LeO.bind ?_ (fun _ => ?_)
theorem rf08_settled.mono : ∀ a0 k, LeO (rf08_settled.f k a0) (rf08_settled.f (k + 1) a0) := by
 intro a0 k
 have ih0 := rf08_settled.mono_l k
 unfold rf08_settled.f
 repeat' first
   | (with_reducible exact ih0 _ _ _ _)
   | (with_reducible exact LeO.refl _)
   | (with_reducible exact LeO.none _)
   | (with_reducible refine LeO.ite ?_ ?_)
   | (with_reducible refine LeO.bind ?_ (fun _ => ?_))
   | exact ih0 _ _ _ _
   | exact LeO.none _
   | refine LeO.ite ?_ ?_
   | refine LeO.bind ?_ (fun _ => ?_)
set_option maxHeartbeats 8000000 in
set_option maxRecDepth 100000 in
theorem rf08_settled.calls (k : Nat) (A0 : Option Addr) (c0 : Nat) (l0 : List Int) (r : List Int) (w : World) (hr0 : Kd.C (Kd.int .i64) w A0 l0.length l0) (hc0 : l0.length ≤ c0) (h : rf08_settled.f k l0 = some r) :
  Calls Try.prog 47 #[.slice A0 l0.length c0] w fun e w' => ∃ v0_ : Value, e = .returned (.agg #[v0_]) ∧ Kd.R (Kd.int .i64) 3 w' w.heap.size (fun _ => True) v0_ r ∧ Below w.heap.size w w' := by
 have hu43 := Try.underlying43
 have HR0 := AM hr0
 have HC0 := AM hc0
 clear hr0 hc0
 have HB := AM (Below.refl w.heap.size w)
 have H : (rf08_settled.l0 k l0 ([] : List Int) 0 0) = some r := h
 clear h
 have H' := AM H
 clear H
 go_enter Try.func47, Try.ntmps47
 go_wp2_with (first | ((with_reducible refine gate_dst (N := 2) rfl ?_); refine bE 2 #[.slice none 0 0] 43 ?_; intro gb159 hg w2 hbox hb; have BK159 := AM hbox; have GW159 := kG HB hg; replace HB := kH HB hb; have GE159 := GW159; clear hb hbox hg))
 go_loopg [3, 4, 5] k (fun kq v3 v4 v5 w' => ∃ (x3_1 : List Int) (x4_1 : Int) (x5_1 : Int), v4 = .int .i64 x4_1 ∧ v5 = .int .i64 x5_1 ∧ Aside0 (rf08_settled.l0 kq l0 x3_1 x4_1 x5_1 = some r) ∧ Aside0 (kq ≤ k) ∧ Aside0 (Kd.R (Kd.int .i64) 3 w' w.heap.size (fun _ => True) v3 x3_1) ∧ Aside0 (w'.heap[gb159]? = some (.cells #[(.slice none 0 0)] 43 (0, 0))) ∧ Aside0 (Below w.heap.size w w'))
 case atStart => exact ⟨(([] : List Int)), (0), (0), rS, rS, H', ⟨Nat.le_refl _⟩, ⟨by first | exact Kd.R_nil _ _ _ _ _ | exact Kd.N_nil _ _ _ _ _ | exact Kd.V_nil _ _ _ _ _ | exact Kd.Q_nil _ _ _ _ _ | exact Kd.S_nil _ _ _ _ _⟩, ⟨bK BK159⟩, ⟨ bH HB⟩⟩
 case round =>
  clear H'
  (try clear p2)
  obtain ⟨x3_1, x4_1, x5_1, rfl, rfl, HA, HK1, HO_3, BK159, HB⟩ := hrel
  cases gk with
  | zero => exact absurd HA.out (by simp [rf08_settled.l0])
  | succ k1 =>
   have H := HA.out; clear HA
   simp only [rf08_settled.l0] at H
   by_cases c3 : x5_1 < 8
   ·rw [if_pos c3] at H
    have c3b0 := decide_eq_true c3; clear c3
    by_cases c4 : 0 ≤ x5_1
    ·rw [if_pos c4] at H
     have c4b0 := decide_eq_true c4; clear c4
     by_cases c5 : x5_1 < (l0.length : Int)
     ·rw [if_pos c5] at H
      have c5b0 := decide_eq_true c5; clear c5
      by_cases c6 : x3_1.length < 17592186044416
      ·rw [if_pos c6] at H
       have LMc6 := AM c6
       clear c6
       obtain ⟨y161, hy161⟩ : ∃ y_ : List Int, y_ = (x3_1 ++ [Int.tmod (wrap64 (x4_1 + (rd l0 x5_1))) 65536]) := ⟨_, rfl⟩
       replace H : (rf08_settled.l0 k1 l0 y161 (wrap64 (Int.tdiv (wrap64 (x4_1 + (rd l0 x5_1))) 65536)) (wrap64 (x5_1 + 1))) = some r := by first | (rw [hy161]; with_reducible exact H) | (have H2_ := (Option.bind_some _ _).symm.trans H; rw [hy161]; with_reducible exact H2_) | (have H2_ := (Option.bind_some _ _).symm.trans H; with_reducible exact H2_) | with_reducible exact H | (rw [hy161]; exact H) | exact H
       have Ny161 := AM hy161
       clear hy161
       have H' := AM H
       clear H
       have p160 : 0 ≤ (x5_1 : Int) := pD
       have q160 : x5_1 < (l0.length : Int) := pD
       obtain ⟨ad160, e160, hx160_0⟩ := Kd.at_int HR0.out x5_1 p160 q160
       cases e160
       replace hx160_0 := hW HB hx160_0; replace p160 := eq_true p160; replace q160 := eq_true q160
       go_wp2_with (first | ((with_reducible refine gate_builtin (b := .append) (xs := #[.tmp 16, .tmp 19]) rfl ?_); at_builtin; refine Kd.R_append (Kd.int .i64) (w0 := w) w.heap.size rfl (.tmp 16) (.tmp 19) 32 3 (.int .i64 0) 8 rfl Try.underlying32 info3 rfl (by decide) (by omega) u3 x3_1 (Int.tmod (wrap64 (x4_1 + (rd l0 x5_1))) 65536) [.int .i64 (Int.tmod (wrap64 (x4_1 + (rd l0 x5_1))) 65536)] (fun _ => True) (fun _ => False) rfl rfl ?aP (fun _ hk => hk.elim) ?aF ?aO ?aB ?aS ?aL ?_; (case aP => exact rfl); (case aB => exact (bH HB)); (case aF => exact (fun _ _ => trivial)); (case aO => exact (rK HO_3)); (case aS => exact (below_size (bH HB))); (case aL => have := LMc6.out; omega); intro v162 w7 ho hb hg hat; rw [← Ny161.out] at ho; replace BK159 := AM (blk_grown (g := gb159) (o := .cells #[.slice none 0 0] 43 (0, 0)) (bK BK159) hg (Kd.R_ne HO_3.out BK159.out (by decide))); replace HB := AM hb; have HO163 := AM ho; clear HO_3; clear ho hb hg hat))
       go_roundg k1
       case measure => have := HK1.out; omega
       case rel => exact ⟨(y161), (wrap64 (Int.tdiv (wrap64 (x4_1 + (rd l0 x5_1))) 65536)), (wrap64 (x5_1 + 1)), rS, rS, H', ⟨by have := HK1.out; omega⟩, ⟨rK HO163⟩, ⟨bK BK159⟩, ⟨ bH HB⟩⟩
      ·rw [if_neg c6] at H
       exact absurd H (by simp)
     ·rw [if_neg c5] at H
      exact absurd H (by simp)
    ·rw [if_neg c4] at H
     exact absurd H (by simp)
   ·rw [if_neg c3] at H
    have c3b0 := decide_eq_false c3; clear c3
    obtain rfl := Option.some.inj H
    obtain ⟨Ao8, co8, eo8⟩ := Kd.R_slice HO_3.out
    subst eo8
    obtain ⟨hcz9_0, hfz9_0⟩ := c1 BK159
    go_wp2
    refine bodyPost_ret (results_cell_row rfl _ _ gb159 43 #[.slice Ao8 x3_1.length co8] (0, 0) _ rfl (by (with_reducible repeat (first | refine blk_drewN ?_ _ | refine blk_drew ?_ | refine blk_alloc ?_ _)); refine blk_put (cs := #[.slice none 0 0]) ?_ 0 _ rfl; (with_reducible repeat (first | refine blk_drewN ?_ _ | refine blk_drew ?_ | refine blk_alloc ?_ _)); exact BK159.out) Try.underlying43 rfl (by kernel_rfl)) rfl ?_
    exact ⟨_, rE, by (with_reducible repeat (first | apply Kd.R_alloc | apply Kd.R_drewN | apply Kd.R_drew)); exact Kd.R_mono (Kd.R_far (p := ⟨gb159, 0, none⟩) (Kd.R_types HO_3.out BK159.out (by decide)) (fun _ hk => hk.2) (.slice Ao8 x3_1.length co8)) (fun _ hk => trivial), bH HB⟩

def rf08_Add.l0 : Nat → List Int → Int → List Int → List Int → Option (List Int)
 | 0, _, _, _, _ => none
 | k + 1, x5, x6, x165000, x166000 => if x6 < 8 then (if 0 ≤ x6 then (if x6 < (x165000.length : Int) then (if x6 < (x166000.length : Int) then (if x5.length < 17592186044416 then (rf08_Add.l0 k (x5 ++ [wrap64 ((rd x165000 x6) + (rd x166000 x6))]) (wrap64 (x6 + 1)) x165000 x166000) else (none)) else (none)) else (none)) else (none)) else ((rf08_settled.f k x5).bind fun t172 => (some t172))
def rf08_Add.f (k : Nat) (l0_0 : List Int) (l1_0 : List Int) : Option (List Int) := rf08_Add.l0 k ([] : List Int) 0 l0_0 l1_0
theorem rf08_Add.mono_l : ∀ k, (∀ y0 y1 y2 y3, LeO (rf08_Add.l0 k y0 y1 y2 y3) (rf08_Add.l0 (k + 1) y0 y1 y2 y3))
 | 0 => fun _ _ _ _ r h => by simp [rf08_Add.l0] at h
 | k + 1 => by
  have ih0 := rf08_Add.mono_l k
  ·intro y0 y1 y2 y3
   unfold rf08_Add.l0
   repeat' first
   | (with_reducible exact ih0 _ _ _ _)
   | (with_reducible exact rf08_settled.mono _ _)
   | (with_reducible exact LeO.refl _)
   | (with_reducible exact LeO.none _)
   | (with_reducible refine LeO.ite ?_ ?_)
   | (with_reducible refine LeO.bind ?_ (fun _ => ?_))
   | exact ih0 _ _ _ _
   | exact rf08_settled.mono _ _
   | exact LeO.none _
   | refine LeO.ite ?_ ?_
   | refine LeO.bind ?_ (fun _ => ?_)
theorem rf08_Add.mono : ∀ a0 a1 k, LeO (rf08_Add.f k a0 a1) (rf08_Add.f (k + 1) a0 a1) := by
 intro a0 a1 k
 have ih0 := rf08_Add.mono_l k
 unfold rf08_Add.f
 repeat' first
   | (with_reducible exact ih0 _ _ _ _)
   | (with_reducible exact rf08_settled.mono _ _)
   | (with_reducible exact LeO.refl _)
   | (with_reducible exact LeO.none _)
   | (with_reducible refine LeO.ite ?_ ?_)
   | (with_reducible refine LeO.bind ?_ (fun _ => ?_))
   | exact ih0 _ _ _ _
   | exact rf08_settled.mono _ _
   | exact LeO.none _
   | refine LeO.ite ?_ ?_
   | refine LeO.bind ?_ (fun _ => ?_)
def rf08_Add.T5 : Bool × List (List Nat × List Nat) := (true, [([], []), ([], []), ([1], [1]), ([], []), ([2, 3], [2, 3]), ([4], [4]), ([], []), ([6], [6]), ([], []), ([7, 8], [7, 8]), ([9], [9]), ([5, 10], [5, 10]), ([11], [11]), ([0, 12], [0, 12]), ([13, 13, 0, 1, 2, 3, 4, 5, 6, 7, 8, 9, 10, 11, 12, 13], [0, 13])])
def rf08_Add.B5 : List Nat := [0, 0, 2, 0, 14, 30, 0, 64, 0, 448, 960, 2046, 4094, 8191, 16383]
theorem rf08_Add.tab5 : rtab .any (opsOf Try.f19 5) = rf08_Add.T5 := by kernel_rfl
theorem rf08_Add.bits5 : waitsOk rf08_Add.T5.2 rf08_Add.B5 = true := by kernel_rfl
set_option maxHeartbeats 8000000 in
set_option maxRecDepth 100000 in
theorem rf08_Add.calls (k : Nat) (A0_0 : Option Addr) (c0_0 : Nat) (l0_0 : List Int) (A1_0 : Option Addr) (c1_0 : Nat) (l1_0 : List Int) (r : List Int) (w : World) (hr0_0 : Kd.C (Kd.int .i64) w A0_0 l0_0.length l0_0) (hc0_0 : l0_0.length ≤ c0_0) (hr1_0 : Kd.C (Kd.int .i64) w A1_0 l1_0.length l1_0) (hc1_0 : l1_0.length ≤ c1_0) (h : rf08_Add.f k l0_0 l1_0 = some r) :
  Calls Try.prog 19 #[.agg #[.slice A0_0 l0_0.length c0_0], .agg #[.slice A1_0 l1_0.length c1_0]] w fun e w' => ∃ v0_ : Value, e = .returned (.agg #[v0_]) ∧ Kd.R (Kd.int .i64) 3 w' w.heap.size (fun _ => True) v0_ r ∧ Below w.heap.size w w' := by
 have hu43 := Try.underlying43
 have HR0_0 := AM hr0_0
 have HC0_0 := AM hc0_0
 clear hr0_0 hc0_0
 have HR1_0 := AM hr1_0
 have HC1_0 := AM hc1_0
 clear hr1_0 hc1_0
 have HB := AM (Below.refl w.heap.size w)
 have H : (rf08_Add.l0 k ([] : List Int) 0 l0_0 l1_0) = some r := h
 clear h
 have H' := AM H
 clear H
 go_enter Try.func19, Try.ntmps19
 go_wp2_with (first | ((with_reducible refine gate_dst (N := 2) rfl ?_); refine bE 2 #[.slice A0_0 l0_0.length c0_0] 43 ?_; intro gb164 hg w3 hbox hb; have BK164 := AM hbox; have GW164 := kG HB hg; replace HB := kH HB hb; have GE164 := GW164; clear hb hbox hg) | ((with_reducible refine gate_dst (N := 3) rfl ?_); refine bE 3 #[.slice A1_0 l1_0.length c1_0] 43 ?_; intro gb165 hg w4 hbox hb; have BK165 := AM hbox; have GW165 := kG HB hg; replace HB := kH HB hb; have GE165 := GW165; have NB164_165 := kN BK164 hg; have NB165_164 := kM BK164 hg; replace BK164 := kB BK164 hb; clear hb hbox hg) | ((with_reducible refine gate_dst (N := 4) rfl ?_); refine bE 4 #[.slice none 0 0] 43 ?_; intro gb166 hg w5 hbox hb; have BK166 := AM hbox; have GW166 := kG HB hg; replace HB := kH HB hb; have GE166 := GW166; have NB164_166 := kN BK164 hg; have NB166_164 := kM BK164 hg; replace BK164 := kB BK164 hb; have NB165_166 := kN BK165 hg; have NB166_165 := kM BK165 hg; replace BK165 := kB BK165 hb; clear hb hbox hg))
 go_loopg [5, 6] k (fun kq v5 v6 w' => ∃ (x5_1 : List Int) (x6_1 : Int), v6 = .int .i64 x6_1 ∧ Aside0 (rf08_Add.l0 kq x5_1 x6_1 l0_0 l1_0 = some r) ∧ Aside0 (kq ≤ k) ∧ Aside0 (Kd.R (Kd.int .i64) 3 w' w.heap.size (fun _ => True) v5 x5_1) ∧ Aside0 (w'.heap[gb164]? = some (.cells #[(.slice A0_0 l0_0.length c0_0)] 43 (0, 0))) ∧ Aside0 (w'.heap[gb165]? = some (.cells #[(.slice A1_0 l1_0.length c1_0)] 43 (0, 0))) ∧ Aside0 (w'.heap[gb166]? = some (.cells #[(.slice none 0 0)] 43 (0, 0))) ∧ Aside0 (Below w.heap.size w w'))
 case atStart => exact ⟨(([] : List Int)), (0), rS, H', ⟨Nat.le_refl _⟩, ⟨by first | exact Kd.R_nil _ _ _ _ _ | exact Kd.N_nil _ _ _ _ _ | exact Kd.V_nil _ _ _ _ _ | exact Kd.Q_nil _ _ _ _ _ | exact Kd.S_nil _ _ _ _ _⟩, ⟨bK BK164⟩, ⟨bK BK165⟩, ⟨bK BK166⟩, ⟨ bH HB⟩⟩
 case round =>
  clear H'
  (try clear c1); (try clear p2)
  obtain ⟨x5_1, x6_1, rfl, HA, HK1, HO_5, BK164, BK165, BK166, HB⟩ := hrel
  cases gk with
  | zero => exact absurd HA.out (by simp [rf08_Add.l0])
  | succ k1 =>
   have H := HA.out; clear HA
   simp only [rf08_Add.l0] at H
   by_cases c6 : x6_1 < 8
   ·rw [if_pos c6] at H
    have c6b0 := decide_eq_true c6; clear c6
    by_cases c7 : 0 ≤ x6_1
    ·rw [if_pos c7] at H
     have c7b0 := decide_eq_true c7; clear c7
     by_cases c8 : x6_1 < (l0_0.length : Int)
     ·rw [if_pos c8] at H
      have c8b0 := decide_eq_true c8; clear c8
      by_cases c9 : x6_1 < (l1_0.length : Int)
      ·rw [if_pos c9] at H
       have c9b0 := decide_eq_true c9; clear c9
       by_cases c10 : x5_1.length < 17592186044416
       ·rw [if_pos c10] at H
        have LMc10 := AM c10
        clear c10
        obtain ⟨y169, hy169⟩ : ∃ y_ : List Int, y_ = (x5_1 ++ [wrap64 ((rd l0_0 x6_1) + (rd l1_0 x6_1))]) := ⟨_, rfl⟩
        replace H : (rf08_Add.l0 k1 y169 (wrap64 (x6_1 + 1)) l0_0 l1_0) = some r := by first | (rw [hy169]; with_reducible exact H) | (have H2_ := (Option.bind_some _ _).symm.trans H; rw [hy169]; with_reducible exact H2_) | (have H2_ := (Option.bind_some _ _).symm.trans H; with_reducible exact H2_) | with_reducible exact H | (rw [hy169]; exact H) | exact H
        have Ny169 := AM hy169
        clear hy169
        have H' := AM H
        clear H
        try go_wp2
        replace HO_5 := dR HO_5; replace BK164 := dB BK164; replace BK165 := dB BK165; replace BK166 := dB BK166; replace HB := dH HB
        have p167 : 0 ≤ (x6_1 : Int) := pD
        have q167 : x6_1 < (l0_0.length : Int) := pD
        obtain ⟨ad167, e167, hx167_0⟩ := Kd.at_int HR0_0.out x6_1 p167 q167
        have hw167_0 := hx167_0
        cases e167
        replace hx167_0 := hW HB hx167_0; replace p167 := eq_true p167; replace q167 := eq_true q167
        have p168 : 0 ≤ (x6_1 : Int) := pD
        have q168 : x6_1 < (l1_0.length : Int) := pD
        obtain ⟨ad168, e168, hx168_0⟩ := Kd.at_int HR1_0.out x6_1 p168 q168
        have hw168_0 := hx168_0
        cases e168
        replace hx168_0 := hW HB hx168_0; replace p168 := eq_true p168; replace q168 := eq_true q168
        refine sP 15 (S := fun w' => w'.cell? ⟨gb164, 0, none⟩ = some (.slice (some ad167) l0_0.length c0_0) ∧ w'.cell? ⟨gb165, 0, none⟩ = some (.slice (some ad168) l1_0.length c1_0) ∧ w'.cell? (ad167.add (x6_1).toNat) = some (.int .i64 (rd l0_0 x6_1)) ∧ w'.cell? (ad168.add (x6_1).toNat) = some (.int .i64 (rd l1_0 x6_1))) (ds := []) ⟨bC BK164, bC BK165, (hW HB hw167_0), (hW HB hw168_0)⟩ fun hHeld => ?_; refine with_tabW rf08_Add.tab5 rf08_Add.bits5 (fun HT_ HW_ => ?_)
        generalize wr.drew = w11 at HO_5 BK164 BK165 BK166 HB hx167_0 hx168_0 hHeld ⊢
        refine pQ 0 (some 11) HT_ ?_; refine pQ 1 (some 12) HT_ ?_; refine pQ 3 (some 14) HT_ ?_; refine pQ 6 (some 17) HT_ ?_; refine pQ 8 (some 19) HT_ ?_; refine tQ 2 (some 13) HT_ HW_ hHeld ?_; refine pQ 4 (some 15) HT_ ?_; refine tQ 5 (some 16) HT_ HW_ hHeld ?_; refine tQ 7 (some 18) HT_ HW_ hHeld ?_; refine pQ 9 (some 20) HT_ ?_; refine tQ 10 (some 21) HT_ HW_ hHeld ?_; refine pQ 11 (some 22) HT_ ?_
        refine oQ 12 (some 23) HT_ rfl fun K hK => ?_
        refine value_ (w1 := ?_) (v := ?_) (by rfl) rfl ?_ ?_
        rotate_left 2
        ·go_simp
         constructor
         ·rfl
         ·rfl
        refine hK.out _ _ ⟨(blk_cell (blk_alloc BK164.out _) 0).trans rfl, (blk_cell (blk_alloc BK165.out _) 0).trans rfl, (World.cell?_alloc_lt _ _ _ (World.block_lt_of_cell? _ _ ((hW HB hw167_0)))).trans ((hW HB hw167_0)), (World.cell?_alloc_lt _ _ _ (World.block_lt_of_cell? _ _ ((hW HB hw168_0)))).trans ((hW HB hw168_0))⟩ (fun hHeld => ?_)
        clear hK K; refine nP (some 23) ?_
        refine oQ 13 (some 24) HT_ rfl fun K hK => ?_
        refine Kd.R_append_step (Kd.int .i64) (w0 := w) w.heap.size (by rfl) (.tmp 11) (.tmp 23) 32 3 (.int .i64 0) 8 rfl Try.underlying32 info3 rfl (by decide) (by omega) u5 x5_1 (wrap64 ((rd l0_0 x6_1) + (rd l1_0 x6_1))) [.int .i64 (wrap64 ((rd l0_0 x6_1) + (rd l1_0 x6_1)))] (fun _ => True) (fun _ => False) rfl rfl ?aP (fun _ hk => hk.elim) ?aF ?aO ?aB ?aS ?aL ?_
        (case aP => exact rfl)
        (case aB => exact (bH HB))
        (case aF => exact (fun _ _ => trivial))
        (case aO => exact (rK HO_5))
        (case aS => exact (below_size (bH HB)))
        (case aL => have := LMc10.out; omega)
        intro v170 w12 ho hb hg hat
        rw [← Ny169.out] at ho
        replace BK164 := AM (blk_grown (g := gb164) (o := .cells #[.slice (some ad167) l0_0.length c0_0] 43 (0, 0)) (bK BK164) hg (Kd.R_ne HO_5.out BK164.out (by decide)))
        replace BK165 := AM (blk_grown (g := gb165) (o := .cells #[.slice (some ad168) l1_0.length c1_0] 43 (0, 0)) (bK BK165) hg (Kd.R_ne HO_5.out BK165.out (by decide)))
        replace BK166 := AM (blk_grown (g := gb166) (o := .cells #[.slice none 0 0] 43 (0, 0)) (bK BK166) hg (Kd.R_ne HO_5.out BK166.out (by decide)))
        replace HB := AM hb; have HO171 := AM ho; clear HO_5; clear ho hb hg hat
        refine hK.out _ _ ⟨bC BK164, bC BK165, (hW HB hw167_0), (hW HB hw168_0)⟩ (fun hHeld => ?_)
        clear hK K; refine nP (some 24) ?_; refine pQ 14 (some 5) HT_ ?_
        refine done_ (done_of HT_.out (by kernel_rfl)) ?_
        try go_wp2
        go_roundg k1
        case measure => have := HK1.out; omega
        case rel => exact ⟨(y169), (wrap64 (x6_1 + 1)), rS, H', ⟨by have := HK1.out; omega⟩, ⟨rK HO171⟩, ⟨bK BK164⟩, ⟨bK BK165⟩, ⟨bK BK166⟩, ⟨ bH HB⟩⟩
       ·rw [if_neg c10] at H
        exact absurd H (by simp)
      ·rw [if_neg c9] at H
       exact absurd H (by simp)
     ·rw [if_neg c8] at H
      exact absurd H (by simp)
    ·rw [if_neg c7] at H
     exact absurd H (by simp)
   ·rw [if_neg c6] at H
    have c6b0 := decide_eq_false c6; clear c6
    obtain ⟨t172, A13, H⟩ := bS H
    obtain rfl := Option.some.inj H
    obtain ⟨Ao14, co14, eo14⟩ := Kd.R_slice HO_5.out
    subst eo14
    go_wp2_with (first | ((with_reducible refine gate_callee (f := 47) rfl ?_); refine gL (some 26) Try.func47 #[.slice Ao14 x5_1.length co14] ?_; (with_reducible refine (rf08_settled.calls k1 _ _ x5_1 t172 _ ?side1 ?side2 A13.out).mono ?_); (case side1 => exact sR HO_5); (case side2 => exact (Kd.R_reads' HO_5.out).2.1); rintro e w15 ⟨v173, rfl, ho0, hb⟩; refine ⟨_, rfl, ?_⟩; have HO174 := AM (Kd.R_lower (Kd.R_new' ho0 (Kd.R_lt (rK HO_5))) (below_size (bH HB))); replace HO_5 := AM (Kd.R_elder' (rK HO_5) (Kd.R_base ho0) hb); replace BK164 := kB BK164 hb; replace BK165 := kB BK165 hb; replace BK166 := kB BK166 hb; replace HB := kH HB hb; (try clear hb); (try clear hb2); (try clear hk); (try clear hi); (try clear ho0); obtain ⟨Ao16, co16, eo16⟩ := Kd.R_slice HO174.out; subst eo16; have hnb17 := NB166_164.out; have hnc17 := NB164_166.out; have hnb18 := NB166_165.out; have hnc18 := NB165_166.out; obtain ⟨hcz19_0, hfz19_0⟩ := c1 BK166))
    refine bodyPost_ret (results_cell_row rfl _ _ gb166 43 #[.slice Ao16 t172.length co16] (0, 0) _ rfl (by (with_reducible repeat (first | refine blk_drewN ?_ _ | refine blk_drew ?_ | refine blk_alloc ?_ _)); refine blk_put (cs := #[.slice none 0 0]) ?_ 0 _ rfl; (with_reducible repeat (first | refine blk_drewN ?_ _ | refine blk_drew ?_ | refine blk_alloc ?_ _)); exact BK166.out) Try.underlying43 rfl (by kernel_rfl)) rfl ?_
    exact ⟨_, rE, by (with_reducible repeat (first | apply Kd.R_alloc | apply Kd.R_drewN | apply Kd.R_drew)); exact Kd.R_mono (Kd.R_far (p := ⟨gb166, 0, none⟩) (Kd.R_types HO174.out BK166.out (by decide)) (fun _ hk => hk.2) (.slice Ao16 t172.length co16)) (fun _ hk => trivial), bH HB⟩
end Go.Proofs.Ytbonkedecfjmdaa.P
