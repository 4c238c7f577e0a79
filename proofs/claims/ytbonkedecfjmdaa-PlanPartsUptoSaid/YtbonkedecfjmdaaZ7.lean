/- Written for this claim by a program of this session (a turned copy of the print): Go functions as Lean functions, and that the Go code comes to just these answers; or a statement proved out of them. No condition. -/
import Derived.Test.YtbonkedecfjmdaaZ2
import Derived.Test.YtbonkedecfjmdaaZ5
import Derived.Test.YtbonkedecfjmdaaZ6
import Derived.Test.YtbonkedecfjmdaaZ4

namespace Go.Proofs.Ytbonkedecfjmdaa.P
open Go.RowKit Go.Proofs.YtbonkedecfjmdaaW.PrintWords Go.Proofs.YtbonkedecfjmdaaW.PrintLast Go.Proofs.YtbonkedecfjmdaaW.PrintMore Go.Proofs.Ytbonkedecfjmdaa.X
attribute [local go_sem] max2_int min2_int max_two min_two max_three min_three max_four min_four add64_0 add64_1 add64
set_option linter.unusedVariables false
set_option linter.unusedSimpArgs false
mutual
def rf09_Area.l0 : Nat → List (S27) → Int → List Int → Option (List Int)
 | 0, _, _, _ => none
 | k + 1, x0, x4, x217000 => if x4 < (x0.length : Int) then (if (wrap64 (x4 + 1)) = (x0.length : Int) then (rf09_Area.j1 k x0 x4 0 x217000) else (rf09_Area.j1 k x0 x4 (wrap64 (x4 + 1)) x217000)) else (some x217000)
def rf09_Area.j1 : Nat → List (S27) → Int → Int → List Int → Option (List Int)
 | 0, _, _, _, _ => none
 | k + 1, x0, x4, x5, x217000 => if 0 ≤ x4 then (if x4 < (x0.length : Int) then (if 0 ≤ x5 then (if x5 < (x0.length : Int) then ((rf09_product.f k ((rd_T27 x0 x4).f0) ((rd_T27 x0 x5).f1)).bind fun t220 => ((rf08_Add.f k x217000 t220).bind fun t223 => ((rf09_product.f k ((rd_T27 x0 x4).f1) ((rd_T27 x0 x5).f0)).bind fun t228 => ((rf08_Neg.f k t228).bind fun t231 => ((rf08_Add.f k t223 t231).bind fun t234 => (rf09_Area.l0 k x0 (wrap64 (x4 + 1)) t234)))))) else (none)) else (none)) else (none)) else (none)
end
def rf09_Area.f (k : Nat) (l0 : List (S27)) : Option (List Int) := (rf08_Of.f k 0).bind fun t213 => ((rf09_Right.f k l0).bind fun t217 => (if t217 = true then (rf09_Area.l0 k l0 0 t213) else (some t213)))
theorem rf09_Area.mono_l : ∀ k, (∀ y0 y1 y2, LeO (rf09_Area.l0 k y0 y1 y2) (rf09_Area.l0 (k + 1) y0 y1 y2)) ∧ (∀ y0 y1 y2 y3, LeO (rf09_Area.j1 k y0 y1 y2 y3) (rf09_Area.j1 (k + 1) y0 y1 y2 y3))
 | 0 => ⟨fun _ _ _ r h => by simp [rf09_Area.l0] at h, fun _ _ _ _ r h => by simp [rf09_Area.j1] at h⟩
 | k + 1 => by
  obtain ⟨ih0, ih1⟩ := rf09_Area.mono_l k
  refine ⟨?_, ?_⟩
  all_goals
   intros
   first | unfold rf09_Area.l0 | unfold rf09_Area.j1
   repeat' with_reducible first | exact ih0 _ _ _ | exact ih1 _ _ _ _ | exact rf08_Add.mono _ _ _ | exact rf08_Neg.mono _ _ | exact rf08_Of.mono _ _ | exact rf09_Right.mono _ _ | exact rf09_product.mono _ _ _ | exact LeO.refl _ | exact LeO.none _ | refine LeO.ite ?_ ?_ | refine LeO.bind ?_ (fun _ => ?_)
theorem rf09_Area.mono : ∀ a0 k, LeO (rf09_Area.f k a0) (rf09_Area.f (k + 1) a0) := by
 intro a0 k
 obtain ⟨ih0, ih1⟩ := rf09_Area.mono_l k
 unfold rf09_Area.f
 repeat' first
   | (with_reducible exact ih0 _ _ _)
   | (with_reducible exact ih1 _ _ _ _)
   | (with_reducible exact rf08_Add.mono _ _ _)
   | (with_reducible exact rf08_Neg.mono _ _)
   | (with_reducible exact rf08_Of.mono _ _)
   | (with_reducible exact rf09_Right.mono _ _)
   | (with_reducible exact rf09_product.mono _ _ _)
   | (with_reducible exact LeO.refl _)
   | (with_reducible exact LeO.none _)
   | (with_reducible refine LeO.ite ?_ ?_)
   | (with_reducible refine LeO.bind ?_ (fun _ => ?_))
   | exact ih0 _ _ _
   | exact ih1 _ _ _ _
   | exact rf08_Add.mono _ _ _
   | exact rf08_Neg.mono _ _
   | exact rf08_Of.mono _ _
   | exact rf09_Right.mono _ _
   | exact rf09_product.mono _ _ _
   | exact LeO.none _
   | refine LeO.ite ?_ ?_
   | refine LeO.bind ?_ (fun _ => ?_)
def rf09_Area.T10 : Bool × List (List Nat × List Nat) := (true, [([], []), ([], []), ([], []), ([1, 2], [1, 2]), ([3], [3]), ([4], [4]), ([], []), ([], []), ([6, 7], [6, 7]), ([8], [8]), ([9], [9]), ([5, 10], [5, 10]), ([0, 11, 11], [0, 11]), ([12, 12, 0, 1, 2, 3, 4, 5, 6, 7, 8, 9, 10, 11, 12], [12])])
def rf09_Area.B10 : List Nat := [0, 0, 0, 6, 14, 30, 0, 0, 192, 448, 960, 2046, 4095, 8191]
theorem rf09_Area.tab10 : rtab .any (opsOf Try.f48 10) = rf09_Area.T10 := by kernel_rfl
theorem rf09_Area.bits10 : waitsOk rf09_Area.T10.2 rf09_Area.B10 = true := by kernel_rfl
def rf09_Area.T11 : Bool × List (List Nat × List Nat) := (true, [([], []), ([], []), ([], []), ([1, 2], [1, 2]), ([3], [3]), ([4], [4]), ([], []), ([], []), ([6, 7], [6, 7]), ([8], [8]), ([9], [9]), ([5, 10], [5, 10]), ([11, 11], [11]), ([0, 12, 12], [0, 12]), ([13, 13, 0, 1, 2, 3, 4, 5, 6, 7, 8, 9, 10, 11, 12, 13], [13])])
def rf09_Area.B11 : List Nat := [0, 0, 0, 6, 14, 30, 0, 0, 192, 448, 960, 2046, 4094, 8191, 16383]
theorem rf09_Area.tab11 : rtab .any (opsOf Try.f48 11) = rf09_Area.T11 := by kernel_rfl
theorem rf09_Area.bits11 : waitsOk rf09_Area.T11.2 rf09_Area.B11 = true := by kernel_rfl
set_option maxHeartbeats 8000000 in
set_option maxRecDepth 100000 in
theorem rf09_Area.calls (k : Nat) (A0 : Option Addr) (c0 : Nat) (l0 : List (S27)) (r : List Int) (w : World) (hr0 : Kd.C k27 w A0 l0.length l0) (hc0 : l0.length ≤ c0) (h : rf09_Area.f k l0 = some r) :
  Calls Try.prog 48 #[.slice A0 l0.length c0] w fun e w' => ∃ v0_ : Value, e = .returned (.agg #[v0_]) ∧ Kd.R (Kd.int .i64) 3 w' w.heap.size (fun _ => True) v0_ r ∧ Below w.heap.size w w' := by
 have hu43 := Try.underlying43
 have HR0 := AM hr0
 have HC0 := AM hc0
 clear hr0 hc0
 have HB := AM (Below.refl w.heap.size w)
 have H : ((rf08_Of.f k 0).bind fun t213 => ((rf09_Right.f k l0).bind fun t217 => (if t217 = true then (rf09_Area.l0 k l0 0 t213) else (some t213)))) = some r := h
 clear h
 obtain ⟨t213, A2, H⟩ := bS H
 obtain ⟨t217, A3, H⟩ := bS H
 have HC4 := AM H
 clear H
 go_enter Try.func48, Try.ntmps48
 go_upto_if 9 with (first | ((with_reducible refine gate_dst (N := 2) rfl ?_); refine bE 2 #[.slice none 0 0] 43 ?_; intro gb212 hg w5 hbox hb; have BK212 := AM hbox; have GW212 := kG HB hg; replace HB := kH HB hb; have GE212 := GW212; clear hb hbox hg) | ((with_reducible refine gate_callee (f := 18) rfl ?_); refine gL (some 6) Try.func18 #[.int .i64 0] ?_; (with_reducible refine (rf08_Of.calls k 0 t213 _ A2.out).mono ?_); rintro e w6 ⟨v214, rfl, ho0, hb⟩; refine ⟨_, rfl, ?_⟩; have HO215 := AM (Kd.R_lower ho0 (below_size (bH HB))); replace BK212 := kB BK212 hb; replace HB := kH HB hb; (try clear hb); (try clear hb2); (try clear hk); (try clear hi); (try clear ho0)) | ((with_reducible refine gate_dst (N := 3) rfl ?_); refine bE 3 #[.slice none 0 0] 43 ?_; intro gb216 hg w7 hbox hb; replace HO215 := kR HO215 hb; have BK216 := AM hbox; have GW216 := kG HB hg; replace HB := kH HB hb; have GE216 := GW216; have NB212_216 := kN BK212 hg; have NB216_212 := kM BK212 hg; replace BK212 := kB BK212 hb; clear hb hbox hg; obtain ⟨Ao8, co8, eo8⟩ := Kd.R_slice HO215.out; subst eo8; have hnb9 := NB216_212.out; have hnc9 := NB212_216.out; obtain ⟨hcz10_0, hfz10_0⟩ := c1 BK216) | ((with_reducible refine gate_callee (f := 22) rfl ?_); refine gL (some 8) Try.func22 #[.slice A0 l0.length c0] ?_; (with_reducible refine (rf09_Right.calls k _ _ l0 t217 _ ?side1 ?side2 A3.out).mono ?_); (case side1 => exact Kd.C_below HR0.out (bH HB)); (case side2 => exact HC0.out); rintro e w11 ⟨rfl, hb⟩; refine ⟨_, rfl, ?_⟩; replace HO215 := AM (Kd.R_below (by (with_reducible repeat (first | apply Kd.R_alloc | apply Kd.R_drewN | apply Kd.R_drew)); exact (Kd.R_mono (Kd.R_far (p := ⟨gb216, 0, none⟩) (Kd.R_types HO215.out BK216.out (by decide)) (fun _ hk => hk.2) (.slice Ao8 t213.length co8)) (fun _ h_ => h_.1))) hb); replace BK212 := kB BK212 hb; replace BK216 := AM (blk_below (g := gb216) (o := .cells #[.slice Ao8 t213.length co8] 43 (0, 0)) (by (with_reducible repeat (first | refine blk_drewN ?_ _ | refine blk_drew ?_ | refine blk_alloc ?_ _)); refine blk_put (cs := #[.slice none 0 0]) ?_ 0 _ rfl; (with_reducible repeat (first | refine blk_drewN ?_ _ | refine blk_drew ?_ | refine blk_alloc ?_ _)); exact BK216.out) hb); replace HB := kH HB hb; (try clear hb); (try clear hb2); (try clear hk); (try clear hi)))
 (try simp only [Act.put, List.setIfInBounds_toArray, List.set_cons_zero, List.set_cons_succ])
 have H := HC4.out; clear HC4
 by_cases c12 : t217 = true
 ·subst c12
  have H1 : (rf09_Area.l0 k l0 0 t213) = some r := by rw [if_pos rfl] at H; exact H
  clear H; have H := H1; clear H1
  have H' := AM H
  clear H
  go_wp2
  go_loopg [4] k (fun kq v4 w' => ∃ (x4_1 : Int) (x217000_1 : List Int) (u217000 : Value), v4 = .int .i64 x4_1 ∧ Aside0 (rf09_Area.l0 kq l0 x4_1 x217000_1 = some r) ∧ Aside0 (kq ≤ k) ∧ Aside0 (Kd.R (Kd.int .i64) 3 w' w.heap.size (fun _ => True) u217000 x217000_1) ∧ Aside0 (w'.heap[gb212]? = some (.cells #[(.slice none 0 0)] 43 (0, 0))) ∧ Aside0 (w'.heap[gb216]? = some (.cells #[u217000] 43 (0, 0))) ∧ Aside0 (Below w.heap.size w w'))
  case atStart => exact ⟨(0), (t213), (.slice Ao8 t213.length co8), rS, H', ⟨Nat.le_refl _⟩, ⟨rK HO215⟩, ⟨bK BK212⟩, ⟨bK BK216⟩, ⟨ bH HB⟩⟩
  case round =>
   clear H'
   (try clear c1); (try clear c2); (try clear p2); (try clear c4); (try clear c9); (try clear c12); (try clear hcz10_0); (try clear hfz10_0)
   obtain ⟨x4_1, x217000_1, u217000, rfl, HA, HK1, HO_217000, BK212, BK216, HB⟩ := hrel
   cases gk with
   | zero => exact absurd HA.out (by simp [rf09_Area.l0])
   | succ k1 =>
    have H := HA.out; clear HA
    simp only [rf09_Area.l0] at H
    by_cases c13 : x4_1 < (l0.length : Int)
    ·rw [if_pos c13] at H
     have c13b0 := decide_eq_true c13; clear c13
     (first | rw [c13b0] | (simp only [i64_w, i32_w]; rw [c13b0]) | skip)
     have HC14 := AM H
     clear H
     go_upto_if 22 with (fail)
     go_cut [5] (fun v5 wc => ∃ (kq : Nat) (x5_13 : Int), v5 = .int .i64 x5_13 ∧ Aside0 (rf09_Area.j1 kq l0 x4_1 x5_13 x217000_1 = some r) ∧ Aside0 (kq ≤ k1) ∧ Aside0 (Kd.R (Kd.int .i64) 3 wc w.heap.size (fun _ => True) u217000 x217000_1) ∧ Aside0 (wc.heap[gb212]? = some (.cells #[(.slice none 0 0)] 43 (0, 0))) ∧ Aside0 (wc.heap[gb216]? = some (.cells #[u217000] 43 (0, 0))) ∧ Aside0 (Below w.heap.size w wc))
     case first =>
      have H := HC14.out; clear HC14
      by_cases c15 : (wrap64 (x4_1 + 1)) = (l0.length : Int)
      ·rw [if_pos c15] at H
       have c15b0 : ((wrap64 (x4_1 + 1)) == (l0.length : Int)) = true := beq_iff_eq.mpr c15
       have c15b1 : ((wrap64 (x4_1 + 1)) != (l0.length : Int)) = false := bne_eq_false_iff_eq.mpr c15
       clear c15
       (first | rw [c15b0] | (simp only [i64_w, i32_w]; rw [c15b0]) | skip)
       have H' := AM H
       clear H
       go_wp2
       go_meet
       case rel => exact ⟨_, (0), rS, H', ⟨by have := HK1.out; first | omega | exact Nat.le_refl _⟩, ⟨rK HO_217000⟩, ⟨bK BK212⟩, ⟨bK BK216⟩, ⟨ bH HB⟩⟩
      ·rw [if_neg c15] at H
       have c15b0 : ((wrap64 (x4_1 + 1)) == (l0.length : Int)) = false := beq_eq_false_iff_ne.mpr c15
       have c15b1 : ((wrap64 (x4_1 + 1)) != (l0.length : Int)) = true := bne_iff_ne.mpr c15
       (first | rw [c15b0] | (simp only [i64_w, i32_w]; rw [c15b0]) | skip)
       have H' := AM H
       clear H
       go_wp2
       go_meet
       case rel => exact ⟨_, (wrap64 (x4_1 + 1)), rS, H', ⟨by have := HK1.out; first | omega | exact Nat.le_refl _⟩, ⟨rK HO_217000⟩, ⟨bK BK212⟩, ⟨bK BK216⟩, ⟨ bH HB⟩⟩
     case rest =>
      clear HC14; (try clear c1); (try clear c2); (try clear p2); (try clear c4); (try clear p6); (try clear c9); (try clear c12); (try clear c13); (try clear c13b0); (try clear c15); (try clear c15b0); (try clear c15b1); (try clear hcz10_0); (try clear hfz10_0); (try clear p2)
      obtain ⟨kq, x5_13, rfl, HA, HJ13, HO_217000, BK212, BK216, HB⟩ := hcut
      cases kq with
      | zero => exact absurd HA.out (by simp [rf09_Area.j1])
      | succ kj13 =>
       have H := HA.out; clear HA
       simp only [rf09_Area.j1] at H
       by_cases c16 : 0 ≤ x4_1
       ·rw [if_pos c16] at H
        have c16b0 := decide_eq_true c16; clear c16
        by_cases c17 : x4_1 < (l0.length : Int)
        ·rw [if_pos c17] at H
         have c17b0 := decide_eq_true c17; clear c17
         by_cases c18 : 0 ≤ x5_13
         ·rw [if_pos c18] at H
          have c18b0 := decide_eq_true c18; clear c18
          by_cases c19 : x5_13 < (l0.length : Int)
          ·rw [if_pos c19] at H
           have c19b0 := decide_eq_true c19; clear c19
           obtain ⟨t220, A20, H⟩ := bS H
           obtain ⟨t223, A21, H⟩ := bS H
           obtain ⟨t228, A22, H⟩ := bS H
           obtain ⟨t231, A23, H⟩ := bS H
           obtain ⟨t234, A24, H⟩ := bS H
           have H' := AM H
           clear H
           try go_wp2
           replace HO_217000 := dR HO_217000; replace BK212 := dB BK212; replace BK216 := dB BK216; replace HB := dH HB
           have p218 : 0 ≤ (x4_1 : Int) := pD
           have q218 : x4_1 < (l0.length : Int) := pD
           obtain ⟨ad218, e218, hx218_0, hx218_1, hx218_2⟩ := at_T27 HR0.out x4_1 p218 q218
           have hw218_2 := hx218_2; have hw218_1 := hx218_1; have hw218_0 := hx218_0
           cases e218
           replace hx218_0 := hW HB hx218_0; replace hx218_1 := hW HB hx218_1; replace hx218_2 := hW HB hx218_2; replace p218 := eq_true p218; replace q218 := eq_true q218
           have p219 : 0 ≤ (x5_13 : Int) := pD
           have q219 : x5_13 < (l0.length : Int) := pD
           obtain ⟨ad219, e219, hx219_0, hx219_1, hx219_2⟩ := at_T27 HR0.out x5_13 p219 q219
           have hw219_2 := hx219_2; have hw219_1 := hx219_1; have hw219_0 := hx219_0
           obtain rfl : ad218 = ad219 := (by injection e219)
           replace hx219_0 := hW HB hx219_0; replace hx219_1 := hW HB hx219_1; replace hx219_2 := hW HB hx219_2; replace p219 := eq_true p219; replace q219 := eq_true q219
           refine sP 14 (S := fun w' => w'.cell? ⟨gb216, 0, none⟩ = some (u217000) ∧ w'.cell? (ad218.add ((x4_1).toNat * 3)) = some (.int .i64 ((rd_T27 l0 x4_1).f0)) ∧ w'.cell? ⟨(ad218.add ((x4_1).toNat * 3)).block, (ad218.add ((x4_1).toNat * 3)).off + 1, none⟩ = some (.int .i64 ((rd_T27 l0 x4_1).f1)) ∧ w'.cell? ⟨(ad218.add ((x4_1).toNat * 3)).block, (ad218.add ((x4_1).toNat * 3)).off + 2, none⟩ = some (.int .i64 ((rd_T27 l0 x4_1).f2)) ∧ w'.cell? (ad218.add ((x5_13).toNat * 3)) = some (.int .i64 ((rd_T27 l0 x5_13).f0)) ∧ w'.cell? ⟨(ad218.add ((x5_13).toNat * 3)).block, (ad218.add ((x5_13).toNat * 3)).off + 1, none⟩ = some (.int .i64 ((rd_T27 l0 x5_13).f1)) ∧ w'.cell? ⟨(ad218.add ((x5_13).toNat * 3)).block, (ad218.add ((x5_13).toNat * 3)).off + 2, none⟩ = some (.int .i64 ((rd_T27 l0 x5_13).f2))) (ds := [13]) ⟨bC BK216, (hW HB hw218_0), (hW HB hw218_1), (hW HB hw218_2), (hW HB hw219_0), (hW HB hw219_1), (hW HB hw219_2)⟩ fun hHeld => ?_; refine with_tabW rf09_Area.tab10 rf09_Area.bits10 (fun HT_ HW_ => ?_)
           generalize wc.drew = w25 at HO_217000 BK212 BK216 HB hx218_0 hx218_1 hx218_2 hx219_0 hx219_1 hx219_2 hHeld ⊢
           refine pQ 1 (some 24) HT_ ?_; refine pQ 2 (some 25) HT_ ?_; refine pQ 3 (some 26) HT_ ?_; refine pQ 4 (some 27) HT_ ?_; refine pQ 6 (some 29) HT_ ?_; refine pQ 7 (some 30) HT_ ?_; refine pQ 8 (some 31) HT_ ?_; refine pQ 9 (some 32) HT_ ?_; refine tQ 0 (some 23) HT_ HW_ hHeld ?_; refine tQ 5 (some 28) HT_ HW_ hHeld ?_; refine tQ 10 (some 33) HT_ HW_ hHeld ?_
           refine oQ 11 (some 34) HT_ rfl fun K hK => ?_
           refine gO Try.func70 #[.int .i64 ((rd_T27 l0 x4_1).f0), .int .i64 ((rd_T27 l0 x5_13).f1)] ?_
           with_reducible refine (rf09_product.calls kj13 ((rd_T27 l0 x4_1).f0) ((rd_T27 l0 x5_13).f1) t220 _ A20.out).mono ?_
           rintro e w26 ⟨v221, rfl, ho0, hb⟩
           refine ⟨_, rfl, ?_⟩
           have HO222 := AM (Kd.R_lower (Kd.R_new' ho0 (Kd.R_lt (rK HO_217000))) (below_size (bH HB)))
           replace HO_217000 := AM (Kd.R_elder' (rK HO_217000) (Kd.R_base ho0) hb)
           replace BK212 := kB BK212 hb; replace BK216 := kB BK216 hb; replace HB := kH HB hb; (try clear hb); (try clear hb2); (try clear hk); (try clear hi); (try clear ho0)
           obtain ⟨Ao27, co27, eo27⟩ := Kd.R_slice HO_217000.out
           (first | subst eo27 | (injection eo27 with f1_ f2_ f3_; have f4_ := f1_.symm; have f5_ := f3_.symm; clear f1_ f2_ f3_; subst f4_; subst f5_))
           obtain ⟨Ao28, co28, eo28⟩ := Kd.R_slice HO222.out
           (first | subst eo28 | (injection eo28 with f1_ f2_ f3_; have f4_ := f1_.symm; have f5_ := f3_.symm; clear f1_ f2_ f3_; subst f4_; subst f5_))
           refine hK.out _ _ ⟨bC BK216, (hW HB hw218_0), (hW HB hw218_1), (hW HB hw218_2), (hW HB hw219_0), (hW HB hw219_1), (hW HB hw219_2)⟩ (fun hHeld => ?_)
           clear hK K; refine nP (some 34) ?_
           refine oQ 12 (some 35) HT_ rfl fun K hK => ?_
           refine gO Try.func19 #[.agg #[.slice Ao27 x217000_1.length co27], .agg #[.slice Ao28 t220.length co28]] ?_
           with_reducible refine (rf08_Add.calls kj13 _ _ x217000_1 _ _ t220 t223 _ ?side1 ?side2 ?side3 ?side4 A21.out).mono ?_
           (case side1 => exact sR HO_217000)
           (case side2 => exact (Kd.R_reads' HO_217000.out).2.1)
           (case side3 => exact sR HO222)
           (case side4 => exact (Kd.R_reads' HO222.out).2.1)
           rintro e w29 ⟨v224, rfl, ho0, hb⟩
           refine ⟨_, rfl, ?_⟩
           have HO225 := AM (Kd.R_lower (Kd.R_new' (Kd.R_new' ho0 (Kd.R_lt (rK HO_217000))) (Kd.R_lt (rK HO222))) (below_size (bH HB)))
           replace HO_217000 := AM (Kd.R_elder' (rK HO_217000) (Kd.R_base ho0) hb)
           replace HO222 := AM (Kd.R_elder' (rK HO222) (Kd.R_base ho0) hb)
           replace BK212 := kB BK212 hb; replace BK216 := kB BK216 hb; replace HB := kH HB hb; (try clear hb); (try clear hb2); (try clear hk); (try clear hi); (try clear ho0)
           obtain ⟨Ao30, co30, eo30⟩ := Kd.R_slice HO225.out
           (first | subst eo30 | (injection eo30 with f1_ f2_ f3_; have f4_ := f1_.symm; have f5_ := f3_.symm; clear f1_ f2_ f3_; subst f4_; subst f5_))
           refine hK.out _ _ ⟨bC BK216, (hW HB hw218_0), (hW HB hw218_1), (hW HB hw218_2), (hW HB hw219_0), (hW HB hw219_1), (hW HB hw219_2)⟩ (fun hHeld => ?_)
           clear hK K; refine nP (some 35) ?_
           refine last_ (i := 13) (N := none) #[true, true, true, true, true, true, true, true, true, true, true, true, true, true] rfl rfl (one_of HT_.out (by kernel_rfl)) (by decide) (fun K hK => ?_)
           have hs31 : w29.cell? ⟨gb216, 0, none⟩ = some (.slice Ao27 x217000_1.length co27) := bC BK216
           have hfs31 := blk_frozen BK216.out 0
           have hns31_0 := NB212_216.out; have hms31_0 := NB216_212.out
           refine skip_ (w1 := ?_) (by rfl) rfl ?_ ?_
           rotate_left
           ·go_simp
            rfl
           refine hK.out _ _ ?_
           clear hK K
           refine done_ (done_of HT_.out (by kernel_rfl)) ?_
           try go_wp2
           have n0_ : Aside0 (Kd.R (Kd.int .i64) 3 (w29.setCell ⟨gb216, 0, none⟩ (.slice Ao30 t223.length co30)) w.heap.size (fun k_ => some k_ ≠ (.slice Ao28 t220.length co28 : Value).ownBlock ∧ some k_ ≠ (.slice Ao30 t223.length co30 : Value).ownBlock) (.slice Ao27 x217000_1.length co27) x217000_1) := ⟨by (with_reducible repeat (first | apply Kd.R_alloc | apply Kd.R_drewN | apply Kd.R_drew)); exact Kd.R_mono (Kd.R_far (p := ⟨gb216, 0, none⟩) (Kd.R_types HO_217000.out BK216.out (by decide)) (fun _ hk => hk.2) (.slice Ao30 t223.length co30)) (fun _ hk => ⟨hk.1.1.2, hk.1.2⟩)⟩
           have n1_ : Aside0 (Kd.R (Kd.int .i64) 3 (w29.setCell ⟨gb216, 0, none⟩ (.slice Ao30 t223.length co30)) w.heap.size (fun k_ => some k_ ≠ (.slice Ao27 x217000_1.length co27 : Value).ownBlock ∧ some k_ ≠ (.slice Ao30 t223.length co30 : Value).ownBlock) (.slice Ao28 t220.length co28) t220) := ⟨by (with_reducible repeat (first | apply Kd.R_alloc | apply Kd.R_drewN | apply Kd.R_drew)); exact Kd.R_mono (Kd.R_far (p := ⟨gb216, 0, none⟩) (Kd.R_types HO222.out BK216.out (by decide)) (fun _ hk => hk.2) (.slice Ao30 t223.length co30)) (fun _ hk => ⟨hk.1.1.2, hk.1.2⟩)⟩
           have n2_ : Aside0 (Kd.R (Kd.int .i64) 3 (w29.setCell ⟨gb216, 0, none⟩ (.slice Ao30 t223.length co30)) w.heap.size (fun k_ => some k_ ≠ (.slice Ao27 x217000_1.length co27 : Value).ownBlock ∧ some k_ ≠ (.slice Ao28 t220.length co28 : Value).ownBlock) (.slice Ao30 t223.length co30) t223) := ⟨by (with_reducible repeat (first | apply Kd.R_alloc | apply Kd.R_drewN | apply Kd.R_drew)); exact Kd.R_mono (Kd.R_far (p := ⟨gb216, 0, none⟩) (Kd.R_types HO225.out BK216.out (by decide)) (fun _ hk => hk.2) (.slice Ao30 t223.length co30)) (fun _ hk => ⟨hk.1.1.2, hk.1.2⟩)⟩
           have n3_ : Aside0 ((w29.setCell ⟨gb216, 0, none⟩ (.slice Ao30 t223.length co30)).heap[gb212]? = some (.cells #[.slice none 0 0] 43 (0, 0))) := ⟨bK BK212⟩
           have n4_ : Aside0 ((w29.setCell ⟨gb216, 0, none⟩ (.slice Ao30 t223.length co30)).heap[gb216]? = some (.cells #[.slice Ao30 t223.length co30] 43 (0, 0))) := ⟨by (with_reducible repeat (first | refine blk_drewN ?_ _ | refine blk_drew ?_ | refine blk_alloc ?_ _)); refine blk_put (cs := #[.slice Ao27 x217000_1.length co27]) ?_ 0 _ rfl; (with_reducible repeat (first | refine blk_drewN ?_ _ | refine blk_drew ?_ | refine blk_alloc ?_ _)); exact BK216.out⟩
           have n5_ : Aside0 (Below w.heap.size w (w29.setCell ⟨gb216, 0, none⟩ (.slice Ao30 t223.length co30))) := ⟨ bH HB⟩
           (try clear HO_217000); (try clear HO222); (try clear HO225); (try clear BK212); (try clear BK216); (try clear HB)
           generalize (w29.setCell ⟨gb216, 0, none⟩ (.slice Ao30 t223.length co30)) = w32 at n0_ n1_ n2_ n3_ n4_ n5_ ⊢
           have HO_217000 := n0_; have HO222 := n1_; have HO225 := n2_; have BK212 := n3_; have BK216 := n4_; have HB := n5_; clear n0_ n1_ n2_ n3_ n4_ n5_; replace HO_217000 := dR HO_217000; replace HO222 := dR HO222; replace HO225 := dR HO225; replace BK212 := dB BK212; replace BK216 := dB BK216; replace HB := dH HB
           have p226 : 0 ≤ (x4_1 : Int) := pD
           have q226 : x4_1 < (l0.length : Int) := pD
           obtain ⟨ad226, e226, hx226_0, hx226_1, hx226_2⟩ := at_T27 HR0.out x4_1 p226 q226
           have hw226_2 := hx226_2; have hw226_1 := hx226_1; have hw226_0 := hx226_0
           obtain rfl : ad218 = ad226 := (by injection e226)
           replace hx226_0 := hW HB hx226_0; replace hx226_1 := hW HB hx226_1; replace hx226_2 := hW HB hx226_2; replace p226 := eq_true p226; replace q226 := eq_true q226
           have p227 : 0 ≤ (x5_13 : Int) := pD
           have q227 : x5_13 < (l0.length : Int) := pD
           obtain ⟨ad227, e227, hx227_0, hx227_1, hx227_2⟩ := at_T27 HR0.out x5_13 p227 q227
           have hw227_2 := hx227_2; have hw227_1 := hx227_1; have hw227_0 := hx227_0
           obtain rfl : ad218 = ad227 := (by injection e227)
           replace hx227_0 := hW HB hx227_0; replace hx227_1 := hW HB hx227_1; replace hx227_2 := hW HB hx227_2; replace p227 := eq_true p227; replace q227 := eq_true q227
           refine sP 15 (S := fun w' => w'.cell? ⟨gb216, 0, none⟩ = some (.slice Ao30 t223.length co30) ∧ w'.cell? (ad218.add ((x4_1).toNat * 3)) = some (.int .i64 ((rd_T27 l0 x4_1).f0)) ∧ w'.cell? ⟨(ad218.add ((x4_1).toNat * 3)).block, (ad218.add ((x4_1).toNat * 3)).off + 1, none⟩ = some (.int .i64 ((rd_T27 l0 x4_1).f1)) ∧ w'.cell? ⟨(ad218.add ((x4_1).toNat * 3)).block, (ad218.add ((x4_1).toNat * 3)).off + 2, none⟩ = some (.int .i64 ((rd_T27 l0 x4_1).f2)) ∧ w'.cell? (ad218.add ((x5_13).toNat * 3)) = some (.int .i64 ((rd_T27 l0 x5_13).f0)) ∧ w'.cell? ⟨(ad218.add ((x5_13).toNat * 3)).block, (ad218.add ((x5_13).toNat * 3)).off + 1, none⟩ = some (.int .i64 ((rd_T27 l0 x5_13).f1)) ∧ w'.cell? ⟨(ad218.add ((x5_13).toNat * 3)).block, (ad218.add ((x5_13).toNat * 3)).off + 2, none⟩ = some (.int .i64 ((rd_T27 l0 x5_13).f2))) (ds := [14]) ⟨bC BK216, (hW HB hw226_0), (hW HB hw226_1), (hW HB hw226_2), (hW HB hw227_0), (hW HB hw227_1), (hW HB hw227_2)⟩ fun hHeld => ?_; refine with_tabW rf09_Area.tab11 rf09_Area.bits11 (fun HT_ HW_ => ?_)
           generalize w32.drew = w33 at HO_217000 HO222 HO225 BK212 BK216 HB hx226_0 hx226_1 hx226_2 hx227_0 hx227_1 hx227_2 hHeld ⊢
           refine pQ 1 (some 37) HT_ ?_; refine pQ 2 (some 38) HT_ ?_; refine pQ 3 (some 39) HT_ ?_; refine pQ 4 (some 40) HT_ ?_; refine pQ 6 (some 42) HT_ ?_; refine pQ 7 (some 43) HT_ ?_; refine pQ 8 (some 44) HT_ ?_; refine pQ 9 (some 45) HT_ ?_; refine tQ 0 (some 36) HT_ HW_ hHeld ?_; refine tQ 5 (some 41) HT_ HW_ hHeld ?_; refine tQ 10 (some 46) HT_ HW_ hHeld ?_
           refine oQ 11 (some 47) HT_ rfl fun K hK => ?_
           refine gO Try.func70 #[.int .i64 ((rd_T27 l0 x4_1).f1), .int .i64 ((rd_T27 l0 x5_13).f0)] ?_
           with_reducible refine (rf09_product.calls kj13 ((rd_T27 l0 x4_1).f1) ((rd_T27 l0 x5_13).f0) t228 _ A22.out).mono ?_
           rintro e w34 ⟨v229, rfl, ho0, hb⟩
           refine ⟨_, rfl, ?_⟩
           have HO230 := AM (Kd.R_lower (Kd.R_new' (Kd.R_new' (Kd.R_new' ho0 (Kd.R_lt (rK HO_217000))) (Kd.R_lt (rK HO222))) (Kd.R_lt (rK HO225))) (below_size (bH HB)))
           replace HO_217000 := AM (Kd.R_elder' (rK HO_217000) (Kd.R_base ho0) hb)
           replace HO222 := AM (Kd.R_elder' (rK HO222) (Kd.R_base ho0) hb)
           replace HO225 := AM (Kd.R_elder' (rK HO225) (Kd.R_base ho0) hb)
           replace BK212 := kB BK212 hb; replace BK216 := kB BK216 hb; replace HB := kH HB hb; (try clear hb); (try clear hb2); (try clear hk); (try clear hi); (try clear ho0)
           obtain ⟨Ao35, co35, eo35⟩ := Kd.R_slice HO230.out
           (first | subst eo35 | (injection eo35 with f1_ f2_ f3_; have f4_ := f1_.symm; have f5_ := f3_.symm; clear f1_ f2_ f3_; subst f4_; subst f5_))
           refine hK.out _ _ ⟨bC BK216, (hW HB hw226_0), (hW HB hw226_1), (hW HB hw226_2), (hW HB hw227_0), (hW HB hw227_1), (hW HB hw227_2)⟩ (fun hHeld => ?_)
           clear hK K; refine nP (some 47) ?_
           refine oQ 12 (some 48) HT_ rfl fun K hK => ?_
           refine gO Try.func71 #[.agg #[.slice Ao35 t228.length co35]] ?_
           with_reducible refine (rf08_Neg.calls kj13 _ _ t228 t231 _ ?side1 ?side2 A23.out).mono ?_
           (case side1 => exact sR HO230)
           (case side2 => exact (Kd.R_reads' HO230.out).2.1)
           rintro e w36 ⟨v232, rfl, ho0, hb⟩
           refine ⟨_, rfl, ?_⟩
           have HO233 := AM (Kd.R_lower (Kd.R_new' (Kd.R_new' (Kd.R_new' (Kd.R_new' ho0 (Kd.R_lt (rK HO_217000))) (Kd.R_lt (rK HO222))) (Kd.R_lt (rK HO225))) (Kd.R_lt (rK HO230))) (below_size (bH HB)))
           replace HO_217000 := AM (Kd.R_elder' (rK HO_217000) (Kd.R_base ho0) hb)
           replace HO222 := AM (Kd.R_elder' (rK HO222) (Kd.R_base ho0) hb)
           replace HO225 := AM (Kd.R_elder' (rK HO225) (Kd.R_base ho0) hb)
           replace HO230 := AM (Kd.R_elder' (rK HO230) (Kd.R_base ho0) hb)
           replace BK212 := kB BK212 hb; replace BK216 := kB BK216 hb; replace HB := kH HB hb; (try clear hb); (try clear hb2); (try clear hk); (try clear hi); (try clear ho0)
           obtain ⟨Ao37, co37, eo37⟩ := Kd.R_slice HO233.out
           (first | subst eo37 | (injection eo37 with f1_ f2_ f3_; have f4_ := f1_.symm; have f5_ := f3_.symm; clear f1_ f2_ f3_; subst f4_; subst f5_))
           refine hK.out _ _ ⟨bC BK216, (hW HB hw226_0), (hW HB hw226_1), (hW HB hw226_2), (hW HB hw227_0), (hW HB hw227_1), (hW HB hw227_2)⟩ (fun hHeld => ?_)
           clear hK K; refine nP (some 48) ?_
           refine oQ 13 (some 49) HT_ rfl fun K hK => ?_
           refine gO Try.func19 #[.agg #[.slice Ao30 t223.length co30], .agg #[.slice Ao37 t231.length co37]] ?_
           with_reducible refine (rf08_Add.calls kj13 _ _ t223 _ _ t231 t234 _ ?side1 ?side2 ?side3 ?side4 A24.out).mono ?_
           (case side1 => exact sR HO225)
           (case side2 => exact (Kd.R_reads' HO225.out).2.1)
           (case side3 => exact sR HO233)
           (case side4 => exact (Kd.R_reads' HO233.out).2.1)
           rintro e w38 ⟨v235, rfl, ho0, hb⟩
           refine ⟨_, rfl, ?_⟩
           have HO236 := AM (Kd.R_lower (Kd.R_new' (Kd.R_new' (Kd.R_new' (Kd.R_new' (Kd.R_new' ho0 (Kd.R_lt (rK HO_217000))) (Kd.R_lt (rK HO222))) (Kd.R_lt (rK HO225))) (Kd.R_lt (rK HO230))) (Kd.R_lt (rK HO233))) (below_size (bH HB)))
           replace HO_217000 := AM (Kd.R_elder' (rK HO_217000) (Kd.R_base ho0) hb)
           replace HO222 := AM (Kd.R_elder' (rK HO222) (Kd.R_base ho0) hb)
           replace HO225 := AM (Kd.R_elder' (rK HO225) (Kd.R_base ho0) hb)
           replace HO230 := AM (Kd.R_elder' (rK HO230) (Kd.R_base ho0) hb)
           replace HO233 := AM (Kd.R_elder' (rK HO233) (Kd.R_base ho0) hb)
           replace BK212 := kB BK212 hb; replace BK216 := kB BK216 hb; replace HB := kH HB hb; (try clear hb); (try clear hb2); (try clear hk); (try clear hi); (try clear ho0)
           obtain ⟨Ao39, co39, eo39⟩ := Kd.R_slice HO236.out
           (first | subst eo39 | (injection eo39 with f1_ f2_ f3_; have f4_ := f1_.symm; have f5_ := f3_.symm; clear f1_ f2_ f3_; subst f4_; subst f5_))
           refine hK.out _ _ ⟨bC BK216, (hW HB hw226_0), (hW HB hw226_1), (hW HB hw226_2), (hW HB hw227_0), (hW HB hw227_1), (hW HB hw227_2)⟩ (fun hHeld => ?_)
           clear hK K; refine nP (some 49) ?_
           refine last_ (i := 14) (N := none) #[true, true, true, true, true, true, true, true, true, true, true, true, true, true, true] rfl rfl (one_of HT_.out (by kernel_rfl)) (by decide) (fun K hK => ?_)
           have hs40 : w38.cell? ⟨gb216, 0, none⟩ = some (.slice Ao30 t223.length co30) := bC BK216
           have hfs40 := blk_frozen BK216.out 0
           have hns40_0 := NB212_216.out; have hms40_0 := NB216_212.out
           refine skip_ (w1 := ?_) (by rfl) rfl ?_ ?_
           rotate_left
           ·go_simp
            rfl
           refine hK.out _ _ ?_
           clear hK K
           refine done_ (done_of HT_.out (by kernel_rfl)) ?_
           try go_wp2
           go_roundg kj13
           case measure => have := HK1.out; have := HJ13.out; omega
           case rel => exact ⟨(wrap64 (x4_1 + 1)), (t234), (.slice Ao39 t234.length co39), rS, H', ⟨by have := HK1.out; have := HJ13.out; omega⟩, ⟨by (with_reducible repeat (first | apply Kd.R_alloc | apply Kd.R_drewN | apply Kd.R_drew)); exact Kd.R_mono (Kd.R_far (p := ⟨gb216, 0, none⟩) (Kd.R_types HO236.out BK216.out (by decide)) (fun _ hk => hk.2) (.slice Ao39 t234.length co39)) (fun _ hk => trivial)⟩, ⟨bK BK212⟩, ⟨by (with_reducible repeat (first | refine blk_drewN ?_ _ | refine blk_drew ?_ | refine blk_alloc ?_ _)); refine blk_put (cs := #[.slice Ao30 t223.length co30]) ?_ 0 _ rfl; (with_reducible repeat (first | refine blk_drewN ?_ _ | refine blk_drew ?_ | refine blk_alloc ?_ _)); exact BK216.out⟩, ⟨ bH HB⟩⟩
          ·rw [if_neg c19] at H
           exact absurd H (by simp)
         ·rw [if_neg c18] at H
          exact absurd H (by simp)
        ·rw [if_neg c17] at H
         exact absurd H (by simp)
       ·rw [if_neg c16] at H
        exact absurd H (by simp)
    ·rw [if_neg c13] at H
     have c13b0 := decide_eq_false c13; clear c13
     (first | rw [c13b0] | (simp only [i64_w, i32_w]; rw [c13b0]) | skip)
     obtain rfl := Option.some.inj H
     have hnb41 := NB216_212.out; have hnc41 := NB212_216.out; obtain ⟨hcz42_0, hfz42_0⟩ := c1 BK216
     obtain ⟨Ao43, co43, eo43⟩ := Kd.R_slice HO_217000.out
     subst eo43
     obtain ⟨hcz44_0, hfz44_0⟩ := c1 BK212
     go_wp2
     refine bodyPost_ret (results_cell_row rfl _ _ gb212 43 #[.slice Ao43 x217000_1.length co43] (0, 0) _ rfl (by (with_reducible repeat (first | refine blk_drewN ?_ _ | refine blk_drew ?_ | refine blk_alloc ?_ _)); refine blk_put (cs := #[.slice none 0 0]) ?_ 0 _ rfl; (with_reducible repeat (first | refine blk_drewN ?_ _ | refine blk_drew ?_ | refine blk_alloc ?_ _)); exact BK212.out) Try.underlying43 rfl (by kernel_rfl)) rfl ?_
     exact ⟨_, rE, by (with_reducible repeat (first | apply Kd.R_alloc | apply Kd.R_drewN | apply Kd.R_drew)); exact Kd.R_mono (Kd.R_far (p := ⟨gb212, 0, none⟩) (Kd.R_types HO_217000.out BK212.out (by decide)) (fun _ hk => hk.2) (.slice Ao43 x217000_1.length co43)) (fun _ hk => trivial), bH HB⟩
 ·replace c12 := Bool.eq_false_iff.mpr c12
  subst c12
  have H1 : (some t213) = some r := by rw [if_neg (show ¬ (false = true) by decide)] at H; exact H
  clear H; have H := H1; clear H1
  obtain rfl := Option.some.inj H
  have hnb45 := NB216_212.out; have hnc45 := NB212_216.out; obtain ⟨hcz46_0, hfz46_0⟩ := c1 BK216; obtain ⟨hcz47_0, hfz47_0⟩ := c1 BK212
  go_wp2
  refine bodyPost_ret (results_cell_row rfl _ _ gb212 43 #[.slice Ao8 t213.length co8] (0, 0) _ rfl (by (with_reducible repeat (first | refine blk_drewN ?_ _ | refine blk_drew ?_ | refine blk_alloc ?_ _)); refine blk_put (cs := #[.slice none 0 0]) ?_ 0 _ rfl; (with_reducible repeat (first | refine blk_drewN ?_ _ | refine blk_drew ?_ | refine blk_alloc ?_ _)); exact BK212.out) Try.underlying43 rfl (by kernel_rfl)) rfl ?_
  exact ⟨_, rE, by (with_reducible repeat (first | apply Kd.R_alloc | apply Kd.R_drewN | apply Kd.R_drew)); exact Kd.R_mono (Kd.R_far (p := ⟨gb212, 0, none⟩) (Kd.R_types HO215.out BK212.out (by decide)) (fun _ hk => hk.2) (.slice Ao8 t213.length co8)) (fun _ hk => trivial), bH HB⟩

def rf17_Area.f (k : Nat) (l0_0 : List (List (S27))) (l0_1 : List (List Int)) (l0_2 : List (List Int)) (a1 : Int) : Option (List Int) := if 0 ≤ a1 then (if a1 < (l0_1.length : Int) then ((rf16_Points.f k l0_0 l0_1 l0_2 (rd_L3 l0_1 a1)).bind fun bt240 => ((rf09_Area.f k bt240.1).bind fun t244 => (some t244))) else (none)) else (none)
theorem rf17_Area.mono : ∀ a0 a1 a2 a3 k, LeO (rf17_Area.f k a0 a1 a2 a3) (rf17_Area.f (k + 1) a0 a1 a2 a3) := by
 intro a0 a1 a2 a3 k
 unfold rf17_Area.f
 repeat' first
   | (with_reducible exact rf09_Area.mono _ _)
   | (with_reducible exact rf16_Points.mono _ _ _ _ _)
   | (with_reducible exact LeO.refl _)
   | (with_reducible exact LeO.none _)
   | (with_reducible refine LeO.ite ?_ ?_)
   | (with_reducible refine LeO.bind ?_ (fun _ => ?_))
   | exact rf09_Area.mono _ _
   | exact rf16_Points.mono _ _ _ _ _
   | exact LeO.none _
   | refine LeO.ite ?_ ?_
   | refine LeO.bind ?_ (fun _ => ?_)
def rf17_Area.T1 : Bool × List (List Nat × List Nat) := (true, [([], []), ([], []), ([1], [1]), ([], []), ([2, 3], [2, 3]), ([4], [4]), ([0, 5], [0, 5]), ([6], [6]), ([7], [7]), ([7], [7]), ([8, 6, 0, 1, 2, 3, 4, 5, 6, 7, 8], [8]), ([9, 10, 0, 1, 2, 3, 4, 5, 6, 7, 8, 9, 10], [9])])
def rf17_Area.B1 : List Nat := [0, 0, 2, 0, 14, 30, 63, 127, 255, 255, 511, 2047]
theorem rf17_Area.tab1 : rtab .any (opsOf Try.f20 1) = rf17_Area.T1 := by kernel_rfl
theorem rf17_Area.bits1 : waitsOk rf17_Area.T1.2 rf17_Area.B1 = true := by kernel_rfl
set_option maxHeartbeats 8000000 in
set_option maxRecDepth 100000 in
theorem rf17_Area.calls (k : Nat) (A0_0 : Option Addr) (c0_0 : Nat) (l0_0 : List (List (S27))) (A0_1 : Option Addr) (c0_1 : Nat) (l0_1 : List (List Int)) (A0_2 : Option Addr) (c0_2 : Nat) (l0_2 : List (List Int)) (a1 : Int) (r : List Int) (w : World) (hr0_0 : Kd.C (Kd.slice 27 k27) w A0_0 l0_0.length l0_0) (hc0_0 : l0_0.length ≤ c0_0) (hr0_1 : Kd.C (Kd.slice 3 (Kd.int .i64)) w A0_1 l0_1.length l0_1) (hc0_1 : l0_1.length ≤ c0_1) (hr0_2 : Kd.C (Kd.slice 3 (Kd.int .i64)) w A0_2 l0_2.length l0_2) (hc0_2 : l0_2.length ≤ c0_2) (h : rf17_Area.f k l0_0 l0_1 l0_2 a1 = some r) :
  Calls Try.prog 20 #[.agg #[.slice A0_0 l0_0.length c0_0, .slice A0_1 l0_1.length c0_1, .slice A0_2 l0_2.length c0_2], .int .i64 a1] w fun e w' => ∃ v0_ : Value, e = .returned (.agg #[v0_]) ∧ Kd.R (Kd.int .i64) 3 w' w.heap.size (fun _ => True) v0_ r ∧ Below w.heap.size w w' := by
 have hu25 := Try.underlying25
 have hu43 := Try.underlying43
 have HR0_0 := AM hr0_0
 have HC0_0 := AM hc0_0
 clear hr0_0 hc0_0
 have HR0_1 := AM hr0_1
 have HC0_1 := AM hc0_1
 clear hr0_1 hc0_1
 have HR0_2 := AM hr0_2
 have HC0_2 := AM hc0_2
 clear hr0_2 hc0_2
 have HB := AM (Below.refl w.heap.size w)
 have H : (if 0 ≤ a1 then (if a1 < (l0_1.length : Int) then ((rf16_Points.f k l0_0 l0_1 l0_2 (rd_L3 l0_1 a1)).bind fun bt240 => ((rf09_Area.f k bt240.1).bind fun t244 => (some t244))) else (none)) else (none)) = some r := h
 clear h
 by_cases c3 : 0 ≤ a1
 ·rw [if_pos c3] at H
  have c3b0 := decide_eq_true c3; clear c3
  by_cases c4 : a1 < (l0_1.length : Int)
  ·rw [if_pos c4] at H
   have c4b0 := decide_eq_true c4; clear c4
   obtain ⟨⟨t240, t243⟩, A5, H⟩ := bS H
   try dsimp only at H
   obtain ⟨t244, A6, H⟩ := bS H
   obtain rfl := Option.some.inj H
   go_enter Try.func20, Try.ntmps20
   try go_wp2_with (first | ((with_reducible refine gate_dst (N := 2) rfl ?_); refine bE 2 #[.slice A0_0 l0_0.length c0_0, .slice A0_1 l0_1.length c0_1, .slice A0_2 l0_2.length c0_2] 25 ?_; intro gb237 hg w7 hbox hb; have BK237 := AM hbox; have GW237 := kG HB hg; replace HB := kH HB hb; have GE237 := GW237; clear hb hbox hg) | ((with_reducible refine gate_dst (N := 4) rfl ?_); refine bE 4 #[.slice none 0 0] 43 ?_; intro gb238 hg w8 hbox hb; have BK238 := AM hbox; have GW238 := kG HB hg; replace HB := kH HB hb; have GE238 := GW238; have NB237_238 := kN BK237 hg; have NB238_237 := kM BK237 hg; replace BK237 := kB BK237 hb; clear hb hbox hg))
   replace BK237 := dB BK237; replace BK238 := dB BK238; replace HB := dH HB
   have p239 : 0 ≤ (a1 : Int) := pD
   have q239 : a1 < (l0_1.length : Int) := pD
   obtain ⟨ad239, A239_0, c239_0, e239, hx239_0, hl239_0, hi239_0⟩ := at_L3 HR0_1.out a1 p239 q239
   have hw239_0 := hx239_0
   cases e239
   replace hx239_0 := hW HB hx239_0
   have HR239_0 := AM hi239_0
   have HC239_0 := AM hl239_0
   clear hi239_0 hl239_0; replace p239 := eq_true p239; replace q239 := eq_true q239
   refine sP 12 (S := fun w' => w'.cell? ⟨gb237, 0, none⟩ = some (.slice A0_0 l0_0.length c0_0) ∧ w'.cell? ⟨gb237, 1, none⟩ = some (.slice (some ad239) l0_1.length c0_1) ∧ w'.cell? ⟨gb237, 2, none⟩ = some (.slice A0_2 l0_2.length c0_2) ∧ w'.cell? (ad239.add (a1).toNat) = some (.slice A239_0 (rd_L3 l0_1 a1).length c239_0)) (ds := []) ⟨bC BK237, bC BK237, bC BK237, (hW HB hw239_0)⟩ fun hHeld => ?_; refine with_tabW rf17_Area.tab1 rf17_Area.bits1 (fun HT_ HW_ => ?_)
   generalize w8.drew = w9 at BK237 BK238 HB HR239_0 hx239_0 hHeld ⊢
   refine pQ 1 (some 9) HT_ ?_; refine pQ 3 (some 11) HT_ ?_; refine tQ 0 (some 8) HT_ HW_ hHeld ?_; refine tQ 2 (some 10) HT_ HW_ hHeld ?_; refine pQ 4 (some 12) HT_ ?_; refine tQ 5 (some 13) HT_ HW_ hHeld ?_
   refine oQ 6 (some 14) HT_ rfl fun K hK => ?_
   refine gO Try.func35 #[.agg #[.slice A0_0 l0_0.length c0_0, .slice (some ad239) l0_1.length c0_1, .slice A0_2 l0_2.length c0_2], .slice A239_0 (rd_L3 l0_1 a1).length c239_0] ?_
   with_reducible refine (rf16_Points.calls k _ _ l0_0 _ _ l0_1 _ _ l0_2 _ _ (rd_L3 l0_1 a1) t240 t243 _ ?side1 ?side2 ?side3 ?side4 ?side5 ?side6 ?side7 ?side8 A5.out).mono ?_
   (case side1 => exact sC HR0_0 HB)
   (case side2 => exact HC0_0.out)
   (case side3 => exact sC HR0_1 HB)
   (case side4 => exact HC0_1.out)
   (case side5 => exact sC HR0_2 HB)
   (case side6 => exact HC0_2.out)
   (case side7 => exact sC HR239_0 HB)
   (case side8 => exact HC239_0.out)
   rintro e w10 ⟨v241, rfl, ho0, hb⟩
   refine ⟨_, rfl, ?_⟩
   have HO242 := AM (Kd.R_lower ho0 (below_size (bH HB)))
   replace BK237 := kB BK237 hb; replace BK238 := kB BK238 hb; replace HB := kH HB hb; (try clear hb); (try clear hb2); (try clear hk); (try clear hi); (try clear ho0)
   refine hK.out _ _ ⟨bC BK237, bC BK237, bC BK237, (hW HB hw239_0)⟩ (fun hHeld => ?_)
   clear hK K; refine nP (some 14) ?_; refine pQ 7 (some 7) HT_ ?_; refine pQ 8 (some 15) HT_ ?_; refine pQ 9 (some 16) HT_ ?_; refine pQ 10 (some 5) HT_ ?_; refine pQ 11 (some 6) HT_ ?_
   refine done_ (done_of HT_.out (by kernel_rfl)) ?_
   obtain ⟨Ao11, co11, eo11⟩ := Kd.R_slice HO242.out
   subst eo11
   try go_wp2_with (first | ((with_reducible refine gate_callee (f := 48) rfl ?_); refine gL (some 18) Try.func48 #[.slice Ao11 t240.length co11] ?_; (with_reducible refine (rf09_Area.calls k _ _ t240 t244 _ ?side1 ?side2 A6.out).mono ?_); (case side1 => exact sR HO242); (case side2 => exact (Kd.R_reads' HO242.out).2.1); rintro e w12 ⟨v245, rfl, ho0, hb⟩; refine ⟨_, rfl, ?_⟩; replace HO242 := kR HO242 hb; have HO246 := AM (Kd.R_lower ho0 (below_size (bH HB))); replace BK237 := kB BK237 hb; replace BK238 := kB BK238 hb; replace HB := kH HB hb; (try clear hb); (try clear hb2); (try clear hk); (try clear hi); (try clear ho0); obtain ⟨Ao13, co13, eo13⟩ := Kd.R_slice HO246.out; subst eo13; have hnb14 := NB238_237.out; have hnc14 := NB237_238.out; obtain ⟨hcz15_0, hfz15_0⟩ := c1 BK238))
   refine bodyPost_ret (results_cell_row rfl _ _ gb238 43 #[.slice Ao13 t244.length co13] (0, 0) _ rfl (by (with_reducible repeat (first | refine blk_drewN ?_ _ | refine blk_drew ?_ | refine blk_alloc ?_ _)); refine blk_put (cs := #[.slice none 0 0]) ?_ 0 _ rfl; (with_reducible repeat (first | refine blk_drewN ?_ _ | refine blk_drew ?_ | refine blk_alloc ?_ _)); exact BK238.out) Try.underlying43 rfl (by kernel_rfl)) rfl ?_
   exact ⟨_, rE, by (with_reducible repeat (first | apply Kd.R_alloc | apply Kd.R_drewN | apply Kd.R_drew)); exact Kd.R_mono (Kd.R_far (p := ⟨gb238, 0, none⟩) (Kd.R_types HO246.out BK238.out (by decide)) (fun _ hk => hk.2) (.slice Ao13 t244.length co13)) (fun _ hk => trivial), bH HB⟩
  ·rw [if_neg c4] at H
   exact absurd H (by simp)
 ·rw [if_neg c3] at H
  exact absurd H (by simp)

mutual
def rf08_Cmp.l0 : Nat → Int → List Int → List Int → Option (Int)
 | 0, _, _, _ => none
 | k + 1, x5, x248000, x249000 => if x5 ≥ 0 then (if 0 ≤ x5 then (if x5 < (x248000.length : Int) then (if x5 < (x249000.length : Int) then (if x5 = 7 then (rf08_Cmp.j1 k x5 (Int.tmod (wrap64 ((rd x248000 x5) + 32768)) 65536) (Int.tmod (wrap64 ((rd x249000 x5) + 32768)) 65536) x248000 x249000) else (rf08_Cmp.j1 k x5 (rd x248000 x5) (rd x249000 x5) x248000 x249000)) else (none)) else (none)) else (none)) else (some 0)
def rf08_Cmp.j1 : Nat → Int → Int → Int → List Int → List Int → Option (Int)
 | 0, _, _, _, _, _ => none
 | k + 1, x5, x6, x7, x248000, x249000 => if x6 < x7 then (some (-1)) else (if x6 > x7 then (some 1) else (rf08_Cmp.l0 k (wrap64 (x5 - 1)) x248000 x249000))
end
def rf08_Cmp.f (k : Nat) (l0_0 : List Int) (l1_0 : List Int) : Option (Int) := rf08_Cmp.l0 k 7 l0_0 l1_0
theorem rf08_Cmp.mono_l : ∀ k, (∀ y0 y1 y2, LeO (rf08_Cmp.l0 k y0 y1 y2) (rf08_Cmp.l0 (k + 1) y0 y1 y2)) ∧ (∀ y0 y1 y2 y3 y4, LeO (rf08_Cmp.j1 k y0 y1 y2 y3 y4) (rf08_Cmp.j1 (k + 1) y0 y1 y2 y3 y4))
 | 0 => ⟨fun _ _ _ r h => by simp [rf08_Cmp.l0] at h, fun _ _ _ _ _ r h => by simp [rf08_Cmp.j1] at h⟩
 | k + 1 => by
  obtain ⟨ih0, ih1⟩ := rf08_Cmp.mono_l k
  refine ⟨?_, ?_⟩
  all_goals
   intros
   first | unfold rf08_Cmp.l0 | unfold rf08_Cmp.j1
   repeat' with_reducible first | exact ih0 _ _ _ | exact ih1 _ _ _ _ _ | exact LeO.refl _ | exact LeO.none _ | refine LeO.ite ?_ ?_ | refine LeO.bind ?_ (fun _ => ?_)
theorem rf08_Cmp.mono : ∀ a0 a1 k, LeO (rf08_Cmp.f k a0 a1) (rf08_Cmp.f (k + 1) a0 a1) := by
 intro a0 a1 k
 obtain ⟨ih0, ih1⟩ := rf08_Cmp.mono_l k
 unfold rf08_Cmp.f
 repeat' first
   | (with_reducible exact ih0 _ _ _)
   | (with_reducible exact ih1 _ _ _ _ _)
   | (with_reducible exact LeO.refl _)
   | (with_reducible exact LeO.none _)
   | (with_reducible refine LeO.ite ?_ ?_)
   | (with_reducible refine LeO.bind ?_ (fun _ => ?_))
   | exact ih0 _ _ _
   | exact ih1 _ _ _ _ _
   | exact LeO.none _
   | refine LeO.ite ?_ ?_
   | refine LeO.bind ?_ (fun _ => ?_)
set_option maxHeartbeats 8000000 in
set_option maxRecDepth 100000 in
theorem rf08_Cmp.calls (k : Nat) (A0_0 : Option Addr) (c0_0 : Nat) (l0_0 : List Int) (A1_0 : Option Addr) (c1_0 : Nat) (l1_0 : List Int) (r : Int) (w : World) (hr0_0 : Kd.C (Kd.int .i64) w A0_0 l0_0.length l0_0) (hc0_0 : l0_0.length ≤ c0_0) (hr1_0 : Kd.C (Kd.int .i64) w A1_0 l1_0.length l1_0) (hc1_0 : l1_0.length ≤ c1_0) (h : rf08_Cmp.f k l0_0 l1_0 = some r) :
  Calls Try.prog 49 #[.agg #[.slice A0_0 l0_0.length c0_0], .agg #[.slice A1_0 l1_0.length c1_0]] w fun e w' => e = .returned (.int .i64 r) ∧ Below w.heap.size w w' := by
 have hu43 := Try.underlying43
 have HR0_0 := AM hr0_0
 have HC0_0 := AM hc0_0
 clear hr0_0 hc0_0
 have HR1_0 := AM hr1_0
 have HC1_0 := AM hc1_0
 clear hr1_0 hc1_0
 have HB := AM (Below.refl w.heap.size w)
 have H : (rf08_Cmp.l0 k 7 l0_0 l1_0) = some r := h
 clear h
 have H' := AM H
 clear H
 go_enter Try.func49, Try.ntmps49
 go_wp2_with (first | ((with_reducible refine gate_dst (N := 2) rfl ?_); refine bE 2 #[.slice A0_0 l0_0.length c0_0] 43 ?_; intro gb247 hg w3 hbox hb; have BK247 := AM hbox; have GW247 := kG HB hg; replace HB := kH HB hb; have GE247 := GW247; clear hb hbox hg) | ((with_reducible refine gate_dst (N := 3) rfl ?_); refine bE 3 #[.slice A1_0 l1_0.length c1_0] 43 ?_; intro gb248 hg w4 hbox hb; have BK248 := AM hbox; have GW248 := kG HB hg; replace HB := kH HB hb; have GE248 := GW248; have NB247_248 := kN BK247 hg; have NB248_247 := kM BK247 hg; replace BK247 := kB BK247 hb; clear hb hbox hg))
 go_loopg [5] k (fun kq v5 w' => ∃ (x5_1 : Int), v5 = .int .i64 x5_1 ∧ Aside0 (rf08_Cmp.l0 kq x5_1 l0_0 l1_0 = some r) ∧ Aside0 (kq ≤ k) ∧ Aside0 (w'.heap[gb247]? = some (.cells #[(.slice A0_0 l0_0.length c0_0)] 43 (0, 0))) ∧ Aside0 (w'.heap[gb248]? = some (.cells #[(.slice A1_0 l1_0.length c1_0)] 43 (0, 0))) ∧ Aside0 (Below w.heap.size w w'))
 case atStart => exact ⟨(7), rS, H', ⟨Nat.le_refl _⟩, ⟨bK BK247⟩, ⟨bK BK248⟩, ⟨ bH HB⟩⟩
 case round =>
  clear H'
  (try clear c1); (try clear p2); (try clear c4)
  obtain ⟨x5_1, rfl, HA, HK1, BK247, BK248, HB⟩ := hrel
  cases gk with
  | zero => exact absurd HA.out (by simp [rf08_Cmp.l0])
  | succ k1 =>
   have H := HA.out; clear HA
   simp only [rf08_Cmp.l0] at H
   by_cases c5 : x5_1 ≥ 0
   ·rw [if_pos c5] at H
    have c5b0 := decide_eq_true c5; clear c5
    by_cases c6 : 0 ≤ x5_1
    ·rw [if_pos c6] at H
     have c6b0 := decide_eq_true c6; clear c6
     by_cases c7 : x5_1 < (l0_0.length : Int)
     ·rw [if_pos c7] at H
      have c7b0 := decide_eq_true c7; clear c7
      by_cases c8 : x5_1 < (l1_0.length : Int)
      ·rw [if_pos c8] at H
       have c8b0 := decide_eq_true c8; clear c8
       have HC9 := AM H
       clear H; have hnb10 := NB247_248.out; have hnc10 := NB248_247.out; obtain ⟨hcz11_0, hfz11_0⟩ := c1 BK247
       have p249 : 0 ≤ (x5_1 : Int) := pD
       have q249 : x5_1 < (l0_0.length : Int) := pD
       obtain ⟨ad249, e249, hx249_0⟩ := Kd.at_int HR0_0.out x5_1 p249 q249
       cases e249
       replace hx249_0 := hW HB hx249_0; replace p249 := eq_true p249; replace q249 := eq_true q249; obtain ⟨hcz12_0, hfz12_0⟩ := c1 BK248
       have p250 : 0 ≤ (x5_1 : Int) := pD
       have q250 : x5_1 < (l1_0.length : Int) := pD
       obtain ⟨ad250, e250, hx250_0⟩ := Kd.at_int HR1_0.out x5_1 p250 q250
       cases e250
       replace hx250_0 := hW HB hx250_0; replace p250 := eq_true p250; replace q250 := eq_true q250
       go_upto_if 23 with (fail)
       go_cut [6, 7] (fun v6 v7 wc => ∃ (kq : Nat) (x6_8 : Int) (x7_8 : Int), v6 = .int .i64 x6_8 ∧ v7 = .int .i64 x7_8 ∧ Aside0 (rf08_Cmp.j1 kq x5_1 x6_8 x7_8 l0_0 l1_0 = some r) ∧ Aside0 (kq ≤ k1) ∧ Aside0 (wc.heap[gb247]? = some (.cells #[(.slice (some ad249) l0_0.length c0_0)] 43 (0, 0))) ∧ Aside0 (wc.heap[gb248]? = some (.cells #[(.slice (some ad250) l1_0.length c1_0)] 43 (0, 0))) ∧ Aside0 (Below w.heap.size w wc))
       case first =>
        have H := HC9.out; clear HC9
        by_cases c13 : x5_1 = 7
        ·rw [if_pos c13] at H
         have c13b0 : (x5_1 == 7) = true := beq_iff_eq.mpr c13
         have c13b1 : (x5_1 != 7) = false := bne_eq_false_iff_eq.mpr c13
         clear c13
         (first | rw [c13b0] | (simp only [i64_w, i32_w]; rw [c13b0]) | skip)
         have H' := AM H
         clear H
         go_wp2
         go_meet
         case rel => exact ⟨_, (Int.tmod (wrap64 ((rd l0_0 x5_1) + 32768)) 65536), (Int.tmod (wrap64 ((rd l1_0 x5_1) + 32768)) 65536), rS, rS, H', ⟨by have := HK1.out; first | omega | exact Nat.le_refl _⟩, ⟨bK BK247⟩, ⟨bK BK248⟩, ⟨ bH HB⟩⟩
        ·rw [if_neg c13] at H
         have c13b0 : (x5_1 == 7) = false := beq_eq_false_iff_ne.mpr c13
         have c13b1 : (x5_1 != 7) = true := bne_iff_ne.mpr c13
         (first | rw [c13b0] | (simp only [i64_w, i32_w]; rw [c13b0]) | skip)
         have H' := AM H
         clear H
         go_wp2
         go_meet
         case rel => exact ⟨_, (rd l0_0 x5_1), (rd l1_0 x5_1), rS, rS, H', ⟨by have := HK1.out; first | omega | exact Nat.le_refl _⟩, ⟨bK BK247⟩, ⟨bK BK248⟩, ⟨ bH HB⟩⟩
       case rest =>
        clear HC9; (try clear c1); (try clear p2); (try clear q2); (try clear hx2); (try clear c4); (try clear c5); (try clear c5b0); (try clear c6); (try clear c6b0); (try clear p6); (try clear c7); (try clear c7b0); (try clear c8); (try clear c8b0); (try clear c10); (try clear c13); (try clear c13b0); (try clear c13b1); (try clear hcz11_0); (try clear hcz12_0); (try clear hfz11_0); (try clear hfz12_0); (try clear hx249_0); (try clear hx250_0); (try clear p2); (try clear p249); (try clear p250); (try clear q249); (try clear q250)
        obtain ⟨kq, x6_8, x7_8, rfl, rfl, HA, HJ8, BK247, BK248, HB⟩ := hcut
        cases kq with
        | zero => exact absurd HA.out (by simp [rf08_Cmp.j1])
        | succ kj8 =>
         have H := HA.out; clear HA
         simp only [rf08_Cmp.j1] at H
         by_cases c14 : x6_8 < x7_8
         ·rw [if_pos c14] at H
          have c14b0 := decide_eq_true c14; clear c14
          obtain rfl := Option.some.inj H
          go_wp2
          go_ret
          exact ⟨rE, bH HB⟩
         ·rw [if_neg c14] at H
          have c14b0 := decide_eq_false c14; clear c14
          by_cases c15 : x6_8 > x7_8
          ·rw [if_pos c15] at H
           have c15b0 := decide_eq_true c15; clear c15
           obtain rfl := Option.some.inj H
           go_wp2
           go_ret
           exact ⟨rE, bH HB⟩
          ·rw [if_neg c15] at H
           have c15b0 := decide_eq_false c15; clear c15
           have H' := AM H
           clear H
           go_wp2
           go_roundg kj8
           case measure => have := HK1.out; have := HJ8.out; omega
           case rel => exact ⟨(wrap64 (x5_1 - 1)), rS, H', ⟨by have := HK1.out; have := HJ8.out; omega⟩, ⟨bK BK247⟩, ⟨bK BK248⟩, ⟨ bH HB⟩⟩
      ·rw [if_neg c8] at H
       exact absurd H (by simp)
     ·rw [if_neg c7] at H
      exact absurd H (by simp)
    ·rw [if_neg c6] at H
     exact absurd H (by simp)
   ·rw [if_neg c5] at H
    have c5b0 := decide_eq_false c5; clear c5
    obtain rfl := Option.some.inj H
    go_wp2
    go_ret
    exact ⟨rE, bH HB⟩
end Go.Proofs.Ytbonkedecfjmdaa.P
