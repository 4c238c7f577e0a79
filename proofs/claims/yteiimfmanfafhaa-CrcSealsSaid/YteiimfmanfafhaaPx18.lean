/- Written for this claim by a program of this session (a turned copy of the print): Go functions as Lean functions, and that the Go code comes to just these answers; or a statement proved out of them. No condition. -/
import Derived.Test.YteiimfmanfafhaaPx0
import Derived.Test.YteiimfmanfafhaaPx7
import Derived.Test.YteiimfmanfafhaaPx8
import Derived.Test.YteiimfmanfafhaaPx9
import Derived.Test.YteiimfmanfafhaaPx13
import Derived.Test.YteiimfmanfafhaaPx16
namespace Go.Proofs.Yteiimfmanfafhaa.P
open Go.RowKit Go.Proofs.YteiimfmanfafhaaW.PrintWords Go.Proofs.YteiimfmanfafhaaW.PrintLast Go.Proofs.YteiimfmanfafhaaW.PrintMore Go.Proofs.Yteiimfmanfafhaa.X
attribute [local go_sem] max2_int min2_int max_two min_two max_three min_three max_four min_four   -- for this text's walks alone
set_option linter.unusedVariables false
set_option linter.unusedSimpArgs false

/-! ### lapidarylaw02_CrcSeals: function 7 -/
def lapidarylaw02_CrcSeals.j0 : Nat → List Int → List Int → Bool → Option (Bool)
 | 0, _, _, _ => none
 | k + 1, x0, x3, x28 => if x28 = true then (none) else ((crc_Check.f k x3).bind fun bt195 => ((lapidaryref02_Check.f k x3).bind fun bt199 => (if bt195.2 = 0 then (if bt199.2 = 0 then ((lapidaryref00_Same.f bt195.1 x0).bind fun t203 => (if t203 = true then ((lapidarylaw02_known.f).bind fun t204 => (some t204)) else (none))) else (none)) else (none))))
def lapidarylaw02_CrcSeals.f (k : Nat) (l0 : List Int) : Option (Bool) := if (l0.length : Int) > 2000 then ((lapidarylaw02_known.f).bind fun t186 => (some t186)) else ((crc_Seal.f l0).bind fun t187 => (if (t187.length : Int) = (wrap64 ((l0.length : Int) + 4)) then (if 0 ≤ (l0.length : Int) then (if (l0.length : Int) ≤ (t187.length : Int) then ((lapidaryref00_Same.f (t187.take ((l0.length : Int) : Int).toNat) l0).bind fun t194 => (lapidarylaw02_CrcSeals.j0 k l0 t187 (!t194))) else (none)) else (none)) else (lapidarylaw02_CrcSeals.j0 k l0 t187 true)))
theorem lapidarylaw02_CrcSeals.mono_l : ∀ k, (∀ y0 y1 y2, LeO (lapidarylaw02_CrcSeals.j0 k y0 y1 y2) (lapidarylaw02_CrcSeals.j0 (k + 1) y0 y1 y2))
 | 0 => fun _ _ _ r h => by simp [lapidarylaw02_CrcSeals.j0] at h
 | k + 1 => by
  have ih0 := lapidarylaw02_CrcSeals.mono_l k
  ·intro y0 y1 y2
   unfold lapidarylaw02_CrcSeals.j0
   repeat' first
   | (with_reducible exact ih0 _ _ _)
   | (with_reducible exact crc_Check.mono _ _)
   | (with_reducible exact lapidaryref02_Check.mono _ _)
   | (with_reducible exact LeO.refl _)
   | (with_reducible exact LeO.none _)
   | (with_reducible refine LeO.ite ?_ ?_)
   | (with_reducible refine LeO.bind ?_ (fun _ => ?_))
   | exact ih0 _ _ _
   | exact crc_Check.mono _ _
   | exact lapidaryref02_Check.mono _ _
   | exact LeO.none _
   | refine LeO.ite ?_ ?_
   | refine LeO.bind ?_ (fun _ => ?_)
theorem lapidarylaw02_CrcSeals.mono : ∀ a0 k, LeO (lapidarylaw02_CrcSeals.f k a0) (lapidarylaw02_CrcSeals.f (k + 1) a0) := by
 intro a0 k
 have ih0 := lapidarylaw02_CrcSeals.mono_l k
 unfold lapidarylaw02_CrcSeals.f
 repeat' first
   | (with_reducible exact ih0 _ _ _)
   | (with_reducible exact crc_Check.mono _ _)
   | (with_reducible exact lapidaryref02_Check.mono _ _)
   | (with_reducible exact LeO.refl _)
   | (with_reducible exact LeO.none _)
   | (with_reducible refine LeO.ite ?_ ?_)
   | (with_reducible refine LeO.bind ?_ (fun _ => ?_))
   | exact ih0 _ _ _
   | exact crc_Check.mono _ _
   | exact lapidaryref02_Check.mono _ _
   | exact LeO.none _
   | refine LeO.ite ?_ ?_
   | refine LeO.bind ?_ (fun _ => ?_)
set_option maxHeartbeats 8000000 in
set_option maxRecDepth 100000 in
theorem lapidarylaw02_CrcSeals.calls (k : Nat) (A0 : Option Addr) (c0 : Nat) (l0 : List Int) (r : Bool) (w : World) (hr0 : Kd.C (Kd.int .u8) w A0 l0.length l0) (hc0 : l0.length ≤ c0) (h : lapidarylaw02_CrcSeals.f k l0 = some r) :
  Calls Try.prog 7 #[.slice A0 l0.length c0] w fun e w' => e = .returned (.bool r) ∧ Below w.heap.size w w' := by
 have HR0 := Aside0.mk hr0
 have HC0 := Aside0.mk hc0
 clear hr0 hc0
 have HB := Aside0.mk (Below.refl w.heap.size w)
 have H : (if (l0.length : Int) > 2000 then ((lapidarylaw02_known.f).bind fun t186 => (some t186)) else ((crc_Seal.f l0).bind fun t187 => (if (t187.length : Int) = (wrap64 ((l0.length : Int) + 4)) then (if 0 ≤ (l0.length : Int) then (if (l0.length : Int) ≤ (t187.length : Int) then ((lapidaryref00_Same.f (t187.take ((l0.length : Int) : Int).toNat) l0).bind fun t194 => (lapidarylaw02_CrcSeals.j0 k l0 t187 (!t194))) else (none)) else (none)) else (lapidarylaw02_CrcSeals.j0 k l0 t187 true)))) = some r := h
 clear h
 by_cases c2 : (l0.length : Int) > 2000
 ·rw [if_pos c2] at H
  have c2b0 : decide (2000 < (l0.length : Int)) = true := decide_eq_true c2
  have c2b1 : decide (2000 < l0.length) = true := decide_eq_true (by omega)
  clear c2
  replace H := Option.bind_eq_some_iff.mp H
  obtain ⟨t186, A30, H⟩ := H
  replace H : (some t186) = some r := H
  have A3 := Aside0.mk A30
  clear A30
  obtain rfl := Option.some.inj H
  go_enter Try.func7, Try.ntmps7
  go_wp2_with (first | ((with_reducible refine gate_callee (f := 8) rfl ?_); refine goesL_ (some 11) rfl rfl Try.func8 (by kernel_rfl) rfl #[] rfl (by (try simp only [List.map_toArray, List.map_cons, List.map_nil]); first | done | rfl | (simp only [List.length_drop, List.length_take]; rfl)) ?_; (with_reducible refine (lapidarylaw02_known.calls  t186 _ A3.out).mono ?_); rintro e w4 ⟨rfl, hb⟩; refine ⟨_, rfl, ?_⟩; have n0_ := Aside0.mk (below_step (bH HB) hb); clear HB; have HB := n0_; clear n0_; (try clear hb); (try clear hb2); (try clear hk); (try clear hi)))
  go_ret
  exact ⟨by first | rfl | (simp [errW_none, errW_some] <;> rfl) | (simp [*, errW_none, errW_some] <;> rfl), bH HB⟩
 ·rw [if_neg c2] at H
  have c2b0 : decide (2000 < (l0.length : Int)) = false := decide_eq_false c2
  have c2b1 : decide (2000 < l0.length) = false := decide_eq_false (by omega)
  clear c2
  replace H := Option.bind_eq_some_iff.mp H
  obtain ⟨t187, A50, H⟩ := H
  replace H : (if (t187.length : Int) = (wrap64 ((l0.length : Int) + 4)) then (if 0 ≤ (l0.length : Int) then (if (l0.length : Int) ≤ (t187.length : Int) then ((lapidaryref00_Same.f (t187.take ((l0.length : Int) : Int).toNat) l0).bind fun t194 => (lapidarylaw02_CrcSeals.j0 k l0 t187 (!t194))) else (none)) else (none)) else (lapidarylaw02_CrcSeals.j0 k l0 t187 true)) = some r := H
  have A5 := Aside0.mk A50
  clear A50
  have HC6 := Aside0.mk H
  clear H
  go_enter Try.func7, Try.ntmps7
  go_upto_region 4 with (first | ((with_reducible refine gate_callee (f := 18) rfl ?_); refine goesL_ (some 13) rfl rfl Try.func18 (by kernel_rfl) rfl #[.slice A0 l0.length c0] rfl (by (try simp only [List.map_toArray, List.map_cons, List.map_nil]); first | done | rfl | (simp only [List.length_drop, List.length_take]; rfl)) ?_; (with_reducible refine (crc_Seal.calls _ _ l0 t187 _ ?side1 ?side2 A5.out).mono ?_); (case side1 => repeat (first | exact HR0.out | (with_reducible refine Kd.C_alloc ?_ _) | (with_reducible refine Kd.C_drewN ?_ _) | (with_reducible refine Kd.C_drew ?_))); (case side2 => exact HC0.out); rintro e w7 ⟨v188, rfl, ho0, hb⟩; refine ⟨_, rfl, ?_⟩; have n0_ := Aside0.mk (Kd.R_lower ho0 (below_size (bH HB))); have n1_ := Aside0.mk (below_step (bH HB) hb); clear HB; have HO189 := n0_; have HB := n1_; clear n0_ n1_; (try clear hb); (try clear hb2); (try clear hk); (try clear hi); (try clear ho0)))
  (try simp only [Act.put, List.setIfInBounds_toArray, List.set_cons_zero, List.set_cons_succ])
  go_cut [28] (fun v28 wc => ∃ (kq : Nat) (x28_5 : Bool), v28 = .bool x28_5 ∧ Aside0 (lapidarylaw02_CrcSeals.j0 kq l0 t187 x28_5 = some r) ∧ Aside0 (kq ≤ k) ∧ Aside0 (Kd.R (Kd.int .u8) 5 wc w.heap.size (fun _ => True) v188 t187) ∧ Aside0 (Below w.heap.size w wc))
  case first =>
   have H := HC6.out
   clear HC6
   by_cases c8 : (t187.length : Int) = (wrap64 ((l0.length : Int) + 4))
   ·rw [if_pos c8] at H
    have c8b0 : ((t187.length : Int) == (wrap64 ((l0.length : Int) + 4))) = true := beq_iff_eq.mpr c8
    have c8b1 : ((t187.length : Int) != (wrap64 ((l0.length : Int) + 4))) = false := bne_eq_false_iff_eq.mpr c8
    clear c8
    (first | rw [c8b0] | (simp only [i64_w, i32_w]; rw [c8b0]) | skip)
    by_cases c9 : 0 ≤ (l0.length : Int)
    ·rw [if_pos c9] at H
     have c9b0 := eq_true c9
     have c9b1 : decide (0 ≤ (l0.length : Int)) = true := decide_eq_true c9
     clear c9
     by_cases c10 : (l0.length : Int) ≤ (t187.length : Int)
     ·rw [if_pos c10] at H
      have c10b0 := eq_true c10
      have c10b1 : decide ((l0.length : Int) ≤ (t187.length : Int)) = true := decide_eq_true c10
      clear c10
      obtain ⟨y190, hy190⟩ : ∃ y_ : List Int, y_ = (t187.take ((l0.length : Int) : Int).toNat) := ⟨_, rfl⟩
      replace H : ((lapidaryref00_Same.f y190 l0).bind fun t194 => (lapidarylaw02_CrcSeals.j0 k l0 t187 (!t194))) = some r := by first | (rw [hy190]; with_reducible exact H) | (have H2_ := (Option.bind_some _ _).symm.trans H; rw [hy190]; with_reducible exact H2_) | (have H2_ := (Option.bind_some _ _).symm.trans H; with_reducible exact H2_) | with_reducible exact H | (rw [hy190]; exact H) | exact H
      have Ny190 := Aside0.mk hy190
      clear hy190
      replace H := Option.bind_eq_some_iff.mp H
      obtain ⟨t194, A110, H⟩ := H
      replace H : (lapidarylaw02_CrcSeals.j0 k l0 t187 (!t194)) = some r := H
      have A11 := Aside0.mk A110
      clear A110
      have H' := Aside0.mk H
      clear H
      obtain ⟨Ao12, co12, eo12⟩ := Kd.R_slice HO189.out
      subst eo12
      have q13 : ((l0.length : Int) : Int) ≤ ((t187.length : Int) : Int) := of_decide_eq_true (by first | (with_reducible assumption) | assumption)
      obtain ⟨i013, hi013, _, hsz13, _⟩ := info_parts info5
      have hroom13 : t187.length ≤ co12 := (Kd.R_reads' HO189.out).2.1
      have hC13 : Kd.C (Kd.int .u8) _ Ao12 t187.length t187 := (Kd.R_reads' HO189.out).2.2
      have hcut13 := cut_to (P := Try.prog) 22 5 .i64 Try.underlying22 hi013 Ao12 t187.length co12 (l0.length : Int) (of_decide_eq_true (by first | (with_reducible assumption) | assumption)) q13 hroom13
      have hr13 := Kd.C_take (m := ((l0.length : Int) : Int).toNat) hC13 (by omega)
      have hy13 : y190.length = ((l0.length : Int) : Int).toNat := (by rw [Ny190.out, List.length_take]; omega)
      rw [← Ny190.out] at hr13
      rw [← hy13] at hcut13
      have HR193 := Aside0.mk hr13
      have HC193 := Aside0.mk (show y190.length ≤ co12 from by omega)
      clear hr13 hC13 hroom13 hi013 hsz13
      have KY13 := Aside0.mk hy13
      clear hy13
      have KL13 := Aside0.mk (show ((l0.length : Int) : Int).toNat ≤ t187.length from by omega)
      replace q13 := eq_true q13
      go_wp2_with (first | (go_at_call 11; (with_reducible refine (lapidaryref00_Same.calls _ _ y190 _ _ l0 t194 _ ?side1 ?side2 ?side3 ?side4 A11.out).mono ?_); (case side1 => repeat (first | exact (by repeat (first | (with_reducible exact HR193.out) | (with_reducible refine Kd.C_alloc ?_ _) | (with_reducible refine Kd.C_drewN ?_ _) | (with_reducible refine Kd.C_drew ?_) | exact HR193.out)) | (with_reducible refine Kd.C_alloc ?_ _) | (with_reducible refine Kd.C_drewN ?_ _) | (with_reducible refine Kd.C_drew ?_))); (case side2 => exact HC193.out); (case side3 => repeat (first | exact (Kd.C_below HR0.out HB.out) | (with_reducible refine Kd.C_alloc ?_ _) | (with_reducible refine Kd.C_drewN ?_ _) | (with_reducible refine Kd.C_drew ?_))); (case side4 => exact HC0.out); rintro e w' ⟨rfl, ⟨nd, rfl⟩⟩))
      go_meet
      case rel => exact ⟨_, (!t194), (by first | rfl | (simp; done) | (simp [*]; done)), H', ⟨by first | omega | exact Nat.le_refl _⟩, ⟨by (with_reducible repeat (first | apply Kd.R_alloc | apply Kd.R_drewN | apply Kd.R_drew)); exact HO189.out⟩, ⟨ bH HB⟩⟩
     ·rw [if_neg c10] at H
      exact absurd H (by simp)
    ·rw [if_neg c9] at H
     exact absurd H (by simp)
   ·rw [if_neg c8] at H
    have c8b0 : ((t187.length : Int) == (wrap64 ((l0.length : Int) + 4))) = false := beq_eq_false_iff_ne.mpr c8
    have c8b1 : ((t187.length : Int) != (wrap64 ((l0.length : Int) + 4))) = true := bne_iff_ne.mpr c8
    (first | rw [c8b0] | (simp only [i64_w, i32_w]; rw [c8b0]) | skip)
    have H' := Aside0.mk H
    clear H
    obtain ⟨Ao14, co14, eo14⟩ := Kd.R_slice HO189.out
    subst eo14
    go_wp2
    go_meet
    case rel => exact ⟨_, (true), (by first | rfl | (simp; done) | (simp [*]; done)), H', ⟨by first | omega | exact Nat.le_refl _⟩, ⟨by (with_reducible repeat (first | apply Kd.R_alloc | apply Kd.R_drewN | apply Kd.R_drew)); exact HO189.out⟩, ⟨ bH HB⟩⟩
  case rest =>
   clear HC6
   try clear c1
   try clear q1
   try clear c2
   try clear c2b0
   try clear c2b1
   try clear p2
   try clear p6
   try clear c7
   try clear c8
   try clear c8b0
   try clear c8b1
   try clear c9
   try clear c9b0
   try clear c9b1
   try clear c10
   try clear c10b0
   try clear c10b1
   try clear q13
   try clear q13
   obtain ⟨kq, x28_5, rfl, HA, HJ5, HO_3, HB⟩ := hcut
   cases kq with
   | zero => exact absurd HA.out (by simp [lapidarylaw02_CrcSeals.j0])
   | succ kj5 =>
    have H := HA.out
    clear HA
    simp only [lapidarylaw02_CrcSeals.j0] at H
    by_cases c15 : x28_5 = true
    ·subst c15
     have H1 : (none) = some r := by rw [if_pos rfl] at H; exact H
     clear H
     have H := H1
     clear H1
     exact absurd H (by simp)
    ·replace c15 := Bool.eq_false_iff.mpr c15
     subst c15
     have H1 : ((crc_Check.f kj5 t187).bind fun bt195 => ((lapidaryref02_Check.f kj5 t187).bind fun bt199 => (if bt195.2 = 0 then (if bt199.2 = 0 then ((lapidaryref00_Same.f bt195.1 l0).bind fun t203 => (if t203 = true then ((lapidarylaw02_known.f).bind fun t204 => (some t204)) else (none))) else (none)) else (none)))) = some r := by rw [if_neg (show ¬ (false = true) by decide)] at H; exact H
     clear H
     have H := H1
     clear H1
     replace H := Option.bind_eq_some_iff.mp H
     obtain ⟨⟨t195, t198⟩, A160, H⟩ := H
     replace H : ((lapidaryref02_Check.f kj5 t187).bind fun bt199 => (if t198 = 0 then (if bt199.2 = 0 then ((lapidaryref00_Same.f t195 l0).bind fun t203 => (if t203 = true then ((lapidarylaw02_known.f).bind fun t204 => (some t204)) else (none))) else (none)) else (none))) = some r := H
     have A16 := Aside0.mk A160
     clear A160
     replace H := Option.bind_eq_some_iff.mp H
     obtain ⟨⟨t199, t200⟩, A170, H⟩ := H
     replace H : (if t198 = 0 then (if t200 = 0 then ((lapidaryref00_Same.f t195 l0).bind fun t203 => (if t203 = true then ((lapidarylaw02_known.f).bind fun t204 => (some t204)) else (none))) else (none)) else (none)) = some r := H
     have A17 := Aside0.mk A170
     clear A170
     by_cases c18 : t198 = 0
     ·rw [if_pos c18] at H
      have c18b0 : (t198 == 0) = true := beq_iff_eq.mpr c18
      have c18b1 : (t198 != 0) = false := bne_eq_false_iff_eq.mpr c18
      clear c18
      by_cases c19 : t200 = 0
      ·rw [if_pos c19] at H
       have c19b0 : (t200 == 0) = true := beq_iff_eq.mpr c19
       have c19b1 : (t200 != 0) = false := bne_eq_false_iff_eq.mpr c19
       clear c19
       replace H := Option.bind_eq_some_iff.mp H
       obtain ⟨t203, A200, H⟩ := H
       replace H : (if t203 = true then ((lapidarylaw02_known.f).bind fun t204 => (some t204)) else (none)) = some r := H
       have A20 := Aside0.mk A200
       clear A200
       by_cases c21 : t203 = true
       ·subst c21
        have H1 : ((lapidarylaw02_known.f).bind fun t204 => (some t204)) = some r := by rw [if_pos rfl] at H; exact H
        clear H
        have H := H1
        clear H1
        replace H := Option.bind_eq_some_iff.mp H
        obtain ⟨t204, A220, H⟩ := H
        replace H : (some t204) = some r := H
        have A22 := Aside0.mk A220
        clear A220
        obtain rfl := Option.some.inj H
        obtain ⟨Ao23, co23, eo23⟩ := Kd.R_slice HO_3.out
        subst eo23
        go_wp2_with (first | ((with_reducible refine gate_callee (f := 9) rfl ?_); refine goesL_ (some 31) rfl rfl Try.func9 (by kernel_rfl) rfl #[.slice Ao23 t187.length co23] rfl (by (try simp only [List.map_toArray, List.map_cons, List.map_nil]); first | done | rfl | (simp only [List.length_drop, List.length_take]; rfl)) ?_; (with_reducible refine (crc_Check.calls kj5 (fun k_ => some k_ = (.slice Ao23 t187.length co23 : Value).ownBlock) _ _ t187 t195 t198 _ ?side1 A16.out).mono ?_); (case side1 => exact Kd.R_V (Kd.R_tight rfl (HO_3.out))); rintro e w24 ⟨v196, rfl, ho0, hb⟩; refine ⟨_, rfl, ?_⟩; have n0_ := Aside0.mk (Kd.R_elder' (rK HO_3) (Kd.R_base ho0) hb); have n1_ := Aside0.mk (Kd.R_lower (Kd.R_new' (Kd.R_mono (ok' := fun k_ => True) ho0 (fun _ hk_ => trivial)) (Kd.R_lt (rK HO_3))) (below_size (bH HB))); have n2_ := Aside0.mk (below_step (bH HB) hb); clear HO_3; clear HB; have HO_3 := n0_; have HO197 := n1_; have HB := n2_; clear n0_ n1_ n2_; (try clear hb); (try clear hb2); (try clear hk); (try clear hi); (try clear ho0)) | ((with_reducible refine gate_callee (f := 10) rfl ?_); refine goesL_ (some 36) rfl rfl Try.func10 (by kernel_rfl) rfl #[.slice Ao23 t187.length co23] rfl (by (try simp only [List.map_toArray, List.map_cons, List.map_nil]); first | done | rfl | (simp only [List.length_drop, List.length_take]; rfl)) ?_; (with_reducible refine (lapidaryref02_Check.calls kj5 _ _ t187 t199 t200 _ ?side1 ?side2 A17.out).mono ?_); (case side1 => repeat (first | exact (Kd.R_reads' HO_3.out).2.2 | (with_reducible refine Kd.C_alloc ?_ _) | (with_reducible refine Kd.C_drewN ?_ _) | (with_reducible refine Kd.C_drew ?_))); (case side2 => exact (Kd.R_reads' HO_3.out).2.1); rintro e w25 ⟨v201, rfl, ho0, hb⟩; refine ⟨_, rfl, ?_⟩; have n0_ := Aside0.mk (Kd.R_elder' (rK HO_3) (Kd.R_base ho0) hb); have n1_ := Aside0.mk (Kd.R_elder' (rK HO197) (Kd.R_base ho0) hb); have n2_ := Aside0.mk (Kd.R_lower (Kd.R_new' (Kd.R_new' ho0 (Kd.R_lt (rK HO_3))) (Kd.R_lt (rK HO197))) (below_size (bH HB))); have n3_ := Aside0.mk (below_step (bH HB) hb); clear HO_3; clear HO197; clear HB; have HO_3 := n0_; have HO197 := n1_; have HO202 := n2_; have HB := n3_; clear n0_ n1_ n2_ n3_; (try clear hb); (try clear hb2); (try clear hk); (try clear hi); (try clear ho0); obtain ⟨Ao26, co26, eo26⟩ := Kd.R_slice HO197.out; subst eo26) | (go_at_call 11; (with_reducible refine (lapidaryref00_Same.calls _ _ t195 _ _ l0 true _ ?side1 ?side2 ?side3 ?side4 A20.out).mono ?_); (case side1 => repeat (first | exact (Kd.R_reads' HO197.out).2.2 | (with_reducible refine Kd.C_alloc ?_ _) | (with_reducible refine Kd.C_drewN ?_ _) | (with_reducible refine Kd.C_drew ?_))); (case side2 => exact (Kd.R_reads' HO197.out).2.1); (case side3 => repeat (first | exact (Kd.C_below HR0.out HB.out) | (with_reducible refine Kd.C_alloc ?_ _) | (with_reducible refine Kd.C_drewN ?_ _) | (with_reducible refine Kd.C_drew ?_))); (case side4 => exact HC0.out); rintro e w' ⟨rfl, ⟨nd, rfl⟩⟩) | (go_at_call 8; (with_reducible refine (lapidarylaw02_known.calls  t204 _ A22.out).mono ?_); rintro e w27 ⟨rfl, hb⟩; have n0_ := Aside0.mk (Kd.R_below (rK HO_3) hb); have n1_ := Aside0.mk (Kd.R_below (rK HO197) hb); have n2_ := Aside0.mk (Kd.R_below (rK HO202) hb); have n3_ := Aside0.mk (below_step (bH HB) hb); clear HO_3; clear HO197; clear HO202; clear HB; have HO_3 := n0_; have HO197 := n1_; have HO202 := n2_; have HB := n3_; clear n0_ n1_ n2_ n3_; (try clear hb); (try clear hb2); (try clear hk); (try clear hi)))
        go_ret
        exact ⟨by first | rfl | (simp [errW_none, errW_some] <;> rfl) | (simp [*, errW_none, errW_some] <;> rfl), bH HB⟩
       ·replace c21 := Bool.eq_false_iff.mpr c21
        subst c21
        have H1 : (none) = some r := by rw [if_neg (show ¬ (false = true) by decide)] at H; exact H
        clear H
        have H := H1
        clear H1
        exact absurd H (by simp)
      ·rw [if_neg c19] at H
       exact absurd H (by simp)
     ·rw [if_neg c18] at H
      exact absurd H (by simp)

/-- THE ONE PURE STATEMENT of lapidarylaw02_CrcSeals: yours. -/
def lapidarylaw02_CrcSeals.Pure : Prop := ∀ (l0 : List Int), l0.length ≤ maxLen → l0.length * 1 ≤ 140737488351232 → (∀ x ∈ l0, (Lit.int .u8 x).wf = true) → ∃ k, lapidarylaw02_CrcSeals.f k l0 = some true
theorem lapidarylaw02_CrcSeals.walk (P : lapidarylaw02_CrcSeals.Pure) (a0 : Option Addr) (len0 cap0 : Nat) (z0 : List Int) (w : World) (w0 : (a0 = none ∧ len0 = 0 ∧ cap0 = 0 ∧ z0 = []) ∨ ∃ x, a0 = some x ∧ len0 ≤ cap0 ∧ cap0 ≤ maxLen ∧ z0.length = cap0 ∧ (∀ i, i < z0.length → w.cell? (x.add i) = some (.int .u8 (z0.getD i 0))) ∧ ∀ n ∈ z0, (Lit.int .u8 n).wf = true) (y0 : len0 * 1 ≤ 140737488351232) :
  Calls Try.prog 7 #[.slice a0 len0 cap0] w fun e w' => e = .returned (.bool true) ∧ Below w.heap.size w w' := by
 obtain ⟨l0, rfl, hr0, hm0, hw0, hc0⟩ := ReadsInt.ofRowC w0
 obtain ⟨k, h⟩ := P l0 hm0 y0 hw0
 refine (lapidarylaw02_CrcSeals.calls k _ _ l0 true w (Kd.C_of_reads (d := (0 : Int)) (h1 := fun _ => rfl) hr0) hc0 h).mono ?_
 rintro e w' ⟨rfl, hd⟩
 exact ⟨rfl, hd⟩

end Go.Proofs.Yteiimfmanfafhaa.P
