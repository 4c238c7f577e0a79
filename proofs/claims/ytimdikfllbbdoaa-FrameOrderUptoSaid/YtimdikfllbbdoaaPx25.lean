/- Written for this claim by a program of this session (a turned copy of the print): Go functions as Lean functions, and that the Go code comes to just these answers; or a statement proved out of them. No condition. -/
import Derived.Test.YtimdikfllbbdoaaPx0
import Derived.Test.YtimdikfllbbdoaaPx24
namespace Go.Proofs.Ytimdikfllbbdoaa.P
open Go.RowKit Go.Proofs.YtimdikfllbbdoaaW.PrintWords Go.Proofs.YtimdikfllbbdoaaW.PrintLast Go.Proofs.YtimdikfllbbdoaaW.PrintMore Go.Proofs.Ytimdikfllbbdoaa.X
attribute [local go_sem] max2_int min2_int max_two min_two max_three min_three max_four min_four   -- for this text's walks alone
set_option linter.unusedVariables false
set_option linter.unusedSimpArgs false

/-! ### lapidaryref03_Encode: function 11 -/
mutual
def lapidaryref03_Encode.l0 : Nat → List (S33) → List Int → Int → Option (List Int × Int)
 | 0, _, _, _ => none
 | k + 1, x0, x4, x5 => if x5 < (x0.length : Int) then (if 0 ≤ x5 then ((lapidaryref03_One.f k ((rd_T33 x0 x5).f0) ((rd_T33 x0 x5).f1)).bind fun bt276 => (if bt276.2 = 0 then (if x4.length + bt276.1.length < 140737488355328 then (lapidaryref03_Encode.l0 k x0 (x4 ++ bt276.1) (wrap64 (x5 + 1))) else (none)) else (some (([] : List Int), bt276.2)))) else (none)) else (lapidaryref03_Encode.l1 k x0 x4 1)
def lapidaryref03_Encode.l1 : Nat → List (S33) → List Int → Int → Option (List Int × Int)
 | 0, _, _, _ => none
 | k + 1, x0, x4, x8 => if x8 < (x0.length : Int) then (if 0 ≤ x8 then (if 0 ≤ (wrap64 (x8 - 1)) then (if (wrap64 (x8 - 1)) < (x0.length : Int) then (if ((rd_T33 x0 x8).f0) ≤ ((rd_T33 x0 (wrap64 (x8 - 1))).f0) then (some (([] : List Int), 2)) else (lapidaryref03_Encode.l1 k x0 x4 (wrap64 (x8 + 1)))) else (none)) else (none)) else (none)) else (if x4.length < 140737488355328 then ((some (x4 ++ [0] : List Int)).bind fun y285 => (if (y285.length : Int) > 1048576 then (some (([] : List Int), 3)) else (some (y285, 0)))) else (none))
end
def lapidaryref03_Encode.f (k : Nat) (l0 : List (S33)) : Option (List Int × Int) := lapidaryref03_Encode.l0 k l0 (([76, 80, 68, 89, 1] : List Int)) 0
theorem lapidaryref03_Encode.mono_l : ∀ k, (∀ y0 y1 y2, LeO (lapidaryref03_Encode.l0 k y0 y1 y2) (lapidaryref03_Encode.l0 (k + 1) y0 y1 y2)) ∧ (∀ y0 y1 y2, LeO (lapidaryref03_Encode.l1 k y0 y1 y2) (lapidaryref03_Encode.l1 (k + 1) y0 y1 y2))
 | 0 => ⟨fun _ _ _ r h => by simp [lapidaryref03_Encode.l0] at h, fun _ _ _ r h => by simp [lapidaryref03_Encode.l1] at h⟩
 | k + 1 => by
  obtain ⟨ih0, ih1⟩ := lapidaryref03_Encode.mono_l k
  refine ⟨?_, ?_⟩
  ·intro y0 y1 y2
   unfold lapidaryref03_Encode.l0
   repeat' first
   | (with_reducible exact ih0 _ _ _)
   | (with_reducible exact ih1 _ _ _)
   | (with_reducible exact lapidaryref03_One.mono _ _ _)
   | (with_reducible exact LeO.refl _)
   | (with_reducible exact LeO.none _)
   | (with_reducible refine LeO.ite ?_ ?_)
   | (with_reducible refine LeO.bind ?_ (fun _ => ?_))
   | exact ih0 _ _ _
   | exact ih1 _ _ _
   | exact lapidaryref03_One.mono _ _ _
   | exact LeO.none _
   | refine LeO.ite ?_ ?_
   | refine LeO.bind ?_ (fun _ => ?_)
  ·intro y0 y1 y2
   unfold lapidaryref03_Encode.l1
   repeat' first
   | (with_reducible exact ih0 _ _ _)
   | (with_reducible exact ih1 _ _ _)
   | (with_reducible exact lapidaryref03_One.mono _ _ _)
   | (with_reducible exact LeO.refl _)
   | (with_reducible exact LeO.none _)
   | (with_reducible refine LeO.ite ?_ ?_)
   | (with_reducible refine LeO.bind ?_ (fun _ => ?_))
   | exact ih0 _ _ _
   | exact ih1 _ _ _
   | exact lapidaryref03_One.mono _ _ _
   | exact LeO.none _
   | refine LeO.ite ?_ ?_
   | refine LeO.bind ?_ (fun _ => ?_)
theorem lapidaryref03_Encode.mono : ∀ a0 k, LeO (lapidaryref03_Encode.f k a0) (lapidaryref03_Encode.f (k + 1) a0) := by
 intro a0 k
 obtain ⟨ih0, ih1⟩ := lapidaryref03_Encode.mono_l k
 unfold lapidaryref03_Encode.f
 repeat' first
   | (with_reducible exact ih0 _ _ _)
   | (with_reducible exact ih1 _ _ _)
   | (with_reducible exact lapidaryref03_One.mono _ _ _)
   | (with_reducible exact LeO.refl _)
   | (with_reducible exact LeO.none _)
   | (with_reducible refine LeO.ite ?_ ?_)
   | (with_reducible refine LeO.bind ?_ (fun _ => ?_))
   | exact ih0 _ _ _
   | exact ih1 _ _ _
   | exact lapidaryref03_One.mono _ _ _
   | exact LeO.none _
   | refine LeO.ite ?_ ?_
   | refine LeO.bind ?_ (fun _ => ?_)
set_option maxHeartbeats 8000000 in
set_option maxRecDepth 100000 in
theorem lapidaryref03_Encode.calls (k : Nat) (A0 : Option Addr) (c0 : Nat) (l0 : List (S33)) (r1 : List Int) (r2 : Int) (w : World) (hr0 : Kd.C k33 w A0 l0.length l0) (hc0 : l0.length ≤ c0) (h : lapidaryref03_Encode.f k l0 = some (r1, r2)) :
  Calls Try.prog 11 #[.slice A0 l0.length c0] w fun e w' => ∃ v0_ : Value, e = .returned (.tuple #[v0_, .int .i64 r2]) ∧ Kd.R (Kd.int .u8) 5 w' w.heap.size (fun _ => True) v0_ r1 ∧ Below w.heap.size w w' := by
 have hu33 := Try.underlying33
 have HR0 := Aside0.mk hr0
 have HC0 := Aside0.mk hc0
 clear hr0 hc0
 have HB := Aside0.mk (Below.refl w.heap.size w)
 have H : (lapidaryref03_Encode.l0 k l0 (([76, 80, 68, 89, 1] : List Int)) 0) = some (r1, r2) := h
 clear h
 obtain ⟨y272, hy272⟩ : ∃ y_ : List Int, y_ = (([76, 80, 68, 89, 1] : List Int)) := ⟨_, rfl⟩
 replace H : (lapidaryref03_Encode.l0 k l0 y272 0) = some (r1, r2) := by first | (rw [hy272]; with_reducible exact H) | (have H2_ := (Option.bind_some _ _).symm.trans H; rw [hy272]; with_reducible exact H2_) | (have H2_ := (Option.bind_some _ _).symm.trans H; with_reducible exact H2_) | with_reducible exact H | (rw [hy272]; exact H) | exact H
 have Ny272 := Aside0.mk hy272
 clear hy272
 have H' := Aside0.mk H
 clear H
 go_enter Try.func11, Try.ntmps11
 go_wp2_with (first | ((with_reducible refine gate_dst (N := 9) rfl ?_); refine Kd.R_lit (Kd.int .u8) _ 5 ?hg (N := 9) ?hd (xs := ([76, 80, 68, 89, 1] : List Int)) (inner := [.int .u8 76, .int .u8 80, .int .u8 68, .int .u8 89, .int .u8 1]) (ok := fun _ => True) (okp := fun _ => True) ?hr ?hp (fun _ hk => hk) trivial (Below.refl _ _) (Nat.le_refl _) (by simp) ?_; (case hd => rfl); (case hg => rfl); (case hr => first | (go_simp; done) | (go_simp; rfl)); (case hp => exact (Reps.one (show Kd.M (Kd.int .u8) _ _ _ 76 [.int .u8 76] from rfl) (Reps.one (show Kd.M (Kd.int .u8) _ _ _ 80 [.int .u8 80] from rfl) (Reps.one (show Kd.M (Kd.int .u8) _ _ _ 68 [.int .u8 68] from rfl) (Reps.one (show Kd.M (Kd.int .u8) _ _ _ 89 [.int .u8 89] from rfl) (Reps.one (show Kd.M (Kd.int .u8) _ _ _ 1 [.int .u8 1] from rfl) (Reps.none _ _))))))); intro v273 w2 ho3 hb hg_ hnew_; clear hg_ hnew_; (first | rw [← Ny272.out] at ho3 | (simp only [Int.reduceToNat] at ho3; rw [← Ny272.out] at ho3)); have n0_ := Aside0.mk (Kd.R_lower ho3 (below_size (bH HB))); have n1_ := Aside0.mk (below_step (bH HB) hb); clear HB; have HO274 := n0_; have HB := n1_; clear n0_ n1_; clear hb ho3))
 repeat (go_quiet (first | ((with_reducible refine gate_dst (N := 9) rfl ?_); refine Kd.R_lit (Kd.int .u8) _ 5 ?hg (N := 9) ?hd (xs := ([76, 80, 68, 89, 1] : List Int)) (inner := [.int .u8 76, .int .u8 80, .int .u8 68, .int .u8 89, .int .u8 1]) (ok := fun _ => True) (okp := fun _ => True) ?hr ?hp (fun _ hk => hk) trivial (Below.refl _ _) (Nat.le_refl _) (by simp) ?_; (case hd => rfl); (case hg => rfl); (case hr => first | (go_simp; done) | (go_simp; rfl)); (case hp => exact (Reps.one (show Kd.M (Kd.int .u8) _ _ _ 76 [.int .u8 76] from rfl) (Reps.one (show Kd.M (Kd.int .u8) _ _ _ 80 [.int .u8 80] from rfl) (Reps.one (show Kd.M (Kd.int .u8) _ _ _ 68 [.int .u8 68] from rfl) (Reps.one (show Kd.M (Kd.int .u8) _ _ _ 89 [.int .u8 89] from rfl) (Reps.one (show Kd.M (Kd.int .u8) _ _ _ 1 [.int .u8 1] from rfl) (Reps.none _ _))))))); intro v273 w2 ho3 hb hg_ hnew_; clear hg_ hnew_; (first | rw [← Ny272.out] at ho3 | (simp only [Int.reduceToNat] at ho3; rw [← Ny272.out] at ho3)); have n0_ := Aside0.mk (Kd.R_lower ho3 (below_size (bH HB))); have n1_ := Aside0.mk (below_step (bH HB) hb); clear HB; have HO274 := n0_; have HB := n1_; clear n0_ n1_; clear hb ho3)); try go_wp2_with (first | ((with_reducible refine gate_dst (N := 9) rfl ?_); refine Kd.R_lit (Kd.int .u8) _ 5 ?hg (N := 9) ?hd (xs := ([76, 80, 68, 89, 1] : List Int)) (inner := [.int .u8 76, .int .u8 80, .int .u8 68, .int .u8 89, .int .u8 1]) (ok := fun _ => True) (okp := fun _ => True) ?hr ?hp (fun _ hk => hk) trivial (Below.refl _ _) (Nat.le_refl _) (by simp) ?_; (case hd => rfl); (case hg => rfl); (case hr => first | (go_simp; done) | (go_simp; rfl)); (case hp => exact (Reps.one (show Kd.M (Kd.int .u8) _ _ _ 76 [.int .u8 76] from rfl) (Reps.one (show Kd.M (Kd.int .u8) _ _ _ 80 [.int .u8 80] from rfl) (Reps.one (show Kd.M (Kd.int .u8) _ _ _ 68 [.int .u8 68] from rfl) (Reps.one (show Kd.M (Kd.int .u8) _ _ _ 89 [.int .u8 89] from rfl) (Reps.one (show Kd.M (Kd.int .u8) _ _ _ 1 [.int .u8 1] from rfl) (Reps.none _ _))))))); intro v273 w2 ho3 hb hg_ hnew_; clear hg_ hnew_; (first | rw [← Ny272.out] at ho3 | (simp only [Int.reduceToNat] at ho3; rw [← Ny272.out] at ho3)); have n0_ := Aside0.mk (Kd.R_lower ho3 (below_size (bH HB))); have n1_ := Aside0.mk (below_step (bH HB) hb); clear HB; have HO274 := n0_; have HB := n1_; clear n0_ n1_; clear hb ho3)))
 go_loopg [4, 5] k (fun kq v4 v5 w' => ∃ (x4_1 : List Int) (x5_1 : Int), v5 = .int .i64 x5_1 ∧ Aside0 (lapidaryref03_Encode.l0 kq l0 x4_1 x5_1 = some (r1, r2)) ∧ Aside0 (kq ≤ k) ∧ Aside0 (Kd.R (Kd.int .u8) 5 w' w.heap.size (fun _ => True) v4 x4_1) ∧ Aside0 (Below w.heap.size w w'))
 case atStart => exact ⟨(y272), (0), (by first | rfl | (simp; done) | (simp [*]; done)), H', ⟨Nat.le_refl _⟩, ⟨by (with_reducible repeat (first | apply Kd.R_alloc | apply Kd.R_drewN | apply Kd.R_drew)); exact HO274.out⟩, ⟨ bH HB⟩⟩
 case round =>
  clear H'
  try clear c1
  try clear p2
  obtain ⟨x4_1, x5_1, rfl, HA, HK1, HO_4, HB⟩ := hrel
  cases gk with
  | zero => exact absurd HA.out (by simp [lapidaryref03_Encode.l0])
  | succ k1 =>
   have H := HA.out
   clear HA
   simp only [lapidaryref03_Encode.l0] at H
   by_cases c4 : x5_1 < (l0.length : Int)
   ·rw [if_pos c4] at H
    have c4b0 : decide (x5_1 < (l0.length : Int)) = true := decide_eq_true c4
    clear c4
    by_cases c5 : 0 ≤ x5_1
    ·rw [if_pos c5] at H
     have c5b0 : decide (0 ≤ x5_1) = true := decide_eq_true c5
     clear c5
     replace H := Option.bind_eq_some_iff.mp H
     obtain ⟨⟨t276, t279⟩, A60, H⟩ := H
     replace H : (if t279 = 0 then (if x4_1.length + t276.length < 140737488355328 then (lapidaryref03_Encode.l0 k1 l0 (x4_1 ++ t276) (wrap64 (x5_1 + 1))) else (none)) else (some (([] : List Int), t279))) = some (r1, r2) := H
     have A6 := Aside0.mk A60
     clear A60
     by_cases c7 : t279 = 0
     ·rw [if_pos c7] at H
      have c7b0 : (t279 == 0) = true := beq_iff_eq.mpr c7
      have c7b1 : (t279 != 0) = false := bne_eq_false_iff_eq.mpr c7
      clear c7
      by_cases c8 : x4_1.length + t276.length < 140737488355328
      ·rw [if_pos c8] at H
       have LMc8 := Aside0.mk c8
       clear c8
       obtain ⟨y280, hy280⟩ : ∃ y_ : List Int, y_ = (x4_1 ++ t276) := ⟨_, rfl⟩
       replace H : (lapidaryref03_Encode.l0 k1 l0 y280 (wrap64 (x5_1 + 1))) = some (r1, r2) := by first | (rw [hy280]; with_reducible exact H) | (have H2_ := (Option.bind_some _ _).symm.trans H; rw [hy280]; with_reducible exact H2_) | (have H2_ := (Option.bind_some _ _).symm.trans H; with_reducible exact H2_) | with_reducible exact H | (rw [hy280]; exact H) | exact H
       have Ny280 := Aside0.mk hy280
       clear hy280
       have H' := Aside0.mk H
       clear H
       have p275 : 0 ≤ (x5_1 : Int) := of_decide_eq_true (by first | (with_reducible assumption) | assumption)
       have q275 : x5_1 < (l0.length : Int) := of_decide_eq_true (by first | (with_reducible assumption) | assumption)
       obtain ⟨ad275, A275_1, c275_1, e275, hx275_0, hx275_1, hl275_1, hi275_1⟩ := at_T33 HR0.out x5_1 p275 q275
       cases e275
       replace hx275_0 := (HB.out.cell (World.block_lt_of_cell? w _ hx275_0)).trans hx275_0
       replace hx275_1 := (HB.out.cell (World.block_lt_of_cell? w _ hx275_1)).trans hx275_1
       have HR275_1 := Aside0.mk hi275_1
       have HC275_1 := Aside0.mk hl275_1
       clear hi275_1 hl275_1
       replace p275 := eq_true p275
       replace q275 := eq_true q275
       go_wp2_with (first | (go_at_call 13; (with_reducible refine (lapidaryref03_One.calls k1 ((rd_T33 l0 x5_1).f0) _ _ ((rd_T33 l0 x5_1).f1) t276 t279 _ ?side1 ?side2 A6.out).mono ?_); (case side1 => repeat (first | exact (Kd.C_below HR275_1.out HB.out) | (with_reducible refine Kd.C_alloc ?_ _) | (with_reducible refine Kd.C_drewN ?_ _) | (with_reducible refine Kd.C_drew ?_))); (case side2 => exact HC275_1.out); rintro e w9 ⟨v277, rfl, ho0, hb⟩; have n0_ := Aside0.mk (Kd.R_elder' (rK HO_4) (Kd.R_base ho0) hb); have n1_ := Aside0.mk (Kd.R_lower (Kd.R_new' ho0 (Kd.R_lt (rK HO_4))) (below_size (bH HB))); have n2_ := Aside0.mk (below_step (bH HB) hb); clear HO_4; clear HB; have HO_4 := n0_; have HO278 := n1_; have HB := n2_; clear n0_ n1_ n2_; (try clear hb); (try clear hb2); (try clear hk); (try clear hi); (try clear ho0); obtain ⟨Ao11, co11, eo11⟩ := Kd.R_slice HO278.out; subst eo11) | ((with_reducible refine gate_builtin (b := .append) (xs := #[.tmp 27, .tmp 28]) rfl ?_); at_builtin; refine Kd.R_append_rows (Kd.int .u8) (w0 := w) w.heap.size rfl (.tmp 27) (.tmp 28) 25 5 (.int .u8 0) 1 rfl Try.underlying25 info5 rfl (by decide) (by omega) u4 x4_1 t276 _ _ _ (fun k_ => some k_ ≠ (.slice Ao11 t276.length co11 : Value).ownBlock) (fun _ => False) rfl rfl ?aO ?aR (fun _ _ h => h) (fun _ h => h.elim) ?aF ?aB ?aS ?aL ?_; (case aR => repeat (first | exact (Kd.R_reads' HO278.out).2.2 | (with_reducible refine Kd.C_alloc ?_ _) | (with_reducible refine Kd.C_drewN ?_ _) | (with_reducible refine Kd.C_drew ?_))); (case aB => exact (bH HB)); (case aF => exact (fun k_ hk => Kd.fresh' (Kd.R_lt (rK HO278)) k_ hk)); (case aO => exact (by (with_reducible repeat (first | apply Kd.R_alloc | apply Kd.R_drewN | apply Kd.R_drew)); exact Kd.R_mono HO_4.out (fun _ hk => hk.2))); (case aS => exact (below_size (bH HB))); (case aL => have := LMc8.out; omega); intro v281 w10 ho hb hg hat; rw [← Ny280.out] at ho; have n0_ := Aside0.mk (Kd.R_after (ok := (fun _ => True)) (rK HO278) hg hat); have n1_ := Aside0.mk (hb); have n2_ := Aside0.mk (ho); clear HO278; clear HB; clear HO_4; have HO278 := n0_; have HB := n1_; have HO282 := n2_; clear n0_ n1_ n2_; clear ho hb hg hat))
       repeat (go_quiet (first | (go_at_call 13; (with_reducible refine (lapidaryref03_One.calls k1 ((rd_T33 l0 x5_1).f0) _ _ ((rd_T33 l0 x5_1).f1) t276 t279 _ ?side1 ?side2 A6.out).mono ?_); (case side1 => repeat (first | exact (Kd.C_below HR275_1.out HB.out) | (with_reducible refine Kd.C_alloc ?_ _) | (with_reducible refine Kd.C_drewN ?_ _) | (with_reducible refine Kd.C_drew ?_))); (case side2 => exact HC275_1.out); rintro e w9 ⟨v277, rfl, ho0, hb⟩; have n0_ := Aside0.mk (Kd.R_elder' (rK HO_4) (Kd.R_base ho0) hb); have n1_ := Aside0.mk (Kd.R_lower (Kd.R_new' ho0 (Kd.R_lt (rK HO_4))) (below_size (bH HB))); have n2_ := Aside0.mk (below_step (bH HB) hb); clear HO_4; clear HB; have HO_4 := n0_; have HO278 := n1_; have HB := n2_; clear n0_ n1_ n2_; (try clear hb); (try clear hb2); (try clear hk); (try clear hi); (try clear ho0); obtain ⟨Ao11, co11, eo11⟩ := Kd.R_slice HO278.out; subst eo11) | ((with_reducible refine gate_builtin (b := .append) (xs := #[.tmp 27, .tmp 28]) rfl ?_); at_builtin; refine Kd.R_append_rows (Kd.int .u8) (w0 := w) w.heap.size rfl (.tmp 27) (.tmp 28) 25 5 (.int .u8 0) 1 rfl Try.underlying25 info5 rfl (by decide) (by omega) u4 x4_1 t276 _ _ _ (fun k_ => some k_ ≠ (.slice Ao11 t276.length co11 : Value).ownBlock) (fun _ => False) rfl rfl ?aO ?aR (fun _ _ h => h) (fun _ h => h.elim) ?aF ?aB ?aS ?aL ?_; (case aR => repeat (first | exact (Kd.R_reads' HO278.out).2.2 | (with_reducible refine Kd.C_alloc ?_ _) | (with_reducible refine Kd.C_drewN ?_ _) | (with_reducible refine Kd.C_drew ?_))); (case aB => exact (bH HB)); (case aF => exact (fun k_ hk => Kd.fresh' (Kd.R_lt (rK HO278)) k_ hk)); (case aO => exact (by (with_reducible repeat (first | apply Kd.R_alloc | apply Kd.R_drewN | apply Kd.R_drew)); exact Kd.R_mono HO_4.out (fun _ hk => hk.2))); (case aS => exact (below_size (bH HB))); (case aL => have := LMc8.out; omega); intro v281 w10 ho hb hg hat; rw [← Ny280.out] at ho; have n0_ := Aside0.mk (Kd.R_after (ok := (fun _ => True)) (rK HO278) hg hat); have n1_ := Aside0.mk (hb); have n2_ := Aside0.mk (ho); clear HO278; clear HB; clear HO_4; have HO278 := n0_; have HB := n1_; have HO282 := n2_; clear n0_ n1_ n2_; clear ho hb hg hat)); try go_wp2_with (first | (go_at_call 13; (with_reducible refine (lapidaryref03_One.calls k1 ((rd_T33 l0 x5_1).f0) _ _ ((rd_T33 l0 x5_1).f1) t276 t279 _ ?side1 ?side2 A6.out).mono ?_); (case side1 => repeat (first | exact (Kd.C_below HR275_1.out HB.out) | (with_reducible refine Kd.C_alloc ?_ _) | (with_reducible refine Kd.C_drewN ?_ _) | (with_reducible refine Kd.C_drew ?_))); (case side2 => exact HC275_1.out); rintro e w9 ⟨v277, rfl, ho0, hb⟩; have n0_ := Aside0.mk (Kd.R_elder' (rK HO_4) (Kd.R_base ho0) hb); have n1_ := Aside0.mk (Kd.R_lower (Kd.R_new' ho0 (Kd.R_lt (rK HO_4))) (below_size (bH HB))); have n2_ := Aside0.mk (below_step (bH HB) hb); clear HO_4; clear HB; have HO_4 := n0_; have HO278 := n1_; have HB := n2_; clear n0_ n1_ n2_; (try clear hb); (try clear hb2); (try clear hk); (try clear hi); (try clear ho0); obtain ⟨Ao11, co11, eo11⟩ := Kd.R_slice HO278.out; subst eo11) | ((with_reducible refine gate_builtin (b := .append) (xs := #[.tmp 27, .tmp 28]) rfl ?_); at_builtin; refine Kd.R_append_rows (Kd.int .u8) (w0 := w) w.heap.size rfl (.tmp 27) (.tmp 28) 25 5 (.int .u8 0) 1 rfl Try.underlying25 info5 rfl (by decide) (by omega) u4 x4_1 t276 _ _ _ (fun k_ => some k_ ≠ (.slice Ao11 t276.length co11 : Value).ownBlock) (fun _ => False) rfl rfl ?aO ?aR (fun _ _ h => h) (fun _ h => h.elim) ?aF ?aB ?aS ?aL ?_; (case aR => repeat (first | exact (Kd.R_reads' HO278.out).2.2 | (with_reducible refine Kd.C_alloc ?_ _) | (with_reducible refine Kd.C_drewN ?_ _) | (with_reducible refine Kd.C_drew ?_))); (case aB => exact (bH HB)); (case aF => exact (fun k_ hk => Kd.fresh' (Kd.R_lt (rK HO278)) k_ hk)); (case aO => exact (by (with_reducible repeat (first | apply Kd.R_alloc | apply Kd.R_drewN | apply Kd.R_drew)); exact Kd.R_mono HO_4.out (fun _ hk => hk.2))); (case aS => exact (below_size (bH HB))); (case aL => have := LMc8.out; omega); intro v281 w10 ho hb hg hat; rw [← Ny280.out] at ho; have n0_ := Aside0.mk (Kd.R_after (ok := (fun _ => True)) (rK HO278) hg hat); have n1_ := Aside0.mk (hb); have n2_ := Aside0.mk (ho); clear HO278; clear HB; clear HO_4; have HO278 := n0_; have HB := n1_; have HO282 := n2_; clear n0_ n1_ n2_; clear ho hb hg hat)))
       go_roundg k1
       case measure => have := HK1.out; omega
       case rel => exact ⟨(y280), (wrap64 (x5_1 + 1)), (by first | rfl | (simp; done) | (simp [*]; done)), H', ⟨by have := HK1.out; omega⟩, ⟨by (with_reducible repeat (first | apply Kd.R_alloc | apply Kd.R_drewN | apply Kd.R_drew)); exact Kd.R_mono HO282.out (fun _ hk => trivial)⟩, ⟨ bH HB⟩⟩
      ·rw [if_neg c8] at H
       exact absurd H (by simp)
     ·rw [if_neg c7] at H
      have c7b0 : (t279 == 0) = false := beq_eq_false_iff_ne.mpr c7
      have c7b1 : (t279 != 0) = true := bne_iff_ne.mpr c7
      simp only [Option.some.injEq, Prod.mk.injEq] at H
      obtain ⟨rfl, rfl⟩ := H
      have p275 : 0 ≤ (x5_1 : Int) := of_decide_eq_true (by first | (with_reducible assumption) | assumption)
      have q275 : x5_1 < (l0.length : Int) := of_decide_eq_true (by first | (with_reducible assumption) | assumption)
      obtain ⟨ad275, A275_1, c275_1, e275, hx275_0, hx275_1, hl275_1, hi275_1⟩ := at_T33 HR0.out x5_1 p275 q275
      cases e275
      replace hx275_0 := (HB.out.cell (World.block_lt_of_cell? w _ hx275_0)).trans hx275_0
      replace hx275_1 := (HB.out.cell (World.block_lt_of_cell? w _ hx275_1)).trans hx275_1
      have HR275_1 := Aside0.mk hi275_1
      have HC275_1 := Aside0.mk hl275_1
      clear hi275_1 hl275_1
      replace p275 := eq_true p275
      replace q275 := eq_true q275
      go_wp2_with (first | (go_at_call 13; (with_reducible refine (lapidaryref03_One.calls k1 ((rd_T33 l0 x5_1).f0) _ _ ((rd_T33 l0 x5_1).f1) t276 t279 _ ?side1 ?side2 A6.out).mono ?_); (case side1 => repeat (first | exact (Kd.C_below HR275_1.out HB.out) | (with_reducible refine Kd.C_alloc ?_ _) | (with_reducible refine Kd.C_drewN ?_ _) | (with_reducible refine Kd.C_drew ?_))); (case side2 => exact HC275_1.out); rintro e w12 ⟨v277, rfl, ho0, hb⟩; have n0_ := Aside0.mk (Kd.R_elder' (rK HO_4) (Kd.R_base ho0) hb); have n1_ := Aside0.mk (Kd.R_lower (Kd.R_new' ho0 (Kd.R_lt (rK HO_4))) (below_size (bH HB))); have n2_ := Aside0.mk (below_step (bH HB) hb); clear HO_4; clear HB; have HO_4 := n0_; have HO278 := n1_; have HB := n2_; clear n0_ n1_ n2_; (try clear hb); (try clear hb2); (try clear hk); (try clear hi); (try clear ho0)))
      repeat (go_quiet (first | (go_at_call 13; (with_reducible refine (lapidaryref03_One.calls k1 ((rd_T33 l0 x5_1).f0) _ _ ((rd_T33 l0 x5_1).f1) t276 t279 _ ?side1 ?side2 A6.out).mono ?_); (case side1 => repeat (first | exact (Kd.C_below HR275_1.out HB.out) | (with_reducible refine Kd.C_alloc ?_ _) | (with_reducible refine Kd.C_drewN ?_ _) | (with_reducible refine Kd.C_drew ?_))); (case side2 => exact HC275_1.out); rintro e w12 ⟨v277, rfl, ho0, hb⟩; have n0_ := Aside0.mk (Kd.R_elder' (rK HO_4) (Kd.R_base ho0) hb); have n1_ := Aside0.mk (Kd.R_lower (Kd.R_new' ho0 (Kd.R_lt (rK HO_4))) (below_size (bH HB))); have n2_ := Aside0.mk (below_step (bH HB) hb); clear HO_4; clear HB; have HO_4 := n0_; have HO278 := n1_; have HB := n2_; clear n0_ n1_ n2_; (try clear hb); (try clear hb2); (try clear hk); (try clear hi); (try clear ho0))); try go_wp2_with (first | (go_at_call 13; (with_reducible refine (lapidaryref03_One.calls k1 ((rd_T33 l0 x5_1).f0) _ _ ((rd_T33 l0 x5_1).f1) t276 t279 _ ?side1 ?side2 A6.out).mono ?_); (case side1 => repeat (first | exact (Kd.C_below HR275_1.out HB.out) | (with_reducible refine Kd.C_alloc ?_ _) | (with_reducible refine Kd.C_drewN ?_ _) | (with_reducible refine Kd.C_drew ?_))); (case side2 => exact HC275_1.out); rintro e w12 ⟨v277, rfl, ho0, hb⟩; have n0_ := Aside0.mk (Kd.R_elder' (rK HO_4) (Kd.R_base ho0) hb); have n1_ := Aside0.mk (Kd.R_lower (Kd.R_new' ho0 (Kd.R_lt (rK HO_4))) (below_size (bH HB))); have n2_ := Aside0.mk (below_step (bH HB) hb); clear HO_4; clear HB; have HO_4 := n0_; have HO278 := n1_; have HB := n2_; clear n0_ n1_ n2_; (try clear hb); (try clear hb2); (try clear hk); (try clear hi); (try clear ho0))))
      go_ret2
      exact ⟨_, by first | rfl | (simp [errW_none, errW_some] <;> rfl) | (simp [*, errW_none, errW_some] <;> rfl), by first | exact Kd.R_nil _ _ _ _ _ | exact Kd.N_nil _ _ _ _ _ | exact Kd.V_nil _ _ _ _ _ | exact Kd.Q_nil _ _ _ _ _ | exact Kd.S_nil _ _ _ _ _, bH HB⟩
    ·rw [if_neg c5] at H
     exact absurd H (by simp)
   ·rw [if_neg c4] at H
    have c4b0 : decide (x5_1 < (l0.length : Int)) = false := decide_eq_false c4
    clear c4
    have H' := Aside0.mk H
    clear H
    go_wp2
    repeat (go_quiet (fail); try go_wp2)
    go_loopg [8] k1 (fun kq v8 w' => ∃ (x8_2 : Int), v8 = .int .i64 x8_2 ∧ Aside0 (lapidaryref03_Encode.l1 kq l0 x4_1 x8_2 = some (r1, r2)) ∧ Aside0 (kq ≤ k1) ∧ Aside0 (Kd.R (Kd.int .u8) 5 w' w.heap.size (fun _ => True) u4 x4_1) ∧ Aside0 (Below w.heap.size w w'))
    case atStart => exact ⟨(1), (by first | rfl | (simp; done) | (simp [*]; done)), H', ⟨Nat.le_refl _⟩, ⟨by (with_reducible repeat (first | apply Kd.R_alloc | apply Kd.R_drewN | apply Kd.R_drew)); exact HO_4.out⟩, ⟨ bH HB⟩⟩
    case round =>
     clear H'
     try clear c1
     try clear c2
     try clear p2
     try clear q2
     try clear hx2
     try clear c4
     try clear c4b0
     try clear c5
     try clear c5b0
     try clear p6
     try clear c7
     try clear c7b0
     try clear c7b1
     try clear c8
     try clear c11
     try clear hx275_0
     try clear hx275_1
     try clear p2
     try clear p275
     try clear q275
     obtain ⟨x8_2, rfl, HA, HK2, HO_4, HB⟩ := hrel
     cases gk with
     | zero => exact absurd HA.out (by simp [lapidaryref03_Encode.l1])
     | succ k2 =>
      have H := HA.out
      clear HA
      simp only [lapidaryref03_Encode.l1] at H
      by_cases c13 : x8_2 < (l0.length : Int)
      ·rw [if_pos c13] at H
       have c13b0 : decide (x8_2 < (l0.length : Int)) = true := decide_eq_true c13
       clear c13
       by_cases c14 : 0 ≤ x8_2
       ·rw [if_pos c14] at H
        have c14b0 : decide (0 ≤ x8_2) = true := decide_eq_true c14
        clear c14
        obtain ⟨ji15, hji15⟩ : ∃ j_ : Int, (wrap64 (x8_2 - 1)) = j_ := ⟨_, rfl⟩
        replace H : (if 0 ≤ (ji15) then (if (ji15) < (l0.length : Int) then (if ((rd_T33 l0 x8_2).f0) ≤ ((rd_T33 l0 (ji15)).f0) then (some (([] : List Int), 2)) else (lapidaryref03_Encode.l1 k2 l0 x4_1 (wrap64 (x8_2 + 1)))) else (none)) else (none)) = some (r1, r2) := by first | (rw [hji15] at H; exact H) | (simp only [hji15] at H ⊢; exact H)
        have hji15w : (IntKind.i64.wrap (x8_2 - 1)) = ji15 := (i64_w _).trans hji15
        by_cases c16 : 0 ≤ (ji15)
        ·rw [if_pos c16] at H
         have c16b0 : decide (0 ≤ (ji15)) = true := decide_eq_true c16
         clear c16
         by_cases c17 : (ji15) < (l0.length : Int)
         ·rw [if_pos c17] at H
          have c17b0 : decide ((ji15) < (l0.length : Int)) = true := decide_eq_true c17
          clear c17
          by_cases c18 : ((rd_T33 l0 x8_2).f0) ≤ ((rd_T33 l0 (ji15)).f0)
          ·rw [if_pos c18] at H
           have c18b0 : decide (((rd_T33 l0 x8_2).f0) ≤ ((rd_T33 l0 (ji15)).f0)) = true := decide_eq_true c18
           clear c18
           simp only [Option.some.injEq, Prod.mk.injEq] at H
           obtain ⟨rfl, rfl⟩ := H
           have p283 : 0 ≤ (x8_2 : Int) := of_decide_eq_true (by first | (with_reducible assumption) | assumption)
           have q283 : x8_2 < (l0.length : Int) := of_decide_eq_true (by first | (with_reducible assumption) | assumption)
           obtain ⟨ad283, A283_1, c283_1, e283, hx283_0, hx283_1, hl283_1, hi283_1⟩ := at_T33 HR0.out x8_2 p283 q283
           cases e283
           replace hx283_0 := (HB.out.cell (World.block_lt_of_cell? w _ hx283_0)).trans hx283_0
           replace hx283_1 := (HB.out.cell (World.block_lt_of_cell? w _ hx283_1)).trans hx283_1
           have HR283_1 := Aside0.mk hi283_1
           have HC283_1 := Aside0.mk hl283_1
           clear hi283_1 hl283_1
           replace p283 := eq_true p283
           replace q283 := eq_true q283
           have p284 : 0 ≤ ((ji15) : Int) := of_decide_eq_true (by first | (with_reducible assumption) | assumption)
           have q284 : (ji15) < (l0.length : Int) := of_decide_eq_true (by first | (with_reducible assumption) | assumption)
           obtain ⟨ad284, A284_1, c284_1, e284, hx284_0, hx284_1, hl284_1, hi284_1⟩ := at_T33 HR0.out (ji15) p284 q284
           obtain rfl : ad283 = ad284 := (by injection e284)
           replace hx284_0 := (HB.out.cell (World.block_lt_of_cell? w _ hx284_0)).trans hx284_0
           replace hx284_1 := (HB.out.cell (World.block_lt_of_cell? w _ hx284_1)).trans hx284_1
           have HR284_1 := Aside0.mk hi284_1
           have HC284_1 := Aside0.mk hl284_1
           clear hi284_1 hl284_1
           replace p284 := eq_true p284
           replace q284 := eq_true q284
           go_wp2
           repeat (go_quiet (fail); try go_wp2)
           go_ret2
           exact ⟨_, by first | rfl | (simp [errW_none, errW_some] <;> rfl) | (simp only [← hji15]; first | rfl | (simp [errW_none, errW_some] <;> rfl)) | (simp [*, errW_none, errW_some] <;> rfl), by first | exact Kd.R_nil _ _ _ _ _ | exact Kd.N_nil _ _ _ _ _ | exact Kd.V_nil _ _ _ _ _ | exact Kd.Q_nil _ _ _ _ _ | exact Kd.S_nil _ _ _ _ _, bH HB⟩
          ·rw [if_neg c18] at H
           have c18b0 : decide (((rd_T33 l0 x8_2).f0) ≤ ((rd_T33 l0 (ji15)).f0)) = false := decide_eq_false c18
           clear c18
           have H' := Aside0.mk H
           clear H
           have p283 : 0 ≤ (x8_2 : Int) := of_decide_eq_true (by first | (with_reducible assumption) | assumption)
           have q283 : x8_2 < (l0.length : Int) := of_decide_eq_true (by first | (with_reducible assumption) | assumption)
           obtain ⟨ad283, A283_1, c283_1, e283, hx283_0, hx283_1, hl283_1, hi283_1⟩ := at_T33 HR0.out x8_2 p283 q283
           cases e283
           replace hx283_0 := (HB.out.cell (World.block_lt_of_cell? w _ hx283_0)).trans hx283_0
           replace hx283_1 := (HB.out.cell (World.block_lt_of_cell? w _ hx283_1)).trans hx283_1
           have HR283_1 := Aside0.mk hi283_1
           have HC283_1 := Aside0.mk hl283_1
           clear hi283_1 hl283_1
           replace p283 := eq_true p283
           replace q283 := eq_true q283
           have p284 : 0 ≤ ((ji15) : Int) := of_decide_eq_true (by first | (with_reducible assumption) | assumption)
           have q284 : (ji15) < (l0.length : Int) := of_decide_eq_true (by first | (with_reducible assumption) | assumption)
           obtain ⟨ad284, A284_1, c284_1, e284, hx284_0, hx284_1, hl284_1, hi284_1⟩ := at_T33 HR0.out (ji15) p284 q284
           obtain rfl : ad283 = ad284 := (by injection e284)
           replace hx284_0 := (HB.out.cell (World.block_lt_of_cell? w _ hx284_0)).trans hx284_0
           replace hx284_1 := (HB.out.cell (World.block_lt_of_cell? w _ hx284_1)).trans hx284_1
           have HR284_1 := Aside0.mk hi284_1
           have HC284_1 := Aside0.mk hl284_1
           clear hi284_1 hl284_1
           replace p284 := eq_true p284
           replace q284 := eq_true q284
           go_wp2
           repeat (go_quiet (fail); try go_wp2)
           go_roundg k2
           case measure => have := HK1.out; have := HK2.out; omega
           case rel => exact ⟨(wrap64 (x8_2 + 1)), (by first | rfl | (simp; done) | (simp [*]; done)), H', ⟨by have := HK1.out; have := HK2.out; omega⟩, ⟨by (with_reducible repeat (first | apply Kd.R_alloc | apply Kd.R_drewN | apply Kd.R_drew)); exact HO_4.out⟩, ⟨ bH HB⟩⟩
         ·rw [if_neg c17] at H
          exact absurd H (by simp)
        ·rw [if_neg c16] at H
         exact absurd H (by simp)
       ·rw [if_neg c14] at H
        exact absurd H (by simp)
      ·rw [if_neg c13] at H
       have c13b0 : decide (x8_2 < (l0.length : Int)) = false := decide_eq_false c13
       clear c13
       by_cases c19 : x4_1.length < 140737488355328
       ·rw [if_pos c19] at H
        have LMc19 := Aside0.mk c19
        clear c19
        obtain ⟨y285, hy285⟩ : ∃ y_ : List Int, y_ = (x4_1 ++ [0]) := ⟨_, rfl⟩
        replace H : (if (y285.length : Int) > 1048576 then (some (([] : List Int), 3)) else (some (y285, 0))) = some (r1, r2) := by first | (rw [hy285]; with_reducible exact H) | (have H2_ := (Option.bind_some _ _).symm.trans H; rw [hy285]; with_reducible exact H2_) | (have H2_ := (Option.bind_some _ _).symm.trans H; with_reducible exact H2_) | with_reducible exact H | (rw [hy285]; exact H) | exact H
        have Ny285 := Aside0.mk hy285
        clear hy285
        by_cases c20 : (y285.length : Int) > 1048576
        ·rw [if_pos c20] at H
         have c20b0 : decide (1048576 < (y285.length : Int)) = true := decide_eq_true c20
         have c20b1 : decide (1048576 < y285.length) = true := decide_eq_true (by omega)
         clear c20
         simp only [Option.some.injEq, Prod.mk.injEq] at H
         obtain ⟨rfl, rfl⟩ := H
         go_wp2_with (first | ((with_reducible refine gate_builtin (b := .append) (xs := #[.tmp 48, .tmp 49]) rfl ?_); at_builtin; refine Kd.R_append (Kd.int .u8) (w0 := w) w.heap.size rfl (.tmp 48) (.tmp 49) 25 5 (.int .u8 0) 1 rfl Try.underlying25 info5 rfl (by decide) (by omega) u4 x4_1 0 [.int .u8 0] (fun _ => True) (fun _ => False) rfl rfl ?aP (fun _ hk => hk.elim) ?aF ?aO ?aB ?aS ?aL ?_; (case aP => exact rfl); (case aB => exact (bH HB)); (case aF => exact (fun _ _ => trivial)); (case aO => exact (rK HO_4)); (case aS => exact (below_size (bH HB))); (case aL => have := LMc19.out; omega); intro v286 w21 ho hb hg hat; rw [← Ny285.out] at ho; have n0_ := Aside0.mk (hb); have n1_ := Aside0.mk (ho); clear HB; clear HO_4; have HB := n0_; have HO287 := n1_; clear n0_ n1_; clear ho hb hg hat; obtain ⟨Ao22, co22, eo22⟩ := Kd.R_slice HO287.out; subst eo22))
         repeat (go_quiet (first | ((with_reducible refine gate_builtin (b := .append) (xs := #[.tmp 48, .tmp 49]) rfl ?_); at_builtin; refine Kd.R_append (Kd.int .u8) (w0 := w) w.heap.size rfl (.tmp 48) (.tmp 49) 25 5 (.int .u8 0) 1 rfl Try.underlying25 info5 rfl (by decide) (by omega) u4 x4_1 0 [.int .u8 0] (fun _ => True) (fun _ => False) rfl rfl ?aP (fun _ hk => hk.elim) ?aF ?aO ?aB ?aS ?aL ?_; (case aP => exact rfl); (case aB => exact (bH HB)); (case aF => exact (fun _ _ => trivial)); (case aO => exact (rK HO_4)); (case aS => exact (below_size (bH HB))); (case aL => have := LMc19.out; omega); intro v286 w21 ho hb hg hat; rw [← Ny285.out] at ho; have n0_ := Aside0.mk (hb); have n1_ := Aside0.mk (ho); clear HB; clear HO_4; have HB := n0_; have HO287 := n1_; clear n0_ n1_; clear ho hb hg hat; obtain ⟨Ao22, co22, eo22⟩ := Kd.R_slice HO287.out; subst eo22)); try go_wp2_with (first | ((with_reducible refine gate_builtin (b := .append) (xs := #[.tmp 48, .tmp 49]) rfl ?_); at_builtin; refine Kd.R_append (Kd.int .u8) (w0 := w) w.heap.size rfl (.tmp 48) (.tmp 49) 25 5 (.int .u8 0) 1 rfl Try.underlying25 info5 rfl (by decide) (by omega) u4 x4_1 0 [.int .u8 0] (fun _ => True) (fun _ => False) rfl rfl ?aP (fun _ hk => hk.elim) ?aF ?aO ?aB ?aS ?aL ?_; (case aP => exact rfl); (case aB => exact (bH HB)); (case aF => exact (fun _ _ => trivial)); (case aO => exact (rK HO_4)); (case aS => exact (below_size (bH HB))); (case aL => have := LMc19.out; omega); intro v286 w21 ho hb hg hat; rw [← Ny285.out] at ho; have n0_ := Aside0.mk (hb); have n1_ := Aside0.mk (ho); clear HB; clear HO_4; have HB := n0_; have HO287 := n1_; clear n0_ n1_; clear ho hb hg hat; obtain ⟨Ao22, co22, eo22⟩ := Kd.R_slice HO287.out; subst eo22)))
         go_ret2
         exact ⟨_, by first | rfl | (simp [errW_none, errW_some] <;> rfl) | (simp [*, errW_none, errW_some] <;> rfl), by first | exact Kd.R_nil _ _ _ _ _ | exact Kd.N_nil _ _ _ _ _ | exact Kd.V_nil _ _ _ _ _ | exact Kd.Q_nil _ _ _ _ _ | exact Kd.S_nil _ _ _ _ _, bH HB⟩
        ·rw [if_neg c20] at H
         have c20b0 : decide (1048576 < (y285.length : Int)) = false := decide_eq_false c20
         have c20b1 : decide (1048576 < y285.length) = false := decide_eq_false (by omega)
         clear c20
         simp only [Option.some.injEq, Prod.mk.injEq] at H
         obtain ⟨rfl, rfl⟩ := H
         go_wp2_with (first | ((with_reducible refine gate_builtin (b := .append) (xs := #[.tmp 48, .tmp 49]) rfl ?_); at_builtin; refine Kd.R_append (Kd.int .u8) (w0 := w) w.heap.size rfl (.tmp 48) (.tmp 49) 25 5 (.int .u8 0) 1 rfl Try.underlying25 info5 rfl (by decide) (by omega) u4 x4_1 0 [.int .u8 0] (fun _ => True) (fun _ => False) rfl rfl ?aP (fun _ hk => hk.elim) ?aF ?aO ?aB ?aS ?aL ?_; (case aP => exact rfl); (case aB => exact (bH HB)); (case aF => exact (fun _ _ => trivial)); (case aO => exact (rK HO_4)); (case aS => exact (below_size (bH HB))); (case aL => have := LMc19.out; omega); intro v286 w23 ho hb hg hat; rw [← Ny285.out] at ho; have n0_ := Aside0.mk (hb); have n1_ := Aside0.mk (ho); clear HB; clear HO_4; have HB := n0_; have HO287 := n1_; clear n0_ n1_; clear ho hb hg hat; obtain ⟨Ao24, co24, eo24⟩ := Kd.R_slice HO287.out; subst eo24))
         repeat (go_quiet (first | ((with_reducible refine gate_builtin (b := .append) (xs := #[.tmp 48, .tmp 49]) rfl ?_); at_builtin; refine Kd.R_append (Kd.int .u8) (w0 := w) w.heap.size rfl (.tmp 48) (.tmp 49) 25 5 (.int .u8 0) 1 rfl Try.underlying25 info5 rfl (by decide) (by omega) u4 x4_1 0 [.int .u8 0] (fun _ => True) (fun _ => False) rfl rfl ?aP (fun _ hk => hk.elim) ?aF ?aO ?aB ?aS ?aL ?_; (case aP => exact rfl); (case aB => exact (bH HB)); (case aF => exact (fun _ _ => trivial)); (case aO => exact (rK HO_4)); (case aS => exact (below_size (bH HB))); (case aL => have := LMc19.out; omega); intro v286 w23 ho hb hg hat; rw [← Ny285.out] at ho; have n0_ := Aside0.mk (hb); have n1_ := Aside0.mk (ho); clear HB; clear HO_4; have HB := n0_; have HO287 := n1_; clear n0_ n1_; clear ho hb hg hat; obtain ⟨Ao24, co24, eo24⟩ := Kd.R_slice HO287.out; subst eo24)); try go_wp2_with (first | ((with_reducible refine gate_builtin (b := .append) (xs := #[.tmp 48, .tmp 49]) rfl ?_); at_builtin; refine Kd.R_append (Kd.int .u8) (w0 := w) w.heap.size rfl (.tmp 48) (.tmp 49) 25 5 (.int .u8 0) 1 rfl Try.underlying25 info5 rfl (by decide) (by omega) u4 x4_1 0 [.int .u8 0] (fun _ => True) (fun _ => False) rfl rfl ?aP (fun _ hk => hk.elim) ?aF ?aO ?aB ?aS ?aL ?_; (case aP => exact rfl); (case aB => exact (bH HB)); (case aF => exact (fun _ _ => trivial)); (case aO => exact (rK HO_4)); (case aS => exact (below_size (bH HB))); (case aL => have := LMc19.out; omega); intro v286 w23 ho hb hg hat; rw [← Ny285.out] at ho; have n0_ := Aside0.mk (hb); have n1_ := Aside0.mk (ho); clear HB; clear HO_4; have HB := n0_; have HO287 := n1_; clear n0_ n1_; clear ho hb hg hat; obtain ⟨Ao24, co24, eo24⟩ := Kd.R_slice HO287.out; subst eo24)))
         go_ret2
         exact ⟨_, by first | rfl | (simp [errW_none, errW_some] <;> rfl) | (simp [*, errW_none, errW_some] <;> rfl), by (with_reducible repeat (first | apply Kd.R_alloc | apply Kd.R_drewN | apply Kd.R_drew)); exact HO287.out, bH HB⟩
       ·rw [if_neg c19] at H
        exact absurd H (by simp)

end Go.Proofs.Ytimdikfllbbdoaa.P
