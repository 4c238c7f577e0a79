/- Written for this claim by a program of this session (a turned copy of the print): Go functions as Lean functions, and that the Go code comes to just these answers; or a statement proved out of them. No condition. -/
import Derived.Test.YtbdbobjdlomjnaaGreatDoorZ2
import Derived.Test.YtbdbobjdlomjnaaGreatDoorZ11
import Derived.Test.YtbdbobjdlomjnaaGreatDoorZ17

namespace Go.Proofs.YtbdbobjdlomjnaaGreatDoor.P
open Go.RowKit Go.Proofs.YtbdbobjdlomjnaaGreatDoorW.PrintWords Go.Proofs.YtbdbobjdlomjnaaGreatDoorW.PrintLast Go.Proofs.YtbdbobjdlomjnaaGreatDoorW.PrintMore Go.Proofs.YtbdbobjdlomjnaaGreatDoor.X
attribute [local go_sem] max2_int min2_int max_two min_two max_three min_three max_four min_four add64_0 add64_1 add64
set_option linter.unusedVariables false
set_option linter.unusedSimpArgs false
def rf06_Codes.l0 : Nat → List Int → List (S122) → Int → Option ((List (S122)))
 | 0, _, _, _ => none
 | k + 1, x0, x3, x4 => if x4 < (x0.length : Int) then (if 0 ≤ x4 then (if x3.length < 8796093022208 then (rf06_Codes.l0 k x0 (x3 ++ [(⟨0, wrap64 (rd x0 x4)⟩ : S122)]) (wrap64 (x4 + 1))) else (none)) else (none)) else (some x3)
def rf06_Codes.f (k : Nat) (l0 : List Int) : Option ((List (S122))) := rf06_Codes.l0 k l0 ([] : List (S122)) 0
theorem rf06_Codes.mono_l : ∀ k, (∀ y0 y1 y2, LeO (rf06_Codes.l0 k y0 y1 y2) (rf06_Codes.l0 (k + 1) y0 y1 y2))
 | 0 => fun _ _ _ r h => by simp [rf06_Codes.l0] at h
 | k + 1 => by
  have ih0 := rf06_Codes.mono_l k
  ·intro y0 y1 y2
   unfold rf06_Codes.l0
   repeat' first
   | (with_reducible exact ih0 _ _ _)
   | (with_reducible exact LeO.refl _)
   | (with_reducible exact LeO.none _)
   | (with_reducible refine LeO.ite ?_ ?_)
   | (with_reducible refine LeO.bind ?_ (fun _ => ?_))
   | exact ih0 _ _ _
   | exact LeO.none _
   | refine LeO.ite ?_ ?_
   | refine LeO.bind ?_ (fun _ => ?_)
theorem rf06_Codes.mono : ∀ a0 k, LeO (rf06_Codes.f k a0) (rf06_Codes.f (k + 1) a0) := by
 intro a0 k
 have ih0 := rf06_Codes.mono_l k
 unfold rf06_Codes.f
 repeat' first
   | (with_reducible exact ih0 _ _ _)
   | (with_reducible exact LeO.refl _)
   | (with_reducible exact LeO.none _)
   | (with_reducible refine LeO.ite ?_ ?_)
   | (with_reducible refine LeO.bind ?_ (fun _ => ?_))
   | exact ih0 _ _ _
   | exact LeO.none _
   | refine LeO.ite ?_ ?_
   | refine LeO.bind ?_ (fun _ => ?_)
set_option maxHeartbeats 8000000 in
set_option maxRecDepth 100000 in
theorem rf06_Codes.calls (k : Nat) (A0 : Option Addr) (c0 : Nat) (l0 : List Int) (r : List (S122)) (w : World) (hr0 : Kd.C (Kd.int .u8) w A0 l0.length l0) (hc0 : l0.length ≤ c0) (h : rf06_Codes.f k l0 = some r) :
  Calls Tryz.prog 57 #[.slice A0 l0.length c0] w fun e w' => ∃ v0_ : Value, e = .returned (v0_) ∧ Kd.R k122 122 w' w.heap.size (fun _ => True) v0_ r ∧ Below w.heap.size w w' := by
 have hu122 := Tryz.underlying122
 have HR0 := Aside0.mk hr0
 have HC0 := Aside0.mk hc0
 clear hr0 hc0
 have HB := Aside0.mk (Below.refl w.heap.size w)
 have H : (rf06_Codes.l0 k l0 ([] : List (S122)) 0) = some r := h
 clear h
 have H' := Aside0.mk H
 clear H
 go_enter Tryz.func57, Tryz.ntmps57
 go_wp2
 go_loopg [3, 4] k (fun kq v3 v4 w' => ∃ (x3_1 : List (S122)) (x4_1 : Int), v4 = .int .i64 x4_1 ∧ Aside0 (rf06_Codes.l0 kq l0 x3_1 x4_1 = some r) ∧ Aside0 (kq ≤ k) ∧ Aside0 (Kd.R k122 122 w' w.heap.size (fun _ => True) v3 x3_1) ∧ Aside0 (Below w.heap.size w w'))
 case atStart => exact ⟨(([] : List (S122))), (0), (by first | rfl | (simp; done) | (simp [*]; done)), H', ⟨Nat.le_refl _⟩, ⟨by first | exact Kd.R_nil _ _ _ _ _ | exact Kd.N_nil _ _ _ _ _ | exact Kd.V_nil _ _ _ _ _ | exact Kd.Q_nil _ _ _ _ _ | exact Kd.S_nil _ _ _ _ _⟩, ⟨ bH HB⟩⟩
 case round =>
  clear H'
  obtain ⟨x3_1, x4_1, rfl, HA, HK1, HO_3, HB⟩ := hrel
  cases gk with
  | zero => exact absurd HA.out (by simp [rf06_Codes.l0])
  | succ k1 =>
   have H := HA.out
   clear HA
   simp only [rf06_Codes.l0] at H
   by_cases c2 : x4_1 < (l0.length : Int)
   ·rw [if_pos c2] at H
    have c2b0 : decide (x4_1 < (l0.length : Int)) = true := decide_eq_true c2
    clear c2
    by_cases c3 : 0 ≤ x4_1
    ·rw [if_pos c3] at H
     have c3b0 : decide (0 ≤ x4_1) = true := decide_eq_true c3
     clear c3
     by_cases c4 : x3_1.length < 8796093022208
     ·rw [if_pos c4] at H
      have LMc4 := Aside0.mk c4
      clear c4
      obtain ⟨y276, hy276⟩ : ∃ y_ : List (S122), y_ = (x3_1 ++ [(⟨0, wrap64 (rd l0 x4_1)⟩ : S122)]) := ⟨_, rfl⟩
      replace H : (rf06_Codes.l0 k1 l0 y276 (wrap64 (x4_1 + 1))) = some r := by first | (rw [hy276]; with_reducible exact H) | (have H2_ := (Option.bind_some _ _).symm.trans H; rw [hy276]; with_reducible exact H2_) | (have H2_ := (Option.bind_some _ _).symm.trans H; with_reducible exact H2_) | with_reducible exact H | (rw [hy276]; exact H) | exact H
      have Ny276 := Aside0.mk hy276
      clear hy276
      have H' := Aside0.mk H
      clear H
      have p275 : 0 ≤ (x4_1 : Int) := of_decide_eq_true (by first | (with_reducible assumption) | assumption)
      have q275 : x4_1 < (l0.length : Int) := of_decide_eq_true (by first | (with_reducible assumption) | assumption)
      obtain ⟨ad275, e275, hx275_0⟩ := Kd.at_int HR0.out x4_1 p275 q275
      cases e275
      replace hx275_0 := (HB.out.cell (World.block_lt_of_cell? w _ hx275_0)).trans hx275_0
      replace p275 := eq_true p275
      replace q275 := eq_true q275
      go_wp2_with (first | ((with_reducible refine gate_builtin (b := .append) (xs := #[.tmp 11, .tmp 18]) rfl ?_); at_builtin; refine Kd.R_append k122 (w0 := w) w.heap.size rfl (.tmp 11) (.tmp 18) 118 122 (.agg #[(.int .i64 0), (.int .i64 0)]) 16 rfl Tryz.underlying118 info122 rfl (by decide) (by omega) u3 x3_1 (⟨0, wrap64 (rd l0 x4_1)⟩ : S122) [.int .i64 0, .int .i64 (wrap64 (rd l0 x4_1))] (fun _ => True) (fun _ => False) rfl rfl ?aP (fun _ hk => hk.elim) ?aF ?aO ?aB ?aS ?aL ?_; (case aP => exact k122_mkM _ _ _ (⟨0, wrap64 (rd l0 x4_1)⟩ : S122)); (case aB => exact (bH HB)); (case aF => exact (fun _ _ => trivial)); (case aO => exact (rK HO_3)); (case aS => exact (below_size (bH HB))); (case aL => have := LMc4.out; omega); intro v277 w5 ho hb hg hat; rw [← Ny276.out] at ho; have n0_ := Aside0.mk (hb); have n1_ := Aside0.mk (ho); clear HB; clear HO_3; have HB := n0_; have HO278 := n1_; clear n0_ n1_; clear ho hb hg hat))
      go_roundg k1
      case measure => have := HK1.out; omega
      case rel => exact ⟨(y276), (wrap64 (x4_1 + 1)), (by first | rfl | (simp; done) | (simp [*]; done)), H', ⟨by have := HK1.out; omega⟩, ⟨by (with_reducible repeat (first | apply Kd.R_alloc | apply Kd.R_drewN | apply Kd.R_drew)); exact HO278.out⟩, ⟨ bH HB⟩⟩
     ·rw [if_neg c4] at H
      exact absurd H (by simp)
    ·rw [if_neg c3] at H
     exact absurd H (by simp)
   ·rw [if_neg c2] at H
    have c2b0 : decide (x4_1 < (l0.length : Int)) = false := decide_eq_false c2
    clear c2
    obtain rfl := Option.some.inj H
    go_wp2
    go_ret
    exact ⟨_, by first | rfl | (simp [errW_none, errW_some] <;> rfl) | (simp [*, errW_none, errW_some] <;> rfl), by (with_reducible repeat (first | apply Kd.R_alloc | apply Kd.R_drewN | apply Kd.R_drew)); exact HO_3.out, bH HB⟩

def rf18_Wrap.f (k : Nat) (l0 : List Int) : Option (List Int × Int) := (rf06_Codes.f k l0).bind fun t282 => ((rf06_Encode.f k (([256] : List Int)) t282).bind fun bt285 => (if bt285.2 = 0 then ((rf18_put.f k (l0.length : Int)).bind fun t289 => ((rf18_put.f k (bt285.1.length : Int)).bind fun t292 => (if t289.length + t292.length < 140737488355328 then ((some (t289 ++ t292 : List Int)).bind fun y295 => (if y295.length + bt285.1.length < 140737488355328 then (some ((y295 ++ bt285.1), 0)) else (none))) else (none)))) else (some (([] : List Int), bt285.2))))
theorem rf18_Wrap.mono : ∀ a0 k, LeO (rf18_Wrap.f k a0) (rf18_Wrap.f (k + 1) a0) := by
 intro a0 k
 unfold rf18_Wrap.f
 repeat' first
   | (with_reducible exact rf06_Codes.mono _ _)
   | (with_reducible exact rf06_Encode.mono _ _ _)
   | (with_reducible exact rf18_put.mono _ _)
   | (with_reducible exact LeO.refl _)
   | (with_reducible exact LeO.none _)
   | (with_reducible refine LeO.ite ?_ ?_)
   | (with_reducible refine LeO.bind ?_ (fun _ => ?_))
   | exact rf06_Codes.mono _ _
   | exact rf06_Encode.mono _ _ _
   | exact rf18_put.mono _ _
   | exact LeO.none _
   | refine LeO.ite ?_ ?_
   | refine LeO.bind ?_ (fun _ => ?_)
set_option maxHeartbeats 8000000 in
set_option maxRecDepth 100000 in
theorem rf18_Wrap.calls (k : Nat) (A0 : Option Addr) (c0 : Nat) (l0 : List Int) (r1 : List Int) (r2 : Int) (w : World) (hr0 : Kd.C (Kd.int .u8) w A0 l0.length l0) (hc0 : l0.length ≤ c0) (h : rf18_Wrap.f k l0 = some (r1, r2)) :
  Calls Tryz.prog 26 #[.slice A0 l0.length c0] w fun e w' => ∃ v0_ : Value, e = .returned (.tuple #[v0_, .int .i64 r2]) ∧ Kd.R (Kd.int .u8) 5 w' w.heap.size (fun _ => True) v0_ r1 ∧ Below w.heap.size w w' := by
 have HR0 := Aside0.mk hr0
 have HC0 := Aside0.mk hc0
 clear hr0 hc0
 have HB := Aside0.mk (Below.refl w.heap.size w)
 have H : ((rf06_Codes.f k l0).bind fun t282 => ((rf06_Encode.f k (([256] : List Int)) t282).bind fun bt285 => (if bt285.2 = 0 then ((rf18_put.f k (l0.length : Int)).bind fun t289 => ((rf18_put.f k (bt285.1.length : Int)).bind fun t292 => (if t289.length + t292.length < 140737488355328 then ((some (t289 ++ t292 : List Int)).bind fun y295 => (if y295.length + bt285.1.length < 140737488355328 then (some ((y295 ++ bt285.1), 0)) else (none))) else (none)))) else (some (([] : List Int), bt285.2))))) = some (r1, r2) := h
 clear h
 obtain ⟨y279, hy279⟩ : ∃ y_ : List Int, y_ = (([256] : List Int)) := ⟨_, rfl⟩
 replace H : ((rf06_Codes.f k l0).bind fun t282 => ((rf06_Encode.f k y279 t282).bind fun bt285 => (if bt285.2 = 0 then ((rf18_put.f k (l0.length : Int)).bind fun t289 => ((rf18_put.f k (bt285.1.length : Int)).bind fun t292 => (if t289.length + t292.length < 140737488355328 then ((some (t289 ++ t292 : List Int)).bind fun y295 => (if y295.length + bt285.1.length < 140737488355328 then (some ((y295 ++ bt285.1), 0)) else (none))) else (none)))) else (some (([] : List Int), bt285.2))))) = some (r1, r2) := by first | (rw [hy279]; with_reducible exact H) | (have H2_ := (Option.bind_some _ _).symm.trans H; rw [hy279]; with_reducible exact H2_) | (have H2_ := (Option.bind_some _ _).symm.trans H; with_reducible exact H2_) | with_reducible exact H | (rw [hy279]; exact H) | exact H
 have Ny279 := Aside0.mk hy279
 clear hy279
 replace H := Option.bind_eq_some_iff.mp H
 obtain ⟨t282, A20, H⟩ := H
 replace H : ((rf06_Encode.f k y279 t282).bind fun bt285 => (if bt285.2 = 0 then ((rf18_put.f k (l0.length : Int)).bind fun t289 => ((rf18_put.f k (bt285.1.length : Int)).bind fun t292 => (if t289.length + t292.length < 140737488355328 then ((some (t289 ++ t292 : List Int)).bind fun y295 => (if y295.length + bt285.1.length < 140737488355328 then (some ((y295 ++ bt285.1), 0)) else (none))) else (none)))) else (some (([] : List Int), bt285.2)))) = some (r1, r2) := H
 have A2 := Aside0.mk A20
 clear A20
 replace H := Option.bind_eq_some_iff.mp H
 obtain ⟨⟨t285, t286⟩, A30, H⟩ := H
 replace H : (if t286 = 0 then ((rf18_put.f k (l0.length : Int)).bind fun t289 => ((rf18_put.f k (t285.length : Int)).bind fun t292 => (if t289.length + t292.length < 140737488355328 then ((some (t289 ++ t292 : List Int)).bind fun y295 => (if y295.length + t285.length < 140737488355328 then (some ((y295 ++ t285), 0)) else (none))) else (none)))) else (some (([] : List Int), t286))) = some (r1, r2) := H
 have A3 := Aside0.mk A30
 clear A30
 have HC4 := Aside0.mk H
 clear H
 go_enter Tryz.func26, Tryz.ntmps26
 go_upto_if 15 with (first | ((with_reducible refine gate_dst (N := 8) rfl ?_); refine Kd.R_lit (Kd.int .i64) _ 3 ?hg (N := 8) ?hd (xs := ([256] : List Int)) (inner := [.int .i64 256]) (ok := fun _ => True) (okp := fun _ => True) ?hr ?hp (fun _ hk => hk) trivial (Below.refl _ _) (Nat.le_refl _) (by simp) ?_; (case hd => rfl); (case hg => rfl); (case hr => first | (go_simp; done) | (go_simp; rfl)); (case hp => exact (Reps.one (show Kd.M (Kd.int .i64) _ _ _ 256 [.int .i64 256] from rfl) (Reps.none _ _))); intro v280 w5 ho6 hb hg_ hnew_; clear hg_ hnew_; (first | rw [← Ny279.out] at ho6 | (simp only [Int.reduceToNat] at ho6; rw [← Ny279.out] at ho6)); have n0_ := Aside0.mk (Kd.R_lower ho6 (below_size (bH HB))); have n1_ := Aside0.mk (below_step (bH HB) hb); clear HB; have HO281 := n0_; have HB := n1_; clear n0_ n1_; clear hb ho6) | ((with_reducible refine gate_callee (f := 57) rfl ?_); refine goesL_ (some 10) rfl rfl Tryz.func57 (by kernel_rfl) rfl #[.slice A0 l0.length c0] rfl (by (try simp only [List.map_toArray, List.map_cons, List.map_nil]); first | done | rfl | (simp only [List.length_drop, List.length_take]; rfl)) ?_; (with_reducible refine (rf06_Codes.calls k _ _ l0 t282 _ ?side1 ?side2 A2.out).mono ?_); (case side1 => repeat (first | exact (Kd.C_below HR0.out HB.out) | (with_reducible refine Kd.C_alloc ?_ _) | (with_reducible refine Kd.C_drewN ?_ _) | (with_reducible refine Kd.C_drew ?_))); (case side2 => exact HC0.out); rintro e w7 ⟨v283, rfl, ho0, hb⟩; refine ⟨_, rfl, ?_⟩; have n0_ := Aside0.mk (Kd.R_below (rK HO281) hb); have n1_ := Aside0.mk (Kd.R_lower ho0 (below_size (bH HB))); have n2_ := Aside0.mk (below_step (bH HB) hb); clear HO281; clear HB; have HO281 := n0_; have HO284 := n1_; have HB := n2_; clear n0_ n1_ n2_; (try clear hb); (try clear hb2); (try clear hk); (try clear hi); (try clear ho0); obtain ⟨Ao8, co8, eo8⟩ := Kd.R_slice HO281.out; subst eo8; obtain ⟨Ao9, co9, eo9⟩ := Kd.R_slice HO284.out; subst eo9) | ((with_reducible refine gate_callee (f := 56) rfl ?_); refine goesL_ (some 11) rfl rfl Tryz.func56 (by kernel_rfl) rfl #[.slice Ao8 y279.length co8, .slice Ao9 t282.length co9] rfl (by (try simp only [List.map_toArray, List.map_cons, List.map_nil]); first | done | rfl | (simp only [List.length_drop, List.length_take]; rfl)) ?_; (with_reducible refine (rf06_Encode.calls k _ _ y279 _ _ t282 t285 t286 _ ?side1 ?side2 ?side3 ?side4 A3.out).mono ?_); (case side1 => repeat (first | exact (Kd.R_reads' HO281.out).2.2 | (with_reducible refine Kd.C_alloc ?_ _) | (with_reducible refine Kd.C_drewN ?_ _) | (with_reducible refine Kd.C_drew ?_))); (case side2 => exact (Kd.R_reads' HO281.out).2.1); (case side3 => repeat (first | exact (Kd.R_reads' HO284.out).2.2 | (with_reducible refine Kd.C_alloc ?_ _) | (with_reducible refine Kd.C_drewN ?_ _) | (with_reducible refine Kd.C_drew ?_))); (case side4 => exact (Kd.R_reads' HO284.out).2.1); rintro e w10 ⟨v287, rfl, ho0, hb⟩; refine ⟨_, rfl, ?_⟩; have n0_ := Aside0.mk (Kd.R_below (rK HO281) hb); have n1_ := Aside0.mk (Kd.R_below (rK HO284) hb); have n2_ := Aside0.mk (Kd.R_lower ho0 (below_size (bH HB))); have n3_ := Aside0.mk (below_step (bH HB) hb); clear HO281; clear HO284; clear HB; have HO281 := n0_; have HO284 := n1_; have HO288 := n2_; have HB := n3_; clear n0_ n1_ n2_ n3_; (try clear hb); (try clear hb2); (try clear hk); (try clear hi); (try clear ho0)))
 (try simp only [Act.put, List.setIfInBounds_toArray, List.set_cons_zero, List.set_cons_succ])
 have H := HC4.out
 clear HC4
 by_cases c11 : t286 = 0
 ·rw [if_pos c11] at H
  have c11b0 : (t286 == 0) = true := beq_iff_eq.mpr c11
  have c11b1 : (t286 != 0) = false := bne_eq_false_iff_eq.mpr c11
  clear c11
  (first | rw [c11b0] | (simp only [i64_w, i32_w]; rw [c11b0]) | skip)
  replace H := Option.bind_eq_some_iff.mp H
  obtain ⟨t289, A120, H⟩ := H
  replace H : ((rf18_put.f k (t285.length : Int)).bind fun t292 => (if t289.length + t292.length < 140737488355328 then ((some (t289 ++ t292 : List Int)).bind fun y295 => (if y295.length + t285.length < 140737488355328 then (some ((y295 ++ t285), 0)) else (none))) else (none))) = some (r1, r2) := H
  have A12 := Aside0.mk A120
  clear A120
  replace H := Option.bind_eq_some_iff.mp H
  obtain ⟨t292, A130, H⟩ := H
  replace H : (if t289.length + t292.length < 140737488355328 then ((some (t289 ++ t292 : List Int)).bind fun y295 => (if y295.length + t285.length < 140737488355328 then (some ((y295 ++ t285), 0)) else (none))) else (none)) = some (r1, r2) := H
  have A13 := Aside0.mk A130
  clear A130
  by_cases c14 : t289.length + t292.length < 140737488355328
  ·rw [if_pos c14] at H
   have LMc14 := Aside0.mk c14
   clear c14
   obtain ⟨y295, hy295⟩ : ∃ y_ : List Int, y_ = (t289 ++ t292) := ⟨_, rfl⟩
   replace H : (if y295.length + t285.length < 140737488355328 then (some ((y295 ++ t285), 0)) else (none)) = some (r1, r2) := by first | (rw [hy295]; with_reducible exact H) | (have H2_ := (Option.bind_some _ _).symm.trans H; rw [hy295]; with_reducible exact H2_) | (have H2_ := (Option.bind_some _ _).symm.trans H; with_reducible exact H2_) | with_reducible exact H | (rw [hy295]; exact H) | exact H
   have Ny295 := Aside0.mk hy295
   clear hy295
   by_cases c15 : y295.length + t285.length < 140737488355328
   ·rw [if_pos c15] at H
    have LMc15 := Aside0.mk c15
    clear c15
    obtain ⟨y298, hy298⟩ : ∃ y_ : List Int, y_ = (y295 ++ t285) := ⟨_, rfl⟩
    replace H : (some (y298, 0)) = some (r1, r2) := by first | (rw [hy298]; with_reducible exact H) | (have H2_ := (Option.bind_some _ _).symm.trans H; rw [hy298]; with_reducible exact H2_) | (have H2_ := (Option.bind_some _ _).symm.trans H; with_reducible exact H2_) | with_reducible exact H | (rw [hy298]; exact H) | exact H
    have Ny298 := Aside0.mk hy298
    clear hy298
    simp only [Option.some.injEq, Prod.mk.injEq] at H
    obtain ⟨rfl, rfl⟩ := H
    go_wp2_with (first | ((with_reducible refine gate_callee (f := 40) rfl ?_); refine goesL_ (some 19) rfl rfl Tryz.func40 (by kernel_rfl) rfl #[.int .i64 (l0.length : Int)] rfl (by (try simp only [List.map_toArray, List.map_cons, List.map_nil]); first | done | rfl | (simp only [List.length_drop, List.length_take]; rfl)) ?_; (with_reducible refine (rf18_put.calls k (l0.length : Int) t289 _ A12.out).mono ?_); rintro e w16 ⟨v290, rfl, ho0, hb⟩; refine ⟨_, rfl, ?_⟩; have n0_ := Aside0.mk (Kd.R_below (rK HO281) hb); have n1_ := Aside0.mk (Kd.R_below (rK HO284) hb); have n2_ := Aside0.mk (Kd.R_elder' (rK HO288) (Kd.R_base ho0) hb); have n3_ := Aside0.mk (Kd.R_lower (Kd.R_new' ho0 (Kd.R_lt (rK HO288))) (below_size (bH HB))); have n4_ := Aside0.mk (below_step (bH HB) hb); clear HO281; clear HO284; clear HO288; clear HB; have HO281 := n0_; have HO284 := n1_; have HO288 := n2_; have HO291 := n3_; have HB := n4_; clear n0_ n1_ n2_ n3_ n4_; (try clear hb); (try clear hb2); (try clear hk); (try clear hi); (try clear ho0); obtain ⟨Ao17, co17, eo17⟩ := Kd.R_slice HO288.out; subst eo17) | ((with_reducible refine gate_callee (f := 40) rfl ?_); refine goesL_ (some 23) rfl rfl Tryz.func40 (by kernel_rfl) rfl #[.int .i64 (t285.length : Int)] rfl (by (try simp only [List.map_toArray, List.map_cons, List.map_nil]); first | done | rfl | (simp only [List.length_drop, List.length_take]; rfl)) ?_; (with_reducible refine (rf18_put.calls k (t285.length : Int) t292 _ A13.out).mono ?_); rintro e w18 ⟨v293, rfl, ho0, hb⟩; refine ⟨_, rfl, ?_⟩; have n0_ := Aside0.mk (Kd.R_below (rK HO281) hb); have n1_ := Aside0.mk (Kd.R_below (rK HO284) hb); have n2_ := Aside0.mk (Kd.R_elder' (rK HO288) (Kd.R_base ho0) hb); have n3_ := Aside0.mk (Kd.R_elder' (rK HO291) (Kd.R_base ho0) hb); have n4_ := Aside0.mk (Kd.R_lower (Kd.R_new' (Kd.R_new' ho0 (Kd.R_lt (rK HO288))) (Kd.R_lt (rK HO291))) (below_size (bH HB))); have n5_ := Aside0.mk (below_step (bH HB) hb); clear HO281; clear HO284; clear HO288; clear HO291; clear HB; have HO281 := n0_; have HO284 := n1_; have HO288 := n2_; have HO291 := n3_; have HO294 := n4_; have HB := n5_; clear n0_ n1_ n2_ n3_ n4_ n5_; (try clear hb); (try clear hb2); (try clear hk); (try clear hi); (try clear ho0); obtain ⟨Ao20, co20, eo20⟩ := Kd.R_slice HO294.out; subst eo20) | ((with_reducible refine gate_builtin (b := .append) (xs := #[.tmp 20, .tmp 23]) rfl ?_); at_builtin; refine Kd.R_append_rows (Kd.int .u8) (w0 := w) w.heap.size rfl (.tmp 20) (.tmp 23) 26 5 (.int .u8 0) 1 rfl Tryz.underlying26 info5 rfl (by decide) (by omega) v290 t289 t292 _ _ _ (fun k_ => some k_ ≠ (.slice Ao17 t285.length co17 : Value).ownBlock ∧ some k_ ≠ (.slice Ao20 t292.length co20 : Value).ownBlock) (fun _ => False) rfl rfl ?aO ?aR (fun _ _ h => h) (fun _ h => h.elim) ?aF ?aB ?aS ?aL ?_; (case aR => repeat (first | exact (Kd.R_reads' HO294.out).2.2 | (with_reducible refine Kd.C_alloc ?_ _) | (with_reducible refine Kd.C_drewN ?_ _) | (with_reducible refine Kd.C_drew ?_))); (case aB => exact (bH HB)); (case aF => exact (fun k_ hk => ⟨Kd.fresh' (Kd.R_lt (rK HO288)) k_ hk, Kd.fresh' (Kd.R_lt (rK HO294)) k_ hk⟩)); (case aO => exact (by (with_reducible repeat (first | apply Kd.R_alloc | apply Kd.R_drewN | apply Kd.R_drew)); exact Kd.R_mono HO291.out (fun _ hk => ⟨hk.1.2, hk.2⟩))); (case aS => exact (below_size (bH HB))); (case aL => have := LMc14.out; omega); intro v296 w19 ho hb hg hat; rw [← Ny295.out] at ho; have n0_ := Aside0.mk (Kd.R_over' (rK HO281) (Kd.R_typed (rK HO291)) (by decide) hg); have n1_ := Aside0.mk (Kd.R_over' (rK HO284) (Kd.R_typed (rK HO291)) (by decide) hg); have n2_ := Aside0.mk (Kd.R_after (ok := (fun k_ => some k_ ≠ (.slice Ao20 t292.length co20 : Value).ownBlock)) (by (with_reducible repeat (first | apply Kd.R_alloc | apply Kd.R_drewN | apply Kd.R_drew)); exact Kd.R_mono HO288.out (fun _ hk => ⟨hk.2, hk.1.2⟩)) hg hat); have n3_ := Aside0.mk (Kd.R_after (ok := (fun k_ => some k_ ≠ (.slice Ao17 t285.length co17 : Value).ownBlock)) (by (with_reducible repeat (first | apply Kd.R_alloc | apply Kd.R_drewN | apply Kd.R_drew)); exact Kd.R_mono HO294.out (fun _ hk => ⟨hk.1.2, hk.2⟩)) hg hat); have n4_ := Aside0.mk (hb); have n5_ := Aside0.mk (ho); clear HO281; clear HO284; clear HO288; clear HO294; clear HB; clear HO291; have HO281 := n0_; have HO284 := n1_; have HO288 := n2_; have HO294 := n3_; have HB := n4_; have HO297 := n5_; clear n0_ n1_ n2_ n3_ n4_ n5_; clear ho hb hg hat) | ((with_reducible refine gate_builtin (b := .append) (xs := #[.tmp 25, .tmp 26]) rfl ?_); at_builtin; refine Kd.R_append_rows (Kd.int .u8) (w0 := w) w.heap.size rfl (.tmp 25) (.tmp 26) 26 5 (.int .u8 0) 1 rfl Tryz.underlying26 info5 rfl (by decide) (by omega) v296 y295 t285 _ _ _ (fun k_ => some k_ ≠ (.slice Ao17 t285.length co17 : Value).ownBlock ∧ some k_ ≠ (.slice Ao20 t292.length co20 : Value).ownBlock) (fun _ => False) rfl rfl ?aO ?aR (fun _ _ h => h) (fun _ h => h.elim) ?aF ?aB ?aS ?aL ?_; (case aR => repeat (first | exact (Kd.R_reads' HO288.out).2.2 | (with_reducible refine Kd.C_alloc ?_ _) | (with_reducible refine Kd.C_drewN ?_ _) | (with_reducible refine Kd.C_drew ?_))); (case aB => exact (bH HB)); (case aF => exact (fun k_ hk => ⟨Kd.fresh' (Kd.R_lt (rK HO288)) k_ hk, Kd.fresh' (Kd.R_lt (rK HO294)) k_ hk⟩)); (case aO => exact (rK HO297)); (case aS => exact (below_size (bH HB))); (case aL => have := LMc15.out; omega); intro v299 w21 ho hb hg hat; rw [← Ny298.out] at ho; have n0_ := Aside0.mk (Kd.R_over' (rK HO281) (Kd.R_typed (rK HO297)) (by decide) hg); have n1_ := Aside0.mk (Kd.R_over' (rK HO284) (Kd.R_typed (rK HO297)) (by decide) hg); have n2_ := Aside0.mk (Kd.R_after (ok := (fun k_ => some k_ ≠ (.slice Ao20 t292.length co20 : Value).ownBlock)) (rK HO288) hg hat); have n3_ := Aside0.mk (Kd.R_after (ok := (fun k_ => some k_ ≠ (.slice Ao17 t285.length co17 : Value).ownBlock)) (rK HO294) hg hat); have n4_ := Aside0.mk (hb); have n5_ := Aside0.mk (ho); clear HO281; clear HO284; clear HO288; clear HO294; clear HB; clear HO297; have HO281 := n0_; have HO284 := n1_; have HO288 := n2_; have HO294 := n3_; have HB := n4_; have HO300 := n5_; clear n0_ n1_ n2_ n3_ n4_ n5_; clear ho hb hg hat))
    go_ret2
    exact ⟨_, by first | rfl | (simp [errW_none, errW_some] <;> rfl) | (simp [*, errW_none, errW_some] <;> rfl), by (with_reducible repeat (first | apply Kd.R_alloc | apply Kd.R_drewN | apply Kd.R_drew)); exact Kd.R_mono HO300.out (fun _ hk => trivial), bH HB⟩
   ·rw [if_neg c15] at H
    exact absurd H (by simp)
  ·rw [if_neg c14] at H
   exact absurd H (by simp)
 ·rw [if_neg c11] at H
  have c11b0 : (t286 == 0) = false := beq_eq_false_iff_ne.mpr c11
  have c11b1 : (t286 != 0) = true := bne_iff_ne.mpr c11
  (first | rw [c11b0] | (simp only [i64_w, i32_w]; rw [c11b0]) | skip)
  simp only [Option.some.injEq, Prod.mk.injEq] at H
  obtain ⟨rfl, rfl⟩ := H
  go_wp2
  go_ret2
  exact ⟨_, by first | rfl | (simp [errW_none, errW_some] <;> rfl) | (simp [*, errW_none, errW_some] <;> rfl), by first | exact Kd.R_nil _ _ _ _ _ | exact Kd.N_nil _ _ _ _ _ | exact Kd.V_nil _ _ _ _ _ | exact Kd.Q_nil _ _ _ _ _ | exact Kd.S_nil _ _ _ _ _, bH HB⟩

def rf18_Many.l0 : Nat → List (List Int) → List Int → Int → Option (List Int × Int)
 | 0, _, _, _ => none
 | k + 1, x0, x4, x5 => if x5 < (x0.length : Int) then (if 0 ≤ x5 then ((rf18_Wrap.f k (rd_L3 x0 x5)).bind fun bt305 => (if bt305.2 = 0 then (if x4.length + bt305.1.length < 140737488355328 then (rf18_Many.l0 k x0 (x4 ++ bt305.1) (wrap64 (x5 + 1))) else (none)) else (some (([] : List Int), bt305.2)))) else (none)) else (some (x4, 0))
def rf18_Many.f (k : Nat) (l0 : List (List Int)) : Option (List Int × Int) := if (l0.length : Int) > 50 then (some (([] : List Int), 3)) else ((rf18_put.f k (l0.length : Int)).bind fun t301 => (rf18_Many.l0 k l0 t301 0))
theorem rf18_Many.mono_l : ∀ k, (∀ y0 y1 y2, LeO (rf18_Many.l0 k y0 y1 y2) (rf18_Many.l0 (k + 1) y0 y1 y2))
 | 0 => fun _ _ _ r h => by simp [rf18_Many.l0] at h
 | k + 1 => by
  have ih0 := rf18_Many.mono_l k
  ·intro y0 y1 y2
   unfold rf18_Many.l0
   repeat' first
   | (with_reducible exact ih0 _ _ _)
   | (with_reducible exact rf18_Wrap.mono _ _)
   | (with_reducible exact rf18_put.mono _ _)
   | (with_reducible exact LeO.refl _)
   | (with_reducible exact LeO.none _)
   | (with_reducible refine LeO.ite ?_ ?_)
   | (with_reducible refine LeO.bind ?_ (fun _ => ?_))
   | exact ih0 _ _ _
   | exact rf18_Wrap.mono _ _
   | exact rf18_put.mono _ _
   | exact LeO.none _
   | refine LeO.ite ?_ ?_
   | refine LeO.bind ?_ (fun _ => ?_)
theorem rf18_Many.mono : ∀ a0 k, LeO (rf18_Many.f k a0) (rf18_Many.f (k + 1) a0) := by
 intro a0 k
 have ih0 := rf18_Many.mono_l k
 unfold rf18_Many.f
 repeat' first
   | (with_reducible exact ih0 _ _ _)
   | (with_reducible exact rf18_Wrap.mono _ _)
   | (with_reducible exact rf18_put.mono _ _)
   | (with_reducible exact LeO.refl _)
   | (with_reducible exact LeO.none _)
   | (with_reducible refine LeO.ite ?_ ?_)
   | (with_reducible refine LeO.bind ?_ (fun _ => ?_))
   | exact ih0 _ _ _
   | exact rf18_Wrap.mono _ _
   | exact rf18_put.mono _ _
   | exact LeO.none _
   | refine LeO.ite ?_ ?_
   | refine LeO.bind ?_ (fun _ => ?_)
set_option maxHeartbeats 8000000 in
set_option maxRecDepth 100000 in
theorem rf18_Many.calls (k : Nat) (A0 : Option Addr) (c0 : Nat) (l0 : List (List Int)) (r1 : List Int) (r2 : Int) (w : World) (hr0 : Kd.C (Kd.slice 5 (Kd.int .u8)) w A0 l0.length l0) (hc0 : l0.length ≤ c0) (h : rf18_Many.f k l0 = some (r1, r2)) :
  Calls Tryz.prog 19 #[.slice A0 l0.length c0] w fun e w' => ∃ v0_ : Value, e = .returned (.tuple #[v0_, .int .i64 r2]) ∧ Kd.R (Kd.int .u8) 5 w' w.heap.size (fun _ => True) v0_ r1 ∧ Below w.heap.size w w' := by
 have HR0 := Aside0.mk hr0
 have HC0 := Aside0.mk hc0
 clear hr0 hc0
 have HB := Aside0.mk (Below.refl w.heap.size w)
 have H : (if (l0.length : Int) > 50 then (some (([] : List Int), 3)) else ((rf18_put.f k (l0.length : Int)).bind fun t301 => (rf18_Many.l0 k l0 t301 0))) = some (r1, r2) := h
 clear h
 by_cases c2 : (l0.length : Int) > 50
 ·rw [if_pos c2] at H
  have c2b0 : decide (50 < (l0.length : Int)) = true := decide_eq_true c2
  have c2b1 : decide (50 < l0.length) = true := decide_eq_true (by omega)
  clear c2
  simp only [Option.some.injEq, Prod.mk.injEq] at H
  obtain ⟨rfl, rfl⟩ := H
  go_enter Tryz.func19, Tryz.ntmps19
  go_wp2
  go_ret2
  exact ⟨_, by first | rfl | (simp [errW_none, errW_some] <;> rfl) | (simp [*, errW_none, errW_some] <;> rfl), by first | exact Kd.R_nil _ _ _ _ _ | exact Kd.N_nil _ _ _ _ _ | exact Kd.V_nil _ _ _ _ _ | exact Kd.Q_nil _ _ _ _ _ | exact Kd.S_nil _ _ _ _ _, bH HB⟩
 ·rw [if_neg c2] at H
  have c2b0 : decide (50 < (l0.length : Int)) = false := decide_eq_false c2
  have c2b1 : decide (50 < l0.length) = false := decide_eq_false (by omega)
  clear c2
  replace H := Option.bind_eq_some_iff.mp H
  obtain ⟨t301, A30, H⟩ := H
  replace H : (rf18_Many.l0 k l0 t301 0) = some (r1, r2) := H
  have A3 := Aside0.mk A30
  clear A30
  have H' := Aside0.mk H
  clear H
  go_enter Tryz.func19, Tryz.ntmps19
  go_wp2_with (first | ((with_reducible refine gate_callee (f := 40) rfl ?_); refine goesL_ (some 13) rfl rfl Tryz.func40 (by kernel_rfl) rfl #[.int .i64 (l0.length : Int)] rfl (by (try simp only [List.map_toArray, List.map_cons, List.map_nil]); first | done | rfl | (simp only [List.length_drop, List.length_take]; rfl)) ?_; (with_reducible refine (rf18_put.calls k (l0.length : Int) t301 _ A3.out).mono ?_); rintro e w4 ⟨v302, rfl, ho0, hb⟩; refine ⟨_, rfl, ?_⟩; have n0_ := Aside0.mk (Kd.R_lower ho0 (below_size (bH HB))); have n1_ := Aside0.mk (below_step (bH HB) hb); clear HB; have HO303 := n0_; have HB := n1_; clear n0_ n1_; (try clear hb); (try clear hb2); (try clear hk); (try clear hi); (try clear ho0)))
  go_loopg [4, 5] k (fun kq v4 v5 w' => ∃ (x4_1 : List Int) (x5_1 : Int), v5 = .int .i64 x5_1 ∧ Aside0 (rf18_Many.l0 kq l0 x4_1 x5_1 = some (r1, r2)) ∧ Aside0 (kq ≤ k) ∧ Aside0 (Kd.R (Kd.int .u8) 5 w' w.heap.size (fun _ => True) v4 x4_1) ∧ Aside0 (Below w.heap.size w w'))
  case atStart => exact ⟨(t301), (0), (by first | rfl | (simp; done) | (simp [*]; done)), H', ⟨Nat.le_refl _⟩, ⟨by (with_reducible repeat (first | apply Kd.R_alloc | apply Kd.R_drewN | apply Kd.R_drew)); exact HO303.out⟩, ⟨ bH HB⟩⟩
  case round =>
   clear H'
   try clear c1
   try clear c2
   try clear c2b0
   try clear c2b1
   try clear p2
   try clear c4
   obtain ⟨x4_1, x5_1, rfl, HA, HK1, HO_4, HB⟩ := hrel
   cases gk with
   | zero => exact absurd HA.out (by simp [rf18_Many.l0])
   | succ k1 =>
    have H := HA.out
    clear HA
    simp only [rf18_Many.l0] at H
    by_cases c5 : x5_1 < (l0.length : Int)
    ·rw [if_pos c5] at H
     have c5b0 : decide (x5_1 < (l0.length : Int)) = true := decide_eq_true c5
     clear c5
     by_cases c6 : 0 ≤ x5_1
     ·rw [if_pos c6] at H
      have c6b0 : decide (0 ≤ x5_1) = true := decide_eq_true c6
      clear c6
      replace H := Option.bind_eq_some_iff.mp H
      obtain ⟨⟨t305, t306⟩, A70, H⟩ := H
      replace H : (if t306 = 0 then (if x4_1.length + t305.length < 140737488355328 then (rf18_Many.l0 k1 l0 (x4_1 ++ t305) (wrap64 (x5_1 + 1))) else (none)) else (some (([] : List Int), t306))) = some (r1, r2) := H
      have A7 := Aside0.mk A70
      clear A70
      have HC8 := Aside0.mk H
      clear H
      have p304 : 0 ≤ (x5_1 : Int) := of_decide_eq_true (by first | (with_reducible assumption) | assumption)
      have q304 : x5_1 < (l0.length : Int) := of_decide_eq_true (by first | (with_reducible assumption) | assumption)
      obtain ⟨ad304, A304_0, c304_0, e304, hx304_0, hl304_0, hi304_0⟩ := at_L3 HR0.out x5_1 p304 q304
      cases e304
      replace hx304_0 := (HB.out.cell (World.block_lt_of_cell? w _ hx304_0)).trans hx304_0
      have HR304_0 := Aside0.mk hi304_0
      have HC304_0 := Aside0.mk hl304_0
      clear hi304_0 hl304_0
      replace p304 := eq_true p304
      replace q304 := eq_true q304
      go_upto_if 29 with (first | ((with_reducible refine gate_callee (f := 26) rfl ?_); refine goesL_ (some 25) rfl rfl Tryz.func26 (by kernel_rfl) rfl #[.slice A304_0 (rd_L3 l0 x5_1).length c304_0] rfl (by (try simp only [List.map_toArray, List.map_cons, List.map_nil]); first | done | rfl | (simp only [List.length_drop, List.length_take]; rfl)) ?_; (with_reducible refine (rf18_Wrap.calls k1 _ _ (rd_L3 l0 x5_1) t305 t306 _ ?side1 ?side2 A7.out).mono ?_); (case side1 => repeat (first | exact (Kd.C_below HR304_0.out HB.out) | (with_reducible refine Kd.C_alloc ?_ _) | (with_reducible refine Kd.C_drewN ?_ _) | (with_reducible refine Kd.C_drew ?_))); (case side2 => exact HC304_0.out); rintro e w9 ⟨v307, rfl, ho0, hb⟩; refine ⟨_, rfl, ?_⟩; have n0_ := Aside0.mk (Kd.R_elder' (rK HO_4) (Kd.R_base ho0) hb); have n1_ := Aside0.mk (Kd.R_lower (Kd.R_new' ho0 (Kd.R_lt (rK HO_4))) (below_size (bH HB))); have n2_ := Aside0.mk (below_step (bH HB) hb); clear HO_4; clear HB; have HO_4 := n0_; have HO308 := n1_; have HB := n2_; clear n0_ n1_ n2_; (try clear hb); (try clear hb2); (try clear hk); (try clear hi); (try clear ho0)))
      (try simp only [Act.put, List.setIfInBounds_toArray, List.set_cons_zero, List.set_cons_succ])
      have H := HC8.out
      clear HC8
      by_cases c10 : t306 = 0
      ·rw [if_pos c10] at H
       have c10b0 : (t306 == 0) = true := beq_iff_eq.mpr c10
       have c10b1 : (t306 != 0) = false := bne_eq_false_iff_eq.mpr c10
       clear c10
       (first | rw [c10b0] | (simp only [i64_w, i32_w]; rw [c10b0]) | skip)
       by_cases c11 : x4_1.length + t305.length < 140737488355328
       ·rw [if_pos c11] at H
        have LMc11 := Aside0.mk c11
        clear c11
        obtain ⟨y309, hy309⟩ : ∃ y_ : List Int, y_ = (x4_1 ++ t305) := ⟨_, rfl⟩
        replace H : (rf18_Many.l0 k1 l0 y309 (wrap64 (x5_1 + 1))) = some (r1, r2) := by first | (rw [hy309]; with_reducible exact H) | (have H2_ := (Option.bind_some _ _).symm.trans H; rw [hy309]; with_reducible exact H2_) | (have H2_ := (Option.bind_some _ _).symm.trans H; with_reducible exact H2_) | with_reducible exact H | (rw [hy309]; exact H) | exact H
        have Ny309 := Aside0.mk hy309
        clear hy309
        have H' := Aside0.mk H
        clear H
        obtain ⟨Ao13, co13, eo13⟩ := Kd.R_slice HO308.out
        subst eo13
        go_wp2_with (first | ((with_reducible refine gate_builtin (b := .append) (xs := #[.tmp 31, .tmp 32]) rfl ?_); at_builtin; refine Kd.R_append_rows (Kd.int .u8) (w0 := w) w.heap.size rfl (.tmp 31) (.tmp 32) 26 5 (.int .u8 0) 1 rfl Tryz.underlying26 info5 rfl (by decide) (by omega) u4 x4_1 t305 _ _ _ (fun k_ => some k_ ≠ (.slice Ao13 t305.length co13 : Value).ownBlock) (fun _ => False) rfl rfl ?aO ?aR (fun _ _ h => h) (fun _ h => h.elim) ?aF ?aB ?aS ?aL ?_; (case aR => repeat (first | exact (Kd.R_reads' HO308.out).2.2 | (with_reducible refine Kd.C_alloc ?_ _) | (with_reducible refine Kd.C_drewN ?_ _) | (with_reducible refine Kd.C_drew ?_))); (case aB => exact (bH HB)); (case aF => exact (fun k_ hk => Kd.fresh' (Kd.R_lt (rK HO308)) k_ hk)); (case aO => exact (by (with_reducible repeat (first | apply Kd.R_alloc | apply Kd.R_drewN | apply Kd.R_drew)); exact Kd.R_mono HO_4.out (fun _ hk => hk.2))); (case aS => exact (below_size (bH HB))); (case aL => have := LMc11.out; omega); intro v310 w12 ho hb hg hat; rw [← Ny309.out] at ho; have n0_ := Aside0.mk (Kd.R_after (ok := (fun _ => True)) (rK HO308) hg hat); have n1_ := Aside0.mk (hb); have n2_ := Aside0.mk (ho); clear HO308; clear HB; clear HO_4; have HO308 := n0_; have HB := n1_; have HO311 := n2_; clear n0_ n1_ n2_; clear ho hb hg hat))
        go_roundg k1
        case measure => have := HK1.out; omega
        case rel => exact ⟨(y309), (wrap64 (x5_1 + 1)), (by first | rfl | (simp; done) | (simp [*]; done)), H', ⟨by have := HK1.out; omega⟩, ⟨by (with_reducible repeat (first | apply Kd.R_alloc | apply Kd.R_drewN | apply Kd.R_drew)); exact Kd.R_mono HO311.out (fun _ hk => trivial)⟩, ⟨ bH HB⟩⟩
       ·rw [if_neg c11] at H
        exact absurd H (by simp)
      ·rw [if_neg c10] at H
       have c10b0 : (t306 == 0) = false := beq_eq_false_iff_ne.mpr c10
       have c10b1 : (t306 != 0) = true := bne_iff_ne.mpr c10
       (first | rw [c10b0] | (simp only [i64_w, i32_w]; rw [c10b0]) | skip)
       simp only [Option.some.injEq, Prod.mk.injEq] at H
       obtain ⟨rfl, rfl⟩ := H
       go_wp2
       go_ret2
       exact ⟨_, by first | rfl | (simp [errW_none, errW_some] <;> rfl) | (simp [*, errW_none, errW_some] <;> rfl), by first | exact Kd.R_nil _ _ _ _ _ | exact Kd.N_nil _ _ _ _ _ | exact Kd.V_nil _ _ _ _ _ | exact Kd.Q_nil _ _ _ _ _ | exact Kd.S_nil _ _ _ _ _, bH HB⟩
     ·rw [if_neg c6] at H
      exact absurd H (by simp)
    ·rw [if_neg c5] at H
     have c5b0 : decide (x5_1 < (l0.length : Int)) = false := decide_eq_false c5
     clear c5
     simp only [Option.some.injEq, Prod.mk.injEq] at H
     obtain ⟨rfl, rfl⟩ := H
     go_wp2
     go_ret2
     exact ⟨_, by first | rfl | (simp [errW_none, errW_some] <;> rfl) | (simp [*, errW_none, errW_some] <;> rfl), by (with_reducible repeat (first | apply Kd.R_alloc | apply Kd.R_drewN | apply Kd.R_drew)); exact HO_4.out, bH HB⟩

mutual
def rf06_beyond.l0 : Nat → List Int → List Int → Int → Int → Int → Option (Int)
 | 0, _, _, _, _, _ => none
 | k + 1, x0, x1, x2, x7, x8 => if x8 < (x1.length : Int) then (if 0 ≤ x8 then (if x8 < (x0.length : Int) then (if (wrap64 ((wrap64 ((wrap64 (x7 * 256)) + (wrap64 (rd x0 x8)))) - (rd x1 x8))) < 0 then (if (wrap64 ((wrap64 ((wrap64 (x7 * 256)) + (wrap64 (rd x0 x8)))) - (rd x1 x8))) < (wrap64 (-x2)) then (rf06_beyond.j1 k x0 x1 x2 (wrap64 ((wrap64 ((wrap64 (x7 * 256)) + (wrap64 (rd x0 x8)))) - (rd x1 x8))) x8 true) else (rf06_beyond.j1 k x0 x1 x2 (wrap64 ((wrap64 ((wrap64 (x7 * 256)) + (wrap64 (rd x0 x8)))) - (rd x1 x8))) x8 (decide ((wrap64 ((wrap64 ((wrap64 (x7 * 256)) + (wrap64 (rd x0 x8)))) - (rd x1 x8))) > (wrap64 (2 * x2)))))) else (rf06_beyond.j1 k x0 x1 x2 (wrap64 ((wrap64 ((wrap64 (x7 * 256)) + (wrap64 (rd x0 x8)))) - (rd x1 x8))) x8 (decide ((wrap64 ((wrap64 ((wrap64 (x7 * 256)) + (wrap64 (rd x0 x8)))) - (rd x1 x8))) > (wrap64 (2 * x2)))))) else (none)) else (none)) else (some x7)
def rf06_beyond.j1 : Nat → List Int → List Int → Int → Int → Int → Bool → Option (Int)
 | 0, _, _, _, _, _, _ => none
 | k + 1, x0, x1, x2, x7, x8, x46 => if x46 = true then (if x7 < 0 then (some (-1)) else (some x2)) else (rf06_beyond.l0 k x0 x1 x2 x7 (wrap64 (x8 + 1)))
end
def rf06_beyond.f (k : Nat) (l0 : List Int) (l1 : List Int) (a2 : Int) : Option (Int) := if (l0.length : Int) < (l1.length : Int) then (some (-1)) else (rf06_beyond.l0 k l0 l1 a2 0 0)
theorem rf06_beyond.mono_l : ∀ k, (∀ y0 y1 y2 y3 y4, LeO (rf06_beyond.l0 k y0 y1 y2 y3 y4) (rf06_beyond.l0 (k + 1) y0 y1 y2 y3 y4)) ∧ (∀ y0 y1 y2 y3 y4 y5, LeO (rf06_beyond.j1 k y0 y1 y2 y3 y4 y5) (rf06_beyond.j1 (k + 1) y0 y1 y2 y3 y4 y5))
 | 0 => ⟨fun _ _ _ _ _ r h => by simp [rf06_beyond.l0] at h, fun _ _ _ _ _ _ r h => by simp [rf06_beyond.j1] at h⟩
 | k + 1 => by
  obtain ⟨ih0, ih1⟩ := rf06_beyond.mono_l k
  refine ⟨?_, ?_⟩
  ·intro y0 y1 y2 y3 y4
   unfold rf06_beyond.l0
   repeat' first
   | (with_reducible exact ih0 _ _ _ _ _)
   | (with_reducible exact ih1 _ _ _ _ _ _)
   | (with_reducible exact LeO.refl _)
   | (with_reducible exact LeO.none _)
   | (with_reducible refine LeO.ite ?_ ?_)
   | (with_reducible refine LeO.bind ?_ (fun _ => ?_))
   | exact ih0 _ _ _ _ _
   | exact ih1 _ _ _ _ _ _
   | exact LeO.none _
   | refine LeO.ite ?_ ?_
   | refine LeO.bind ?_ (fun _ => ?_)
  ·intro y0 y1 y2 y3 y4 y5
   unfold rf06_beyond.j1
   repeat' first
   | (with_reducible exact ih0 _ _ _ _ _)
   | (with_reducible exact ih1 _ _ _ _ _ _)
   | (with_reducible exact LeO.refl _)
   | (with_reducible exact LeO.none _)
   | (with_reducible refine LeO.ite ?_ ?_)
   | (with_reducible refine LeO.bind ?_ (fun _ => ?_))
   | exact ih0 _ _ _ _ _
   | exact ih1 _ _ _ _ _ _
   | exact LeO.none _
   | refine LeO.ite ?_ ?_
   | refine LeO.bind ?_ (fun _ => ?_)
theorem rf06_beyond.mono : ∀ a0 a1 a2 k, LeO (rf06_beyond.f k a0 a1 a2) (rf06_beyond.f (k + 1) a0 a1 a2) := by
 intro a0 a1 a2 k
 obtain ⟨ih0, ih1⟩ := rf06_beyond.mono_l k
 unfold rf06_beyond.f
 repeat' first
   | (with_reducible exact ih0 _ _ _ _ _)
   | (with_reducible exact ih1 _ _ _ _ _ _)
   | (with_reducible exact LeO.refl _)
   | (with_reducible exact LeO.none _)
   | (with_reducible refine LeO.ite ?_ ?_)
   | (with_reducible refine LeO.bind ?_ (fun _ => ?_))
   | exact ih0 _ _ _ _ _
   | exact ih1 _ _ _ _ _ _
   | exact LeO.none _
   | refine LeO.ite ?_ ?_
   | refine LeO.bind ?_ (fun _ => ?_)
set_option maxHeartbeats 8000000 in
set_option maxRecDepth 100000 in
theorem rf06_beyond.calls (k : Nat) (A0 : Option Addr) (c0 : Nat) (l0 : List Int) (A1 : Option Addr) (c1 : Nat) (l1 : List Int) (a2 : Int) (r : Int) (w : World) (hr0 : Kd.C (Kd.int .u8) w A0 l0.length l0) (hc0 : l0.length ≤ c0) (hr1 : Kd.C (Kd.int .i64) w A1 l1.length l1) (hc1 : l1.length ≤ c1) (h : rf06_beyond.f k l0 l1 a2 = some r) :
  Calls Tryz.prog 105 #[.slice A0 l0.length c0, .slice A1 l1.length c1, .int .i64 a2] w fun e w' => e = .returned (.int .i64 r) ∧ Drawn0 w w' := by
 have HR0 := Aside0.mk hr0
 have HC0 := Aside0.mk hc0
 clear hr0 hc0
 have HR1 := Aside0.mk hr1
 have HC1 := Aside0.mk hc1
 clear hr1 hc1
 have H : (if (l0.length : Int) < (l1.length : Int) then (some (-1)) else (rf06_beyond.l0 k l0 l1 a2 0 0)) = some r := h
 clear h
 by_cases c4 : (l0.length : Int) < (l1.length : Int)
 ·rw [if_pos c4] at H
  have c4b0 : decide ((l0.length : Int) < (l1.length : Int)) = true := decide_eq_true c4
  have c4b1 : decide (l0.length < l1.length) = true := decide_eq_true (Int.ofNat_lt.mp c4)
  clear c4
  obtain rfl := Option.some.inj H
  go_enter Tryz.func105, Tryz.ntmps105
  go_wp2
  repeat (go_quiet (fail); try go_wp2)
  go_ret
  exact ⟨by first | rfl | (simp; done) | (simp [*]; done), by repeat (first | exact Drawn0.refl _ | apply Drawn0.step)⟩
 ·rw [if_neg c4] at H
  have c4b0 : decide ((l0.length : Int) < (l1.length : Int)) = false := decide_eq_false c4
  have c4b1 : decide (l0.length < l1.length) = false := decide_eq_false (fun h => c4 (Int.ofNat_lt.mpr h))
  clear c4
  have H' := Aside0.mk H
  clear H
  go_enter Tryz.func105, Tryz.ntmps105
  go_wp2
  repeat (go_quiet (fail); try go_wp2)
  go_loopg [7, 8] k (fun kq v7 v8 w' => ∃ (x7_1 : Int) (x8_1 : Int), v7 = .int .i64 x7_1 ∧ v8 = .int .i64 x8_1 ∧ Aside0 (rf06_beyond.l0 kq l0 l1 a2 x7_1 x8_1 = some r) ∧ Aside0 (kq ≤ k) ∧ Drawn0 w w')
  case atStart => exact ⟨(0), (0), (by first | rfl | (simp; done) | (simp [*]; done)), (by first | rfl | (simp; done) | (simp [*]; done)), H', ⟨Nat.le_refl _⟩, by repeat (first | exact Drawn0.refl _ | apply Drawn0.step)⟩
  case round =>
   clear H'
   try clear c1
   try clear p2
   try clear c4
   try clear c4b0
   try clear c4b1
   obtain ⟨x7_1, x8_1, rfl, rfl, HA, HK1, ⟨m1, rfl⟩⟩ := hrel
   cases gk with
   | zero => exact absurd HA.out (by simp [rf06_beyond.l0])
   | succ k1 =>
    have H := HA.out
    clear HA
    simp only [rf06_beyond.l0] at H
    by_cases c5 : x8_1 < (l1.length : Int)
    ·rw [if_pos c5] at H
     have c5b0 : decide (x8_1 < (l1.length : Int)) = true := decide_eq_true c5
     clear c5
     by_cases c6 : 0 ≤ x8_1
     ·rw [if_pos c6] at H
      have c6b0 : decide (0 ≤ x8_1) = true := decide_eq_true c6
      clear c6
      by_cases c7 : x8_1 < (l0.length : Int)
      ·rw [if_pos c7] at H
       have c7b0 : decide (x8_1 < (l0.length : Int)) = true := decide_eq_true c7
       clear c7
       have HC8 := Aside0.mk H
       clear H
       have p317 : 0 ≤ (x8_1 : Int) := of_decide_eq_true (by first | (with_reducible assumption) | assumption)
       have q317 : x8_1 < (l0.length : Int) := of_decide_eq_true (by first | (with_reducible assumption) | assumption)
       obtain ⟨ad317, e317, hx317_0⟩ := Kd.at_int HR0.out x8_1 p317 q317
       cases e317
       replace p317 := eq_true p317
       replace q317 := eq_true q317
       have p318 : 0 ≤ (x8_1 : Int) := of_decide_eq_true (by first | (with_reducible assumption) | assumption)
       have q318 : x8_1 < (l1.length : Int) := of_decide_eq_true (by first | (with_reducible assumption) | assumption)
       obtain ⟨ad318, e318, hx318_0⟩ := Kd.at_int HR1.out x8_1 p318 q318
       cases e318
       replace p318 := eq_true p318
       replace q318 := eq_true q318
       go_upto_region 8 with (fail)
       repeat (go_quiet (fail); go_upto_region 8 with (fail))
       go_cut [46] (fun v46 wc => ∃ (kq : Nat) (x46_7 : Bool), v46 = .bool x46_7 ∧ Aside0 (rf06_beyond.j1 kq l0 l1 a2 (wrap64 ((wrap64 ((wrap64 (x7_1 * 256)) + (wrap64 (rd l0 x8_1)))) - (rd l1 x8_1))) x8_1 x46_7 = some r) ∧ Aside0 (kq ≤ k1) ∧ Drawn0 w wc)
       case first =>
        have H := HC8.out
        clear HC8
        by_cases c9 : (wrap64 ((wrap64 ((wrap64 (x7_1 * 256)) + (wrap64 (rd l0 x8_1)))) - (rd l1 x8_1))) < 0
        ·rw [if_pos c9] at H
         have c9b0 : decide ((wrap64 ((wrap64 ((wrap64 (x7_1 * 256)) + (wrap64 (rd l0 x8_1)))) - (rd l1 x8_1))) < 0) = true := decide_eq_true c9
         clear c9
         (first | rw [c9b0] | (simp only [i64_w, i32_w]; rw [c9b0]) | skip)
         by_cases c10 : (wrap64 ((wrap64 ((wrap64 (x7_1 * 256)) + (wrap64 (rd l0 x8_1)))) - (rd l1 x8_1))) < (wrap64 (-a2))
         ·rw [if_pos c10] at H
          have c10b0 : decide ((wrap64 ((wrap64 ((wrap64 (x7_1 * 256)) + (wrap64 (rd l0 x8_1)))) - (rd l1 x8_1))) < (wrap64 (-a2))) = true := decide_eq_true c10
          clear c10
          have H' := Aside0.mk H
          clear H
          go_wp2
          repeat (go_quiet (fail); try go_wp2)
          go_meet
          case rel => exact ⟨_, (true), (by first | rfl | (simp; done) | (simp [*]; done)), H', ⟨by have := HK1.out; first | omega | exact Nat.le_refl _⟩, by repeat (first | exact Drawn0.refl _ | apply Drawn0.step)⟩
         ·rw [if_neg c10] at H
          have c10b0 : decide ((wrap64 ((wrap64 ((wrap64 (x7_1 * 256)) + (wrap64 (rd l0 x8_1)))) - (rd l1 x8_1))) < (wrap64 (-a2))) = false := decide_eq_false c10
          clear c10
          have H' := Aside0.mk H
          clear H
          go_wp2
          repeat (go_quiet (fail); try go_wp2)
          go_meet
          case rel => exact ⟨_, (decide ((wrap64 ((wrap64 ((wrap64 (x7_1 * 256)) + (wrap64 (rd l0 x8_1)))) - (rd l1 x8_1))) > (wrap64 (2 * a2)))), (by first | rfl | (simp; done) | (simp [*]; done)), H', ⟨by have := HK1.out; first | omega | exact Nat.le_refl _⟩, by repeat (first | exact Drawn0.refl _ | apply Drawn0.step)⟩
        ·rw [if_neg c9] at H
         have c9b0 : decide ((wrap64 ((wrap64 ((wrap64 (x7_1 * 256)) + (wrap64 (rd l0 x8_1)))) - (rd l1 x8_1))) < 0) = false := decide_eq_false c9
         clear c9
         (first | rw [c9b0] | (simp only [i64_w, i32_w]; rw [c9b0]) | skip)
         have H' := Aside0.mk H
         clear H
         go_wp2
         repeat (go_quiet (fail); try go_wp2)
         go_meet
         case rel => exact ⟨_, (decide ((wrap64 ((wrap64 ((wrap64 (x7_1 * 256)) + (wrap64 (rd l0 x8_1)))) - (rd l1 x8_1))) > (wrap64 (2 * a2)))), (by first | rfl | (simp; done) | (simp [*]; done)), H', ⟨by have := HK1.out; first | omega | exact Nat.le_refl _⟩, by repeat (first | exact Drawn0.refl _ | apply Drawn0.step)⟩
       case rest =>
        clear HC8
        try clear c1
        try clear p2
        try clear p3
        try clear q3
        try clear hx3
        try clear c4
        try clear c4b0
        try clear c4b1
        try clear c5
        try clear c5b0
        try clear c6
        try clear c6b0
        try clear p6
        try clear c7
        try clear c7b0
        try clear c9
        try clear c9b0
        try clear c10
        try clear c10b0
        try clear hx317_0
        try clear hx318_0
        try clear p2
        try clear p317
        try clear p318
        try clear q317
        try clear q318
        obtain ⟨kq, x46_7, rfl, HA, HJ7, ⟨mc7, rfl⟩⟩ := hcut
        cases kq with
        | zero => exact absurd HA.out (by simp [rf06_beyond.j1])
        | succ kj7 =>
         have H := HA.out
         clear HA
         simp only [rf06_beyond.j1] at H
         by_cases c11 : x46_7 = true
         ·subst c11
          have H1 : (if (wrap64 ((wrap64 ((wrap64 (x7_1 * 256)) + (wrap64 (rd l0 x8_1)))) - (rd l1 x8_1))) < 0 then (some (-1)) else (some a2)) = some r := by rw [if_pos rfl] at H; exact H
          clear H
          have H := H1
          clear H1
          by_cases c12 : (wrap64 ((wrap64 ((wrap64 (x7_1 * 256)) + (wrap64 (rd l0 x8_1)))) - (rd l1 x8_1))) < 0
          ·rw [if_pos c12] at H
           have c12b0 : decide ((wrap64 ((wrap64 ((wrap64 (x7_1 * 256)) + (wrap64 (rd l0 x8_1)))) - (rd l1 x8_1))) < 0) = true := decide_eq_true c12
           clear c12
           obtain rfl := Option.some.inj H
           go_wp2
           repeat (go_quiet (fail); try go_wp2)
           go_ret
           exact ⟨by first | rfl | (simp; done) | (simp [*]; done), by repeat (first | exact Drawn0.refl _ | apply Drawn0.step)⟩
          ·rw [if_neg c12] at H
           have c12b0 : decide ((wrap64 ((wrap64 ((wrap64 (x7_1 * 256)) + (wrap64 (rd l0 x8_1)))) - (rd l1 x8_1))) < 0) = false := decide_eq_false c12
           clear c12
           obtain rfl := Option.some.inj H
           go_wp2
           repeat (go_quiet (fail); try go_wp2)
           go_ret
           exact ⟨by first | rfl | (simp; done) | (simp [*]; done), by repeat (first | exact Drawn0.refl _ | apply Drawn0.step)⟩
         ·replace c11 := Bool.eq_false_iff.mpr c11
          subst c11
          have H1 : (rf06_beyond.l0 kj7 l0 l1 a2 (wrap64 ((wrap64 ((wrap64 (x7_1 * 256)) + (wrap64 (rd l0 x8_1)))) - (rd l1 x8_1))) (wrap64 (x8_1 + 1))) = some r := by rw [if_neg (show ¬ (false = true) by decide)] at H; exact H
          clear H
          have H := H1
          clear H1
          have H' := Aside0.mk H
          clear H
          go_wp2
          repeat (go_quiet (fail); try go_wp2)
          go_roundg kj7
          case measure => have := HK1.out; have := HJ7.out; omega
          case rel => exact ⟨((wrap64 ((wrap64 ((wrap64 (x7_1 * 256)) + (wrap64 (rd l0 x8_1)))) - (rd l1 x8_1)))), (wrap64 (x8_1 + 1)), (by first | rfl | (simp; done) | (simp [*]; done)), (by first | rfl | (simp; done) | (simp [*]; done)), H', ⟨by have := HK1.out; have := HJ7.out; omega⟩, by repeat (first | exact Drawn0.refl _ | apply Drawn0.step)⟩
      ·rw [if_neg c7] at H
       exact absurd H (by simp)
     ·rw [if_neg c6] at H
      exact absurd H (by simp)
    ·rw [if_neg c5] at H
     have c5b0 : decide (x8_1 < (l1.length : Int)) = false := decide_eq_false c5
     clear c5
     obtain rfl := Option.some.inj H
     go_wp2
     repeat (go_quiet (fail); try go_wp2)
     go_ret
     exact ⟨by first | rfl | (simp; done) | (simp [*]; done), by repeat (first | exact Drawn0.refl _ | apply Drawn0.step)⟩
end Go.Proofs.YtbdbobjdlomjnaaGreatDoor.P
