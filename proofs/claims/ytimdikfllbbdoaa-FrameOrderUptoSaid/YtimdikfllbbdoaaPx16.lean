/- Written for this claim by a program of this session (a turned copy of the print): Go functions as Lean functions, and that the Go code comes to just these answers; or a statement proved out of them. No condition. -/
import Derived.Test.YtimdikfllbbdoaaPx0
import Derived.Test.YtimdikfllbbdoaaPx8
import Derived.Test.YtimdikfllbbdoaaPx15
namespace Go.Proofs.Ytimdikfllbbdoaa.P
open Go.RowKit Go.Proofs.YtimdikfllbbdoaaW.PrintWords Go.Proofs.YtimdikfllbbdoaaW.PrintLast Go.Proofs.YtimdikfllbbdoaaW.PrintMore Go.Proofs.Ytimdikfllbbdoaa.X
attribute [local go_sem] max2_int min2_int max_two min_two max_three min_three max_four min_four   -- for this text's walks alone
set_option linter.unusedVariables false
set_option linter.unusedSimpArgs false

/-! ### crc_Check: function 31 -/
def crc_Check.f (k : Nat) (l0 : List Int) : Option (List Int × Int) := if (wrap64 ((l0.length : Int) - 4)) < 0 then (some (([] : List Int), 10)) else ((vint_Field.f k l0 (wrap64 ((l0.length : Int) - 4)) 4).bind fun bt157 => (if 0 ≤ (wrap64 ((l0.length : Int) - 4)) then (if (wrap64 ((l0.length : Int) - 4)) ≤ (l0.length : Int) then ((crc_Of.f (([(l0.take ((wrap64 ((l0.length : Int) - 4)) : Int).toNat)] : List (List Int)))).bind fun t167 => (if ((bt157.1) % 4294967296) = t167 then ((some (l0.take ((wrap64 ((l0.length : Int) - 4)) : Int).toNat : List Int)).bind fun y168 => (if ([] : List Int).length + y168.length < 140737488355328 then (some ((([] : List Int) ++ y168), 0)) else (none))) else (some (([] : List Int), 30)))) else (none)) else (none)))
theorem crc_Check.mono : ∀ a0 k, LeO (crc_Check.f k a0) (crc_Check.f (k + 1) a0) := by
 intro a0 k
 unfold crc_Check.f
 repeat' first
   | (with_reducible exact vint_Field.mono _ _ _ _)
   | (with_reducible exact LeO.refl _)
   | (with_reducible exact LeO.none _)
   | (with_reducible refine LeO.ite ?_ ?_)
   | (with_reducible refine LeO.bind ?_ (fun _ => ?_))
   | exact vint_Field.mono _ _ _ _
   | exact LeO.none _
   | refine LeO.ite ?_ ?_
   | refine LeO.bind ?_ (fun _ => ?_)
set_option maxHeartbeats 8000000 in
set_option maxRecDepth 100000 in
theorem crc_Check.calls (k : Nat) (P0_ : Nat → Prop) (A0 : Option Addr) (c0 : Nat) (l0 : List Int) (r1 : List Int) (r2 : Int) (w : World) (hs0 : Kd.V (Kd.int .u8) 5 w w.heap.size (fun k_ => P0_ k_) (.slice A0 l0.length c0) l0) (h : crc_Check.f k l0 = some (r1, r2)) :
  Calls Try.prog 31 #[.slice A0 l0.length c0] w fun e w' => ∃ v0_ : Value, e = .returned (.tuple #[v0_, .int .i64 r2]) ∧ Kd.R (Kd.int .u8) 5 w' w.heap.size (fun k_ => (w.heap.size ≤ k_)) v0_ r1 ∧ Below w.heap.size w w' := by
 have HO0 := Aside0.mk (show Kd.V (Kd.int .u8) 5 w w.heap.size (fun k_ => (P0_ k_ ∨ w.heap.size ≤ k_)) (.slice A0 l0.length c0) l0 from Kd.V_mono hs0 (fun k_ hk => .inl hk))
 have HB := Aside0.mk (Below.refl w.heap.size w)
 have H : (if (wrap64 ((l0.length : Int) - 4)) < 0 then (some (([] : List Int), 10)) else ((vint_Field.f k l0 (wrap64 ((l0.length : Int) - 4)) 4).bind fun bt157 => (if 0 ≤ (wrap64 ((l0.length : Int) - 4)) then (if (wrap64 ((l0.length : Int) - 4)) ≤ (l0.length : Int) then ((crc_Of.f (([(l0.take ((wrap64 ((l0.length : Int) - 4)) : Int).toNat)] : List (List Int)))).bind fun t167 => (if ((bt157.1) % 4294967296) = t167 then ((some (l0.take ((wrap64 ((l0.length : Int) - 4)) : Int).toNat : List Int)).bind fun y168 => (if ([] : List Int).length + y168.length < 140737488355328 then (some ((([] : List Int) ++ y168), 0)) else (none))) else (some (([] : List Int), 30)))) else (none)) else (none)))) = some (r1, r2) := h
 clear h
 by_cases c2 : (wrap64 ((l0.length : Int) - 4)) < 0
 ·rw [if_pos c2] at H
  have c2b0 : decide ((wrap64 ((l0.length : Int) - 4)) < 0) = true := decide_eq_true c2
  clear c2
  simp only [Option.some.injEq, Prod.mk.injEq] at H
  obtain ⟨rfl, rfl⟩ := H
  go_enter Try.func31, Try.ntmps31
  go_wp2
  go_ret2
  exact ⟨_, by first | rfl | (simp [errW_none, errW_some] <;> rfl) | (simp [*, errW_none, errW_some] <;> rfl), by first | exact Kd.R_nil _ _ _ _ _ | exact Kd.N_nil _ _ _ _ _ | exact Kd.V_nil _ _ _ _ _ | exact Kd.Q_nil _ _ _ _ _ | exact Kd.S_nil _ _ _ _ _, bH HB⟩
 ·rw [if_neg c2] at H
  have c2b0 : decide ((wrap64 ((l0.length : Int) - 4)) < 0) = false := decide_eq_false c2
  clear c2
  replace H := Option.bind_eq_some_iff.mp H
  obtain ⟨⟨t157, t158⟩, A30, H⟩ := H
  replace H : (if 0 ≤ (wrap64 ((l0.length : Int) - 4)) then (if (wrap64 ((l0.length : Int) - 4)) ≤ (l0.length : Int) then ((crc_Of.f (([(l0.take ((wrap64 ((l0.length : Int) - 4)) : Int).toNat)] : List (List Int)))).bind fun t167 => (if ((t157) % 4294967296) = t167 then ((some (l0.take ((wrap64 ((l0.length : Int) - 4)) : Int).toNat : List Int)).bind fun y168 => (if ([] : List Int).length + y168.length < 140737488355328 then (some ((([] : List Int) ++ y168), 0)) else (none))) else (some (([] : List Int), 30)))) else (none)) else (none)) = some (r1, r2) := H
  have A3 := Aside0.mk A30
  clear A30
  obtain ⟨ji4, hji4⟩ : ∃ j_ : Int, (wrap64 ((l0.length : Int) - 4)) = j_ := ⟨_, rfl⟩
  replace H : (if 0 ≤ (ji4) then (if (ji4) ≤ (l0.length : Int) then ((crc_Of.f (([(l0.take ((ji4) : Int).toNat)] : List (List Int)))).bind fun t167 => (if ((t157) % 4294967296) = t167 then ((some (l0.take ((ji4) : Int).toNat : List Int)).bind fun y168 => (if ([] : List Int).length + y168.length < 140737488355328 then (some ((([] : List Int) ++ y168), 0)) else (none))) else (some (([] : List Int), 30)))) else (none)) else (none)) = some (r1, r2) := by first | (rw [hji4] at H; exact H) | (simp only [hji4] at H ⊢; exact H)
  (try rw [hji4] at c2b0)
  (try rw [hji4] at A3)
  have hji4w : (IntKind.i64.wrap ((l0.length : Int) - 4)) = ji4 := (i64_w _).trans hji4
  by_cases c5 : 0 ≤ (ji4)
  ·rw [if_pos c5] at H
   have c5b0 := eq_true c5
   have c5b1 : decide (0 ≤ (ji4)) = true := decide_eq_true c5
   clear c5
   by_cases c6 : (ji4) ≤ (l0.length : Int)
   ·rw [if_pos c6] at H
    have c6b0 := eq_true c6
    have c6b1 : decide ((ji4) ≤ (l0.length : Int)) = true := decide_eq_true c6
    clear c6
    obtain ⟨y159, hy159⟩ : ∃ y_ : List Int, y_ = (l0.take ((ji4) : Int).toNat) := ⟨_, rfl⟩
    replace H : ((crc_Of.f (([y159] : List (List Int)))).bind fun t167 => (if ((t157) % 4294967296) = t167 then ((some (l0.take ((ji4) : Int).toNat : List Int)).bind fun y168 => (if ([] : List Int).length + y168.length < 140737488355328 then (some ((([] : List Int) ++ y168), 0)) else (none))) else (some (([] : List Int), 30)))) = some (r1, r2) := by first | (rw [hy159]; with_reducible exact H) | (have H2_ := (Option.bind_some _ _).symm.trans H; rw [hy159]; with_reducible exact H2_) | (have H2_ := (Option.bind_some _ _).symm.trans H; with_reducible exact H2_) | with_reducible exact H | (rw [hy159]; exact H) | exact H
    have Ny159 := Aside0.mk hy159
    clear hy159
    obtain ⟨y164, hy164⟩ : ∃ y_ : List (List Int), y_ = (([y159] : List (List Int))) := ⟨_, rfl⟩
    replace H : ((crc_Of.f y164).bind fun t167 => (if ((t157) % 4294967296) = t167 then ((some (l0.take ((ji4) : Int).toNat : List Int)).bind fun y168 => (if ([] : List Int).length + y168.length < 140737488355328 then (some ((([] : List Int) ++ y168), 0)) else (none))) else (some (([] : List Int), 30)))) = some (r1, r2) := by first | (rw [hy164]; with_reducible exact H) | (have H2_ := (Option.bind_some _ _).symm.trans H; rw [hy164]; with_reducible exact H2_) | (have H2_ := (Option.bind_some _ _).symm.trans H; with_reducible exact H2_) | with_reducible exact H | (rw [hy164]; exact H) | exact H
    have Ny164 := Aside0.mk hy164
    clear hy164
    replace H := Option.bind_eq_some_iff.mp H
    obtain ⟨t167, A70, H⟩ := H
    replace H : (if ((t157) % 4294967296) = t167 then ((some (l0.take ((ji4) : Int).toNat : List Int)).bind fun y168 => (if ([] : List Int).length + y168.length < 140737488355328 then (some ((([] : List Int) ++ y168), 0)) else (none))) else (some (([] : List Int), 30))) = some (r1, r2) := H
    have A7 := Aside0.mk A70
    clear A70
    have HC8 := Aside0.mk H
    clear H
    go_enter Try.func31, Try.ntmps31
    go_upto_if 25 with (first | ((with_reducible refine gate_callee (f := 37) rfl ?_); refine goesL_ (some 15) rfl rfl Try.func37 (by kernel_rfl) rfl #[.slice A0 l0.length c0, .int .i64 ji4, .int .i64 4] rfl (by (try simp only [List.map_toArray, List.map_cons, List.map_nil]); first | done | (simp only [hji4]; rfl) | rfl | (simp only [List.length_drop, List.length_take]; rfl)) ?_; (with_reducible refine (vint_Field.calls k _ _ l0 ji4 4 t157 t158 _ ?side1 ?side2 A3.out).mono ?_); (case side1 => repeat (first | exact (Kd.V_reads' HO0.out).2.2 | (with_reducible refine Kd.C_alloc ?_ _) | (with_reducible refine Kd.C_drewN ?_ _) | (with_reducible refine Kd.C_drew ?_))); (case side2 => exact (Kd.V_reads' HO0.out).2.1); rintro e w' ⟨rfl, ⟨nd, rfl⟩⟩; refine ⟨_, rfl, ?_⟩; have q9 : ((ji4) : Int) ≤ ((l0.length : Int) : Int) := of_decide_eq_true (by first | (with_reducible assumption) | assumption); obtain ⟨i09, hi09, _, hsz9, _⟩ := info_parts info5; have hroom9 : l0.length ≤ c0 := (Kd.V_reads' HO0.out).2.1; have hC9 : Kd.F (Kd.int .u8) _ _ A0 l0.length l0 := (Kd.V_at (base := w.heap.size) HO0.out).2.2; have hcut9 := cut_to (P := Try.prog) 25 5 .i64 Try.underlying25 hi09 A0 l0.length c0 (ji4) (of_decide_eq_true (by first | (with_reducible assumption) | assumption)) q9 hroom9; have hr9 := Kd.F_take (m := ((ji4) : Int).toNat) hC9 (by omega); have hy9 : y159.length = ((ji4) : Int).toNat := (by rw [Ny159.out, List.length_take]; omega); rw [← Ny159.out] at hr9; rw [← hy9] at hcut9; have HO163 := Aside0.mk (show Kd.V (Kd.int .u8) 5 _ w.heap.size _ (.slice A0 y159.length c0) y159 from Kd.V_mk (by omega) hr9); have HC163 := Aside0.mk (show y159.length ≤ c0 from by omega); clear hr9 hC9 hroom9 hi09 hsz9; have KY9 := Aside0.mk hy9; clear hy9; replace q9 := eq_true q9) | ((with_reducible refine gate_dst (N := 23) rfl ?_); refine Kd.N_lit (Kd.slice 5 (Kd.int .u8)) _ 25 ?hg (N' := 23) ?hd (xs := ([y159] : List (List Int))) (inner := [.slice A0 y159.length c0]) (ok := (fun k_ => (P0_ k_ ∨ w.heap.size ≤ k_))) (okp := (fun k_ => (P0_ k_ ∨ w.heap.size ≤ k_))) ?hr ?hp (fun _ hk => hk) ((show ∀ k_, w.heap.size ≤ k_ → (fun k_ => (P0_ k_ ∨ w.heap.size ≤ k_)) k_ from fun k_ hk => (.inr (Nat.le_trans (below_size (bH HB)) hk))) _ (Nat.le_refl _)) (Below.refl _ _) (Nat.le_refl _) (by simp) ?_; (case hd => rfl); (case hg => rfl); (case hr => first | (go_simp; done) | (go_simp; rfl)); (case hp => first | exact (Reps.one (show Kd.FK (Kd.slice 5 (Kd.int .u8)) _ _ y159 [.slice A0 y159.length c0] from (Kd.FK_slice_mk (Kd.V_reads' (Kd.V_mono (ok' := (fun k_ => (P0_ k_ ∨ w.heap.size ≤ k_))) (HO163.out) (fun k_ hk => hk))).2.1 (Kd.V_F (Kd.V_mono (ok' := (fun k_ => (P0_ k_ ∨ w.heap.size ≤ k_))) (HO163.out) (fun k_ hk => hk))))) (Reps.none _ _)) | (refine Reps.one ?_ (Reps.none _ _); have hv_ := Kd.V_drewN HO163.out nd; exact Kd.FK_slice_mk (Kd.V_reads' hv_).2.1 (Kd.V_F hv_))); intro v165 w10 ho11 hb hg_ hnew_; clear hg_ hnew_; (first | rw [← Ny164.out] at ho11 | (simp only [Int.reduceToNat] at ho11; rw [← Ny164.out] at ho11)); have n0_ := Aside0.mk (Kd.V_elder' (by (with_reducible repeat (first | apply Kd.V_alloc | apply Kd.V_drewN | apply Kd.V_drew)); exact HO0.out) (Kd.N_base ho11) hb); have n1_ := Aside0.mk (Kd.V_elder' (by (with_reducible repeat (first | apply Kd.V_alloc | apply Kd.V_drewN | apply Kd.V_drew)); exact HO163.out) (Kd.N_base ho11) hb); have n2_ := Aside0.mk (Kd.N_lower ho11 (below_size (bH HB))); have n3_ := Aside0.mk (below_step (bH HB) hb); clear HO0; clear HO163; clear HB; have HO0 := n0_; have HO163 := n1_; have HO166 := n2_; have HB := n3_; clear n0_ n1_ n2_ n3_; clear hb ho11; obtain ⟨Ao12, co12, eo12⟩ := Kd.N_slice HO166.out; subst eo12) | ((with_reducible refine gate_callee (f := 28) rfl ?_); refine goesL_ (some 24) rfl rfl Try.func28 (by kernel_rfl) rfl #[.slice Ao12 y164.length co12] rfl (by (try simp only [List.map_toArray, List.map_cons, List.map_nil]); first | done | rfl | (simp only [List.length_drop, List.length_take]; rfl)) ?_; (with_reducible refine (crc_Of.calls _ _ y164 t167 _ ?side1 ?side2 A7.out).mono ?_); (case side1 => repeat (first | exact (Kd.N_reads' HO166.out).2.2 | (with_reducible refine Kd.C_alloc ?_ _) | (with_reducible refine Kd.C_drewN ?_ _) | (with_reducible refine Kd.C_drew ?_))); (case side2 => exact (Kd.N_reads' HO166.out).2.1); rintro e w13 ⟨rfl, hb⟩; refine ⟨_, rfl, ?_⟩; have n0_ := Aside0.mk (Kd.V_below (by (with_reducible repeat (first | apply Kd.V_alloc | apply Kd.V_drewN | apply Kd.V_drew)); exact HO0.out) hb); have n1_ := Aside0.mk (Kd.V_below (by (with_reducible repeat (first | apply Kd.V_alloc | apply Kd.V_drewN | apply Kd.V_drew)); exact HO163.out) hb); have n2_ := Aside0.mk (Kd.N_below (by (with_reducible repeat (first | apply Kd.N_alloc | apply Kd.N_drewN | apply Kd.N_drew)); exact HO166.out) hb); have n3_ := Aside0.mk (below_step (bH HB) hb); clear HO0; clear HO163; clear HO166; clear HB; have HO0 := n0_; have HO163 := n1_; have HO166 := n2_; have HB := n3_; clear n0_ n1_ n2_ n3_; (try clear hb); (try clear hb2); (try clear hk); (try clear hi)))
    (try simp only [Act.put, List.setIfInBounds_toArray, List.set_cons_zero, List.set_cons_succ])
    have H := HC8.out
    clear HC8
    by_cases c14 : ((t157) % 4294967296) = t167
    ·rw [if_pos c14] at H
     have c14b0 : (((t157) % 4294967296) == t167) = true := beq_iff_eq.mpr c14
     have c14b1 : (((t157) % 4294967296) != t167) = false := bne_eq_false_iff_eq.mpr c14
     clear c14
     (first | rw [c14b0] | (simp only [i64_w, i32_w]; rw [c14b0]) | skip)
     have c15b0 := eq_true (of_decide_eq_true (by first | (with_reducible assumption) | assumption) : 0 ≤ (ji4))
     have c16b0 := eq_true (of_decide_eq_true (by first | (with_reducible assumption) | assumption) : (ji4) ≤ (l0.length : Int))
     obtain ⟨y168, hy168⟩ : ∃ y_ : List Int, y_ = (l0.take ((ji4) : Int).toNat) := ⟨_, rfl⟩
     replace H : (if ([] : List Int).length + y168.length < 140737488355328 then (some ((([] : List Int) ++ y168), 0)) else (none)) = some (r1, r2) := by first | (rw [hy168]; with_reducible exact H) | (have H2_ := (Option.bind_some _ _).symm.trans H; rw [hy168]; with_reducible exact H2_) | (have H2_ := (Option.bind_some _ _).symm.trans H; with_reducible exact H2_) | with_reducible exact H | (rw [hy168]; exact H) | exact H
     have Ny168 := Aside0.mk hy168
     clear hy168
     by_cases c17 : ([] : List Int).length + y168.length < 140737488355328
     ·rw [if_pos c17] at H
      have LMc17 := Aside0.mk c17
      clear c17
      obtain ⟨y173, hy173⟩ : ∃ y_ : List Int, y_ = (([] : List Int) ++ y168) := ⟨_, rfl⟩
      replace H : (some (y173, 0)) = some (r1, r2) := by first | (rw [hy173]; with_reducible exact H) | (have H2_ := (Option.bind_some _ _).symm.trans H; rw [hy173]; with_reducible exact H2_) | (have H2_ := (Option.bind_some _ _).symm.trans H; with_reducible exact H2_) | with_reducible exact H | (rw [hy173]; exact H) | exact H
      have Ny173 := Aside0.mk hy173
      clear hy173
      simp only [Option.some.injEq, Prod.mk.injEq] at H
      obtain ⟨rfl, rfl⟩ := H
      have q18 : ((ji4) : Int) ≤ ((l0.length : Int) : Int) := of_decide_eq_true (by first | (with_reducible assumption) | assumption)
      obtain ⟨i018, hi018, _, hsz18, _⟩ := info_parts info5
      have hroom18 : l0.length ≤ c0 := (Kd.V_reads' HO0.out).2.1
      have hC18 : Kd.F (Kd.int .u8) _ _ A0 l0.length l0 := (Kd.V_at (base := w.heap.size) HO0.out).2.2
      have hcut18 := cut_to (P := Try.prog) 25 5 .i64 Try.underlying25 hi018 A0 l0.length c0 (ji4) (of_decide_eq_true (by first | (with_reducible assumption) | assumption)) q18 hroom18
      have hr18 := Kd.F_take (m := ((ji4) : Int).toNat) hC18 (by omega)
      have hy18 : y168.length = ((ji4) : Int).toNat := (by rw [Ny168.out, List.length_take]; omega)
      rw [← Ny168.out] at hr18
      rw [← hy18] at hcut18
      (try clear hcut9)
      have HO172 := Aside0.mk (show Kd.V (Kd.int .u8) 5 _ w.heap.size _ (.slice A0 y168.length c0) y168 from Kd.V_mk (by omega) hr18)
      have HC172 := Aside0.mk (show y168.length ≤ c0 from by omega)
      clear hr18 hC18 hroom18 hi018 hsz18
      have KY18 := Aside0.mk hy18
      clear hy18
      replace q18 := eq_true q18
      go_wp2_with (first | ((with_reducible refine gate_builtin (b := .append) (xs := #[.const (.slice none 0 0), .tmp 28]) rfl ?_); at_builtin; refine Kd.R_append_rows (Kd.int .u8) (w0 := w) w.heap.size rfl (.const (.slice none 0 0)) (.tmp 28) 25 5 (.int .u8 0) 1 rfl Try.underlying25 info5 rfl (by decide) (by omega) (.slice none 0 0) ([] : List Int) y168 _ _ _ (fun k_ => (w.heap.size ≤ k_)) (fun _ => False) rfl rfl ?aO ?aR (fun _ _ h => h) (fun _ h => h.elim) ?aF ?aB ?aS ?aL ?_; (case aR => repeat (first | exact (Kd.V_reads' HO172.out).2.2 | (with_reducible refine Kd.C_alloc ?_ _) | (with_reducible refine Kd.C_drewN ?_ _) | (with_reducible refine Kd.C_drew ?_))); (case aB => exact (bH HB)); (case aF => exact (fun k_ hk => (Nat.le_trans (below_size (bH HB)) hk))); (case aO => exact ((Kd.R_nil _ _ _ _ (fun k_ => (w.heap.size ≤ k_))))); (case aS => exact (below_size (bH HB))); (case aL => have := LMc17.out; omega); intro v174 w19 ho hb hg hat; rw [← Ny173.out] at ho; have n0_ := Aside0.mk (Kd.V_afterv (Kd.V_apart_nil (by (with_reducible repeat (first | apply Kd.V_alloc | apply Kd.V_drewN | apply Kd.V_drew)); exact HO0.out)) hg hat); have n1_ := Aside0.mk (Kd.V_afterv (Kd.V_apart_nil (by (with_reducible repeat (first | apply Kd.V_alloc | apply Kd.V_drewN | apply Kd.V_drew)); exact HO163.out)) hg hat); have n2_ := Aside0.mk (Kd.N_afterv (Kd.N_apart_nil (by (with_reducible repeat (first | apply Kd.N_alloc | apply Kd.N_drewN | apply Kd.N_drew)); exact HO166.out)) hg hat); have n3_ := Aside0.mk (Kd.V_afterv (Kd.V_apart_nil (by (with_reducible repeat (first | apply Kd.V_alloc | apply Kd.V_drewN | apply Kd.V_drew)); exact HO172.out)) hg hat); have n4_ := Aside0.mk (hb); have n5_ := Aside0.mk (ho); clear HO0; clear HO163; clear HO166; clear HO172; clear HB; have HO0 := n0_; have HO163 := n1_; have HO166 := n2_; have HO172 := n3_; have HB := n4_; have HO175 := n5_; clear n0_ n1_ n2_ n3_ n4_ n5_; clear ho hb hg hat))
      go_ret2
      exact ⟨_, by first | rfl | (simp [errW_none, errW_some] <;> rfl) | (simp only [← hji4]; first | rfl | (simp [errW_none, errW_some] <;> rfl)) | (simp [*, errW_none, errW_some] <;> rfl), by (with_reducible repeat (first | apply Kd.R_alloc | apply Kd.R_drewN | apply Kd.R_drew)); exact HO175.out, bH HB⟩
     ·rw [if_neg c17] at H
      exact absurd H (by simp)
    ·rw [if_neg c14] at H
     have c14b0 : (((t157) % 4294967296) == t167) = false := beq_eq_false_iff_ne.mpr c14
     have c14b1 : (((t157) % 4294967296) != t167) = true := bne_iff_ne.mpr c14
     (first | rw [c14b0] | (simp only [i64_w, i32_w]; rw [c14b0]) | skip)
     simp only [Option.some.injEq, Prod.mk.injEq] at H
     obtain ⟨rfl, rfl⟩ := H
     go_wp2
     go_ret2
     exact ⟨_, by first | rfl | (simp [errW_none, errW_some] <;> rfl) | (simp only [← hji4]; first | rfl | (simp [errW_none, errW_some] <;> rfl)) | (simp [*, errW_none, errW_some] <;> rfl), by first | exact Kd.R_nil _ _ _ _ _ | exact Kd.N_nil _ _ _ _ _ | exact Kd.V_nil _ _ _ _ _ | exact Kd.Q_nil _ _ _ _ _ | exact Kd.S_nil _ _ _ _ _, bH HB⟩
   ·rw [if_neg c6] at H
    exact absurd H (by simp)
  ·rw [if_neg c5] at H
   exact absurd H (by simp)

end Go.Proofs.Ytimdikfllbbdoaa.P
