/- Written for this claim by a program of this session (a turned copy of the print): Go functions as Lean functions, and that the Go code comes to just these answers; or a statement proved out of them. No condition. The checksum's register, in words of bits. No condition. The document's checksum, bit by bit: the same register. No condition. The document's checksum comes to the program's. No condition. -/
import Derived.Test.YtglmfnaofpbpfaaZ2
import Derived.Test.YtglmfnaofpbpfaaZ9
import Derived.Test.YtglmfnaofpbpfaaZ10
import Derived.Test.YtglmfnaofpbpfaaZ8

namespace Go.Proofs.Ytglmfnaofpbpfaa.P
open Go.RowKit Go.Proofs.YtglmfnaofpbpfaaW.PrintWords Go.Proofs.YtglmfnaofpbpfaaW.PrintLast Go.Proofs.YtglmfnaofpbpfaaW.PrintMore Go.Proofs.Ytglmfnaofpbpfaa.X
attribute [local go_sem] max2_int min2_int max_two min_two max_three min_three max_four min_four   -- for this text's walks alone
set_option linter.unusedVariables false
set_option linter.unusedSimpArgs false

/-! ### lapidaryref02_Seal: function 36 -/
def lapidaryref02_Seal.f (k : Nat) (l0 : List Int) : Option (List Int) := (lapidaryref02_Of.f k l0).bind fun t177 => ((lapidaryref00_Copy.f l0).bind fun t178 => ((some (([(Int.tmod t177 256) % 256, ((Int.tdiv t177 256) % 4294967296) % 256, ((Int.tdiv t177 65536) % 4294967296) % 256, ((Int.tdiv t177 16777216) % 4294967296) % 256] : List Int) : List Int)).bind fun y181 => (if t178.length + y181.length < 140737488355328 then (some (t178 ++ y181)) else (none))))
theorem lapidaryref02_Seal.mono : ∀ a0 k, LeO (lapidaryref02_Seal.f k a0) (lapidaryref02_Seal.f (k + 1) a0) := by
 intro a0 k
 unfold lapidaryref02_Seal.f
 repeat' first
   | (with_reducible exact lapidaryref02_Of.mono _ _)
   | (with_reducible exact LeO.refl _)
   | (with_reducible exact LeO.none _)
   | (with_reducible refine LeO.ite ?_ ?_)
   | (with_reducible refine LeO.bind ?_ (fun _ => ?_))
   | exact lapidaryref02_Of.mono _ _
   | exact LeO.none _
   | refine LeO.ite ?_ ?_
   | refine LeO.bind ?_ (fun _ => ?_)
set_option maxHeartbeats 8000000 in
set_option maxRecDepth 100000 in
theorem lapidaryref02_Seal.calls (k : Nat) (A0 : Option Addr) (c0 : Nat) (l0 : List Int) (r : List Int) (w : World) (hr0 : Kd.C (Kd.int .u8) w A0 l0.length l0) (hc0 : l0.length ≤ c0) (h : lapidaryref02_Seal.f k l0 = some r) :
  Calls Try.prog 36 #[.slice A0 l0.length c0] w fun e w' => ∃ v0_ : Value, e = .returned (v0_) ∧ Kd.R (Kd.int .u8) 5 w' w.heap.size (fun _ => True) v0_ r ∧ Below w.heap.size w w' := by
 have HR0 := Aside0.mk hr0
 have HC0 := Aside0.mk hc0
 clear hr0 hc0
 have HB := Aside0.mk (Below.refl w.heap.size w)
 have H : ((lapidaryref02_Of.f k l0).bind fun t177 => ((lapidaryref00_Copy.f l0).bind fun t178 => ((some (([(Int.tmod t177 256) % 256, ((Int.tdiv t177 256) % 4294967296) % 256, ((Int.tdiv t177 65536) % 4294967296) % 256, ((Int.tdiv t177 16777216) % 4294967296) % 256] : List Int) : List Int)).bind fun y181 => (if t178.length + y181.length < 140737488355328 then (some (t178 ++ y181)) else (none))))) = some r := h
 clear h
 replace H := Option.bind_eq_some_iff.mp H
 obtain ⟨t177, A20, H⟩ := H
 replace H : ((lapidaryref00_Copy.f l0).bind fun t178 => ((some (([(Int.tmod t177 256) % 256, ((Int.tdiv t177 256) % 4294967296) % 256, ((Int.tdiv t177 65536) % 4294967296) % 256, ((Int.tdiv t177 16777216) % 4294967296) % 256] : List Int) : List Int)).bind fun y181 => (if t178.length + y181.length < 140737488355328 then (some (t178 ++ y181)) else (none)))) = some r := H
 have A2 := Aside0.mk A20
 clear A20
 replace H := Option.bind_eq_some_iff.mp H
 obtain ⟨t178, A30, H⟩ := H
 replace H : ((some (([(Int.tmod t177 256) % 256, ((Int.tdiv t177 256) % 4294967296) % 256, ((Int.tdiv t177 65536) % 4294967296) % 256, ((Int.tdiv t177 16777216) % 4294967296) % 256] : List Int) : List Int)).bind fun y181 => (if t178.length + y181.length < 140737488355328 then (some (t178 ++ y181)) else (none))) = some r := H
 have A3 := Aside0.mk A30
 clear A30
 obtain ⟨y181, hy181⟩ : ∃ y_ : List Int, y_ = (([(Int.tmod t177 256) % 256, ((Int.tdiv t177 256) % 4294967296) % 256, ((Int.tdiv t177 65536) % 4294967296) % 256, ((Int.tdiv t177 16777216) % 4294967296) % 256] : List Int)) := ⟨_, rfl⟩
 replace H : (if t178.length + y181.length < 140737488355328 then (some (t178 ++ y181)) else (none)) = some r := by first | (rw [hy181]; with_reducible exact H) | (have H2_ := (Option.bind_some _ _).symm.trans H; rw [hy181]; with_reducible exact H2_) | (have H2_ := (Option.bind_some _ _).symm.trans H; with_reducible exact H2_) | with_reducible exact H | (rw [hy181]; exact H) | exact H
 have Ny181 := Aside0.mk hy181
 clear hy181
 by_cases c4 : t178.length + y181.length < 140737488355328
 ·rw [if_pos c4] at H
  have LMc4 := Aside0.mk c4
  clear c4
  obtain ⟨y184, hy184⟩ : ∃ y_ : List Int, y_ = (t178 ++ y181) := ⟨_, rfl⟩
  replace H : (some y184) = some r := by first | (rw [hy184]; with_reducible exact H) | (have H2_ := (Option.bind_some _ _).symm.trans H; rw [hy184]; with_reducible exact H2_) | (have H2_ := (Option.bind_some _ _).symm.trans H; with_reducible exact H2_) | with_reducible exact H | (rw [hy184]; exact H) | exact H
  have Ny184 := Aside0.mk hy184
  clear hy184
  obtain rfl := Option.some.inj H
  go_enter Try.func36, Try.ntmps36
  go_wp2_with (first | ((with_reducible refine gate_callee (f := 41) rfl ?_); refine goesL_ (some 6) rfl rfl Try.func41 (by kernel_rfl) rfl #[.slice A0 l0.length c0] rfl (by (try simp only [List.map_toArray, List.map_cons, List.map_nil]); first | done | rfl | (simp only [List.length_drop, List.length_take]; rfl)) ?_; (with_reducible refine (lapidaryref02_Of.calls k _ _ l0 t177 _ ?side1 ?side2 A2.out).mono ?_); (case side1 => repeat (first | exact HR0.out | (with_reducible refine Kd.C_alloc ?_ _) | (with_reducible refine Kd.C_drewN ?_ _) | (with_reducible refine Kd.C_drew ?_))); (case side2 => exact HC0.out); rintro e w5 ⟨rfl, hb⟩; refine ⟨_, rfl, ?_⟩; have n0_ := Aside0.mk (below_step (bH HB) hb); clear HB; have HB := n0_; clear n0_; (try clear hb); (try clear hb2); (try clear hk); (try clear hi)) | ((with_reducible refine gate_callee (f := 31) rfl ?_); refine goesL_ (some 8) rfl rfl Try.func31 (by kernel_rfl) rfl #[.slice A0 l0.length c0] rfl (by (try simp only [List.map_toArray, List.map_cons, List.map_nil]); first | done | rfl | (simp only [List.length_drop, List.length_take]; rfl)) ?_; (with_reducible refine (lapidaryref00_Copy.calls _ _ l0 t178 _ ?side1 ?side2 A3.out).mono ?_); (case side1 => repeat (first | exact (Kd.C_below HR0.out HB.out) | (with_reducible refine Kd.C_alloc ?_ _) | (with_reducible refine Kd.C_drewN ?_ _) | (with_reducible refine Kd.C_drew ?_))); (case side2 => exact HC0.out); rintro e w6 ⟨v179, rfl, ho0, hb⟩; refine ⟨_, rfl, ?_⟩; have n0_ := Aside0.mk (Kd.R_lower ho0 (below_size (bH HB))); have n1_ := Aside0.mk (below_step (bH HB) hb); clear HB; have HO180 := n0_; have HB := n1_; clear n0_ n1_; (try clear hb); (try clear hb2); (try clear hk); (try clear hi); (try clear ho0)) | ((with_reducible refine gate_dst (N := 24) rfl ?_); refine Kd.R_lit (Kd.int .u8) _ 5 ?hg (N := 24) ?hd (xs := ([(Int.tmod t177 256) % 256, ((Int.tdiv t177 256) % 4294967296) % 256, ((Int.tdiv t177 65536) % 4294967296) % 256, ((Int.tdiv t177 16777216) % 4294967296) % 256] : List Int)) (inner := [.int .u8 ((Int.tmod t177 256) % 256), .int .u8 (((Int.tdiv t177 256) % 4294967296) % 256), .int .u8 (((Int.tdiv t177 65536) % 4294967296) % 256), .int .u8 (((Int.tdiv t177 16777216) % 4294967296) % 256)]) (ok := fun _ => True) (okp := fun _ => True) ?hr ?hp (fun _ hk => hk) trivial (Below.refl _ _) (Nat.le_refl _) (by simp) ?_; (case hd => rfl); (case hg => rfl); (case hr => first | (go_simp; done) | (go_simp; rfl)); (case hp => exact (Reps.one (show Kd.M (Kd.int .u8) _ _ _ ((Int.tmod t177 256) % 256) [.int .u8 ((Int.tmod t177 256) % 256)] from rfl) (Reps.one (show Kd.M (Kd.int .u8) _ _ _ (((Int.tdiv t177 256) % 4294967296) % 256) [.int .u8 (((Int.tdiv t177 256) % 4294967296) % 256)] from rfl) (Reps.one (show Kd.M (Kd.int .u8) _ _ _ (((Int.tdiv t177 65536) % 4294967296) % 256) [.int .u8 (((Int.tdiv t177 65536) % 4294967296) % 256)] from rfl) (Reps.one (show Kd.M (Kd.int .u8) _ _ _ (((Int.tdiv t177 16777216) % 4294967296) % 256) [.int .u8 (((Int.tdiv t177 16777216) % 4294967296) % 256)] from rfl) (Reps.none _ _)))))); intro v182 w7 ho8 hb hg_ hnew_; clear hg_ hnew_; (first | rw [← Ny181.out] at ho8 | (simp only [Int.reduceToNat] at ho8; rw [← Ny181.out] at ho8)); have n0_ := Aside0.mk (Kd.R_elder' (rK HO180) (Kd.R_base ho8) hb); have n1_ := Aside0.mk (Kd.R_lower (Kd.R_new' ho8 (Kd.R_lt (rK HO180))) (below_size (bH HB))); have n2_ := Aside0.mk (below_step (bH HB) hb); clear HO180; clear HB; have HO180 := n0_; have HO183 := n1_; have HB := n2_; clear n0_ n1_ n2_; clear hb ho8; obtain ⟨Ao10, co10, eo10⟩ := Kd.R_slice HO183.out; subst eo10) | ((with_reducible refine gate_builtin (b := .append) (xs := #[.tmp 9, .tmp 24]) rfl ?_); at_builtin; refine Kd.R_append_rows (Kd.int .u8) (w0 := w) w.heap.size rfl (.tmp 9) (.tmp 24) 22 5 (.int .u8 0) 1 rfl Try.underlying22 info5 rfl (by decide) (by omega) v179 t178 y181 _ _ _ (fun k_ => some k_ ≠ (.slice Ao10 y181.length co10 : Value).ownBlock) (fun _ => False) rfl rfl ?aO ?aR (fun _ _ h => h) (fun _ h => h.elim) ?aF ?aB ?aS ?aL ?_; (case aR => repeat (first | exact (Kd.R_reads' HO183.out).2.2 | (with_reducible refine Kd.C_alloc ?_ _) | (with_reducible refine Kd.C_drewN ?_ _) | (with_reducible refine Kd.C_drew ?_))); (case aB => exact (bH HB)); (case aF => exact (fun k_ hk => Kd.fresh' (Kd.R_lt (rK HO183)) k_ hk)); (case aO => exact (by (with_reducible repeat (first | apply Kd.R_alloc | apply Kd.R_drewN | apply Kd.R_drew)); exact Kd.R_mono HO180.out (fun _ hk => hk.2))); (case aS => exact (below_size (bH HB))); (case aL => have := LMc4.out; omega); intro v185 w9 ho hb hg hat; rw [← Ny184.out] at ho; have n0_ := Aside0.mk (Kd.R_after (ok := (fun _ => True)) (rK HO183) hg hat); have n1_ := Aside0.mk (hb); have n2_ := Aside0.mk (ho); clear HO183; clear HB; clear HO180; have HO183 := n0_; have HB := n1_; have HO186 := n2_; clear n0_ n1_ n2_; clear ho hb hg hat))
  go_ret
  exact ⟨_, by first | rfl | (simp [errW_none, errW_some] <;> rfl) | (simp [*, errW_none, errW_some] <;> rfl), by (with_reducible repeat (first | apply Kd.R_alloc | apply Kd.R_drewN | apply Kd.R_drew)); exact Kd.R_mono HO186.out (fun _ hk => trivial), bH HB⟩
 ·rw [if_neg c4] at H
  exact absurd H (by simp)

end Go.Proofs.Ytglmfnaofpbpfaa.P

namespace Go.Proofs.Ytglmfnaofpbpfaa.P
open Go.RowKit Go.Proofs.YtglmfnaofpbpfaaW.PrintWords Go.Proofs.YtglmfnaofpbpfaaW.PrintLast Go.Proofs.YtglmfnaofpbpfaaW.PrintMore Go.Proofs.Ytglmfnaofpbpfaa.X
attribute [local go_sem] max2_int min2_int max_two min_two max_three min_three max_four min_four   -- for this text's walks alone
set_option linter.unusedVariables false
set_option linter.unusedSimpArgs false

/-! ### lapidaryref02_Check: function 30 -/
def lapidaryref02_Check.f (k : Nat) (l0 : List Int) : Option (List Int × Int) := if (l0.length : Int) < 4 then (some (([] : List Int), 10)) else (if 0 ≤ (wrap64 ((l0.length : Int) - 4)) then (if (wrap64 ((l0.length : Int) - 4)) ≤ (l0.length : Int) then ((lapidaryref02_Seal.f k (l0.take ((wrap64 ((l0.length : Int) - 4)) : Int).toNat)).bind fun t188 => ((lapidaryref00_Same.f t188 l0).bind fun t191 => (if t191 = true then ((lapidaryref00_Copy.f (l0.take ((wrap64 ((l0.length : Int) - 4)) : Int).toNat)).bind fun t193 => (some (t193, 0))) else (some (([] : List Int), 30))))) else (none)) else (none))
theorem lapidaryref02_Check.mono : ∀ a0 k, LeO (lapidaryref02_Check.f k a0) (lapidaryref02_Check.f (k + 1) a0) := by
 intro a0 k
 unfold lapidaryref02_Check.f
 repeat' first
   | (with_reducible exact lapidaryref02_Seal.mono _ _)
   | (with_reducible exact LeO.refl _)
   | (with_reducible exact LeO.none _)
   | (with_reducible refine LeO.ite ?_ ?_)
   | (with_reducible refine LeO.bind ?_ (fun _ => ?_))
   | exact lapidaryref02_Seal.mono _ _
   | exact LeO.none _
   | refine LeO.ite ?_ ?_
   | refine LeO.bind ?_ (fun _ => ?_)
set_option maxHeartbeats 8000000 in
set_option maxRecDepth 100000 in
theorem lapidaryref02_Check.calls (k : Nat) (A0 : Option Addr) (c0 : Nat) (l0 : List Int) (r1 : List Int) (r2 : Int) (w : World) (hr0 : Kd.C (Kd.int .u8) w A0 l0.length l0) (hc0 : l0.length ≤ c0) (h : lapidaryref02_Check.f k l0 = some (r1, r2)) :
  Calls Try.prog 30 #[.slice A0 l0.length c0] w fun e w' => ∃ v0_ : Value, e = .returned (.tuple #[v0_, .int .i64 r2]) ∧ Kd.R (Kd.int .u8) 5 w' w.heap.size (fun _ => True) v0_ r1 ∧ Below w.heap.size w w' := by
 have HR0 := Aside0.mk hr0
 have HC0 := Aside0.mk hc0
 clear hr0 hc0
 have HB := Aside0.mk (Below.refl w.heap.size w)
 have H : (if (l0.length : Int) < 4 then (some (([] : List Int), 10)) else (if 0 ≤ (wrap64 ((l0.length : Int) - 4)) then (if (wrap64 ((l0.length : Int) - 4)) ≤ (l0.length : Int) then ((lapidaryref02_Seal.f k (l0.take ((wrap64 ((l0.length : Int) - 4)) : Int).toNat)).bind fun t188 => ((lapidaryref00_Same.f t188 l0).bind fun t191 => (if t191 = true then ((lapidaryref00_Copy.f (l0.take ((wrap64 ((l0.length : Int) - 4)) : Int).toNat)).bind fun t193 => (some (t193, 0))) else (some (([] : List Int), 30))))) else (none)) else (none))) = some (r1, r2) := h
 clear h
 by_cases c2 : (l0.length : Int) < 4
 ·rw [if_pos c2] at H
  have c2b0 : decide ((l0.length : Int) < 4) = true := decide_eq_true c2
  have c2b1 : decide (l0.length < 4) = true := decide_eq_true (by omega)
  clear c2
  simp only [Option.some.injEq, Prod.mk.injEq] at H
  obtain ⟨rfl, rfl⟩ := H
  go_enter Try.func30, Try.ntmps30
  go_wp2
  go_ret2
  exact ⟨_, by first | rfl | (simp [errW_none, errW_some] <;> rfl) | (simp [*, errW_none, errW_some] <;> rfl), by first | exact Kd.R_nil _ _ _ _ _ | exact Kd.N_nil _ _ _ _ _ | exact Kd.V_nil _ _ _ _ _ | exact Kd.Q_nil _ _ _ _ _ | exact Kd.S_nil _ _ _ _ _, bH HB⟩
 ·rw [if_neg c2] at H
  have c2b0 : decide ((l0.length : Int) < 4) = false := decide_eq_false c2
  have c2b1 : decide (l0.length < 4) = false := decide_eq_false (by omega)
  clear c2
  obtain ⟨ji3, hji3⟩ : ∃ j_ : Int, (wrap64 ((l0.length : Int) - 4)) = j_ := ⟨_, rfl⟩
  replace H : (if 0 ≤ (ji3) then (if (ji3) ≤ (l0.length : Int) then ((lapidaryref02_Seal.f k (l0.take ((ji3) : Int).toNat)).bind fun t188 => ((lapidaryref00_Same.f t188 l0).bind fun t191 => (if t191 = true then ((lapidaryref00_Copy.f (l0.take ((ji3) : Int).toNat)).bind fun t193 => (some (t193, 0))) else (some (([] : List Int), 30))))) else (none)) else (none)) = some (r1, r2) := by first | (rw [hji3] at H; exact H) | (simp only [hji3] at H ⊢; exact H)
  have hji3w : (IntKind.i64.wrap ((l0.length : Int) - 4)) = ji3 := (i64_w _).trans hji3
  by_cases c4 : 0 ≤ (ji3)
  ·rw [if_pos c4] at H
   have c4b0 := eq_true c4
   have c4b1 : decide (0 ≤ (ji3)) = true := decide_eq_true c4
   clear c4
   by_cases c5 : (ji3) ≤ (l0.length : Int)
   ·rw [if_pos c5] at H
    have c5b0 := eq_true c5
    have c5b1 : decide ((ji3) ≤ (l0.length : Int)) = true := decide_eq_true c5
    clear c5
    replace H := Option.bind_eq_some_iff.mp H
    obtain ⟨t188, A60, H⟩ := H
    replace H : ((lapidaryref00_Same.f t188 l0).bind fun t191 => (if t191 = true then ((lapidaryref00_Copy.f (l0.take ((ji3) : Int).toNat)).bind fun t193 => (some (t193, 0))) else (some (([] : List Int), 30)))) = some (r1, r2) := H
    have A6 := Aside0.mk A60
    clear A60
    replace H := Option.bind_eq_some_iff.mp H
    obtain ⟨t191, A70, H⟩ := H
    replace H : (if t191 = true then ((lapidaryref00_Copy.f (l0.take ((ji3) : Int).toNat)).bind fun t193 => (some (t193, 0))) else (some (([] : List Int), 30))) = some (r1, r2) := H
    have A7 := Aside0.mk A70
    clear A70
    have HC8 := Aside0.mk H
    clear H
    obtain ⟨i09, hi09, _, hsz9, _⟩ := info_parts info5
    obtain ⟨hcut9, hA9, hC9⟩ := print_take_of (P := Try.prog) (Value.int .u8) 0 22 5 .i64 Try.underlying22 hi09 hsz9 A0 c0 l0 (ji3) (of_decide_eq_true (by first | (with_reducible assumption) | assumption)) (of_decide_eq_true (by first | (with_reducible assumption) | assumption)) HC0.out
    have HR187 := Aside0.mk (Kd.C_of_reads (h1 := fun _ => rfl) (hA9 _ (Kd.reads_of_C HR0.out)))
    have HC187 := Aside0.mk hC9
    clear hA9 hC9 hi09 hsz9
    go_enter Try.func30, Try.ntmps30
    go_upto_if 15 with (first | ((with_reducible refine gate_callee (f := 36) rfl ?_); refine goesL_ (some 12) rfl rfl Try.func36 (by kernel_rfl) rfl #[.slice A0 (l0.take ((ji3) : Int).toNat).length c0] rfl (by (try simp only [List.map_toArray, List.map_cons, List.map_nil]); first | done | (rw [show (l0.take ((ji3) : Int).toNat).length = (ji3).toNat from (by rw [List.length_take]; have h_ : ((ji3) : Int) ≤ (l0.length : Int) := of_decide_eq_true (by first | (with_reducible assumption) | assumption); omega)] <;> rfl) | (simp only [hji3]; rfl) | rfl | (simp only [List.length_drop, List.length_take]; rfl)) ?_; (with_reducible refine (lapidaryref02_Seal.calls k _ _ (l0.take ((ji3) : Int).toNat) t188 _ ?side1 ?side2 A6.out).mono ?_); (case side1 => repeat (first | exact HR187.out | (with_reducible refine Kd.C_alloc ?_ _) | (with_reducible refine Kd.C_drewN ?_ _) | (with_reducible refine Kd.C_drew ?_))); (case side2 => exact HC187.out); rintro e w10 ⟨v189, rfl, ho0, hb⟩; refine ⟨_, rfl, ?_⟩; have n0_ := Aside0.mk (Kd.R_lower ho0 (below_size (bH HB))); have n1_ := Aside0.mk (below_step (bH HB) hb); clear HB; have HO190 := n0_; have HB := n1_; clear n0_ n1_; (try clear hb); (try clear hb2); (try clear hk); (try clear hi); (try clear ho0); obtain ⟨Ao11, co11, eo11⟩ := Kd.R_slice HO190.out; subst eo11) | ((with_reducible refine gate_callee (f := 23) rfl ?_); refine goesL_ (some 14) rfl rfl Try.func23 (by kernel_rfl) rfl #[.slice Ao11 t188.length co11, .slice A0 l0.length c0] rfl (by (try simp only [List.map_toArray, List.map_cons, List.map_nil]); first | done | rfl | (simp only [List.length_drop, List.length_take]; rfl)) ?_; (with_reducible refine (lapidaryref00_Same.calls _ _ t188 _ _ l0 t191 _ ?side1 ?side2 ?side3 ?side4 A7.out).mono ?_); (case side1 => repeat (first | exact (Kd.R_reads' HO190.out).2.2 | (with_reducible refine Kd.C_alloc ?_ _) | (with_reducible refine Kd.C_drewN ?_ _) | (with_reducible refine Kd.C_drew ?_))); (case side2 => exact (Kd.R_reads' HO190.out).2.1); (case side3 => repeat (first | exact (Kd.C_below HR0.out HB.out) | (with_reducible refine Kd.C_alloc ?_ _) | (with_reducible refine Kd.C_drewN ?_ _) | (with_reducible refine Kd.C_drew ?_))); (case side4 => exact HC0.out); rintro e w' ⟨rfl, ⟨nd, rfl⟩⟩; refine ⟨_, rfl, ?_⟩))
    (try simp only [Act.put, List.setIfInBounds_toArray, List.set_cons_zero, List.set_cons_succ])
    have H := HC8.out
    clear HC8
    by_cases c12 : t191 = true
    ·subst c12
     have H1 : ((lapidaryref00_Copy.f (l0.take ((ji3) : Int).toNat)).bind fun t193 => (some (t193, 0))) = some (r1, r2) := by rw [if_pos rfl] at H; exact H
     clear H
     have H := H1
     clear H1
     have c13b0 := eq_true (of_decide_eq_true (by first | (with_reducible assumption) | assumption) : 0 ≤ (ji3))
     have c14b0 := eq_true (of_decide_eq_true (by first | (with_reducible assumption) | assumption) : (ji3) ≤ (l0.length : Int))
     replace H := Option.bind_eq_some_iff.mp H
     obtain ⟨t193, A150, H⟩ := H
     replace H : (some (t193, 0)) = some (r1, r2) := H
     have A15 := Aside0.mk A150
     clear A150
     simp only [Option.some.injEq, Prod.mk.injEq] at H
     obtain ⟨rfl, rfl⟩ := H
     obtain ⟨i016, hi016, _, hsz16, _⟩ := info_parts info5
     obtain ⟨hcut16, hA16, hC16⟩ := print_take_of (P := Try.prog) (Value.int .u8) 0 22 5 .i64 Try.underlying22 hi016 hsz16 A0 c0 l0 (ji3) (of_decide_eq_true (by first | (with_reducible assumption) | assumption)) (of_decide_eq_true (by first | (with_reducible assumption) | assumption)) HC0.out
     have HR192 := Aside0.mk (Kd.C_of_reads (h1 := fun _ => rfl) (hA16 _ (Kd.reads_of_C HR0.out)))
     have HC192 := Aside0.mk hC16
     clear hA16 hC16 hi016 hsz16
     go_wp2_with (first | ((with_reducible refine gate_callee (f := 31) rfl ?_); refine goesL_ (some 21) rfl rfl Try.func31 (by kernel_rfl) rfl #[.slice A0 (l0.take ((ji3) : Int).toNat).length c0] rfl (by (try simp only [List.map_toArray, List.map_cons, List.map_nil]); first | done | (rw [show (l0.take ((ji3) : Int).toNat).length = (ji3).toNat from (by rw [List.length_take]; have h_ : ((ji3) : Int) ≤ (l0.length : Int) := of_decide_eq_true (by first | (with_reducible assumption) | assumption); omega)] <;> rfl) | (simp only [hji3]; rfl) | rfl | (simp only [List.length_drop, List.length_take]; rfl)) ?_; (with_reducible refine (lapidaryref00_Copy.calls _ _ (l0.take ((ji3) : Int).toNat) t193 _ ?side1 ?side2 A15.out).mono ?_); (case side1 => repeat (first | exact (Kd.C_below HR192.out HB.out) | (with_reducible refine Kd.C_alloc ?_ _) | (with_reducible refine Kd.C_drewN ?_ _) | (with_reducible refine Kd.C_drew ?_))); (case side2 => exact HC192.out); rintro e w17 ⟨v194, rfl, ho0, hb⟩; refine ⟨_, rfl, ?_⟩; have n0_ := Aside0.mk (Kd.R_elder' (rK HO190) (Kd.R_base ho0) hb); have n1_ := Aside0.mk (Kd.R_lower (Kd.R_new' ho0 (Kd.R_lt (rK HO190))) (below_size (bH HB))); have n2_ := Aside0.mk (below_step (bH HB) hb); clear HO190; clear HB; have HO190 := n0_; have HO195 := n1_; have HB := n2_; clear n0_ n1_ n2_; (try clear hb); (try clear hb2); (try clear hk); (try clear hi); (try clear ho0)))
     go_ret2
     exact ⟨_, by first | rfl | (simp [errW_none, errW_some] <;> rfl) | (simp only [← hji3]; first | rfl | (simp [errW_none, errW_some] <;> rfl)) | (simp [*, errW_none, errW_some] <;> rfl), by (with_reducible repeat (first | apply Kd.R_alloc | apply Kd.R_drewN | apply Kd.R_drew)); exact Kd.R_mono HO195.out (fun _ hk => trivial), bH HB⟩
    ·replace c12 := Bool.eq_false_iff.mpr c12
     subst c12
     have H1 : (some (([] : List Int), 30)) = some (r1, r2) := by rw [if_neg (show ¬ (false = true) by decide)] at H; exact H
     clear H
     have H := H1
     clear H1
     simp only [Option.some.injEq, Prod.mk.injEq] at H
     obtain ⟨rfl, rfl⟩ := H
     go_wp2
     go_ret2
     exact ⟨_, by first | rfl | (simp [errW_none, errW_some] <;> rfl) | (simp only [← hji3]; first | rfl | (simp [errW_none, errW_some] <;> rfl)) | (simp [*, errW_none, errW_some] <;> rfl), by first | exact Kd.R_nil _ _ _ _ _ | exact Kd.N_nil _ _ _ _ _ | exact Kd.V_nil _ _ _ _ _ | exact Kd.Q_nil _ _ _ _ _ | exact Kd.S_nil _ _ _ _ _, bH HB⟩
   ·rw [if_neg c5] at H
    exact absurd H (by simp)
  ·rw [if_neg c4] at H
   exact absurd H (by simp)

end Go.Proofs.Ytglmfnaofpbpfaa.P

namespace Go.Proofs.Ytglmfnaofpbpfaa.C
set_option linter.unusedVariables false
set_option linter.unusedSimpArgs false
open Go.RowKit

def poly : BitVec 32 := 0xEDB88320#32
def stepB (x : BitVec 32) : BitVec 32 := (x >>> 1) ^^^ (if x.getLsbD 0 then poly else 0#32)
def stepBn : Nat → BitVec 32 → BitVec 32
  | 0, x => x
  | n + 1, x => stepB (stepBn n x)
theorem stepB_xor (x y : BitVec 32) : stepB (x ^^^ y) = stepB x ^^^ stepB y := by
  unfold stepB
  rw [BitVec.getLsbD_xor, BitVec.ushiftRight_xor_distrib]
  apply BitVec.eq_of_getLsbD_eq
  intro i hi
  cases h1 : x.getLsbD 0 <;> cases h2 : y.getLsbD 0 <;> simp <;> cases (poly.getLsbD i) <;> simp
theorem stepBn_xor (n : Nat) (x y : BitVec 32) : stepBn n (x ^^^ y) = stepBn n x ^^^ stepBn n y := by
  induction n with
  | zero => rfl
  | succ n ih => unfold stepBn; rw [ih, stepB_xor]
theorem stepB_even (x : BitVec 32) (h : x.getLsbD 0 = false) : stepB x = x >>> 1 := by
  unfold stepB
  rw [h]
  simp
theorem stepBn_shift (x : BitVec 32) : ∀ k, (∀ j, j < k → x.getLsbD j = false) → stepBn k x = x >>> k := by
  intro k
  induction k with
  | zero => intro _; simp [stepBn]
  | succ k ih =>
    intro h
    unfold stepBn
    rw [ih (fun j hj => h j (by omega)), stepB_even _ (by rw [BitVec.getLsbD_ushiftRight]; exact h _ (by omega))]
    rw [BitVec.shiftRight_add]
theorem split8 (y : BitVec 32) : y = (y.setWidth 8).setWidth 32 ^^^ ((y >>> 8) <<< 8) := by
  apply BitVec.eq_of_getLsbD_eq
  intro i hi
  rw [BitVec.getLsbD_xor, BitVec.getLsbD_setWidth, BitVec.getLsbD_setWidth, BitVec.getLsbD_shiftLeft, BitVec.getLsbD_ushiftRight]
  by_cases h : i < 8
  · simp [h, hi]
  · simp [h, hi, show 8 + (i - 8) = i by omega]
theorem stepBn_8 (y : BitVec 32) : stepBn 8 y = (y >>> 8) ^^^ stepBn 8 ((y.setWidth 8).setWidth 32) := by
  conv => lhs; rw [split8 y, stepBn_xor]
  rw [stepBn_shift ((y >>> 8) <<< 8) 8 (fun j hj => by simp [hj]), BitVec.xor_comm]
  congr 1
  apply BitVec.eq_of_getLsbD_eq
  intro i hi
  simp
  intro h
  have : (y.getLsbD (8 + i)) = true → 8 + i < 32 := BitVec.lt_of_getLsbD
  have := this h
  omega
theorem ofInt_toNat (n : Nat) (x : BitVec n) : BitVec.ofInt n (x.toNat : Int) = x := by
  rw [BitVec.ofInt_natCast, BitVec.ofNat_toNat]; simp
theorem bits_xor32 (x y : BitVec 32) : Go.bits .xor .u32 (x.toNat : Int) (y.toNat : Int) = ((x ^^^ y).toNat : Int) := by
  unfold Go.bits
  show IntKind.u32.wrap (((BitVec.ofInt 32 (x.toNat : Int)) ^^^ (BitVec.ofInt 32 (y.toNat : Int))).toNat : Int) = _
  rw [ofInt_toNat, ofInt_toNat]
  have := (x ^^^ y).isLt
  show ((x ^^^ y).toNat : Int) % 4294967296 = _
  omega
theorem bits_and32 (x y : BitVec 32) : Go.bits .and .u32 (x.toNat : Int) (y.toNat : Int) = ((x &&& y).toNat : Int) := by
  unfold Go.bits
  show IntKind.u32.wrap (((BitVec.ofInt 32 (x.toNat : Int)) &&& (BitVec.ofInt 32 (y.toNat : Int))).toNat : Int) = _
  rw [ofInt_toNat, ofInt_toNat]
  have := (x &&& y).isLt
  show ((x &&& y).toNat : Int) % 4294967296 = _
  omega
theorem bits_xor8 (x y : BitVec 8) : Go.bits .xor .u8 (x.toNat : Int) (y.toNat : Int) = ((x ^^^ y).toNat : Int) := by
  unfold Go.bits
  show IntKind.u8.wrap (((BitVec.ofInt 8 (x.toNat : Int)) ^^^ (BitVec.ofInt 8 (y.toNat : Int))).toNat : Int) = _
  rw [ofInt_toNat, ofInt_toNat]
  have := (x ^^^ y).isLt
  show ((x ^^^ y).toNat : Int) % 256 = _
  omega
theorem and_one (x : BitVec 32) : poly &&& -(x &&& 1#32) = if x.getLsbD 0 then poly else 0#32 := by
  rw [BitVec.and_one_eq_setWidth_ofBool_getLsbD]
  cases x.getLsbD 0
  · decide
  · decide
theorem step_eq (x : BitVec 32) : step (x.toNat : Int) = ((stepB x).toNat : Int) := by
  unfold step stepB
  rw [← and_one]
  have h1 : Go.bits .and .u32 (x.toNat : Int) 1 = ((x &&& 1#32).toNat : Int) := bits_and32 x 1#32
  have h2 : (-((x &&& 1#32).toNat : Int)) % 4294967296 = ((-(x &&& 1#32)).toNat : Int) := by
    rw [BitVec.toNat_neg]
    have := (x &&& 1#32).isLt
    omega
  have h3 : Go.bits .and .u32 3988292384 ((-(x &&& 1#32)).toNat : Int) = ((poly &&& -(x &&& 1#32)).toNat : Int) := bits_and32 poly _
  have h4 : (x.toNat : Int) / (2 : Int) = ((x >>> 1).toNat : Int) := by
    rw [BitVec.toNat_ushiftRight, Nat.shiftRight_eq_div_pow]; omega
  rw [h1, h2, h3, h4, bits_xor32]
theorem stepN_eq (x : BitVec 32) : ∀ n, stepN n (x.toNat : Int) = ((stepBn n x).toNat : Int) := by
  intro n
  induction n with
  | zero => rfl
  | succ n ih => unfold stepN stepBn; rw [ih, step_eq]
def cB (c : Int) : BitVec 32 := BitVec.ofNat 32 c.toNat
theorem add1_eq (x : BitVec 32) (c : Int) (h0 : 0 ≤ c) (h1 : c ≤ 255) : add1 (x.toNat : Int) c = ((stepBn 8 (x ^^^ cB c)).toNat : Int) := by
  obtain ⟨d, rfl⟩ := Int.eq_ofNat_of_zero_le h0
  have hd : (d : Int) = ((BitVec.ofNat 8 d).toNat : Int) := by
    rw [BitVec.toNat_ofNat]; omega
  unfold add1 idx
  have e1 : IntKind.u8.wrap (x.toNat : Int) = ((x.setWidth 8).toNat : Int) := by
    rw [BitVec.toNat_setWidth]
    show (x.toNat : Int) % 256 = _
    omega
  rw [e1]
  have e2 : Go.bits .xor .u8 ((x.setWidth 8).toNat : Int) (d : Int) = ((x.setWidth 8 ^^^ BitVec.ofNat 8 d).toNat : Int) := by
    conv => lhs; rw [hd]
    exact bits_xor8 _ _
  rw [e2]
  have e3 : tabV (((x.setWidth 8 ^^^ BitVec.ofNat 8 d).toNat : Int).toNat) = ((stepBn 8 ((x.setWidth 8 ^^^ BitVec.ofNat 8 d).setWidth 32)).toNat : Int) := by
    unfold tabV
    rw [Int.toNat_natCast, ← stepN_eq]
    have h : ((x.setWidth 8 ^^^ BitVec.ofNat 8 d).setWidth 32).toNat = (x.setWidth 8 ^^^ BitVec.ofNat 8 d).toNat := by
      rw [BitVec.toNat_setWidth]
      have := (x.setWidth 8 ^^^ BitVec.ofNat 8 d).isLt
      exact Nat.mod_eq_of_lt (by omega)
    rw [h]
  have e4 : (x.toNat : Int) / (256 : Int) = ((x >>> 8).toNat : Int) := by
    rw [BitVec.toNat_ushiftRight, Nat.shiftRight_eq_div_pow]; omega
  rw [e3, e4, bits_xor32, stepBn_8 (x ^^^ cB (d : Int))]
  have f1 : (x ^^^ cB (d : Int)) >>> 8 = x >>> 8 := by
    apply BitVec.eq_of_getLsbD_eq
    intro i hi
    unfold cB
    have hz : d.testBit (8 + i) = false := Nat.testBit_lt_two_pow (Nat.lt_of_lt_of_le (show d < 2 ^ 8 by omega) (Nat.pow_le_pow_right (by decide) (by omega)))
    simp [BitVec.getLsbD_ofNat, hz]
  have f2 : (x ^^^ cB (d : Int)).setWidth 8 = x.setWidth 8 ^^^ BitVec.ofNat 8 d := by
    apply BitVec.eq_of_getLsbD_eq
    intro i hi
    unfold cB
    simp [BitVec.getLsbD_ofNat, hi]
    (try (intro _; omega))
  rw [f1, f2]
def regP (l : List Int) (x : BitVec 32) : BitVec 32 := l.foldl (fun x c => stepBn 8 (x ^^^ cB c)) x
theorem addV_eq : ∀ (l : List Int) (x : BitVec 32), (∀ c ∈ l, 0 ≤ c ∧ c ≤ 255) → addV l (x.toNat : Int) = ((regP l x).toNat : Int) := by
  intro l
  induction l with
  | nil => intro x _; rfl
  | cons c l ih =>
    intro x h
    show addV l (add1 _ c) = _
    rw [add1_eq x c (h c (by simp)).1 (h c (by simp)).2]
    exact ih _ (fun y hy => h y (List.mem_cons_of_mem _ hy))
theorem not32_eq (x : BitVec 32) : not32 (x.toNat : Int) = ((~~~x).toNat : Int) := by
  unfold not32
  have h : IntKind.u32.max = ((BitVec.allOnes 32).toNat : Int) := by decide
  rw [h, bits_xor32, BitVec.allOnes_xor]
theorem ofV_one (l : List Int) (h : ∀ c ∈ l, 0 ≤ c ∧ c ≤ 255) : ofV [l] = ((~~~(regP l (BitVec.allOnes 32))).toNat : Int) := by
  show not32 (addV l 4294967295) = _
  have := addV_eq l (BitVec.allOnes 32) h
  rw [show ((BitVec.allOnes 32).toNat : Int) = 4294967295 by decide] at this
  rw [this, not32_eq]
end Go.Proofs.Ytglmfnaofpbpfaa.C

namespace Go.Proofs.Ytglmfnaofpbpfaa.C
set_option linter.unusedVariables false
set_option linter.unusedSimpArgs false
open Go.RowKit

/-- The raw byte, behind the end 0; with the first four turned; the bit at place p. -/
def cN (b : List Int) (i : Nat) : Nat := (b.getD i 0).toNat
def vN (b : List Int) (i : Nat) : Nat := if i < 4 then cN b i ^^^ 255 else cN b i
def ob (b : List Int) (p : Nat) : Bool := (vN b (p / 8)).testBit (p % 8)
def top (o : Bool) : BitVec 32 := if o then 0x80000000#32 else 0#32
def regRun (b : List Int) : Nat → Nat → BitVec 32 → BitVec 32
  | _, 0, x => x
  | i, n + 1, x => regRun b (i + 1) n (stepB x ^^^ top (ob b (i + 32)))
def nB (c : Nat) : BitVec 32 := BitVec.ofNat 32 c
theorem cN_lt (b : List Int) (h : ∀ c ∈ b, 0 ≤ c ∧ c ≤ 255) (i : Nat) : cN b i < 256 := by
  unfold cN
  rcases Nat.lt_or_ge i b.length with hi | hi
  · have := h _ (List.getElem_mem hi)
    simp only [List.getD, List.getElem?_eq_getElem hi, Option.getD_some]
    omega
  · simp [List.getD, List.getElem?_eq_none hi]
/-- What comes in at the top while n bits are taken. -/
def inj (b : List Int) (i : Nat) : Nat → BitVec 32
  | 0 => 0#32
  | n + 1 => stepB (inj b i n) ^^^ top (ob b (i + n + 32))
theorem regRun_add (b : List Int) : ∀ (m n i : Nat) (x : BitVec 32), regRun b i (m + n) x = regRun b (i + m) n (regRun b i m x) := by
  intro m
  induction m with
  | zero => intro n i x; simp [regRun]
  | succ m ih =>
    intro n i x
    rw [show m + 1 + n = (m + n) + 1 by omega]
    show regRun b (i + 1) (m + n) (stepB x ^^^ top (ob b (i + 32))) = regRun b (i + (m + 1)) n (regRun b (i + 1) m (stepB x ^^^ top (ob b (i + 32))))
    rw [ih n (i + 1), show i + 1 + m = i + (m + 1) by omega]
theorem regRun_snoc (b : List Int) (i n : Nat) (x : BitVec 32) : regRun b i (n + 1) x = stepB (regRun b i n x) ^^^ top (ob b (i + n + 32)) := by
  rw [regRun_add]; rfl
theorem regRun_inj (b : List Int) (i : Nat) (x : BitVec 32) : ∀ n, regRun b i n x = stepBn n x ^^^ inj b i n := by
  intro n
  induction n with
  | zero => simp [regRun, stepBn, inj]
  | succ n ih =>
    rw [regRun_snoc, ih]
    show _ = stepB (stepBn n x) ^^^ (stepB (inj b i n) ^^^ top (ob b (i + n + 32)))
    rw [stepB_xor, BitVec.xor_assoc]
theorem top_get (o : Bool) (p : Nat) (hp : p < 32) : (top o).getLsbD p = (decide (p = 31) && o) := by
  unfold top
  cases o
  · simp
  · have : ∀ q : Fin 32, (0x80000000#32).getLsbD q.val = decide (q.val = 31) := by decide
    simpa using this ⟨p, hp⟩
theorem inj_get (b : List Int) (i : Nat) : ∀ n, n ≤ 8 → ∀ p, p < 32 → (inj b i n).getLsbD p = (decide (32 ≤ p + n) && ob b (i + 32 + (p + n - 32))) := by
  intro n
  induction n with
  | zero =>
    intro _ p hp
    rw [decide_eq_false (show ¬ 32 ≤ p + 0 by omega)]
    simp [inj]
  | succ n ih =>
    intro hn p hp
    have I := ih (by omega)
    have h0 : (inj b i n).getLsbD 0 = false := by
      rw [I 0 (by omega), decide_eq_false (show ¬ 32 ≤ 0 + n by omega)]
      simp
    unfold inj
    rw [stepB_even _ h0, BitVec.getLsbD_xor, BitVec.getLsbD_ushiftRight, top_get _ p hp]
    by_cases h31 : p = 31
    · subst h31
      rw [BitVec.getLsbD_of_ge _ _ (by omega)]
      simp only [decide_true, Bool.true_and, Bool.false_xor]
      rw [decide_eq_true (show 32 ≤ 31 + (n + 1) by omega), Bool.true_and]
      congr 1; omega
    · rw [I (1 + p) (by omega), decide_eq_false h31]
      simp only [Bool.false_and, Bool.xor_false]
      rw [show 1 + p + n = p + (n + 1) by omega]
theorem nB_get (c p : Nat) (hp : p < 32) : (nB c).getLsbD p = c.testBit p := by
  unfold nB
  rw [BitVec.getLsbD_ofNat]
  simp [hp]
theorem small_bit {c : Nat} (h : c < 256) (p : Nat) (hp : 8 ≤ p) : c.testBit p = false :=
  Nat.testBit_lt_two_pow (Nat.lt_of_lt_of_le (show c < 2 ^ 8 from h) (Nat.pow_le_pow_right (by decide) hp))
theorem nB_down (c : Nat) (h : c < 256) (s : Nat) (hs : s + 8 ≤ 24) : ((nB c) <<< (s + 8)) >>> 8 = (nB c) <<< s := by
  apply BitVec.eq_of_getLsbD_eq
  intro p hp
  rw [BitVec.getLsbD_ushiftRight, BitVec.getLsbD_shiftLeft, BitVec.getLsbD_shiftLeft]
  by_cases h1 : p < s
  · rw [decide_eq_true (show 8 + p < s + 8 by omega), decide_eq_true h1]; simp
  · rw [decide_eq_false (show ¬ 8 + p < s + 8 by omega), decide_eq_false h1, show 8 + p - (s + 8) = p - s by omega]
    by_cases h2 : 8 + p < 32
    · simp [h2, hp]
    · rw [nB_get _ _ (by omega), small_bit h _ (by omega)]; simp
theorem inj_eight (b : List Int) (h : ∀ c ∈ b, 0 ≤ c ∧ c ≤ 255) (j : Nat) : inj b (8 * j) 8 = (nB (cN b (j + 4))) <<< 24 := by
  apply BitVec.eq_of_getLsbD_eq
  intro p hp
  rw [inj_get b (8 * j) 8 (by omega) p hp, BitVec.getLsbD_shiftLeft]
  by_cases h1 : p < 24
  · rw [decide_eq_false (show ¬ 32 ≤ p + 8 by omega), decide_eq_true h1]; simp
  · rw [decide_eq_true (show 32 ≤ p + 8 by omega), decide_eq_false h1, decide_eq_true hp, nB_get _ _ (by omega)]
    simp only [Bool.true_and, Bool.not_false]
    unfold ob vN
    rw [show (8 * j + 32 + (p + 8 - 32)) / 8 = j + 4 by omega, show (8 * j + 32 + (p + 8 - 32)) % 8 = p - 24 by omega, if_neg (by omega)]
def W (b : List Int) (j : Nat) : BitVec 32 := nB (cN b j) ^^^ (nB (cN b (j + 1)) <<< 8) ^^^ (nB (cN b (j + 2)) <<< 16) ^^^ (nB (cN b (j + 3)) <<< 24)
theorem shl_low (c s j : Nat) (h : j < s) : (nB c <<< s).getLsbD j = false := by
  rw [BitVec.getLsbD_shiftLeft, decide_eq_true h]; simp
theorem block_step (b : List Int) (h : ∀ c ∈ b, 0 ≤ c ∧ c ≤ 255) (j : Nat) (P : BitVec 32) : regRun b (8 * j) 8 (P ^^^ W b j) = stepBn 8 (P ^^^ nB (cN b j)) ^^^ W b (j + 1) := by
  have hlt := cN_lt b h
  rw [regRun_inj, inj_eight b h]
  unfold W
  have e : P ^^^ (nB (cN b j) ^^^ nB (cN b (j + 1)) <<< 8 ^^^ nB (cN b (j + 2)) <<< 16 ^^^ nB (cN b (j + 3)) <<< 24) = (P ^^^ nB (cN b j)) ^^^ (nB (cN b (j + 1)) <<< 8) ^^^ (nB (cN b (j + 2)) <<< 16) ^^^ (nB (cN b (j + 3)) <<< 24) := by
    simp only [BitVec.xor_assoc]
  rw [e, stepBn_xor, stepBn_xor, stepBn_xor]
  rw [stepBn_shift (nB (cN b (j + 1)) <<< 8) 8 (fun q hq => shl_low _ _ _ (by omega)), stepBn_shift (nB (cN b (j + 2)) <<< 16) 8 (fun q hq => shl_low _ _ _ (by omega)), stepBn_shift (nB (cN b (j + 3)) <<< 24) 8 (fun q hq => shl_low _ _ _ (by omega))]
  have d1 := nB_down (cN b (j + 1)) (hlt _) 0 (by omega)
  have d2 := nB_down (cN b (j + 2)) (hlt _) 8 (by omega)
  have d3 := nB_down (cN b (j + 3)) (hlt _) 16 (by omega)
  rw [show 0 + 8 = 8 from rfl] at d1
  rw [show 8 + 8 = 16 from rfl] at d2
  rw [show 16 + 8 = 24 from rfl] at d3
  rw [d1, d2, d3]
  simp only [BitVec.shiftLeft_zero, BitVec.xor_assoc, show j + 1 + 1 = j + 2 by omega, show j + 1 + 2 = j + 3 by omega, show j + 1 + 3 = j + 4 by omega]
theorem blocks (b : List Int) (h : ∀ c ∈ b, 0 ≤ c ∧ c ≤ 255) : ∀ (n j : Nat) (P : BitVec 32), j + n = b.length → regRun b (8 * j) (8 * n) (P ^^^ W b j) = regP (b.drop j) P := by
  intro n
  induction n with
  | zero =>
    intro j P hj
    have hz : ∀ i, b.length ≤ i → cN b i = 0 := fun i hi => by unfold cN; simp [List.getD, List.getElem?_eq_none hi]
    rw [List.drop_of_length_le (by omega)]
    unfold W
    rw [hz j (by omega), hz (j + 1) (by omega), hz (j + 2) (by omega), hz (j + 3) (by omega)]
    show P ^^^ _ = P
    have : nB 0 = 0#32 := rfl
    rw [this]; simp
  | succ n ih =>
    intro j P hj
    rw [show 8 * (n + 1) = 8 + 8 * n by omega, regRun_add, block_step b h, show 8 * j + 8 = 8 * (j + 1) by omega, ih (j + 1) _ (by omega)]
    have hj' : j < b.length := by omega
    rw [List.drop_eq_getElem_cons hj']
    have e : nB (cN b j) = cB b[j] := by
      unfold nB cN cB
      simp [List.getD, List.getElem?_eq_getElem hj']
    rw [e]
    rfl
/-- The whole: the first four bytes, turned, stand in the register. -/
theorem whole (b : List Int) (h : ∀ c ∈ b, 0 ≤ c ∧ c ≤ 255) : regRun b 0 (8 * b.length) (BitVec.allOnes 32 ^^^ W b 0) = regP b (BitVec.allOnes 32) := by
  have := blocks b h b.length 0 (BitVec.allOnes 32) (by omega)
  simpa using this
theorem W0_get (b : List Int) (h : ∀ c ∈ b, 0 ≤ c ∧ c ≤ 255) (p : Nat) (hp : p < 32) : (BitVec.allOnes 32 ^^^ W b 0).getLsbD p = ob b p := by
  have hlt := cN_lt b h
  unfold W ob vN
  rw [if_pos (by omega), Nat.testBit_xor, BitVec.getLsbD_xor, BitVec.getLsbD_xor, BitVec.getLsbD_xor, BitVec.getLsbD_xor, BitVec.getLsbD_allOnes, BitVec.getLsbD_shiftLeft, BitVec.getLsbD_shiftLeft, BitVec.getLsbD_shiftLeft, nB_get _ _ hp, nB_get _ _ (show p - 8 < 32 by omega), nB_get _ _ (show p - 16 < 32 by omega), nB_get _ _ (show p - 24 < 32 by omega)]
  have h255 : ∀ q, q < 8 → (255 : Nat).testBit q = true := by
    intro q hq
    have : ∀ q : Fin 8, (255 : Nat).testBit q.val = true := by decide
    exact this ⟨q, hq⟩
  rw [h255 _ (by omega), decide_eq_true hp]
  simp only [Bool.true_and, Nat.zero_add]
  by_cases h1 : p < 8
  · rw [decide_eq_true h1, decide_eq_true (show p < 16 by omega), decide_eq_true (show p < 24 by omega), show p / 8 = 0 by omega, show p % 8 = p by omega]; simp [Bool.xor_comm]
  · rw [decide_eq_false h1, small_bit (hlt 0) p (by omega)]
    by_cases h2 : p < 16
    · rw [decide_eq_true h2, decide_eq_true (show p < 24 by omega), show p / 8 = 1 by omega, show p % 8 = p - 8 by omega]; simp [Bool.xor_comm]
    · rw [decide_eq_false h2, small_bit (hlt 1) (p - 8) (by omega)]
      by_cases h3 : p < 24
      · rw [decide_eq_true h3, show p / 8 = 2 by omega, show p % 8 = p - 16 by omega]; simp [Bool.xor_comm]
      · rw [decide_eq_false h3, small_bit (hlt 2) (p - 16) (by omega), show p / 8 = 3 by omega, show p % 8 = p - 24 by omega]; simp [Bool.xor_comm]
end Go.Proofs.Ytglmfnaofpbpfaa.C

namespace Go.Proofs.Ytglmfnaofpbpfaa.C
set_option linter.unusedVariables false
set_option linter.unusedSimpArgs false
open Go.RowKit Go.Proofs.Ytglmfnaofpbpfaa.P Go.Proofs.YtglmfnaofpbpfaaW.PrintWords Go.Proofs.YtglmfnaofpbpfaaW.PrintLast Go.Proofs.YtglmfnaofpbpfaaW.PrintMore

theorem w64 {x : Int} (h : -9223372036854775808 ≤ x) (h' : x ≤ 9223372036854775807) : wrap64 x = x := by unfold wrap64; omega
def O (b : List Int) (n : Nat) : List Bool := (List.range n).map (ob b)
theorem O_len (b : List Int) (n : Nat) : (O b n).length = n := by unfold O; simp
theorem O_snoc (b : List Int) (n : Nat) : O b n ++ [ob b n] = O b (n + 1) := by unfold O; rw [List.range_succ, List.map_append]; rfl
theorem vN_lt (b : List Int) (h : ∀ c ∈ b, 0 ≤ c ∧ c ≤ 255) (i : Nat) : vN b i < 256 := by
  have := cN_lt b h i
  unfold vN
  split
  · exact Nat.xor_lt_two_pow (n := 8) this (by decide)
  · exact this
theorem of_l1 (b : List Int) (h : ∀ c ∈ b, 0 ≤ c ∧ c ≤ 255) (hl : b.length ≤ 2000) (R : Int) (i : Nat) (hi : i < b.length + 4) (next : Ev (fun k => lapidaryref02_Of.l0 k b (O b (8 * (i + 1))) ((i + 1 : Nat) : Int)) R) :
    ∀ (n m : Nat), m + n = 8 → Ev (fun k => lapidaryref02_Of.l1 k b (O b (8 * i + m)) (i : Int) ((vN b i / 2 ^ m : Nat) : Int) (m : Int)) R := by
  intro n
  induction n with
  | zero =>
    intro m hm
    obtain rfl : m = 8 := by omega
    refine Ev.step (fun k => lapidaryref02_Of.l1.eq_2 _ _ _ _ _ _) ?_
    simp only [if_neg (show ¬ (((8 : Nat) : Int) < 8) by omega), w64 (x := (i : Int) + 1) (by omega) (by omega)]
    rw [show 8 * (i + 1) = 8 * i + 8 by omega] at next
    exact next
  | succ n ih =>
    intro m hm
    refine Ev.step (fun k => lapidaryref02_Of.l1.eq_2 _ _ _ _ _ _) ?_
    have I := ih (m + 1) (by omega)
    have hv := vN_lt b h i
    have e1 : ((Int.tmod ((vN b i / 2 ^ m : Nat) : Int) 2) == 1) = ob b (8 * i + m) := by
      unfold ob
      rw [show (8 * i + m) / 8 = i by omega, show (8 * i + m) % 8 = m by omega, Nat.testBit_eq_decide_div_mod_eq]
      rw [Int.tmod_eq_emod_of_nonneg (Int.natCast_nonneg (vN b i / 2 ^ m))]
      generalize vN b i / 2 ^ m = q
      rw [Bool.eq_iff_iff]
      simp only [beq_iff_eq, decide_eq_true_eq]
      omega
    have e2 : (Int.tdiv ((vN b i / 2 ^ m : Nat) : Int) 2) % 256 = ((vN b i / 2 ^ (m + 1) : Nat) : Int) := by
      rw [Int.tdiv_eq_ediv_of_nonneg (Int.natCast_nonneg (vN b i / 2 ^ m)), Nat.pow_succ, ← Nat.div_div_eq_div_mul]
      have h2 : vN b i / 2 ^ m ≤ vN b i := Nat.div_le_self _ _
      generalize vN b i / 2 ^ m = q at *
      omega
    simp only [if_pos (show (m : Int) < 8 by omega), O_len, if_pos (show 8 * i + m < 140737488355328 by omega), e1, e2, O_snoc, w64 (x := (m : Int) + 1) (by omega) (by omega)]
    exact I
theorem of_l0 (b : List Int) (h : ∀ c ∈ b, 0 ≤ c ∧ c ≤ 255) (hl : b.length ≤ 2000) (R : Int) (next : Ev (fun k => lapidaryref02_Of.l2 k (O b (8 * (b.length + 4))) [0, 6, 9, 10, 16, 20, 21, 22, 24, 25, 27, 28, 30, 31, 32] 0) R) :
    ∀ (n i : Nat), i + n = b.length + 4 → Ev (fun k => lapidaryref02_Of.l0 k b (O b (8 * i)) (i : Int)) R := by
  intro n
  induction n with
  | zero =>
    intro i hi
    refine Ev.step (fun k => lapidaryref02_Of.l0.eq_2 _ _ _ _) ?_
    simp only [w64 (x := (b.length : Int) + 4) (by omega) (by omega), if_neg (show ¬ ((i : Int) < (b.length : Int) + 4) by omega)]
    rw [show i = b.length + 4 by omega]
    exact next
  | succ n ih =>
    intro i hi
    have L := of_l1 b h hl R i (by omega) (ih (i + 1) (by omega)) 8 0 (by omega)
    have J : Ev (fun k => lapidaryref02_Of.j1 k b (O b (8 * i)) (i : Int) (cN b i : Int)) R := by
      refine Ev.step (fun k => lapidaryref02_Of.j1.eq_2 _ _ _ _ _) ?_
      have hx : Go.bits .xor .u8 (cN b i : Int) 255 = ((cN b i ^^^ 255 : Nat) : Int) := by
        have hc := cN_lt b h i
        have e := bits_xor8 (BitVec.ofNat 8 (cN b i)) 255#8
        have e1 : (BitVec.ofNat 8 (cN b i)).toNat = cN b i := by rw [BitVec.toNat_ofNat]; exact Nat.mod_eq_of_lt hc
        rw [BitVec.toNat_xor, e1] at e
        exact e
      have hv : ∀ y : Int, y = (vN b i : Int) → Ev (fun k => lapidaryref02_Of.j2 k b (O b (8 * i)) (i : Int) y) R := by
        rintro y rfl
        refine Ev.step (fun k => lapidaryref02_Of.j2.eq_2 _ _ _ _ _) ?_
        simpa using L
      by_cases h4 : i < 4
      · simp only [if_pos (show (i : Int) < 4 by omega), hx]
        exact hv _ (by unfold vN; rw [if_pos h4])
      · simp only [if_neg (show ¬ (i : Int) < 4 by omega)]
        exact hv _ (by unfold vN; rw [if_neg h4])
    refine Ev.step (fun k => lapidaryref02_Of.l0.eq_2 _ _ _ _) ?_
    simp only [w64 (x := (b.length : Int) + 4) (by omega) (by omega), if_pos (show ((i : Int) < (b.length : Int) + 4) by omega)]
    by_cases hb : i < b.length
    · have hr : rd b (i : Int) = (cN b i : Int) := by
        have := h _ (List.getElem_mem hb)
        unfold rd cN
        simp only [Int.toNat_natCast, List.getD, List.getElem?_eq_getElem hb, Option.getD_some]
        omega
      simp only [if_pos (show (i : Int) < (b.length : Int) by omega), if_pos (show (0 : Int) ≤ (i : Int) by omega), hr]
      exact J
    · have hr : cN b i = 0 := by unfold cN; simp [List.getD, List.getElem?_eq_none (show b.length ≤ i by omega)]
      simp only [if_neg (show ¬ (i : Int) < (b.length : Int) by omega)]
      rw [hr] at J
      exact J
def AT : List Nat := [0, 6, 9, 10, 16, 20, 21, 22, 24, 25, 27, 28, 30, 31, 32]
def ATi : List Int := [0, 6, 9, 10, 16, 20, 21, 22, 24, 25, 27, 28, 30, 31, 32]
theorem ATi_get (j : Nat) (h : j < 15) : rd ATi (j : Int) = ((AT.getD j 0 : Nat) : Int) ∧ AT.getD j 0 ≤ 32 := by
  have : ∀ j : Fin 15, rd ATi ((j.val : Nat) : Int) = ((AT.getD j.val 0 : Nat) : Int) ∧ AT.getD j.val 0 ≤ 32 := by decide
  exact this ⟨j, h⟩
def flipAll (i : Nat) : List Nat → List Bool → List Bool
  | [], B => B
  | a :: t, B => flipAll i t (B.set (i + a) (!(B.getD (i + a) false)))
def flipP (i p : Nat) : List Nat → Bool
  | [] => false
  | a :: t => (decide (p = i + a)) ^^ flipP i p t
theorem flipAll_len (i : Nat) : ∀ (ats : List Nat) (B : List Bool), (flipAll i ats B).length = B.length := by
  intro ats
  induction ats with
  | nil => intro B; rfl
  | cons a t ih => intro B; unfold flipAll; rw [ih, List.length_set]
theorem flipAll_get (i p : Nat) : ∀ (ats : List Nat) (B : List Bool), p < B.length → (flipAll i ats B).getD p false = (B.getD p false ^^ flipP i p ats) := by
  intro ats
  induction ats with
  | nil => intro B _; simp [flipAll, flipP]
  | cons a t ih =>
    intro B hp
    unfold flipAll flipP
    rw [ih _ (by rw [List.length_set]; exact hp)]
    by_cases h : p = i + a
    · subst h
      simp [List.getD, List.getElem?_set, hp]
    · rw [decide_eq_false h]
      simp [List.getD, List.getElem?_set, Ne.symm h]
theorem of_l3 (R : Int) (i : Nat) : ∀ (n j : Nat) (B : List Bool), j + n = 15 → i + 32 < B.length → B.length ≤ 20000 → Ev (fun k => lapidaryref02_Of.l2 k (flipAll i (AT.drop j) B) ATi ((i + 1 : Nat) : Int)) R → Ev (fun k => lapidaryref02_Of.l3 k B ATi (i : Int) (j : Int)) R := by
  intro n
  induction n with
  | zero =>
    intro j B hj hi hB nx
    refine Ev.step (fun k => lapidaryref02_Of.l3.eq_2 _ _ _ _ _) ?_
    have hlen : (ATi.length : Int) = 15 := rfl
    obtain rfl : j = 15 := by omega
    simp only [hlen, if_neg (show ¬ (((15 : Nat) : Int) < 15) by omega), w64 (x := (i : Int) + 1) (by omega) (by omega)]
    exact nx
  | succ n ih =>
    intro j B hj hi hB nx
    refine Ev.step (fun k => lapidaryref02_Of.l3.eq_2 _ _ _ _ _) ?_
    have hlen : (ATi.length : Int) = 15 := rfl
    obtain ⟨hr, ha⟩ := ATi_get j (by omega)
    have hd : AT.drop j = AT.getD j 0 :: AT.drop (j + 1) := by
      have hj' : j < AT.length := by show j < 15; omega
      rw [List.drop_eq_getElem_cons hj']
      simp [List.getD, List.getElem?_eq_getElem hj']
    rw [hd] at nx
    generalize AT.getD j 0 = a at *
    have e : wrap64 ((i : Int) + (a : Int)) = ((i + a : Nat) : Int) := by rw [w64 (by omega) (by omega)]; omega
    simp only [hlen, hr, e, if_pos (show (j : Int) < 15 by omega), if_pos (show (0 : Int) ≤ (j : Int) by omega), if_pos (show (0 : Int) ≤ ((i + a : Nat) : Int) by omega), if_pos (show ((i + a : Nat) : Int) < (B.length : Int) by omega), w64 (x := (j : Int) + 1) (by omega) (by omega), Int.toNat_natCast]
    have hrd : rdOf false B ((i + a : Nat) : Int) = B.getD (i + a) false := by unfold rdOf; rw [Int.toNat_natCast]
    rw [hrd]
    exact ih (j + 1) _ (by omega) (by rw [List.length_set]; exact hi) (by rw [List.length_set]; exact hB) nx
theorem flipP_poly (i j : Nat) (hj : j < 32) : flipP i (i + 1 + j) AT = poly.getLsbD j := by
  have e : ∀ a, decide (i + 1 + j = i + a) = decide (1 + j = a) := fun a => by
    by_cases h : 1 + j = a
    · rw [decide_eq_true h, decide_eq_true (by omega)]
    · rw [decide_eq_false h, decide_eq_false (by omega)]
  have h1 : flipP i (i + 1 + j) AT = flipP 0 (1 + j) AT := by
    unfold AT
    simp only [flipP, e, Nat.zero_add]
  rw [h1]
  have : ∀ j : Fin 32, flipP 0 (1 + j.val) AT = poly.getLsbD j.val := by decide
  exact this ⟨j, hj⟩
theorem flipP_far (i p : Nat) (h : i + 33 ≤ p) : flipP i p AT = false := by
  unfold AT
  simp only [flipP]
  simp (disch := omega) only [decide_eq_false (show ¬ p = i + 0 by omega), decide_eq_false (show ¬ p = i + 6 by omega), decide_eq_false (show ¬ p = i + 9 by omega), decide_eq_false (show ¬ p = i + 10 by omega), decide_eq_false (show ¬ p = i + 16 by omega), decide_eq_false (show ¬ p = i + 20 by omega), decide_eq_false (show ¬ p = i + 21 by omega), decide_eq_false (show ¬ p = i + 22 by omega), decide_eq_false (show ¬ p = i + 24 by omega), decide_eq_false (show ¬ p = i + 25 by omega), decide_eq_false (show ¬ p = i + 27 by omega), decide_eq_false (show ¬ p = i + 28 by omega), decide_eq_false (show ¬ p = i + 30 by omega), decide_eq_false (show ¬ p = i + 31 by omega), decide_eq_false (show ¬ p = i + 32 by omega)]
  rfl
def Rel (b : List Int) (B : List Bool) (i : Nat) (x : BitVec 32) : Prop := B.length = 8 * (b.length + 4) ∧ (∀ j, j < 32 → B.getD (i + j) false = x.getLsbD j) ∧ ∀ p, i + 32 ≤ p → p < B.length → B.getD p false = ob b p
theorem rel_step (b : List Int) (B : List Bool) (i : Nat) (x : BitVec 32) (hr : Rel b B i x) (hi : i + 32 < B.length) : Rel b (if x.getLsbD 0 then flipAll i AT B else B) (i + 1) (stepB x ^^^ top (ob b (i + 32))) := by
  obtain ⟨h1, h2, h3⟩ := hr
  have key : ∀ j, j < 32 → B.getD (i + 1 + j) false = ((x >>> 1) ^^^ top (ob b (i + 32))).getLsbD j := by
    intro j hj
    rw [BitVec.getLsbD_xor, BitVec.getLsbD_ushiftRight, top_get _ j hj]
    by_cases h31 : j = 31
    · subst h31
      rw [BitVec.getLsbD_of_ge _ _ (by omega), decide_eq_true rfl, h3 _ (by omega) (by omega)]
      simp
    · rw [decide_eq_false h31, show i + 1 + j = i + (1 + j) by omega, h2 _ (by omega)]; simp
  unfold stepB
  cases h0 : x.getLsbD 0 with
  | false =>
    refine ⟨h1, ?_, ?_⟩
    · intro j hj
      rw [if_neg (by simp)]
      rw [key j hj]; simp
    · intro p hp hp'
      rw [if_neg (by simp)]
      exact h3 p (by omega) (by simpa using hp')
  | true =>
    rw [if_pos rfl, if_pos rfl]
    refine ⟨by rw [flipAll_len]; exact h1, ?_, ?_⟩
    · intro j hj
      rw [flipAll_get i _ _ _ (by omega), flipP_poly i j hj, key j hj]
      simp only [BitVec.getLsbD_xor, Bool.xor_assoc]
      rw [Bool.xor_comm (poly.getLsbD j)]
    · intro p hp hp'
      rw [flipAll_len] at hp'
      rw [flipAll_get i _ _ _ hp', flipP_far i p (by omega), h3 p (by omega) hp']; simp
def val (x : BitVec 32) : Int := ((~~~x).toNat : Int)
theorem of_l4 (b : List Int) (hl : b.length ≤ 2000) (B : List Bool) (x : BitVec 32) (hr : Rel b B (8 * b.length) x) : ∀ m : Nat, m ≤ 32 → Ev (fun k => lapidaryref02_Of.l4 k B (((~~~x).toNat / 2 ^ m : Nat) : Int) ((m : Int) - 1)) (val x) := by
  obtain ⟨h1, h2, h3⟩ := hr
  intro m
  induction m with
  | zero =>
    intro _
    refine Ev.step (fun k => lapidaryref02_Of.l4.eq_2 _ _ _ _) ?_
    simp only [if_neg (show ¬ (((0 : Nat) : Int) - 1 ≥ 0) by omega), Nat.pow_zero, Nat.div_one]
    exact Ev.now _
  | succ m ih =>
    intro hm
    have I := ih (by omega)
    refine Ev.step (fun k => lapidaryref02_Of.l4.eq_2 _ _ _ _) ?_
    have e0 : ((m + 1 : Nat) : Int) - 1 = (m : Int) := by omega
    have e : wrap64 (wrap64 ((B.length : Int) - 32) + (m : Int)) = ((8 * b.length + m : Nat) : Int) := by
      rw [w64 (x := (B.length : Int) - 32) (by omega) (by omega), w64 (by omega) (by omega)]; omega
    have hrd : rdOf false B ((8 * b.length + m : Nat) : Int) = x.getLsbD m := by unfold rdOf; rw [Int.toNat_natCast]; exact h2 m (by omega)
    have hy : (~~~x).toNat < 4294967296 := (~~~x).isLt
    have hbit : (!(x.getLsbD m)) = decide ((~~~x).toNat / 2 ^ m % 2 = 1) := by
      rw [← Nat.testBit_eq_decide_div_mod_eq]
      have : (~~~x).getLsbD m = !(x.getLsbD m) := by rw [BitVec.getLsbD_not]; simp; intro; omega
      rw [← this]; rfl
    have hq : (~~~x).toNat / 2 ^ (m + 1) = (~~~x).toNat / 2 ^ m / 2 := by rw [Nat.pow_succ, Nat.div_div_eq_div_mul]
    have hle : (~~~x).toNat / 2 ^ m ≤ (~~~x).toNat := Nat.div_le_self _ _
    rw [hq]
    generalize (~~~x).toNat / 2 ^ m = q at *
    simp only [e0, e, hrd, if_pos (show (m : Int) ≥ 0 by omega), if_pos (show (0 : Int) ≤ ((8 * b.length + m : Nat) : Int) by omega), if_pos (show ((8 * b.length + m : Nat) : Int) < (B.length : Int) by omega), w64 (x := (m : Int) - 1) (by omega) (by omega)]
    cases hx : x.getLsbD m with
    | true =>
      rw [hx] at hbit
      have : ¬ q % 2 = 1 := by intro hh; rw [decide_eq_true hh] at hbit; simp at hbit
      simp only [if_true]
      rw [show ((q / 2 : Nat) : Int) * 2 % 4294967296 = (q : Int) by omega]
      exact I
    | false =>
      rw [hx] at hbit
      have : q % 2 = 1 := by
        by_cases hh : q % 2 = 1
        · exact hh
        · rw [decide_eq_false hh] at hbit; simp at hbit
      simp only [Bool.false_eq_true, if_false]
      rw [show (((q / 2 : Nat) : Int) * 2 % 4294967296 + 1) % 4294967296 = (q : Int) by omega]
      exact I
theorem of_l2 (b : List Int) (hl : b.length ≤ 2000) : ∀ (n i : Nat) (B : List Bool) (x : BitVec 32), i + n = 8 * b.length → Rel b B i x → Ev (fun k => lapidaryref02_Of.l2 k B ATi (i : Int)) (val (regRun b i n x)) := by
  intro n
  induction n with
  | zero =>
    intro i B x hi hr
    have hB := hr.1
    refine Ev.step (fun k => lapidaryref02_Of.l2.eq_2 _ _ _ _) ?_
    simp only [w64 (x := (i : Int) + 32) (by omega) (by omega), if_neg (show ¬ ((i : Int) + 32 < (B.length : Int)) by omega)]
    obtain rfl : i = 8 * b.length := by omega
    have L := of_l4 b hl B x hr 32 (by omega)
    rw [Nat.div_eq_of_lt (show (~~~x).toNat < 2 ^ 32 from (~~~x).isLt)] at L
    exact L
  | succ n ih =>
    intro i B x hi hr
    have hB := hr.1
    have I := ih (i + 1) _ _ (by omega) (rel_step b B i x hr (by omega))
    refine Ev.step (fun k => lapidaryref02_Of.l2.eq_2 _ _ _ _) ?_
    have hrd : rdOf false B (i : Int) = x.getLsbD 0 := by unfold rdOf; rw [Int.toNat_natCast]; exact hr.2.1 0 (by omega)
    simp only [w64 (x := (i : Int) + 32) (by omega) (by omega), if_pos (show ((i : Int) + 32 < (B.length : Int)) by omega), if_pos (show (0 : Int) ≤ (i : Int) by omega), if_pos (show ((i : Int) < (B.length : Int)) by omega), hrd, w64 (x := (i : Int) + 1) (by omega) (by omega)]
    cases h0 : x.getLsbD 0 with
    | true =>
      rw [h0, if_pos rfl] at I
      simp only [if_true]
      exact of_l3 _ i 15 0 B (by omega) (by omega) (by omega) I
    | false =>
      rw [h0, if_neg (by simp)] at I
      simp only [Bool.false_eq_true, if_false]
      exact I
theorem rof_ev (b : List Int) (h : ∀ c ∈ b, 0 ≤ c ∧ c ≤ 255) (hl : b.length ≤ 2000) : Ev (fun k => lapidaryref02_Of.f k b) (ofV [b]) := by
  rw [ofV_one b h, ← whole b h]
  unfold lapidaryref02_Of.f
  refine of_l0 b h hl _ ?_ (b.length + 4) 0 (by omega)
  refine of_l2 b hl (8 * b.length) 0 _ _ (by omega) ⟨O_len _ _, ?_, ?_⟩
  · intro j hj
    rw [W0_get b h j hj, Nat.zero_add]
    unfold O
    simp [List.getD, show j < 8 * (b.length + 4) by omega]
  · intro p _ hp
    rw [O_len] at hp
    unfold O
    simp [List.getD, hp]
end Go.Proofs.Ytglmfnaofpbpfaa.C
