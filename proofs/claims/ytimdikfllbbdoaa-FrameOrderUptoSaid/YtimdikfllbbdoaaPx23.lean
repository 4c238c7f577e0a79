/- Written for this claim by a program of this session (a turned copy of the print): Go functions as Lean functions, and that the Go code comes to just these answers; or a statement proved out of them. No condition. -/
import Derived.Test.YtimdikfllbbdoaaPx0
import Derived.Test.YtimdikfllbbdoaaPx21
import Derived.Test.YtimdikfllbbdoaaPx22
namespace Go.Proofs.Ytimdikfllbbdoaa.P
open Go.RowKit Go.Proofs.YtimdikfllbbdoaaW.PrintWords Go.Proofs.YtimdikfllbbdoaaW.PrintLast Go.Proofs.YtimdikfllbbdoaaW.PrintMore Go.Proofs.Ytimdikfllbbdoaa.X
attribute [local go_sem] max2_int min2_int max_two min_two max_three min_three max_four min_four   -- for this text's walks alone
set_option linter.unusedVariables false
set_option linter.unusedSimpArgs false

/-! ### lapidaryref02_Seal: function 23 -/
def lapidaryref02_Seal.f (k : Nat) (l0 : List Int) : Option (List Int) := (lapidaryref02_Of.f k l0).bind fun t246 => ((lapidaryref00_Copy.f l0).bind fun t247 => ((some (([(Int.tmod t246 256) % 256, ((Int.tdiv t246 256) % 4294967296) % 256, ((Int.tdiv t246 65536) % 4294967296) % 256, ((Int.tdiv t246 16777216) % 4294967296) % 256] : List Int) : List Int)).bind fun y250 => (if t247.length + y250.length < 140737488355328 then (some (t247 ++ y250)) else (none))))
theorem lapidaryref02_Seal.mono : ∀ a0 k, LeO (lapidaryref02_Seal.f k a0) (lapidaryref02_Seal.f (k + 1) a0) := by
 intro a0 k
 unfold lapidaryref02_Seal.f
 repeat' first
   | (with_reducible exact lapidaryref02_Of.mono _ _)
   | (with_reducible exact LeO.refl _)
   | (with_reducible exact LeO.none _)
   | (with_reducible refine LeO.ite ?_ ?_)
   | (with_reducible refine LeO.bind ?_ (fun _ => ?_))
   | exact lapidaryref02_Of.mono _ _
   | exact LeO.none _
   | refine LeO.ite ?_ ?_
   | refine LeO.bind ?_ (fun _ => ?_)
set_option maxHeartbeats 8000000 in
set_option maxRecDepth 100000 in
theorem lapidaryref02_Seal.calls (k : Nat) (A0 : Option Addr) (c0 : Nat) (l0 : List Int) (r : List Int) (w : World) (hr0 : Kd.C (Kd.int .u8) w A0 l0.length l0) (hc0 : l0.length ≤ c0) (h : lapidaryref02_Seal.f k l0 = some r) :
  Calls Try.prog 23 #[.slice A0 l0.length c0] w fun e w' => ∃ v0_ : Value, e = .returned (v0_) ∧ Kd.R (Kd.int .u8) 5 w' w.heap.size (fun _ => True) v0_ r ∧ Below w.heap.size w w' := by
 have HR0 := Aside0.mk hr0
 have HC0 := Aside0.mk hc0
 clear hr0 hc0
 have HB := Aside0.mk (Below.refl w.heap.size w)
 have H : ((lapidaryref02_Of.f k l0).bind fun t246 => ((lapidaryref00_Copy.f l0).bind fun t247 => ((some (([(Int.tmod t246 256) % 256, ((Int.tdiv t246 256) % 4294967296) % 256, ((Int.tdiv t246 65536) % 4294967296) % 256, ((Int.tdiv t246 16777216) % 4294967296) % 256] : List Int) : List Int)).bind fun y250 => (if t247.length + y250.length < 140737488355328 then (some (t247 ++ y250)) else (none))))) = some r := h
 clear h
 replace H := Option.bind_eq_some_iff.mp H
 obtain ⟨t246, A20, H⟩ := H
 replace H : ((lapidaryref00_Copy.f l0).bind fun t247 => ((some (([(Int.tmod t246 256) % 256, ((Int.tdiv t246 256) % 4294967296) % 256, ((Int.tdiv t246 65536) % 4294967296) % 256, ((Int.tdiv t246 16777216) % 4294967296) % 256] : List Int) : List Int)).bind fun y250 => (if t247.length + y250.length < 140737488355328 then (some (t247 ++ y250)) else (none)))) = some r := H
 have A2 := Aside0.mk A20
 clear A20
 replace H := Option.bind_eq_some_iff.mp H
 obtain ⟨t247, A30, H⟩ := H
 replace H : ((some (([(Int.tmod t246 256) % 256, ((Int.tdiv t246 256) % 4294967296) % 256, ((Int.tdiv t246 65536) % 4294967296) % 256, ((Int.tdiv t246 16777216) % 4294967296) % 256] : List Int) : List Int)).bind fun y250 => (if t247.length + y250.length < 140737488355328 then (some (t247 ++ y250)) else (none))) = some r := H
 have A3 := Aside0.mk A30
 clear A30
 obtain ⟨y250, hy250⟩ : ∃ y_ : List Int, y_ = (([(Int.tmod t246 256) % 256, ((Int.tdiv t246 256) % 4294967296) % 256, ((Int.tdiv t246 65536) % 4294967296) % 256, ((Int.tdiv t246 16777216) % 4294967296) % 256] : List Int)) := ⟨_, rfl⟩
 replace H : (if t247.length + y250.length < 140737488355328 then (some (t247 ++ y250)) else (none)) = some r := by first | (rw [hy250]; with_reducible exact H) | (have H2_ := (Option.bind_some _ _).symm.trans H; rw [hy250]; with_reducible exact H2_) | (have H2_ := (Option.bind_some _ _).symm.trans H; with_reducible exact H2_) | with_reducible exact H | (rw [hy250]; exact H) | exact H
 have Ny250 := Aside0.mk hy250
 clear hy250
 by_cases c4 : t247.length + y250.length < 140737488355328
 ·rw [if_pos c4] at H
  have LMc4 := Aside0.mk c4
  clear c4
  obtain ⟨y253, hy253⟩ : ∃ y_ : List Int, y_ = (t247 ++ y250) := ⟨_, rfl⟩
  replace H : (some y253) = some r := by first | (rw [hy253]; with_reducible exact H) | (have H2_ := (Option.bind_some _ _).symm.trans H; rw [hy253]; with_reducible exact H2_) | (have H2_ := (Option.bind_some _ _).symm.trans H; with_reducible exact H2_) | with_reducible exact H | (rw [hy253]; exact H) | exact H
  have Ny253 := Aside0.mk hy253
  clear hy253
  obtain rfl := Option.some.inj H
  go_enter Try.func23, Try.ntmps23
  go_wp2_with (first | ((with_reducible refine gate_callee (f := 29) rfl ?_); refine goesL_ (some 6) rfl rfl Try.func29 (by kernel_rfl) rfl #[.slice A0 l0.length c0] rfl (by (try simp only [List.map_toArray, List.map_cons, List.map_nil]); first | done | rfl | (simp only [List.length_drop, List.length_take]; rfl)) ?_; (with_reducible refine (lapidaryref02_Of.calls k _ _ l0 t246 _ ?side1 ?side2 A2.out).mono ?_); (case side1 => repeat (first | exact HR0.out | (with_reducible refine Kd.C_alloc ?_ _) | (with_reducible refine Kd.C_drewN ?_ _) | (with_reducible refine Kd.C_drew ?_))); (case side2 => exact HC0.out); rintro e w5 ⟨rfl, hb⟩; refine ⟨_, rfl, ?_⟩; have n0_ := Aside0.mk (below_step (bH HB) hb); clear HB; have HB := n0_; clear n0_; (try clear hb); (try clear hb2); (try clear hk); (try clear hi)) | ((with_reducible refine gate_callee (f := 18) rfl ?_); refine goesL_ (some 8) rfl rfl Try.func18 (by kernel_rfl) rfl #[.slice A0 l0.length c0] rfl (by (try simp only [List.map_toArray, List.map_cons, List.map_nil]); first | done | rfl | (simp only [List.length_drop, List.length_take]; rfl)) ?_; (with_reducible refine (lapidaryref00_Copy.calls _ _ l0 t247 _ ?side1 ?side2 A3.out).mono ?_); (case side1 => repeat (first | exact (Kd.C_below HR0.out HB.out) | (with_reducible refine Kd.C_alloc ?_ _) | (with_reducible refine Kd.C_drewN ?_ _) | (with_reducible refine Kd.C_drew ?_))); (case side2 => exact HC0.out); rintro e w6 ⟨v248, rfl, ho0, hb⟩; refine ⟨_, rfl, ?_⟩; have n0_ := Aside0.mk (Kd.R_lower ho0 (below_size (bH HB))); have n1_ := Aside0.mk (below_step (bH HB) hb); clear HB; have HO249 := n0_; have HB := n1_; clear n0_ n1_; (try clear hb); (try clear hb2); (try clear hk); (try clear hi); (try clear ho0)) | ((with_reducible refine gate_dst (N := 24) rfl ?_); refine Kd.R_lit (Kd.int .u8) _ 5 ?hg (N := 24) ?hd (xs := ([(Int.tmod t246 256) % 256, ((Int.tdiv t246 256) % 4294967296) % 256, ((Int.tdiv t246 65536) % 4294967296) % 256, ((Int.tdiv t246 16777216) % 4294967296) % 256] : List Int)) (inner := [.int .u8 ((Int.tmod t246 256) % 256), .int .u8 (((Int.tdiv t246 256) % 4294967296) % 256), .int .u8 (((Int.tdiv t246 65536) % 4294967296) % 256), .int .u8 (((Int.tdiv t246 16777216) % 4294967296) % 256)]) (ok := fun _ => True) (okp := fun _ => True) ?hr ?hp (fun _ hk => hk) trivial (Below.refl _ _) (Nat.le_refl _) (by simp) ?_; (case hd => rfl); (case hg => rfl); (case hr => first | (go_simp; done) | (go_simp; rfl)); (case hp => exact (Reps.one (show Kd.M (Kd.int .u8) _ _ _ ((Int.tmod t246 256) % 256) [.int .u8 ((Int.tmod t246 256) % 256)] from rfl) (Reps.one (show Kd.M (Kd.int .u8) _ _ _ (((Int.tdiv t246 256) % 4294967296) % 256) [.int .u8 (((Int.tdiv t246 256) % 4294967296) % 256)] from rfl) (Reps.one (show Kd.M (Kd.int .u8) _ _ _ (((Int.tdiv t246 65536) % 4294967296) % 256) [.int .u8 (((Int.tdiv t246 65536) % 4294967296) % 256)] from rfl) (Reps.one (show Kd.M (Kd.int .u8) _ _ _ (((Int.tdiv t246 16777216) % 4294967296) % 256) [.int .u8 (((Int.tdiv t246 16777216) % 4294967296) % 256)] from rfl) (Reps.none _ _)))))); intro v251 w7 ho8 hb hg_ hnew_; clear hg_ hnew_; (first | rw [← Ny250.out] at ho8 | (simp only [Int.reduceToNat] at ho8; rw [← Ny250.out] at ho8)); have n0_ := Aside0.mk (Kd.R_elder' (rK HO249) (Kd.R_base ho8) hb); have n1_ := Aside0.mk (Kd.R_lower (Kd.R_new' ho8 (Kd.R_lt (rK HO249))) (below_size (bH HB))); have n2_ := Aside0.mk (below_step (bH HB) hb); clear HO249; clear HB; have HO249 := n0_; have HO252 := n1_; have HB := n2_; clear n0_ n1_ n2_; clear hb ho8; obtain ⟨Ao10, co10, eo10⟩ := Kd.R_slice HO252.out; subst eo10) | ((with_reducible refine gate_builtin (b := .append) (xs := #[.tmp 9, .tmp 24]) rfl ?_); at_builtin; refine Kd.R_append_rows (Kd.int .u8) (w0 := w) w.heap.size rfl (.tmp 9) (.tmp 24) 25 5 (.int .u8 0) 1 rfl Try.underlying25 info5 rfl (by decide) (by omega) v248 t247 y250 _ _ _ (fun k_ => some k_ ≠ (.slice Ao10 y250.length co10 : Value).ownBlock) (fun _ => False) rfl rfl ?aO ?aR (fun _ _ h => h) (fun _ h => h.elim) ?aF ?aB ?aS ?aL ?_; (case aR => repeat (first | exact (Kd.R_reads' HO252.out).2.2 | (with_reducible refine Kd.C_alloc ?_ _) | (with_reducible refine Kd.C_drewN ?_ _) | (with_reducible refine Kd.C_drew ?_))); (case aB => exact (bH HB)); (case aF => exact (fun k_ hk => Kd.fresh' (Kd.R_lt (rK HO252)) k_ hk)); (case aO => exact (by (with_reducible repeat (first | apply Kd.R_alloc | apply Kd.R_drewN | apply Kd.R_drew)); exact Kd.R_mono HO249.out (fun _ hk => hk.2))); (case aS => exact (below_size (bH HB))); (case aL => have := LMc4.out; omega); intro v254 w9 ho hb hg hat; rw [← Ny253.out] at ho; have n0_ := Aside0.mk (Kd.R_after (ok := (fun _ => True)) (rK HO252) hg hat); have n1_ := Aside0.mk (hb); have n2_ := Aside0.mk (ho); clear HO252; clear HB; clear HO249; have HO252 := n0_; have HB := n1_; have HO255 := n2_; clear n0_ n1_ n2_; clear ho hb hg hat))
  go_ret
  exact ⟨_, by first | rfl | (simp [errW_none, errW_some] <;> rfl) | (simp [*, errW_none, errW_some] <;> rfl), by (with_reducible repeat (first | apply Kd.R_alloc | apply Kd.R_drewN | apply Kd.R_drew)); exact Kd.R_mono HO255.out (fun _ hk => trivial), bH HB⟩
 ·rw [if_neg c4] at H
  exact absurd H (by simp)

end Go.Proofs.Ytimdikfllbbdoaa.P
