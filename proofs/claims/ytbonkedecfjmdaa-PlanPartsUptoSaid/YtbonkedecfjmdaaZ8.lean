/- Written for this claim by a program of this session (a turned copy of the print): Go functions as Lean functions, and that the Go code comes to just these answers; or a statement proved out of them. No condition. -/
import Derived.Test.YtbonkedecfjmdaaZ2
import Derived.Test.YtbonkedecfjmdaaZ6
import Derived.Test.YtbonkedecfjmdaaZ7

namespace Go.Proofs.Ytbonkedecfjmdaa.P
open Go.RowKit Go.Proofs.YtbonkedecfjmdaaW.PrintWords Go.Proofs.YtbonkedecfjmdaaW.PrintLast Go.Proofs.YtbonkedecfjmdaaW.PrintMore Go.Proofs.Ytbonkedecfjmdaa.X
attribute [local go_sem] max2_int min2_int max_two min_two max_three min_three max_four min_four add64_0 add64_1 add64
set_option linter.unusedVariables false
set_option linter.unusedSimpArgs false
def rf09_Turn.f (k : Nat) (a0_0 : Int) (a0_1 : Int) (a0_2 : Int) (a1_0 : Int) (a1_1 : Int) (a1_2 : Int) (a2_0 : Int) (a2_1 : Int) (a2_2 : Int) : Option (Int) := (rf09_Right.f k (([(⟨a0_0, a0_1, a0_2⟩ : S27), (⟨a1_0, a1_1, a1_2⟩ : S27), (⟨a2_0, a2_1, a2_2⟩ : S27)] : List (S27)))).bind fun t257 => (if t257 = true then ((rf09_product.f k (wrap64 (a1_0 - a0_0)) (wrap64 (a2_1 - a0_1))).bind fun t258 => ((rf09_product.f k (wrap64 (a1_1 - a0_1)) (wrap64 (a2_0 - a0_0))).bind fun t261 => ((rf08_Cmp.f k t258 t261).bind fun t264 => (some t264)))) else (some 0))
theorem rf09_Turn.mono : ∀ a0 a1 a2 a3 a4 a5 a6 a7 a8 k, LeO (rf09_Turn.f k a0 a1 a2 a3 a4 a5 a6 a7 a8) (rf09_Turn.f (k + 1) a0 a1 a2 a3 a4 a5 a6 a7 a8) := by
 intro a0 a1 a2 a3 a4 a5 a6 a7 a8 k
 unfold rf09_Turn.f
 repeat' first
   | (with_reducible exact rf08_Cmp.mono _ _ _)
   | (with_reducible exact rf09_Right.mono _ _)
   | (with_reducible exact rf09_product.mono _ _ _)
   | (with_reducible exact LeO.refl _)
   | (with_reducible exact LeO.none _)
   | (with_reducible refine LeO.ite ?_ ?_)
   | (with_reducible refine LeO.bind ?_ (fun _ => ?_))
   | exact rf08_Cmp.mono _ _ _
   | exact rf09_Right.mono _ _
   | exact rf09_product.mono _ _ _
   | exact LeO.none _
   | refine LeO.ite ?_ ?_
   | refine LeO.bind ?_ (fun _ => ?_)
def rf09_Turn.T3 : Bool × List (List Nat × List Nat) := (true, [([], []), ([0], [0]), ([], []), ([2], [2]), ([1, 3], [1, 3]), ([], []), ([5], [5]), ([], []), ([7], [7]), ([6, 8], [6, 8]), ([4, 9], [4, 9]), ([], []), ([11], [11]), ([], []), ([13], [13]), ([12, 14], [12, 14]), ([], []), ([16], [16]), ([], []), ([18], [18]), ([17, 19], [17, 19]), ([15, 20, 10], [15, 20]), ([10, 21, 21], [10, 21]), ([22, 22, 0, 1, 2, 3, 4, 5, 6, 7, 8, 9, 10, 11, 12, 13, 14, 15, 16, 17, 18, 19, 20, 21, 22], [22])])
def rf09_Turn.B3 : List Nat := [0, 1, 0, 4, 15, 0, 32, 0, 128, 480, 1023, 0, 2048, 0, 8192, 30720, 0, 65536, 0, 262144, 983040, 2097151, 4194303, 8388607]
theorem rf09_Turn.tab3 : rtab .any (opsOf Try.f63 3) = rf09_Turn.T3 := by kernel_rfl
theorem rf09_Turn.bits3 : waitsOk rf09_Turn.T3.2 rf09_Turn.B3 = true := by kernel_rfl
set_option maxHeartbeats 8000000 in
set_option maxRecDepth 100000 in
theorem rf09_Turn.calls (k : Nat) (a0_0 : Int) (a0_1 : Int) (a0_2 : Int) (a1_0 : Int) (a1_1 : Int) (a1_2 : Int) (a2_0 : Int) (a2_1 : Int) (a2_2 : Int) (r : Int) (w : World) (h : rf09_Turn.f k a0_0 a0_1 a0_2 a1_0 a1_1 a1_2 a2_0 a2_1 a2_2 = some r) :
  Calls Try.prog 63 #[.agg #[.int .i64 a0_0, .int .i64 a0_1, .int .i64 a0_2], .agg #[.int .i64 a1_0, .int .i64 a1_1, .int .i64 a1_2], .agg #[.int .i64 a2_0, .int .i64 a2_1, .int .i64 a2_2]] w fun e w' => e = .returned (.int .i64 r) ∧ Below w.heap.size w w' := by
 have hu27 := Try.underlying27
 have HB := AM (Below.refl w.heap.size w)
 have H : ((rf09_Right.f k (([(⟨a0_0, a0_1, a0_2⟩ : S27), (⟨a1_0, a1_1, a1_2⟩ : S27), (⟨a2_0, a2_1, a2_2⟩ : S27)] : List (S27)))).bind fun t257 => (if t257 = true then ((rf09_product.f k (wrap64 (a1_0 - a0_0)) (wrap64 (a2_1 - a0_1))).bind fun t258 => ((rf09_product.f k (wrap64 (a1_1 - a0_1)) (wrap64 (a2_0 - a0_0))).bind fun t261 => ((rf08_Cmp.f k t258 t261).bind fun t264 => (some t264)))) else (some 0))) = some r := h
 clear h
 obtain ⟨y254, hy254⟩ : ∃ y_ : List (S27), y_ = (([(⟨a0_0, a0_1, a0_2⟩ : S27), (⟨a1_0, a1_1, a1_2⟩ : S27), (⟨a2_0, a2_1, a2_2⟩ : S27)] : List (S27))) := ⟨_, rfl⟩
 replace H : ((rf09_Right.f k y254).bind fun t257 => (if t257 = true then ((rf09_product.f k (wrap64 (a1_0 - a0_0)) (wrap64 (a2_1 - a0_1))).bind fun t258 => ((rf09_product.f k (wrap64 (a1_1 - a0_1)) (wrap64 (a2_0 - a0_0))).bind fun t261 => ((rf08_Cmp.f k t258 t261).bind fun t264 => (some t264)))) else (some 0))) = some r := by first | (rw [hy254]; with_reducible exact H) | (have H2_ := (Option.bind_some _ _).symm.trans H; rw [hy254]; with_reducible exact H2_) | (have H2_ := (Option.bind_some _ _).symm.trans H; with_reducible exact H2_) | with_reducible exact H | (rw [hy254]; exact H) | exact H
 have Ny254 := AM hy254
 clear hy254
 obtain ⟨t257, A4, H⟩ := bS H
 have HC5 := AM H
 clear H
 go_enter Try.func63, Try.ntmps63
 go_upto_if 12 with (first | ((with_reducible refine gate_dst (N := 3) rfl ?_); refine bE 3 #[.int .i64 a0_0, .int .i64 a0_1, .int .i64 a0_2] 27 ?_; intro gb251 hg w6 hbox hb; have BK251 := AM hbox; have GW251 := kG HB hg; replace HB := kH HB hb; have GE251 := GW251; clear hb hbox hg) | ((with_reducible refine gate_dst (N := 4) rfl ?_); refine bE 4 #[.int .i64 a1_0, .int .i64 a1_1, .int .i64 a1_2] 27 ?_; intro gb252 hg w7 hbox hb; have BK252 := AM hbox; have GW252 := kG HB hg; replace HB := kH HB hb; have GE252 := GW252; have NB251_252 := kN BK251 hg; have NB252_251 := kM BK251 hg; replace BK251 := kB BK251 hb; clear hb hbox hg) | ((with_reducible refine gate_dst (N := 5) rfl ?_); refine bE 5 #[.int .i64 a2_0, .int .i64 a2_1, .int .i64 a2_2] 27 ?_; intro gb253 hg w8 hbox hb; have BK253 := AM hbox; have GW253 := kG HB hg; replace HB := kH HB hb; have GE253 := GW253; have NB251_253 := kN BK251 hg; have NB253_251 := kM BK251 hg; replace BK251 := kB BK251 hb; have NB252_253 := kN BK252 hg; have NB253_252 := kM BK252 hg; replace BK252 := kB BK252 hb; clear hb hbox hg; have hnb9 := NB251_252.out; have hnc9 := NB252_251.out; have hnb10 := NB251_253.out; have hnc10 := NB253_251.out; obtain ⟨hcz11_0, hcz11_1, hcz11_2, hfz11_0, hfz11_1, hfz11_2⟩ := c3 BK251; have hnb12 := NB252_253.out; have hnc12 := NB253_252.out; obtain ⟨hcz13_0, hcz13_1, hcz13_2, hfz13_0, hfz13_1, hfz13_2⟩ := c3 BK252; obtain ⟨hcz14_0, hcz14_1, hcz14_2, hfz14_0, hfz14_1, hfz14_2⟩ := c3 BK253) | ((with_reducible refine gate_dst (N := 10) rfl ?_); refine Kd.R_lit k27 _ 27 ?hg (N := 10) ?hd (xs := ([(⟨a0_0, a0_1, a0_2⟩ : S27), (⟨a1_0, a1_1, a1_2⟩ : S27), (⟨a2_0, a2_1, a2_2⟩ : S27)] : List (S27))) (inner := [.int .i64 a0_0, .int .i64 a0_1, .int .i64 a0_2, .int .i64 a1_0, .int .i64 a1_1, .int .i64 a1_2, .int .i64 a2_0, .int .i64 a2_1, .int .i64 a2_2]) (ok := fun _ => True) (okp := fun _ => True) ?hr ?hp (fun _ hk => hk) trivial (Below.refl _ _) (Nat.le_refl _) (by simp) ?_; (case hd => rfl); (case hg => rfl); (case hr => first | (go_simp; done) | (go_simp; rfl)); (case hp => exact (Reps.c3 (show Kd.M k27 _ _ _ (⟨a0_0, a0_1, a0_2⟩ : S27) [.int .i64 a0_0, .int .i64 a0_1, .int .i64 a0_2] from (k27_mkM _ _ _ (⟨a0_0, a0_1, a0_2⟩ : S27) )) (Reps.c3 (show Kd.M k27 _ _ _ (⟨a1_0, a1_1, a1_2⟩ : S27) [.int .i64 a1_0, .int .i64 a1_1, .int .i64 a1_2] from (k27_mkM _ _ _ (⟨a1_0, a1_1, a1_2⟩ : S27) )) (Reps.c3 (show Kd.M k27 _ _ _ (⟨a2_0, a2_1, a2_2⟩ : S27) [.int .i64 a2_0, .int .i64 a2_1, .int .i64 a2_2] from (k27_mkM _ _ _ (⟨a2_0, a2_1, a2_2⟩ : S27) )) (Reps.none _ _))))); intro v255 w15 ho16 hb hg_ hnew_; clear hg_ hnew_; (first | rw [← Ny254.out] at ho16 | (simp only [Int.reduceToNat] at ho16; rw [← Ny254.out] at ho16)); have HO256 := AM (Kd.R_lower (Kd.R_newB (Kd.R_newB (Kd.R_newB ho16 (g := gb251) (o := .cells #[.int .i64 a0_0, .int .i64 a0_1, .int .i64 a0_2] 27 (0, 0)) (bK BK251)) (g := gb252) (o := .cells #[.int .i64 a1_0, .int .i64 a1_1, .int .i64 a1_2] 27 (0, 0)) (bK BK252)) (g := gb253) (o := .cells #[.int .i64 a2_0, .int .i64 a2_1, .int .i64 a2_2] 27 (0, 0)) (bK BK253)) (below_size (bH HB))); replace BK251 := kB BK251 hb; replace BK252 := kB BK252 hb; replace BK253 := kB BK253 hb; replace HB := kH HB hb; clear hb ho16; obtain ⟨Ao17, co17, eo17⟩ := Kd.R_slice HO256.out; subst eo17) | ((with_reducible refine gate_callee (f := 22) rfl ?_); refine gL (some 11) Try.func22 #[.slice Ao17 y254.length co17] ?_; (with_reducible refine (rf09_Right.calls k _ _ y254 t257 _ ?side1 ?side2 A4.out).mono ?_); (case side1 => exact sR HO256); (case side2 => exact (Kd.R_reads' HO256.out).2.1); rintro e w18 ⟨rfl, hb⟩; refine ⟨_, rfl, ?_⟩; replace HO256 := kR HO256 hb; replace BK251 := kB BK251 hb; replace BK252 := kB BK252 hb; replace BK253 := kB BK253 hb; replace HB := kH HB hb; (try clear hb); (try clear hb2); (try clear hk); (try clear hi)))
 (try simp only [Act.put, List.setIfInBounds_toArray, List.set_cons_zero, List.set_cons_succ])
 have H := HC5.out; clear HC5
 by_cases c19 : t257 = true
 ·subst c19
  have H1 : ((rf09_product.f k (wrap64 (a1_0 - a0_0)) (wrap64 (a2_1 - a0_1))).bind fun t258 => ((rf09_product.f k (wrap64 (a1_1 - a0_1)) (wrap64 (a2_0 - a0_0))).bind fun t261 => ((rf08_Cmp.f k t258 t261).bind fun t264 => (some t264)))) = some r := by rw [if_pos rfl] at H; exact H
  clear H; have H := H1; clear H1
  obtain ⟨t258, A20, H⟩ := bS H
  obtain ⟨t261, A21, H⟩ := bS H
  obtain ⟨t264, A22, H⟩ := bS H
  obtain rfl := Option.some.inj H
  try go_wp2
  replace HO256 := dR HO256; replace BK251 := dB BK251; replace BK252 := dB BK252; replace BK253 := dB BK253; replace HB := dH HB
  refine sP 24 (S := fun w' => w'.cell? ⟨gb252, 0, none⟩ = some (.int .i64 a1_0) ∧ w'.cell? ⟨gb252, 1, none⟩ = some (.int .i64 a1_1) ∧ w'.cell? ⟨gb252, 2, none⟩ = some (.int .i64 a1_2) ∧ w'.cell? ⟨gb251, 0, none⟩ = some (.int .i64 a0_0) ∧ w'.cell? ⟨gb251, 1, none⟩ = some (.int .i64 a0_1) ∧ w'.cell? ⟨gb251, 2, none⟩ = some (.int .i64 a0_2) ∧ w'.cell? ⟨gb253, 0, none⟩ = some (.int .i64 a2_0) ∧ w'.cell? ⟨gb253, 1, none⟩ = some (.int .i64 a2_1) ∧ w'.cell? ⟨gb253, 2, none⟩ = some (.int .i64 a2_2)) (ds := []) ⟨bC BK252, bC BK252, bC BK252, bC BK251, bC BK251, bC BK251, bC BK253, bC BK253, bC BK253⟩ fun hHeld => ?_; refine with_tabW rf09_Turn.tab3 rf09_Turn.bits3 (fun HT_ HW_ => ?_)
  generalize w18.drew = w23 at HO256 BK251 BK252 BK253 HB hHeld ⊢
  refine pQ 0 (some 13) HT_ ?_; refine pQ 2 (some 15) HT_ ?_; refine pQ 5 (some 18) HT_ ?_; refine pQ 7 (some 20) HT_ ?_; refine pQ 11 (some 24) HT_ ?_; refine pQ 13 (some 26) HT_ ?_; refine pQ 16 (some 29) HT_ ?_; refine pQ 18 (some 31) HT_ ?_; refine tQ 1 (some 14) HT_ HW_ hHeld ?_; refine tQ 3 (some 16) HT_ HW_ hHeld ?_; refine pQ 4 (some 17) HT_ ?_; refine tQ 6 (some 19) HT_ HW_ hHeld ?_; refine tQ 8 (some 21) HT_ HW_ hHeld ?_; refine pQ 9 (some 22) HT_ ?_; refine tQ 12 (some 25) HT_ HW_ hHeld ?_; refine tQ 14 (some 27) HT_ HW_ hHeld ?_; refine pQ 15 (some 28) HT_ ?_; refine tQ 17 (some 30) HT_ HW_ hHeld ?_; refine tQ 19 (some 32) HT_ HW_ hHeld ?_; refine pQ 20 (some 33) HT_ ?_
  refine oQ 10 (some 23) HT_ rfl fun K hK => ?_
  refine gO Try.func70 #[.int .i64 (wrap64 (a1_0 - a0_0)), .int .i64 (wrap64 (a2_1 - a0_1))] ?_
  with_reducible refine (rf09_product.calls k (wrap64 (a1_0 - a0_0)) (wrap64 (a2_1 - a0_1)) t258 _ A20.out).mono ?_
  rintro e w24 ⟨v259, rfl, ho0, hb⟩
  refine ⟨_, rfl, ?_⟩
  replace HO256 := kR HO256 hb
  have HO260 := AM (Kd.R_lower ho0 (below_size (bH HB)))
  replace BK251 := kB BK251 hb; replace BK252 := kB BK252 hb; replace BK253 := kB BK253 hb; replace HB := kH HB hb; (try clear hb); (try clear hb2); (try clear hk); (try clear hi); (try clear ho0)
  refine hK.out _ _ ⟨bC BK252, bC BK252, bC BK252, bC BK251, bC BK251, bC BK251, bC BK253, bC BK253, bC BK253⟩ (fun hHeld => ?_)
  clear hK K; refine nP (some 23) ?_
  refine oQ 21 (some 34) HT_ rfl fun K hK => ?_
  refine gO Try.func70 #[.int .i64 (wrap64 (a1_1 - a0_1)), .int .i64 (wrap64 (a2_0 - a0_0))] ?_
  with_reducible refine (rf09_product.calls k (wrap64 (a1_1 - a0_1)) (wrap64 (a2_0 - a0_0)) t261 _ A21.out).mono ?_
  rintro e w25 ⟨v262, rfl, ho0, hb⟩
  refine ⟨_, rfl, ?_⟩
  replace HO256 := kR HO256 hb
  have HO263 := AM (Kd.R_lower (Kd.R_new' ho0 (Kd.R_lt (rK HO260))) (below_size (bH HB)))
  replace HO260 := AM (Kd.R_elder' (rK HO260) (Kd.R_base ho0) hb)
  replace BK251 := kB BK251 hb; replace BK252 := kB BK252 hb; replace BK253 := kB BK253 hb; replace HB := kH HB hb; (try clear hb); (try clear hb2); (try clear hk); (try clear hi); (try clear ho0)
  obtain ⟨Ao26, co26, eo26⟩ := Kd.R_slice HO260.out
  (first | subst eo26 | (injection eo26 with f1_ f2_ f3_; have f4_ := f1_.symm; have f5_ := f3_.symm; clear f1_ f2_ f3_; subst f4_; subst f5_))
  obtain ⟨Ao27, co27, eo27⟩ := Kd.R_slice HO263.out
  (first | subst eo27 | (injection eo27 with f1_ f2_ f3_; have f4_ := f1_.symm; have f5_ := f3_.symm; clear f1_ f2_ f3_; subst f4_; subst f5_))
  refine hK.out _ _ ⟨bC BK252, bC BK252, bC BK252, bC BK251, bC BK251, bC BK251, bC BK253, bC BK253, bC BK253⟩ (fun hHeld => ?_)
  clear hK K; refine nP (some 34) ?_
  refine oQ 22 (some 35) HT_ rfl fun K hK => ?_
  refine gO Try.func49 #[.agg #[.slice Ao26 t258.length co26], .agg #[.slice Ao27 t261.length co27]] ?_
  with_reducible refine (rf08_Cmp.calls k _ _ t258 _ _ t261 t264 _ ?side1 ?side2 ?side3 ?side4 A22.out).mono ?_
  (case side1 => exact sR HO260)
  (case side2 => exact (Kd.R_reads' HO260.out).2.1)
  (case side3 => exact sR HO263)
  (case side4 => exact (Kd.R_reads' HO263.out).2.1)
  rintro e w28 ⟨rfl, hb⟩
  refine ⟨_, rfl, ?_⟩
  replace HO256 := kR HO256 hb; replace HO260 := kR HO260 hb; replace HO263 := kR HO263 hb; replace BK251 := kB BK251 hb; replace BK252 := kB BK252 hb; replace BK253 := kB BK253 hb; replace HB := kH HB hb; (try clear hb); (try clear hb2); (try clear hk); (try clear hi)
  refine hK.out _ _ ⟨bC BK252, bC BK252, bC BK252, bC BK251, bC BK251, bC BK251, bC BK253, bC BK253, bC BK253⟩ (fun hHeld => ?_)
  clear hK K; refine nP (some 35) ?_; refine pQ 23 (some 6) HT_ ?_
  refine done_ (done_of HT_.out (by kernel_rfl)) ?_
  try go_wp2
  go_ret
  exact ⟨rE, bH HB⟩
 ·replace c19 := Bool.eq_false_iff.mpr c19
  subst c19
  have H1 : (some 0) = some r := by rw [if_neg (show ¬ (false = true) by decide)] at H; exact H
  clear H; have H := H1; clear H1
  obtain rfl := Option.some.inj H
  go_wp2
  go_ret
  exact ⟨rE, bH HB⟩

def rf09_within.f (a0 : Int) (a1 : Int) (a2 : Int) : Option (Bool) := if a1 ≤ a0 then (if a0 ≤ a2 then (some true) else (if a2 ≤ a0 then (some (decide (a0 ≤ a1))) else (some false))) else (if a2 ≤ a0 then (some (decide (a0 ≤ a1))) else (some false))
set_option maxHeartbeats 8000000 in
set_option maxRecDepth 100000 in
theorem rf09_within.calls (a0 : Int) (a1 : Int) (a2 : Int) (r : Bool) (w : World) (h : rf09_within.f a0 a1 a2 = some r) :
  Calls Try.prog 79 #[.int .i64 a0, .int .i64 a1, .int .i64 a2] w fun e w' => e = .returned (.bool r) ∧ Drawn0 w w' := by
 have H : (if a1 ≤ a0 then (if a0 ≤ a2 then (some true) else (if a2 ≤ a0 then (some (decide (a0 ≤ a1))) else (some false))) else (if a2 ≤ a0 then (some (decide (a0 ≤ a1))) else (some false))) = some r := h
 clear h
 by_cases c4 : a1 ≤ a0
 ·rw [if_pos c4] at H
  have c4b0 := decide_eq_true c4; clear c4
  by_cases c5 : a0 ≤ a2
  ·rw [if_pos c5] at H
   have c5b0 := decide_eq_true c5; clear c5
   obtain rfl := Option.some.inj H
   go_enter Try.func79, Try.ntmps79
   go_wp2
   go_ret
   exact ⟨by first | rfl | (simp; done) | (simp [*]; done), by repeat (first | exact Drawn0.refl _ | apply Drawn0.step)⟩
  ·rw [if_neg c5] at H
   have c5b0 := decide_eq_false c5; clear c5
   by_cases c6 : a2 ≤ a0
   ·rw [if_pos c6] at H
    have c6b0 := decide_eq_true c6; clear c6
    obtain rfl := Option.some.inj H
    go_enter Try.func79, Try.ntmps79
    go_wp2
    go_ret
    exact ⟨by first | rfl | (simp; done) | (simp [*]; done), by repeat (first | exact Drawn0.refl _ | apply Drawn0.step)⟩
   ·rw [if_neg c6] at H
    have c6b0 := decide_eq_false c6; clear c6
    obtain rfl := Option.some.inj H
    go_enter Try.func79, Try.ntmps79
    go_wp2
    go_ret
    exact ⟨by first | rfl | (simp; done) | (simp [*]; done), by repeat (first | exact Drawn0.refl _ | apply Drawn0.step)⟩
 ·rw [if_neg c4] at H
  have c4b0 := decide_eq_false c4; clear c4
  by_cases c7 : a2 ≤ a0
  ·rw [if_pos c7] at H
   have c7b0 := decide_eq_true c7; clear c7
   obtain rfl := Option.some.inj H
   go_enter Try.func79, Try.ntmps79
   go_wp2
   go_ret
   exact ⟨by first | rfl | (simp; done) | (simp [*]; done), by repeat (first | exact Drawn0.refl _ | apply Drawn0.step)⟩
  ·rw [if_neg c7] at H
   have c7b0 := decide_eq_false c7; clear c7
   obtain rfl := Option.some.inj H
   go_enter Try.func79, Try.ntmps79
   go_wp2
   go_ret
   exact ⟨by first | rfl | (simp; done) | (simp [*]; done), by repeat (first | exact Drawn0.refl _ | apply Drawn0.step)⟩

def rf09_On.f (k : Nat) (a0_0 : Int) (a0_1 : Int) (a0_2 : Int) (a1_0 : Int) (a1_1 : Int) (a1_2 : Int) (a2_0 : Int) (a2_1 : Int) (a2_2 : Int) : Option (Bool) := (rf09_Right.f k (([(⟨a0_0, a0_1, a0_2⟩ : S27), (⟨a1_0, a1_1, a1_2⟩ : S27), (⟨a2_0, a2_1, a2_2⟩ : S27)] : List (S27)))).bind fun t271 => (if t271 = true then ((rf09_Turn.f k a1_0 a1_1 a1_2 a2_0 a2_1 a2_2 a0_0 a0_1 a0_2).bind fun t272 => (if t272 = 0 then ((rf09_within.f a0_0 a1_0 a2_0).bind fun t273 => (if t273 = true then ((rf09_within.f a0_1 a1_1 a2_1).bind fun t274 => (some t274)) else (some false))) else (some false))) else (some false))
theorem rf09_On.mono : ∀ a0 a1 a2 a3 a4 a5 a6 a7 a8 k, LeO (rf09_On.f k a0 a1 a2 a3 a4 a5 a6 a7 a8) (rf09_On.f (k + 1) a0 a1 a2 a3 a4 a5 a6 a7 a8) := by
 intro a0 a1 a2 a3 a4 a5 a6 a7 a8 k
 unfold rf09_On.f
 repeat' first
   | (with_reducible exact rf09_Right.mono _ _)
   | (with_reducible exact rf09_Turn.mono _ _ _ _ _ _ _ _ _ _)
   | (with_reducible exact LeO.refl _)
   | (with_reducible exact LeO.none _)
   | (with_reducible refine LeO.ite ?_ ?_)
   | (with_reducible refine LeO.bind ?_ (fun _ => ?_))
   | exact rf09_Right.mono _ _
   | exact rf09_Turn.mono _ _ _ _ _ _ _ _ _ _
   | exact LeO.none _
   | refine LeO.ite ?_ ?_
   | refine LeO.bind ?_ (fun _ => ?_)
set_option maxHeartbeats 8000000 in
set_option maxRecDepth 100000 in
theorem rf09_On.calls (k : Nat) (a0_0 : Int) (a0_1 : Int) (a0_2 : Int) (a1_0 : Int) (a1_1 : Int) (a1_2 : Int) (a2_0 : Int) (a2_1 : Int) (a2_2 : Int) (r : Bool) (w : World) (h : rf09_On.f k a0_0 a0_1 a0_2 a1_0 a1_1 a1_2 a2_0 a2_1 a2_2 = some r) :
  Calls Try.prog 62 #[.agg #[.int .i64 a0_0, .int .i64 a0_1, .int .i64 a0_2], .agg #[.int .i64 a1_0, .int .i64 a1_1, .int .i64 a1_2], .agg #[.int .i64 a2_0, .int .i64 a2_1, .int .i64 a2_2]] w fun e w' => e = .returned (.bool r) ∧ Below w.heap.size w w' := by
 have hu27 := Try.underlying27
 have HB := AM (Below.refl w.heap.size w)
 have H : ((rf09_Right.f k (([(⟨a0_0, a0_1, a0_2⟩ : S27), (⟨a1_0, a1_1, a1_2⟩ : S27), (⟨a2_0, a2_1, a2_2⟩ : S27)] : List (S27)))).bind fun t271 => (if t271 = true then ((rf09_Turn.f k a1_0 a1_1 a1_2 a2_0 a2_1 a2_2 a0_0 a0_1 a0_2).bind fun t272 => (if t272 = 0 then ((rf09_within.f a0_0 a1_0 a2_0).bind fun t273 => (if t273 = true then ((rf09_within.f a0_1 a1_1 a2_1).bind fun t274 => (some t274)) else (some false))) else (some false))) else (some false))) = some r := h
 clear h
 obtain ⟨y268, hy268⟩ : ∃ y_ : List (S27), y_ = (([(⟨a0_0, a0_1, a0_2⟩ : S27), (⟨a1_0, a1_1, a1_2⟩ : S27), (⟨a2_0, a2_1, a2_2⟩ : S27)] : List (S27))) := ⟨_, rfl⟩
 replace H : ((rf09_Right.f k y268).bind fun t271 => (if t271 = true then ((rf09_Turn.f k a1_0 a1_1 a1_2 a2_0 a2_1 a2_2 a0_0 a0_1 a0_2).bind fun t272 => (if t272 = 0 then ((rf09_within.f a0_0 a1_0 a2_0).bind fun t273 => (if t273 = true then ((rf09_within.f a0_1 a1_1 a2_1).bind fun t274 => (some t274)) else (some false))) else (some false))) else (some false))) = some r := by first | (rw [hy268]; with_reducible exact H) | (have H2_ := (Option.bind_some _ _).symm.trans H; rw [hy268]; with_reducible exact H2_) | (have H2_ := (Option.bind_some _ _).symm.trans H; with_reducible exact H2_) | with_reducible exact H | (rw [hy268]; exact H) | exact H
 have Ny268 := AM hy268
 clear hy268
 obtain ⟨t271, A4, H⟩ := bS H
 by_cases c5 : t271 = true
 ·subst c5
  have H1 : ((rf09_Turn.f k a1_0 a1_1 a1_2 a2_0 a2_1 a2_2 a0_0 a0_1 a0_2).bind fun t272 => (if t272 = 0 then ((rf09_within.f a0_0 a1_0 a2_0).bind fun t273 => (if t273 = true then ((rf09_within.f a0_1 a1_1 a2_1).bind fun t274 => (some t274)) else (some false))) else (some false))) = some r := by rw [if_pos rfl] at H; exact H
  clear H; have H := H1; clear H1
  obtain ⟨t272, A6, H⟩ := bS H
  by_cases c7 : t272 = 0
  ·rw [if_pos c7] at H
   have c7b0 : (t272 == 0) = true := beq_iff_eq.mpr c7
   have c7b1 : (t272 != 0) = false := bne_eq_false_iff_eq.mpr c7
   clear c7
   obtain ⟨t273, A8, H⟩ := bS H
   by_cases c9 : t273 = true
   ·subst c9
    have H1 : ((rf09_within.f a0_1 a1_1 a2_1).bind fun t274 => (some t274)) = some r := by rw [if_pos rfl] at H; exact H
    clear H; have H := H1; clear H1
    obtain ⟨t274, A10, H⟩ := bS H
    obtain rfl := Option.some.inj H
    go_enter Try.func62, Try.ntmps62
    go_wp2_with (first | ((with_reducible refine gate_dst (N := 3) rfl ?_); refine bE 3 #[.int .i64 a0_0, .int .i64 a0_1, .int .i64 a0_2] 27 ?_; intro gb265 hg w11 hbox hb; have BK265 := AM hbox; have GW265 := kG HB hg; replace HB := kH HB hb; have GE265 := GW265; clear hb hbox hg) | ((with_reducible refine gate_dst (N := 4) rfl ?_); refine bE 4 #[.int .i64 a1_0, .int .i64 a1_1, .int .i64 a1_2] 27 ?_; intro gb266 hg w12 hbox hb; have BK266 := AM hbox; have GW266 := kG HB hg; replace HB := kH HB hb; have GE266 := GW266; have NB265_266 := kN BK265 hg; have NB266_265 := kM BK265 hg; replace BK265 := kB BK265 hb; clear hb hbox hg) | ((with_reducible refine gate_dst (N := 5) rfl ?_); refine bE 5 #[.int .i64 a2_0, .int .i64 a2_1, .int .i64 a2_2] 27 ?_; intro gb267 hg w13 hbox hb; have BK267 := AM hbox; have GW267 := kG HB hg; replace HB := kH HB hb; have GE267 := GW267; have NB265_267 := kN BK265 hg; have NB267_265 := kM BK265 hg; replace BK265 := kB BK265 hb; have NB266_267 := kN BK266 hg; have NB267_266 := kM BK266 hg; replace BK266 := kB BK266 hb; clear hb hbox hg; have hnb14 := NB265_266.out; have hnc14 := NB266_265.out; have hnb15 := NB265_267.out; have hnc15 := NB267_265.out; obtain ⟨hcz16_0, hcz16_1, hcz16_2, hfz16_0, hfz16_1, hfz16_2⟩ := c3 BK265; have hnb17 := NB266_267.out; have hnc17 := NB267_266.out; obtain ⟨hcz18_0, hcz18_1, hcz18_2, hfz18_0, hfz18_1, hfz18_2⟩ := c3 BK266; obtain ⟨hcz19_0, hcz19_1, hcz19_2, hfz19_0, hfz19_1, hfz19_2⟩ := c3 BK267) | ((with_reducible refine gate_dst (N := 10) rfl ?_); refine Kd.R_lit k27 _ 27 ?hg (N := 10) ?hd (xs := ([(⟨a0_0, a0_1, a0_2⟩ : S27), (⟨a1_0, a1_1, a1_2⟩ : S27), (⟨a2_0, a2_1, a2_2⟩ : S27)] : List (S27))) (inner := [.int .i64 a0_0, .int .i64 a0_1, .int .i64 a0_2, .int .i64 a1_0, .int .i64 a1_1, .int .i64 a1_2, .int .i64 a2_0, .int .i64 a2_1, .int .i64 a2_2]) (ok := fun _ => True) (okp := fun _ => True) ?hr ?hp (fun _ hk => hk) trivial (Below.refl _ _) (Nat.le_refl _) (by simp) ?_; (case hd => rfl); (case hg => rfl); (case hr => first | (go_simp; done) | (go_simp; rfl)); (case hp => exact (Reps.c3 (show Kd.M k27 _ _ _ (⟨a0_0, a0_1, a0_2⟩ : S27) [.int .i64 a0_0, .int .i64 a0_1, .int .i64 a0_2] from (k27_mkM _ _ _ (⟨a0_0, a0_1, a0_2⟩ : S27) )) (Reps.c3 (show Kd.M k27 _ _ _ (⟨a1_0, a1_1, a1_2⟩ : S27) [.int .i64 a1_0, .int .i64 a1_1, .int .i64 a1_2] from (k27_mkM _ _ _ (⟨a1_0, a1_1, a1_2⟩ : S27) )) (Reps.c3 (show Kd.M k27 _ _ _ (⟨a2_0, a2_1, a2_2⟩ : S27) [.int .i64 a2_0, .int .i64 a2_1, .int .i64 a2_2] from (k27_mkM _ _ _ (⟨a2_0, a2_1, a2_2⟩ : S27) )) (Reps.none _ _))))); intro v269 w20 ho21 hb hg_ hnew_; clear hg_ hnew_; (first | rw [← Ny268.out] at ho21 | (simp only [Int.reduceToNat] at ho21; rw [← Ny268.out] at ho21)); have HO270 := AM (Kd.R_lower (Kd.R_newB (Kd.R_newB (Kd.R_newB ho21 (g := gb265) (o := .cells #[.int .i64 a0_0, .int .i64 a0_1, .int .i64 a0_2] 27 (0, 0)) (bK BK265)) (g := gb266) (o := .cells #[.int .i64 a1_0, .int .i64 a1_1, .int .i64 a1_2] 27 (0, 0)) (bK BK266)) (g := gb267) (o := .cells #[.int .i64 a2_0, .int .i64 a2_1, .int .i64 a2_2] 27 (0, 0)) (bK BK267)) (below_size (bH HB))); replace BK265 := kB BK265 hb; replace BK266 := kB BK266 hb; replace BK267 := kB BK267 hb; replace HB := kH HB hb; clear hb ho21; obtain ⟨Ao22, co22, eo22⟩ := Kd.R_slice HO270.out; subst eo22) | ((with_reducible refine gate_callee (f := 22) rfl ?_); refine gL (some 11) Try.func22 #[.slice Ao22 y268.length co22] ?_; (with_reducible refine (rf09_Right.calls k _ _ y268 true _ ?side1 ?side2 A4.out).mono ?_); (case side1 => exact sR HO270); (case side2 => exact (Kd.R_reads' HO270.out).2.1); rintro e w23 ⟨rfl, hb⟩; refine ⟨_, rfl, ?_⟩; replace HO270 := kR HO270 hb; replace BK265 := kB BK265 hb; replace BK266 := kB BK266 hb; replace BK267 := kB BK267 hb; replace HB := kH HB hb; (try clear hb); (try clear hb2); (try clear hk); (try clear hi); obtain ⟨hcz24_0, hcz24_1, hcz24_2, hfz24_0, hfz24_1, hfz24_2⟩ := c3 BK266; obtain ⟨hcz25_0, hcz25_1, hcz25_2, hfz25_0, hfz25_1, hfz25_2⟩ := c3 BK267; obtain ⟨hcz26_0, hcz26_1, hcz26_2, hfz26_0, hfz26_1, hfz26_2⟩ := c3 BK265) | (go_at_call 63; (with_reducible refine (rf09_Turn.calls k a1_0 a1_1 a1_2 a2_0 a2_1 a2_2 a0_0 a0_1 a0_2 t272 _ A6.out).mono ?_); rintro e w27 ⟨rfl, hb⟩; replace HO270 := kR HO270 hb; replace BK265 := kB BK265 hb; replace BK266 := kB BK266 hb; replace BK267 := kB BK267 hb; replace HB := kH HB hb; (try clear hb); (try clear hb2); (try clear hk); (try clear hi); obtain ⟨hcz28_0, hcz28_1, hcz28_2, hfz28_0, hfz28_1, hfz28_2⟩ := c3 BK265; obtain ⟨hcz29_0, hcz29_1, hcz29_2, hfz29_0, hfz29_1, hfz29_2⟩ := c3 BK266; obtain ⟨hcz30_0, hcz30_1, hcz30_2, hfz30_0, hfz30_1, hfz30_2⟩ := c3 BK267) | (go_at_call 79; (with_reducible refine (rf09_within.calls a0_0 a1_0 a2_0 true _ A8.out).mono ?_); rintro e w' ⟨rfl, ⟨nd, rfl⟩⟩) | (go_at_call 79; (with_reducible refine (rf09_within.calls a0_1 a1_1 a2_1 t274 _ A10.out).mono ?_); rintro e w' ⟨rfl, ⟨nd, rfl⟩⟩))
    go_ret
    exact ⟨rE, bH HB⟩
   ·replace c9 := Bool.eq_false_iff.mpr c9
    subst c9
    have H1 : (some false) = some r := by rw [if_neg (show ¬ (false = true) by decide)] at H; exact H
    clear H; have H := H1; clear H1
    obtain rfl := Option.some.inj H
    go_enter Try.func62, Try.ntmps62
    go_wp2_with (first | ((with_reducible refine gate_dst (N := 3) rfl ?_); refine bE 3 #[.int .i64 a0_0, .int .i64 a0_1, .int .i64 a0_2] 27 ?_; intro gb265 hg w31 hbox hb; have BK265 := AM hbox; have GW265 := kG HB hg; replace HB := kH HB hb; have GE265 := GW265; clear hb hbox hg) | ((with_reducible refine gate_dst (N := 4) rfl ?_); refine bE 4 #[.int .i64 a1_0, .int .i64 a1_1, .int .i64 a1_2] 27 ?_; intro gb266 hg w32 hbox hb; have BK266 := AM hbox; have GW266 := kG HB hg; replace HB := kH HB hb; have GE266 := GW266; have NB265_266 := kN BK265 hg; have NB266_265 := kM BK265 hg; replace BK265 := kB BK265 hb; clear hb hbox hg) | ((with_reducible refine gate_dst (N := 5) rfl ?_); refine bE 5 #[.int .i64 a2_0, .int .i64 a2_1, .int .i64 a2_2] 27 ?_; intro gb267 hg w33 hbox hb; have BK267 := AM hbox; have GW267 := kG HB hg; replace HB := kH HB hb; have GE267 := GW267; have NB265_267 := kN BK265 hg; have NB267_265 := kM BK265 hg; replace BK265 := kB BK265 hb; have NB266_267 := kN BK266 hg; have NB267_266 := kM BK266 hg; replace BK266 := kB BK266 hb; clear hb hbox hg; have hnb34 := NB265_266.out; have hnc34 := NB266_265.out; have hnb35 := NB265_267.out; have hnc35 := NB267_265.out; obtain ⟨hcz36_0, hcz36_1, hcz36_2, hfz36_0, hfz36_1, hfz36_2⟩ := c3 BK265; have hnb37 := NB266_267.out; have hnc37 := NB267_266.out; obtain ⟨hcz38_0, hcz38_1, hcz38_2, hfz38_0, hfz38_1, hfz38_2⟩ := c3 BK266; obtain ⟨hcz39_0, hcz39_1, hcz39_2, hfz39_0, hfz39_1, hfz39_2⟩ := c3 BK267) | ((with_reducible refine gate_dst (N := 10) rfl ?_); refine Kd.R_lit k27 _ 27 ?hg (N := 10) ?hd (xs := ([(⟨a0_0, a0_1, a0_2⟩ : S27), (⟨a1_0, a1_1, a1_2⟩ : S27), (⟨a2_0, a2_1, a2_2⟩ : S27)] : List (S27))) (inner := [.int .i64 a0_0, .int .i64 a0_1, .int .i64 a0_2, .int .i64 a1_0, .int .i64 a1_1, .int .i64 a1_2, .int .i64 a2_0, .int .i64 a2_1, .int .i64 a2_2]) (ok := fun _ => True) (okp := fun _ => True) ?hr ?hp (fun _ hk => hk) trivial (Below.refl _ _) (Nat.le_refl _) (by simp) ?_; (case hd => rfl); (case hg => rfl); (case hr => first | (go_simp; done) | (go_simp; rfl)); (case hp => exact (Reps.c3 (show Kd.M k27 _ _ _ (⟨a0_0, a0_1, a0_2⟩ : S27) [.int .i64 a0_0, .int .i64 a0_1, .int .i64 a0_2] from (k27_mkM _ _ _ (⟨a0_0, a0_1, a0_2⟩ : S27) )) (Reps.c3 (show Kd.M k27 _ _ _ (⟨a1_0, a1_1, a1_2⟩ : S27) [.int .i64 a1_0, .int .i64 a1_1, .int .i64 a1_2] from (k27_mkM _ _ _ (⟨a1_0, a1_1, a1_2⟩ : S27) )) (Reps.c3 (show Kd.M k27 _ _ _ (⟨a2_0, a2_1, a2_2⟩ : S27) [.int .i64 a2_0, .int .i64 a2_1, .int .i64 a2_2] from (k27_mkM _ _ _ (⟨a2_0, a2_1, a2_2⟩ : S27) )) (Reps.none _ _))))); intro v269 w40 ho41 hb hg_ hnew_; clear hg_ hnew_; (first | rw [← Ny268.out] at ho41 | (simp only [Int.reduceToNat] at ho41; rw [← Ny268.out] at ho41)); have HO270 := AM (Kd.R_lower (Kd.R_newB (Kd.R_newB (Kd.R_newB ho41 (g := gb265) (o := .cells #[.int .i64 a0_0, .int .i64 a0_1, .int .i64 a0_2] 27 (0, 0)) (bK BK265)) (g := gb266) (o := .cells #[.int .i64 a1_0, .int .i64 a1_1, .int .i64 a1_2] 27 (0, 0)) (bK BK266)) (g := gb267) (o := .cells #[.int .i64 a2_0, .int .i64 a2_1, .int .i64 a2_2] 27 (0, 0)) (bK BK267)) (below_size (bH HB))); replace BK265 := kB BK265 hb; replace BK266 := kB BK266 hb; replace BK267 := kB BK267 hb; replace HB := kH HB hb; clear hb ho41; obtain ⟨Ao42, co42, eo42⟩ := Kd.R_slice HO270.out; subst eo42) | ((with_reducible refine gate_callee (f := 22) rfl ?_); refine gL (some 11) Try.func22 #[.slice Ao42 y268.length co42] ?_; (with_reducible refine (rf09_Right.calls k _ _ y268 true _ ?side1 ?side2 A4.out).mono ?_); (case side1 => exact sR HO270); (case side2 => exact (Kd.R_reads' HO270.out).2.1); rintro e w43 ⟨rfl, hb⟩; refine ⟨_, rfl, ?_⟩; replace HO270 := kR HO270 hb; replace BK265 := kB BK265 hb; replace BK266 := kB BK266 hb; replace BK267 := kB BK267 hb; replace HB := kH HB hb; (try clear hb); (try clear hb2); (try clear hk); (try clear hi); obtain ⟨hcz44_0, hcz44_1, hcz44_2, hfz44_0, hfz44_1, hfz44_2⟩ := c3 BK266; obtain ⟨hcz45_0, hcz45_1, hcz45_2, hfz45_0, hfz45_1, hfz45_2⟩ := c3 BK267; obtain ⟨hcz46_0, hcz46_1, hcz46_2, hfz46_0, hfz46_1, hfz46_2⟩ := c3 BK265) | (go_at_call 63; (with_reducible refine (rf09_Turn.calls k a1_0 a1_1 a1_2 a2_0 a2_1 a2_2 a0_0 a0_1 a0_2 t272 _ A6.out).mono ?_); rintro e w47 ⟨rfl, hb⟩; replace HO270 := kR HO270 hb; replace BK265 := kB BK265 hb; replace BK266 := kB BK266 hb; replace BK267 := kB BK267 hb; replace HB := kH HB hb; (try clear hb); (try clear hb2); (try clear hk); (try clear hi); obtain ⟨hcz48_0, hcz48_1, hcz48_2, hfz48_0, hfz48_1, hfz48_2⟩ := c3 BK265; obtain ⟨hcz49_0, hcz49_1, hcz49_2, hfz49_0, hfz49_1, hfz49_2⟩ := c3 BK266; obtain ⟨hcz50_0, hcz50_1, hcz50_2, hfz50_0, hfz50_1, hfz50_2⟩ := c3 BK267) | (go_at_call 79; (with_reducible refine (rf09_within.calls a0_0 a1_0 a2_0 false _ A8.out).mono ?_); rintro e w' ⟨rfl, ⟨nd, rfl⟩⟩))
    go_ret
    exact ⟨rE, bH HB⟩
  ·rw [if_neg c7] at H
   have c7b0 : (t272 == 0) = false := beq_eq_false_iff_ne.mpr c7
   have c7b1 : (t272 != 0) = true := bne_iff_ne.mpr c7
   obtain rfl := Option.some.inj H
   go_enter Try.func62, Try.ntmps62
   go_wp2_with (first | ((with_reducible refine gate_dst (N := 3) rfl ?_); refine bE 3 #[.int .i64 a0_0, .int .i64 a0_1, .int .i64 a0_2] 27 ?_; intro gb265 hg w51 hbox hb; have BK265 := AM hbox; have GW265 := kG HB hg; replace HB := kH HB hb; have GE265 := GW265; clear hb hbox hg) | ((with_reducible refine gate_dst (N := 4) rfl ?_); refine bE 4 #[.int .i64 a1_0, .int .i64 a1_1, .int .i64 a1_2] 27 ?_; intro gb266 hg w52 hbox hb; have BK266 := AM hbox; have GW266 := kG HB hg; replace HB := kH HB hb; have GE266 := GW266; have NB265_266 := kN BK265 hg; have NB266_265 := kM BK265 hg; replace BK265 := kB BK265 hb; clear hb hbox hg) | ((with_reducible refine gate_dst (N := 5) rfl ?_); refine bE 5 #[.int .i64 a2_0, .int .i64 a2_1, .int .i64 a2_2] 27 ?_; intro gb267 hg w53 hbox hb; have BK267 := AM hbox; have GW267 := kG HB hg; replace HB := kH HB hb; have GE267 := GW267; have NB265_267 := kN BK265 hg; have NB267_265 := kM BK265 hg; replace BK265 := kB BK265 hb; have NB266_267 := kN BK266 hg; have NB267_266 := kM BK266 hg; replace BK266 := kB BK266 hb; clear hb hbox hg; have hnb54 := NB265_266.out; have hnc54 := NB266_265.out; have hnb55 := NB265_267.out; have hnc55 := NB267_265.out; obtain ⟨hcz56_0, hcz56_1, hcz56_2, hfz56_0, hfz56_1, hfz56_2⟩ := c3 BK265; have hnb57 := NB266_267.out; have hnc57 := NB267_266.out; obtain ⟨hcz58_0, hcz58_1, hcz58_2, hfz58_0, hfz58_1, hfz58_2⟩ := c3 BK266; obtain ⟨hcz59_0, hcz59_1, hcz59_2, hfz59_0, hfz59_1, hfz59_2⟩ := c3 BK267) | ((with_reducible refine gate_dst (N := 10) rfl ?_); refine Kd.R_lit k27 _ 27 ?hg (N := 10) ?hd (xs := ([(⟨a0_0, a0_1, a0_2⟩ : S27), (⟨a1_0, a1_1, a1_2⟩ : S27), (⟨a2_0, a2_1, a2_2⟩ : S27)] : List (S27))) (inner := [.int .i64 a0_0, .int .i64 a0_1, .int .i64 a0_2, .int .i64 a1_0, .int .i64 a1_1, .int .i64 a1_2, .int .i64 a2_0, .int .i64 a2_1, .int .i64 a2_2]) (ok := fun _ => True) (okp := fun _ => True) ?hr ?hp (fun _ hk => hk) trivial (Below.refl _ _) (Nat.le_refl _) (by simp) ?_; (case hd => rfl); (case hg => rfl); (case hr => first | (go_simp; done) | (go_simp; rfl)); (case hp => exact (Reps.c3 (show Kd.M k27 _ _ _ (⟨a0_0, a0_1, a0_2⟩ : S27) [.int .i64 a0_0, .int .i64 a0_1, .int .i64 a0_2] from (k27_mkM _ _ _ (⟨a0_0, a0_1, a0_2⟩ : S27) )) (Reps.c3 (show Kd.M k27 _ _ _ (⟨a1_0, a1_1, a1_2⟩ : S27) [.int .i64 a1_0, .int .i64 a1_1, .int .i64 a1_2] from (k27_mkM _ _ _ (⟨a1_0, a1_1, a1_2⟩ : S27) )) (Reps.c3 (show Kd.M k27 _ _ _ (⟨a2_0, a2_1, a2_2⟩ : S27) [.int .i64 a2_0, .int .i64 a2_1, .int .i64 a2_2] from (k27_mkM _ _ _ (⟨a2_0, a2_1, a2_2⟩ : S27) )) (Reps.none _ _))))); intro v269 w60 ho61 hb hg_ hnew_; clear hg_ hnew_; (first | rw [← Ny268.out] at ho61 | (simp only [Int.reduceToNat] at ho61; rw [← Ny268.out] at ho61)); have HO270 := AM (Kd.R_lower (Kd.R_newB (Kd.R_newB (Kd.R_newB ho61 (g := gb265) (o := .cells #[.int .i64 a0_0, .int .i64 a0_1, .int .i64 a0_2] 27 (0, 0)) (bK BK265)) (g := gb266) (o := .cells #[.int .i64 a1_0, .int .i64 a1_1, .int .i64 a1_2] 27 (0, 0)) (bK BK266)) (g := gb267) (o := .cells #[.int .i64 a2_0, .int .i64 a2_1, .int .i64 a2_2] 27 (0, 0)) (bK BK267)) (below_size (bH HB))); replace BK265 := kB BK265 hb; replace BK266 := kB BK266 hb; replace BK267 := kB BK267 hb; replace HB := kH HB hb; clear hb ho61; obtain ⟨Ao62, co62, eo62⟩ := Kd.R_slice HO270.out; subst eo62) | ((with_reducible refine gate_callee (f := 22) rfl ?_); refine gL (some 11) Try.func22 #[.slice Ao62 y268.length co62] ?_; (with_reducible refine (rf09_Right.calls k _ _ y268 true _ ?side1 ?side2 A4.out).mono ?_); (case side1 => exact sR HO270); (case side2 => exact (Kd.R_reads' HO270.out).2.1); rintro e w63 ⟨rfl, hb⟩; refine ⟨_, rfl, ?_⟩; replace HO270 := kR HO270 hb; replace BK265 := kB BK265 hb; replace BK266 := kB BK266 hb; replace BK267 := kB BK267 hb; replace HB := kH HB hb; (try clear hb); (try clear hb2); (try clear hk); (try clear hi); obtain ⟨hcz64_0, hcz64_1, hcz64_2, hfz64_0, hfz64_1, hfz64_2⟩ := c3 BK266; obtain ⟨hcz65_0, hcz65_1, hcz65_2, hfz65_0, hfz65_1, hfz65_2⟩ := c3 BK267; obtain ⟨hcz66_0, hcz66_1, hcz66_2, hfz66_0, hfz66_1, hfz66_2⟩ := c3 BK265) | (go_at_call 63; (with_reducible refine (rf09_Turn.calls k a1_0 a1_1 a1_2 a2_0 a2_1 a2_2 a0_0 a0_1 a0_2 t272 _ A6.out).mono ?_); rintro e w67 ⟨rfl, hb⟩; replace HO270 := kR HO270 hb; replace BK265 := kB BK265 hb; replace BK266 := kB BK266 hb; replace BK267 := kB BK267 hb; replace HB := kH HB hb; (try clear hb); (try clear hb2); (try clear hk); (try clear hi)))
   go_ret
   exact ⟨rE, bH HB⟩
 ·replace c5 := Bool.eq_false_iff.mpr c5
  subst c5
  have H1 : (some false) = some r := by rw [if_neg (show ¬ (false = true) by decide)] at H; exact H
  clear H; have H := H1; clear H1
  obtain rfl := Option.some.inj H
  go_enter Try.func62, Try.ntmps62
  go_wp2_with (first | ((with_reducible refine gate_dst (N := 3) rfl ?_); refine bE 3 #[.int .i64 a0_0, .int .i64 a0_1, .int .i64 a0_2] 27 ?_; intro gb265 hg w68 hbox hb; have BK265 := AM hbox; have GW265 := kG HB hg; replace HB := kH HB hb; have GE265 := GW265; clear hb hbox hg) | ((with_reducible refine gate_dst (N := 4) rfl ?_); refine bE 4 #[.int .i64 a1_0, .int .i64 a1_1, .int .i64 a1_2] 27 ?_; intro gb266 hg w69 hbox hb; have BK266 := AM hbox; have GW266 := kG HB hg; replace HB := kH HB hb; have GE266 := GW266; have NB265_266 := kN BK265 hg; have NB266_265 := kM BK265 hg; replace BK265 := kB BK265 hb; clear hb hbox hg) | ((with_reducible refine gate_dst (N := 5) rfl ?_); refine bE 5 #[.int .i64 a2_0, .int .i64 a2_1, .int .i64 a2_2] 27 ?_; intro gb267 hg w70 hbox hb; have BK267 := AM hbox; have GW267 := kG HB hg; replace HB := kH HB hb; have GE267 := GW267; have NB265_267 := kN BK265 hg; have NB267_265 := kM BK265 hg; replace BK265 := kB BK265 hb; have NB266_267 := kN BK266 hg; have NB267_266 := kM BK266 hg; replace BK266 := kB BK266 hb; clear hb hbox hg; have hnb71 := NB265_266.out; have hnc71 := NB266_265.out; have hnb72 := NB265_267.out; have hnc72 := NB267_265.out; obtain ⟨hcz73_0, hcz73_1, hcz73_2, hfz73_0, hfz73_1, hfz73_2⟩ := c3 BK265; have hnb74 := NB266_267.out; have hnc74 := NB267_266.out; obtain ⟨hcz75_0, hcz75_1, hcz75_2, hfz75_0, hfz75_1, hfz75_2⟩ := c3 BK266; obtain ⟨hcz76_0, hcz76_1, hcz76_2, hfz76_0, hfz76_1, hfz76_2⟩ := c3 BK267) | ((with_reducible refine gate_dst (N := 10) rfl ?_); refine Kd.R_lit k27 _ 27 ?hg (N := 10) ?hd (xs := ([(⟨a0_0, a0_1, a0_2⟩ : S27), (⟨a1_0, a1_1, a1_2⟩ : S27), (⟨a2_0, a2_1, a2_2⟩ : S27)] : List (S27))) (inner := [.int .i64 a0_0, .int .i64 a0_1, .int .i64 a0_2, .int .i64 a1_0, .int .i64 a1_1, .int .i64 a1_2, .int .i64 a2_0, .int .i64 a2_1, .int .i64 a2_2]) (ok := fun _ => True) (okp := fun _ => True) ?hr ?hp (fun _ hk => hk) trivial (Below.refl _ _) (Nat.le_refl _) (by simp) ?_; (case hd => rfl); (case hg => rfl); (case hr => first | (go_simp; done) | (go_simp; rfl)); (case hp => exact (Reps.c3 (show Kd.M k27 _ _ _ (⟨a0_0, a0_1, a0_2⟩ : S27) [.int .i64 a0_0, .int .i64 a0_1, .int .i64 a0_2] from (k27_mkM _ _ _ (⟨a0_0, a0_1, a0_2⟩ : S27) )) (Reps.c3 (show Kd.M k27 _ _ _ (⟨a1_0, a1_1, a1_2⟩ : S27) [.int .i64 a1_0, .int .i64 a1_1, .int .i64 a1_2] from (k27_mkM _ _ _ (⟨a1_0, a1_1, a1_2⟩ : S27) )) (Reps.c3 (show Kd.M k27 _ _ _ (⟨a2_0, a2_1, a2_2⟩ : S27) [.int .i64 a2_0, .int .i64 a2_1, .int .i64 a2_2] from (k27_mkM _ _ _ (⟨a2_0, a2_1, a2_2⟩ : S27) )) (Reps.none _ _))))); intro v269 w77 ho78 hb hg_ hnew_; clear hg_ hnew_; (first | rw [← Ny268.out] at ho78 | (simp only [Int.reduceToNat] at ho78; rw [← Ny268.out] at ho78)); have HO270 := AM (Kd.R_lower (Kd.R_newB (Kd.R_newB (Kd.R_newB ho78 (g := gb265) (o := .cells #[.int .i64 a0_0, .int .i64 a0_1, .int .i64 a0_2] 27 (0, 0)) (bK BK265)) (g := gb266) (o := .cells #[.int .i64 a1_0, .int .i64 a1_1, .int .i64 a1_2] 27 (0, 0)) (bK BK266)) (g := gb267) (o := .cells #[.int .i64 a2_0, .int .i64 a2_1, .int .i64 a2_2] 27 (0, 0)) (bK BK267)) (below_size (bH HB))); replace BK265 := kB BK265 hb; replace BK266 := kB BK266 hb; replace BK267 := kB BK267 hb; replace HB := kH HB hb; clear hb ho78; obtain ⟨Ao79, co79, eo79⟩ := Kd.R_slice HO270.out; subst eo79) | ((with_reducible refine gate_callee (f := 22) rfl ?_); refine gL (some 11) Try.func22 #[.slice Ao79 y268.length co79] ?_; (with_reducible refine (rf09_Right.calls k _ _ y268 false _ ?side1 ?side2 A4.out).mono ?_); (case side1 => exact sR HO270); (case side2 => exact (Kd.R_reads' HO270.out).2.1); rintro e w80 ⟨rfl, hb⟩; refine ⟨_, rfl, ?_⟩; replace HO270 := kR HO270 hb; replace BK265 := kB BK265 hb; replace BK266 := kB BK266 hb; replace BK267 := kB BK267 hb; replace HB := kH HB hb; (try clear hb); (try clear hb2); (try clear hk); (try clear hi)))
  go_ret
  exact ⟨rE, bH HB⟩
end Go.Proofs.Ytbonkedecfjmdaa.P
