/- Written for this claim by a program of this session (a turned copy of the print): Go functions as Lean functions, and that the Go code comes to just these answers; or a statement proved out of them. No condition. What is long, and a map's copy: the values. No condition. Rows of rows in memory, as the headers that stand there: cut, and laid behind one another. No condition. -/
import Derived.Test.YtbonkedecfjmdaaZ2
import Derived.Test.YtbonkedecfjmdaaZ22
import Derived.Test.YtbonkedecfjmdaaZ16
import Derived.Test.YtbonkedecfjmdaaZ1

namespace Go.Proofs.Ytbonkedecfjmdaa.P
open Go.RowKit Go.Proofs.YtbonkedecfjmdaaW.PrintWords Go.Proofs.YtbonkedecfjmdaaW.PrintLast Go.Proofs.YtbonkedecfjmdaaW.PrintMore Go.Proofs.Ytbonkedecfjmdaa.X
attribute [local go_sem] max2_int min2_int max_two min_two max_three min_three max_four min_four add64_0 add64_1 add64   -- for this text's walks alone
set_option linter.unusedVariables false
set_option linter.unusedSimpArgs false

/-! ### ring_Copy: function 23 -/
def ring_Copy.f (k : Nat) (l0_0 : List (List (S27))) (l0_1 : List (List Int)) (l0_2 : List (List Int)) : Option ((List (List (S27))) × (List (List Int)) × (List (List Int))) := (api_Point_51.f k l0_0).bind fun t870 => ((ring_cloned_int.f k l0_1).bind fun t873 => ((ring_cloned_int.f k l0_2).bind fun t876 => (some (t870, t873, t876))))
theorem ring_Copy.mono : ∀ a0 a1 a2 k, LeO (ring_Copy.f k a0 a1 a2) (ring_Copy.f (k + 1) a0 a1 a2) := by
 intro a0 a1 a2 k
 unfold ring_Copy.f
 repeat' first
   | (with_reducible exact api_Point_51.mono _ _)
   | (with_reducible exact ring_cloned_int.mono _ _)
   | (with_reducible exact LeO.refl _)
   | (with_reducible exact LeO.none _)
   | (with_reducible refine LeO.ite ?_ ?_)
   | (with_reducible refine LeO.bind ?_ (fun _ => ?_))
   | exact api_Point_51.mono _ _
   | exact ring_cloned_int.mono _ _
   | exact LeO.none _
   | refine LeO.ite ?_ ?_
   | refine LeO.bind ?_ (fun _ => ?_)
def ring_Copy.T1 : Bool × List (List Nat × List Nat) := (true, [([], []), ([0], [0]), ([1], [1]), ([], []), ([3], [3]), ([4, 2], [4]), ([], []), ([6], [6]), ([7, 5], [7]), ([2, 5, 8], [2, 5, 8]), ([9, 8, 0, 1, 2, 3, 4, 5, 6, 7, 8, 9], [9])])
def ring_Copy.B1 : List Nat := [0, 1, 3, 0, 8, 31, 0, 64, 255, 511, 1023]
theorem ring_Copy.tab1 : rtab .any (opsOf Try.f23 1) = ring_Copy.T1 := by kernel_rfl
theorem ring_Copy.bits1 : waitsOk ring_Copy.T1.2 ring_Copy.B1 = true := by kernel_rfl
set_option maxHeartbeats 8000000 in
set_option maxRecDepth 100000 in
theorem ring_Copy.calls (k : Nat) (A0_0 : Option Addr) (c0_0 : Nat) (l0_0 : List (List (S27))) (A0_1 : Option Addr) (c0_1 : Nat) (l0_1 : List (List Int)) (A0_2 : Option Addr) (c0_2 : Nat) (l0_2 : List (List Int)) (r1 : List (List (S27))) (r2 : List (List Int)) (r3 : List (List Int)) (w : World) (hr0_0 : Kd.C (Kd.slice 27 k27) w A0_0 l0_0.length l0_0) (hc0_0 : l0_0.length ≤ c0_0) (hr0_1 : Kd.C (Kd.slice 3 (Kd.int .i64)) w A0_1 l0_1.length l0_1) (hc0_1 : l0_1.length ≤ c0_1) (hr0_2 : Kd.C (Kd.slice 3 (Kd.int .i64)) w A0_2 l0_2.length l0_2) (hc0_2 : l0_2.length ≤ c0_2) (h : ring_Copy.f k l0_0 l0_1 l0_2 = some (r1, r2, r3)) :
  Calls Try.prog 23 #[.agg #[.slice A0_0 l0_0.length c0_0, .slice A0_1 l0_1.length c0_1, .slice A0_2 l0_2.length c0_2]] w fun e w' => ∃ v0_ v1_ v2_ : Value, e = .returned (.agg #[v0_, v1_, v2_]) ∧ Kd.S (Kd.slice 27 k27) 31 w' w.heap.size (fun _ => True) v0_ r1 ∧ Kd.S (Kd.slice 3 (Kd.int .i64)) 32 w' w.heap.size (fun k_ => some k_ ≠ (v2_ : Value).ownBlock) v1_ r2 ∧ Kd.S (Kd.slice 3 (Kd.int .i64)) 32 w' w.heap.size (fun k_ => some k_ ≠ (v1_ : Value).ownBlock) v2_ r3 ∧ Below w.heap.size w w' := by
 have hu25 := Try.underlying25
 have HR0_0 := Aside0.mk hr0_0
 have HC0_0 := Aside0.mk hc0_0
 clear hr0_0 hc0_0
 have HR0_1 := Aside0.mk hr0_1
 have HC0_1 := Aside0.mk hc0_1
 clear hr0_1 hc0_1
 have HR0_2 := Aside0.mk hr0_2
 have HC0_2 := Aside0.mk hc0_2
 clear hr0_2 hc0_2
 have HB := Aside0.mk (Below.refl w.heap.size w)
 have H : ((api_Point_51.f k l0_0).bind fun t870 => ((ring_cloned_int.f k l0_1).bind fun t873 => ((ring_cloned_int.f k l0_2).bind fun t876 => (some (t870, t873, t876))))) = some (r1, r2, r3) := h
 clear h
 replace H := Option.bind_eq_some_iff.mp H
 obtain ⟨t870, A20, H⟩ := H
 replace H : ((ring_cloned_int.f k l0_1).bind fun t873 => ((ring_cloned_int.f k l0_2).bind fun t876 => (some (t870, t873, t876)))) = some (r1, r2, r3) := H
 have A2 := Aside0.mk A20
 clear A20
 replace H := Option.bind_eq_some_iff.mp H
 obtain ⟨t873, A30, H⟩ := H
 replace H : ((ring_cloned_int.f k l0_2).bind fun t876 => (some (t870, t873, t876))) = some (r1, r2, r3) := H
 have A3 := Aside0.mk A30
 clear A30
 replace H := Option.bind_eq_some_iff.mp H
 obtain ⟨t876, A40, H⟩ := H
 replace H : (some (t870, t873, t876)) = some (r1, r2, r3) := H
 have A4 := Aside0.mk A40
 clear A40
 simp only [Option.some.injEq, Prod.mk.injEq] at H
 obtain ⟨rfl, rfl, rfl⟩ := H
 go_enter Try.func23, Try.ntmps23
 try go_wp2_with (first | ((with_reducible refine gate_dst (N := 1) rfl ?_); refine box_event ?hg (N := 1) ?hd (cs := #[.slice A0_0 l0_0.length c0_0, .slice A0_1 l0_1.length c0_1, .slice A0_2 l0_2.length c0_2]) (t := 25) ?hr ?_; (case hd => rfl); (case hg => rfl); (case hr => first | (go_simp; done) | (go_simp; rfl)); intro gb868 hg w5 hbox hb; have n0_ := Aside0.mk (below_step (bH HB) hb); have n1_ := Aside0.mk (hbox); have n2_ := Aside0.mk ((by rw [hg]; exact (below_size (bH HB)) : w.heap.size ≤ gb868)); have n3_ := n2_; clear HB; have HB := n0_; have BK868 := n1_; have GW868 := n2_; have GE868 := n3_; clear n0_ n1_ n2_ n3_; clear hb hbox hg) | ((with_reducible refine gate_dst (N := 2) rfl ?_); refine box_event ?hg (N := 2) ?hd (cs := #[.slice none 0 0, .slice none 0 0, .slice none 0 0]) (t := 25) ?hr ?_; (case hd => rfl); (case hg => rfl); (case hr => first | (go_simp; done) | (go_simp; rfl)); intro gb869 hg w6 hbox hb; have n0_ := Aside0.mk (blk_below (g := gb868) (o := .cells #[.slice A0_0 l0_0.length c0_0, .slice A0_1 l0_1.length c0_1, .slice A0_2 l0_2.length c0_2] 25 (0, 0)) (bK BK868) hb); have n1_ := Aside0.mk (below_step (bH HB) hb); have n2_ := Aside0.mk (hbox); have n3_ := Aside0.mk ((by rw [hg]; exact (below_size (bH HB)) : w.heap.size ≤ gb869)); have n4_ := n3_; have n5_ := Aside0.mk ((by rw [hg]; exact Nat.ne_of_lt (blk_lt (bK BK868)) : gb868 ≠ gb869)); have n6_ := Aside0.mk ((by rw [hg]; exact Nat.ne_of_gt (blk_lt (bK BK868)) : gb869 ≠ gb868)); clear BK868; clear HB; have BK868 := n0_; have HB := n1_; have BK869 := n2_; have GW869 := n3_; have GE869 := n4_; have NB868_869 := n5_; have NB869_868 := n6_; clear n0_ n1_ n2_ n3_ n4_ n5_ n6_; clear hb hbox hg))
 have n0_ := Aside0.mk (blk_drew BK868.out)
 have n1_ := Aside0.mk (blk_drew BK869.out)
 have n2_ := Aside0.mk (below_drew1 HB.out)
 clear BK868
 clear BK869
 clear HB
 have BK868 := n0_
 have BK869 := n1_
 have HB := n2_
 clear n0_ n1_ n2_
 refine start_ (n := 11) (S := fun w' => w'.cell? ⟨gb868, 0, none⟩ = some (.slice A0_0 l0_0.length c0_0) ∧ w'.cell? ⟨gb868, 1, none⟩ = some (.slice A0_1 l0_1.length c0_1) ∧ w'.cell? ⟨gb868, 2, none⟩ = some (.slice A0_2 l0_2.length c0_2)) (ds := []) #[false, false, false, false, false, false, false, false, false, false, false] (by kernel_rfl) rfl rfl ⟨(blk_cell BK868.out 0).trans rfl, (blk_cell BK868.out 1).trans rfl, (blk_cell BK868.out 2).trans rfl⟩ (fun hHeld => ?_); refine with_tabW ring_Copy.tab1 ring_Copy.bits1 (fun HT_ HW_ => ?_)
 generalize w6.drew = w7 at BK868 BK869 HB hHeld ⊢
 refine pure_ (i := 0) (N := some 3) (v := ?_) (a' := ?_) #[true, false, false, false, false, false, false, false, false, false, false] rfl rfl (any_of HT_.out (by kernel_rfl)) (fun _ _ _ h => h) (Or.inl ⟨by rfl, ?_⟩) ?_ ?_
 rotate_left
 ·intro w'
  go_simp
  with_reducible rfl
 rotate_left
 ·simp only [Act.put, List.setIfInBounds_toArray, List.set_cons_zero, List.set_cons_succ, i64_w, i32_w]
  rfl
 refine pure_ (i := 3) (N := some 6) (v := ?_) (a' := ?_) #[true, false, false, true, false, false, false, false, false, false, false] rfl rfl (any_of HT_.out (by kernel_rfl)) (fun _ _ _ h => h) (Or.inl ⟨by rfl, ?_⟩) ?_ ?_
 rotate_left
 ·intro w'
  go_simp
  with_reducible rfl
 rotate_left
 ·simp only [Act.put, List.setIfInBounds_toArray, List.set_cons_zero, List.set_cons_succ, i64_w, i32_w]
  rfl
 refine pure_ (i := 6) (N := some 9) (v := ?_) (a' := ?_) #[true, false, false, true, false, false, true, false, false, false, false] rfl rfl (any_of HT_.out (by kernel_rfl)) (fun _ _ _ h => h) (Or.inl ⟨by rfl, ?_⟩) ?_ ?_
 rotate_left
 ·intro w'
  go_simp
  with_reducible rfl
 rotate_left
 ·simp only [Act.put, List.setIfInBounds_toArray, List.set_cons_zero, List.set_cons_succ, i64_w, i32_w]
  rfl
 refine take_ (i := 1) (N := some 4) (v := ?_) (a' := ?_) #[true, true, false, true, false, false, true, false, false, false, false] rfl rfl (take_ofW HT_.out HW_.out (by kernel_rfl)) (fun _ _ _ h => h) (Or.inl ⟨by rfl, ?_⟩) hHeld ?_ ?_
 rotate_left
 ·rintro w' ⟨s0, s1, s2⟩
  go_simp
  with_reducible rfl
 rotate_left
 ·simp only [Act.put, List.setIfInBounds_toArray, List.set_cons_zero, List.set_cons_succ, i64_w, i32_w]
  rfl
 refine take_ (i := 4) (N := some 7) (v := ?_) (a' := ?_) #[true, true, false, true, true, false, true, false, false, false, false] rfl rfl (take_ofW HT_.out HW_.out (by kernel_rfl)) (fun _ _ _ h => h) (Or.inl ⟨by rfl, ?_⟩) hHeld ?_ ?_
 rotate_left
 ·rintro w' ⟨s0, s1, s2⟩
  go_simp
  with_reducible rfl
 rotate_left
 ·simp only [Act.put, List.setIfInBounds_toArray, List.set_cons_zero, List.set_cons_succ, i64_w, i32_w]
  rfl
 refine take_ (i := 7) (N := some 10) (v := ?_) (a' := ?_) #[true, true, false, true, true, false, true, true, false, false, false] rfl rfl (take_ofW HT_.out HW_.out (by kernel_rfl)) (fun _ _ _ h => h) (Or.inl ⟨by rfl, ?_⟩) hHeld ?_ ?_
 rotate_left
 ·rintro w' ⟨s0, s1, s2⟩
  go_simp
  with_reducible rfl
 rotate_left
 ·simp only [Act.put, List.setIfInBounds_toArray, List.set_cons_zero, List.set_cons_succ, i64_w, i32_w]
  rfl
 refine one_ (i := 2) (N := some 5) #[true, true, true, true, true, false, true, true, false, false, false] rfl rfl (one_of HT_.out (by kernel_rfl)) (by decide) (fun K hK => ?_)
 refine goes_ Try.func51 (by kernel_rfl) rfl #[.slice A0_0 l0_0.length c0_0] (by rfl) rfl rfl (by (try simp only [List.map_toArray, List.map_cons, List.map_nil]); first | done | rfl | (simp only [List.length_drop, List.length_take]; rfl)) ?_
 with_reducible refine (api_Point_51.calls k _ _ l0_0 t870 _ ?side1 ?side2 A2.out).mono ?_
 (case side1 => repeat (first | exact (Kd.C_below HR0_0.out HB.out) | (with_reducible refine Kd.C_alloc ?_ _) | (with_reducible refine Kd.C_drewN ?_ _) | (with_reducible refine Kd.C_drew ?_)))
 (case side2 => exact HC0_0.out)
 rintro e w8 ⟨v871, rfl, ho0, hb⟩
 refine ⟨_, rfl, ?_⟩
 have n0_ := Aside0.mk (Kd.S_lower ho0 (below_size (bH HB)))
 have n1_ := Aside0.mk (blk_below (g := gb868) (o := .cells #[.slice A0_0 l0_0.length c0_0, .slice A0_1 l0_1.length c0_1, .slice A0_2 l0_2.length c0_2] 25 (0, 0)) (bK BK868) hb)
 have n2_ := Aside0.mk (blk_below (g := gb869) (o := .cells #[.slice none 0 0, .slice none 0 0, .slice none 0 0] 25 (0, 0)) (bK BK869) hb)
 have n3_ := Aside0.mk (below_step (bH HB) hb)
 clear BK868
 clear BK869
 clear HB
 have HO872 := n0_
 have BK868 := n1_
 have BK869 := n2_
 have HB := n3_
 clear n0_ n1_ n2_ n3_
 (try clear hb)
 (try clear hb2)
 (try clear hk)
 (try clear hi)
 (try clear ho0)
 refine hK.out _ _ ⟨(blk_cell BK868.out 0).trans rfl, (blk_cell BK868.out 1).trans rfl, (blk_cell BK868.out 2).trans rfl⟩ (fun hHeld => ?_)
 clear hK K
 refine norm_ (a' := ?_) ?_ ?_
 rotate_left
 ·show Act.put _ (some 5) _ = _
  simp only [Act.put, List.setIfInBounds_toArray, List.set_cons_zero, List.set_cons_succ, i64_w, i32_w]
  rfl
 refine one_ (i := 5) (N := some 8) #[true, true, true, true, true, true, true, true, false, false, false] rfl rfl (one_of HT_.out (by kernel_rfl)) (by decide) (fun K hK => ?_)
 refine goes_ Try.func52 (by kernel_rfl) rfl #[.slice A0_1 l0_1.length c0_1] (by rfl) rfl rfl (by (try simp only [List.map_toArray, List.map_cons, List.map_nil]); first | done | rfl | (simp only [List.length_drop, List.length_take]; rfl)) ?_
 with_reducible refine (ring_cloned_int.calls k _ _ l0_1 t873 _ ?side1 ?side2 A3.out).mono ?_
 (case side1 => repeat (first | exact (Kd.C_below HR0_1.out HB.out) | (with_reducible refine Kd.C_alloc ?_ _) | (with_reducible refine Kd.C_drewN ?_ _) | (with_reducible refine Kd.C_drew ?_)))
 (case side2 => exact HC0_1.out)
 rintro e w9 ⟨v874, rfl, ho0, hb⟩
 refine ⟨_, rfl, ?_⟩
 have n0_ := Aside0.mk (Kd.S_below (by (with_reducible repeat (first | apply Kd.S_alloc | apply Kd.S_drewN | apply Kd.S_drew)); exact HO872.out) hb)
 have n1_ := Aside0.mk (Kd.S_lower ho0 (below_size (bH HB)))
 have n2_ := Aside0.mk (blk_below (g := gb868) (o := .cells #[.slice A0_0 l0_0.length c0_0, .slice A0_1 l0_1.length c0_1, .slice A0_2 l0_2.length c0_2] 25 (0, 0)) (bK BK868) hb)
 have n3_ := Aside0.mk (blk_below (g := gb869) (o := .cells #[.slice none 0 0, .slice none 0 0, .slice none 0 0] 25 (0, 0)) (bK BK869) hb)
 have n4_ := Aside0.mk (below_step (bH HB) hb)
 clear HO872
 clear BK868
 clear BK869
 clear HB
 have HO872 := n0_
 have HO875 := n1_
 have BK868 := n2_
 have BK869 := n3_
 have HB := n4_
 clear n0_ n1_ n2_ n3_ n4_
 (try clear hb)
 (try clear hb2)
 (try clear hk)
 (try clear hi)
 (try clear ho0)
 refine hK.out _ _ ⟨(blk_cell BK868.out 0).trans rfl, (blk_cell BK868.out 1).trans rfl, (blk_cell BK868.out 2).trans rfl⟩ (fun hHeld => ?_)
 clear hK K
 refine norm_ (a' := ?_) ?_ ?_
 rotate_left
 ·show Act.put _ (some 8) _ = _
  simp only [Act.put, List.setIfInBounds_toArray, List.set_cons_zero, List.set_cons_succ, i64_w, i32_w]
  rfl
 refine one_ (i := 8) (N := some 11) #[true, true, true, true, true, true, true, true, true, false, false] rfl rfl (one_of HT_.out (by kernel_rfl)) (by decide) (fun K hK => ?_)
 refine goes_ Try.func52 (by kernel_rfl) rfl #[.slice A0_2 l0_2.length c0_2] (by rfl) rfl rfl (by (try simp only [List.map_toArray, List.map_cons, List.map_nil]); first | done | rfl | (simp only [List.length_drop, List.length_take]; rfl)) ?_
 with_reducible refine (ring_cloned_int.calls k _ _ l0_2 t876 _ ?side1 ?side2 A4.out).mono ?_
 (case side1 => repeat (first | exact (Kd.C_below HR0_2.out HB.out) | (with_reducible refine Kd.C_alloc ?_ _) | (with_reducible refine Kd.C_drewN ?_ _) | (with_reducible refine Kd.C_drew ?_)))
 (case side2 => exact HC0_2.out)
 rintro e w10 ⟨v877, rfl, ho0, hb⟩
 refine ⟨_, rfl, ?_⟩
 have n0_ := Aside0.mk (Kd.S_below (by (with_reducible repeat (first | apply Kd.S_alloc | apply Kd.S_drewN | apply Kd.S_drew)); exact HO872.out) hb)
 have n1_ := Aside0.mk (Kd.S_elder' (by (with_reducible repeat (first | apply Kd.S_alloc | apply Kd.S_drewN | apply Kd.S_drew)); exact HO875.out) (Kd.S_base ho0) hb)
 have n2_ := Aside0.mk (Kd.S_lower (Kd.S_new' ho0 (Kd.S_lt (by (with_reducible repeat (first | apply Kd.S_alloc | apply Kd.S_drewN | apply Kd.S_drew)); exact HO875.out))) (below_size (bH HB)))
 have n3_ := Aside0.mk (blk_below (g := gb868) (o := .cells #[.slice A0_0 l0_0.length c0_0, .slice A0_1 l0_1.length c0_1, .slice A0_2 l0_2.length c0_2] 25 (0, 0)) (bK BK868) hb)
 have n4_ := Aside0.mk (blk_below (g := gb869) (o := .cells #[.slice none 0 0, .slice none 0 0, .slice none 0 0] 25 (0, 0)) (bK BK869) hb)
 have n5_ := Aside0.mk (below_step (bH HB) hb)
 clear HO872
 clear HO875
 clear BK868
 clear BK869
 clear HB
 have HO872 := n0_
 have HO875 := n1_
 have HO878 := n2_
 have BK868 := n3_
 have BK869 := n4_
 have HB := n5_
 clear n0_ n1_ n2_ n3_ n4_ n5_
 (try clear hb)
 (try clear hb2)
 (try clear hk)
 (try clear hi)
 (try clear ho0)
 obtain ⟨Ao11, co11, eo11⟩ := Kd.S_slice HO878.out
 (first | subst eo11 | (injection eo11 with f1_ f2_ f3_; have f4_ := f1_.symm; have f5_ := f3_.symm; clear f1_ f2_ f3_; subst f4_; subst f5_))
 obtain ⟨Ao12, co12, eo12⟩ := Kd.S_slice HO875.out
 (first | subst eo12 | (injection eo12 with f1_ f2_ f3_; have f4_ := f1_.symm; have f5_ := f3_.symm; clear f1_ f2_ f3_; subst f4_; subst f5_))
 obtain ⟨Ao13, co13, eo13⟩ := Kd.S_slice HO872.out
 (first | subst eo13 | (injection eo13 with f1_ f2_ f3_; have f4_ := f1_.symm; have f5_ := f3_.symm; clear f1_ f2_ f3_; subst f4_; subst f5_))
 refine hK.out _ _ ⟨(blk_cell BK868.out 0).trans rfl, (blk_cell BK868.out 1).trans rfl, (blk_cell BK868.out 2).trans rfl⟩ (fun hHeld => ?_)
 clear hK K
 refine norm_ (a' := ?_) ?_ ?_
 rotate_left
 ·show Act.put _ (some 11) _ = _
  simp only [Act.put, List.setIfInBounds_toArray, List.set_cons_zero, List.set_cons_succ, i64_w, i32_w]
  rfl
 refine pure_ (i := 9) (N := some 12) (v := ?_) (a' := ?_) #[true, true, true, true, true, true, true, true, true, true, false] rfl rfl (any_of HT_.out (by kernel_rfl)) (fun _ _ _ h => h) (Or.inl ⟨by rfl, ?_⟩) ?_ ?_
 rotate_left
 ·intro w'
  go_simp
  with_reducible rfl
 rotate_left
 ·simp only [Act.put, List.setIfInBounds_toArray, List.set_cons_zero, List.set_cons_succ, i64_w, i32_w]
  rfl
 refine one_ (i := 10) (N := none) #[true, true, true, true, true, true, true, true, true, true, true] rfl rfl (one_of HT_.out (by kernel_rfl)) (by decide) (fun K hK => ?_)
 have hs14 : w10.cell? ⟨gb869, 0, none⟩ = some (.slice none 0 0) := (blk_cell BK869.out 0).trans rfl
 have hfs14 := blk_frozen BK869.out 0
 have hns14_0 := NB868_869.out
 have hms14_0 := NB869_868.out
 have hs15 : w10.cell? ⟨gb869, 1, none⟩ = some (.slice none 0 0) := (blk_cell BK869.out 1).trans rfl
 have hfs15 := blk_frozen BK869.out 1
 have hns15_0 := NB868_869.out
 have hms15_0 := NB869_868.out
 have hs16 : w10.cell? ⟨gb869, 2, none⟩ = some (.slice none 0 0) := (blk_cell BK869.out 2).trans rfl
 have hfs16 := blk_frozen BK869.out 2
 have hns16_0 := NB868_869.out
 have hms16_0 := NB869_868.out
 refine skip_ (w1 := ?_) (by rfl) rfl ?_ ?_
 rotate_left
 ·go_simp
  rfl
 refine hK.out _ _ ⟨((cell_far (p := ⟨gb869, _, none⟩) NB868_869.out _).trans (((cell_far (p := ⟨gb869, _, none⟩) NB868_869.out _).trans (((cell_far (p := ⟨gb869, _, none⟩) NB868_869.out _).trans (hHeld.1)))))), ((cell_far (p := ⟨gb869, _, none⟩) NB868_869.out _).trans (((cell_far (p := ⟨gb869, _, none⟩) NB868_869.out _).trans (((cell_far (p := ⟨gb869, _, none⟩) NB868_869.out _).trans (hHeld.2.1)))))), ((cell_far (p := ⟨gb869, _, none⟩) NB868_869.out _).trans (((cell_far (p := ⟨gb869, _, none⟩) NB868_869.out _).trans (((cell_far (p := ⟨gb869, _, none⟩) NB868_869.out _).trans (hHeld.2.2))))))⟩ (fun hHeld => ?_)
 clear hK K
 refine done_ (done_of HT_.out (by kernel_rfl)) ?_
 try go_wp2
 refine bodyPost_ret (results_cell_row rfl _ _ gb869 25 #[.slice Ao13 t870.length co13, .slice Ao12 t873.length co12, .slice Ao11 t876.length co11] (0, 0) _ rfl (by (with_reducible repeat (first | refine blk_drewN ?_ _ | refine blk_drew ?_ | refine blk_alloc ?_ _)); refine blk_put (cs := #[.slice Ao13 t870.length co13, .slice Ao12 t873.length co12, .slice none 0 0]) ?_ 2 _ rfl; (with_reducible repeat (first | refine blk_drewN ?_ _ | refine blk_drew ?_ | refine blk_alloc ?_ _)); refine blk_put (cs := #[.slice Ao13 t870.length co13, .slice none 0 0, .slice none 0 0]) ?_ 1 _ rfl; (with_reducible repeat (first | refine blk_drewN ?_ _ | refine blk_drew ?_ | refine blk_alloc ?_ _)); refine blk_put (cs := #[.slice none 0 0, .slice none 0 0, .slice none 0 0]) ?_ 0 _ rfl; (with_reducible repeat (first | refine blk_drewN ?_ _ | refine blk_drew ?_ | refine blk_alloc ?_ _)); exact BK869.out) Try.underlying25 rfl (by kernel_rfl)) rfl ?_
 exact ⟨_, _, _, by first | rfl | (simp [errW_none, errW_some] <;> rfl) | (simp [*, errW_none, errW_some] <;> rfl), by (with_reducible repeat (first | apply Kd.S_alloc | apply Kd.S_drewN | apply Kd.S_drew)); exact Kd.S_mono (Kd.S_far (p := ⟨gb869, 2, none⟩) (Kd.S_far (p := ⟨gb869, 1, none⟩) (Kd.S_far (p := ⟨gb869, 0, none⟩) (Kd.S_types HO872.out BK869.out (by decide)) (fun _ hk => hk.2) (.slice Ao13 t870.length co13)) (fun _ hk => hk.2) (.slice Ao12 t873.length co12)) (fun _ hk => hk.2) (.slice Ao11 t876.length co11)) (fun _ hk => trivial), by (with_reducible repeat (first | apply Kd.S_alloc | apply Kd.S_drewN | apply Kd.S_drew)); exact Kd.S_mono (Kd.S_far (p := ⟨gb869, 2, none⟩) (Kd.S_far (p := ⟨gb869, 1, none⟩) (Kd.S_far (p := ⟨gb869, 0, none⟩) (Kd.S_types HO875.out BK869.out (by decide)) (fun _ hk => hk.2) (.slice Ao13 t870.length co13)) (fun _ hk => hk.2) (.slice Ao12 t873.length co12)) (fun _ hk => hk.2) (.slice Ao11 t876.length co11)) (fun _ hk => hk.1.2), by (with_reducible repeat (first | apply Kd.S_alloc | apply Kd.S_drewN | apply Kd.S_drew)); exact Kd.S_mono (Kd.S_far (p := ⟨gb869, 2, none⟩) (Kd.S_far (p := ⟨gb869, 1, none⟩) (Kd.S_far (p := ⟨gb869, 0, none⟩) (Kd.S_types HO878.out BK869.out (by decide)) (fun _ hk => hk.2) (.slice Ao13 t870.length co13)) (fun _ hk => hk.2) (.slice Ao12 t873.length co12)) (fun _ hk => hk.2) (.slice Ao11 t876.length co11)) (fun _ hk => hk.1.2), bH HB⟩

end Go.Proofs.Ytbonkedecfjmdaa.P

namespace Go.Proofs.Ytbonkedecfjmdaa.Pl
set_option linter.unusedVariables false
set_option linter.unusedSimpArgs false
open Go.RowKit Go.Proofs.Ytbonkedecfjmdaa.P Go.Proofs.Ytbonkedecfjmdaa.G Go.Proofs.YtbonkedecfjmdaaW.PrintWords Go.Proofs.YtbonkedecfjmdaaW.PrintLast Go.Proofs.YtbonkedecfjmdaaW.PrintMore

theorem w64r {x : Int} (h : -9223372036854775808 ≤ x) (h' : x ≤ 9223372036854775807) : wrap64 x = x := by unfold wrap64; omega
theorem nxr (i : Nat) (h : i < 4611686018427387904) : wrap64 ((i : Int) + 1) = ((i + 1 : Nat) : Int) := by rw [w64r (by omega) (by omega)]; omega
theorem rd2 (l : List (List Pt)) (i : Nat) (h : i < l.length) : rd_L2 l (i : Int) = l[i] := by simp [rd_L2, List.getD, List.getElem?_eq_getElem h]
theorem rd3 (l : List (List Int)) (i : Nat) (h : i < l.length) : rd_L3 l (i : Int) = l[i] := by simp [rd_L3, List.getD, List.getElem?_eq_getElem h]
theorem cl3_l0 (x : List (List Int)) (h1 : x.length ≤ 1048576) (h2 : ∀ a ∈ x, a.length ≤ 1048576) : ∀ m i : Nat, i + m = x.length → Ev (fun k => ring_cloned_int.l0 k (x.take i) x (x.length : Int) (i : Int)) x := by
  intro m
  induction m with
  | zero =>
    intro i hm
    refine Ev.step (fun k => ring_cloned_int.l0.eq_2 _ _ _ _ _) ?_
    simp only [if_neg (show ¬ ((i : Int) < (x.length : Int)) by omega)]
    rw [List.take_of_length_le (by omega)]
    exact Ev.now _
  | succ m ih =>
    intro i hm
    have hi : i < x.length := by omega
    have hx := h2 _ (List.getElem_mem hi)
    refine Ev.step (fun k => ring_cloned_int.l0.eq_2 _ _ _ _ _) ?_
    simp only [if_pos (show (i : Int) < (x.length : Int) by omega), if_pos (show (0 : Int) ≤ (i : Int) by omega), rd3 x i hi, nxr i (by omega)]
    have e : slices_Clone_int_int.f x[i] = some x[i] := by unfold slices_Clone_int_int.f; rw [if_pos (by omega)]
    simp only [e, Option.bind_some, if_pos (show (x.take i).length < 5864062014805 by rw [List.length_take]; omega)]
    have := ih (i + 1) (by omega)
    rw [List.take_add_one, List.getElem?_eq_getElem hi] at this
    exact this
theorem cl2_l0 (x : List (List Pt)) (h1 : x.length ≤ 1048576) (h2 : ∀ a ∈ x, a.length ≤ 1048576) : ∀ m i : Nat, i + m = x.length → Ev (fun k => api_Point_51.l0 k (x.take i) x (x.length : Int) (i : Int)) x := by
  intro m
  induction m with
  | zero =>
    intro i hm
    refine Ev.step (fun k => api_Point_51.l0.eq_2 _ _ _ _ _) ?_
    simp only [if_neg (show ¬ ((i : Int) < (x.length : Int)) by omega)]
    rw [List.take_of_length_le (by omega)]
    exact Ev.now _
  | succ m ih =>
    intro i hm
    have hi : i < x.length := by omega
    have hx := h2 _ (List.getElem_mem hi)
    refine Ev.step (fun k => api_Point_51.l0.eq_2 _ _ _ _ _) ?_
    simp only [if_pos (show (i : Int) < (x.length : Int) by omega), if_pos (show (0 : Int) ≤ (i : Int) by omega), rd2 x i hi, nxr i (by omega)]
    have e : api_Point_72.f x[i] = some x[i] := by unfold api_Point_72.f; rw [if_pos (by omega)]
    simp only [e, Option.bind_some, if_pos (show (x.take i).length < 5864062014805 by rw [List.length_take]; omega)]
    have := ih (i + 1) (by omega)
    rw [List.take_add_one, List.getElem?_eq_getElem hi] at this
    exact this
theorem copy_ev (a0 : List (List Pt)) (a1 a2 : List (List Int)) (h0 : a0.length ≤ 1048576 ∧ ∀ x ∈ a0, x.length ≤ 1048576) (h1 : a1.length ≤ 1048576 ∧ ∀ x ∈ a1, x.length ≤ 1048576) (h2 : a2.length ≤ 1048576 ∧ ∀ x ∈ a2, x.length ≤ 1048576) : Ev (fun k => ring_Copy.f k a0 a1 a2) (a0, a1, a2) := by
  unfold ring_Copy.f
  refine Ev.bind (a := a0) (cl2_l0 a0 h0.1 h0.2 a0.length 0 (by omega)) ?_
  refine Ev.bind (a := a1) (cl3_l0 a1 h1.1 h1.2 a1.length 0 (by omega)) ?_
  exact Ev.bind (a := a2) (cl3_l0 a2 h2.1 h2.2 a2.length 0 (by omega)) (Ev.now _)
theorem long_l2 (m : List (List Pt)) (r p : List (List Int)) (hp : p.length ≤ 1048576) : ∀ (n i : Nat) (x : Int), i + n = p.length → ∃ b, Ev (fun k => lapidarylaw17_long.l2 k x (i : Int) m r p) b := by
  intro n
  induction n with
  | zero =>
    intro i x hm
    refine ⟨decide (x > 80), Ev.step (fun k => lapidarylaw17_long.l2.eq_2 _ _ _ _ _ _) ?_⟩
    simp only [if_neg (show ¬ ((i : Int) < (p.length : Int)) by omega)]
    exact Ev.now _
  | succ n ih =>
    intro i x hm
    obtain ⟨b, hb⟩ := ih (i + 1) (wrap64 ((wrap64 (x + 1)) + ((rd_L3 p i).length : Int))) (by omega)
    refine ⟨b, Ev.step (fun k => lapidarylaw17_long.l2.eq_2 _ _ _ _ _ _) ?_⟩
    simp only [if_pos (show (i : Int) < (p.length : Int) by omega), if_pos (show (0 : Int) ≤ (i : Int) by omega), nxr i (by omega)]
    exact hb
theorem long_l1 (m : List (List Pt)) (r p : List (List Int)) (hr : r.length ≤ 1048576) (hp : p.length ≤ 1048576) : ∀ (n i : Nat) (x : Int), i + n = r.length → ∃ b, Ev (fun k => lapidarylaw17_long.l1 k x (i : Int) m r p) b := by
  intro n
  induction n with
  | zero =>
    intro i x hm
    obtain ⟨b, hb⟩ := long_l2 m r p hp p.length 0 x (by omega)
    refine ⟨b, Ev.step (fun k => lapidarylaw17_long.l1.eq_2 _ _ _ _ _ _) ?_⟩
    simp only [if_neg (show ¬ ((i : Int) < (r.length : Int)) by omega)]
    exact hb
  | succ n ih =>
    intro i x hm
    obtain ⟨b, hb⟩ := ih (i + 1) (wrap64 ((wrap64 (x + 1)) + ((rd_L3 r i).length : Int))) (by omega)
    refine ⟨b, Ev.step (fun k => lapidarylaw17_long.l1.eq_2 _ _ _ _ _ _) ?_⟩
    simp only [if_pos (show (i : Int) < (r.length : Int) by omega), if_pos (show (0 : Int) ≤ (i : Int) by omega), nxr i (by omega)]
    exact hb
theorem long_l0 (m : List (List Pt)) (r p : List (List Int)) (hm' : m.length ≤ 1048576) (hr : r.length ≤ 1048576) (hp : p.length ≤ 1048576) : ∀ (n i : Nat) (x : Int), i + n = m.length → ∃ b, Ev (fun k => lapidarylaw17_long.l0 k x (i : Int) m r p) b := by
  intro n
  induction n with
  | zero =>
    intro i x hm
    obtain ⟨b, hb⟩ := long_l1 m r p hr hp r.length 0 x (by omega)
    refine ⟨b, Ev.step (fun k => lapidarylaw17_long.l0.eq_2 _ _ _ _ _ _) ?_⟩
    simp only [if_neg (show ¬ ((i : Int) < (m.length : Int)) by omega)]
    exact hb
  | succ n ih =>
    intro i x hm
    obtain ⟨b, hb⟩ := ih (i + 1) (wrap64 ((wrap64 (x + 1)) + ((rd_L2 m i).length : Int))) (by omega)
    refine ⟨b, Ev.step (fun k => lapidarylaw17_long.l0.eq_2 _ _ _ _ _ _) ?_⟩
    simp only [if_pos (show (i : Int) < (m.length : Int) by omega), if_pos (show (0 : Int) ≤ (i : Int) by omega), nxr i (by omega)]
    exact hb
theorem long_ev (m : List (List Pt)) (r p : List (List Int)) (hm' : m.length ≤ 1048576) (hr : r.length ≤ 1048576) (hp : p.length ≤ 1048576) : ∃ b, Ev (fun k => lapidarylaw17_long.f k m r p) b := long_l0 m r p hm' hr hp m.length 0 0 (by omega)
end Go.Proofs.Ytbonkedecfjmdaa.Pl

namespace Go.Proofs.Ytbonkedecfjmdaa.Pl
set_option linter.unusedVariables false
set_option linter.unusedSimpArgs false
open Go Go.RowKit Go.Proofs.YtbonkedecfjmdaaW.PrintWords Go.Proofs.YtbonkedecfjmdaaW.PrintLast Go.Proofs.YtbonkedecfjmdaaW.PrintMore

variable {α : Type}
/-- H are cells that read as the elements of xs. -/
def Hds (d : Kd α) (w : World) (xs : List α) (H : List (List Value)) : Prop := H.length = xs.length ∧ ∀ (j : Nat) (x : α), xs[j]? = some x → ∃ c, H[j]? = some c ∧ d.K w x c
theorem Hds.of_C {d : Kd α} {w : World} {A : Option Addr} {xs : List α} (h : d.C w A xs.length xs) : ∃ H, Hds d w xs H ∧ (Kd.raw d.sz).C w A xs.length H := by
  cases xs with
  | nil => exact ⟨[], ⟨rfl, fun j x hj => by simp at hj⟩, rfl, by simp, fun h0 => absurd h0 (Nat.lt_irrefl 0)⟩
  | cons y ys =>
    obtain ⟨h1, h2, h3⟩ := h
    obtain ⟨ad, rfl, hc⟩ := h3 (by simp)
    generalize y :: ys = xs at *
    have key : ∀ n, n ≤ xs.length → ∃ H : List (List Value), H.length = n ∧ ∀ (j : Nat) (x : α), j < n → xs[j]? = some x → ∃ c, H[j]? = some c ∧ d.K w x c ∧ ∀ i u, c[i]? = some u → w.cell? (ad.add (j * d.sz + i)) = some u := by
      intro n
      induction n with
      | zero => exact fun _ => ⟨[], rfl, fun j x hj => absurd hj (Nat.not_lt_zero _)⟩
      | succ n ih =>
        intro hn
        obtain ⟨H, hl, hH⟩ := ih (by omega)
        obtain ⟨c, q1, q2, q3⟩ := hc n _ (List.getElem?_eq_getElem (show n < xs.length by omega))
        refine ⟨H ++ [c], by simp [hl], fun j x hj hx => ?_⟩
        rcases Nat.lt_or_ge j n with hlt | hge
        · obtain ⟨c', e1, e2⟩ := hH j x hlt hx
          exact ⟨c', by rw [List.getElem?_append_left (by omega)]; exact e1, e2⟩
        · obtain rfl : j = n := by omega
          rw [List.getElem?_eq_getElem (by omega)] at hx
          injection hx with hx
          subst hx
          exact ⟨c, by rw [List.getElem?_append_right (by omega), hl, Nat.sub_self]; rfl, q2, q3⟩
    obtain ⟨H, hl, hH⟩ := key xs.length (Nat.le_refl _)
    have hj : ∀ (j : Nat) (x : α), xs[j]? = some x → j < xs.length := fun j x hx => by
      rw [List.getElem?_eq_some_iff] at hx
      exact hx.1
    refine ⟨H, ⟨hl, fun j x hx => ?_⟩, hl, h2, fun _ => ⟨ad, rfl, fun j c hc' => ?_⟩⟩
    · obtain ⟨c, e1, e2, _⟩ := hH j x (hj j x hx) hx
      exact ⟨c, e1, e2⟩
    · have hlt : j < xs.length := by
        rw [List.getElem?_eq_some_iff] at hc'
        obtain ⟨q, _⟩ := hc'
        omega
      obtain ⟨c2, e1, e2, e3⟩ := hH j _ hlt (List.getElem?_eq_getElem hlt)
      rw [hc'] at e1
      injection e1 with e1
      subst e1
      exact ⟨c, d.K_len e2, ⟨rfl, d.K_len e2, d.K_one e2⟩, e3⟩
theorem Hds.to_C {d : Kd α} {w : World} {A : Option Addr} {xs : List α} {H : List (List Value)} (hh : Hds d w xs H) (h : (Kd.raw d.sz).C w A H.length H) : d.C w A xs.length xs := by
  obtain ⟨hl, hh⟩ := hh
  obtain ⟨h1, h2, h3⟩ := h
  refine ⟨rfl, by omega, fun h0 => ?_⟩
  obtain ⟨ad, rfl, hc⟩ := h3 (by omega)
  refine ⟨ad, rfl, fun j x hx => ?_⟩
  obtain ⟨c, e1, e2⟩ := hh j x hx
  obtain ⟨c', q1, ⟨rfl, q2, _⟩, q3⟩ := hc j c e1
  exact ⟨_, q1, e2, q3⟩
theorem Hds.below {d : Kd α} {w w1 : World} {xs : List α} {H : List (List Value)} (h : Hds d w xs H) (hb : Below w.heap.size w w1) : Hds d w1 xs H :=
  ⟨h.1, fun j x hx => by
    obtain ⟨c, e1, e2⟩ := h.2 j x hx
    exact ⟨c, e1, d.K_below hb e2⟩⟩
theorem Hds.take {d : Kd α} {w : World} {xs : List α} {H : List (List Value)} (h : Hds d w xs H) (k : Nat) : Hds d w (xs.take k) (H.take k) :=
  ⟨by rw [List.length_take, List.length_take, h.1], fun j x hx => by
    rw [List.getElem?_take] at hx
    split at hx
    · rename_i hj
      obtain ⟨c, e1, e2⟩ := h.2 j x hx
      exact ⟨c, by rw [List.getElem?_take, if_pos hj]; exact e1, e2⟩
    · cases hx⟩
theorem Hds.drop {d : Kd α} {w : World} {xs : List α} {H : List (List Value)} (h : Hds d w xs H) (k : Nat) : Hds d w (xs.drop k) (H.drop k) :=
  ⟨by rw [List.length_drop, List.length_drop, h.1], fun j x hx => by
    rw [List.getElem?_drop] at hx
    obtain ⟨c, e1, e2⟩ := h.2 (k + j) x hx
    exact ⟨c, by rw [List.getElem?_drop]; exact e1, e2⟩⟩
theorem Hds.append {d : Kd α} {w : World} {xs ys : List α} {H G : List (List Value)} (h : Hds d w xs H) (h' : Hds d w ys G) : Hds d w (xs ++ ys) (H ++ G) :=
  ⟨by rw [List.length_append, List.length_append, h.1, h'.1], fun j x hx => by
    rcases Nat.lt_or_ge j xs.length with hlt | hge
    · rw [List.getElem?_append_left hlt] at hx
      obtain ⟨c, e1, e2⟩ := h.2 j x hx
      exact ⟨c, by rw [List.getElem?_append_left (by rw [h.1]; exact hlt)]; exact e1, e2⟩
    · rw [List.getElem?_append_right hge] at hx
      obtain ⟨c, e1, e2⟩ := h'.2 _ x hx
      exact ⟨c, by rw [List.getElem?_append_right (by rw [h.1]; exact hge), h.1]; exact e1, e2⟩⟩
theorem turn_get {l : List α} (k : Nat) (hk : k < l.length) (i : Nat) (hi : i < l.length) : (l.drop k ++ l.take k)[i]? = l[(i + k) % l.length]? := by
  rcases Nat.lt_or_ge (i + k) l.length with h | h
  · rw [List.getElem?_append_left (by rw [List.length_drop]; omega), List.getElem?_drop, Nat.mod_eq_of_lt h, Nat.add_comm]
  · rw [List.getElem?_append_right (by rw [List.length_drop]; omega), List.length_drop, List.getElem?_take, if_pos (by omega)]
    congr 1
    rw [Nat.mod_eq_sub_mod h, Nat.mod_eq_of_lt (by omega)]
    omega
end Go.Proofs.Ytbonkedecfjmdaa.Pl
