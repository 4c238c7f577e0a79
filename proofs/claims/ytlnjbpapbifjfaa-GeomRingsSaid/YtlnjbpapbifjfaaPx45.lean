/- Written for this claim by a program of this session (a turned copy of the print): Go functions as Lean functions, and that the Go code comes to just these answers; or a statement proved out of them. No condition. -/
import Derived.Test.YtlnjbpapbifjfaaPx0
import Derived.Test.YtlnjbpapbifjfaaPx27
import Derived.Test.YtlnjbpapbifjfaaPx30
import Derived.Test.YtlnjbpapbifjfaaPx34
import Derived.Test.YtlnjbpapbifjfaaPx37
import Derived.Test.YtlnjbpapbifjfaaPx43
import Derived.Test.YtlnjbpapbifjfaaPx44
namespace Go.Proofs.Ytlnjbpapbifjfaa.P
open Go.RowKit Go.Proofs.YtlnjbpapbifjfaaW.PrintWords Go.Proofs.YtlnjbpapbifjfaaW.PrintLast Go.Proofs.YtlnjbpapbifjfaaW.PrintMore Go.Proofs.Ytlnjbpapbifjfaa.X
attribute [local go_sem] max2_int min2_int max_two min_two max_three min_three max_four min_four add64_0 add64_1 add64   -- for this text's walks alone
set_option linter.unusedVariables false
set_option linter.unusedSimpArgs false

/-! ### lapidarylaw09_GeomRings: function 8 -/
def lapidarylaw09_GeomRings.f (k : Nat) (a0_0 : Int) (a0_1 : Int) (a0_2 : Int) (l1 : List (S23)) : Option (Bool) := if (l1.length : Int) > 60 then ((lapidarylaw09_known.f k).bind fun t559 => (some t559)) else ((geom_Area.f k l1).bind fun bt560 => ((lapidaryref09_Area.f k l1).bind fun t563 => ((lapidaryref08_Is.f k t563 bt560.1 bt560.2).bind fun t566 => (if t566 = true then ((geom_In.f k a0_0 a0_1 a0_2 l1).bind fun t567 => ((lapidaryref09_In.f k a0_0 a0_1 a0_2 l1).bind fun t568 => (if t567 = t568 then ((lapidarylaw09_known.f k).bind fun t569 => (some t569)) else (none)))) else (none)))))
theorem lapidarylaw09_GeomRings.mono : ∀ a0 a1 a2 a3 k, LeO (lapidarylaw09_GeomRings.f k a0 a1 a2 a3) (lapidarylaw09_GeomRings.f (k + 1) a0 a1 a2 a3) := by
 intro a0 a1 a2 a3 k
 unfold lapidarylaw09_GeomRings.f
 repeat' first
   | (with_reducible exact geom_Area.mono _ _)
   | (with_reducible exact geom_In.mono _ _ _ _ _)
   | (with_reducible exact lapidarylaw09_known.mono _)
   | (with_reducible exact lapidaryref08_Is.mono _ _ _ _)
   | (with_reducible exact lapidaryref09_Area.mono _ _)
   | (with_reducible exact lapidaryref09_In.mono _ _ _ _ _)
   | (with_reducible exact LeO.refl _)
   | (with_reducible exact LeO.none _)
   | (with_reducible refine LeO.ite ?_ ?_)
   | (with_reducible refine LeO.bind ?_ (fun _ => ?_))
   | exact geom_Area.mono _ _
   | exact geom_In.mono _ _ _ _ _
   | exact lapidarylaw09_known.mono _
   | exact lapidaryref08_Is.mono _ _ _ _
   | exact lapidaryref09_Area.mono _ _
   | exact lapidaryref09_In.mono _ _ _ _ _
   | exact LeO.none _
   | refine LeO.ite ?_ ?_
   | refine LeO.bind ?_ (fun _ => ?_)
def lapidarylaw09_GeomRings.T4 : Bool × List (List Nat × List Nat) := (true, [([], []), ([0], [0]), ([], []), ([2], [2]), ([], []), ([4], [4]), ([1, 3, 5, 1], [1, 3, 5]), ([6, 6], [6]), ([7], [7]), ([7], [7]), ([8, 9, 7, 7], [7, 8, 9]), ([7], [7]), ([7], [7]), ([11, 12, 10, 7], [7, 11, 12]), ([10, 13, 7], [7, 10, 13]), ([7, 14], [7, 14]), ([15, 13], [15]), ([16, 16], [16]), ([16, 17], [16, 17]), ([18, 17, 0, 1, 2, 3, 4, 5, 6, 7, 8, 9, 10, 11, 12, 13, 14, 15, 16, 17, 18], [18])])
def lapidarylaw09_GeomRings.B4 : List Nat := [0, 1, 0, 4, 0, 16, 63, 127, 255, 255, 1023, 255, 255, 8191, 16383, 32767, 65535, 131071, 262143, 524287]
theorem lapidarylaw09_GeomRings.tab4 : rtab .any (opsOf Try.f8 4) = lapidarylaw09_GeomRings.T4 := by kernel_rfl
theorem lapidarylaw09_GeomRings.bits4 : waitsOk lapidarylaw09_GeomRings.T4.2 lapidarylaw09_GeomRings.B4 = true := by kernel_rfl
set_option maxHeartbeats 8000000 in
set_option maxRecDepth 100000 in
theorem lapidarylaw09_GeomRings.calls (k : Nat) (a0_0 : Int) (a0_1 : Int) (a0_2 : Int) (A1 : Option Addr) (c1 : Nat) (l1 : List (S23)) (r : Bool) (w : World) (hr1 : Kd.C k23 w A1 l1.length l1) (hc1 : l1.length ≤ c1) (h : lapidarylaw09_GeomRings.f k a0_0 a0_1 a0_2 l1 = some r) :
  Calls Try.prog 8 #[.agg #[.int .i64 a0_0, .int .i64 a0_1, .int .i64 a0_2], .slice A1 l1.length c1] w fun e w' => e = .returned (.bool r) ∧ Below w.heap.size w w' := by
 have hu23 := Try.underlying23
 have hu31 := Try.underlying31
 have HR1 := Aside0.mk hr1
 have HC1 := Aside0.mk hc1
 clear hr1 hc1
 have HB := Aside0.mk (Below.refl w.heap.size w)
 have H : (if (l1.length : Int) > 60 then ((lapidarylaw09_known.f k).bind fun t559 => (some t559)) else ((geom_Area.f k l1).bind fun bt560 => ((lapidaryref09_Area.f k l1).bind fun t563 => ((lapidaryref08_Is.f k t563 bt560.1 bt560.2).bind fun t566 => (if t566 = true then ((geom_In.f k a0_0 a0_1 a0_2 l1).bind fun t567 => ((lapidaryref09_In.f k a0_0 a0_1 a0_2 l1).bind fun t568 => (if t567 = t568 then ((lapidarylaw09_known.f k).bind fun t569 => (some t569)) else (none)))) else (none)))))) = some r := h
 clear h
 have HC3 := Aside0.mk H
 clear H
 go_enter Try.func8, Try.ntmps8
 go_upto_if 8 with (first | ((with_reducible refine gate_dst (N := 2) rfl ?_); refine box_event ?hg (N := 2) ?hd (cs := #[.int .i64 a0_0, .int .i64 a0_1, .int .i64 a0_2]) (t := 23) ?hr ?_; (case hd => rfl); (case hg => rfl); (case hr => first | (go_simp; done) | (go_simp; rfl)); intro gb558 hg w4 hbox hb; have n0_ := Aside0.mk (below_step (bH HB) hb); have n1_ := Aside0.mk (hbox); have n2_ := Aside0.mk ((by rw [hg]; exact (below_size (bH HB)) : w.heap.size ≤ gb558)); have n3_ := n2_; clear HB; have HB := n0_; have BK558 := n1_; have GW558 := n2_; have GE558 := n3_; clear n0_ n1_ n2_ n3_; clear hb hbox hg))
 (try simp only [Act.put, List.setIfInBounds_toArray, List.set_cons_zero, List.set_cons_succ])
 have H := HC3.out
 clear HC3
 by_cases c5 : (l1.length : Int) > 60
 ·rw [if_pos c5] at H
  have c5b0 : decide (60 < (l1.length : Int)) = true := decide_eq_true c5
  have c5b1 : decide (60 < l1.length) = true := decide_eq_true (by omega)
  clear c5
  (first | rw [c5b0] | (simp only [i64_w, i32_w]; rw [c5b0]) | skip)
  replace H := Option.bind_eq_some_iff.mp H
  obtain ⟨t559, A60, H⟩ := H
  replace H : (some t559) = some r := H
  have A6 := Aside0.mk A60
  clear A60
  obtain rfl := Option.some.inj H
  go_wp2_with (first | ((with_reducible refine gate_callee (f := 13) rfl ?_); refine goesL_ (some 9) rfl rfl Try.func13 (by kernel_rfl) rfl #[] rfl (by (try simp only [List.map_toArray, List.map_cons, List.map_nil]); first | done | rfl | (simp only [List.length_drop, List.length_take]; rfl)) ?_; (with_reducible refine (lapidarylaw09_known.calls k  t559 _ A6.out).mono ?_); rintro e w7 ⟨rfl, hb⟩; refine ⟨_, rfl, ?_⟩; have n0_ := Aside0.mk (blk_below (g := gb558) (o := .cells #[.int .i64 a0_0, .int .i64 a0_1, .int .i64 a0_2] 23 (0, 0)) (bK BK558) hb); have n1_ := Aside0.mk (below_step (bH HB) hb); clear BK558; clear HB; have BK558 := n0_; have HB := n1_; clear n0_ n1_; (try clear hb); (try clear hb2); (try clear hk); (try clear hi)))
  go_ret
  exact ⟨by first | rfl | (simp [errW_none, errW_some] <;> rfl) | (simp [*, errW_none, errW_some] <;> rfl), bH HB⟩
 ·rw [if_neg c5] at H
  have c5b0 : decide (60 < (l1.length : Int)) = false := decide_eq_false c5
  have c5b1 : decide (60 < l1.length) = false := decide_eq_false (by omega)
  clear c5
  (first | rw [c5b0] | (simp only [i64_w, i32_w]; rw [c5b0]) | skip)
  replace H := Option.bind_eq_some_iff.mp H
  obtain ⟨⟨t560, t561⟩, A80, H⟩ := H
  replace H : ((lapidaryref09_Area.f k l1).bind fun t563 => ((lapidaryref08_Is.f k t563 t560 t561).bind fun t566 => (if t566 = true then ((geom_In.f k a0_0 a0_1 a0_2 l1).bind fun t567 => ((lapidaryref09_In.f k a0_0 a0_1 a0_2 l1).bind fun t568 => (if t567 = t568 then ((lapidarylaw09_known.f k).bind fun t569 => (some t569)) else (none)))) else (none)))) = some r := H
  have A8 := Aside0.mk A80
  clear A80
  replace H := Option.bind_eq_some_iff.mp H
  obtain ⟨t563, A90, H⟩ := H
  replace H : ((lapidaryref08_Is.f k t563 t560 t561).bind fun t566 => (if t566 = true then ((geom_In.f k a0_0 a0_1 a0_2 l1).bind fun t567 => ((lapidaryref09_In.f k a0_0 a0_1 a0_2 l1).bind fun t568 => (if t567 = t568 then ((lapidarylaw09_known.f k).bind fun t569 => (some t569)) else (none)))) else (none))) = some r := H
  have A9 := Aside0.mk A90
  clear A90
  replace H := Option.bind_eq_some_iff.mp H
  obtain ⟨t566, A100, H⟩ := H
  replace H : (if t566 = true then ((geom_In.f k a0_0 a0_1 a0_2 l1).bind fun t567 => ((lapidaryref09_In.f k a0_0 a0_1 a0_2 l1).bind fun t568 => (if t567 = t568 then ((lapidarylaw09_known.f k).bind fun t569 => (some t569)) else (none)))) else (none)) = some r := H
  have A10 := Aside0.mk A100
  clear A100
  by_cases c11 : t566 = true
  ·subst c11
   have H1 : ((geom_In.f k a0_0 a0_1 a0_2 l1).bind fun t567 => ((lapidaryref09_In.f k a0_0 a0_1 a0_2 l1).bind fun t568 => (if t567 = t568 then ((lapidarylaw09_known.f k).bind fun t569 => (some t569)) else (none)))) = some r := by rw [if_pos rfl] at H; exact H
   clear H
   have H := H1
   clear H1
   replace H := Option.bind_eq_some_iff.mp H
   obtain ⟨t567, A120, H⟩ := H
   replace H : ((lapidaryref09_In.f k a0_0 a0_1 a0_2 l1).bind fun t568 => (if t567 = t568 then ((lapidarylaw09_known.f k).bind fun t569 => (some t569)) else (none))) = some r := H
   have A12 := Aside0.mk A120
   clear A120
   replace H := Option.bind_eq_some_iff.mp H
   obtain ⟨t568, A130, H⟩ := H
   replace H : (if t567 = t568 then ((lapidarylaw09_known.f k).bind fun t569 => (some t569)) else (none)) = some r := H
   have A13 := Aside0.mk A130
   clear A130
   by_cases c14 : t567 = t568
   ·rw [if_pos c14] at H
    have c14b0 : (t567 == t568) = true := beq_iff_eq.mpr c14
    have c14b1 : (t567 != t568) = false := bne_eq_false_iff_eq.mpr c14
    clear c14
    replace H := Option.bind_eq_some_iff.mp H
    obtain ⟨t569, A150, H⟩ := H
    replace H : (some t569) = some r := H
    have A15 := Aside0.mk A150
    clear A150
    obtain rfl := Option.some.inj H
    try go_wp2_with (first | ((with_reducible refine gate_callee (f := 16) rfl ?_); refine goesL_ (some 11) rfl rfl Try.func16 (by kernel_rfl) rfl #[.slice A1 l1.length c1] rfl (by (try simp only [List.map_toArray, List.map_cons, List.map_nil]); first | done | rfl | (simp only [List.length_drop, List.length_take]; rfl)) ?_; (with_reducible refine (geom_Area.calls k _ _ l1 t560 t561 _ ?side1 ?side2 A8.out).mono ?_); (case side1 => repeat (first | exact (Kd.C_below HR1.out HB.out) | (with_reducible refine Kd.C_alloc ?_ _) | (with_reducible refine Kd.C_drewN ?_ _) | (with_reducible refine Kd.C_drew ?_))); (case side2 => exact HC1.out); rintro e w16 ⟨rfl, hb⟩; refine ⟨_, rfl, ?_⟩; have n0_ := Aside0.mk (blk_below (g := gb558) (o := .cells #[.int .i64 a0_0, .int .i64 a0_1, .int .i64 a0_2] 23 (0, 0)) (bK BK558) hb); have n1_ := Aside0.mk (below_step (bH HB) hb); clear BK558; clear HB; have BK558 := n0_; have HB := n1_; clear n0_ n1_; (try clear hb); (try clear hb2); (try clear hk); (try clear hi)) | ((with_reducible refine gate_dst (N := 5) rfl ?_); refine box_event ?hg (N := 5) ?hd (cs := #[.int .i64 0, .int .u64 0]) (t := 31) ?hr ?_; (case hd => rfl); (case hg => rfl); (case hr => first | (go_simp; done) | (go_simp; rfl)); intro gb562 hg w17 hbox hb; have n0_ := Aside0.mk (blk_below (g := gb558) (o := .cells #[.int .i64 a0_0, .int .i64 a0_1, .int .i64 a0_2] 23 (0, 0)) (bK BK558) hb); have n1_ := Aside0.mk (below_step (bH HB) hb); have n2_ := Aside0.mk (hbox); have n3_ := Aside0.mk ((by rw [hg]; exact (below_size (bH HB)) : w.heap.size ≤ gb562)); have n4_ := n3_; have n5_ := Aside0.mk ((by rw [hg]; exact Nat.ne_of_lt (blk_lt (bK BK558)) : gb558 ≠ gb562)); have n6_ := Aside0.mk ((by rw [hg]; exact Nat.ne_of_gt (blk_lt (bK BK558)) : gb562 ≠ gb558)); clear BK558; clear HB; have BK558 := n0_; have HB := n1_; have BK562 := n2_; have GW562 := n3_; have GE562 := n4_; have NB558_562 := n5_; have NB562_558 := n6_; clear n0_ n1_ n2_ n3_ n4_ n5_ n6_; clear hb hbox hg; have hnb18 := NB562_558.out; have hnc18 := NB558_562.out; have hcz19_0 : w17.cell? ⟨gb562, 0, none⟩ = some (.int .i64 0) := (blk_cell BK562.out 0).trans rfl; have hcz19_1 : w17.cell? ⟨gb562, 1, none⟩ = some (.int .u64 0) := (blk_cell BK562.out 1).trans rfl; have hfz19_0 := blk_frozen BK562.out 0; have hfz19_1 := blk_frozen BK562.out 1))
    have n0_ : Aside0 (((w17.setCell ⟨gb562, 0, none⟩ (.int .i64 t560)).setCell ⟨gb562, 1, none⟩ (.int .u64 t561)).heap[gb558]? = some (.cells #[.int .i64 a0_0, .int .i64 a0_1, .int .i64 a0_2] 23 (0, 0))) := ⟨bK BK558⟩
    have n1_ : Aside0 (((w17.setCell ⟨gb562, 0, none⟩ (.int .i64 t560)).setCell ⟨gb562, 1, none⟩ (.int .u64 t561)).heap[gb562]? = some (.cells #[.int .i64 t560, .int .u64 t561] 31 (0, 0))) := ⟨by (with_reducible repeat (first | refine blk_drewN ?_ _ | refine blk_drew ?_ | refine blk_alloc ?_ _)); refine blk_put (cs := #[.int .i64 t560, .int .u64 0]) ?_ 1 _ rfl; (with_reducible repeat (first | refine blk_drewN ?_ _ | refine blk_drew ?_ | refine blk_alloc ?_ _)); refine blk_put (cs := #[.int .i64 0, .int .u64 0]) ?_ 0 _ rfl; (with_reducible repeat (first | refine blk_drewN ?_ _ | refine blk_drew ?_ | refine blk_alloc ?_ _)); exact BK562.out⟩
    have n2_ : Aside0 (Below w.heap.size w ((w17.setCell ⟨gb562, 0, none⟩ (.int .i64 t560)).setCell ⟨gb562, 1, none⟩ (.int .u64 t561))) := ⟨ bH HB⟩
    (try clear BK558)
    (try clear BK562)
    (try clear HB)
    generalize ((w17.setCell ⟨gb562, 0, none⟩ (.int .i64 t560)).setCell ⟨gb562, 1, none⟩ (.int .u64 t561)) = w20 at n0_ n1_ n2_ ⊢
    have BK558 := n0_
    have BK562 := n1_
    have HB := n2_
    clear n0_ n1_ n2_
    have n0_ := Aside0.mk (blk_drew BK558.out)
    have n1_ := Aside0.mk (blk_drew BK562.out)
    have n2_ := Aside0.mk (below_drew1 HB.out)
    clear BK558
    clear BK562
    clear HB
    have BK558 := n0_
    have BK562 := n1_
    have HB := n2_
    clear n0_ n1_ n2_
    refine start_ (n := 20) (S := fun w' => w'.cell? ⟨gb562, 0, none⟩ = some (.int .i64 t560) ∧ w'.cell? ⟨gb562, 1, none⟩ = some (.int .u64 t561) ∧ w'.cell? ⟨gb558, 0, none⟩ = some (.int .i64 a0_0) ∧ w'.cell? ⟨gb558, 1, none⟩ = some (.int .i64 a0_1) ∧ w'.cell? ⟨gb558, 2, none⟩ = some (.int .i64 a0_2)) (ds := []) #[false, false, false, false, false, false, false, false, false, false, false, false, false, false, false, false, false, false, false, false] (by kernel_rfl) rfl rfl ⟨(blk_cell BK562.out 0).trans rfl, (blk_cell BK562.out 1).trans rfl, (blk_cell BK558.out 0).trans rfl, (blk_cell BK558.out 1).trans rfl, (blk_cell BK558.out 2).trans rfl⟩ (fun hHeld => ?_); refine with_tabW lapidarylaw09_GeomRings.tab4 lapidarylaw09_GeomRings.bits4 (fun HT_ HW_ => ?_)
    generalize w20.drew = w21 at BK558 BK562 HB hHeld ⊢
    refine pure_ (i := 0) (N := some 12) (v := ?_) (a' := ?_) #[true, false, false, false, false, false, false, false, false, false, false, false, false, false, false, false, false, false, false, false] rfl rfl (any_of HT_.out (by kernel_rfl)) (fun _ _ _ h => h) (Or.inl ⟨by rfl, ?_⟩) ?_ ?_
    rotate_left
    ·intro w'
     go_simp
     with_reducible rfl
    rotate_left
    ·simp only [Act.put, List.setIfInBounds_toArray, List.set_cons_zero, List.set_cons_succ, i64_w, i32_w]
     rfl
    refine pure_ (i := 2) (N := some 14) (v := ?_) (a' := ?_) #[true, false, true, false, false, false, false, false, false, false, false, false, false, false, false, false, false, false, false, false] rfl rfl (any_of HT_.out (by kernel_rfl)) (fun _ _ _ h => h) (Or.inl ⟨by rfl, ?_⟩) ?_ ?_
    rotate_left
    ·intro w'
     go_simp
     with_reducible rfl
    rotate_left
    ·simp only [Act.put, List.setIfInBounds_toArray, List.set_cons_zero, List.set_cons_succ, i64_w, i32_w]
     rfl
    refine pure_ (i := 4) (N := some 16) (v := ?_) (a' := ?_) #[true, false, true, false, true, false, false, false, false, false, false, false, false, false, false, false, false, false, false, false] rfl rfl (any_of HT_.out (by kernel_rfl)) (fun _ _ _ h => h) (Or.inl ⟨by rfl, ?_⟩) ?_ ?_
    rotate_left
    ·intro w'
     go_simp
     with_reducible rfl
    rotate_left
    ·simp only [Act.put, List.setIfInBounds_toArray, List.set_cons_zero, List.set_cons_succ, i64_w, i32_w]
     rfl
    refine take_ (i := 3) (N := some 15) (v := ?_) (a' := ?_) #[true, false, true, true, true, false, false, false, false, false, false, false, false, false, false, false, false, false, false, false] rfl rfl (take_ofW HT_.out HW_.out (by kernel_rfl)) (fun _ _ _ h => h) (Or.inl ⟨by rfl, ?_⟩) hHeld ?_ ?_
    rotate_left
    ·rintro w' ⟨s0, s1, s2, s3, s4⟩
     go_simp
     with_reducible rfl
    rotate_left
    ·simp only [Act.put, List.setIfInBounds_toArray, List.set_cons_zero, List.set_cons_succ, i64_w, i32_w]
     rfl
    refine take_ (i := 5) (N := some 17) (v := ?_) (a' := ?_) #[true, false, true, true, true, true, false, false, false, false, false, false, false, false, false, false, false, false, false, false] rfl rfl (take_ofW HT_.out HW_.out (by kernel_rfl)) (fun _ _ _ h => h) (Or.inl ⟨by rfl, ?_⟩) hHeld ?_ ?_
    rotate_left
    ·rintro w' ⟨s0, s1, s2, s3, s4⟩
     go_simp
     with_reducible rfl
    rotate_left
    ·simp only [Act.put, List.setIfInBounds_toArray, List.set_cons_zero, List.set_cons_succ, i64_w, i32_w]
     rfl
    refine one_ (i := 1) (N := some 13) #[true, true, true, true, true, true, false, false, false, false, false, false, false, false, false, false, false, false, false, false] rfl rfl (one_of HT_.out (by kernel_rfl)) (by decide) (fun K hK => ?_)
    refine goes_ Try.func18 (by kernel_rfl) rfl #[.slice A1 l1.length c1] (by rfl) rfl rfl (by (try simp only [List.map_toArray, List.map_cons, List.map_nil]); first | done | rfl | (simp only [List.length_drop, List.length_take]; rfl)) ?_
    with_reducible refine (lapidaryref09_Area.calls k _ _ l1 t563 _ ?side1 ?side2 A9.out).mono ?_
    (case side1 => repeat (first | exact (Kd.C_below HR1.out HB.out) | (with_reducible refine Kd.C_alloc ?_ _) | (with_reducible refine Kd.C_drewN ?_ _) | (with_reducible refine Kd.C_drew ?_)))
    (case side2 => exact HC1.out)
    rintro e w22 ⟨v564, rfl, ho0, hb⟩
    refine ⟨_, rfl, ?_⟩
    have n0_ := Aside0.mk (Kd.R_lower ho0 (below_size (bH HB)))
    have n1_ := Aside0.mk (blk_below (g := gb558) (o := .cells #[.int .i64 a0_0, .int .i64 a0_1, .int .i64 a0_2] 23 (0, 0)) (bK BK558) hb)
    have n2_ := Aside0.mk (blk_below (g := gb562) (o := .cells #[.int .i64 t560, .int .u64 t561] 31 (0, 0)) (bK BK562) hb)
    have n3_ := Aside0.mk (below_step (bH HB) hb)
    clear BK558
    clear BK562
    clear HB
    have HO565 := n0_
    have BK558 := n1_
    have BK562 := n2_
    have HB := n3_
    clear n0_ n1_ n2_ n3_
    (try clear hb)
    (try clear hb2)
    (try clear hk)
    (try clear hi)
    (try clear ho0)
    obtain ⟨Ao23, co23, eo23⟩ := Kd.R_slice HO565.out
    (first | subst eo23 | (injection eo23 with f1_ f2_ f3_; have f4_ := f1_.symm; have f5_ := f3_.symm; clear f1_ f2_ f3_; subst f4_; subst f5_))
    refine hK.out _ _ ⟨(blk_cell BK562.out 0).trans rfl, (blk_cell BK562.out 1).trans rfl, (blk_cell BK558.out 0).trans rfl, (blk_cell BK558.out 1).trans rfl, (blk_cell BK558.out 2).trans rfl⟩ (fun hHeld => ?_)
    clear hK K
    refine norm_ (a' := ?_) ?_ ?_
    rotate_left
    ·show Act.put _ (some 13) _ = _
     simp only [Act.put, List.setIfInBounds_toArray, List.set_cons_zero, List.set_cons_succ, i64_w, i32_w]
     rfl
    refine one_ (i := 6) (N := some 18) #[true, true, true, true, true, true, true, false, false, false, false, false, false, false, false, false, false, false, false, false] rfl rfl (one_of HT_.out (by kernel_rfl)) (by decide) (fun K hK => ?_)
    refine goes_ Try.func17 (by kernel_rfl) rfl #[.agg #[.slice Ao23 t563.length co23], .int .i64 t560, .int .u64 t561] (by rfl) rfl rfl (by (try simp only [List.map_toArray, List.map_cons, List.map_nil]); first | done | rfl | (simp only [List.length_drop, List.length_take]; rfl)) ?_
    with_reducible refine (lapidaryref08_Is.calls k _ _ t563 t560 t561 true _ ?side1 ?side2 A10.out).mono ?_
    (case side1 => repeat (first | exact (Kd.R_reads' HO565.out).2.2 | (with_reducible refine Kd.C_alloc ?_ _) | (with_reducible refine Kd.C_drewN ?_ _) | (with_reducible refine Kd.C_drew ?_)))
    (case side2 => exact (Kd.R_reads' HO565.out).2.1)
    rintro e w24 ⟨rfl, hb⟩
    refine ⟨_, rfl, ?_⟩
    have n0_ := Aside0.mk (Kd.R_below (rK HO565) hb)
    have n1_ := Aside0.mk (blk_below (g := gb558) (o := .cells #[.int .i64 a0_0, .int .i64 a0_1, .int .i64 a0_2] 23 (0, 0)) (bK BK558) hb)
    have n2_ := Aside0.mk (blk_below (g := gb562) (o := .cells #[.int .i64 t560, .int .u64 t561] 31 (0, 0)) (bK BK562) hb)
    have n3_ := Aside0.mk (below_step (bH HB) hb)
    clear HO565
    clear BK558
    clear BK562
    clear HB
    have HO565 := n0_
    have BK558 := n1_
    have BK562 := n2_
    have HB := n3_
    clear n0_ n1_ n2_ n3_
    (try clear hb)
    (try clear hb2)
    (try clear hk)
    (try clear hi)
    refine hK.out _ _ ⟨(blk_cell BK562.out 0).trans rfl, (blk_cell BK562.out 1).trans rfl, (blk_cell BK558.out 0).trans rfl, (blk_cell BK558.out 1).trans rfl, (blk_cell BK558.out 2).trans rfl⟩ (fun hHeld => ?_)
    clear hK K
    refine norm_ (a' := ?_) ?_ ?_
    rotate_left
    ·show Act.put _ (some 18) _ = _
     simp only [Act.put, List.setIfInBounds_toArray, List.set_cons_zero, List.set_cons_succ, i64_w, i32_w]
     rfl
    refine pure_ (i := 7) (N := some 19) (v := ?_) (a' := ?_) #[true, true, true, true, true, true, true, true, false, false, false, false, false, false, false, false, false, false, false, false] rfl rfl (any_of HT_.out (by kernel_rfl)) (fun _ _ _ h => h) (Or.inl ⟨by rfl, ?_⟩) ?_ ?_
    rotate_left
    ·intro w'
     go_simp
     with_reducible rfl
    rotate_left
    ·simp only [Act.put, List.setIfInBounds_toArray, List.set_cons_zero, List.set_cons_succ, i64_w, i32_w]
     rfl
    refine pure_ (i := 9) (N := some 21) (v := ?_) (a' := ?_) #[true, true, true, true, true, true, true, true, false, true, false, false, false, false, false, false, false, false, false, false] rfl rfl (any_of HT_.out (by kernel_rfl)) (fun _ _ _ h => h) (Or.inl ⟨by rfl, ?_⟩) ?_ ?_
    rotate_left
    ·intro w'
     go_simp
     with_reducible rfl
    rotate_left
    ·simp only [Act.put, List.setIfInBounds_toArray, List.set_cons_zero, List.set_cons_succ, i64_w, i32_w]
     rfl
    refine pure_ (i := 12) (N := some 24) (v := ?_) (a' := ?_) #[true, true, true, true, true, true, true, true, false, true, false, false, true, false, false, false, false, false, false, false] rfl rfl (any_of HT_.out (by kernel_rfl)) (fun _ _ _ h => h) (Or.inl ⟨by rfl, ?_⟩) ?_ ?_
    rotate_left
    ·intro w'
     go_simp
     with_reducible rfl
    rotate_left
    ·simp only [Act.put, List.setIfInBounds_toArray, List.set_cons_zero, List.set_cons_succ, i64_w, i32_w]
     rfl
    refine take_ (i := 8) (N := some 20) (v := ?_) (a' := ?_) #[true, true, true, true, true, true, true, true, true, true, false, false, true, false, false, false, false, false, false, false] rfl rfl (take_ofW HT_.out HW_.out (by kernel_rfl)) (fun _ _ _ h => h) (Or.inl ⟨by rfl, ?_⟩) hHeld ?_ ?_
    rotate_left
    ·rintro w' ⟨s0, s1, s2, s3, s4⟩
     go_simp
     with_reducible rfl
    rotate_left
    ·simp only [Act.put, List.setIfInBounds_toArray, List.set_cons_zero, List.set_cons_succ, i64_w, i32_w]
     rfl
    refine take_ (i := 11) (N := some 23) (v := ?_) (a' := ?_) #[true, true, true, true, true, true, true, true, true, true, false, true, true, false, false, false, false, false, false, false] rfl rfl (take_ofW HT_.out HW_.out (by kernel_rfl)) (fun _ _ _ h => h) (Or.inl ⟨by rfl, ?_⟩) hHeld ?_ ?_
    rotate_left
    ·rintro w' ⟨s0, s1, s2, s3, s4⟩
     go_simp
     with_reducible rfl
    rotate_left
    ·simp only [Act.put, List.setIfInBounds_toArray, List.set_cons_zero, List.set_cons_succ, i64_w, i32_w]
     rfl
    refine one_ (i := 10) (N := some 22) #[true, true, true, true, true, true, true, true, true, true, true, true, true, false, false, false, false, false, false, false] rfl rfl (one_of HT_.out (by kernel_rfl)) (by decide) (fun K hK => ?_)
    refine goes_ Try.func25 (by kernel_rfl) rfl #[.agg #[.int .i64 a0_0, .int .i64 a0_1, .int .i64 a0_2], .slice A1 l1.length c1] (by rfl) rfl rfl (by (try simp only [List.map_toArray, List.map_cons, List.map_nil]); first | done | rfl | (simp only [List.length_drop, List.length_take]; rfl)) ?_
    with_reducible refine (geom_In.calls k a0_0 a0_1 a0_2 _ _ l1 t567 _ ?side1 ?side2 A12.out).mono ?_
    (case side1 => repeat (first | exact (Kd.C_below HR1.out HB.out) | (with_reducible refine Kd.C_alloc ?_ _) | (with_reducible refine Kd.C_drewN ?_ _) | (with_reducible refine Kd.C_drew ?_)))
    (case side2 => exact HC1.out)
    rintro e w25 ⟨rfl, hb⟩
    refine ⟨_, rfl, ?_⟩
    have n0_ := Aside0.mk (Kd.R_below (rK HO565) hb)
    have n1_ := Aside0.mk (blk_below (g := gb558) (o := .cells #[.int .i64 a0_0, .int .i64 a0_1, .int .i64 a0_2] 23 (0, 0)) (bK BK558) hb)
    have n2_ := Aside0.mk (blk_below (g := gb562) (o := .cells #[.int .i64 t560, .int .u64 t561] 31 (0, 0)) (bK BK562) hb)
    have n3_ := Aside0.mk (below_step (bH HB) hb)
    clear HO565
    clear BK558
    clear BK562
    clear HB
    have HO565 := n0_
    have BK558 := n1_
    have BK562 := n2_
    have HB := n3_
    clear n0_ n1_ n2_ n3_
    (try clear hb)
    (try clear hb2)
    (try clear hk)
    (try clear hi)
    refine hK.out _ _ ⟨(blk_cell BK562.out 0).trans rfl, (blk_cell BK562.out 1).trans rfl, (blk_cell BK558.out 0).trans rfl, (blk_cell BK558.out 1).trans rfl, (blk_cell BK558.out 2).trans rfl⟩ (fun hHeld => ?_)
    clear hK K
    refine norm_ (a' := ?_) ?_ ?_
    rotate_left
    ·show Act.put _ (some 22) _ = _
     simp only [Act.put, List.setIfInBounds_toArray, List.set_cons_zero, List.set_cons_succ, i64_w, i32_w]
     rfl
    refine one_ (i := 13) (N := some 25) #[true, true, true, true, true, true, true, true, true, true, true, true, true, true, false, false, false, false, false, false] rfl rfl (one_of HT_.out (by kernel_rfl)) (by decide) (fun K hK => ?_)
    refine goes_ Try.func26 (by kernel_rfl) rfl #[.agg #[.int .i64 a0_0, .int .i64 a0_1, .int .i64 a0_2], .slice A1 l1.length c1] (by rfl) rfl rfl (by (try simp only [List.map_toArray, List.map_cons, List.map_nil]); first | done | rfl | (simp only [List.length_drop, List.length_take]; rfl)) ?_
    with_reducible refine (lapidaryref09_In.calls k a0_0 a0_1 a0_2 _ _ l1 t568 _ ?side1 ?side2 A13.out).mono ?_
    (case side1 => repeat (first | exact (Kd.C_below HR1.out HB.out) | (with_reducible refine Kd.C_alloc ?_ _) | (with_reducible refine Kd.C_drewN ?_ _) | (with_reducible refine Kd.C_drew ?_)))
    (case side2 => exact HC1.out)
    rintro e w26 ⟨rfl, hb⟩
    refine ⟨_, rfl, ?_⟩
    have n0_ := Aside0.mk (Kd.R_below (rK HO565) hb)
    have n1_ := Aside0.mk (blk_below (g := gb558) (o := .cells #[.int .i64 a0_0, .int .i64 a0_1, .int .i64 a0_2] 23 (0, 0)) (bK BK558) hb)
    have n2_ := Aside0.mk (blk_below (g := gb562) (o := .cells #[.int .i64 t560, .int .u64 t561] 31 (0, 0)) (bK BK562) hb)
    have n3_ := Aside0.mk (below_step (bH HB) hb)
    clear HO565
    clear BK558
    clear BK562
    clear HB
    have HO565 := n0_
    have BK558 := n1_
    have BK562 := n2_
    have HB := n3_
    clear n0_ n1_ n2_ n3_
    (try clear hb)
    (try clear hb2)
    (try clear hk)
    (try clear hi)
    refine hK.out _ _ ⟨(blk_cell BK562.out 0).trans rfl, (blk_cell BK562.out 1).trans rfl, (blk_cell BK558.out 0).trans rfl, (blk_cell BK558.out 1).trans rfl, (blk_cell BK558.out 2).trans rfl⟩ (fun hHeld => ?_)
    clear hK K
    refine norm_ (a' := ?_) ?_ ?_
    rotate_left
    ·show Act.put _ (some 25) _ = _
     simp only [Act.put, List.setIfInBounds_toArray, List.set_cons_zero, List.set_cons_succ, i64_w, i32_w]
     rfl
    refine pure_ (i := 14) (N := some 26) (v := ?_) (a' := ?_) #[true, true, true, true, true, true, true, true, true, true, true, true, true, true, true, false, false, false, false, false] rfl rfl (any_of HT_.out (by kernel_rfl)) (fun _ _ _ h => h) (Or.inl ⟨by rfl, ?_⟩) ?_ ?_
    rotate_left
    ·intro w'
     go_simp
     with_reducible rfl
    rotate_left
    ·simp only [Act.put, List.setIfInBounds_toArray, List.set_cons_zero, List.set_cons_succ, i64_w, i32_w]
     rfl
    refine pure_ (i := 15) (N := some 27) (v := ?_) (a' := ?_) #[true, true, true, true, true, true, true, true, true, true, true, true, true, true, true, true, false, false, false, false] rfl rfl (any_of HT_.out (by kernel_rfl)) (fun _ _ _ h => h) (Or.inl ⟨by rfl, ?_⟩) ?_ ?_
    rotate_left
    ·intro w'
     go_simp
     with_reducible rfl
    rotate_left
    ·simp only [Act.put, List.setIfInBounds_toArray, List.set_cons_zero, List.set_cons_succ, i64_w, i32_w]
     rfl
    refine pure_ (i := 16) (N := some 28) (v := ?_) (a' := ?_) #[true, true, true, true, true, true, true, true, true, true, true, true, true, true, true, true, true, false, false, false] rfl rfl (any_of HT_.out (by kernel_rfl)) (fun _ _ _ h => h) (Or.inl ⟨by rfl, ?_⟩) ?_ ?_
    rotate_left
    ·intro w'
     go_simp
     with_reducible rfl
    rotate_left
    ·simp only [Act.put, List.setIfInBounds_toArray, List.set_cons_zero, List.set_cons_succ, i64_w, i32_w]
     rfl
    refine one_ (i := 17) (N := some 29) #[true, true, true, true, true, true, true, true, true, true, true, true, true, true, true, true, true, true, false, false] rfl rfl (one_of HT_.out (by kernel_rfl)) (by decide) (fun K hK => ?_)
    refine goes_ Try.func13 (by kernel_rfl) rfl #[] (by rfl) rfl rfl (by (try simp only [List.map_toArray, List.map_cons, List.map_nil]); first | done | rfl | (simp only [List.length_drop, List.length_take]; rfl)) ?_
    with_reducible refine (lapidarylaw09_known.calls k  t569 _ A15.out).mono ?_
    rintro e w27 ⟨rfl, hb⟩
    refine ⟨_, rfl, ?_⟩
    have n0_ := Aside0.mk (Kd.R_below (rK HO565) hb)
    have n1_ := Aside0.mk (blk_below (g := gb558) (o := .cells #[.int .i64 a0_0, .int .i64 a0_1, .int .i64 a0_2] 23 (0, 0)) (bK BK558) hb)
    have n2_ := Aside0.mk (blk_below (g := gb562) (o := .cells #[.int .i64 t560, .int .u64 t561] 31 (0, 0)) (bK BK562) hb)
    have n3_ := Aside0.mk (below_step (bH HB) hb)
    clear HO565
    clear BK558
    clear BK562
    clear HB
    have HO565 := n0_
    have BK558 := n1_
    have BK562 := n2_
    have HB := n3_
    clear n0_ n1_ n2_ n3_
    (try clear hb)
    (try clear hb2)
    (try clear hk)
    (try clear hi)
    refine hK.out _ _ ⟨(blk_cell BK562.out 0).trans rfl, (blk_cell BK562.out 1).trans rfl, (blk_cell BK558.out 0).trans rfl, (blk_cell BK558.out 1).trans rfl, (blk_cell BK558.out 2).trans rfl⟩ (fun hHeld => ?_)
    clear hK K
    refine norm_ (a' := ?_) ?_ ?_
    rotate_left
    ·show Act.put _ (some 29) _ = _
     simp only [Act.put, List.setIfInBounds_toArray, List.set_cons_zero, List.set_cons_succ, i64_w, i32_w]
     rfl
    refine pure_ (i := 18) (N := some 30) (v := ?_) (a' := ?_) #[true, true, true, true, true, true, true, true, true, true, true, true, true, true, true, true, true, true, true, false] rfl rfl (any_of HT_.out (by kernel_rfl)) (fun _ _ _ h => h) (Or.inl ⟨by rfl, ?_⟩) ?_ ?_
    rotate_left
    ·intro w'
     go_simp
     with_reducible rfl
    rotate_left
    ·simp only [Act.put, List.setIfInBounds_toArray, List.set_cons_zero, List.set_cons_succ, i64_w, i32_w]
     rfl
    refine pure_ (i := 19) (N := some 4) (v := ?_) (a' := ?_) #[true, true, true, true, true, true, true, true, true, true, true, true, true, true, true, true, true, true, true, true] rfl rfl (any_of HT_.out (by kernel_rfl)) (fun _ _ _ h => h) (Or.inl ⟨by rfl, ?_⟩) ?_ ?_
    rotate_left
    ·intro w'
     go_simp
     with_reducible rfl
    rotate_left
    ·simp only [Act.put, List.setIfInBounds_toArray, List.set_cons_zero, List.set_cons_succ, i64_w, i32_w]
     rfl
    refine done_ (done_of HT_.out (by kernel_rfl)) ?_
    try go_wp2
    go_ret
    exact ⟨by first | rfl | (simp [errW_none, errW_some] <;> rfl) | (simp [*, errW_none, errW_some] <;> rfl), bH HB⟩
   ·rw [if_neg c14] at H
    exact absurd H (by simp)
  ·replace c11 := Bool.eq_false_iff.mpr c11
   subst c11
   have H1 : (none) = some r := by rw [if_neg (show ¬ (false = true) by decide)] at H; exact H
   clear H
   have H := H1
   clear H1
   exact absurd H (by simp)

end Go.Proofs.Ytlnjbpapbifjfaa.P
