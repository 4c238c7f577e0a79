/- Written for this claim by a program of this session (a turned copy of the print): Go functions as Lean functions, and that the Go code comes to just these answers; or a statement proved out of them. No condition. Digits to the base 65536, words, and how numbers stand: plain arithmetic. -/
import Derived.Test.YtbonkedecfjmdaaZ2
import Derived.Test.YtbonkedecfjmdaaZ8

namespace Go.Proofs.Ytbonkedecfjmdaa.P
open Go.RowKit Go.Proofs.YtbonkedecfjmdaaW.PrintWords Go.Proofs.YtbonkedecfjmdaaW.PrintLast Go.Proofs.YtbonkedecfjmdaaW.PrintMore Go.Proofs.Ytbonkedecfjmdaa.X
attribute [local go_sem] max2_int min2_int max_two min_two max_three min_three max_four min_four add64_0 add64_1 add64   -- for this text's walks alone
set_option linter.unusedVariables false
set_option linter.unusedSimpArgs false

/-! ### wide_Dot: function 69 -/
def wide_Dot.l0 : Nat → List Int → Int → Int → Int → Option (Int × Int × Int)
 | 0, _, _, _, _ => none
 | k + 1, x0, x5, x567000, x567001 => if x5 < (x0.length : Int) then (if 0 ≤ x5 then (if 0 ≤ (wrap64 (x5 + 1)) then (if (wrap64 (x5 + 1)) < (x0.length : Int) then ((wide_Mul.f (rd x0 x5) (rd x0 (wrap64 (x5 + 1)))).bind fun bt569 => ((wide_Add.f k x567000 x567001 (([(⟨bt569.1, bt569.2⟩ : S50)] : List (S50)))).bind fun bt574 => (wide_Dot.l0 k x0 (wrap64 (x5 + 2)) bt574.1 bt574.2))) else (none)) else (none)) else (none)) else (some (x567000, x567001, 0))
def wide_Dot.f (k : Nat) (l0 : List Int) : Option (Int × Int × Int) := if ((l0.length : Int) % 2) = 0 then (wide_Dot.l0 k l0 0 0 0) else (some (0, 0, 2))
theorem wide_Dot.mono_l : ∀ k, (∀ y0 y1 y2 y3, LeO (wide_Dot.l0 k y0 y1 y2 y3) (wide_Dot.l0 (k + 1) y0 y1 y2 y3))
 | 0 => fun _ _ _ _ r h => by simp [wide_Dot.l0] at h
 | k + 1 => by
  have ih0 := wide_Dot.mono_l k
  ·intro y0 y1 y2 y3
   unfold wide_Dot.l0
   repeat' first
   | (with_reducible exact ih0 _ _ _ _)
   | (with_reducible exact wide_Add.mono _ _ _ _)
   | (with_reducible exact LeO.refl _)
   | (with_reducible exact LeO.none _)
   | (with_reducible refine LeO.ite ?_ ?_)
   | (with_reducible refine LeO.bind ?_ (fun _ => ?_))
   | exact ih0 _ _ _ _
   | exact wide_Add.mono _ _ _ _
   | exact LeO.none _
   | refine LeO.ite ?_ ?_
   | refine LeO.bind ?_ (fun _ => ?_)
theorem wide_Dot.mono : ∀ a0 k, LeO (wide_Dot.f k a0) (wide_Dot.f (k + 1) a0) := by
 intro a0 k
 have ih0 := wide_Dot.mono_l k
 unfold wide_Dot.f
 repeat' first
   | (with_reducible exact ih0 _ _ _ _)
   | (with_reducible exact wide_Add.mono _ _ _ _)
   | (with_reducible exact LeO.refl _)
   | (with_reducible exact LeO.none _)
   | (with_reducible refine LeO.ite ?_ ?_)
   | (with_reducible refine LeO.bind ?_ (fun _ => ?_))
   | exact ih0 _ _ _ _
   | exact wide_Add.mono _ _ _ _
   | exact LeO.none _
   | refine LeO.ite ?_ ?_
   | refine LeO.bind ?_ (fun _ => ?_)
def wide_Dot.T7 : Bool × List (List Nat × List Nat) := (true, [([], []), ([], []), ([], []), ([1, 2], [1, 2]), ([3], [3]), ([], []), ([], []), ([6], [6]), ([5, 7], [5, 7]), ([8], [8]), ([4, 9], [4, 9]), ([10], [10]), ([0, 11, 10], [0, 11]), ([12, 12, 0, 1, 2, 3, 4, 5, 6, 7, 8, 9, 10, 11, 12], [12])])
def wide_Dot.B7 : List Nat := [0, 0, 0, 6, 14, 0, 0, 64, 224, 480, 1022, 2046, 4095, 8191]
theorem wide_Dot.tab7 : rtab .any (opsOf Try.f69 7) = wide_Dot.T7 := by kernel_rfl
theorem wide_Dot.bits7 : waitsOk wide_Dot.T7.2 wide_Dot.B7 = true := by kernel_rfl
set_option maxHeartbeats 8000000 in
set_option maxRecDepth 100000 in
theorem wide_Dot.calls (k : Nat) (A0 : Option Addr) (c0 : Nat) (l0 : List Int) (r1 : Int) (r2 : Int) (r3 : Int) (w : World) (hr0 : Kd.C (Kd.int .i64) w A0 l0.length l0) (hc0 : l0.length ≤ c0) (h : wide_Dot.f k l0 = some (r1, r2, r3)) :
  Calls Try.prog 69 #[.slice A0 l0.length c0] w fun e w' => e = .returned (.tuple #[.agg #[.int .i64 r1, .int .u64 r2], .int .i64 r3]) ∧ Below w.heap.size w w' := by
 have hu50 := Try.underlying50
 have HR0 := Aside0.mk hr0
 have HC0 := Aside0.mk hc0
 clear hr0 hc0
 have HB := Aside0.mk (Below.refl w.heap.size w)
 have H : (if ((l0.length : Int) % 2) = 0 then (wide_Dot.l0 k l0 0 0 0) else (some (0, 0, 2))) = some (r1, r2, r3) := h
 clear h
 have HC2 := Aside0.mk H
 clear H
 go_enter Try.func69, Try.ntmps69
 go_upto_if 9 with (first | ((with_reducible refine gate_dst (N := 2) rfl ?_); refine box_event ?hg (N := 2) ?hd (cs := #[.int .i64 0, .int .u64 0]) (t := 50) ?hr ?_; (case hd => rfl); (case hg => rfl); (case hr => first | (go_simp; done) | (go_simp; rfl)); intro gb565 hg w3 hbox hb; have n0_ := Aside0.mk (below_step (bH HB) hb); have n1_ := Aside0.mk (hbox); have n2_ := Aside0.mk ((by rw [hg]; exact (below_size (bH HB)) : w.heap.size ≤ gb565)); have n3_ := n2_; clear HB; have HB := n0_; have BK565 := n1_; have GW565 := n2_; have GE565 := n3_; clear n0_ n1_ n2_ n3_; clear hb hbox hg))
 (try simp only [Act.put, List.setIfInBounds_toArray, List.set_cons_zero, List.set_cons_succ])
 have H := HC2.out
 clear HC2
 by_cases c4 : ((l0.length : Int) % 2) = 0
 ·rw [if_pos c4] at H
  have c4b0 : (((l0.length : Int) % 2) == 0) = true := beq_iff_eq.mpr c4
  have c4b1 : (((l0.length : Int) % 2) != 0) = false := bne_eq_false_iff_eq.mpr c4
  clear c4
  (first | rw [c4b0] | (simp only [i64_w, i32_w]; rw [c4b0]) | skip)
  have H' := Aside0.mk H
  clear H
  go_wp2_with (first | ((with_reducible refine gate_dst (N := 4) rfl ?_); refine box_event ?hg (N := 4) ?hd (cs := #[.int .i64 0, .int .u64 0]) (t := 50) ?hr ?_; (case hd => rfl); (case hg => rfl); (case hr => first | (go_simp; done) | (go_simp; rfl)); intro gb566 hg w5 hbox hb; have n0_ := Aside0.mk (blk_below (g := gb565) (o := .cells #[.int .i64 0, .int .u64 0] 50 (0, 0)) (bK BK565) hb); have n1_ := Aside0.mk (below_step (bH HB) hb); have n2_ := Aside0.mk (hbox); have n3_ := Aside0.mk ((by rw [hg]; exact (below_size (bH HB)) : w.heap.size ≤ gb566)); have n4_ := n3_; have n5_ := Aside0.mk ((by rw [hg]; exact Nat.ne_of_lt (blk_lt (bK BK565)) : gb565 ≠ gb566)); have n6_ := Aside0.mk ((by rw [hg]; exact Nat.ne_of_gt (blk_lt (bK BK565)) : gb566 ≠ gb565)); clear BK565; clear HB; have BK565 := n0_; have HB := n1_; have BK566 := n2_; have GW566 := n3_; have GE566 := n4_; have NB565_566 := n5_; have NB566_565 := n6_; clear n0_ n1_ n2_ n3_ n4_ n5_ n6_; clear hb hbox hg))
  go_loopg [5] k (fun kq v5 w' => ∃ (x5_1 : Int) (x567000_1 : Int) (x567001_1 : Int), v5 = .int .i64 x5_1 ∧ Aside0 (wide_Dot.l0 kq l0 x5_1 x567000_1 x567001_1 = some (r1, r2, r3)) ∧ Aside0 (kq ≤ k) ∧ Aside0 (w'.heap[gb565]? = some (.cells #[.int .i64 0, .int .u64 0] 50 (0, 0))) ∧ Aside0 (w'.heap[gb566]? = some (.cells #[.int .i64 x567000_1, .int .u64 x567001_1] 50 (0, 0))) ∧ Aside0 (Below w.heap.size w w'))
  case atStart => exact ⟨(0), (0), (0), (by first | rfl | (simp; done) | (simp [*]; done)), H', ⟨Nat.le_refl _⟩, ⟨bK BK565⟩, ⟨bK BK566⟩, ⟨ bH HB⟩⟩
  case round =>
   clear H'
   try clear p2
   try clear c4
   try clear c4b0
   try clear c4b1
   obtain ⟨x5_1, x567000_1, x567001_1, rfl, HA, HK1, BK565, BK566, HB⟩ := hrel
   cases gk with
   | zero => exact absurd HA.out (by simp [wide_Dot.l0])
   | succ k1 =>
    have H := HA.out
    clear HA
    simp only [wide_Dot.l0] at H
    by_cases c6 : x5_1 < (l0.length : Int)
    ·rw [if_pos c6] at H
     have c6b0 : decide (x5_1 < (l0.length : Int)) = true := decide_eq_true c6
     clear c6
     by_cases c7 : 0 ≤ x5_1
     ·rw [if_pos c7] at H
      have c7b0 : decide (0 ≤ x5_1) = true := decide_eq_true c7
      clear c7
      obtain ⟨ji8, hji8⟩ : ∃ j_ : Int, (wrap64 (x5_1 + 1)) = j_ := ⟨_, rfl⟩
      replace H : (if 0 ≤ (ji8) then (if (ji8) < (l0.length : Int) then ((wide_Mul.f (rd l0 x5_1) (rd l0 (ji8))).bind fun bt569 => ((wide_Add.f k1 x567000_1 x567001_1 (([(⟨bt569.1, bt569.2⟩ : S50)] : List (S50)))).bind fun bt574 => (wide_Dot.l0 k1 l0 (wrap64 (x5_1 + 2)) bt574.1 bt574.2))) else (none)) else (none)) = some (r1, r2, r3) := by first | (rw [hji8] at H; exact H) | (simp only [hji8] at H ⊢; exact H)
      have hji8w : (IntKind.i64.wrap (x5_1 + 1)) = ji8 := (i64_w _).trans hji8
      by_cases c9 : 0 ≤ (ji8)
      ·rw [if_pos c9] at H
       have c9b0 : decide (0 ≤ (ji8)) = true := decide_eq_true c9
       clear c9
       by_cases c10 : (ji8) < (l0.length : Int)
       ·rw [if_pos c10] at H
        have c10b0 : decide ((ji8) < (l0.length : Int)) = true := decide_eq_true c10
        clear c10
        replace H := Option.bind_eq_some_iff.mp H
        obtain ⟨⟨t569, t570⟩, A110, H⟩ := H
        replace H : ((wide_Add.f k1 x567000_1 x567001_1 (([(⟨t569, t570⟩ : S50)] : List (S50)))).bind fun bt574 => (wide_Dot.l0 k1 l0 (wrap64 (x5_1 + 2)) bt574.1 bt574.2)) = some (r1, r2, r3) := H
        have A11 := Aside0.mk A110
        clear A110
        obtain ⟨y571, hy571⟩ : ∃ y_ : List (S50), y_ = (([(⟨t569, t570⟩ : S50)] : List (S50))) := ⟨_, rfl⟩
        replace H : ((wide_Add.f k1 x567000_1 x567001_1 y571).bind fun bt574 => (wide_Dot.l0 k1 l0 (wrap64 (x5_1 + 2)) bt574.1 bt574.2)) = some (r1, r2, r3) := by first | (rw [hy571]; with_reducible exact H) | (have H2_ := (Option.bind_some _ _).symm.trans H; rw [hy571]; with_reducible exact H2_) | (have H2_ := (Option.bind_some _ _).symm.trans H; with_reducible exact H2_) | with_reducible exact H | (rw [hy571]; exact H) | exact H
        have Ny571 := Aside0.mk hy571
        clear hy571
        replace H := Option.bind_eq_some_iff.mp H
        obtain ⟨⟨t574, t575⟩, A120, H⟩ := H
        replace H : (wide_Dot.l0 k1 l0 (wrap64 (x5_1 + 2)) t574 t575) = some (r1, r2, r3) := H
        have A12 := Aside0.mk A120
        clear A120
        have H' := Aside0.mk H
        clear H
        try go_wp2
        have n0_ := Aside0.mk (blk_drew BK565.out)
        have n1_ := Aside0.mk (blk_drew BK566.out)
        have n2_ := Aside0.mk (below_drew1 HB.out)
        clear BK565
        clear BK566
        clear HB
        have BK565 := n0_
        have BK566 := n1_
        have HB := n2_
        clear n0_ n1_ n2_
        have p567 : 0 ≤ (x5_1 : Int) := of_decide_eq_true (by first | (with_reducible assumption) | assumption)
        have q567 : x5_1 < (l0.length : Int) := of_decide_eq_true (by first | (with_reducible assumption) | assumption)
        obtain ⟨ad567, e567, hx567_0⟩ := Kd.at_int HR0.out x5_1 p567 q567
        have hw567_0 := hx567_0
        cases e567
        replace hx567_0 := (HB.out.cell (World.block_lt_of_cell? w _ hx567_0)).trans hx567_0
        replace p567 := eq_true p567
        replace q567 := eq_true q567
        have p568 : 0 ≤ ((ji8) : Int) := of_decide_eq_true (by first | (with_reducible assumption) | assumption)
        have q568 : (ji8) < (l0.length : Int) := of_decide_eq_true (by first | (with_reducible assumption) | assumption)
        obtain ⟨ad568, e568, hx568_0⟩ := Kd.at_int HR0.out (ji8) p568 q568
        have hw568_0 := hx568_0
        obtain rfl : ad567 = ad568 := (by injection e568)
        replace hx568_0 := (HB.out.cell (World.block_lt_of_cell? w _ hx568_0)).trans hx568_0
        replace p568 := eq_true p568
        replace q568 := eq_true q568
        refine start_ (n := 14) (S := fun w' => w'.cell? ⟨gb566, 0, none⟩ = some (.int .i64 x567000_1) ∧ w'.cell? ⟨gb566, 1, none⟩ = some (.int .u64 x567001_1) ∧ w'.cell? (ad567.add (x5_1).toNat) = some (.int .i64 (rd l0 x5_1)) ∧ w'.cell? (ad567.add ((ji8)).toNat) = some (.int .i64 (rd l0 (ji8)))) (ds := [13]) #[false, false, false, false, false, false, false, false, false, false, false, false, false, false] (by kernel_rfl) rfl rfl ⟨(blk_cell BK566.out 0).trans rfl, (blk_cell BK566.out 1).trans rfl, ((HB.out.cell (World.block_lt_of_cell? w _ hw567_0)).trans hw567_0), ((HB.out.cell (World.block_lt_of_cell? w _ hw568_0)).trans hw568_0)⟩ (fun hHeld => ?_); refine with_tabW wide_Dot.tab7 wide_Dot.bits7 (fun HT_ HW_ => ?_)
        generalize wr.drew = w13 at BK565 BK566 HB hx567_0 hx568_0 hHeld ⊢
        refine pure_ (i := 1) (N := some 18) (v := ?_) (a' := ?_) #[false, true, false, false, false, false, false, false, false, false, false, false, false, false] rfl rfl (any_of HT_.out (by kernel_rfl)) (fun _ _ _ h => h) (Or.inl ⟨by rfl, ?_⟩) ?_ ?_
        rotate_left
        ·intro w'
         go_simp
         with_reducible rfl
        rotate_left
        ·simp only [Act.put, List.setIfInBounds_toArray, List.set_cons_zero, List.set_cons_succ, i64_w, i32_w]
         rfl
        refine pure_ (i := 2) (N := some 19) (v := ?_) (a' := ?_) #[false, true, true, false, false, false, false, false, false, false, false, false, false, false] rfl rfl (any_of HT_.out (by kernel_rfl)) (fun _ _ _ h => h) (Or.inl ⟨by rfl, ?_⟩) ?_ ?_
        rotate_left
        ·intro w'
         go_simp
         with_reducible rfl
        rotate_left
        ·simp only [Act.put, List.setIfInBounds_toArray, List.set_cons_zero, List.set_cons_succ, i64_w, i32_w]
         rfl
        refine pure_ (i := 3) (N := some 20) (v := ?_) (a' := ?_) #[false, true, true, true, false, false, false, false, false, false, false, false, false, false] rfl rfl (any_of HT_.out (by kernel_rfl)) (fun _ _ _ h => h) (Or.inl ⟨by rfl, ?_⟩) ?_ ?_
        rotate_left
        ·intro w'
         go_simp
         with_reducible rfl
        rotate_left
        ·simp only [Act.put, List.setIfInBounds_toArray, List.set_cons_zero, List.set_cons_succ, i64_w, i32_w]
         rfl
        refine pure_ (i := 5) (N := some 22) (v := ?_) (a' := ?_) #[false, true, true, true, false, true, false, false, false, false, false, false, false, false] rfl rfl (any_of HT_.out (by kernel_rfl)) (fun _ _ _ h => h) (Or.inl ⟨by rfl, ?_⟩) ?_ ?_
        rotate_left
        ·intro w'
         go_simp
         with_reducible rfl
        rotate_left
        ·simp only [Act.put, List.setIfInBounds_toArray, List.set_cons_zero, List.set_cons_succ, i64_w, i32_w]
         rfl
        refine pure_ (i := 6) (N := some 23) (v := ?_) (a' := ?_) #[false, true, true, true, false, true, true, false, false, false, false, false, false, false] rfl rfl (any_of HT_.out (by kernel_rfl)) (fun _ _ _ h => h) (Or.inl ⟨by rfl, ?_⟩) ?_ ?_
        rotate_left
        ·intro w'
         go_simp
         with_reducible rfl
        rotate_left
        ·simp only [Act.put, List.setIfInBounds_toArray, List.set_cons_zero, List.set_cons_succ, i64_w, i32_w]
         rfl
        refine pure_ (i := 7) (N := some 24) (v := ?_) (a' := ?_) #[false, true, true, true, false, true, true, true, false, false, false, false, false, false] rfl rfl (any_of HT_.out (by kernel_rfl)) (fun _ _ _ h => h) (Or.inl ⟨by rfl, ?_⟩) ?_ ?_
        rotate_left
        ·intro w'
         go_simp
         with_reducible rfl
        rotate_left
        ·simp only [Act.put, List.setIfInBounds_toArray, List.set_cons_zero, List.set_cons_succ, i64_w, i32_w]
         rfl
        refine pure_ (i := 8) (N := some 25) (v := ?_) (a' := ?_) #[false, true, true, true, false, true, true, true, true, false, false, false, false, false] rfl rfl (any_of HT_.out (by kernel_rfl)) (fun _ _ _ h => h) (Or.inl ⟨by rfl, ?_⟩) ?_ ?_
        rotate_left
        ·intro w'
         go_simp
         with_reducible rfl
        rotate_left
        ·simp only [Act.put, List.setIfInBounds_toArray, List.set_cons_zero, List.set_cons_succ, i64_w, i32_w]
         rfl
        refine take_ (i := 0) (N := some 17) (v := ?_) (a' := ?_) #[true, true, true, true, false, true, true, true, true, false, false, false, false, false] rfl rfl (take_ofW HT_.out HW_.out (by kernel_rfl)) (fun _ _ _ h => h) (Or.inl ⟨by rfl, ?_⟩) hHeld ?_ ?_
        rotate_left
        ·rintro w' ⟨s0, s1, s2, s3⟩
         go_simp
         with_reducible rfl
        rotate_left
        ·simp only [Act.put, List.setIfInBounds_toArray, List.set_cons_zero, List.set_cons_succ, i64_w, i32_w]
         rfl
        refine take_ (i := 4) (N := some 21) (v := ?_) (a' := ?_) #[true, true, true, true, true, true, true, true, true, false, false, false, false, false] rfl rfl (take_ofW HT_.out HW_.out (by kernel_rfl)) (fun _ _ _ h => h) (Or.inl ⟨by rfl, ?_⟩) hHeld ?_ ?_
        rotate_left
        ·rintro w' ⟨s0, s1, s2, s3⟩
         go_simp
         with_reducible rfl
        rotate_left
        ·simp only [Act.put, List.setIfInBounds_toArray, List.set_cons_zero, List.set_cons_succ, i64_w, i32_w]
         rfl
        refine take_ (i := 9) (N := some 26) (v := ?_) (a' := ?_) #[true, true, true, true, true, true, true, true, true, true, false, false, false, false] rfl rfl (take_ofW HT_.out HW_.out (by kernel_rfl)) (fun _ _ _ h => h) (Or.inl ⟨by rfl, ?_⟩) hHeld ?_ ?_
        rotate_left
        ·rintro w' ⟨s0, s1, s2, s3⟩
         go_simp
         with_reducible rfl
        rotate_left
        ·simp only [Act.put, List.setIfInBounds_toArray, List.set_cons_zero, List.set_cons_succ, i64_w, i32_w]
         rfl
        refine one_ (i := 10) (N := some 27) #[true, true, true, true, true, true, true, true, true, true, true, false, false, false] rfl rfl (one_of HT_.out (by kernel_rfl)) (by decide) (fun K hK => ?_)
        refine goes_ Try.func81 (by kernel_rfl) rfl #[.int .i64 (rd l0 x5_1), .int .i64 (rd l0 (ji8))] (by rfl) rfl rfl (by (try simp only [List.map_toArray, List.map_cons, List.map_nil]); first | done | (simp only [hji8]; rfl) | rfl | (simp only [List.length_drop, List.length_take]; rfl)) ?_
        with_reducible refine (wide_Mul.calls (rd l0 x5_1) (rd l0 (ji8)) t569 t570 _ A11.out).mono ?_
        rintro e w14 ⟨rfl, hb⟩
        refine ⟨_, rfl, ?_⟩
        have n0_ := Aside0.mk (blk_below (g := gb565) (o := .cells #[.int .i64 0, .int .u64 0] 50 (0, 0)) (bK BK565) hb)
        have n1_ := Aside0.mk (blk_below (g := gb566) (o := .cells #[.int .i64 x567000_1, .int .u64 x567001_1] 50 (0, 0)) (bK BK566) hb)
        have n2_ := Aside0.mk (below_step (bH HB) hb)
        clear BK565
        clear BK566
        clear HB
        have BK565 := n0_
        have BK566 := n1_
        have HB := n2_
        clear n0_ n1_ n2_
        (try clear hb)
        (try clear hb2)
        (try clear hk)
        (try clear hi)
        refine hK.out _ _ ⟨(blk_cell BK566.out 0).trans rfl, (blk_cell BK566.out 1).trans rfl, ((HB.out.cell (World.block_lt_of_cell? w _ hw567_0)).trans hw567_0), ((HB.out.cell (World.block_lt_of_cell? w _ hw568_0)).trans hw568_0)⟩ (fun hHeld => ?_)
        clear hK K
        refine norm_ (a' := ?_) ?_ ?_
        rotate_left
        ·show Act.put _ (some 27) _ = _
         simp only [Act.put, List.setIfInBounds_toArray, List.set_cons_zero, List.set_cons_succ, i64_w, i32_w]
         rfl
        refine one_ (i := 11) (N := some 28) #[true, true, true, true, true, true, true, true, true, true, true, true, false, false] rfl rfl (one_of HT_.out (by kernel_rfl)) (by decide) (fun K hK => ?_)
        refine Kd.R_lit_step k50 _ 50 ?hg (N := 28) ?hd (xs := ([(⟨t569, t570⟩ : S50)] : List (S50))) (inner := [.int .i64 t569, .int .u64 t570]) (ok := fun _ => True) (okp := fun _ => True) ?hr ?hp (fun _ hk => hk) trivial (Below.refl _ _) (Nat.le_refl _) (by simp) ?_; (case hd => rfl); (case hg => rfl); (case hr => first | (go_simp; done) | (go_simp; rfl)); (case hp => exact (Reps.c2 (show Kd.M k50 _ _ _ (⟨t569, t570⟩ : S50) [.int .i64 t569, .int .u64 t570] from (k50_mkM _ _ _ (⟨t569, t570⟩ : S50) )) (Reps.none _ _)))
        intro v572 w15 ho16 hb hg_ hnew_
        clear hg_ hnew_
        (first | rw [← Ny571.out] at ho16 | (simp only [Int.reduceToNat] at ho16; rw [← Ny571.out] at ho16))
        have n0_ := Aside0.mk (Kd.R_lower (Kd.R_newB (Kd.R_newB ho16 (g := gb565) (o := .cells #[.int .i64 0, .int .u64 0] 50 (0, 0)) (bK BK565)) (g := gb566) (o := .cells #[.int .i64 x567000_1, .int .u64 x567001_1] 50 (0, 0)) (bK BK566)) (below_size (bH HB)))
        have n1_ := Aside0.mk (blk_below (g := gb565) (o := .cells #[.int .i64 0, .int .u64 0] 50 (0, 0)) (bK BK565) hb)
        have n2_ := Aside0.mk (blk_below (g := gb566) (o := .cells #[.int .i64 x567000_1, .int .u64 x567001_1] 50 (0, 0)) (bK BK566) hb)
        have n3_ := Aside0.mk (below_step (bH HB) hb)
        clear BK565
        clear BK566
        clear HB
        have HO573 := n0_
        have BK565 := n1_
        have BK566 := n2_
        have HB := n3_
        clear n0_ n1_ n2_ n3_
        clear hb ho16
        obtain ⟨Ao17, co17, eo17⟩ := Kd.R_slice HO573.out
        (first | subst eo17 | (injection eo17 with f1_ f2_ f3_; have f4_ := f1_.symm; have f5_ := f3_.symm; clear f1_ f2_ f3_; subst f4_; subst f5_))
        refine hK.out _ _ ⟨(blk_cell BK566.out 0).trans rfl, (blk_cell BK566.out 1).trans rfl, ((HB.out.cell (World.block_lt_of_cell? w _ hw567_0)).trans hw567_0), ((HB.out.cell (World.block_lt_of_cell? w _ hw568_0)).trans hw568_0)⟩ (fun hHeld => ?_)
        clear hK K
        refine norm_ (a' := ?_) ?_ ?_
        rotate_left
        ·show Act.put _ (some 28) _ = _
         simp only [Act.put, List.setIfInBounds_toArray, List.set_cons_zero, List.set_cons_succ, i64_w, i32_w]
         rfl
        refine one_ (i := 12) (N := some 29) #[true, true, true, true, true, true, true, true, true, true, true, true, true, false] rfl rfl (one_of HT_.out (by kernel_rfl)) (by decide) (fun K hK => ?_)
        refine goes_ Try.func25 (by kernel_rfl) rfl #[.agg #[.int .i64 x567000_1, .int .u64 x567001_1], .slice Ao17 y571.length co17] (by rfl) rfl rfl (by (try simp only [List.map_toArray, List.map_cons, List.map_nil]); first | done | rfl | (simp only [List.length_drop, List.length_take]; rfl)) ?_
        with_reducible refine (wide_Add.calls k1 x567000_1 x567001_1 _ _ y571 t574 t575 _ ?side1 ?side2 A12.out).mono ?_
        (case side1 => repeat (first | exact (Kd.R_reads' HO573.out).2.2 | (with_reducible refine Kd.C_alloc ?_ _) | (with_reducible refine Kd.C_drewN ?_ _) | (with_reducible refine Kd.C_drew ?_)))
        (case side2 => exact (Kd.R_reads' HO573.out).2.1)
        rintro e w18 ⟨rfl, hb⟩
        refine ⟨_, rfl, ?_⟩
        have n0_ := Aside0.mk (Kd.R_below (rK HO573) hb)
        have n1_ := Aside0.mk (blk_below (g := gb565) (o := .cells #[.int .i64 0, .int .u64 0] 50 (0, 0)) (bK BK565) hb)
        have n2_ := Aside0.mk (blk_below (g := gb566) (o := .cells #[.int .i64 x567000_1, .int .u64 x567001_1] 50 (0, 0)) (bK BK566) hb)
        have n3_ := Aside0.mk (below_step (bH HB) hb)
        clear HO573
        clear BK565
        clear BK566
        clear HB
        have HO573 := n0_
        have BK565 := n1_
        have BK566 := n2_
        have HB := n3_
        clear n0_ n1_ n2_ n3_
        (try clear hb)
        (try clear hb2)
        (try clear hk)
        (try clear hi)
        refine hK.out _ _ ⟨(blk_cell BK566.out 0).trans rfl, (blk_cell BK566.out 1).trans rfl, ((HB.out.cell (World.block_lt_of_cell? w _ hw567_0)).trans hw567_0), ((HB.out.cell (World.block_lt_of_cell? w _ hw568_0)).trans hw568_0)⟩ (fun hHeld => ?_)
        clear hK K
        refine norm_ (a' := ?_) ?_ ?_
        rotate_left
        ·show Act.put _ (some 29) _ = _
         simp only [Act.put, List.setIfInBounds_toArray, List.set_cons_zero, List.set_cons_succ, i64_w, i32_w]
         rfl
        refine last_ (i := 13) (N := none) #[true, true, true, true, true, true, true, true, true, true, true, true, true, true] rfl rfl (one_of HT_.out (by kernel_rfl)) (by decide) (fun K hK => ?_)
        have hs19 : w18.cell? ⟨gb566, 0, none⟩ = some (.int .i64 x567000_1) := (blk_cell BK566.out 0).trans rfl
        have hfs19 := blk_frozen BK566.out 0
        have hns19_0 := NB565_566.out
        have hms19_0 := NB566_565.out
        have hs20 : w18.cell? ⟨gb566, 1, none⟩ = some (.int .u64 x567001_1) := (blk_cell BK566.out 1).trans rfl
        have hfs20 := blk_frozen BK566.out 1
        have hns20_0 := NB565_566.out
        have hms20_0 := NB566_565.out
        refine skip_ (w1 := ?_) (by rfl) rfl ?_ ?_
        rotate_left
        ·go_simp
         rfl
        refine hK.out _ _ ?_
        clear hK K
        refine done_ (done_of HT_.out (by kernel_rfl)) ?_
        try go_wp2
        go_roundg k1
        case measure => have := HK1.out; omega
        case rel => exact ⟨(wrap64 (x5_1 + 2)), (t574), (t575), (by first | rfl | (simp; done) | (simp [*]; done)), H', ⟨by have := HK1.out; omega⟩, ⟨bK BK565⟩, ⟨by (with_reducible repeat (first | refine blk_drewN ?_ _ | refine blk_drew ?_ | refine blk_alloc ?_ _)); refine blk_put (cs := #[.int .i64 t574, .int .u64 x567001_1]) ?_ 1 _ rfl; (with_reducible repeat (first | refine blk_drewN ?_ _ | refine blk_drew ?_ | refine blk_alloc ?_ _)); refine blk_put (cs := #[.int .i64 x567000_1, .int .u64 x567001_1]) ?_ 0 _ rfl; (with_reducible repeat (first | refine blk_drewN ?_ _ | refine blk_drew ?_ | refine blk_alloc ?_ _)); exact BK566.out⟩, ⟨ bH HB⟩⟩
       ·rw [if_neg c10] at H
        exact absurd H (by simp)
      ·rw [if_neg c9] at H
       exact absurd H (by simp)
     ·rw [if_neg c7] at H
      exact absurd H (by simp)
    ·rw [if_neg c6] at H
     have c6b0 : decide (x5_1 < (l0.length : Int)) = false := decide_eq_false c6
     clear c6
     simp only [Option.some.injEq, Prod.mk.injEq] at H
     obtain ⟨rfl, rfl, rfl⟩ := H
     have hnb21 := NB566_565.out
     have hnc21 := NB565_566.out
     have hcz22_0 : wr.cell? ⟨gb566, 0, none⟩ = some (.int .i64 x567000_1) := (blk_cell BK566.out 0).trans rfl
     have hcz22_1 : wr.cell? ⟨gb566, 1, none⟩ = some (.int .u64 x567001_1) := (blk_cell BK566.out 1).trans rfl
     have hfz22_0 := blk_frozen BK566.out 0
     have hfz22_1 := blk_frozen BK566.out 1
     have hcz23_0 : wr.cell? ⟨gb565, 0, none⟩ = some (.int .i64 0) := (blk_cell BK565.out 0).trans rfl
     have hcz23_1 : wr.cell? ⟨gb565, 1, none⟩ = some (.int .u64 0) := (blk_cell BK565.out 1).trans rfl
     have hfz23_0 := blk_frozen BK565.out 0
     have hfz23_1 := blk_frozen BK565.out 1
     go_wp2
     refine bodyPost_ret (results_ct rfl _ _ gb565 50 #[.int .i64 x567000_1, .int .u64 x567001_1] (0, 0) _ rfl (by (with_reducible repeat (first | refine blk_drewN ?_ _ | refine blk_drew ?_ | refine blk_alloc ?_ _)); refine blk_put (cs := #[.int .i64 x567000_1, .int .u64 0]) ?_ 1 _ rfl; (with_reducible repeat (first | refine blk_drewN ?_ _ | refine blk_drew ?_ | refine blk_alloc ?_ _)); refine blk_put (cs := #[.int .i64 0, .int .u64 0]) ?_ 0 _ rfl; (with_reducible repeat (first | refine blk_drewN ?_ _ | refine blk_drew ?_ | refine blk_alloc ?_ _)); exact BK565.out) Try.underlying50 rfl (by kernel_rfl)) rfl ?_
     exact ⟨by first | rfl | (simp [errW_none, errW_some] <;> rfl) | (simp [*, errW_none, errW_some] <;> rfl), bH HB⟩
 ·rw [if_neg c4] at H
  have c4b0 : (((l0.length : Int) % 2) == 0) = false := beq_eq_false_iff_ne.mpr c4
  have c4b1 : (((l0.length : Int) % 2) != 0) = true := bne_iff_ne.mpr c4
  (first | rw [c4b0] | (simp only [i64_w, i32_w]; rw [c4b0]) | skip)
  simp only [Option.some.injEq, Prod.mk.injEq] at H
  obtain ⟨rfl, rfl, rfl⟩ := H
  have hcz24_0 : w3.cell? ⟨gb565, 0, none⟩ = some (.int .i64 0) := (blk_cell BK565.out 0).trans rfl
  have hcz24_1 : w3.cell? ⟨gb565, 1, none⟩ = some (.int .u64 0) := (blk_cell BK565.out 1).trans rfl
  have hfz24_0 := blk_frozen BK565.out 0
  have hfz24_1 := blk_frozen BK565.out 1
  go_wp2
  refine bodyPost_ret (results_ct rfl _ _ gb565 50 #[.int .i64 0, .int .u64 0] (0, 0) _ rfl (by (with_reducible repeat (first | refine blk_drewN ?_ _ | refine blk_drew ?_ | refine blk_alloc ?_ _)); refine blk_put (cs := #[.int .i64 0, .int .u64 0]) ?_ 1 _ rfl; (with_reducible repeat (first | refine blk_drewN ?_ _ | refine blk_drew ?_ | refine blk_alloc ?_ _)); refine blk_put (cs := #[.int .i64 0, .int .u64 0]) ?_ 0 _ rfl; (with_reducible repeat (first | refine blk_drewN ?_ _ | refine blk_drew ?_ | refine blk_alloc ?_ _)); exact BK565.out) Try.underlying50 rfl (by kernel_rfl)) rfl ?_
  exact ⟨by first | rfl | (simp [errW_none, errW_some] <;> rfl) | (simp [*, errW_none, errW_some] <;> rfl), bH HB⟩

end Go.Proofs.Ytbonkedecfjmdaa.P

namespace Go.Proofs.Ytbonkedecfjmdaa.P
open Go.RowKit Go.Proofs.YtbonkedecfjmdaaW.PrintWords Go.Proofs.YtbonkedecfjmdaaW.PrintLast Go.Proofs.YtbonkedecfjmdaaW.PrintMore Go.Proofs.Ytbonkedecfjmdaa.X
attribute [local go_sem] max2_int min2_int max_two min_two max_three min_three max_four min_four add64_0 add64_1 add64   -- for this text's walks alone
set_option linter.unusedVariables false
set_option linter.unusedSimpArgs false

/-! ### geom_turn: function 60 -/
def geom_turn.f (k : Nat) (a0_0 : Int) (a0_1 : Int) (a0_2 : Int) (a1_0 : Int) (a1_1 : Int) (a1_2 : Int) (a2_0 : Int) (a2_1 : Int) (a2_2 : Int) : Option (Int) := (wide_Dot.f k (([wrap64 (a1_0 - a0_0), wrap64 (a2_1 - a0_1), wrap64 (a0_1 - a1_1), wrap64 (a2_0 - a0_0)] : List Int))).bind fun bt582 => ((wide_Sign.f bt582.1 bt582.2.1).bind fun t586 => (some t586))
theorem geom_turn.mono : ∀ a0 a1 a2 a3 a4 a5 a6 a7 a8 k, LeO (geom_turn.f k a0 a1 a2 a3 a4 a5 a6 a7 a8) (geom_turn.f (k + 1) a0 a1 a2 a3 a4 a5 a6 a7 a8) := by
 intro a0 a1 a2 a3 a4 a5 a6 a7 a8 k
 unfold geom_turn.f
 repeat' first
   | (with_reducible exact wide_Dot.mono _ _)
   | (with_reducible exact LeO.refl _)
   | (with_reducible exact LeO.none _)
   | (with_reducible refine LeO.ite ?_ ?_)
   | (with_reducible refine LeO.bind ?_ (fun _ => ?_))
   | exact wide_Dot.mono _ _
   | exact LeO.none _
   | refine LeO.ite ?_ ?_
   | refine LeO.bind ?_ (fun _ => ?_)
set_option maxHeartbeats 8000000 in
set_option maxRecDepth 100000 in
theorem geom_turn.calls (k : Nat) (a0_0 : Int) (a0_1 : Int) (a0_2 : Int) (a1_0 : Int) (a1_1 : Int) (a1_2 : Int) (a2_0 : Int) (a2_1 : Int) (a2_2 : Int) (r : Int) (w : World) (h : geom_turn.f k a0_0 a0_1 a0_2 a1_0 a1_1 a1_2 a2_0 a2_1 a2_2 = some r) :
  Calls Try.prog 60 #[.agg #[.int .i64 a0_0, .int .i64 a0_1, .int .i64 a0_2], .agg #[.int .i64 a1_0, .int .i64 a1_1, .int .i64 a1_2], .agg #[.int .i64 a2_0, .int .i64 a2_1, .int .i64 a2_2]] w fun e w' => e = .returned (.int .i64 r) ∧ Below w.heap.size w w' := by
 have hu27 := Try.underlying27
 have hu50 := Try.underlying50
 have HB := Aside0.mk (Below.refl w.heap.size w)
 have H : ((wide_Dot.f k (([wrap64 (a1_0 - a0_0), wrap64 (a2_1 - a0_1), wrap64 (a0_1 - a1_1), wrap64 (a2_0 - a0_0)] : List Int))).bind fun bt582 => ((wide_Sign.f bt582.1 bt582.2.1).bind fun t586 => (some t586))) = some r := h
 clear h
 obtain ⟨y579, hy579⟩ : ∃ y_ : List Int, y_ = (([wrap64 (a1_0 - a0_0), wrap64 (a2_1 - a0_1), wrap64 (a0_1 - a1_1), wrap64 (a2_0 - a0_0)] : List Int)) := ⟨_, rfl⟩
 replace H : ((wide_Dot.f k y579).bind fun bt582 => ((wide_Sign.f bt582.1 bt582.2.1).bind fun t586 => (some t586))) = some r := by first | (rw [hy579]; with_reducible exact H) | (have H2_ := (Option.bind_some _ _).symm.trans H; rw [hy579]; with_reducible exact H2_) | (have H2_ := (Option.bind_some _ _).symm.trans H; with_reducible exact H2_) | with_reducible exact H | (rw [hy579]; exact H) | exact H
 have Ny579 := Aside0.mk hy579
 clear hy579
 replace H := Option.bind_eq_some_iff.mp H
 obtain ⟨⟨t582, t583, t584⟩, A40, H⟩ := H
 replace H : ((wide_Sign.f t582 t583).bind fun t586 => (some t586)) = some r := H
 have A4 := Aside0.mk A40
 clear A40
 replace H := Option.bind_eq_some_iff.mp H
 obtain ⟨t586, A50, H⟩ := H
 replace H : (some t586) = some r := H
 have A5 := Aside0.mk A50
 clear A50
 obtain rfl := Option.some.inj H
 go_enter Try.func60, Try.ntmps60
 go_wp2_with (first | ((with_reducible refine gate_dst (N := 3) rfl ?_); refine box_event ?hg (N := 3) ?hd (cs := #[.int .i64 a0_0, .int .i64 a0_1, .int .i64 a0_2]) (t := 27) ?hr ?_; (case hd => rfl); (case hg => rfl); (case hr => first | (go_simp; done) | (go_simp; rfl)); intro gb576 hg w6 hbox hb; have n0_ := Aside0.mk (below_step (bH HB) hb); have n1_ := Aside0.mk (hbox); have n2_ := Aside0.mk ((by rw [hg]; exact (below_size (bH HB)) : w.heap.size ≤ gb576)); have n3_ := n2_; clear HB; have HB := n0_; have BK576 := n1_; have GW576 := n2_; have GE576 := n3_; clear n0_ n1_ n2_ n3_; clear hb hbox hg) | ((with_reducible refine gate_dst (N := 4) rfl ?_); refine box_event ?hg (N := 4) ?hd (cs := #[.int .i64 a1_0, .int .i64 a1_1, .int .i64 a1_2]) (t := 27) ?hr ?_; (case hd => rfl); (case hg => rfl); (case hr => first | (go_simp; done) | (go_simp; rfl)); intro gb577 hg w7 hbox hb; have n0_ := Aside0.mk (blk_below (g := gb576) (o := .cells #[.int .i64 a0_0, .int .i64 a0_1, .int .i64 a0_2] 27 (0, 0)) (bK BK576) hb); have n1_ := Aside0.mk (below_step (bH HB) hb); have n2_ := Aside0.mk (hbox); have n3_ := Aside0.mk ((by rw [hg]; exact (below_size (bH HB)) : w.heap.size ≤ gb577)); have n4_ := n3_; have n5_ := Aside0.mk ((by rw [hg]; exact Nat.ne_of_lt (blk_lt (bK BK576)) : gb576 ≠ gb577)); have n6_ := Aside0.mk ((by rw [hg]; exact Nat.ne_of_gt (blk_lt (bK BK576)) : gb577 ≠ gb576)); clear BK576; clear HB; have BK576 := n0_; have HB := n1_; have BK577 := n2_; have GW577 := n3_; have GE577 := n4_; have NB576_577 := n5_; have NB577_576 := n6_; clear n0_ n1_ n2_ n3_ n4_ n5_ n6_; clear hb hbox hg) | ((with_reducible refine gate_dst (N := 5) rfl ?_); refine box_event ?hg (N := 5) ?hd (cs := #[.int .i64 a2_0, .int .i64 a2_1, .int .i64 a2_2]) (t := 27) ?hr ?_; (case hd => rfl); (case hg => rfl); (case hr => first | (go_simp; done) | (go_simp; rfl)); intro gb578 hg w8 hbox hb; have n0_ := Aside0.mk (blk_below (g := gb576) (o := .cells #[.int .i64 a0_0, .int .i64 a0_1, .int .i64 a0_2] 27 (0, 0)) (bK BK576) hb); have n1_ := Aside0.mk (blk_below (g := gb577) (o := .cells #[.int .i64 a1_0, .int .i64 a1_1, .int .i64 a1_2] 27 (0, 0)) (bK BK577) hb); have n2_ := Aside0.mk (below_step (bH HB) hb); have n3_ := Aside0.mk (hbox); have n4_ := Aside0.mk ((by rw [hg]; exact (below_size (bH HB)) : w.heap.size ≤ gb578)); have n5_ := n4_; have n6_ := Aside0.mk ((by rw [hg]; exact Nat.ne_of_lt (blk_lt (bK BK576)) : gb576 ≠ gb578)); have n7_ := Aside0.mk ((by rw [hg]; exact Nat.ne_of_gt (blk_lt (bK BK576)) : gb578 ≠ gb576)); have n8_ := Aside0.mk ((by rw [hg]; exact Nat.ne_of_lt (blk_lt (bK BK577)) : gb577 ≠ gb578)); have n9_ := Aside0.mk ((by rw [hg]; exact Nat.ne_of_gt (blk_lt (bK BK577)) : gb578 ≠ gb577)); clear BK576; clear BK577; clear HB; have BK576 := n0_; have BK577 := n1_; have HB := n2_; have BK578 := n3_; have GW578 := n4_; have GE578 := n5_; have NB576_578 := n6_; have NB578_576 := n7_; have NB577_578 := n8_; have NB578_577 := n9_; clear n0_ n1_ n2_ n3_ n4_ n5_ n6_ n7_ n8_ n9_; clear hb hbox hg; have hnb9 := NB577_576.out; have hnc9 := NB576_577.out; have hnb10 := NB577_578.out; have hnc10 := NB578_577.out; have hcz11_0 : w8.cell? ⟨gb577, 0, none⟩ = some (.int .i64 a1_0) := (blk_cell BK577.out 0).trans rfl; have hcz11_1 : w8.cell? ⟨gb577, 1, none⟩ = some (.int .i64 a1_1) := (blk_cell BK577.out 1).trans rfl; have hcz11_2 : w8.cell? ⟨gb577, 2, none⟩ = some (.int .i64 a1_2) := (blk_cell BK577.out 2).trans rfl; have hfz11_0 := blk_frozen BK577.out 0; have hfz11_1 := blk_frozen BK577.out 1; have hfz11_2 := blk_frozen BK577.out 2; have hnb12 := NB576_578.out; have hnc12 := NB578_576.out; have hcz13_0 : w8.cell? ⟨gb576, 0, none⟩ = some (.int .i64 a0_0) := (blk_cell BK576.out 0).trans rfl; have hcz13_1 : w8.cell? ⟨gb576, 1, none⟩ = some (.int .i64 a0_1) := (blk_cell BK576.out 1).trans rfl; have hcz13_2 : w8.cell? ⟨gb576, 2, none⟩ = some (.int .i64 a0_2) := (blk_cell BK576.out 2).trans rfl; have hfz13_0 := blk_frozen BK576.out 0; have hfz13_1 := blk_frozen BK576.out 1; have hfz13_2 := blk_frozen BK576.out 2; have hcz14_0 : w8.cell? ⟨gb578, 0, none⟩ = some (.int .i64 a2_0) := (blk_cell BK578.out 0).trans rfl; have hcz14_1 : w8.cell? ⟨gb578, 1, none⟩ = some (.int .i64 a2_1) := (blk_cell BK578.out 1).trans rfl; have hcz14_2 : w8.cell? ⟨gb578, 2, none⟩ = some (.int .i64 a2_2) := (blk_cell BK578.out 2).trans rfl; have hfz14_0 := blk_frozen BK578.out 0; have hfz14_1 := blk_frozen BK578.out 1; have hfz14_2 := blk_frozen BK578.out 2) | ((with_reducible refine gate_dst (N := 30) rfl ?_); refine Kd.R_lit (Kd.int .i64) _ 3 ?hg (N := 30) ?hd (xs := ([wrap64 (a1_0 - a0_0), wrap64 (a2_1 - a0_1), wrap64 (a0_1 - a1_1), wrap64 (a2_0 - a0_0)] : List Int)) (inner := [.int .i64 (wrap64 (a1_0 - a0_0)), .int .i64 (wrap64 (a2_1 - a0_1)), .int .i64 (wrap64 (a0_1 - a1_1)), .int .i64 (wrap64 (a2_0 - a0_0))]) (ok := fun _ => True) (okp := fun _ => True) ?hr ?hp (fun _ hk => hk) trivial (Below.refl _ _) (Nat.le_refl _) (by simp) ?_; (case hd => rfl); (case hg => rfl); (case hr => first | (go_simp; done) | (go_simp; rfl)); (case hp => exact (Reps.one (show Kd.M (Kd.int .i64) _ _ _ (wrap64 (a1_0 - a0_0)) [.int .i64 (wrap64 (a1_0 - a0_0))] from rfl) (Reps.one (show Kd.M (Kd.int .i64) _ _ _ (wrap64 (a2_1 - a0_1)) [.int .i64 (wrap64 (a2_1 - a0_1))] from rfl) (Reps.one (show Kd.M (Kd.int .i64) _ _ _ (wrap64 (a0_1 - a1_1)) [.int .i64 (wrap64 (a0_1 - a1_1))] from rfl) (Reps.one (show Kd.M (Kd.int .i64) _ _ _ (wrap64 (a2_0 - a0_0)) [.int .i64 (wrap64 (a2_0 - a0_0))] from rfl) (Reps.none _ _)))))); intro v580 w15 ho16 hb hg_ hnew_; clear hg_ hnew_; (first | rw [← Ny579.out] at ho16 | (simp only [Int.reduceToNat] at ho16; rw [← Ny579.out] at ho16)); have n0_ := Aside0.mk (Kd.R_lower ho16 (below_size (bH HB))); have n1_ := Aside0.mk (blk_below (g := gb576) (o := .cells #[.int .i64 a0_0, .int .i64 a0_1, .int .i64 a0_2] 27 (0, 0)) (bK BK576) hb); have n2_ := Aside0.mk (blk_below (g := gb577) (o := .cells #[.int .i64 a1_0, .int .i64 a1_1, .int .i64 a1_2] 27 (0, 0)) (bK BK577) hb); have n3_ := Aside0.mk (blk_below (g := gb578) (o := .cells #[.int .i64 a2_0, .int .i64 a2_1, .int .i64 a2_2] 27 (0, 0)) (bK BK578) hb); have n4_ := Aside0.mk (below_step (bH HB) hb); clear BK576; clear BK577; clear BK578; clear HB; have HO581 := n0_; have BK576 := n1_; have BK577 := n2_; have BK578 := n3_; have HB := n4_; clear n0_ n1_ n2_ n3_ n4_; clear hb ho16; obtain ⟨Ao17, co17, eo17⟩ := Kd.R_slice HO581.out; subst eo17) | ((with_reducible refine gate_callee (f := 69) rfl ?_); refine goesL_ (some 31) rfl rfl Try.func69 (by kernel_rfl) rfl #[.slice Ao17 y579.length co17] rfl (by (try simp only [List.map_toArray, List.map_cons, List.map_nil]); first | done | rfl | (simp only [List.length_drop, List.length_take]; rfl)) ?_; (with_reducible refine (wide_Dot.calls k _ _ y579 t582 t583 t584 _ ?side1 ?side2 A4.out).mono ?_); (case side1 => repeat (first | exact (Kd.R_reads' HO581.out).2.2 | (with_reducible refine Kd.C_alloc ?_ _) | (with_reducible refine Kd.C_drewN ?_ _) | (with_reducible refine Kd.C_drew ?_))); (case side2 => exact (Kd.R_reads' HO581.out).2.1); rintro e w18 ⟨rfl, hb⟩; refine ⟨_, rfl, ?_⟩; have n0_ := Aside0.mk (Kd.R_below (rK HO581) hb); have n1_ := Aside0.mk (blk_below (g := gb576) (o := .cells #[.int .i64 a0_0, .int .i64 a0_1, .int .i64 a0_2] 27 (0, 0)) (bK BK576) hb); have n2_ := Aside0.mk (blk_below (g := gb577) (o := .cells #[.int .i64 a1_0, .int .i64 a1_1, .int .i64 a1_2] 27 (0, 0)) (bK BK577) hb); have n3_ := Aside0.mk (blk_below (g := gb578) (o := .cells #[.int .i64 a2_0, .int .i64 a2_1, .int .i64 a2_2] 27 (0, 0)) (bK BK578) hb); have n4_ := Aside0.mk (below_step (bH HB) hb); clear HO581; clear BK576; clear BK577; clear BK578; clear HB; have HO581 := n0_; have BK576 := n1_; have BK577 := n2_; have BK578 := n3_; have HB := n4_; clear n0_ n1_ n2_ n3_ n4_; (try clear hb); (try clear hb2); (try clear hk); (try clear hi)) | ((with_reducible refine gate_dst (N := 7) rfl ?_); refine box_event ?hg (N := 7) ?hd (cs := #[.int .i64 0, .int .u64 0]) (t := 50) ?hr ?_; (case hd => rfl); (case hg => rfl); (case hr => first | (go_simp; done) | (go_simp; rfl)); intro gb585 hg w19 hbox hb; have n0_ := Aside0.mk (Kd.R_below (rK HO581) hb); have n1_ := Aside0.mk (blk_below (g := gb576) (o := .cells #[.int .i64 a0_0, .int .i64 a0_1, .int .i64 a0_2] 27 (0, 0)) (bK BK576) hb); have n2_ := Aside0.mk (blk_below (g := gb577) (o := .cells #[.int .i64 a1_0, .int .i64 a1_1, .int .i64 a1_2] 27 (0, 0)) (bK BK577) hb); have n3_ := Aside0.mk (blk_below (g := gb578) (o := .cells #[.int .i64 a2_0, .int .i64 a2_1, .int .i64 a2_2] 27 (0, 0)) (bK BK578) hb); have n4_ := Aside0.mk (below_step (bH HB) hb); have n5_ := Aside0.mk (hbox); have n6_ := Aside0.mk ((by rw [hg]; exact (below_size (bH HB)) : w.heap.size ≤ gb585)); have n7_ := n6_; have n8_ := Aside0.mk ((by rw [hg]; exact Nat.ne_of_lt (blk_lt (bK BK576)) : gb576 ≠ gb585)); have n9_ := Aside0.mk ((by rw [hg]; exact Nat.ne_of_gt (blk_lt (bK BK576)) : gb585 ≠ gb576)); have n10_ := Aside0.mk ((by rw [hg]; exact Nat.ne_of_lt (blk_lt (bK BK577)) : gb577 ≠ gb585)); have n11_ := Aside0.mk ((by rw [hg]; exact Nat.ne_of_gt (blk_lt (bK BK577)) : gb585 ≠ gb577)); have n12_ := Aside0.mk ((by rw [hg]; exact Nat.ne_of_lt (blk_lt (bK BK578)) : gb578 ≠ gb585)); have n13_ := Aside0.mk ((by rw [hg]; exact Nat.ne_of_gt (blk_lt (bK BK578)) : gb585 ≠ gb578)); clear HO581; clear BK576; clear BK577; clear BK578; clear HB; have HO581 := n0_; have BK576 := n1_; have BK577 := n2_; have BK578 := n3_; have HB := n4_; have BK585 := n5_; have GW585 := n6_; have GE585 := n7_; have NB576_585 := n8_; have NB585_576 := n9_; have NB577_585 := n10_; have NB585_577 := n11_; have NB578_585 := n12_; have NB585_578 := n13_; clear n0_ n1_ n2_ n3_ n4_ n5_ n6_ n7_ n8_ n9_ n10_ n11_ n12_ n13_; clear hb hbox hg; have hnb20 := NB585_576.out; have hnc20 := NB576_585.out; have hnb21 := NB585_577.out; have hnc21 := NB577_585.out; have hnb22 := NB585_578.out; have hnc22 := NB578_585.out; have hcz23_0 : w19.cell? ⟨gb585, 0, none⟩ = some (.int .i64 0) := (blk_cell BK585.out 0).trans rfl; have hcz23_1 : w19.cell? ⟨gb585, 1, none⟩ = some (.int .u64 0) := (blk_cell BK585.out 1).trans rfl; have hfz23_0 := blk_frozen BK585.out 0; have hfz23_1 := blk_frozen BK585.out 1) | ((with_reducible refine gate_callee (f := 24) rfl ?_); refine goesL_ (some 35) rfl rfl Try.func24 (by kernel_rfl) rfl #[.agg #[.int .i64 t582, .int .u64 t583]] rfl (by (try simp only [List.map_toArray, List.map_cons, List.map_nil]); first | done | rfl | (simp only [List.length_drop, List.length_take]; rfl)) ?_; (with_reducible refine (wide_Sign.calls t582 t583 t586 _ A5.out).mono ?_); rintro e w24 ⟨rfl, hb⟩; refine ⟨_, rfl, ?_⟩; have n0_ := Aside0.mk (Kd.R_below (by (with_reducible repeat (first | apply Kd.R_alloc | apply Kd.R_drewN | apply Kd.R_drew)); exact (Kd.R_mono (Kd.R_far (p := ⟨gb585, 1, none⟩) (Kd.R_far (p := ⟨gb585, 0, none⟩) (Kd.R_types HO581.out BK585.out (by decide)) (fun _ hk => hk.2) (.int .i64 t582)) (fun _ hk => hk.2) (.int .u64 t583)) (fun _ h_ => h_.1))) hb); have n1_ := Aside0.mk (blk_below (g := gb576) (o := .cells #[.int .i64 a0_0, .int .i64 a0_1, .int .i64 a0_2] 27 (0, 0)) (bK BK576) hb); have n2_ := Aside0.mk (blk_below (g := gb577) (o := .cells #[.int .i64 a1_0, .int .i64 a1_1, .int .i64 a1_2] 27 (0, 0)) (bK BK577) hb); have n3_ := Aside0.mk (blk_below (g := gb578) (o := .cells #[.int .i64 a2_0, .int .i64 a2_1, .int .i64 a2_2] 27 (0, 0)) (bK BK578) hb); have n4_ := Aside0.mk (blk_below (g := gb585) (o := .cells #[.int .i64 t582, .int .u64 t583] 50 (0, 0)) (by (with_reducible repeat (first | refine blk_drewN ?_ _ | refine blk_drew ?_ | refine blk_alloc ?_ _)); refine blk_put (cs := #[.int .i64 t582, .int .u64 0]) ?_ 1 _ rfl; (with_reducible repeat (first | refine blk_drewN ?_ _ | refine blk_drew ?_ | refine blk_alloc ?_ _)); refine blk_put (cs := #[.int .i64 0, .int .u64 0]) ?_ 0 _ rfl; (with_reducible repeat (first | refine blk_drewN ?_ _ | refine blk_drew ?_ | refine blk_alloc ?_ _)); exact BK585.out) hb); have n5_ := Aside0.mk (below_step (bH HB) hb); clear HO581; clear BK576; clear BK577; clear BK578; clear BK585; clear HB; have HO581 := n0_; have BK576 := n1_; have BK577 := n2_; have BK578 := n3_; have BK585 := n4_; have HB := n5_; clear n0_ n1_ n2_ n3_ n4_ n5_; (try clear hb); (try clear hb2); (try clear hk); (try clear hi)))
 go_ret
 exact ⟨by first | rfl | (simp [errW_none, errW_some] <;> rfl) | (simp [*, errW_none, errW_some] <;> rfl), bH HB⟩

end Go.Proofs.Ytbonkedecfjmdaa.P

namespace Go.Proofs.Ytbonkedecfjmdaa.P
open Go.RowKit Go.Proofs.YtbonkedecfjmdaaW.PrintWords Go.Proofs.YtbonkedecfjmdaaW.PrintLast Go.Proofs.YtbonkedecfjmdaaW.PrintMore Go.Proofs.Ytbonkedecfjmdaa.X
attribute [local go_sem] max2_int min2_int max_two min_two max_three min_three max_four min_four add64_0 add64_1 add64   -- for this text's walks alone
set_option linter.unusedVariables false
set_option linter.unusedSimpArgs false

/-! ### wide_Of: function 26 -/
def wide_Of.f (a0 : Int) : Option (Int × Int) := some (a0 / 9223372036854775808, IntKind.u64.wrap (a0))
set_option maxHeartbeats 8000000 in
set_option maxRecDepth 100000 in
theorem wide_Of.calls (a0 : Int) (r1 : Int) (r2 : Int) (w : World) (h : wide_Of.f a0 = some (r1, r2)) :
  Calls Try.prog 26 #[.int .i64 a0] w fun e w' => e = .returned (.agg #[.int .i64 r1, .int .u64 r2]) ∧ Below w.heap.size w w' := by
 have hu50 := Try.underlying50
 have HB := Aside0.mk (Below.refl w.heap.size w)
 have H : (some (a0 / 9223372036854775808, IntKind.u64.wrap (a0))) = some (r1, r2) := h
 clear h
 simp only [Option.some.injEq, Prod.mk.injEq] at H
 obtain ⟨rfl, rfl⟩ := H
 go_enter Try.func26, Try.ntmps26
 go_wp2_with (first | ((with_reducible refine gate_dst (N := 2) rfl ?_); refine box_event ?hg (N := 2) ?hd (cs := #[.int .i64 0, .int .u64 0]) (t := 50) ?hr ?_; (case hd => rfl); (case hg => rfl); (case hr => first | (go_simp; done) | (go_simp; rfl)); intro gb879 hg w2 hbox hb; have n0_ := Aside0.mk (below_step (bH HB) hb); have n1_ := Aside0.mk (hbox); have n2_ := Aside0.mk ((by rw [hg]; exact (below_size (bH HB)) : w.heap.size ≤ gb879)); have n3_ := n2_; clear HB; have HB := n0_; have BK879 := n1_; have GW879 := n2_; have GE879 := n3_; clear n0_ n1_ n2_ n3_; clear hb hbox hg; have hcz3_0 : w2.cell? ⟨gb879, 0, none⟩ = some (.int .i64 0) := (blk_cell BK879.out 0).trans rfl; have hcz3_1 : w2.cell? ⟨gb879, 1, none⟩ = some (.int .u64 0) := (blk_cell BK879.out 1).trans rfl; have hfz3_0 := blk_frozen BK879.out 0; have hfz3_1 := blk_frozen BK879.out 1))
 refine bodyPost_ret (results_cell_row rfl _ _ gb879 50 #[.int .i64 (a0 / 9223372036854775808), .int .u64 (IntKind.u64.wrap (a0))] (0, 0) _ rfl (by (with_reducible repeat (first | refine blk_drewN ?_ _ | refine blk_drew ?_ | refine blk_alloc ?_ _)); refine blk_put (cs := #[.int .i64 (a0 / 9223372036854775808), .int .u64 0]) ?_ 1 _ rfl; (with_reducible repeat (first | refine blk_drewN ?_ _ | refine blk_drew ?_ | refine blk_alloc ?_ _)); refine blk_put (cs := #[.int .i64 0, .int .u64 0]) ?_ 0 _ rfl; (with_reducible repeat (first | refine blk_drewN ?_ _ | refine blk_drew ?_ | refine blk_alloc ?_ _)); exact BK879.out) Try.underlying50 rfl (by kernel_rfl)) rfl ?_
 exact ⟨by first | rfl | (simp [errW_none, errW_some] <;> rfl) | (simp [*, errW_none, errW_some] <;> rfl), bH HB⟩

end Go.Proofs.Ytbonkedecfjmdaa.P

namespace Go.Proofs.Ytbonkedecfjmdaa.WL
set_option linter.unusedVariables false
set_option linter.unusedSimpArgs false
open Go.RowKit Go.Proofs.Ytbonkedecfjmdaa.P Go.Proofs.Ytbonkedecfjmdaa.X Go.Proofs.YtbonkedecfjmdaaW.PrintWords Go.Proofs.YtbonkedecfjmdaaW.PrintLast Go.Proofs.YtbonkedecfjmdaaW.PrintMore
theorem u64w (x : Int) : IntKind.u64.wrap x = x % 18446744073709551616 := by
  unfold IntKind.wrap; rfl
theorem w64_id {x : Int} (h : -9223372036854775808 ≤ x) (h' : x ≤ 9223372036854775807) : wrap64 x = x := by
  unfold wrap64; omega
theorem tmod65536 (x : Int) : Int.tmod x 65536 = if 0 ≤ x then x % 65536 else -((-x) % 65536) := by
  split
  · rename_i h; exact Int.tmod_eq_emod_of_nonneg h
  · rename_i h
    have h' : 0 ≤ -x := by omega
    rw [← Int.tmod_eq_emod_of_nonneg h', Int.neg_tmod, Int.neg_neg]
theorem tdiv_ex (q : Int) : Int.tdiv (65536 * q) 65536 = q := Int.mul_tdiv_cancel_left q (by decide)
theorem tdiv_nn {x : Int} (h : 0 ≤ x) : Int.tdiv x 65536 = x / 65536 := Int.tdiv_eq_ediv_of_nonneg h
theorem tmod_nn {x : Int} (h : 0 ≤ x) : Int.tmod x 65536 = x % 65536 := Int.tmod_eq_emod_of_nonneg h

def digs : Nat → Int → List Int
  | 0, _ => []
  | n + 1, x => (x % 65536) :: digs n (x / 65536)
def hor : List Int → Int
  | [] => 0
  | d :: l => d + 65536 * hor l
abbrev dig (x : Int) : List Int := digs 8 x
theorem digs_len : ∀ n x, (digs n x).length = n
  | 0, _ => rfl
  | n + 1, x => by simp [digs, digs_len n]
theorem digs_range : ∀ n x d, d ∈ digs n x → 0 ≤ d ∧ d < 65536
  | 0, _, d, h => by simp [digs] at h
  | n + 1, x, d, h => by
    simp only [digs, List.mem_cons] at h
    rcases h with rfl | h
    · omega
    · exact digs_range n _ d h
theorem hor_digs : ∀ n x, ∃ q : Int, hor (digs n x) = x - q * 65536 ^ n
  | 0, x => ⟨x, by simp [digs, hor]⟩
  | n + 1, x => by
    obtain ⟨q, hq⟩ := hor_digs n (x / 65536)
    refine ⟨q, ?_⟩
    have e : q * (65536 : Int) ^ (n + 1) = 65536 * (q * 65536 ^ n) := by
      rw [Int.pow_succ, ← Int.mul_assoc, Int.mul_comm]
    rw [e]
    simp only [digs, hor, hq]
    generalize q * (65536 : Int) ^ n = P
    omega
theorem digs_add : ∀ n (x q : Int), digs n (x + q * 65536 ^ n) = digs n x
  | 0, _, _ => rfl
  | n + 1, x, q => by
    have e : q * (65536 : Int) ^ (n + 1) = 65536 * (q * 65536 ^ n) := by
      rw [Int.pow_succ, ← Int.mul_assoc, Int.mul_comm]
    rw [e]
    have ih := digs_add n (x / 65536) q
    generalize q * (65536 : Int) ^ n = P at ih ⊢
    simp only [digs]
    rw [show (x + 65536 * P) % 65536 = x % 65536 by omega, show (x + 65536 * P) / 65536 = x / 65536 + P by omega, ih]
theorem digs_congr {n : Nat} {x y : Int} (h : ∃ q : Int, x = y + q * 65536 ^ n) : digs n x = digs n y := by
  obtain ⟨q, rfl⟩ := h; exact digs_add n y q
theorem dig_congr {x y : Int} (h : (x - y) % 340282366920938463463374607431768211456 = 0) : dig x = dig y :=
  digs_congr ⟨(x - y) / 340282366920938463463374607431768211456, by
    have : (65536 : Int) ^ 8 = 340282366920938463463374607431768211456 := by decide
    rw [this]; omega⟩
theorem dig_hor (x : Int) : dig (hor (dig x)) = dig x := by
  obtain ⟨q, hq⟩ := hor_digs 8 x
  exact digs_congr ⟨-q, by rw [show dig x = digs 8 x from rfl, hq]; generalize (65536 : Int) ^ 8 = M; rw [Int.neg_mul]; omega⟩

theorem digs4_8 (hi lo : Int) (h0 : 0 ≤ lo) (h1 : lo < 18446744073709551616) : digs 4 lo ++ (digs 8 hi).take 4 = dig (hi * 18446744073709551616 + lo) := by
  simp only [digs, List.take_succ_cons, List.take_zero, List.cons_append, List.nil_append]
  congr 1
  · omega
  · congr 1
    · omega
    · congr 1
      · omega
      · congr 1
        · omega
        · congr 1
          · omega
          · congr 1
            · omega
            · congr 1
              · omega
              · congr 1; omega
theorem rd_eq (l : List Int) (i : Int) (h0 : i.toNat < l.length) : rd l i = l[i.toNat] := by
  unfold rd; rw [List.getD_eq_getElem?_getD, List.getElem?_eq_getElem h0]; rfl
theorem hor_range : ∀ l : List Int, (∀ d ∈ l, 0 ≤ d ∧ d < 65536) → 0 ≤ hor l ∧ hor l < 65536 ^ l.length
  | [], _ => by simp [hor]
  | d :: l, h => by
    have h1 := h d (by simp)
    have h2 := hor_range l fun x hx => h x (by simp [hx])
    simp only [hor, List.length_cons, Int.pow_succ]
    generalize (65536 : Int) ^ l.length = P at h2 ⊢
    omega
theorem hor_take : ∀ (l : List Int) (n : Nat) (h : n < l.length), hor (l.take (n + 1)) = hor (l.take n) + l[n] * 65536 ^ n
  | [], n, h => by simp at h
  | d :: l, 0, _ => by simp [hor]
  | d :: l, n + 1, h => by
    have h' : n < l.length := by simpa using h
    have ih := hor_take l n h'
    simp only [List.take_succ_cons, hor, List.getElem_cons_succ]
    rw [ih, Int.pow_succ]
    rw [Int.mul_add, show l[n] * ((65536 : Int) ^ n * 65536) = 65536 * (l[n] * 65536 ^ n) by rw [← Int.mul_assoc, Int.mul_comm]]
    omega
theorem hor_digs_mod (n : Nat) (x : Int) : hor (digs n x) = x % 65536 ^ n := by
  obtain ⟨q, hq⟩ := hor_digs n x
  have hr := hor_range (digs n x) (digs_range n x)
  rw [digs_len] at hr
  have e : x = hor (digs n x) + q * 65536 ^ n := by omega
  generalize hor (digs n x) = H at *
  rw [e, Int.add_mul_emod_self_right]
  exact (Int.emod_eq_of_lt hr.1 hr.2).symm

def cmp3 (a b : Int) : Int := if a < b then -1 else if b < a then 1 else 0
def off (x : Int) : Int := (x + 170141183460469231731687303715884105728) % 340282366920938463463374607431768211456
theorem top_turned (x : Int) : hor (digs 7 x) + ((x / 65536 / 65536 / 65536 / 65536 / 65536 / 65536 / 65536 % 65536 + 32768) % 65536) * 65536 ^ 7 = off x := by
  rw [hor_digs_mod]
  have : (65536 : Int) ^ 7 = 5192296858534827628530496329220096 := by decide
  rw [this]; unfold off; omega
theorem cmp3_eq0 (a b : Int) : cmp3 a b = 0 ↔ a = b := by unfold cmp3; split <;> (try split) <;> omega
theorem off_eq {x y : Int} : off x = off y ↔ (x - y) % 340282366920938463463374607431768211456 = 0 := by unfold off; omega

theorem w64_succ (n : Nat) (h : n < 9223372036854775807) : wrap64 ((n : Int) + 1) = ((n + 1 : Nat) : Int) := by unfold wrap64; omega
theorem rd_nat (l : List Int) (i : Nat) (h : i < l.length) : rd l (i : Int) = l[i] := rd_eq l i (by simpa using h)

theorem hor_zip : ∀ a b : List Int, a.length = b.length → hor (List.zipWith (· + ·) a b) = hor a + hor b
  | [], [], _ => rfl
  | x :: a, y :: b, h => by
    simp only [List.zipWith, hor, hor_zip a b (by simpa using h)]; omega
  | [], _ :: _, h => by simp at h
  | _ :: _, [], h => by simp at h
theorem hor_set : ∀ (l : List Int) (n : Nat) (v : Int) (h : n < l.length), hor (l.set n v) = hor l + (v - l[n]) * 65536 ^ n
  | [], n, v, h => by simp at h
  | d :: l, 0, v, _ => by simp [hor]; omega
  | d :: l, n + 1, v, h => by
    have h' : n < l.length := by simpa using h
    have ih := hor_set l n v h'
    simp only [List.set_cons_succ, hor, List.getElem_cons_succ, ih, Int.pow_succ]
    grind
theorem ring1 (h x p y T : Int) : h + x * p * y + T = h + T + x * y * p := by grind
theorem ring2 (h D x y P H T : Int) : h + (D + x * y - D) * P + x * (P * 65536) * H + T = h + x * P * (y + 65536 * H) + T := by grind
theorem ring3 (h x P B H : Int) : h + x * P * B + P * 65536 * H * B = h + P * (x + 65536 * H) * B := by grind
theorem mulb {x y : Int} (h1 : 0 ≤ x) (h2 : x < 65536) (h3 : 0 ≤ y) (h4 : y < 65536) : 0 ≤ x * y ∧ x * y ≤ 4294836225 := by
  have := Int.mul_le_mul (show x ≤ 65535 by omega) (show y ≤ 65535 by omega) h3 (by decide)
  exact ⟨Int.mul_nonneg h1 h3, this⟩
theorem digs_neg : ∀ (n : Nat) (x : Int), (digs n x).map (fun d => 65535 - d) = digs n (-x - 1)
  | 0, _ => rfl
  | n + 1, x => by
    simp only [digs, List.map_cons, digs_neg n]
    rw [show 65535 - x % 65536 = (-x - 1) % 65536 by omega, show -(x / 65536) - 1 = (-x - 1) / 65536 by omega]
def dotS : List Int → Int
  | a :: b :: l => a * b + dotS l
  | _ => 0

end Go.Proofs.Ytbonkedecfjmdaa.WL
