/- Written for this claim by a program of this session (a turned copy of the print): Go functions as Lean functions, and that the Go code comes to just these answers; or a statement proved out of them. No condition. -/
import Derived.Test.YtbdbobjdlomjnaaGreatDoorZ2
import Derived.Test.YtbdbobjdlomjnaaGreatDoorZ11
import Derived.Test.YtbdbobjdlomjnaaGreatDoorZ15
import Derived.Test.YtbdbobjdlomjnaaGreatDoorZ16

namespace Go.Proofs.YtbdbobjdlomjnaaGreatDoor.P
open Go.RowKit Go.Proofs.YtbdbobjdlomjnaaGreatDoorW.PrintWords Go.Proofs.YtbdbobjdlomjnaaGreatDoorW.PrintLast Go.Proofs.YtbdbobjdlomjnaaGreatDoorW.PrintMore Go.Proofs.YtbdbobjdlomjnaaGreatDoor.X
attribute [local go_sem] max2_int min2_int max_two min_two max_three min_three max_four min_four add64_0 add64_1 add64
set_option linter.unusedVariables false
set_option linter.unusedSimpArgs false
def rf06_Encode.l0 : Nat → List (S122) → Int → List (List Int) → List Int → Int → Option (List Int × Int)
 | 0, _, _, _, _, _ => none
 | k + 1, x1, x8, x262000, x262001, x262002 => if x8 < (x1.length : Int) then (if 0 ≤ x8 then ((rf06_Step.f k x262000 x262001 x262002 ((rd_T122 x1 x8).f0) ((rd_T122 x1 x8).f1)).bind fun bt263 => (if bt263.2.2.2 = true then (rf06_Encode.l0 k x1 (wrap64 (x8 + 1)) bt263.1 bt263.2.1 bt263.2.2.1) else (some (([] : List Int), 2)))) else (none)) else (if (x1.length : Int) > 65536 then (some (([] : List Int), 3)) else ((rf06_digits.f k x262001).bind fun t272 => (some (t272, 0))))
def rf06_Encode.f (k : Nat) (l0 : List Int) (l1 : List (S122)) : Option (List Int × Int) := (rf06_Begun.f k l0).bind fun bt253 => (if bt253.2.2.2 = true then (rf06_Encode.l0 k l1 0 bt253.1 bt253.2.1 bt253.2.2.1) else (some (([] : List Int), 2)))
theorem rf06_Encode.mono_l : ∀ k, (∀ y0 y1 y2 y3 y4, LeO (rf06_Encode.l0 k y0 y1 y2 y3 y4) (rf06_Encode.l0 (k + 1) y0 y1 y2 y3 y4))
 | 0 => fun _ _ _ _ _ r h => by simp [rf06_Encode.l0] at h
 | k + 1 => by
  have ih0 := rf06_Encode.mono_l k
  ·intro y0 y1 y2 y3 y4
   unfold rf06_Encode.l0
   repeat' first
   | (with_reducible exact ih0 _ _ _ _ _)
   | (with_reducible exact rf06_Begun.mono _ _)
   | (with_reducible exact rf06_Step.mono _ _ _ _ _ _)
   | (with_reducible exact rf06_digits.mono _ _)
   | (with_reducible exact LeO.refl _)
   | (with_reducible exact LeO.none _)
   | (with_reducible refine LeO.ite ?_ ?_)
   | (with_reducible refine LeO.bind ?_ (fun _ => ?_))
   | exact ih0 _ _ _ _ _
   | exact rf06_Begun.mono _ _
   | exact rf06_Step.mono _ _ _ _ _ _
   | exact rf06_digits.mono _ _
   | exact LeO.none _
   | refine LeO.ite ?_ ?_
   | refine LeO.bind ?_ (fun _ => ?_)
theorem rf06_Encode.mono : ∀ a0 a1 k, LeO (rf06_Encode.f k a0 a1) (rf06_Encode.f (k + 1) a0 a1) := by
 intro a0 a1 k
 have ih0 := rf06_Encode.mono_l k
 unfold rf06_Encode.f
 repeat' first
   | (with_reducible exact ih0 _ _ _ _ _)
   | (with_reducible exact rf06_Begun.mono _ _)
   | (with_reducible exact rf06_Step.mono _ _ _ _ _ _)
   | (with_reducible exact rf06_digits.mono _ _)
   | (with_reducible exact LeO.refl _)
   | (with_reducible exact LeO.none _)
   | (with_reducible refine LeO.ite ?_ ?_)
   | (with_reducible refine LeO.bind ?_ (fun _ => ?_))
   | exact ih0 _ _ _ _ _
   | exact rf06_Begun.mono _ _
   | exact rf06_Step.mono _ _ _ _ _ _
   | exact rf06_digits.mono _ _
   | exact LeO.none _
   | refine LeO.ite ?_ ?_
   | refine LeO.bind ?_ (fun _ => ?_)
def rf06_Encode.T7 : Bool × List (List Nat × List Nat) := (true, [([], []), ([], []), ([], []), ([1, 2], [1, 2]), ([3], [3]), ([0, 4], [0, 4]), ([5], [5]), ([6], [6]), ([6], [6]), ([], []), ([9, 7, 5, 0, 1, 2, 3, 4, 5, 6, 7, 9], [7, 9]), ([8, 10, 0, 1, 2, 3, 4, 5, 6, 7, 8, 9, 10], [8])])
def rf06_Encode.B7 : List Nat := [0, 0, 0, 6, 14, 31, 63, 127, 127, 0, 767, 2047]
theorem rf06_Encode.tab7 : rtab .any (opsOf Tryz.f56 7) = rf06_Encode.T7 := by kernel_rfl
theorem rf06_Encode.bits7 : waitsOk rf06_Encode.T7.2 rf06_Encode.B7 = true := by kernel_rfl
set_option maxHeartbeats 8000000 in
set_option maxRecDepth 100000 in
theorem rf06_Encode.calls (k : Nat) (A0 : Option Addr) (c0 : Nat) (l0 : List Int) (A1 : Option Addr) (c1 : Nat) (l1 : List (S122)) (r1 : List Int) (r2 : Int) (w : World) (hr0 : Kd.C (Kd.int .i64) w A0 l0.length l0) (hc0 : l0.length ≤ c0) (hr1 : Kd.C k122 w A1 l1.length l1) (hc1 : l1.length ≤ c1) (h : rf06_Encode.f k l0 l1 = some (r1, r2)) :
  Calls Tryz.prog 56 #[.slice A0 l0.length c0, .slice A1 l1.length c1] w fun e w' => ∃ v0_ : Value, e = .returned (.tuple #[v0_, .int .i64 r2]) ∧ Kd.R (Kd.int .u8) 5 w' w.heap.size (fun _ => True) v0_ r1 ∧ Below w.heap.size w w' := by
 have hu184 := Tryz.underlying184
 have hu122 := Tryz.underlying122
 have HR0 := Aside0.mk hr0
 have HC0 := Aside0.mk hc0
 clear hr0 hc0
 have HR1 := Aside0.mk hr1
 have HC1 := Aside0.mk hc1
 clear hr1 hc1
 have HB := Aside0.mk (Below.refl w.heap.size w)
 have H : ((rf06_Begun.f k l0).bind fun bt253 => (if bt253.2.2.2 = true then (rf06_Encode.l0 k l1 0 bt253.1 bt253.2.1 bt253.2.2.1) else (some (([] : List Int), 2)))) = some (r1, r2) := h
 clear h
 replace H := Option.bind_eq_some_iff.mp H
 obtain ⟨⟨t253, t256, t259, t260⟩, A30, H⟩ := H
 replace H : (if t260 = true then (rf06_Encode.l0 k l1 0 t253 t256 t259) else (some (([] : List Int), 2))) = some (r1, r2) := H
 have A3 := Aside0.mk A30
 clear A30
 have HC4 := Aside0.mk H
 clear H
 go_enter Tryz.func56, Tryz.ntmps56
 go_upto_if 17 with (first | ((with_reducible refine gate_callee (f := 103) rfl ?_); refine goesL_ (some 13) rfl rfl Tryz.func103 (by kernel_rfl) rfl #[.slice A0 l0.length c0] rfl (by (try simp only [List.map_toArray, List.map_cons, List.map_nil]); first | done | rfl | (simp only [List.length_drop, List.length_take]; rfl)) ?_; (with_reducible refine (rf06_Begun.calls k _ _ l0 t253 t256 t259 t260 _ ?side1 ?side2 A3.out).mono ?_); (case side1 => repeat (first | exact HR0.out | (with_reducible refine Kd.C_alloc ?_ _) | (with_reducible refine Kd.C_drewN ?_ _) | (with_reducible refine Kd.C_drew ?_))); (case side2 => exact HC0.out); rintro e w5 ⟨v254, v257, rfl, ho0, ho1, hb⟩; refine ⟨_, rfl, ?_⟩; have n0_ := Aside0.mk (Kd.S_lower ho0 (below_size (bH HB))); have n1_ := Aside0.mk (Kd.R_lower ho1 (below_size (bH HB))); have n2_ := Aside0.mk (below_step (bH HB) hb); clear HB; have HO255 := n0_; have HO258 := n1_; have HB := n2_; clear n0_ n1_ n2_; (try clear hb); (try clear hb2); (try clear hk); (try clear hi); (try clear ho0); (try clear ho1)) | ((with_reducible refine gate_dst (N := 6) rfl ?_); refine box_event ?hg (N := 6) ?hd (cs := #[.slice none 0 0, .slice none 0 0, .int .i64 0]) (t := 184) ?hr ?_; (case hd => rfl); (case hg => rfl); (case hr => first | (go_simp; done) | (go_simp; rfl)); intro gb261 hg w6 hbox hb; have n0_ := Aside0.mk (Kd.S_below (by (with_reducible repeat (first | apply Kd.S_alloc | apply Kd.S_drewN | apply Kd.S_drew)); exact HO255.out) hb); have n1_ := Aside0.mk (Kd.R_below (rK HO258) hb); have n2_ := Aside0.mk (below_step (bH HB) hb); have n3_ := Aside0.mk (hbox); have n4_ := Aside0.mk ((by rw [hg]; exact (below_size (bH HB)) : w.heap.size ≤ gb261)); have n5_ := n4_; clear HO255; clear HO258; clear HB; have HO255 := n0_; have HO258 := n1_; have HB := n2_; have BK261 := n3_; have GW261 := n4_; have GE261 := n5_; clear n0_ n1_ n2_ n3_ n4_ n5_; clear hb hbox hg; obtain ⟨Ao7, co7, eo7⟩ := Kd.S_slice HO255.out; subst eo7; have hcz8_0 : w6.cell? ⟨gb261, 0, none⟩ = some (.slice none 0 0) := (blk_cell BK261.out 0).trans rfl; have hcz8_1 : w6.cell? ⟨gb261, 1, none⟩ = some (.slice none 0 0) := (blk_cell BK261.out 1).trans rfl; have hcz8_2 : w6.cell? ⟨gb261, 2, none⟩ = some (.int .i64 0) := (blk_cell BK261.out 2).trans rfl; have hfz8_0 := blk_frozen BK261.out 0; have hfz8_1 := blk_frozen BK261.out 1; have hfz8_2 := blk_frozen BK261.out 2; obtain ⟨Ao9, co9, eo9⟩ := Kd.R_slice HO258.out; subst eo9))
 (try simp only [Act.put, List.setIfInBounds_toArray, List.set_cons_zero, List.set_cons_succ])
 have H := HC4.out
 clear HC4
 by_cases c10 : t260 = true
 ·subst c10
  have H1 : (rf06_Encode.l0 k l1 0 t253 t256 t259) = some (r1, r2) := by rw [if_pos rfl] at H; exact H
  clear H
  have H := H1
  clear H1
  have H' := Aside0.mk H
  clear H
  go_wp2
  go_loopg [8] k (fun kq v8 w' => ∃ (x8_1 : Int) (x262000_1 : List (List Int)) (x262001_1 : List Int) (x262002_1 : Int) (u262000 : Value) (u262001 : Value), v8 = .int .i64 x8_1 ∧ Aside0 (rf06_Encode.l0 kq l1 x8_1 x262000_1 x262001_1 x262002_1 = some (r1, r2)) ∧ Aside0 (kq ≤ k) ∧ Aside0 (Kd.V (Kd.slice 3 (Kd.int .i64)) 83 w' w.heap.size (fun k_ => some k_ ≠ (u262001 : Value).ownBlock ∧ k_ ≠ gb261) u262000 x262000_1) ∧ Aside0 (Kd.R (Kd.int .i64) 3 w' w.heap.size (fun _ => True) u262001 x262001_1) ∧ Aside0 (w'.heap[gb261]? = some (.cells #[u262000, u262001, .int .i64 x262002_1] 184 (0, 0))) ∧ Aside0 (Below w.heap.size w w'))
  case atStart => exact ⟨(0), (t253), (t256), (t259), (.slice Ao7 t253.length co7), (.slice Ao9 t256.length co9), (by first | rfl | (simp; done) | (simp [*]; done)), H', ⟨Nat.le_refl _⟩, ⟨Kd.S_V (by (with_reducible repeat (first | apply Kd.S_alloc | apply Kd.S_drewN | apply Kd.S_drew)); exact Kd.S_mono (Kd.S_far (p := ⟨gb261, 2, none⟩) (Kd.S_far (p := ⟨gb261, 1, none⟩) (Kd.S_far (p := ⟨gb261, 0, none⟩) (Kd.S_types (Kd.S_types HO255.out BK261.out (by decide)) BK261.out (by decide)) (fun _ hk => hk.2) (.slice Ao7 t253.length co7)) (fun _ hk => hk.2) (.slice Ao9 t256.length co9)) (fun _ hk => hk.2) (.int .i64 t259)) (fun _ hk => ⟨hk.1.1, hk.1.2⟩))⟩, ⟨by (with_reducible repeat (first | apply Kd.R_alloc | apply Kd.R_drewN | apply Kd.R_drew)); exact Kd.R_mono (Kd.R_far (p := ⟨gb261, 2, none⟩) (Kd.R_far (p := ⟨gb261, 1, none⟩) (Kd.R_far (p := ⟨gb261, 0, none⟩) (Kd.R_types HO258.out BK261.out (by decide)) (fun _ hk => hk.2) (.slice Ao7 t253.length co7)) (fun _ hk => hk.2) (.slice Ao9 t256.length co9)) (fun _ hk => hk.2) (.int .i64 t259)) (fun _ hk => trivial)⟩, ⟨by (with_reducible repeat (first | refine blk_drewN ?_ _ | refine blk_drew ?_ | refine blk_alloc ?_ _)); refine blk_put (cs := #[.slice Ao7 t253.length co7, .slice Ao9 t256.length co9, .int .i64 0]) ?_ 2 _ rfl; (with_reducible repeat (first | refine blk_drewN ?_ _ | refine blk_drew ?_ | refine blk_alloc ?_ _)); refine blk_put (cs := #[.slice Ao7 t253.length co7, .slice none 0 0, .int .i64 0]) ?_ 1 _ rfl; (with_reducible repeat (first | refine blk_drewN ?_ _ | refine blk_drew ?_ | refine blk_alloc ?_ _)); refine blk_put (cs := #[.slice none 0 0, .slice none 0 0, .int .i64 0]) ?_ 0 _ rfl; (with_reducible repeat (first | refine blk_drewN ?_ _ | refine blk_drew ?_ | refine blk_alloc ?_ _)); exact BK261.out⟩, ⟨ bH HB⟩⟩
  case round =>
   clear H'
   try clear c1
   try clear p2
   try clear c5
   try clear c10
   try clear hcz8_0
   try clear hcz8_1
   try clear hcz8_2
   try clear hfz8_0
   try clear hfz8_1
   try clear hfz8_2
   obtain ⟨x8_1, x262000_1, x262001_1, x262002_1, u262000, u262001, rfl, HA, HK1, HO_262000, HO_262001, BK261, HB⟩ := hrel
   cases gk with
   | zero => exact absurd HA.out (by simp [rf06_Encode.l0])
   | succ k1 =>
    have H := HA.out
    clear HA
    simp only [rf06_Encode.l0] at H
    by_cases c11 : x8_1 < (l1.length : Int)
    ·rw [if_pos c11] at H
     have c11b0 : decide (x8_1 < (l1.length : Int)) = true := decide_eq_true c11
     clear c11
     (first | rw [c11b0] | (simp only [i64_w, i32_w]; rw [c11b0]) | skip)
     by_cases c12 : 0 ≤ x8_1
     ·rw [if_pos c12] at H
      have c12b0 : decide (0 ≤ x8_1) = true := decide_eq_true c12
      clear c12
      replace H := Option.bind_eq_some_iff.mp H
      obtain ⟨⟨t263, t266, t269, t270⟩, A130, H⟩ := H
      replace H : (if t270 = true then (rf06_Encode.l0 k1 l1 (wrap64 (x8_1 + 1)) t263 t266 t269) else (some (([] : List Int), 2))) = some (r1, r2) := H
      have A13 := Aside0.mk A130
      clear A130
      have HC14 := Aside0.mk H
      clear H
      obtain ⟨Ao15, co15, eo15⟩ := Kd.V_slice HO_262000.out
      subst eo15
      obtain ⟨Ao16, co16, eo16⟩ := Kd.R_slice HO_262001.out
      subst eo16
      try go_wp2
      have n0_ := Aside0.mk (Kd.V_drew HO_262000.out)
      have n1_ := Aside0.mk (Kd.R_drew HO_262001.out)
      have n2_ := Aside0.mk (blk_drew BK261.out)
      have n3_ := Aside0.mk (below_drew1 HB.out)
      clear HO_262000
      clear HO_262001
      clear BK261
      clear HB
      have HO_262000 := n0_
      have HO_262001 := n1_
      have BK261 := n2_
      have HB := n3_
      clear n0_ n1_ n2_ n3_
      have p262 : 0 ≤ (x8_1 : Int) := of_decide_eq_true (by first | (with_reducible assumption) | assumption)
      have q262 : x8_1 < (l1.length : Int) := of_decide_eq_true (by first | (with_reducible assumption) | assumption)
      obtain ⟨ad262, e262, hx262_0, hx262_1⟩ := at_T122 HR1.out x8_1 p262 q262
      have hw262_1 := hx262_1
      have hw262_0 := hx262_0
      cases e262
      replace hx262_0 := (HB.out.cell (World.block_lt_of_cell? w _ hx262_0)).trans hx262_0
      replace hx262_1 := (HB.out.cell (World.block_lt_of_cell? w _ hx262_1)).trans hx262_1
      replace p262 := eq_true p262
      replace q262 := eq_true q262
      refine start_ (n := 12) (S := fun w' => w'.cell? ⟨gb261, 0, none⟩ = some (.slice Ao15 x262000_1.length co15) ∧ w'.cell? ⟨gb261, 1, none⟩ = some (.slice Ao16 x262001_1.length co16) ∧ w'.cell? ⟨gb261, 2, none⟩ = some (.int .i64 x262002_1) ∧ w'.cell? (ad262.add ((x8_1).toNat * 2)) = some (.int .i64 ((rd_T122 l1 x8_1).f0)) ∧ w'.cell? ⟨(ad262.add ((x8_1).toNat * 2)).block, (ad262.add ((x8_1).toNat * 2)).off + 1, none⟩ = some (.int .i64 ((rd_T122 l1 x8_1).f1))) (ds := []) #[false, false, false, false, false, false, false, false, false, false, false, false] (by kernel_rfl) rfl rfl ⟨(blk_cell BK261.out 0).trans rfl, (blk_cell BK261.out 1).trans rfl, (blk_cell BK261.out 2).trans rfl, ((HB.out.cell (World.block_lt_of_cell? w _ hw262_0)).trans hw262_0), ((HB.out.cell (World.block_lt_of_cell? w _ hw262_1)).trans hw262_1)⟩ (fun hHeld => ?_); refine with_tabW rf06_Encode.tab7 rf06_Encode.bits7 (fun HT_ HW_ => ?_)
      generalize wr.drew = w17 at HO_262000 HO_262001 BK261 HB hx262_0 hx262_1 hHeld ⊢
      refine pure_ (i := 1) (N := some 26) (v := ?_) (a' := ?_) #[false, true, false, false, false, false, false, false, false, false, false, false] rfl rfl (any_of HT_.out (by kernel_rfl)) (fun _ _ _ h => h) (Or.inl ⟨by rfl, ?_⟩) ?_ ?_
      rotate_left
      ·intro w'
       go_simp
       with_reducible rfl
      rotate_left
      ·simp only [Act.put, List.setIfInBounds_toArray, List.set_cons_zero, List.set_cons_succ, i64_w, i32_w]
       rfl
      refine pure_ (i := 2) (N := some 27) (v := ?_) (a' := ?_) #[false, true, true, false, false, false, false, false, false, false, false, false] rfl rfl (any_of HT_.out (by kernel_rfl)) (fun _ _ _ h => h) (Or.inl ⟨by rfl, ?_⟩) ?_ ?_
      rotate_left
      ·intro w'
       go_simp
       with_reducible rfl
      rotate_left
      ·simp only [Act.put, List.setIfInBounds_toArray, List.set_cons_zero, List.set_cons_succ, i64_w, i32_w]
       rfl
      refine pure_ (i := 3) (N := some 28) (v := ?_) (a' := ?_) #[false, true, true, true, false, false, false, false, false, false, false, false] rfl rfl (any_of HT_.out (by kernel_rfl)) (fun _ _ _ h => h) (Or.inl ⟨by rfl, ?_⟩) ?_ ?_
      rotate_left
      ·intro w'
       go_simp
       with_reducible rfl
      rotate_left
      ·simp only [Act.put, List.setIfInBounds_toArray, List.set_cons_zero, List.set_cons_succ, i64_w, i32_w]
       rfl
      refine take_ (i := 0) (N := some 25) (v := ?_) (a' := ?_) #[true, true, true, true, false, false, false, false, false, false, false, false] rfl rfl (take_ofW HT_.out HW_.out (by kernel_rfl)) (fun _ _ _ h => h) (Or.inl ⟨by rfl, ?_⟩) hHeld ?_ ?_
      rotate_left
      ·rintro w' ⟨s0, s1, s2, s3, s4⟩
       go_simp
       with_reducible rfl
      rotate_left
      ·simp only [Act.put, List.setIfInBounds_toArray, List.set_cons_zero, List.set_cons_succ, i64_w, i32_w]
       rfl
      refine take_ (i := 4) (N := some 29) (v := ?_) (a' := ?_) #[true, true, true, true, true, false, false, false, false, false, false, false] rfl rfl (take_ofW HT_.out HW_.out (by kernel_rfl)) (fun _ _ _ h => h) (Or.inl ⟨by rfl, ?_⟩) hHeld ?_ ?_
      rotate_left
      ·rintro w' ⟨s0, s1, s2, s3, s4⟩
       go_simp
       with_reducible rfl
      rotate_left
      ·simp only [Act.put, List.setIfInBounds_toArray, List.set_cons_zero, List.set_cons_succ, i64_w, i32_w]
       rfl
      refine join_ (σ := Value × Value × Nat) 2 #[true, true, true, true, true, true, true, true, true, true, false, false] (fun s_ => [(30, .tuple #[.agg #[s_.1, s_.2.1, .int .i64 t269], .bool t270]), (9, .pointer (some ⟨s_.2.2, 0, none⟩)), (24, .tuple #[.agg #[s_.1, s_.2.1, .int .i64 t269], .bool t270]), (31, .agg #[s_.1, s_.2.1, .int .i64 t269]), (32, .bool t270)]) (fun s_ w' => (w'.cell? ⟨gb261, 0, none⟩ = some (.slice Ao15 x262000_1.length co15) ∧ w'.cell? ⟨gb261, 1, none⟩ = some (.slice Ao16 x262001_1.length co16) ∧ w'.cell? ⟨gb261, 2, none⟩ = some (.int .i64 x262002_1) ∧ w'.cell? (ad262.add ((x8_1).toNat * 2)) = some (.int .i64 ((rd_T122 l1 x8_1).f0)) ∧ w'.cell? ⟨(ad262.add ((x8_1).toNat * 2)).block, (ad262.add ((x8_1).toNat * 2)).off + 1, none⟩ = some (.int .i64 ((rd_T122 l1 x8_1).f1))) ∧ (Kd.V (Kd.slice 3 (Kd.int .i64)) 83 w' w.heap.size (fun k_ => some k_ ≠ (s_.2.1 : Value).ownBlock ∧ k_ ≠ gb261 ∧ k_ ≠ s_.2.2) s_.1 t263) ∧ (Kd.R (Kd.int .i64) 3 w' w.heap.size (fun _ => True) s_.2.1 t266) ∧ (Kd.V (Kd.slice 3 (Kd.int .i64)) 83 w' w.heap.size (fun k_ => some k_ ≠ (s_.2.1 : Value).ownBlock ∧ k_ ≠ gb261 ∧ k_ ≠ s_.2.2) (.slice Ao15 x262000_1.length co15) x262000_1) ∧ (w'.heap[gb261]? = some (.cells #[.slice Ao15 x262000_1.length co15, .slice Ao16 x262001_1.length co16, .int .i64 x262002_1] 184 (0, 0))) ∧ (w'.heap[s_.2.2]? = some (.cells #[.slice none 0 0, .slice none 0 0, .int .i64 0] 184 (0, 0))) ∧ (w.heap.size ≤ s_.2.2) ∧ (w.heap.size ≤ s_.2.2) ∧ (gb261 ≠ s_.2.2) ∧ (s_.2.2 ≠ gb261) ∧ (Below w.heap.size w w')) ?_ ?_
      rotate_left
      ·intro hCont
       refine two_ (i := 5) (j := 9) (Ni := some 30) (Nj := some 9) #[true, true, true, true, true, true, false, false, false, false, false, false] #[true, true, true, true, true, false, false, false, false, true, false, false] rfl rfl rfl rfl (two_of HT_.out (by kernel_rfl)) (by decide) (by decide) (fun K hK => ?_) (fun K hK => ?_)
       ·skip
        refine goes_ Tryz.func107 (by kernel_rfl) rfl #[.agg #[.slice Ao15 x262000_1.length co15, .slice Ao16 x262001_1.length co16, .int .i64 x262002_1], .agg #[.int .i64 ((rd_T122 l1 x8_1).f0), .int .i64 ((rd_T122 l1 x8_1).f1)]] (by rfl) rfl rfl (by (try simp only [List.map_toArray, List.map_cons, List.map_nil]); first | done | rfl | (simp only [List.length_drop, List.length_take]; rfl)) ?_
        with_reducible refine (rf06_Step.calls k1 (fun k_ => (some k_ ≠ (.slice Ao16 x262001_1.length co16 : Value).ownBlock ∧ k_ ≠ gb261)) _ _ x262000_1 (fun k_ => some k_ = (.slice Ao16 x262001_1.length co16 : Value).ownBlock) (.slice Ao16 x262001_1.length co16) x262001_1 x262002_1 ((rd_T122 l1 x8_1).f0) ((rd_T122 l1 x8_1).f1) t263 t266 t269 t270 w _ ?side1 ?side2 ?side3 A13.out).mono ?_
        (case side1 => repeat (first | (with_reducible first | exact HB.out | apply below_alloc | apply pw_below_drewN | apply below_drew1 | refine below_set ?_ GE261.out) | exact HB.out))
        (case side2 => exact Kd.V_mono (HO_262000.out) (fun k_ hk_ => ⟨hk_, hk_.1⟩))
        (case side3 => exact Kd.R_tight rfl HO_262001.out)
        rintro e w18 ⟨v264, v267, rfl, ho0, ho1, hb, hkp⟩
        refine ⟨_, rfl, ?_⟩
        have n0_ := Aside0.mk (Kd.V_mono (ok' := fun k_ => k_ ≠ gb261 ∧ some k_ ≠ (v267 : Value).ownBlock) (Kd.V_keptB (HO_262000.out) hkp (fun k_ hk_ hs_ => (hk_.1) hs_)) (fun k_ hk_ => ⟨hk_.1.2, fun e_ => Or.elim (ho1.1 k_ e_.symm) (fun hs_ => hk_.2.1 hs_) (fun hn_ => Nat.not_le.2 hk_.2.2 hn_)⟩))
        have n1_ := Aside0.mk (blk_kept (bK BK261) hkp (fun hs_ => (fun e_ => (Kd.R_ne HO_262001.out BK261.out (by decide)) e_) hs_))
        have n2_ := Aside0.mk (Kd.V_mono (ok' := fun k_ => some k_ ≠ (v267 : Value).ownBlock ∧ k_ ≠ gb261) ho0 (fun k_ hk_ => ⟨hk_.2, Or.elim hk_.1 (fun hs_ => Or.elim hs_ (fun hs_ => fun e_ => (Kd.R_ne HO_262001.out BK261.out (by decide)) (by rw [← e_]; exact hs_)) (fun hs_ => hs_.2)) (fun hn_ => (Kd.freshB (g := gb261) (o := .cells #[.slice Ao15 x262000_1.length co15, .slice Ao16 x262001_1.length co16, .int .i64 x262002_1] 184 (0, 0)) (bK BK261) k_ hn_))⟩))
        have n3_ := Aside0.mk (Kd.R_mono (ok' := fun k_ => True) ho1 (fun k_ hk_ => trivial))
        have n4_ := Aside0.mk (hb)
        clear HO_262000
        clear BK261
        clear HB
        clear HO_262001
        have HO_262000 := n0_
        have BK261 := n1_
        have HO265 := n2_
        have HO268 := n3_
        have HB := n4_
        clear n0_ n1_ n2_ n3_ n4_
        (try clear hb)
        (try clear hkp)
        (try clear ho0)
        (try clear ho1)
        refine hK.out _ _ ⟨(blk_cell BK261.out 0).trans rfl, (blk_cell BK261.out 1).trans rfl, (blk_cell BK261.out 2).trans rfl, ((HB.out.cell (World.block_lt_of_cell? w _ hw262_0)).trans hw262_0), ((HB.out.cell (World.block_lt_of_cell? w _ hw262_1)).trans hw262_1)⟩ (fun hHeld => ?_)
        clear hK K
        refine norm_ (a' := ?_) ?_ ?_
        rotate_left
        ·show Act.put _ (some 30) _ = _
         simp only [Act.put, List.setIfInBounds_toArray, List.set_cons_zero, List.set_cons_succ, i64_w, i32_w]
         rfl
        refine pure_ (i := 6) (N := some 24) (v := ?_) (a' := ?_) #[true, true, true, true, true, true, true, false, false, false, false, false] rfl rfl (any_of HT_.out (by kernel_rfl)) (fun _ _ _ h => h) (Or.inl ⟨by rfl, ?_⟩) ?_ ?_
        rotate_left
        ·intro w'
         go_simp
         with_reducible rfl
        rotate_left
        ·simp only [Act.put, List.setIfInBounds_toArray, List.set_cons_zero, List.set_cons_succ, i64_w, i32_w]
         rfl
        refine pure_ (i := 7) (N := some 31) (v := ?_) (a' := ?_) #[true, true, true, true, true, true, true, true, false, false, false, false] rfl rfl (any_of HT_.out (by kernel_rfl)) (fun _ _ _ h => h) (Or.inl ⟨by rfl, ?_⟩) ?_ ?_
        rotate_left
        ·intro w'
         go_simp
         with_reducible rfl
        rotate_left
        ·simp only [Act.put, List.setIfInBounds_toArray, List.set_cons_zero, List.set_cons_succ, i64_w, i32_w]
         rfl
        refine pure_ (i := 8) (N := some 32) (v := ?_) (a' := ?_) #[true, true, true, true, true, true, true, true, true, false, false, false] rfl rfl (any_of HT_.out (by kernel_rfl)) (fun _ _ _ h => h) (Or.inl ⟨by rfl, ?_⟩) ?_ ?_
        rotate_left
        ·intro w'
         go_simp
         with_reducible rfl
        rotate_left
        ·simp only [Act.put, List.setIfInBounds_toArray, List.set_cons_zero, List.set_cons_succ, i64_w, i32_w]
         rfl
        refine one_ (i := 9) (N := some 9) #[true, true, true, true, true, true, true, true, true, true, false, false] rfl rfl (one_of HT_.out (by kernel_rfl)) (by decide) (fun K hK => ?_)
        refine box_step ?hg (N := 9) ?hd (cs := #[.slice none 0 0, .slice none 0 0, .int .i64 0]) (t := 184) ?hr ?_; (case hd => rfl); (case hg => rfl); (case hr => first | (go_simp; done) | (go_simp; rfl))
        intro gb271 hg w19 hbox hb
        have n0_ := Aside0.mk (Kd.V_below (Kd.V_elderB (by (with_reducible repeat (first | apply Kd.V_alloc | apply Kd.V_drewN | apply Kd.V_drew)); exact HO_262000.out) gb271 (Nat.le_of_eq hg.symm)) hb)
        have n1_ := Aside0.mk (Kd.V_below (Kd.V_elderB (by (with_reducible repeat (first | apply Kd.V_alloc | apply Kd.V_drewN | apply Kd.V_drew)); exact HO265.out) gb271 (Nat.le_of_eq hg.symm)) hb)
        have n2_ := Aside0.mk (Kd.R_below (rK HO268) hb)
        have n3_ := Aside0.mk (blk_below (g := gb261) (o := .cells #[.slice Ao15 x262000_1.length co15, .slice Ao16 x262001_1.length co16, .int .i64 x262002_1] 184 (0, 0)) (bK BK261) hb)
        have n4_ := Aside0.mk (below_step (bH HB) hb)
        have n5_ := Aside0.mk (hbox)
        have n6_ := Aside0.mk ((by rw [hg]; exact (below_size (bH HB)) : w.heap.size ≤ gb271))
        have n7_ := Aside0.mk ((by rw [hg]; exact (below_size (bH HB)) : w.heap.size ≤ gb271))
        have n8_ := Aside0.mk ((by rw [hg]; exact Nat.ne_of_lt (blk_lt (bK BK261)) : gb261 ≠ gb271))
        have n9_ := Aside0.mk ((by rw [hg]; exact Nat.ne_of_gt (blk_lt (bK BK261)) : gb271 ≠ gb261))
        clear HO_262000
        clear HO265
        clear HO268
        clear BK261
        clear HB
        have HO_262000 := n0_
        have HO265 := n1_
        have HO268 := n2_
        have BK261 := n3_
        have HB := n4_
        have BK271 := n5_
        have GW271 := n6_
        have GE271 := n7_
        have NB261_271 := n8_
        have NB271_261 := n9_
        clear n0_ n1_ n2_ n3_ n4_ n5_ n6_ n7_ n8_ n9_
        clear hb hbox hg
        refine hK.out _ _ ⟨(blk_cell BK261.out 0).trans rfl, (blk_cell BK261.out 1).trans rfl, (blk_cell BK261.out 2).trans rfl, ((HB.out.cell (World.block_lt_of_cell? w _ hw262_0)).trans hw262_0), ((HB.out.cell (World.block_lt_of_cell? w _ hw262_1)).trans hw262_1)⟩ (fun hHeld => ?_)
        clear hK K
        refine norm_ (a' := ?_) ?_ ?_
        rotate_left
        ·show Act.put _ (some 9) _ = _
         simp only [Act.put, List.setIfInBounds_toArray, List.set_cons_zero, List.set_cons_succ, i64_w, i32_w]
         rfl
        exact norm_ (by simp only [putAll, Act.put, List.setIfInBounds_toArray, List.set_cons_zero, List.set_cons_succ]) (hCont (v264, v267, gb271) _ ⟨hHeld, (by (with_reducible repeat (first | apply Kd.V_alloc | apply Kd.V_drewN | apply Kd.V_drew)); exact Kd.V_mono HO265.out (fun _ hk => ⟨hk.1.1, ⟨hk.1.2, hk.2⟩⟩)), (rK HO268), (by (with_reducible repeat (first | apply Kd.V_alloc | apply Kd.V_drewN | apply Kd.V_drew)); exact Kd.V_mono HO_262000.out (fun _ hk => ⟨hk.1.2, ⟨hk.1.1, hk.2⟩⟩)), (bK BK261), (bK BK271), GW271.out, GE271.out, NB261_271.out, NB271_261.out, (bH HB)⟩)
       ·skip
        refine box_step ?hg (N := 9) ?hd (cs := #[.slice none 0 0, .slice none 0 0, .int .i64 0]) (t := 184) ?hr ?_; (case hd => rfl); (case hg => rfl); (case hr => first | (go_simp; done) | (go_simp; rfl))
        intro gb271 hg w18 hbox hb
        have n0_ := Aside0.mk (Kd.V_below (Kd.V_elderB (by (with_reducible repeat (first | apply Kd.V_alloc | apply Kd.V_drewN | apply Kd.V_drew)); exact HO_262000.out) gb271 (Nat.le_of_eq hg.symm)) hb)
        have n1_ := Aside0.mk (Kd.R_below (rK HO_262001) hb)
        have n2_ := Aside0.mk (blk_below (g := gb261) (o := .cells #[.slice Ao15 x262000_1.length co15, .slice Ao16 x262001_1.length co16, .int .i64 x262002_1] 184 (0, 0)) (bK BK261) hb)
        have n3_ := Aside0.mk (below_step (bH HB) hb)
        have n4_ := Aside0.mk (hbox)
        have n5_ := Aside0.mk ((by rw [hg]; exact (below_size (bH HB)) : w.heap.size ≤ gb271))
        have n6_ := Aside0.mk ((by rw [hg]; exact (below_size (bH HB)) : w.heap.size ≤ gb271))
        have n7_ := Aside0.mk ((by rw [hg]; exact Nat.ne_of_lt (blk_lt (bK BK261)) : gb261 ≠ gb271))
        have n8_ := Aside0.mk ((by rw [hg]; exact Nat.ne_of_gt (blk_lt (bK BK261)) : gb271 ≠ gb261))
        clear HO_262000
        clear HO_262001
        clear BK261
        clear HB
        have HO_262000 := n0_
        have HO_262001 := n1_
        have BK261 := n2_
        have HB := n3_
        have BK271 := n4_
        have GW271 := n5_
        have GE271 := n6_
        have NB261_271 := n7_
        have NB271_261 := n8_
        clear n0_ n1_ n2_ n3_ n4_ n5_ n6_ n7_ n8_
        clear hb hbox hg
        refine hK.out _ _ ⟨(blk_cell BK261.out 0).trans rfl, (blk_cell BK261.out 1).trans rfl, (blk_cell BK261.out 2).trans rfl, ((HB.out.cell (World.block_lt_of_cell? w _ hw262_0)).trans hw262_0), ((HB.out.cell (World.block_lt_of_cell? w _ hw262_1)).trans hw262_1)⟩ (fun hHeld => ?_)
        clear hK K
        refine norm_ (a' := ?_) ?_ ?_
        rotate_left
        ·show Act.put _ (some 9) _ = _
         simp only [Act.put, List.setIfInBounds_toArray, List.set_cons_zero, List.set_cons_succ, i64_w, i32_w]
         rfl
        refine one_ (i := 5) (N := some 30) #[true, true, true, true, true, true, false, false, false, true, false, false] rfl rfl (one_of HT_.out (by kernel_rfl)) (by decide) (fun K hK => ?_)
        refine goes_ Tryz.func107 (by kernel_rfl) rfl #[.agg #[.slice Ao15 x262000_1.length co15, .slice Ao16 x262001_1.length co16, .int .i64 x262002_1], .agg #[.int .i64 ((rd_T122 l1 x8_1).f0), .int .i64 ((rd_T122 l1 x8_1).f1)]] (by rfl) rfl rfl (by (try simp only [List.map_toArray, List.map_cons, List.map_nil]); first | done | rfl | (simp only [List.length_drop, List.length_take]; rfl)) ?_
        with_reducible refine (rf06_Step.calls k1 (fun k_ => ((some k_ ≠ (.slice Ao16 x262001_1.length co16 : Value).ownBlock ∧ k_ ≠ gb261) ∧ k_ ≠ gb271)) _ _ x262000_1 (fun k_ => some k_ = (.slice Ao16 x262001_1.length co16 : Value).ownBlock) (.slice Ao16 x262001_1.length co16) x262001_1 x262002_1 ((rd_T122 l1 x8_1).f0) ((rd_T122 l1 x8_1).f1) t263 t266 t269 t270 w _ ?side1 ?side2 ?side3 A13.out).mono ?_
        (case side1 => repeat (first | (with_reducible first | exact HB.out | apply below_alloc | apply pw_below_drewN | apply below_drew1 | refine below_set ?_ GE261.out | refine below_set ?_ GE271.out) | exact HB.out))
        (case side2 => exact Kd.V_mono (HO_262000.out) (fun k_ hk_ => ⟨hk_, hk_.1.1⟩))
        (case side3 => exact Kd.R_tight rfl HO_262001.out)
        rintro e w19 ⟨v264, v267, rfl, ho0, ho1, hb, hkp⟩
        refine ⟨_, rfl, ?_⟩
        have n0_ := Aside0.mk (Kd.V_mono (ok' := fun k_ => k_ ≠ gb261 ∧ k_ ≠ gb271 ∧ some k_ ≠ (v267 : Value).ownBlock) (Kd.V_keptB (HO_262000.out) hkp (fun k_ hk_ hs_ => (hk_.1.1) hs_)) (fun k_ hk_ => ⟨hk_.1.1.2, hk_.1.2, fun e_ => Or.elim (ho1.1 k_ e_.symm) (fun hs_ => hk_.2.1 hs_) (fun hn_ => Nat.not_le.2 hk_.2.2 hn_)⟩))
        have n1_ := Aside0.mk (blk_kept (bK BK261) hkp (fun hs_ => (fun e_ => (Kd.R_ne HO_262001.out BK261.out (by decide)) e_) hs_))
        have n2_ := Aside0.mk (blk_kept (bK BK271) hkp (fun hs_ => (fun e_ => (Kd.R_ne HO_262001.out BK271.out (by decide)) e_) hs_))
        have n3_ := Aside0.mk (Kd.V_mono (ok' := fun k_ => some k_ ≠ (v267 : Value).ownBlock ∧ k_ ≠ gb261 ∧ k_ ≠ gb271) ho0 (fun k_ hk_ => ⟨hk_.2, Or.elim hk_.1 (fun hs_ => Or.elim hs_ (fun hs_ => fun e_ => (Kd.R_ne HO_262001.out BK261.out (by decide)) (by rw [← e_]; exact hs_)) (fun hs_ => hs_.1.2)) (fun hn_ => (Kd.freshB (g := gb261) (o := .cells #[.slice Ao15 x262000_1.length co15, .slice Ao16 x262001_1.length co16, .int .i64 x262002_1] 184 (0, 0)) (bK BK261) k_ hn_)), Or.elim hk_.1 (fun hs_ => Or.elim hs_ (fun hs_ => fun e_ => (Kd.R_ne HO_262001.out BK271.out (by decide)) (by rw [← e_]; exact hs_)) (fun hs_ => hs_.2)) (fun hn_ => (Kd.freshB (g := gb271) (o := .cells #[.slice none 0 0, .slice none 0 0, .int .i64 0] 184 (0, 0)) (bK BK271) k_ hn_))⟩))
        have n4_ := Aside0.mk (Kd.R_mono (ok' := fun k_ => True) ho1 (fun k_ hk_ => trivial))
        have n5_ := Aside0.mk (hb)
        clear HO_262000
        clear BK261
        clear BK271
        clear HB
        clear HO_262001
        have HO_262000 := n0_
        have BK261 := n1_
        have BK271 := n2_
        have HO265 := n3_
        have HO268 := n4_
        have HB := n5_
        clear n0_ n1_ n2_ n3_ n4_ n5_
        (try clear hb)
        (try clear hkp)
        (try clear ho0)
        (try clear ho1)
        refine hK.out _ _ ⟨(blk_cell BK261.out 0).trans rfl, (blk_cell BK261.out 1).trans rfl, (blk_cell BK261.out 2).trans rfl, ((HB.out.cell (World.block_lt_of_cell? w _ hw262_0)).trans hw262_0), ((HB.out.cell (World.block_lt_of_cell? w _ hw262_1)).trans hw262_1)⟩ (fun hHeld => ?_)
        clear hK K
        refine norm_ (a' := ?_) ?_ ?_
        rotate_left
        ·show Act.put _ (some 30) _ = _
         simp only [Act.put, List.setIfInBounds_toArray, List.set_cons_zero, List.set_cons_succ, i64_w, i32_w]
         rfl
        refine pure_ (i := 6) (N := some 24) (v := ?_) (a' := ?_) #[true, true, true, true, true, true, true, false, false, true, false, false] rfl rfl (any_of HT_.out (by kernel_rfl)) (fun _ _ _ h => h) (Or.inl ⟨by rfl, ?_⟩) ?_ ?_
        rotate_left
        ·intro w'
         go_simp
         with_reducible rfl
        rotate_left
        ·simp only [Act.put, List.setIfInBounds_toArray, List.set_cons_zero, List.set_cons_succ, i64_w, i32_w]
         rfl
        refine pure_ (i := 7) (N := some 31) (v := ?_) (a' := ?_) #[true, true, true, true, true, true, true, true, false, true, false, false] rfl rfl (any_of HT_.out (by kernel_rfl)) (fun _ _ _ h => h) (Or.inl ⟨by rfl, ?_⟩) ?_ ?_
        rotate_left
        ·intro w'
         go_simp
         with_reducible rfl
        rotate_left
        ·simp only [Act.put, List.setIfInBounds_toArray, List.set_cons_zero, List.set_cons_succ, i64_w, i32_w]
         rfl
        refine pure_ (i := 8) (N := some 32) (v := ?_) (a' := ?_) #[true, true, true, true, true, true, true, true, true, true, false, false] rfl rfl (any_of HT_.out (by kernel_rfl)) (fun _ _ _ h => h) (Or.inl ⟨by rfl, ?_⟩) ?_ ?_
        rotate_left
        ·intro w'
         go_simp
         with_reducible rfl
        rotate_left
        ·simp only [Act.put, List.setIfInBounds_toArray, List.set_cons_zero, List.set_cons_succ, i64_w, i32_w]
         rfl
        exact norm_ (by simp only [putAll, Act.put, List.setIfInBounds_toArray, List.set_cons_zero, List.set_cons_succ]) (hCont (v264, v267, gb271) _ ⟨hHeld, (by (with_reducible repeat (first | apply Kd.V_alloc | apply Kd.V_drewN | apply Kd.V_drew)); exact HO265.out), (rK HO268), (by (with_reducible repeat (first | apply Kd.V_alloc | apply Kd.V_drewN | apply Kd.V_drew)); exact Kd.V_mono HO_262000.out (fun _ hk => ⟨hk.2.2, ⟨hk.1, hk.2.1⟩⟩)), (bK BK261), (bK BK271), GW271.out, GE271.out, NB261_271.out, NB271_261.out, (bH HB)⟩)
      rintro ⟨v264, v267, gb271⟩ w20 ⟨hS_, h0_, h1_, h2_, h3_, h4_, h5_, h6_, h7_, h8_, h9_⟩
      have n0_ : Aside0 (Kd.V (Kd.slice 3 (Kd.int .i64)) 83 w20 w.heap.size (fun k_ => some k_ ≠ (v267 : Value).ownBlock ∧ k_ ≠ gb261 ∧ k_ ≠ gb271) v264 t263) := ⟨h0_⟩
      have n1_ : Aside0 (Kd.R (Kd.int .i64) 3 w20 w.heap.size (fun _ => True) v267 t266) := ⟨h1_⟩
      have n2_ : Aside0 (Kd.V (Kd.slice 3 (Kd.int .i64)) 83 w20 w.heap.size (fun k_ => some k_ ≠ (v267 : Value).ownBlock ∧ k_ ≠ gb261 ∧ k_ ≠ gb271) (.slice Ao15 x262000_1.length co15) x262000_1) := ⟨h2_⟩
      have n3_ : Aside0 (w20.heap[gb261]? = some (.cells #[.slice Ao15 x262000_1.length co15, .slice Ao16 x262001_1.length co16, .int .i64 x262002_1] 184 (0, 0))) := ⟨h3_⟩
      have n4_ : Aside0 (w20.heap[gb271]? = some (.cells #[.slice none 0 0, .slice none 0 0, .int .i64 0] 184 (0, 0))) := ⟨h4_⟩
      have n5_ : Aside0 (w.heap.size ≤ gb271) := ⟨h5_⟩
      have n6_ : Aside0 (w.heap.size ≤ gb271) := ⟨h6_⟩
      have n7_ : Aside0 (gb261 ≠ gb271) := ⟨h7_⟩
      have n8_ : Aside0 (gb271 ≠ gb261) := ⟨h8_⟩
      have n9_ : Aside0 (Below w.heap.size w w20) := ⟨h9_⟩
      clear HO_262000
      clear HO_262001
      clear BK261
      clear HB
      clear h0_ h1_ h2_ h3_ h4_ h5_ h6_ h7_ h8_ h9_
      have HO265 := n0_
      have HO268 := n1_
      have HO_262000 := n2_
      have BK261 := n3_
      have BK271 := n4_
      have GW271 := n5_
      have GE271 := n6_
      have NB261_271 := n7_
      have NB271_261 := n8_
      have HB := n9_
      clear n0_ n1_ n2_ n3_ n4_ n5_ n6_ n7_ n8_ n9_
      have hHeld : w20.cell? ⟨gb261, 0, none⟩ = some (.slice Ao15 x262000_1.length co15) ∧ w20.cell? ⟨gb261, 1, none⟩ = some (.slice Ao16 x262001_1.length co16) ∧ w20.cell? ⟨gb261, 2, none⟩ = some (.int .i64 x262002_1) ∧ w20.cell? (ad262.add ((x8_1).toNat * 2)) = some (.int .i64 ((rd_T122 l1 x8_1).f0)) ∧ w20.cell? ⟨(ad262.add ((x8_1).toNat * 2)).block, (ad262.add ((x8_1).toNat * 2)).off + 1, none⟩ = some (.int .i64 ((rd_T122 l1 x8_1).f1)) := hS_
      obtain ⟨Ao21, co21, eo21⟩ := Kd.V_slice HO265.out
      (first | subst eo21 | (injection eo21 with f1_ f2_ f3_; have f4_ := f1_.symm; have f5_ := f3_.symm; clear f1_ f2_ f3_; subst f4_; subst f5_))
      obtain ⟨Ao23, co23, eo23⟩ := Kd.R_slice HO268.out
      (first | subst eo23 | (injection eo23 with f1_ f2_ f3_; have f4_ := f1_.symm; have f5_ := f3_.symm; clear f1_ f2_ f3_; subst f4_; subst f5_))
      refine norm_ (a' := ?_) ?_ ?_
      rotate_left
      ·simp only [putAll, Act.put, List.setIfInBounds_toArray, List.set_cons_zero, List.set_cons_succ]
       rfl
      refine one_ (i := 10) (N := none) #[true, true, true, true, true, true, true, true, true, true, true, false] rfl rfl (one_of HT_.out (by kernel_rfl)) (by decide) (fun K hK => ?_)
      have hs22 : w20.cell? ⟨gb271, 0, none⟩ = some (.slice none 0 0) := (blk_cell BK271.out 0).trans rfl
      have hfs22 := blk_frozen BK271.out 0
      have hns22_0 := NB261_271.out
      have hms22_0 := NB271_261.out
      have hs24 : w20.cell? ⟨gb271, 1, none⟩ = some (.slice none 0 0) := (blk_cell BK271.out 1).trans rfl
      have hfs24 := blk_frozen BK271.out 1
      have hns24_0 := NB261_271.out
      have hms24_0 := NB271_261.out
      have hs25 : w20.cell? ⟨gb271, 2, none⟩ = some (.int .i64 0) := (blk_cell BK271.out 2).trans rfl
      have hfs25 := blk_frozen BK271.out 2
      have hns25_0 := NB261_271.out
      have hms25_0 := NB271_261.out
      refine skip_ (w1 := ?_) (by rfl) rfl ?_ ?_
      rotate_left
      ·go_simp
       rfl
      refine hK.out _ _ ⟨((cell_far (p := ⟨gb271, _, none⟩) NB261_271.out _).trans (((cell_far (p := ⟨gb271, _, none⟩) NB261_271.out _).trans (((cell_far (p := ⟨gb271, _, none⟩) NB261_271.out _).trans (hHeld.1)))))), ((cell_far (p := ⟨gb271, _, none⟩) NB261_271.out _).trans (((cell_far (p := ⟨gb271, _, none⟩) NB261_271.out _).trans (((cell_far (p := ⟨gb271, _, none⟩) NB261_271.out _).trans (hHeld.2.1)))))), ((cell_far (p := ⟨gb271, _, none⟩) NB261_271.out _).trans (((cell_far (p := ⟨gb271, _, none⟩) NB261_271.out _).trans (((cell_far (p := ⟨gb271, _, none⟩) NB261_271.out _).trans (hHeld.2.2.1)))))), ((cell_far (p := ⟨gb271, _, none⟩) (by first | exact Nat.ne_of_lt (Nat.lt_of_lt_of_le (by have := World.block_lt_of_cell? _ _ hw262_0; first | rwa [add_block] at this | exact this) GW271.out) | (rw [add_block]; exact Nat.ne_of_lt (Nat.lt_of_lt_of_le (by have := World.block_lt_of_cell? _ _ hw262_0; first | rwa [add_block] at this | exact this) GW271.out)) | (show (Addr.add _ _).block ≠ _; rw [add_block]; exact Nat.ne_of_lt (Nat.lt_of_lt_of_le (by have := World.block_lt_of_cell? _ _ hw262_0; first | rwa [add_block] at this | exact this) GW271.out)) | (dsimp only; exact Nat.ne_of_lt (Nat.lt_of_lt_of_le (by have := World.block_lt_of_cell? _ _ hw262_0; first | rwa [add_block] at this | exact this) GW271.out))) _).trans (((cell_far (p := ⟨gb271, _, none⟩) (by first | exact Nat.ne_of_lt (Nat.lt_of_lt_of_le (by have := World.block_lt_of_cell? _ _ hw262_0; first | rwa [add_block] at this | exact this) GW271.out) | (rw [add_block]; exact Nat.ne_of_lt (Nat.lt_of_lt_of_le (by have := World.block_lt_of_cell? _ _ hw262_0; first | rwa [add_block] at this | exact this) GW271.out)) | (show (Addr.add _ _).block ≠ _; rw [add_block]; exact Nat.ne_of_lt (Nat.lt_of_lt_of_le (by have := World.block_lt_of_cell? _ _ hw262_0; first | rwa [add_block] at this | exact this) GW271.out)) | (dsimp only; exact Nat.ne_of_lt (Nat.lt_of_lt_of_le (by have := World.block_lt_of_cell? _ _ hw262_0; first | rwa [add_block] at this | exact this) GW271.out))) _).trans (((cell_far (p := ⟨gb271, _, none⟩) (by first | exact Nat.ne_of_lt (Nat.lt_of_lt_of_le (by have := World.block_lt_of_cell? _ _ hw262_0; first | rwa [add_block] at this | exact this) GW271.out) | (rw [add_block]; exact Nat.ne_of_lt (Nat.lt_of_lt_of_le (by have := World.block_lt_of_cell? _ _ hw262_0; first | rwa [add_block] at this | exact this) GW271.out)) | (show (Addr.add _ _).block ≠ _; rw [add_block]; exact Nat.ne_of_lt (Nat.lt_of_lt_of_le (by have := World.block_lt_of_cell? _ _ hw262_0; first | rwa [add_block] at this | exact this) GW271.out)) | (dsimp only; exact Nat.ne_of_lt (Nat.lt_of_lt_of_le (by have := World.block_lt_of_cell? _ _ hw262_0; first | rwa [add_block] at this | exact this) GW271.out))) _).trans (hHeld.2.2.2.1)))))), ((cell_far (p := ⟨gb271, _, none⟩) (by first | exact Nat.ne_of_lt (Nat.lt_of_lt_of_le (by have := World.block_lt_of_cell? _ _ hw262_1; first | rwa [add_block] at this | exact this) GW271.out) | (rw [add_block]; exact Nat.ne_of_lt (Nat.lt_of_lt_of_le (by have := World.block_lt_of_cell? _ _ hw262_1; first | rwa [add_block] at this | exact this) GW271.out)) | (show (Addr.add _ _).block ≠ _; rw [add_block]; exact Nat.ne_of_lt (Nat.lt_of_lt_of_le (by have := World.block_lt_of_cell? _ _ hw262_1; first | rwa [add_block] at this | exact this) GW271.out)) | (dsimp only; exact Nat.ne_of_lt (Nat.lt_of_lt_of_le (by have := World.block_lt_of_cell? _ _ hw262_1; first | rwa [add_block] at this | exact this) GW271.out))) _).trans (((cell_far (p := ⟨gb271, _, none⟩) (by first | exact Nat.ne_of_lt (Nat.lt_of_lt_of_le (by have := World.block_lt_of_cell? _ _ hw262_1; first | rwa [add_block] at this | exact this) GW271.out) | (rw [add_block]; exact Nat.ne_of_lt (Nat.lt_of_lt_of_le (by have := World.block_lt_of_cell? _ _ hw262_1; first | rwa [add_block] at this | exact this) GW271.out)) | (show (Addr.add _ _).block ≠ _; rw [add_block]; exact Nat.ne_of_lt (Nat.lt_of_lt_of_le (by have := World.block_lt_of_cell? _ _ hw262_1; first | rwa [add_block] at this | exact this) GW271.out)) | (dsimp only; exact Nat.ne_of_lt (Nat.lt_of_lt_of_le (by have := World.block_lt_of_cell? _ _ hw262_1; first | rwa [add_block] at this | exact this) GW271.out))) _).trans (((cell_far (p := ⟨gb271, _, none⟩) (by first | exact Nat.ne_of_lt (Nat.lt_of_lt_of_le (by have := World.block_lt_of_cell? _ _ hw262_1; first | rwa [add_block] at this | exact this) GW271.out) | (rw [add_block]; exact Nat.ne_of_lt (Nat.lt_of_lt_of_le (by have := World.block_lt_of_cell? _ _ hw262_1; first | rwa [add_block] at this | exact this) GW271.out)) | (show (Addr.add _ _).block ≠ _; rw [add_block]; exact Nat.ne_of_lt (Nat.lt_of_lt_of_le (by have := World.block_lt_of_cell? _ _ hw262_1; first | rwa [add_block] at this | exact this) GW271.out)) | (dsimp only; exact Nat.ne_of_lt (Nat.lt_of_lt_of_le (by have := World.block_lt_of_cell? _ _ hw262_1; first | rwa [add_block] at this | exact this) GW271.out))) _).trans (hHeld.2.2.2.2))))))⟩ (fun hHeld => ?_)
      clear hK K
      refine pure_ (i := 11) (N := some 10) (v := ?_) (a' := ?_) #[true, true, true, true, true, true, true, true, true, true, true, true] rfl rfl (any_of HT_.out (by kernel_rfl)) (fun _ _ _ h => h) (Or.inl ⟨by rfl, ?_⟩) ?_ ?_
      rotate_left
      ·intro w'
       go_simp
       with_reducible rfl
      rotate_left
      ·simp only [Act.put, List.setIfInBounds_toArray, List.set_cons_zero, List.set_cons_succ, i64_w, i32_w]
       rfl
      refine done_ (done_of HT_.out (by kernel_rfl)) ?_
      go_upto_if 34 with (fail)
      have H := HC14.out
      clear HC14
      by_cases c26 : t270 = true
      ·subst c26
       have H1 : (rf06_Encode.l0 k1 l1 (wrap64 (x8_1 + 1)) t263 t266 t269) = some (r1, r2) := by rw [if_pos rfl] at H; exact H
       clear H
       have H := H1
       clear H1
       have H' := Aside0.mk H
       clear H
       have hnb27 := NB271_261.out
       have hnc27 := NB261_271.out
       have hcz28_0 : w20.cell? ⟨gb271, 0, none⟩ = some (.slice none 0 0) := (blk_cell BK271.out 0).trans rfl
       have hcz28_1 : w20.cell? ⟨gb271, 1, none⟩ = some (.slice none 0 0) := (blk_cell BK271.out 1).trans rfl
       have hcz28_2 : w20.cell? ⟨gb271, 2, none⟩ = some (.int .i64 0) := (blk_cell BK271.out 2).trans rfl
       have hfz28_0 := blk_frozen BK271.out 0
       have hfz28_1 := blk_frozen BK271.out 1
       have hfz28_2 := blk_frozen BK271.out 2
       have hcz29_0 : w20.cell? ⟨gb261, 0, none⟩ = some (.slice Ao15 x262000_1.length co15) := (blk_cell BK261.out 0).trans rfl
       have hcz29_1 : w20.cell? ⟨gb261, 1, none⟩ = some (.slice Ao16 x262001_1.length co16) := (blk_cell BK261.out 1).trans rfl
       have hcz29_2 : w20.cell? ⟨gb261, 2, none⟩ = some (.int .i64 x262002_1) := (blk_cell BK261.out 2).trans rfl
       have hfz29_0 := blk_frozen BK261.out 0
       have hfz29_1 := blk_frozen BK261.out 1
       have hfz29_2 := blk_frozen BK261.out 2
       go_wp2
       go_roundg k1
       case measure => have := HK1.out; omega
       case rel => exact ⟨(wrap64 (x8_1 + 1)), (t263), (t266), (t269), (.slice Ao21 t263.length co21), (.slice Ao23 t266.length co23), (by first | rfl | (simp; done) | (simp [*]; done)), H', ⟨by have := HK1.out; omega⟩, ⟨by (with_reducible repeat (first | apply Kd.V_alloc | apply Kd.V_drewN | apply Kd.V_drew)); exact Kd.V_mono (Kd.V_far (p := ⟨gb261, 2, none⟩) (Kd.V_far (p := ⟨gb261, 1, none⟩) (Kd.V_far (p := ⟨gb261, 0, none⟩) (Kd.V_far (p := ⟨gb271, 2, none⟩) (Kd.V_far (p := ⟨gb271, 1, none⟩) (Kd.V_far (p := ⟨gb271, 0, none⟩) (Kd.V_mono (Kd.V_mono HO265.out (fun k_ hk => (⟨hk, hk.2.2⟩ : _ ∧ k_ ≠ gb271))) (fun k_ hk => (⟨hk, hk.1.2.1⟩ : _ ∧ k_ ≠ gb261))) (fun _ hk => hk.1.2) (.slice Ao21 t263.length co21)) (fun _ hk => hk.1.2) (.slice Ao23 t266.length co23)) (fun _ hk => hk.1.2) (.int .i64 t269)) (fun _ hk => hk.2) (.slice Ao21 t263.length co21)) (fun _ hk => hk.2) (.slice Ao23 t266.length co23)) (fun _ hk => hk.2) (.int .i64 t269)) (fun _ hk => ⟨hk.1.1.1, hk.1.1.2.1⟩)⟩, ⟨by (with_reducible repeat (first | apply Kd.R_alloc | apply Kd.R_drewN | apply Kd.R_drew)); exact Kd.R_mono (Kd.R_far (p := ⟨gb261, 2, none⟩) (Kd.R_far (p := ⟨gb261, 1, none⟩) (Kd.R_far (p := ⟨gb261, 0, none⟩) (Kd.R_far (p := ⟨gb271, 2, none⟩) (Kd.R_far (p := ⟨gb271, 1, none⟩) (Kd.R_far (p := ⟨gb271, 0, none⟩) (Kd.R_types (Kd.R_types HO268.out BK271.out (by decide)) BK261.out (by decide)) (fun _ hk => hk.1.2) (.slice Ao21 t263.length co21)) (fun _ hk => hk.1.2) (.slice Ao23 t266.length co23)) (fun _ hk => hk.1.2) (.int .i64 t269)) (fun _ hk => hk.2) (.slice Ao21 t263.length co21)) (fun _ hk => hk.2) (.slice Ao23 t266.length co23)) (fun _ hk => hk.2) (.int .i64 t269)) (fun _ hk => trivial)⟩, ⟨by (with_reducible repeat (first | refine blk_drewN ?_ _ | refine blk_drew ?_ | refine blk_alloc ?_ _)); refine blk_put (cs := #[.slice Ao21 t263.length co21, .slice Ao23 t266.length co23, .int .i64 x262002_1]) ?_ 2 _ rfl; (with_reducible repeat (first | refine blk_drewN ?_ _ | refine blk_drew ?_ | refine blk_alloc ?_ _)); refine blk_put (cs := #[.slice Ao21 t263.length co21, .slice Ao16 x262001_1.length co16, .int .i64 x262002_1]) ?_ 1 _ rfl; (with_reducible repeat (first | refine blk_drewN ?_ _ | refine blk_drew ?_ | refine blk_alloc ?_ _)); refine blk_put (cs := #[.slice Ao15 x262000_1.length co15, .slice Ao16 x262001_1.length co16, .int .i64 x262002_1]) ?_ 0 _ rfl; (with_reducible repeat (first | refine blk_drewN ?_ _ | refine blk_drew ?_ | refine blk_alloc ?_ _)); refine blk_far ?_ NB261_271.out _; (with_reducible repeat (first | refine blk_drewN ?_ _ | refine blk_drew ?_ | refine blk_alloc ?_ _)); refine blk_far ?_ NB261_271.out _; (with_reducible repeat (first | refine blk_drewN ?_ _ | refine blk_drew ?_ | refine blk_alloc ?_ _)); refine blk_far ?_ NB261_271.out _; (with_reducible repeat (first | refine blk_drewN ?_ _ | refine blk_drew ?_ | refine blk_alloc ?_ _)); exact BK261.out⟩, ⟨ bH HB⟩⟩
      ·replace c26 := Bool.eq_false_iff.mpr c26
       subst c26
       have H1 : (some (([] : List Int), 2)) = some (r1, r2) := by rw [if_neg (show ¬ (false = true) by decide)] at H; exact H
       clear H
       have H := H1
       clear H1
       simp only [Option.some.injEq, Prod.mk.injEq] at H
       obtain ⟨rfl, rfl⟩ := H
       go_wp2
       go_ret2
       exact ⟨_, by first | rfl | (simp [errW_none, errW_some] <;> rfl) | (simp [*, errW_none, errW_some] <;> rfl), by first | exact Kd.R_nil _ _ _ _ _ | exact Kd.N_nil _ _ _ _ _ | exact Kd.V_nil _ _ _ _ _ | exact Kd.Q_nil _ _ _ _ _ | exact Kd.S_nil _ _ _ _ _, bH HB⟩
     ·rw [if_neg c12] at H
      exact absurd H (by simp)
    ·rw [if_neg c11] at H
     have c11b0 : decide (x8_1 < (l1.length : Int)) = false := decide_eq_false c11
     clear c11
     (first | rw [c11b0] | (simp only [i64_w, i32_w]; rw [c11b0]) | skip)
     by_cases c30 : (l1.length : Int) > 65536
     ·rw [if_pos c30] at H
      have c30b0 : decide (65536 < (l1.length : Int)) = true := decide_eq_true c30
      have c30b1 : decide (65536 < l1.length) = true := decide_eq_true (by omega)
      clear c30
      simp only [Option.some.injEq, Prod.mk.injEq] at H
      obtain ⟨rfl, rfl⟩ := H
      go_wp2
      go_ret2
      exact ⟨_, by first | rfl | (simp [errW_none, errW_some] <;> rfl) | (simp [*, errW_none, errW_some] <;> rfl), by first | exact Kd.R_nil _ _ _ _ _ | exact Kd.N_nil _ _ _ _ _ | exact Kd.V_nil _ _ _ _ _ | exact Kd.Q_nil _ _ _ _ _ | exact Kd.S_nil _ _ _ _ _, bH HB⟩
     ·rw [if_neg c30] at H
      have c30b0 : decide (65536 < (l1.length : Int)) = false := decide_eq_false c30
      have c30b1 : decide (65536 < l1.length) = false := decide_eq_false (by omega)
      clear c30
      replace H := Option.bind_eq_some_iff.mp H
      obtain ⟨t272, A310, H⟩ := H
      replace H : (some (t272, 0)) = some (r1, r2) := H
      have A31 := Aside0.mk A310
      clear A310
      simp only [Option.some.injEq, Prod.mk.injEq] at H
      obtain ⟨rfl, rfl⟩ := H
      have hcz32_0 : wr.cell? ⟨gb261, 0, none⟩ = some (u262000) := (blk_cell BK261.out 0).trans rfl
      have hcz32_1 : wr.cell? ⟨gb261, 1, none⟩ = some (u262001) := (blk_cell BK261.out 1).trans rfl
      have hcz32_2 : wr.cell? ⟨gb261, 2, none⟩ = some (.int .i64 x262002_1) := (blk_cell BK261.out 2).trans rfl
      have hfz32_0 := blk_frozen BK261.out 0
      have hfz32_1 := blk_frozen BK261.out 1
      have hfz32_2 := blk_frozen BK261.out 2
      obtain ⟨Ao33, co33, eo33⟩ := Kd.R_slice HO_262001.out
      subst eo33
      go_wp2_with (first | ((with_reducible refine gate_callee (f := 108) rfl ?_); refine goesL_ (some 41) rfl rfl Tryz.func108 (by kernel_rfl) rfl #[.slice Ao33 x262001_1.length co33] rfl (by (try simp only [List.map_toArray, List.map_cons, List.map_nil]); first | done | rfl | (simp only [List.length_drop, List.length_take]; rfl)) ?_; (with_reducible refine (rf06_digits.calls k1 _ _ x262001_1 t272 _ ?side1 ?side2 A31.out).mono ?_); (case side1 => repeat (first | exact (Kd.R_reads' HO_262001.out).2.2 | (with_reducible refine Kd.C_alloc ?_ _) | (with_reducible refine Kd.C_drewN ?_ _) | (with_reducible refine Kd.C_drew ?_))); (case side2 => exact (Kd.R_reads' HO_262001.out).2.1); rintro e w34 ⟨v273, rfl, ho0, hb⟩; refine ⟨_, rfl, ?_⟩; have n0_ := Aside0.mk (Kd.V_elder' (by (with_reducible repeat (first | apply Kd.V_alloc | apply Kd.V_drewN | apply Kd.V_drew)); exact HO_262000.out) (Kd.R_base ho0) hb); have n1_ := Aside0.mk (Kd.R_below (rK HO_262001) hb); have n2_ := Aside0.mk (Kd.R_lower ho0 (below_size (bH HB))); have n3_ := Aside0.mk (blk_below (g := gb261) (o := .cells #[u262000, .slice Ao33 x262001_1.length co33, .int .i64 x262002_1] 184 (0, 0)) (bK BK261) hb); have n4_ := Aside0.mk (below_step (bH HB) hb); clear HO_262000; clear HO_262001; clear BK261; clear HB; have HO_262000 := n0_; have HO_262001 := n1_; have HO274 := n2_; have BK261 := n3_; have HB := n4_; clear n0_ n1_ n2_ n3_ n4_; (try clear hb); (try clear hb2); (try clear hk); (try clear hi); (try clear ho0)))
      go_ret2
      exact ⟨_, by first | rfl | (simp [errW_none, errW_some] <;> rfl) | (simp [*, errW_none, errW_some] <;> rfl), by (with_reducible repeat (first | apply Kd.R_alloc | apply Kd.R_drewN | apply Kd.R_drew)); exact HO274.out, bH HB⟩
 ·replace c10 := Bool.eq_false_iff.mpr c10
  subst c10
  have H1 : (some (([] : List Int), 2)) = some (r1, r2) := by rw [if_neg (show ¬ (false = true) by decide)] at H; exact H
  clear H
  have H := H1
  clear H1
  simp only [Option.some.injEq, Prod.mk.injEq] at H
  obtain ⟨rfl, rfl⟩ := H
  go_wp2
  go_ret2
  exact ⟨_, by first | rfl | (simp [errW_none, errW_some] <;> rfl) | (simp [*, errW_none, errW_some] <;> rfl), by first | exact Kd.R_nil _ _ _ _ _ | exact Kd.N_nil _ _ _ _ _ | exact Kd.V_nil _ _ _ _ _ | exact Kd.Q_nil _ _ _ _ _ | exact Kd.S_nil _ _ _ _ _, bH HB⟩
end Go.Proofs.YtbdbobjdlomjnaaGreatDoor.P
