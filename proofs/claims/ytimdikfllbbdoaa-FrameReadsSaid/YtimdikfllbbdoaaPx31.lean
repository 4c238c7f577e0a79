/- Written for this claim by a program of this session (a turned copy of the print): Go functions as Lean functions, and that the Go code comes to just these answers; or a statement proved out of them. No condition. -/
import Derived.Test.YtimdikfllbbdoaaPx0
import Derived.Test.YtimdikfllbbdoaaPx29
import Derived.Test.YtimdikfllbbdoaaPx30
namespace Go.Proofs.Ytimdikfllbbdoaa.P
open Go.RowKit Go.Proofs.YtimdikfllbbdoaaW.PrintWords Go.Proofs.YtimdikfllbbdoaaW.PrintLast Go.Proofs.YtimdikfllbbdoaaW.PrintMore Go.Proofs.Ytimdikfllbbdoaa.X
attribute [local go_sem] max2_int min2_int max_two min_two max_three min_three max_four min_four   -- for this text's walks alone
set_option linter.unusedVariables false
set_option linter.unusedSimpArgs false

/-! ### lapidaryref03_Decode: function 16 -/
def lapidaryref03_Decode.l0 : Nat → List Int → Int → List Int → Int → Bool → Int → List (S33) → Int → Option ((List (S33)) × Int)
 | 0, _, _, _, _, _, _, _, _ => none
 | k + 1, x0, x5, x362000, x362001, x362002, x362003, x362004, x362005 => if x5 < (x0.length : Int) then (if 0 ≤ x5 then ((lapidaryref03_Step.f k x362000 x362001 x362002 x362003 x362004 x362005 (rd x0 x5)).bind fun bt363 => (lapidaryref03_Decode.l0 k x0 (wrap64 (x5 + 1)) bt363.1 bt363.2.1 bt363.2.2.1 bt363.2.2.2.1 bt363.2.2.2.2.1 bt363.2.2.2.2.2)) else (none)) else ((lapidaryref03_Close.f x362000 x362001 x362002 x362003 x362004 x362005).bind fun bt373 => (some (bt373.1, bt373.2)))
def lapidaryref03_Decode.f (k : Nat) (l0 : List Int) : Option ((List (S33)) × Int) := lapidaryref03_Decode.l0 k l0 0 ([] : List Int) 0 false 0 ([] : List (S33)) 0
theorem lapidaryref03_Decode.mono_l : ∀ k, (∀ y0 y1 y2 y3 y4 y5 y6 y7, LeO (lapidaryref03_Decode.l0 k y0 y1 y2 y3 y4 y5 y6 y7) (lapidaryref03_Decode.l0 (k + 1) y0 y1 y2 y3 y4 y5 y6 y7))
 | 0 => fun _ _ _ _ _ _ _ _ r h => by simp [lapidaryref03_Decode.l0] at h
 | k + 1 => by
  have ih0 := lapidaryref03_Decode.mono_l k
  ·intro y0 y1 y2 y3 y4 y5 y6 y7
   unfold lapidaryref03_Decode.l0
   repeat' first
   | (with_reducible exact ih0 _ _ _ _ _ _ _ _)
   | (with_reducible exact lapidaryref03_Step.mono _ _ _ _ _ _ _ _)
   | (with_reducible exact LeO.refl _)
   | (with_reducible exact LeO.none _)
   | (with_reducible refine LeO.ite ?_ ?_)
   | (with_reducible refine LeO.bind ?_ (fun _ => ?_))
   | exact ih0 _ _ _ _ _ _ _ _
   | exact lapidaryref03_Step.mono _ _ _ _ _ _ _ _
   | exact LeO.none _
   | refine LeO.ite ?_ ?_
   | refine LeO.bind ?_ (fun _ => ?_)
theorem lapidaryref03_Decode.mono : ∀ a0 k, LeO (lapidaryref03_Decode.f k a0) (lapidaryref03_Decode.f (k + 1) a0) := by
 intro a0 k
 have ih0 := lapidaryref03_Decode.mono_l k
 unfold lapidaryref03_Decode.f
 repeat' first
   | (with_reducible exact ih0 _ _ _ _ _ _ _ _)
   | (with_reducible exact lapidaryref03_Step.mono _ _ _ _ _ _ _ _)
   | (with_reducible exact LeO.refl _)
   | (with_reducible exact LeO.none _)
   | (with_reducible refine LeO.ite ?_ ?_)
   | (with_reducible refine LeO.bind ?_ (fun _ => ?_))
   | exact ih0 _ _ _ _ _ _ _ _
   | exact lapidaryref03_Step.mono _ _ _ _ _ _ _ _
   | exact LeO.none _
   | refine LeO.ite ?_ ?_
   | refine LeO.bind ?_ (fun _ => ?_)
set_option maxHeartbeats 8000000 in
set_option maxRecDepth 100000 in
theorem lapidaryref03_Decode.calls (k : Nat) (A0 : Option Addr) (c0 : Nat) (l0 : List Int) (r1 : List (S33)) (r2 : Int) (w : World) (hr0 : Kd.C (Kd.int .u8) w A0 l0.length l0) (hc0 : l0.length ≤ c0) (h : lapidaryref03_Decode.f k l0 = some (r1, r2)) :
  Calls Try.prog 16 #[.slice A0 l0.length c0] w fun e w' => ∃ v0_ : Value, e = .returned (.tuple #[v0_, .int .i64 r2]) ∧ Kd.V k33 33 w' w.heap.size (fun k_ => (w.heap.size ≤ k_)) v0_ r1 ∧ Below w.heap.size w w' := by
 have hu54 := Try.underlying54
 have HR0 := Aside0.mk hr0
 have HC0 := Aside0.mk hc0
 clear hr0 hc0
 have HB := Aside0.mk (Below.refl w.heap.size w)
 have H : (lapidaryref03_Decode.l0 k l0 0 ([] : List Int) 0 false 0 ([] : List (S33)) 0) = some (r1, r2) := h
 clear h
 have H' := Aside0.mk H
 clear H
 go_enter Try.func16, Try.ntmps16
 go_wp2_with (first | ((with_reducible refine gate_dst (N := 4) rfl ?_); refine box_event ?hg (N := 4) ?hd (cs := #[.slice none 0 0, .int .i64 0, .bool false, .int .i64 0, .slice none 0 0, .int .i64 0]) (t := 54) ?hr ?_; (case hd => rfl); (case hg => rfl); (case hr => first | (go_simp; done) | (go_simp; rfl)); intro gb361 hg w2 hbox hb; have n0_ := Aside0.mk (below_step (bH HB) hb); have n1_ := Aside0.mk (hbox); have n2_ := Aside0.mk ((by rw [hg]; exact (below_size (bH HB)) : w.heap.size ≤ gb361)); have n3_ := n2_; clear HB; have HB := n0_; have BK361 := n1_; have GW361 := n2_; have GE361 := n3_; clear n0_ n1_ n2_ n3_; clear hb hbox hg; have hcz3_0 : w2.cell? ⟨gb361, 0, none⟩ = some (.slice none 0 0) := (blk_cell BK361.out 0).trans rfl; have hcz3_1 : w2.cell? ⟨gb361, 1, none⟩ = some (.int .i64 0) := (blk_cell BK361.out 1).trans rfl; have hcz3_2 : w2.cell? ⟨gb361, 2, none⟩ = some (.bool false) := (blk_cell BK361.out 2).trans rfl; have hcz3_3 : w2.cell? ⟨gb361, 3, none⟩ = some (.int .i64 0) := (blk_cell BK361.out 3).trans rfl; have hcz3_4 : w2.cell? ⟨gb361, 4, none⟩ = some (.slice none 0 0) := (blk_cell BK361.out 4).trans rfl; have hcz3_5 : w2.cell? ⟨gb361, 5, none⟩ = some (.int .i64 0) := (blk_cell BK361.out 5).trans rfl; have hfz3_0 := blk_frozen BK361.out 0; have hfz3_1 := blk_frozen BK361.out 1; have hfz3_2 := blk_frozen BK361.out 2; have hfz3_3 := blk_frozen BK361.out 3; have hfz3_4 := blk_frozen BK361.out 4; have hfz3_5 := blk_frozen BK361.out 5))
 go_loopg [5] k (fun kq v5 w' => ∃ (x5_1 : Int) (x362000_1 : List Int) (x362001_1 : Int) (x362002_1 : Bool) (x362003_1 : Int) (x362004_1 : List (S33)) (x362005_1 : Int) (u362000 : Value) (u362004 : Value), v5 = .int .i64 x5_1 ∧ Aside0 (lapidaryref03_Decode.l0 kq l0 x5_1 x362000_1 x362001_1 x362002_1 x362003_1 x362004_1 x362005_1 = some (r1, r2)) ∧ Aside0 (kq ≤ k) ∧ Aside0 (Kd.R (Kd.int .u8) 5 w' w.heap.size (fun k_ => (w.heap.size ≤ k_)) u362000 x362000_1) ∧ Aside0 (Kd.V k33 33 w' w.heap.size (fun k_ => (w.heap.size ≤ k_) ∧ some k_ ≠ (u362000 : Value).ownBlock ∧ k_ ≠ gb361) u362004 x362004_1) ∧ Aside0 (w'.heap[gb361]? = some (.cells #[u362000, .int .i64 x362001_1, .bool x362002_1, .int .i64 x362003_1, u362004, .int .i64 x362005_1] 54 (0, 0))) ∧ Aside0 (Below w.heap.size w w'))
 case atStart => exact ⟨(0), (([] : List Int)), (0), (false), (0), (([] : List (S33))), (0), (.slice none 0 0), (.slice none 0 0), (by first | rfl | (simp; done) | (simp [*]; done)), H', ⟨Nat.le_refl _⟩, ⟨by first | exact Kd.R_nil _ _ _ _ _ | exact Kd.N_nil _ _ _ _ _ | exact Kd.V_nil _ _ _ _ _ | exact Kd.Q_nil _ _ _ _ _ | exact Kd.S_nil _ _ _ _ _⟩, ⟨Kd.V_nil _ _ _ _ _⟩, ⟨by (with_reducible repeat (first | refine blk_drewN ?_ _ | refine blk_drew ?_ | refine blk_alloc ?_ _)); refine blk_put (cs := #[.slice none 0 0, .int .i64 0, .bool false, .int .i64 0, .slice none 0 0, .int .i64 0]) ?_ 5 _ rfl; (with_reducible repeat (first | refine blk_drewN ?_ _ | refine blk_drew ?_ | refine blk_alloc ?_ _)); refine blk_put (cs := #[.slice none 0 0, .int .i64 0, .bool false, .int .i64 0, .slice none 0 0, .int .i64 0]) ?_ 4 _ rfl; (with_reducible repeat (first | refine blk_drewN ?_ _ | refine blk_drew ?_ | refine blk_alloc ?_ _)); refine blk_put (cs := #[.slice none 0 0, .int .i64 0, .bool false, .int .i64 0, .slice none 0 0, .int .i64 0]) ?_ 3 _ rfl; (with_reducible repeat (first | refine blk_drewN ?_ _ | refine blk_drew ?_ | refine blk_alloc ?_ _)); refine blk_put (cs := #[.slice none 0 0, .int .i64 0, .bool false, .int .i64 0, .slice none 0 0, .int .i64 0]) ?_ 2 _ rfl; (with_reducible repeat (first | refine blk_drewN ?_ _ | refine blk_drew ?_ | refine blk_alloc ?_ _)); refine blk_put (cs := #[.slice none 0 0, .int .i64 0, .bool false, .int .i64 0, .slice none 0 0, .int .i64 0]) ?_ 1 _ rfl; (with_reducible repeat (first | refine blk_drewN ?_ _ | refine blk_drew ?_ | refine blk_alloc ?_ _)); refine blk_put (cs := #[.slice none 0 0, .int .i64 0, .bool false, .int .i64 0, .slice none 0 0, .int .i64 0]) ?_ 0 _ rfl; (with_reducible repeat (first | refine blk_drewN ?_ _ | refine blk_drew ?_ | refine blk_alloc ?_ _)); exact BK361.out⟩, ⟨ bH HB⟩⟩
 case round =>
  clear H'
  try clear c1
  try clear p2
  try clear hcz3_0
  try clear hcz3_1
  try clear hcz3_2
  try clear hcz3_3
  try clear hcz3_4
  try clear hcz3_5
  try clear hfz3_0
  try clear hfz3_1
  try clear hfz3_2
  try clear hfz3_3
  try clear hfz3_4
  try clear hfz3_5
  obtain ⟨x5_1, x362000_1, x362001_1, x362002_1, x362003_1, x362004_1, x362005_1, u362000, u362004, rfl, HA, HK1, HO_362000, HO_362004, BK361, HB⟩ := hrel
  cases gk with
  | zero => exact absurd HA.out (by simp [lapidaryref03_Decode.l0])
  | succ k1 =>
   have H := HA.out
   clear HA
   simp only [lapidaryref03_Decode.l0] at H
   by_cases c4 : x5_1 < (l0.length : Int)
   ·rw [if_pos c4] at H
    have c4b0 : decide (x5_1 < (l0.length : Int)) = true := decide_eq_true c4
    clear c4
    by_cases c5 : 0 ≤ x5_1
    ·rw [if_pos c5] at H
     have c5b0 : decide (0 ≤ x5_1) = true := decide_eq_true c5
     clear c5
     replace H := Option.bind_eq_some_iff.mp H
     obtain ⟨⟨t363, t366, t367, t368, t369, t372⟩, A60, H⟩ := H
     replace H : (lapidaryref03_Decode.l0 k1 l0 (wrap64 (x5_1 + 1)) t363 t366 t367 t368 t369 t372) = some (r1, r2) := H
     have A6 := Aside0.mk A60
     clear A60
     have H' := Aside0.mk H
     clear H
     try go_wp2
     have n0_ := Aside0.mk (Kd.R_drew HO_362000.out)
     have n1_ := Aside0.mk (Kd.V_drew HO_362004.out)
     have n2_ := Aside0.mk (blk_drew BK361.out)
     have n3_ := Aside0.mk (below_drew1 HB.out)
     clear HO_362000
     clear HO_362004
     clear BK361
     clear HB
     have HO_362000 := n0_
     have HO_362004 := n1_
     have BK361 := n2_
     have HB := n3_
     clear n0_ n1_ n2_ n3_
     have p362 : 0 ≤ (x5_1 : Int) := of_decide_eq_true (by first | (with_reducible assumption) | assumption)
     have q362 : x5_1 < (l0.length : Int) := of_decide_eq_true (by first | (with_reducible assumption) | assumption)
     obtain ⟨ad362, e362, hx362_0⟩ := Kd.at_int HR0.out x5_1 p362 q362
     have hw362_0 := hx362_0
     cases e362
     replace hx362_0 := (HB.out.cell (World.block_lt_of_cell? w _ hx362_0)).trans hx362_0
     replace p362 := eq_true p362
     replace q362 := eq_true q362
     obtain ⟨Ao8, co8, eo8⟩ := Kd.R_slice HO_362000.out
     (first | subst eo8 | (injection eo8 with f1_ f2_ f3_; have f4_ := f1_.symm; have f5_ := f3_.symm; clear f1_ f2_ f3_; subst f4_; subst f5_))
     obtain ⟨Ao9, co9, eo9⟩ := Kd.V_slice HO_362004.out
     (first | subst eo9 | (injection eo9 with f1_ f2_ f3_; have f4_ := f1_.symm; have f5_ := f3_.symm; clear f1_ f2_ f3_; subst f4_; subst f5_))
     refine start_ (n := 7) (S := fun w' => w'.cell? ⟨gb361, 0, none⟩ = some (.slice Ao8 x362000_1.length co8) ∧ w'.cell? ⟨gb361, 1, none⟩ = some (.int .i64 x362001_1) ∧ w'.cell? ⟨gb361, 2, none⟩ = some (.bool x362002_1) ∧ w'.cell? ⟨gb361, 3, none⟩ = some (.int .i64 x362003_1) ∧ w'.cell? ⟨gb361, 4, none⟩ = some (.slice Ao9 x362004_1.length co9) ∧ w'.cell? ⟨gb361, 5, none⟩ = some (.int .i64 x362005_1) ∧ w'.cell? (ad362.add (x5_1).toNat) = some (.int .u8 (rd l0 x5_1))) (ds := [6]) #[false, false, false, false, false, false, false] (by kernel_rfl) rfl rfl ⟨(blk_cell BK361.out 0).trans rfl, (blk_cell BK361.out 1).trans rfl, (blk_cell BK361.out 2).trans rfl, (blk_cell BK361.out 3).trans rfl, (blk_cell BK361.out 4).trans rfl, (blk_cell BK361.out 5).trans rfl, ((HB.out.cell (World.block_lt_of_cell? w _ hw362_0)).trans hw362_0)⟩ (fun hHeld => ?_)
     generalize wr.drew = w7 at HO_362000 HO_362004 BK361 HB hx362_0 hHeld ⊢
     refine pure_ (i := 1) (N := some 14) (v := ?_) (a' := ?_) #[false, true, false, false, false, false, false] rfl rfl (by kernel_rfl) (fun _ _ _ h => h) (Or.inl ⟨by rfl, ?_⟩) ?_ ?_
     rotate_left
     ·intro w'
      go_simp
      with_reducible rfl
     rotate_left
     ·simp only [Act.put, List.setIfInBounds_toArray, List.set_cons_zero, List.set_cons_succ, i64_w, i32_w]
      rfl
     refine pure_ (i := 2) (N := some 15) (v := ?_) (a' := ?_) #[false, true, true, false, false, false, false] rfl rfl (by kernel_rfl) (fun _ _ _ h => h) (Or.inl ⟨by rfl, ?_⟩) ?_ ?_
     rotate_left
     ·intro w'
      go_simp
      with_reducible rfl
     rotate_left
     ·simp only [Act.put, List.setIfInBounds_toArray, List.set_cons_zero, List.set_cons_succ, i64_w, i32_w]
      rfl
     refine pure_ (i := 3) (N := some 16) (v := ?_) (a' := ?_) #[false, true, true, true, false, false, false] rfl rfl (by kernel_rfl) (fun _ _ _ h => h) (Or.inl ⟨by rfl, ?_⟩) ?_ ?_
     rotate_left
     ·intro w'
      go_simp
      with_reducible rfl
     rotate_left
     ·simp only [Act.put, List.setIfInBounds_toArray, List.set_cons_zero, List.set_cons_succ, i64_w, i32_w]
      rfl
     refine take_ (i := 0) (N := some 13) (v := ?_) (a' := ?_) #[true, true, true, true, false, false, false] rfl rfl (by kernel_rfl) (fun _ _ _ h => h) (Or.inl ⟨by rfl, ?_⟩) hHeld ?_ ?_
     rotate_left
     ·rintro w' ⟨s0, s1, s2, s3, s4, s5, s6⟩
      go_simp
      with_reducible rfl
     rotate_left
     ·simp only [Act.put, List.setIfInBounds_toArray, List.set_cons_zero, List.set_cons_succ, i64_w, i32_w]
      rfl
     refine take_ (i := 4) (N := some 17) (v := ?_) (a' := ?_) #[true, true, true, true, true, false, false] rfl rfl (by kernel_rfl) (fun _ _ _ h => h) (Or.inl ⟨by rfl, ?_⟩) hHeld ?_ ?_
     rotate_left
     ·rintro w' ⟨s0, s1, s2, s3, s4, s5, s6⟩
      go_simp
      with_reducible rfl
     rotate_left
     ·simp only [Act.put, List.setIfInBounds_toArray, List.set_cons_zero, List.set_cons_succ, i64_w, i32_w]
      rfl
     refine one_ (i := 5) (N := some 18) #[true, true, true, true, true, true, false] rfl rfl (by kernel_rfl) (by decide) (fun K hK => ?_)
     refine goes_ Try.func25 (by kernel_rfl) rfl #[.agg #[.slice Ao8 x362000_1.length co8, .int .i64 x362001_1, .bool x362002_1, .int .i64 x362003_1, .slice Ao9 x362004_1.length co9, .int .i64 x362005_1], .int .u8 (rd l0 x5_1)] (by rfl) rfl rfl (by (try simp only [List.map_toArray, List.map_cons, List.map_nil]); first | done | rfl | (simp only [List.length_drop, List.length_take]; rfl)) ?_
     with_reducible refine (lapidaryref03_Step.calls k1 (fun k_ => some k_ = (.slice Ao8 x362000_1.length co8 : Value).ownBlock) (.slice Ao8 x362000_1.length co8) x362000_1 x362001_1 x362002_1 x362003_1 (fun k_ => ((w.heap.size ≤ k_) ∧ (some k_ ≠ (.slice Ao8 x362000_1.length co8 : Value).ownBlock ∧ k_ ≠ gb361))) _ _ x362004_1 x362005_1 (rd l0 x5_1) t363 t366 t367 t368 t369 t372 w _ ?side1 ?side2 ?side3 A6.out).mono ?_
     (case side1 => repeat (first | (with_reducible first | exact HB.out | apply below_alloc | apply pw_below_drewN | apply below_drew1 | refine below_set ?_ GE361.out) | exact HB.out))
     (case side2 => exact Kd.R_tight rfl HO_362000.out)
     (case side3 => exact Kd.V_mono (HO_362004.out) (fun k_ hk_ => ⟨hk_, hk_.2.1⟩))
     rintro e w10 ⟨v364, v370, rfl, ho0, ho1, hb, hkp⟩
     refine ⟨_, rfl, ?_⟩
     have n0_ := Aside0.mk (Kd.V_mono (ok' := fun k_ => (w.heap.size ≤ k_) ∧ k_ ≠ gb361 ∧ some k_ ≠ (v364 : Value).ownBlock) (Kd.V_keptB (HO_362004.out) hkp (fun k_ hk_ hs_ => (hk_.2.1) hs_)) (fun k_ hk_ => ⟨hk_.1.1, hk_.1.2.2, fun e_ => Or.elim (ho0.1 k_ e_.symm) (fun hs_ => hk_.2.1 hs_) (fun hn_ => Nat.not_le.2 hk_.2.2 hn_)⟩))
     have n1_ := Aside0.mk (blk_kept (bK BK361) hkp (fun hs_ => (fun e_ => (Kd.R_ne HO_362000.out BK361.out (by decide)) e_) hs_))
     have n2_ := Aside0.mk (Kd.R_mono (ok' := fun k_ => (w.heap.size ≤ k_)) ho0 (fun k_ hk_ => Or.elim hk_ (fun hs_ => (HO_362000.out.1 k_ (hs_).symm)) (fun hn_ => (Nat.le_trans (below_size (bH HB)) hn_))))
     have n3_ := Aside0.mk (Kd.V_mono (ok' := fun k_ => (w.heap.size ≤ k_) ∧ some k_ ≠ (v364 : Value).ownBlock ∧ k_ ≠ gb361) ho1 (fun k_ hk_ => ⟨Or.elim hk_.1 (fun hs_ => Or.elim hs_ (fun hs_ => (HO_362000.out.1 k_ (hs_).symm)) (fun hs_ => hs_.1)) (fun hn_ => (Nat.le_trans (below_size (bH HB)) hn_)), hk_.2, Or.elim hk_.1 (fun hs_ => Or.elim hs_ (fun hs_ => fun e_ => (Kd.R_ne HO_362000.out BK361.out (by decide)) (by rw [← e_]; exact hs_)) (fun hs_ => hs_.2.2)) (fun hn_ => (Kd.freshB (g := gb361) (o := .cells #[.slice Ao8 x362000_1.length co8, .int .i64 x362001_1, .bool x362002_1, .int .i64 x362003_1, .slice Ao9 x362004_1.length co9, .int .i64 x362005_1] 54 (0, 0)) (bK BK361) k_ hn_))⟩))
     have n4_ := Aside0.mk (hb)
     clear HO_362004
     clear BK361
     clear HB
     clear HO_362000
     have HO_362004 := n0_
     have BK361 := n1_
     have HO365 := n2_
     have HO371 := n3_
     have HB := n4_
     clear n0_ n1_ n2_ n3_ n4_
     (try clear hb)
     (try clear hkp)
     (try clear ho0)
     (try clear ho1)
     obtain ⟨Ao11, co11, eo11⟩ := Kd.R_slice HO365.out
     (first | subst eo11 | (injection eo11 with f1_ f2_ f3_; have f4_ := f1_.symm; have f5_ := f3_.symm; clear f1_ f2_ f3_; subst f4_; subst f5_))
     obtain ⟨Ao16, co16, eo16⟩ := Kd.V_slice HO371.out
     (first | subst eo16 | (injection eo16 with f1_ f2_ f3_; have f4_ := f1_.symm; have f5_ := f3_.symm; clear f1_ f2_ f3_; subst f4_; subst f5_))
     refine hK.out _ _ ⟨(blk_cell BK361.out 0).trans rfl, (blk_cell BK361.out 1).trans rfl, (blk_cell BK361.out 2).trans rfl, (blk_cell BK361.out 3).trans rfl, (blk_cell BK361.out 4).trans rfl, (blk_cell BK361.out 5).trans rfl, ((HB.out.cell (World.block_lt_of_cell? w _ hw362_0)).trans hw362_0)⟩ (fun hHeld => ?_)
     clear hK K
     refine norm_ (a' := ?_) ?_ ?_
     rotate_left
     ·show Act.put _ (some 18) _ = _
      simp only [Act.put, List.setIfInBounds_toArray, List.set_cons_zero, List.set_cons_succ, i64_w, i32_w]
      rfl
     refine last_ (i := 6) (N := none) #[true, true, true, true, true, true, true] rfl rfl (by kernel_rfl) (by decide) (fun K hK => ?_)
     have hs12 : w10.cell? ⟨gb361, 0, none⟩ = some (.slice Ao8 x362000_1.length co8) := (blk_cell BK361.out 0).trans rfl
     have hfs12 := blk_frozen BK361.out 0
     have hs13 : w10.cell? ⟨gb361, 1, none⟩ = some (.int .i64 x362001_1) := (blk_cell BK361.out 1).trans rfl
     have hfs13 := blk_frozen BK361.out 1
     have hs14 : w10.cell? ⟨gb361, 2, none⟩ = some (.bool x362002_1) := (blk_cell BK361.out 2).trans rfl
     have hfs14 := blk_frozen BK361.out 2
     have hs15 : w10.cell? ⟨gb361, 3, none⟩ = some (.int .i64 x362003_1) := (blk_cell BK361.out 3).trans rfl
     have hfs15 := blk_frozen BK361.out 3
     have hs17 : w10.cell? ⟨gb361, 4, none⟩ = some (.slice Ao9 x362004_1.length co9) := (blk_cell BK361.out 4).trans rfl
     have hfs17 := blk_frozen BK361.out 4
     have hs18 : w10.cell? ⟨gb361, 5, none⟩ = some (.int .i64 x362005_1) := (blk_cell BK361.out 5).trans rfl
     have hfs18 := blk_frozen BK361.out 5
     refine skip_ (w1 := ?_) (by rfl) rfl ?_ ?_
     rotate_left
     ·go_simp
      rfl
     refine hK.out _ _ ?_
     clear hK K
     refine done_ (by kernel_rfl) ?_
     try go_wp2
     go_roundg k1
     case measure => have := HK1.out; omega
     case rel => exact ⟨(wrap64 (x5_1 + 1)), (t363), (t366), (t367), (t368), (t369), (t372), (.slice Ao11 t363.length co11), (.slice Ao16 t369.length co16), (by first | rfl | (simp; done) | (simp [*]; done)), H', ⟨by have := HK1.out; omega⟩, ⟨by (with_reducible repeat (first | apply Kd.R_alloc | apply Kd.R_drewN | apply Kd.R_drew)); exact Kd.R_mono (Kd.R_far (p := ⟨gb361, 5, none⟩) (Kd.R_far (p := ⟨gb361, 4, none⟩) (Kd.R_far (p := ⟨gb361, 3, none⟩) (Kd.R_far (p := ⟨gb361, 2, none⟩) (Kd.R_far (p := ⟨gb361, 1, none⟩) (Kd.R_far (p := ⟨gb361, 0, none⟩) (Kd.R_types HO365.out BK361.out (by decide)) (fun _ hk => hk.2) (.slice Ao11 t363.length co11)) (fun _ hk => hk.2) (.int .i64 t366)) (fun _ hk => hk.2) (.bool t367)) (fun _ hk => hk.2) (.int .i64 t368)) (fun _ hk => hk.2) (.slice Ao16 t369.length co16)) (fun _ hk => hk.2) (.int .i64 t372)) (fun _ hk => hk.1)⟩, ⟨by (with_reducible repeat (first | apply Kd.V_alloc | apply Kd.V_drewN | apply Kd.V_drew)); exact Kd.V_mono (Kd.V_far (p := ⟨gb361, 5, none⟩) (Kd.V_far (p := ⟨gb361, 4, none⟩) (Kd.V_far (p := ⟨gb361, 3, none⟩) (Kd.V_far (p := ⟨gb361, 2, none⟩) (Kd.V_far (p := ⟨gb361, 1, none⟩) (Kd.V_far (p := ⟨gb361, 0, none⟩) (Kd.V_mono HO371.out (fun k_ hk => (⟨hk, hk.2.2⟩ : _ ∧ k_ ≠ gb361))) (fun _ hk => hk.2) (.slice Ao11 t363.length co11)) (fun _ hk => hk.2) (.int .i64 t366)) (fun _ hk => hk.2) (.bool t367)) (fun _ hk => hk.2) (.int .i64 t368)) (fun _ hk => hk.2) (.slice Ao16 t369.length co16)) (fun _ hk => hk.2) (.int .i64 t372)) (fun _ hk => ⟨hk.1.1, ⟨hk.1.2.1, hk.1.2.2⟩⟩)⟩, ⟨by (with_reducible repeat (first | refine blk_drewN ?_ _ | refine blk_drew ?_ | refine blk_alloc ?_ _)); refine blk_put (cs := #[.slice Ao11 t363.length co11, .int .i64 t366, .bool t367, .int .i64 t368, .slice Ao16 t369.length co16, .int .i64 x362005_1]) ?_ 5 _ rfl; (with_reducible repeat (first | refine blk_drewN ?_ _ | refine blk_drew ?_ | refine blk_alloc ?_ _)); refine blk_put (cs := #[.slice Ao11 t363.length co11, .int .i64 t366, .bool t367, .int .i64 t368, .slice Ao9 x362004_1.length co9, .int .i64 x362005_1]) ?_ 4 _ rfl; (with_reducible repeat (first | refine blk_drewN ?_ _ | refine blk_drew ?_ | refine blk_alloc ?_ _)); refine blk_put (cs := #[.slice Ao11 t363.length co11, .int .i64 t366, .bool t367, .int .i64 x362003_1, .slice Ao9 x362004_1.length co9, .int .i64 x362005_1]) ?_ 3 _ rfl; (with_reducible repeat (first | refine blk_drewN ?_ _ | refine blk_drew ?_ | refine blk_alloc ?_ _)); refine blk_put (cs := #[.slice Ao11 t363.length co11, .int .i64 t366, .bool x362002_1, .int .i64 x362003_1, .slice Ao9 x362004_1.length co9, .int .i64 x362005_1]) ?_ 2 _ rfl; (with_reducible repeat (first | refine blk_drewN ?_ _ | refine blk_drew ?_ | refine blk_alloc ?_ _)); refine blk_put (cs := #[.slice Ao11 t363.length co11, .int .i64 x362001_1, .bool x362002_1, .int .i64 x362003_1, .slice Ao9 x362004_1.length co9, .int .i64 x362005_1]) ?_ 1 _ rfl; (with_reducible repeat (first | refine blk_drewN ?_ _ | refine blk_drew ?_ | refine blk_alloc ?_ _)); refine blk_put (cs := #[.slice Ao8 x362000_1.length co8, .int .i64 x362001_1, .bool x362002_1, .int .i64 x362003_1, .slice Ao9 x362004_1.length co9, .int .i64 x362005_1]) ?_ 0 _ rfl; (with_reducible repeat (first | refine blk_drewN ?_ _ | refine blk_drew ?_ | refine blk_alloc ?_ _)); exact BK361.out⟩, ⟨ bH HB⟩⟩
    ·rw [if_neg c5] at H
     exact absurd H (by simp)
   ·rw [if_neg c4] at H
    have c4b0 : decide (x5_1 < (l0.length : Int)) = false := decide_eq_false c4
    clear c4
    replace H := Option.bind_eq_some_iff.mp H
    obtain ⟨⟨t373, t376⟩, A190, H⟩ := H
    replace H : (some (t373, t376)) = some (r1, r2) := H
    have A19 := Aside0.mk A190
    clear A190
    simp only [Option.some.injEq, Prod.mk.injEq] at H
    obtain ⟨rfl, rfl⟩ := H
    have hcz20_0 : wr.cell? ⟨gb361, 0, none⟩ = some (u362000) := (blk_cell BK361.out 0).trans rfl
    have hcz20_1 : wr.cell? ⟨gb361, 1, none⟩ = some (.int .i64 x362001_1) := (blk_cell BK361.out 1).trans rfl
    have hcz20_2 : wr.cell? ⟨gb361, 2, none⟩ = some (.bool x362002_1) := (blk_cell BK361.out 2).trans rfl
    have hcz20_3 : wr.cell? ⟨gb361, 3, none⟩ = some (.int .i64 x362003_1) := (blk_cell BK361.out 3).trans rfl
    have hcz20_4 : wr.cell? ⟨gb361, 4, none⟩ = some (u362004) := (blk_cell BK361.out 4).trans rfl
    have hcz20_5 : wr.cell? ⟨gb361, 5, none⟩ = some (.int .i64 x362005_1) := (blk_cell BK361.out 5).trans rfl
    have hfz20_0 := blk_frozen BK361.out 0
    have hfz20_1 := blk_frozen BK361.out 1
    have hfz20_2 := blk_frozen BK361.out 2
    have hfz20_3 := blk_frozen BK361.out 3
    have hfz20_4 := blk_frozen BK361.out 4
    have hfz20_5 := blk_frozen BK361.out 5
    obtain ⟨Ao21, co21, eo21⟩ := Kd.R_slice HO_362000.out
    subst eo21
    obtain ⟨Ao22, co22, eo22⟩ := Kd.V_slice HO_362004.out
    subst eo22
    go_wp2_with (first | ((with_reducible refine gate_callee (f := 26) rfl ?_); refine goesL_ (some 20) rfl rfl Try.func26 (by kernel_rfl) rfl #[.agg #[.slice Ao21 x362000_1.length co21, .int .i64 x362001_1, .bool x362002_1, .int .i64 x362003_1, .slice Ao22 x362004_1.length co22, .int .i64 x362005_1]] rfl (by (try simp only [List.map_toArray, List.map_cons, List.map_nil]); first | done | rfl | (simp only [List.length_drop, List.length_take]; rfl)) ?_; (with_reducible refine (lapidaryref03_Close.calls _ _ x362000_1 x362001_1 x362002_1 x362003_1 (fun k_ => ((w.heap.size ≤ k_) ∧ (some k_ ≠ (.slice Ao21 x362000_1.length co21 : Value).ownBlock ∧ k_ ≠ gb361))) _ _ x362004_1 x362005_1 t373 t376 _ ?side1 ?side2 ?side3 A19.out).mono ?_); (case side1 => repeat (first | exact (Kd.R_reads' HO_362000.out).2.2 | (with_reducible refine Kd.C_alloc ?_ _) | (with_reducible refine Kd.C_drewN ?_ _) | (with_reducible refine Kd.C_drew ?_))); (case side2 => exact (Kd.R_reads' HO_362000.out).2.1); (case side3 => exact HO_362004.out); rintro e w23 ⟨v374, rfl, ho0, hb⟩; refine ⟨_, rfl, ?_⟩; have n0_ := Aside0.mk (Kd.R_below (rK HO_362000) hb); have n1_ := Aside0.mk (Kd.V_below (by (with_reducible repeat (first | apply Kd.V_alloc | apply Kd.V_drewN | apply Kd.V_drew)); exact HO_362004.out) hb); have n2_ := Aside0.mk (Kd.V_lower (Kd.V_mono (ok' := fun k_ => (w.heap.size ≤ k_) ∧ some k_ ≠ (.slice Ao21 x362000_1.length co21 : Value).ownBlock ∧ k_ ≠ gb361) ho0 (fun k_ hk_ => ⟨Or.elim hk_ (fun hs_ => hs_.1) (fun hn_ => (Nat.le_trans (below_size (bH HB)) hn_)), Or.elim hk_ (fun hs_ => hs_.2.1) (fun hn_ => (Kd.fresh' (Kd.R_lt (rK HO_362000)) k_ hn_)), Or.elim hk_ (fun hs_ => hs_.2.2) (fun hn_ => (Kd.freshB (g := gb361) (o := .cells #[.slice Ao21 x362000_1.length co21, .int .i64 x362001_1, .bool x362002_1, .int .i64 x362003_1, .slice Ao22 x362004_1.length co22, .int .i64 x362005_1] 54 (0, 0)) (bK BK361) k_ hn_))⟩)) (below_size (bH HB))); have n3_ := Aside0.mk (blk_below (g := gb361) (o := .cells #[.slice Ao21 x362000_1.length co21, .int .i64 x362001_1, .bool x362002_1, .int .i64 x362003_1, .slice Ao22 x362004_1.length co22, .int .i64 x362005_1] 54 (0, 0)) (bK BK361) hb); have n4_ := Aside0.mk (below_step (bH HB) hb); clear HO_362000; clear HO_362004; clear BK361; clear HB; have HO_362000 := n0_; have HO_362004 := n1_; have HO375 := n2_; have BK361 := n3_; have HB := n4_; clear n0_ n1_ n2_ n3_ n4_; (try clear hb); (try clear hb2); (try clear hk); (try clear hi); (try clear ho0)))
    go_ret2
    exact ⟨_, by first | rfl | (simp [errW_none, errW_some] <;> rfl) | (simp [*, errW_none, errW_some] <;> rfl), by (with_reducible repeat (first | apply Kd.V_alloc | apply Kd.V_drewN | apply Kd.V_drew)); exact Kd.V_mono HO375.out (fun _ hk => hk.1), bH HB⟩

end Go.Proofs.Ytimdikfllbbdoaa.P
