/- Bytes unwrapped: Unwrap. No condition. Unwrap at a place outside of its bytes. No condition. Bytes unwrapped at any place. No condition. Written for this claim by a program of this session (a turned copy of the print): Go functions as Lean functions, and that the Go code comes to just these answers; or a statement proved out of them. No condition. Split where the count of rows is not to be read. No condition. Rows split: Split. No condition. A mesh of nothing is a surface: Check. No condition. -/
import Derived.Test.YtbdbobjdlomjnaaGreatDoorZ11
import Derived.Test.YtbdbobjdlomjnaaGreatDoorZ2
import Derived.Test.YtbdbobjdlomjnaaGreatDoorZ19
import Derived.Test.YtbdbobjdlomjnaaGreatDoorZ6

namespace Go.Proofs.YtbdbobjdlomjnaaGreatDoor.Ec
set_option linter.unusedVariables false
set_option linter.unusedSimpArgs false
open Go Go.RowKit Go.Proofs.YtbdbobjdlomjnaaGreatDoor.P Go.Proofs.YtbdbobjdlomjnaaGreatDoor.X Go.Proofs.YtbdbobjdlomjnaaGreatDoor.Fv Go.Proofs.YtbdbobjdlomjnaaGreatDoorW.PrintWords Go.Proofs.YtbdbobjdlomjnaaGreatDoorW.PrintLast Go.Proofs.YtbdbobjdlomjnaaGreatDoorW.PrintMore
set_option maxHeartbeats 8000000
set_option maxRecDepth 100000
theorem numV_le {bs : List Int} {a : Nat} {r : Nat × Nat} (ha : a ≤ bs.length) (h : numV bs a = some r) : r.1 ≤ 1048576 ∧ a ≤ r.2 ∧ r.2 ≤ bs.length := by
 unfold numV at h
 split at h
 ·rename_i hc
  cases h
  have := gv_len (bs.drop a) 0 0 (by rw [hc.1]; decide)
  rw [List.length_drop] at this
  exact ⟨hc.2, by simp only; omega, by simp only; omega⟩
 ·cases h
theorem unwV_by (bs : List Int) (a : Nat) (hbl : bs.length ≤ 1048576) : unwV bs a = match numV bs a with
  | none => ([], 0, 11)
  | some r => match numV bs r.2 with
   | none => ([], 0, 11)
   | some s => if s.1 ≤ bs.length - s.2 then (match (if 65536 < r.1 then none else unpackV r.1 ((bs.drop s.2).take s.1)) with
     | some l => (l, ((s.2 + s.1 : Nat) : Int), 0)
     | none => ([], 0, 11)) else ([], 0, 11) := by
 by_cases h1 : (gv (bs.drop a) 0 0).2.2 = 0 ∧ (gv (bs.drop a) 0 0).1 ≤ 1048576
 ·have n1 : numV bs a = some ((gv (bs.drop a) 0 0).1, a + (gv (bs.drop a) 0 0).2.1) := if_pos h1
  by_cases h3 : (gv (bs.drop (a + (gv (bs.drop a) 0 0).2.1)) 0 0).2.2 = 0 ∧ (gv (bs.drop (a + (gv (bs.drop a) 0 0).2.1)) 0 0).1 ≤ 1048576
  ·have n2 : numV bs (a + (gv (bs.drop a) 0 0).2.1) = some ((gv (bs.drop (a + (gv (bs.drop a) 0 0).2.1)) 0 0).1, a + (gv (bs.drop a) 0 0).2.1 + (gv (bs.drop (a + (gv (bs.drop a) 0 0).2.1)) 0 0).2.1) := if_pos h3
   simp only [n1, n2]
   by_cases h5 : (gv (bs.drop (a + (gv (bs.drop a) 0 0).2.1)) 0 0).1 ≤ bs.length - (a + (gv (bs.drop a) 0 0).2.1 + (gv (bs.drop (a + (gv (bs.drop a) 0 0).2.1)) 0 0).2.1)
   ·rw [if_pos h5]
    by_cases h6 : (gv (bs.drop a) 0 0).1 ≤ 65536
    ·rw [if_neg (show ¬ 65536 < (gv (bs.drop a) 0 0).1 by omega)]
     exact if_pos ⟨h1.1, h6, h3.1, h5⟩
    ·rw [if_pos (show 65536 < (gv (bs.drop a) 0 0).1 by omega)]
     exact if_neg (fun h => h6 h.2.1)
   ·rw [if_neg h5]
    exact if_neg (fun h => h5 h.2.2.2)
  ·have n2 : numV bs (a + (gv (bs.drop a) 0 0).2.1) = none := if_neg h3
   simp only [n1, n2]
   refine if_neg (fun h => h3 ⟨h.2.2.1, ?_⟩)
   have := h.2.2.2
   omega
 ·have n1 : numV bs a = none := if_neg h1
  simp only [n1]
  refine if_neg (fun h => h1 ⟨h.1, ?_⟩)
  have := h.2.1
  omega
theorem unwrap_calls (w : World) (A : Option Addr) (c a : Nat) (bs : List Int) (hd : Dg bs) (hbl : bs.length ≤ 1048576) (hc : bs.length ≤ c) (ha : a ≤ bs.length) (hr : Kd.C (Kd.int .u8) w A bs.length bs) :
  Calls Tryz.prog 20 #[.slice A bs.length c, .int .i64 (a : Int)] w fun e w' => ∃ vo, e = .returned (.tuple #[vo, .int .i64 (unwV bs a).2.1, .int .i64 (unwV bs a).2.2]) ∧ Kd.R (Kd.int .u8) 5 w' w.heap.size (fun _ => True) vo (unwV bs a).1 ∧ Below w.heap.size w w' := by
 have hu := Tryz.underlying100
 have hu2 := Tryz.underlying98
 rw [unwV_by bs a hbl]
 have hb1 : Below w.heap.size w (w.alloc (.cells (pc false A bs.length c a) 100)) := below_alloc (Below.refl _ w) _
 have hg1 := heap_alloc_new w (.cells (pc false A bs.length c a) 100)
 have hn1 := num_calls w _ w.heap.size A c a bs hd (by omega) hc ha (Kd.C_below hr hb1) hg1 (Nat.le_refl _) hb1
 have b0 : decide ((a : Int) < 0) = false := decide_eq_false (by omega)
 have b1 : decide ((bs.length : Int) < (a : Int)) = false := decide_eq_false (by omega)
 cases h1 : numV bs a with
 | none =>
  rw [h1] at hn1
  simp only at hn1 ⊢
  go_enter Tryz.func20, Tryz.ntmps20
  go_upto_region 5 with (go_at_call 43; refine hn1.mono ?_; rintro e w2 ⟨⟨rfl, hg2⟩, hp2⟩)
  have hnb := num_bad w w2 w.heap.size A c a bs.length hg2 hp2.b
  have hcb := fun m => cut_bad w w2 w.heap.size A c a bs.length m hg2 (Nat.le_refl _) hp2.b
  go_upto_region 6 with (first | (go_at_call 43; refine hnb.mono ?_; rintro e w3 ⟨rfl, rfl⟩) | (go_at_call 44; refine (hcb _).mono ?_; rintro e w4 ⟨rfl, hg4, hp4⟩))
  have y0 : w4.cell? ⟨w.heap.size, 0, none⟩ = some (.bool true) := (blk_cell hg4 0).trans rfl
  go_wp2
  go_ret3
  exact ⟨_, rfl, Kd.R_nil _ _ _ _ _, hp4.b⟩
 | some r =>
  obtain ⟨q1, q2, q3⟩ := numV_le ha h1
  rw [h1] at hn1
  simp only at hn1 ⊢
  have e1 : w.heap.size ≤ w.heap.size := Nat.le_refl _
  cases h2 : numV bs r.2 with
  | none =>
   simp only
   go_enter Tryz.func20, Tryz.ntmps20
   go_upto_region 5 with (go_at_call 43; refine hn1.mono ?_; rintro e w2 ⟨⟨rfl, hg2⟩, hp2⟩)
   have hn2 := num_calls w w2 w.heap.size A c r.2 bs hd (by omega) hc q3 (Kd.C_below hr hp2.b) hg2 e1 hp2.b
   rw [h2] at hn2
   simp only at hn2
   have hcb := fun m W (B : Below w.heap.size w W) G => cut_bad w W w.heap.size A c r.2 bs.length m G e1 B
   go_upto_region 6 with (first | (go_at_call 43; refine hn2.mono ?_; rintro e w3 ⟨⟨rfl, hg3⟩, hp3⟩) | (go_at_call 44; refine (hcb _ _ hp3.b hg3).mono ?_; rintro e w4 ⟨rfl, hg4, hp4⟩))
   have y0 : w4.cell? ⟨w.heap.size, 0, none⟩ = some (.bool true) := (blk_cell hg4 0).trans rfl
   go_wp2
   go_ret3
   exact ⟨_, rfl, Kd.R_nil _ _ _ _ _, hp4.b⟩
  | some s =>
   obtain ⟨q4, q5, q6⟩ := numV_le q3 h2
   simp only
   by_cases h5 : s.1 ≤ bs.length - s.2
   ·simp only [if_pos h5]
    cases hu : (if 65536 < r.1 then none else unpackV r.1 ((bs.drop s.2).take s.1)) with
    | none =>
     simp only
     go_enter Tryz.func20, Tryz.ntmps20
     go_upto_region 5 with (go_at_call 43; refine hn1.mono ?_; rintro e w2 ⟨⟨rfl, hg2⟩, hp2⟩)
     have hn2 := num_calls w w2 w.heap.size A c r.2 bs hd (by omega) hc q3 (Kd.C_below hr hp2.b) hg2 e1 hp2.b
     rw [h2] at hn2
     simp only at hn2
     have hcc := fun W (B : Below w.heap.size w W) G => cut_calls w W w.heap.size A c s.2 s.1 bs (by omega) hc q6 q4 hr G e1 B
     simp only [if_pos h5] at hcc
     have hdp : Dg ((bs.drop s.2).take s.1) := Dg_take (Dg_drop hd _) _
     have hup := fun (W : World) (A' : Option Addr) (c' : Nat) (hC : Kd.C (Kd.int .u8) W A' ((bs.drop s.2).take s.1).length ((bs.drop s.2).take s.1)) => unpack_calls W r.1 A' c' ((bs.drop s.2).take s.1) q1 hdp (by rw [List.length_take, List.length_drop]; omega) hC
     go_upto_region 6 with (first | (go_at_call 43; refine hn2.mono ?_; rintro e w3 ⟨⟨rfl, hg3⟩, hp3⟩) | (go_at_call 44; refine (hcc _ hp3.b hg3).mono ?_; rintro e w4 ⟨⟨A4, c4, rfl, hC4, hl4, hg4⟩, hp4⟩))
     have y0 : w4.cell? ⟨w.heap.size, 0, none⟩ = some (.bool false) := (blk_cell hg4 0).trans rfl
     have hup4 := hup w4 A4 c4 hC4
     have hPl : ((bs.drop s.2).take s.1).length = s.1 := by rw [List.length_take, List.length_drop]; omega
     rw [hPl] at hup4
     clear hup hcc hn2 hPl
     rw [hu] at hup4
     generalize (bs.drop s.2).take s.1 = P at *
     go_wp2_with (go_at_call 52; refine hup4.mono ?_; rintro e w5 ⟨⟨c5, rfl, hc5⟩, hb5⟩; have b5 : (c5 != 0) = true := by simp [hc5])
     go_ret3
     exact ⟨_, rfl, Kd.R_nil _ _ _ _ _, below_step hp4.b hb5⟩
    | some l =>
     simp only
     go_enter Tryz.func20, Tryz.ntmps20
     go_upto_region 5 with (go_at_call 43; refine hn1.mono ?_; rintro e w2 ⟨⟨rfl, hg2⟩, hp2⟩)
     have hn2 := num_calls w w2 w.heap.size A c r.2 bs hd (by omega) hc q3 (Kd.C_below hr hp2.b) hg2 e1 hp2.b
     rw [h2] at hn2
     simp only at hn2
     have hcc := fun W (B : Below w.heap.size w W) G => cut_calls w W w.heap.size A c s.2 s.1 bs (by omega) hc q6 q4 hr G e1 B
     simp only [if_pos h5] at hcc
     have hdp : Dg ((bs.drop s.2).take s.1) := Dg_take (Dg_drop hd _) _
     have hup := fun (W : World) (A' : Option Addr) (c' : Nat) (hC : Kd.C (Kd.int .u8) W A' ((bs.drop s.2).take s.1).length ((bs.drop s.2).take s.1)) => unpack_calls W r.1 A' c' ((bs.drop s.2).take s.1) q1 hdp (by rw [List.length_take, List.length_drop]; omega) hC
     go_upto_region 6 with (first | (go_at_call 43; refine hn2.mono ?_; rintro e w3 ⟨⟨rfl, hg3⟩, hp3⟩) | (go_at_call 44; refine (hcc _ hp3.b hg3).mono ?_; rintro e w4 ⟨⟨A4, c4, rfl, hC4, hl4, hg4⟩, hp4⟩))
     have y0 : w4.cell? ⟨w.heap.size, 0, none⟩ = some (.bool false) := (blk_cell hg4 0).trans rfl
     have hup4 := hup w4 A4 c4 hC4
     have hPl : ((bs.drop s.2).take s.1).length = s.1 := by rw [List.length_take, List.length_drop]; omega
     rw [hPl] at hup4
     clear hup hcc hn2 hPl
     rw [hu] at hup4
     generalize (bs.drop s.2).take s.1 = P at *
     go_upto_region 11 with (go_at_call 52; refine hup4.mono ?_; rintro e w5 ⟨⟨v5, rfl, hR5⟩, hb5⟩)
     have hg5 := blk_below hg4 hb5
     have y2 : w5.cell? ⟨w.heap.size, 2, none⟩ = some (.int .i64 ((s.2 + s.1 : Nat) : Int)) := (blk_cell hg5 2).trans rfl
     repeat (go_quiet (fail); try go_wp2)
     go_ret3
     refine ⟨v5, rfl, ?_, ?_⟩
     ·exact Kd.R_lower (Kd.R_drewN hR5 _) hp4.b.size
     ·exact pw_below_drewN (below_step hp4.b hb5) _
   ·simp only [if_neg h5]
    go_enter Tryz.func20, Tryz.ntmps20
    go_upto_region 5 with (go_at_call 43; refine hn1.mono ?_; rintro e w2 ⟨⟨rfl, hg2⟩, hp2⟩)
    have hn2 := num_calls w w2 w.heap.size A c r.2 bs hd (by omega) hc q3 (Kd.C_below hr hp2.b) hg2 e1 hp2.b
    rw [h2] at hn2
    simp only at hn2
    have hcc := fun W (B : Below w.heap.size w W) G => cut_calls w W w.heap.size A c s.2 s.1 bs (by omega) hc q6 q4 hr G e1 B
    simp only [if_neg h5] at hcc
    go_upto_region 6 with (first | (go_at_call 43; refine hn2.mono ?_; rintro e w3 ⟨⟨rfl, hg3⟩, hp3⟩) | (go_at_call 44; refine (hcc _ hp3.b hg3).mono ?_; rintro e w4 ⟨⟨rfl, hg4⟩, hp4⟩))
    have y0 : w4.cell? ⟨w.heap.size, 0, none⟩ = some (.bool true) := (blk_cell hg4 0).trans rfl
    go_wp2
    go_ret3
    exact ⟨_, rfl, Kd.R_nil _ _ _ _ _, hp4.b⟩

theorem unwrap_out (w : World) (A : Option Addr) (c n : Nat) (a : Int) (h : a < 0 ∨ (n : Int) < a) :
  Calls Tryz.prog 20 #[.slice A n c, .int .i64 a] w fun e w' => e = .returned (.tuple #[.slice none 0 0, .int .i64 0, .int .i64 2]) ∧ w' = w := by
 by_cases h0 : a < 0
 ·have b0 : decide (a < 0) = true := decide_eq_true h0
  go_enter Tryz.func20, Tryz.ntmps20
  go_wp2
  go_ret3
  exact ⟨rfl, rfl⟩
 ·have b0 : decide (a < 0) = false := decide_eq_false h0
  have b1 : decide ((n : Int) < a) = true := decide_eq_true (by omega)
  go_enter Tryz.func20, Tryz.ntmps20
  go_wp2
  go_ret3
  exact ⟨rfl, rfl⟩
end Go.Proofs.YtbdbobjdlomjnaaGreatDoor.Ec

namespace Go.Proofs.YtbdbobjdlomjnaaGreatDoor.Ec
set_option linter.unusedVariables false
set_option linter.unusedSimpArgs false
open Go Go.RowKit Go.Proofs.YtbdbobjdlomjnaaGreatDoor.P Go.Proofs.YtbdbobjdlomjnaaGreatDoor.X Go.Proofs.YtbdbobjdlomjnaaGreatDoor.Fv Go.Proofs.YtbdbobjdlomjnaaGreatDoorW.PrintWords Go.Proofs.YtbdbobjdlomjnaaGreatDoorW.PrintLast Go.Proofs.YtbdbobjdlomjnaaGreatDoorW.PrintMore
def unwF (b : List Int) (a : Int) : List Int × Int × Int := if a < 0 ∨ (b.length : Int) < a then ([], 0, 2) else unwV b a.toNat
theorem unwF_nat (b : List Int) (a : Nat) (h : a ≤ b.length) : unwF b (a : Int) = unwV b a := by
 unfold unwF
 rw [if_neg (by omega), Int.toNat_natCast]
theorem unwrapF_calls (w : World) (A : Option Addr) (c : Nat) (a : Int) (bs : List Int) (hd : Dg bs) (hbl : bs.length ≤ 1048576) (hc : bs.length ≤ c) (hr : Kd.C (Kd.int .u8) w A bs.length bs) :
  Calls Tryz.prog 20 #[.slice A bs.length c, .int .i64 a] w fun e w' => ∃ vo, e = .returned (.tuple #[vo, .int .i64 (unwF bs a).2.1, .int .i64 (unwF bs a).2.2]) ∧ Kd.R (Kd.int .u8) 5 w' w.heap.size (fun _ => True) vo (unwF bs a).1 ∧ Below w.heap.size w w' := by
 unfold unwF
 by_cases h : a < 0 ∨ (bs.length : Int) < a
 ·rw [if_pos h]
  refine (unwrap_out w A c bs.length a h).mono ?_
  rintro e w' ⟨rfl, rfl⟩
  exact ⟨_, rfl, Kd.R_nil _ _ _ _ _, Below.refl _ _⟩
 ·rw [if_neg h]
  obtain ⟨n, rfl⟩ : ∃ n : Nat, a = (n : Int) := ⟨a.toNat, by omega⟩
  rw [Int.toNat_natCast]
  exact unwrap_calls w A c n bs hd hbl hc (by omega) hr
end Go.Proofs.YtbdbobjdlomjnaaGreatDoor.Ec

namespace Go.Proofs.YtbdbobjdlomjnaaGreatDoor.P
open Go.RowKit Go.Proofs.YtbdbobjdlomjnaaGreatDoorW.PrintWords Go.Proofs.YtbdbobjdlomjnaaGreatDoorW.PrintLast Go.Proofs.YtbdbobjdlomjnaaGreatDoorW.PrintMore Go.Proofs.YtbdbobjdlomjnaaGreatDoor.X
attribute [local go_sem] max2_int min2_int max_two min_two max_three min_three max_four min_four add64_0 add64_1 add64
set_option linter.unusedVariables false
set_option linter.unusedSimpArgs false
def parts_Unwrap.f (l0 : List Int) (a1 : Int) : Option (List Int × Int × Int) := if (∀ x ∈ l0, 0 ≤ x ∧ x ≤ 255) ∧ l0.length ≤ 1048576 then (some ((Ec.unwF l0 a1).1, (Ec.unwF l0 a1).2.1, (Ec.unwF l0 a1).2.2)) else (none)
set_option maxHeartbeats 8000000 in
set_option maxRecDepth 100000 in
theorem parts_Unwrap.calls (A0 : Option Addr) (c0 : Nat) (l0 : List Int) (a1 : Int) (r1 : List Int) (r2 : Int) (r3 : Int) (w : World) (hr0 : Kd.C (Kd.int .u8) w A0 l0.length l0) (hc0 : l0.length ≤ c0) (h : parts_Unwrap.f l0 a1 = some (r1, r2, r3)) :
  Calls Tryz.prog 20 #[.slice A0 l0.length c0, .int .i64 a1] w fun e w' => ∃ v0_ : Value, e = .returned (.tuple #[v0_, .int .i64 r2, .int .i64 r3]) ∧ Kd.R (Kd.int .u8) 5 w' w.heap.size (fun _ => True) v0_ r1 ∧ Below w.heap.size w w' := by
 unfold parts_Unwrap.f at h
 by_cases hl : (∀ x ∈ l0, 0 ≤ x ∧ x ≤ 255) ∧ l0.length ≤ 1048576
 ·rw [if_pos hl] at h
  simp only [Option.some.injEq, Prod.mk.injEq] at h
  obtain ⟨rfl, rfl, rfl⟩ := h
  exact Ec.unwrapF_calls w A0 c0 a1 l0 hl.1 hl.2 hc0 hr0
 ·rw [if_neg hl] at h; cases h
end Go.Proofs.YtbdbobjdlomjnaaGreatDoor.P

namespace Go.Proofs.YtbdbobjdlomjnaaGreatDoor.Ec
set_option linter.unusedVariables false
set_option linter.unusedSimpArgs false
open Go Go.RowKit Go.Proofs.YtbdbobjdlomjnaaGreatDoor.P Go.Proofs.YtbdbobjdlomjnaaGreatDoor.X Go.Proofs.YtbdbobjdlomjnaaGreatDoor.Fv Go.Proofs.YtbdbobjdlomjnaaGreatDoorW.PrintWords Go.Proofs.YtbdbobjdlomjnaaGreatDoorW.PrintLast Go.Proofs.YtbdbobjdlomjnaaGreatDoorW.PrintMore
set_option maxHeartbeats 8000000
set_option maxRecDepth 100000
theorem split_bad (w : World) (A : Option Addr) (c : Nat) (bs : List Int) (hd : Dg bs) (hbl : bs.length ≤ 1048576) (hc : bs.length ≤ c) (hr : Kd.C (Kd.int .u8) w A bs.length bs) (h1 : numV bs 0 = none) :
  Calls Tryz.prog 22 #[.slice A bs.length c] w fun e w' => e = .returned (.tuple #[.slice none 0 0, .int .i64 11]) ∧ Below w.heap.size w w' := by
 have hu := Tryz.underlying100
 have hu2 := Tryz.underlying98
 have hb1 : Below w.heap.size w (w.alloc (.cells #[.bool false, .slice A bs.length c, .int .i64 0] 100)) := below_alloc (Below.refl _ w) _
 have hg1 := heap_alloc_new w (.cells #[.bool false, .slice A bs.length c, .int .i64 0] 100)
 have hn1 := num_calls w _ w.heap.size A c 0 bs hd (by omega) hc (Nat.zero_le _) (Kd.C_below hr hb1) hg1 (Nat.le_refl _) hb1
 rw [h1] at hn1
 simp only at hn1
 go_enter Tryz.func22, Tryz.ntmps22
 go_wp2_with (first | (go_at_call 43; refine hn1.mono ?_; rintro e w2 ⟨⟨rfl, hg2⟩, hp2⟩; have y0 : w2.cell? ⟨w.heap.size, 0, none⟩ = some (.bool true) := (blk_cell hg2 0).trans rfl) | go_step3)
 first | rw [Exit.noGoto_ret] | skip
 go_ret2
 exact ⟨rfl, hp2.b⟩
theorem split_over (w : World) (A : Option Addr) (c : Nat) (bs : List Int) (r : Nat × Nat) (hd : Dg bs) (hbl : bs.length ≤ 1048576) (hc : bs.length ≤ c) (hr : Kd.C (Kd.int .u8) w A bs.length bs) (h1 : numV bs 0 = some r) (hm : 50 < r.1) :
  Calls Tryz.prog 22 #[.slice A bs.length c] w fun e w' => e = .returned (.tuple #[.slice none 0 0, .int .i64 11]) ∧ Below w.heap.size w w' := by
 have hu := Tryz.underlying100
 have hu2 := Tryz.underlying98
 obtain ⟨q1, q2, q3⟩ := numV_le (Nat.zero_le _) h1
 have hb1 : Below w.heap.size w (w.alloc (.cells #[.bool false, .slice A bs.length c, .int .i64 0] 100)) := below_alloc (Below.refl _ w) _
 have hg1 := heap_alloc_new w (.cells #[.bool false, .slice A bs.length c, .int .i64 0] 100)
 have hn1 := num_calls w _ w.heap.size A c 0 bs hd (by omega) hc (Nat.zero_le _) (Kd.C_below hr hb1) hg1 (Nat.le_refl _) hb1
 rw [h1] at hn1
 simp only at hn1
 have b2 : decide ((50 : Int) < (r.1 : Int)) = true := decide_eq_true (by omega)
 go_enter Tryz.func22, Tryz.ntmps22
 go_wp2_with (first | (go_at_call 43; refine hn1.mono ?_; rintro e w2 ⟨⟨rfl, hg2⟩, hp2⟩; have y0 : w2.cell? ⟨w.heap.size, 0, none⟩ = some (.bool false) := (blk_cell hg2 0).trans rfl) | go_step3)
 first | rw [Exit.noGoto_ret] | skip
 go_ret2
 exact ⟨rfl, hp2.b⟩

abbrev kBB : Kd (List Int) := Kd.slice 5 (Kd.int .u8)
theorem info_row : (Tryz.prog.info? 26).map (fun i => (i.zero, i.size, i.bytes)) = some (some (.slice none 0 0), 1, 24) := by kernel_rfl
theorem unwV_le (bs : List Int) (a : Nat) (hbl : bs.length ≤ 1048576) (ha : a ≤ bs.length) : (unwV bs a).2.2 = 0 ∧ (∃ k : Nat, k ≤ bs.length ∧ (unwV bs a).2.1 = (k : Int)) ∨ unwV bs a = ([], 0, 11) := by
 rw [unwV_by bs a hbl]
 cases h1 : numV bs a with
 | none => exact .inr rfl
 | some r =>
  obtain ⟨q1, q2, q3⟩ := numV_le ha h1
  simp only
  cases h2 : numV bs r.2 with
  | none => exact .inr rfl
  | some s =>
   obtain ⟨q4, q5, q6⟩ := numV_le q3 h2
   simp only
   split
   ·split
    ·exact .inl ⟨rfl, s.2 + s.1, by omega, rfl⟩
    ·exact .inr rfl
   ·exact .inr rfl
theorem unwV_dg (bs : List Int) (a : Nat) (hd : Dg bs) : Dg (unwV bs a).1 := by
 unfold unwV
 split
 ·split
  ·rename_i l h
   exact In_dg.1 ((unpackV_iff (Dg_take (Dg_drop hd _) _)).1 h).2.1
  ·exact fun _ h => absurd h List.not_mem_nil
 ·exact fun _ h => absurd h List.not_mem_nil
theorem splitV_by (bs : List Int) : splitV bs = match numV bs 0 with
  | none => ([], 11)
  | some r => if 50 < r.1 then ([], 11) else match rowsV bs r.1 r.2 with
   | some t => if t.2 = bs.length then (t.1, 0) else ([], 11)
   | none => ([], 11) := by
 unfold splitV numV
 rw [List.drop_zero]
 by_cases h : (gv bs 0 0).2.2 = 0 ∧ (gv bs 0 0).1 ≤ 50
 ·rw [if_pos h, if_pos ⟨h.1, by omega⟩]
  simp only [if_neg (show ¬ 50 < (gv bs 0 0).1 by omega), Nat.zero_add]
  rfl
 ·rw [if_neg h]
  by_cases h2 : (gv bs 0 0).2.2 = 0 ∧ (gv bs 0 0).1 ≤ 1048576
  ·rw [if_pos h2]
   simp only [if_pos (show 50 < (gv bs 0 0).1 by omega)]
  ·rw [if_neg h2]
theorem split_calls (w : World) (A : Option Addr) (c : Nat) (bs : List Int) (hd : Dg bs) (hbl : bs.length ≤ 1048576) (hc : bs.length ≤ c) (hr : Kd.C (Kd.int .u8) w A bs.length bs) :
  Calls Tryz.prog 22 #[.slice A bs.length c] w fun e w' => ∃ vo, e = .returned (.tuple #[vo, .int .i64 (splitV bs).2]) ∧ Kd.S kBB 26 w' w.heap.size (fun _ => True) vo (splitV bs).1 ∧ Below w.heap.size w w' := by
 have hsb := splitV_by bs
 cases h1 : numV bs 0 with
 | none =>
  rw [h1] at hsb
  simp only at hsb
  rw [hsb]
  refine (split_bad w A c bs hd hbl hc hr h1).mono ?_
  rintro e w' ⟨rfl, hb⟩
  exact ⟨_, rfl, Kd.S_nil _ _ _ _ _, hb⟩
 | some r =>
  rw [h1] at hsb
  simp only at hsb
  by_cases hm : 50 < r.1
  ·rw [if_pos hm] at hsb
   rw [hsb]
   refine (split_over w A c bs r hd hbl hc hr h1 hm).mono ?_
   rintro e w' ⟨rfl, hb⟩
   exact ⟨_, rfl, Kd.S_nil _ _ _ _ _, hb⟩
  ·rw [if_neg hm] at hsb
   have HSB := Aside0.mk hsb
   clear hsb
   have hu := Tryz.underlying100
   have hu2 := Tryz.underlying98
   obtain ⟨q1, q2, q3⟩ := numV_le (Nat.zero_le _) h1
   have hb1 : Below w.heap.size w (w.alloc (.cells #[.bool false, .slice A bs.length c, .int .i64 0] 100)) := below_alloc (Below.refl _ w) _
   have hg1 := heap_alloc_new w (.cells #[.bool false, .slice A bs.length c, .int .i64 0] 100)
   have hn1 := num_calls w _ w.heap.size A c 0 bs hd (by omega) hc (Nat.zero_le _) (Kd.C_below hr hb1) hg1 (Nat.le_refl _) hb1
   rw [h1] at hn1
   simp only at hn1
   have b2 : decide ((50 : Int) < (r.1 : Int)) = false := decide_eq_false (by omega)
   obtain ⟨rn, ra⟩ := r
   simp only at q1 q2 q3 hm b2 HSB hn1
   go_enter Tryz.func22, Tryz.ntmps22
   go_upto_region 3 with (first | (go_at_call 43; refine hn1.mono ?_; rintro e w2 ⟨⟨rfl, hg2⟩, hp2⟩) | go_step3)
   have hB2 := hp2.b
   have y0 : w2.cell? ⟨w.heap.size, 0, none⟩ = some (.bool false) := (blk_cell hg2 0).trans rfl
   have y2 : w2.cell? ⟨w.heap.size, 2, none⟩ = some (.int .i64 (ra : Int)) := (blk_cell hg2 2).trans rfl
   clear hn1 hb1 hg1 h1 hp2 hg2
   go_wp2_with (go_step3)
   go_loopw [6, 7, 30] (fun v6 v7 v wr => ∃ (i : Nat) (pre : List (List Int)) (a : Nat), i ≤ rn ∧ v = .int .i64 i ∧ v7 = .int .i64 a ∧ a ≤ bs.length ∧ Aside0 (pre.length = i) ∧ Aside0 (rowsV bs rn ra = (rowsV bs (rn - i) a).map fun t => (pre ++ t.1, t.2)) ∧ Kd.S kBB 26 wr w.heap.size (fun _ => True) v6 pre ∧ Below w.heap.size w wr) (fun _ _ v _ => rn - (intV v).toNat)
   case atStart => exact ⟨0, [], ra, by omega, rfl, rfl, q3, ⟨rfl⟩, ⟨by rw [Nat.sub_zero]; cases rowsV bs rn ra <;> simp⟩, Kd.S_nil _ _ _ _ _, hB2⟩
   case round =>
    clear hB2
    obtain ⟨i, pre, a, hi, rfl, rfl, ha, HP, HD, hS, hBr⟩ := hrel
    rcases Nat.lt_or_ge i rn with hlt | hge
    ·have hii : (i : Int) < (rn : Int) := by omega
     have hun := unwrap_calls wr A c a bs hd hbl hc ha (Kd.C_below hr hBr)
     obtain ⟨m, hm'⟩ : ∃ m, rn - i = m + 1 := ⟨rn - i - 1, by omega⟩
     have HM := Aside0.mk hm'
     clear hm'
     rcases unwV_le bs a hbl ha with ⟨he, k, hk, hke⟩ | he
     ·rw [he, hke] at hun
      have HD' : Aside0 (rowsV bs rn ra = (rowsV bs (rn - (i + 1)) k).map fun t => (pre ++ [(unwV bs a).1] ++ t.1, t.2)) := ⟨by
       rw [HD.out, HM.out, rowsV, if_pos he, hke, Int.toNat_natCast, show rn - (i + 1) = m by have := HM.out; omega]
       cases rowsV bs m k <;> simp⟩
      clear he hke
      generalize (unwV bs a).1 = x at *
      have hlk : (pre.length + 1) * 24 ≤ 140737488355328 := by rw [HP.out]; omega
      go_upto_region 10 with (first | (go_at_call 20; refine hun.mono ?_; rintro e w5 ⟨vx, rfl, hRx, hb5⟩; obtain ⟨Ax, cx, rfl⟩ := Kd.R_slice hRx) | go_step3)
      have hS5 := Kd.S_elder' hS (Kd.R_base hRx) hb5
      have hR5 := Kd.R_lower hRx hBr.size
      have hB5 := below_step hBr hb5
      clear hun hRx hb5 hS hBr
      go_wp2_with (first | ((with_reducible refine gate_builtin (b := .append) (xs := #[.tmp 41, .tmp 43]) rfl ?_); at_builtin; refine Kd.S_append kBB (w0 := w) w.heap.size rfl (.tmp 41) (.tmp 43) 41 26 (.slice none 0 0) 24 rfl Tryz.underlying41 info_row rfl (by decide) (by omega) _ pre x [.slice Ax x.length cx] (fun _ => True) (fun k_ => some k_ = (.slice Ax x.length cx : Value).ownBlock) rfl rfl ?aP (fun k_ hk_ => ⟨trivial, ((Kd.R_apart' hR5 (Kd.S_typed hS5) (by decide)).1 k_ hk_.symm).2⟩) ?aF ?aO ?aB ?aS ?aL ?_; (case aP => exact Kd.M_row (Kd.R_mono (Kd.R_tight rfl hR5) (fun _ h_ => h_))); (case aF => exact fun _ _ => trivial); (case aO => exact Kd.S_mono hS5 (fun k_ hk => ⟨trivial, fun e_ => hk.2 e_⟩)); (case aB => exact hB5); (case aS => exact hB5.size); (case aL => exact hlk); intro v8 w8 hS8 hb8 hg8 hat8) | go_step3)
      go_roundw
      case rel => exact ⟨i + 1, pre ++ [x], k, by omega, rfl, rfl, hk, ⟨by rw [List.length_append, HP.out]; rfl⟩, HD', hS8, hb8⟩
      case measure => simp [intV]; omega
     ·have hnone : rowsV bs rn ra = none := by rw [HD.out, HM.out, rowsV, he]; rfl
      rw [hnone] at HSB
      rw [he] at hun
      have b7 : ((-1 : Int) != (bs.length : Int)) = true := bne_iff_ne.2 (by omega)
      clear hnone he
      go_wp2_with (first | (go_at_call 20; refine hun.mono ?_; rintro e w5 ⟨vx, rfl, hRx, hb5⟩; obtain ⟨Ax, cx, rfl⟩ := Kd.R_slice hRx) | go_step3)
      first | rw [Exit.noGoto_ret] | skip
      go_ret2
      rw [HSB.out]
      exact ⟨_, rfl, Kd.S_nil _ _ _ _ _, below_step hBr hb5⟩
    ·obtain rfl : rn = i := by omega
     have hfin : rowsV bs rn ra = some (pre, a) := by rw [HD.out, Nat.sub_self, rowsV]; simp
     rw [hfin] at HSB
     clear hfin HD
     by_cases hq : a = bs.length
     ·have b7 : ((a : Int) != (bs.length : Int)) = false := by simp [hq]
      have HQ := Aside0.mk hq
      clear hq
      go_wp2_with (go_step3)
      first | rw [Exit.noGoto_ret] | skip
      go_ret2
      rw [HSB.out]
      simp only [if_pos HQ.out]
      exact ⟨_, rfl, hS, hBr⟩
     ·have b7 : ((a : Int) != (bs.length : Int)) = true := bne_iff_ne.2 (by omega)
      have HQ := Aside0.mk hq
      clear hq
      go_wp2_with (go_step3)
      first | rw [Exit.noGoto_ret] | skip
      go_ret2
      rw [HSB.out]
      simp only [if_neg HQ.out]
      exact ⟨_, rfl, Kd.S_nil _ _ _ _ _, hBr⟩
end Go.Proofs.YtbdbobjdlomjnaaGreatDoor.Ec

namespace Go.Proofs.YtbdbobjdlomjnaaGreatDoor.P
open Go.RowKit Go.Proofs.YtbdbobjdlomjnaaGreatDoorW.PrintWords Go.Proofs.YtbdbobjdlomjnaaGreatDoorW.PrintLast Go.Proofs.YtbdbobjdlomjnaaGreatDoorW.PrintMore Go.Proofs.YtbdbobjdlomjnaaGreatDoor.X
attribute [local go_sem] max2_int min2_int max_two min_two max_three min_three max_four min_four add64_0 add64_1 add64
set_option linter.unusedVariables false
set_option linter.unusedSimpArgs false
def parts_Split.f (l0 : List Int) : Option ((List (List Int)) × Int) := if (∀ x ∈ l0, 0 ≤ x ∧ x ≤ 255) ∧ l0.length ≤ 1048576 then (some ((Ec.splitV l0).1, (Ec.splitV l0).2)) else (none)
set_option maxHeartbeats 8000000 in
set_option maxRecDepth 100000 in
theorem parts_Split.calls (A0 : Option Addr) (c0 : Nat) (l0 : List Int) (r1 : List (List Int)) (r2 : Int) (w : World) (hr0 : Kd.C (Kd.int .u8) w A0 l0.length l0) (hc0 : l0.length ≤ c0) (h : parts_Split.f l0 = some (r1, r2)) :
  Calls Tryz.prog 22 #[.slice A0 l0.length c0] w fun e w' => ∃ v0_ : Value, e = .returned (.tuple #[v0_, .int .i64 r2]) ∧ Kd.S (Kd.slice 5 (Kd.int .u8)) 26 w' w.heap.size (fun _ => True) v0_ r1 ∧ Below w.heap.size w w' := by
 unfold parts_Split.f at h
 by_cases hl : (∀ x ∈ l0, 0 ≤ x ∧ x ≤ 255) ∧ l0.length ≤ 1048576
 ·rw [if_pos hl] at h
  simp only [Option.some.injEq, Prod.mk.injEq] at h
  obtain ⟨rfl, rfl⟩ := h
  exact Ec.split_calls w A0 c0 l0 hl.1 hl.2 hc0 hr0
 ·rw [if_neg hl] at h; cases h
end Go.Proofs.YtbdbobjdlomjnaaGreatDoor.P

namespace Go.Proofs.YtbdbobjdlomjnaaGreatDoor.Ec
set_option linter.unusedVariables false
set_option linter.unusedSimpArgs false
open Go Go.RowKit Go.Proofs.YtbdbobjdlomjnaaGreatDoor.P Go.Proofs.YtbdbobjdlomjnaaGreatDoor.X Go.Proofs.YtbdbobjdlomjnaaGreatDoorW.PrintWords Go.Proofs.YtbdbobjdlomjnaaGreatDoorW.PrintLast Go.Proofs.YtbdbobjdlomjnaaGreatDoorW.PrintMore
set_option maxHeartbeats 8000000
set_option maxRecDepth 100000
theorem plain0_calls (w : World) :
  Calls Tryz.prog 194 #[.agg #[.slice none 0 0, .slice none 0 0]] w fun e w' => e = .returned (.bool true) ∧ Below w.heap.size w w' := by
 have hu := Tryz.underlying25
 go_enter Tryz.func194, Tryz.ntmps194
 go_upto_region 1 with (fail)
 have hb : Below w.heap.size w (w.alloc (.cells #[.slice none 0 0, .slice none 0 0] 25)) := below_alloc (Below.refl _ w) _
 have hg := heap_alloc_new w (.cells #[.slice none 0 0, .slice none 0 0] 25)
 generalize w.alloc (.cells #[.slice none 0 0, .slice none 0 0] 25) = w1 at hb hg ⊢
 have y0 : w1.cell? ⟨w.heap.size, 0, none⟩ = some (.slice none 0 0) := (blk_cell hg 0).trans rfl
 have y1 : w1.cell? ⟨w.heap.size, 1, none⟩ = some (.slice none 0 0) := (blk_cell hg 1).trans rfl
 go_wp2
 go_loopw [12] (fun v wr => v = .int .i64 0 ∧ w1 = wr) (fun _ _ => 0)
 case atStart => exact ⟨rfl, rfl⟩
 case round =>
  obtain ⟨rfl, rfl⟩ := hrel
  go_wp2
  go_loopw [36] (fun v wr => v = .int .i64 0 ∧ w1 = wr) (fun _ _ => 0)
  case atStart => exact ⟨rfl, rfl⟩
  case round =>
   obtain ⟨rfl, rfl⟩ := hrel
   go_wp2
   go_ret
   exact ⟨rfl, hb⟩
theorem table0_calls (w : World) :
  Calls Tryz.prog 195 #[.agg #[.slice none 0 0, .slice none 0 0]] w fun e w' => (∃ m, e = .returned (.tuple #[.map m, .bool true])) ∧ Below w.heap.size w w' := by
 have hu := Tryz.underlying25
 have hmm := @run_makeMap Tryz.prog
 go_enter Tryz.func195, Tryz.ntmps195
 go_upto_region 1 with (fail)
 have hb : Below w.heap.size w (w.alloc (.cells #[.slice none 0 0, .slice none 0 0] 25)) := below_alloc (Below.refl _ w) _
 have hg := heap_alloc_new w (.cells #[.slice none 0 0, .slice none 0 0] 25)
 generalize w.alloc (.cells #[.slice none 0 0, .slice none 0 0] 25) = w1 at hb hg ⊢
 have y0 : w1.cell? ⟨w.heap.size, 0, none⟩ = some (.slice none 0 0) := (blk_cell hg 0).trans rfl
 have y1 : w1.cell? ⟨w.heap.size, 1, none⟩ = some (.slice none 0 0) := (blk_cell hg 1).trans rfl
 go_upto_region 2 with (fail)
 have hb2 : Below w.heap.size w (w1.alloc (.map #[] 0)) := below_alloc hb _
 have hg2 := blk_alloc hg (.map #[] 0)
 generalize w1.alloc (.map #[] 0) = w2 at hb2 hg2 ⊢
 clear y0 y1
 have y1 : w2.cell? ⟨w.heap.size, 1, none⟩ = some (.slice none 0 0) := (blk_cell hg2 1).trans rfl
 go_wp2
 go_loopw [15] (fun v wr => v = .int .i64 0 ∧ w2 = wr) (fun _ _ => 0)
 case atStart => exact ⟨rfl, rfl⟩
 case round =>
  obtain ⟨rfl, rfl⟩ := hrel
  go_wp2
  go_ret2
  exact ⟨⟨_, rfl⟩, hb2⟩
theorem fans0_calls (w : World) (m : Option Nat) :
  Calls Tryz.prog 196 #[.agg #[.slice none 0 0, .slice none 0 0], .map m] w fun e w' => e = .returned (.bool true) ∧ Below w.heap.size w w' := by
 have hu := Tryz.underlying25
 have hmk := print_make (P := Tryz.prog) 83 3 .i64 8 Tryz.underlying83 (by kernel_rfl) (by decide) 0 (by omega)
 rw [show ((0 : Nat) : Int) = 0 from rfl] at hmk
 go_enter Tryz.func196, Tryz.ntmps196
 go_upto_region 1 with (fail)
 have hb : Below w.heap.size w (w.alloc (.cells #[.slice none 0 0, .slice none 0 0] 25)) := below_alloc (Below.refl _ w) _
 have hg := heap_alloc_new w (.cells #[.slice none 0 0, .slice none 0 0] 25)
 generalize w.alloc (.cells #[.slice none 0 0, .slice none 0 0] 25) = w1 at hb hg ⊢
 have y0 : w1.cell? ⟨w.heap.size, 0, none⟩ = some (.slice none 0 0) := (blk_cell hg 0).trans rfl
 have y1 : w1.cell? ⟨w.heap.size, 1, none⟩ = some (.slice none 0 0) := (blk_cell hg 1).trans rfl
 go_upto_region 2 with (fail)
 have hb2 : Below w.heap.size w (w1.alloc (.cells (madeCells #[.int .i64 0] 0) 3)) := below_alloc hb _
 have hg2 := blk_alloc hg (.cells (madeCells #[.int .i64 0] 0) 3)
 generalize w1.alloc (.cells (madeCells #[.int .i64 0] 0) 3) = w2 at hb2 hg2 ⊢
 generalize w1.heap.size = g1
 clear y0 y1
 have y0 : w2.cell? ⟨w.heap.size, 0, none⟩ = some (.slice none 0 0) := (blk_cell hg2 0).trans rfl
 go_upto_region 3 with (fail)
 have hb3 : Below w.heap.size w (w2.alloc (.cells (madeCells #[.int .i64 0] 0) 3)) := below_alloc hb2 _
 have hg3 := blk_alloc hg2 (.cells (madeCells #[.int .i64 0] 0) 3)
 generalize w2.alloc (.cells (madeCells #[.int .i64 0] 0) 3) = w3 at hb3 hg3 ⊢
 generalize w2.heap.size = g2
 clear y0
 have y1 : w3.cell? ⟨w.heap.size, 1, none⟩ = some (.slice none 0 0) := (blk_cell hg3 1).trans rfl
 go_wp2
 go_loopw [24] (fun v wr => v = .int .i64 0 ∧ w3 = wr) (fun _ _ => 0)
 case atStart => exact ⟨rfl, rfl⟩
 case round =>
  obtain ⟨rfl, rfl⟩ := hrel
  go_wp2
  go_loopw [47] (fun v wr => v = .int .i64 0 ∧ w3 = wr) (fun _ _ => 0)
  case atStart => exact ⟨rfl, rfl⟩
  case round =>
   obtain ⟨rfl, rfl⟩ := hrel
   go_wp2
   go_ret
   exact ⟨rfl, hb3⟩
theorem check0_calls (w : World) :
  Calls Tryz.prog 143 #[.agg #[.slice none 0 0, .slice none 0 0]] w fun e w' => e = .returned (.int .i64 0) ∧ Below w.heap.size w w' := by
 have hu := Tryz.underlying25
 have hp := fun W => plain0_calls W
 have ht := fun W => table0_calls W
 have hf := fun W m => fans0_calls W m
 go_enter Tryz.func143, Tryz.ntmps143
 go_upto_region 1 with (fail)
 have hb : Below w.heap.size w (w.alloc (.cells #[.slice none 0 0, .slice none 0 0] 25)) := below_alloc (Below.refl _ w) _
 have hg := heap_alloc_new w (.cells #[.slice none 0 0, .slice none 0 0] 25)
 generalize w.alloc (.cells #[.slice none 0 0, .slice none 0 0] 25) = w1 at hb hg ⊢
 have y0 : w1.cell? ⟨w.heap.size, 0, none⟩ = some (.slice none 0 0) := (blk_cell hg 0).trans rfl
 have y1 : w1.cell? ⟨w.heap.size, 1, none⟩ = some (.slice none 0 0) := (blk_cell hg 1).trans rfl
 go_upto_region 5 with (go_at_call 194; refine (hp _).mono ?_; rintro e w2 ⟨rfl, hb2⟩)
 have hB2 := below_step hb hb2
 have hg2 := blk_below hg hb2
 clear y0 y1 hb2 hg hb hp
 have y0 : w2.cell? ⟨w.heap.size, 0, none⟩ = some (.slice none 0 0) := (blk_cell hg2 0).trans rfl
 have y1 : w2.cell? ⟨w.heap.size, 1, none⟩ = some (.slice none 0 0) := (blk_cell hg2 1).trans rfl
 go_upto_region 6 with (go_at_call 195; refine (ht _).mono ?_; rintro e w3 ⟨⟨m, rfl⟩, hb3⟩)
 have hB3 := below_step hB2 hb3
 have hg3 := blk_below hg2 hb3
 clear y0 y1 hb3 hg2 hB2 ht
 have y0 : w3.cell? ⟨w.heap.size, 0, none⟩ = some (.slice none 0 0) := (blk_cell hg3 0).trans rfl
 have y1 : w3.cell? ⟨w.heap.size, 1, none⟩ = some (.slice none 0 0) := (blk_cell hg3 1).trans rfl
 go_wp2_with (go_at_call 196; refine (hf _ _).mono ?_; rintro e w4 ⟨rfl, hb4⟩)
 go_ret
 exact ⟨rfl, below_step hB3 hb4⟩
end Go.Proofs.YtbdbobjdlomjnaaGreatDoor.Ec
