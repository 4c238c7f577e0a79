/- Numbers in as few bytes as they need: several of them. No condition. Bytes wrapped: Wrap. No condition. Written for this claim by a program of this session (a turned copy of the print): Go functions as Lean functions, and that the Go code comes to just these answers; or a statement proved out of them. No condition. Bytes unwrapped: Unwrap. No condition. Unwrap at a place outside of its bytes. No condition. Bytes unwrapped at any place. No condition. A mesh of nothing is a surface: Check. No condition. -/
import Derived.Test.YtbdbobjdlomjnaaGreatDoorZ9
import Derived.Test.YtbdbobjdlomjnaaGreatDoorZ10
import Derived.Test.YtbdbobjdlomjnaaGreatDoorZ2
import Derived.Test.YtbdbobjdlomjnaaGreatDoorZ6

namespace Go.Proofs.YtbdbobjdlomjnaaGreatDoor.Ec
set_option linter.unusedVariables false
set_option linter.unusedSimpArgs false
open Go Go.RowKit Go.Proofs.YtbdbobjdlomjnaaGreatDoor.P Go.Proofs.YtbdbobjdlomjnaaGreatDoor.C Go.Proofs.YtbdbobjdlomjnaaGreatDoor.Fv Go.Proofs.YtbdbobjdlomjnaaGreatDoorW.PrintWords Go.Proofs.YtbdbobjdlomjnaaGreatDoorW.PrintLast Go.Proofs.YtbdbobjdlomjnaaGreatDoorW.PrintMore
theorem put_step (L out : List Int) (i n : Nat) (hL : rd L (i : Int) = (n : Int)) (hi : i < L.length) (hs : L.length ≤ 1000) (h : n < 16384) (ho : out.length ≤ 1000000) {v : List Int} (hn : Ev (fun k => vint_Put.l0 k (out ++ putN n) L (L.length : Int) ((i + 1 : Nat) : Int)) v) : Ev (fun k => vint_Put.l0 k out L (L.length : Int) (i : Int)) v := by
 have w01 : wrap64 ((i : Int) + 1) = ((i + 1 : Nat) : Int) := by rw [w64 (by omega) (by omega)]; omega
 refine Ev.step (fun k => vint_Put.l0.eq_2 _ _ _ _ _) ?_
 simp only [if_pos (show (i : Int) < (L.length : Int) by omega), if_pos (show (0 : Int) ≤ (i : Int) by omega), hL]
 refine Ev.step (fun k => vint_Put.l1.eq_2 _ _ _ _ _ _) ?_
 by_cases hk : n < 128
 ·simp only [if_neg (show ¬ ((n : Int) ≥ 128) by omega), if_pos (show out.length < 140737488355328 by omega), w01]
  unfold putN at hn
  rw [if_pos hk] at hn
  rw [show (n : Int) % 256 = (n : Int) by omega]
  exact hn
 ·simp only [if_pos (show ((n : Int) ≥ 128) by omega), if_pos (show out.length < 140737488355328 by omega)]
  refine Ev.step (fun k => vint_Put.l1.eq_2 _ _ _ _ _ _) ?_
  have hl1 : ∀ x : Int, (out ++ [x]).length < 140737488355328 := fun x => by rw [List.length_append, one_len]; omega
  simp only [if_neg (show ¬ ((n : Int) / 128 ≥ 128) by omega), if_pos (hl1 _), w01]
  unfold putN at hn
  rw [if_neg hk] at hn
  have e1 := or_byte (n % 256) (by omega)
  rw [show ((n % 256 : Nat) : Int) = (n : Int) % 256 by omega] at e1
  rw [e1, show (n : Int) / 128 % 256 = ((n / 128 : Nat) : Int) by omega, show n % 256 % 128 = n % 128 by omega, List.append_assoc]
  exact hn
theorem put2_ev (n m : Nat) (h : n < 16384) (h' : m < 16384) : Ev (fun k => vint_Put.f k [(n : Int), (m : Int)]) (putN n ++ putN m) := by
 unfold vint_Put.f
 show Ev (fun k => vint_Put.l0 k [] [(n : Int), (m : Int)] (([(n : Int), (m : Int)].length : Nat) : Int) ((0 : Nat) : Int)) _
 refine put_step _ _ 0 n rfl (by simp) (by simp) h (by simp) ?_
 refine put_step _ _ 1 m rfl (by simp) (by simp) h' (by simp [putN_len]; split <;> omega) ?_
 refine Ev.step (fun k => vint_Put.l0.eq_2 _ _ _ _ _) ?_
 rw [List.nil_append]
 simp
 exact Ev.now _
theorem put1_ev (n : Nat) (h : n < 16384) : Ev (fun k => vint_Put.f k [(n : Int)]) (putN n) := by
 have := put_ev n h
 rwa [u64_small n (by omega)] at this
end Go.Proofs.YtbdbobjdlomjnaaGreatDoor.Ec

namespace Go.Proofs.YtbdbobjdlomjnaaGreatDoor.Ec
set_option linter.unusedVariables false
set_option linter.unusedSimpArgs false
open Go Go.RowKit Go.Proofs.YtbdbobjdlomjnaaGreatDoor.P Go.Proofs.YtbdbobjdlomjnaaGreatDoor.X Go.Proofs.YtbdbobjdlomjnaaGreatDoor.Fv Go.Proofs.YtbdbobjdlomjnaaGreatDoorW.PrintWords Go.Proofs.YtbdbobjdlomjnaaGreatDoorW.PrintLast Go.Proofs.YtbdbobjdlomjnaaGreatDoorW.PrintMore
set_option maxHeartbeats 8000000
set_option maxRecDepth 100000
theorem C_lit (k : IntKind) (w : World) (g : Nat) (xs : List Int) (cs : Array Value) (t : TypeId) (fr : Nat × Nat) (hg : w.heap[g]? = some (.cells cs t fr)) (hc : cs = (xs.map (Value.int k)).toArray) (hl : xs.length ≤ 9223372036854775807) : Kd.C (Kd.int k) w (some ⟨g, 0, none⟩) xs.length xs := by
 refine ⟨rfl, hl, fun _ => ⟨⟨g, 0, none⟩, rfl, fun j p hp => ⟨[.int k p], rfl, rfl, fun i u hu => ?_⟩⟩⟩
 have hi : i = 0 := by
  cases i with
  | zero => rfl
  | succ i => simp at hu
 subst hi
 have hu' : Value.int k p = u := by simpa using hu
 subst hu'
 have e : (Addr.add ⟨g, 0, none⟩ (j * (Kd.int k).sz + 0)) = ⟨g, j, none⟩ := by
  have : (Kd.int k).sz = 1 := rfl
  rw [this, Addr.add_mid]; simp
 rw [e, cell_of_row w g j cs t fr hg, hc]
 simp [hp]
theorem wrap_calls (w : World) (A : Option Addr) (c : Nat) (l : List Int) (hl : ∀ x ∈ l, In x) (hn : l.length ≤ 8000) (hr : Kd.C (Kd.int .u8) w A l.length l) :
  Calls Tryz.prog 25 #[.slice A l.length c] w fun e w' => ∃ vo, e = .returned (.tuple #[vo, .int .i64 0]) ∧ Kd.R (Kd.int .u8) 5 w' w.heap.size (fun _ => True) vo (wrapV l) ∧ Below w.heap.size w w' := by
 have hpk := pack_calls w A c l hl (by omega) hr
 have hel := encV_len hl
 obtain ⟨K, hK⟩ := put2_ev l.length (encV l).length (by omega) (by omega)
 have hput := fun W A0 c0 h1 h2 => vint_Put.calls K A0 c0 [(l.length : Int), ((encV l).length : Int)] (putN l.length ++ putN (encV l).length) W h1 h2 (hK K (Nat.le_refl _))
 have hpl : (putN l.length ++ putN (encV l).length).length ≤ 4 := by
  rw [List.length_append, putN_len, putN_len]
  split <;> split <;> omega
 have hwv : wrapV l = putN l.length ++ putN (encV l).length ++ encV l := by unfold wrapV; rw [List.append_assoc]
 have HWV := Aside0.mk hwv
 clear hK hwv
 generalize putN l.length ++ putN (encV l).length = pn at *
 generalize encV l = ev at *
 go_enter Tryz.func25, Tryz.ntmps25
 go_upto_region 4 with (go_at_call 55; refine hpk.mono ?_; rintro e w1 ⟨vp, rfl, hRp, hb1⟩)
 obtain ⟨Ap, cp, rfl⟩ := Kd.R_slice hRp
 have hb2 : Below w1.heap.size w1 (w1.alloc (.cells #[.int .u64 (l.length : Int), .int .u64 (ev.length : Int)] 80)) := below_alloc (Below.refl _ w1) _
 have hg2 := heap_alloc_new w1 (.cells #[.int .u64 (l.length : Int), .int .u64 (ev.length : Int)] 80)
 have hput2 := hput _ _ 2 (C_lit .u64 _ _ [(l.length : Int), (ev.length : Int)] _ _ _ hg2 rfl (by simp)) (by simp)
 have hC1 := (Kd.R_reads' hRp).2.2
 have hplp := Kd.R_lt hRp
 clear hput hg2 hpk
 go_wp2_with (first | (go_at_call 36; refine hput2.mono ?_; rintro e w3 ⟨vq, rfl, hRq, hb3⟩) | ((with_reducible refine gate_builtin (b := .append) (xs := #[.tmp 21, .tmp 22]) rfl ?_); at_builtin; refine Kd.R_append_rows (Kd.int .u8) (w0 := w) w.heap.size rfl (.tmp 21) (.tmp 22) 26 5 (.int .u8 0) 1 rfl Tryz.underlying26 infoU rfl (by decide) (by omega) vq pn ev _ _ _ (fun _ => True) (fun _ => False) rfl rfl ?aO ?aR (fun _ _ h => h) (fun _ h => h.elim) ?aF ?aB ?aS ?aL ?_; (case aO => exact Kd.R_lower hRq (Nat.le_trans hb1.size hb2.size)); (case aR => exact Kd.C_below hC1 (below_step hb2 hb3)); (case aF => exact fun _ _ => trivial); (case aB => exact below_step hb1 (below_step hb2 hb3)); (case aS => exact (below_step hb1 (below_step hb2 hb3)).size); (case aL => omega); intro v4 w4 hR4 hb4 hg4 hat4; rw [← HWV.out] at hR4))
 go_ret2
 exact ⟨v4, rfl, hR4, hb4⟩
end Go.Proofs.YtbdbobjdlomjnaaGreatDoor.Ec

namespace Go.Proofs.YtbdbobjdlomjnaaGreatDoor.P
open Go.RowKit Go.Proofs.YtbdbobjdlomjnaaGreatDoorW.PrintWords Go.Proofs.YtbdbobjdlomjnaaGreatDoorW.PrintLast Go.Proofs.YtbdbobjdlomjnaaGreatDoorW.PrintMore Go.Proofs.YtbdbobjdlomjnaaGreatDoor.X
attribute [local go_sem] max2_int min2_int max_two min_two max_three min_three max_four min_four add64_0 add64_1 add64
set_option linter.unusedVariables false
set_option linter.unusedSimpArgs false
def parts_Wrap.f (l0 : List Int) : Option (List Int × Int) := if (∀ x ∈ l0, 0 ≤ x ∧ x ≤ 255) ∧ l0.length ≤ 8000 then (some ((Ec.wrapV l0), 0)) else (none)
set_option maxHeartbeats 8000000 in
set_option maxRecDepth 100000 in
theorem parts_Wrap.calls (A0 : Option Addr) (c0 : Nat) (l0 : List Int) (r1 : List Int) (r2 : Int) (w : World) (hr0 : Kd.C (Kd.int .u8) w A0 l0.length l0) (hc0 : l0.length ≤ c0) (h : parts_Wrap.f l0 = some (r1, r2)) :
  Calls Tryz.prog 25 #[.slice A0 l0.length c0] w fun e w' => ∃ v0_ : Value, e = .returned (.tuple #[v0_, .int .i64 r2]) ∧ Kd.R (Kd.int .u8) 5 w' w.heap.size (fun _ => True) v0_ r1 ∧ Below w.heap.size w w' := by
 unfold parts_Wrap.f at h
 by_cases hl : (∀ x ∈ l0, 0 ≤ x ∧ x ≤ 255) ∧ l0.length ≤ 8000
 ·rw [if_pos hl] at h
  simp only [Option.some.injEq, Prod.mk.injEq] at h
  obtain ⟨rfl, rfl⟩ := h
  exact Ec.wrap_calls w A0 c0 l0 (Ec.In_dg.2 hl.1) hl.2 hr0
 ·rw [if_neg hl] at h; cases h
end Go.Proofs.YtbdbobjdlomjnaaGreatDoor.P

namespace Go.Proofs.YtbdbobjdlomjnaaGreatDoor.Ec
set_option linter.unusedVariables false
set_option linter.unusedSimpArgs false
open Go Go.RowKit Go.Proofs.YtbdbobjdlomjnaaGreatDoor.P Go.Proofs.YtbdbobjdlomjnaaGreatDoor.X Go.Proofs.YtbdbobjdlomjnaaGreatDoor.Fv Go.Proofs.YtbdbobjdlomjnaaGreatDoorW.PrintWords Go.Proofs.YtbdbobjdlomjnaaGreatDoorW.PrintLast Go.Proofs.YtbdbobjdlomjnaaGreatDoorW.PrintMore
set_option maxHeartbeats 8000000
set_option maxRecDepth 100000
theorem numV_le {bs : List Int} {a : Nat} {r : Nat × Nat} (ha : a ≤ bs.length) (h : numV bs a = some r) : r.1 ≤ 1048576 ∧ a ≤ r.2 ∧ r.2 ≤ bs.length := by
 unfold numV at h
 split at h
 ·rename_i hc
  cases h
  have := gv_len (bs.drop a) 0 0 (by rw [hc.1]; decide)
  rw [List.length_drop] at this
  exact ⟨hc.2, by simp only; omega, by simp only; omega⟩
 ·cases h
theorem unwV_by (bs : List Int) (a : Nat) (hbl : bs.length ≤ 1048576) : unwV bs a = match numV bs a with
  | none => ([], 0, 11)
  | some r => match numV bs r.2 with
   | none => ([], 0, 11)
   | some s => if s.1 ≤ bs.length - s.2 then (match (if 65536 < r.1 then none else unpackV r.1 ((bs.drop s.2).take s.1)) with
     | some l => (l, ((s.2 + s.1 : Nat) : Int), 0)
     | none => ([], 0, 11)) else ([], 0, 11) := by
 by_cases h1 : (gv (bs.drop a) 0 0).2.2 = 0 ∧ (gv (bs.drop a) 0 0).1 ≤ 1048576
 ·have n1 : numV bs a = some ((gv (bs.drop a) 0 0).1, a + (gv (bs.drop a) 0 0).2.1) := if_pos h1
  by_cases h3 : (gv (bs.drop (a + (gv (bs.drop a) 0 0).2.1)) 0 0).2.2 = 0 ∧ (gv (bs.drop (a + (gv (bs.drop a) 0 0).2.1)) 0 0).1 ≤ 1048576
  ·have n2 : numV bs (a + (gv (bs.drop a) 0 0).2.1) = some ((gv (bs.drop (a + (gv (bs.drop a) 0 0).2.1)) 0 0).1, a + (gv (bs.drop a) 0 0).2.1 + (gv (bs.drop (a + (gv (bs.drop a) 0 0).2.1)) 0 0).2.1) := if_pos h3
   simp only [n1, n2]
   by_cases h5 : (gv (bs.drop (a + (gv (bs.drop a) 0 0).2.1)) 0 0).1 ≤ bs.length - (a + (gv (bs.drop a) 0 0).2.1 + (gv (bs.drop (a + (gv (bs.drop a) 0 0).2.1)) 0 0).2.1)
   ·rw [if_pos h5]
    by_cases h6 : (gv (bs.drop a) 0 0).1 ≤ 65536
    ·rw [if_neg (show ¬ 65536 < (gv (bs.drop a) 0 0).1 by omega)]
     exact if_pos ⟨h1.1, h6, h3.1, h5⟩
    ·rw [if_pos (show 65536 < (gv (bs.drop a) 0 0).1 by omega)]
     exact if_neg (fun h => h6 h.2.1)
   ·rw [if_neg h5]
    exact if_neg (fun h => h5 h.2.2.2)
  ·have n2 : numV bs (a + (gv (bs.drop a) 0 0).2.1) = none := if_neg h3
   simp only [n1, n2]
   refine if_neg (fun h => h3 ⟨h.2.2.1, ?_⟩)
   have := h.2.2.2
   omega
 ·have n1 : numV bs a = none := if_neg h1
  simp only [n1]
  refine if_neg (fun h => h1 ⟨h.1, ?_⟩)
  have := h.2.1
  omega
theorem unwrap_calls (w : World) (A : Option Addr) (c a : Nat) (bs : List Int) (hd : Dg bs) (hbl : bs.length ≤ 1048576) (hc : bs.length ≤ c) (ha : a ≤ bs.length) (hr : Kd.C (Kd.int .u8) w A bs.length bs) :
  Calls Tryz.prog 20 #[.slice A bs.length c, .int .i64 (a : Int)] w fun e w' => ∃ vo, e = .returned (.tuple #[vo, .int .i64 (unwV bs a).2.1, .int .i64 (unwV bs a).2.2]) ∧ Kd.R (Kd.int .u8) 5 w' w.heap.size (fun _ => True) vo (unwV bs a).1 ∧ Below w.heap.size w w' := by
 have hu := Tryz.underlying100
 have hu2 := Tryz.underlying98
 rw [unwV_by bs a hbl]
 have hb1 : Below w.heap.size w (w.alloc (.cells (pc false A bs.length c a) 100)) := below_alloc (Below.refl _ w) _
 have hg1 := heap_alloc_new w (.cells (pc false A bs.length c a) 100)
 have hn1 := num_calls w _ w.heap.size A c a bs hd (by omega) hc ha (Kd.C_below hr hb1) hg1 (Nat.le_refl _) hb1
 have b0 : decide ((a : Int) < 0) = false := decide_eq_false (by omega)
 have b1 : decide ((bs.length : Int) < (a : Int)) = false := decide_eq_false (by omega)
 cases h1 : numV bs a with
 | none =>
  rw [h1] at hn1
  simp only at hn1 ⊢
  go_enter Tryz.func20, Tryz.ntmps20
  go_upto_region 5 with (go_at_call 43; refine hn1.mono ?_; rintro e w2 ⟨⟨rfl, hg2⟩, hp2⟩)
  have hnb := num_bad w w2 w.heap.size A c a bs.length hg2 hp2.b
  have hcb := fun m => cut_bad w w2 w.heap.size A c a bs.length m hg2 (Nat.le_refl _) hp2.b
  go_upto_region 6 with (first | (go_at_call 43; refine hnb.mono ?_; rintro e w3 ⟨rfl, rfl⟩) | (go_at_call 44; refine (hcb _).mono ?_; rintro e w4 ⟨rfl, hg4, hp4⟩))
  have y0 : w4.cell? ⟨w.heap.size, 0, none⟩ = some (.bool true) := (blk_cell hg4 0).trans rfl
  go_wp2
  go_ret3
  exact ⟨_, rfl, Kd.R_nil _ _ _ _ _, hp4.b⟩
 | some r =>
  obtain ⟨q1, q2, q3⟩ := numV_le ha h1
  rw [h1] at hn1
  simp only at hn1 ⊢
  have e1 : w.heap.size ≤ w.heap.size := Nat.le_refl _
  cases h2 : numV bs r.2 with
  | none =>
   simp only
   go_enter Tryz.func20, Tryz.ntmps20
   go_upto_region 5 with (go_at_call 43; refine hn1.mono ?_; rintro e w2 ⟨⟨rfl, hg2⟩, hp2⟩)
   have hn2 := num_calls w w2 w.heap.size A c r.2 bs hd (by omega) hc q3 (Kd.C_below hr hp2.b) hg2 e1 hp2.b
   rw [h2] at hn2
   simp only at hn2
   have hcb := fun m W (B : Below w.heap.size w W) G => cut_bad w W w.heap.size A c r.2 bs.length m G e1 B
   go_upto_region 6 with (first | (go_at_call 43; refine hn2.mono ?_; rintro e w3 ⟨⟨rfl, hg3⟩, hp3⟩) | (go_at_call 44; refine (hcb _ _ hp3.b hg3).mono ?_; rintro e w4 ⟨rfl, hg4, hp4⟩))
   have y0 : w4.cell? ⟨w.heap.size, 0, none⟩ = some (.bool true) := (blk_cell hg4 0).trans rfl
   go_wp2
   go_ret3
   exact ⟨_, rfl, Kd.R_nil _ _ _ _ _, hp4.b⟩
  | some s =>
   obtain ⟨q4, q5, q6⟩ := numV_le q3 h2
   simp only
   by_cases h5 : s.1 ≤ bs.length - s.2
   ·simp only [if_pos h5]
    cases hu : (if 65536 < r.1 then none else unpackV r.1 ((bs.drop s.2).take s.1)) with
    | none =>
     simp only
     go_enter Tryz.func20, Tryz.ntmps20
     go_upto_region 5 with (go_at_call 43; refine hn1.mono ?_; rintro e w2 ⟨⟨rfl, hg2⟩, hp2⟩)
     have hn2 := num_calls w w2 w.heap.size A c r.2 bs hd (by omega) hc q3 (Kd.C_below hr hp2.b) hg2 e1 hp2.b
     rw [h2] at hn2
     simp only at hn2
     have hcc := fun W (B : Below w.heap.size w W) G => cut_calls w W w.heap.size A c s.2 s.1 bs (by omega) hc q6 q4 hr G e1 B
     simp only [if_pos h5] at hcc
     have hdp : Dg ((bs.drop s.2).take s.1) := Dg_take (Dg_drop hd _) _
     have hup := fun (W : World) (A' : Option Addr) (c' : Nat) (hC : Kd.C (Kd.int .u8) W A' ((bs.drop s.2).take s.1).length ((bs.drop s.2).take s.1)) => unpack_calls W r.1 A' c' ((bs.drop s.2).take s.1) q1 hdp (by rw [List.length_take, List.length_drop]; omega) hC
     go_upto_region 6 with (first | (go_at_call 43; refine hn2.mono ?_; rintro e w3 ⟨⟨rfl, hg3⟩, hp3⟩) | (go_at_call 44; refine (hcc _ hp3.b hg3).mono ?_; rintro e w4 ⟨⟨A4, c4, rfl, hC4, hl4, hg4⟩, hp4⟩))
     have y0 : w4.cell? ⟨w.heap.size, 0, none⟩ = some (.bool false) := (blk_cell hg4 0).trans rfl
     have hup4 := hup w4 A4 c4 hC4
     have hPl : ((bs.drop s.2).take s.1).length = s.1 := by rw [List.length_take, List.length_drop]; omega
     rw [hPl] at hup4
     clear hup hcc hn2 hPl
     rw [hu] at hup4
     generalize (bs.drop s.2).take s.1 = P at *
     go_wp2_with (go_at_call 52; refine hup4.mono ?_; rintro e w5 ⟨⟨c5, rfl, hc5⟩, hb5⟩; have b5 : (c5 != 0) = true := by simp [hc5])
     go_ret3
     exact ⟨_, rfl, Kd.R_nil _ _ _ _ _, below_step hp4.b hb5⟩
    | some l =>
     simp only
     go_enter Tryz.func20, Tryz.ntmps20
     go_upto_region 5 with (go_at_call 43; refine hn1.mono ?_; rintro e w2 ⟨⟨rfl, hg2⟩, hp2⟩)
     have hn2 := num_calls w w2 w.heap.size A c r.2 bs hd (by omega) hc q3 (Kd.C_below hr hp2.b) hg2 e1 hp2.b
     rw [h2] at hn2
     simp only at hn2
     have hcc := fun W (B : Below w.heap.size w W) G => cut_calls w W w.heap.size A c s.2 s.1 bs (by omega) hc q6 q4 hr G e1 B
     simp only [if_pos h5] at hcc
     have hdp : Dg ((bs.drop s.2).take s.1) := Dg_take (Dg_drop hd _) _
     have hup := fun (W : World) (A' : Option Addr) (c' : Nat) (hC : Kd.C (Kd.int .u8) W A' ((bs.drop s.2).take s.1).length ((bs.drop s.2).take s.1)) => unpack_calls W r.1 A' c' ((bs.drop s.2).take s.1) q1 hdp (by rw [List.length_take, List.length_drop]; omega) hC
     go_upto_region 6 with (first | (go_at_call 43; refine hn2.mono ?_; rintro e w3 ⟨⟨rfl, hg3⟩, hp3⟩) | (go_at_call 44; refine (hcc _ hp3.b hg3).mono ?_; rintro e w4 ⟨⟨A4, c4, rfl, hC4, hl4, hg4⟩, hp4⟩))
     have y0 : w4.cell? ⟨w.heap.size, 0, none⟩ = some (.bool false) := (blk_cell hg4 0).trans rfl
     have hup4 := hup w4 A4 c4 hC4
     have hPl : ((bs.drop s.2).take s.1).length = s.1 := by rw [List.length_take, List.length_drop]; omega
     rw [hPl] at hup4
     clear hup hcc hn2 hPl
     rw [hu] at hup4
     generalize (bs.drop s.2).take s.1 = P at *
     go_upto_region 11 with (go_at_call 52; refine hup4.mono ?_; rintro e w5 ⟨⟨v5, rfl, hR5⟩, hb5⟩)
     have hg5 := blk_below hg4 hb5
     have y2 : w5.cell? ⟨w.heap.size, 2, none⟩ = some (.int .i64 ((s.2 + s.1 : Nat) : Int)) := (blk_cell hg5 2).trans rfl
     repeat (go_quiet (fail); try go_wp2)
     go_ret3
     refine ⟨v5, rfl, ?_, ?_⟩
     ·exact Kd.R_lower (Kd.R_drewN hR5 _) hp4.b.size
     ·exact pw_below_drewN (below_step hp4.b hb5) _
   ·simp only [if_neg h5]
    go_enter Tryz.func20, Tryz.ntmps20
    go_upto_region 5 with (go_at_call 43; refine hn1.mono ?_; rintro e w2 ⟨⟨rfl, hg2⟩, hp2⟩)
    have hn2 := num_calls w w2 w.heap.size A c r.2 bs hd (by omega) hc q3 (Kd.C_below hr hp2.b) hg2 e1 hp2.b
    rw [h2] at hn2
    simp only at hn2
    have hcc := fun W (B : Below w.heap.size w W) G => cut_calls w W w.heap.size A c s.2 s.1 bs (by omega) hc q6 q4 hr G e1 B
    simp only [if_neg h5] at hcc
    go_upto_region 6 with (first | (go_at_call 43; refine hn2.mono ?_; rintro e w3 ⟨⟨rfl, hg3⟩, hp3⟩) | (go_at_call 44; refine (hcc _ hp3.b hg3).mono ?_; rintro e w4 ⟨⟨rfl, hg4⟩, hp4⟩))
    have y0 : w4.cell? ⟨w.heap.size, 0, none⟩ = some (.bool true) := (blk_cell hg4 0).trans rfl
    go_wp2
    go_ret3
    exact ⟨_, rfl, Kd.R_nil _ _ _ _ _, hp4.b⟩

theorem unwrap_out (w : World) (A : Option Addr) (c n : Nat) (a : Int) (h : a < 0 ∨ (n : Int) < a) :
  Calls Tryz.prog 20 #[.slice A n c, .int .i64 a] w fun e w' => e = .returned (.tuple #[.slice none 0 0, .int .i64 0, .int .i64 2]) ∧ w' = w := by
 by_cases h0 : a < 0
 ·have b0 : decide (a < 0) = true := decide_eq_true h0
  go_enter Tryz.func20, Tryz.ntmps20
  go_wp2
  go_ret3
  exact ⟨rfl, rfl⟩
 ·have b0 : decide (a < 0) = false := decide_eq_false h0
  have b1 : decide ((n : Int) < a) = true := decide_eq_true (by omega)
  go_enter Tryz.func20, Tryz.ntmps20
  go_wp2
  go_ret3
  exact ⟨rfl, rfl⟩
end Go.Proofs.YtbdbobjdlomjnaaGreatDoor.Ec

namespace Go.Proofs.YtbdbobjdlomjnaaGreatDoor.Ec
set_option linter.unusedVariables false
set_option linter.unusedSimpArgs false
open Go Go.RowKit Go.Proofs.YtbdbobjdlomjnaaGreatDoor.P Go.Proofs.YtbdbobjdlomjnaaGreatDoor.X Go.Proofs.YtbdbobjdlomjnaaGreatDoor.Fv Go.Proofs.YtbdbobjdlomjnaaGreatDoorW.PrintWords Go.Proofs.YtbdbobjdlomjnaaGreatDoorW.PrintLast Go.Proofs.YtbdbobjdlomjnaaGreatDoorW.PrintMore
def unwF (b : List Int) (a : Int) : List Int × Int × Int := if a < 0 ∨ (b.length : Int) < a then ([], 0, 2) else unwV b a.toNat
theorem unwF_nat (b : List Int) (a : Nat) (h : a ≤ b.length) : unwF b (a : Int) = unwV b a := by
 unfold unwF
 rw [if_neg (by omega), Int.toNat_natCast]
theorem unwrapF_calls (w : World) (A : Option Addr) (c : Nat) (a : Int) (bs : List Int) (hd : Dg bs) (hbl : bs.length ≤ 1048576) (hc : bs.length ≤ c) (hr : Kd.C (Kd.int .u8) w A bs.length bs) :
  Calls Tryz.prog 20 #[.slice A bs.length c, .int .i64 a] w fun e w' => ∃ vo, e = .returned (.tuple #[vo, .int .i64 (unwF bs a).2.1, .int .i64 (unwF bs a).2.2]) ∧ Kd.R (Kd.int .u8) 5 w' w.heap.size (fun _ => True) vo (unwF bs a).1 ∧ Below w.heap.size w w' := by
 unfold unwF
 by_cases h : a < 0 ∨ (bs.length : Int) < a
 ·rw [if_pos h]
  refine (unwrap_out w A c bs.length a h).mono ?_
  rintro e w' ⟨rfl, rfl⟩
  exact ⟨_, rfl, Kd.R_nil _ _ _ _ _, Below.refl _ _⟩
 ·rw [if_neg h]
  obtain ⟨n, rfl⟩ : ∃ n : Nat, a = (n : Int) := ⟨a.toNat, by omega⟩
  rw [Int.toNat_natCast]
  exact unwrap_calls w A c n bs hd hbl hc (by omega) hr
end Go.Proofs.YtbdbobjdlomjnaaGreatDoor.Ec

namespace Go.Proofs.YtbdbobjdlomjnaaGreatDoor.P
open Go.RowKit Go.Proofs.YtbdbobjdlomjnaaGreatDoorW.PrintWords Go.Proofs.YtbdbobjdlomjnaaGreatDoorW.PrintLast Go.Proofs.YtbdbobjdlomjnaaGreatDoorW.PrintMore Go.Proofs.YtbdbobjdlomjnaaGreatDoor.X
attribute [local go_sem] max2_int min2_int max_two min_two max_three min_three max_four min_four add64_0 add64_1 add64
set_option linter.unusedVariables false
set_option linter.unusedSimpArgs false
def parts_Unwrap.f (l0 : List Int) (a1 : Int) : Option (List Int × Int × Int) := if (∀ x ∈ l0, 0 ≤ x ∧ x ≤ 255) ∧ l0.length ≤ 1048576 then (some ((Ec.unwF l0 a1).1, (Ec.unwF l0 a1).2.1, (Ec.unwF l0 a1).2.2)) else (none)
set_option maxHeartbeats 8000000 in
set_option maxRecDepth 100000 in
theorem parts_Unwrap.calls (A0 : Option Addr) (c0 : Nat) (l0 : List Int) (a1 : Int) (r1 : List Int) (r2 : Int) (r3 : Int) (w : World) (hr0 : Kd.C (Kd.int .u8) w A0 l0.length l0) (hc0 : l0.length ≤ c0) (h : parts_Unwrap.f l0 a1 = some (r1, r2, r3)) :
  Calls Tryz.prog 20 #[.slice A0 l0.length c0, .int .i64 a1] w fun e w' => ∃ v0_ : Value, e = .returned (.tuple #[v0_, .int .i64 r2, .int .i64 r3]) ∧ Kd.R (Kd.int .u8) 5 w' w.heap.size (fun _ => True) v0_ r1 ∧ Below w.heap.size w w' := by
 unfold parts_Unwrap.f at h
 by_cases hl : (∀ x ∈ l0, 0 ≤ x ∧ x ≤ 255) ∧ l0.length ≤ 1048576
 ·rw [if_pos hl] at h
  simp only [Option.some.injEq, Prod.mk.injEq] at h
  obtain ⟨rfl, rfl, rfl⟩ := h
  exact Ec.unwrapF_calls w A0 c0 a1 l0 hl.1 hl.2 hc0 hr0
 ·rw [if_neg hl] at h; cases h
end Go.Proofs.YtbdbobjdlomjnaaGreatDoor.P

namespace Go.Proofs.YtbdbobjdlomjnaaGreatDoor.Ec
set_option linter.unusedVariables false
set_option linter.unusedSimpArgs false
open Go Go.RowKit Go.Proofs.YtbdbobjdlomjnaaGreatDoor.P Go.Proofs.YtbdbobjdlomjnaaGreatDoor.X Go.Proofs.YtbdbobjdlomjnaaGreatDoorW.PrintWords Go.Proofs.YtbdbobjdlomjnaaGreatDoorW.PrintLast Go.Proofs.YtbdbobjdlomjnaaGreatDoorW.PrintMore
set_option maxHeartbeats 8000000
set_option maxRecDepth 100000
theorem plain0_calls (w : World) :
  Calls Tryz.prog 194 #[.agg #[.slice none 0 0, .slice none 0 0]] w fun e w' => e = .returned (.bool true) ∧ Below w.heap.size w w' := by
 have hu := Tryz.underlying25
 go_enter Tryz.func194, Tryz.ntmps194
 go_upto_region 1 with (fail)
 have hb : Below w.heap.size w (w.alloc (.cells #[.slice none 0 0, .slice none 0 0] 25)) := below_alloc (Below.refl _ w) _
 have hg := heap_alloc_new w (.cells #[.slice none 0 0, .slice none 0 0] 25)
 generalize w.alloc (.cells #[.slice none 0 0, .slice none 0 0] 25) = w1 at hb hg ⊢
 have y0 : w1.cell? ⟨w.heap.size, 0, none⟩ = some (.slice none 0 0) := (blk_cell hg 0).trans rfl
 have y1 : w1.cell? ⟨w.heap.size, 1, none⟩ = some (.slice none 0 0) := (blk_cell hg 1).trans rfl
 go_wp2
 go_loopw [12] (fun v wr => v = .int .i64 0 ∧ w1 = wr) (fun _ _ => 0)
 case atStart => exact ⟨rfl, rfl⟩
 case round =>
  obtain ⟨rfl, rfl⟩ := hrel
  go_wp2
  go_loopw [36] (fun v wr => v = .int .i64 0 ∧ w1 = wr) (fun _ _ => 0)
  case atStart => exact ⟨rfl, rfl⟩
  case round =>
   obtain ⟨rfl, rfl⟩ := hrel
   go_wp2
   go_ret
   exact ⟨rfl, hb⟩
theorem table0_calls (w : World) :
  Calls Tryz.prog 195 #[.agg #[.slice none 0 0, .slice none 0 0]] w fun e w' => (∃ m, e = .returned (.tuple #[.map m, .bool true])) ∧ Below w.heap.size w w' := by
 have hu := Tryz.underlying25
 have hmm := @run_makeMap Tryz.prog
 go_enter Tryz.func195, Tryz.ntmps195
 go_upto_region 1 with (fail)
 have hb : Below w.heap.size w (w.alloc (.cells #[.slice none 0 0, .slice none 0 0] 25)) := below_alloc (Below.refl _ w) _
 have hg := heap_alloc_new w (.cells #[.slice none 0 0, .slice none 0 0] 25)
 generalize w.alloc (.cells #[.slice none 0 0, .slice none 0 0] 25) = w1 at hb hg ⊢
 have y0 : w1.cell? ⟨w.heap.size, 0, none⟩ = some (.slice none 0 0) := (blk_cell hg 0).trans rfl
 have y1 : w1.cell? ⟨w.heap.size, 1, none⟩ = some (.slice none 0 0) := (blk_cell hg 1).trans rfl
 go_upto_region 2 with (fail)
 have hb2 : Below w.heap.size w (w1.alloc (.map #[] 0)) := below_alloc hb _
 have hg2 := blk_alloc hg (.map #[] 0)
 generalize w1.alloc (.map #[] 0) = w2 at hb2 hg2 ⊢
 clear y0 y1
 have y1 : w2.cell? ⟨w.heap.size, 1, none⟩ = some (.slice none 0 0) := (blk_cell hg2 1).trans rfl
 go_wp2
 go_loopw [15] (fun v wr => v = .int .i64 0 ∧ w2 = wr) (fun _ _ => 0)
 case atStart => exact ⟨rfl, rfl⟩
 case round =>
  obtain ⟨rfl, rfl⟩ := hrel
  go_wp2
  go_ret2
  exact ⟨⟨_, rfl⟩, hb2⟩
theorem fans0_calls (w : World) (m : Option Nat) :
  Calls Tryz.prog 196 #[.agg #[.slice none 0 0, .slice none 0 0], .map m] w fun e w' => e = .returned (.bool true) ∧ Below w.heap.size w w' := by
 have hu := Tryz.underlying25
 have hmk := print_make (P := Tryz.prog) 83 3 .i64 8 Tryz.underlying83 (by kernel_rfl) (by decide) 0 (by omega)
 rw [show ((0 : Nat) : Int) = 0 from rfl] at hmk
 go_enter Tryz.func196, Tryz.ntmps196
 go_upto_region 1 with (fail)
 have hb : Below w.heap.size w (w.alloc (.cells #[.slice none 0 0, .slice none 0 0] 25)) := below_alloc (Below.refl _ w) _
 have hg := heap_alloc_new w (.cells #[.slice none 0 0, .slice none 0 0] 25)
 generalize w.alloc (.cells #[.slice none 0 0, .slice none 0 0] 25) = w1 at hb hg ⊢
 have y0 : w1.cell? ⟨w.heap.size, 0, none⟩ = some (.slice none 0 0) := (blk_cell hg 0).trans rfl
 have y1 : w1.cell? ⟨w.heap.size, 1, none⟩ = some (.slice none 0 0) := (blk_cell hg 1).trans rfl
 go_upto_region 2 with (fail)
 have hb2 : Below w.heap.size w (w1.alloc (.cells (madeCells #[.int .i64 0] 0) 3)) := below_alloc hb _
 have hg2 := blk_alloc hg (.cells (madeCells #[.int .i64 0] 0) 3)
 generalize w1.alloc (.cells (madeCells #[.int .i64 0] 0) 3) = w2 at hb2 hg2 ⊢
 generalize w1.heap.size = g1
 clear y0 y1
 have y0 : w2.cell? ⟨w.heap.size, 0, none⟩ = some (.slice none 0 0) := (blk_cell hg2 0).trans rfl
 go_upto_region 3 with (fail)
 have hb3 : Below w.heap.size w (w2.alloc (.cells (madeCells #[.int .i64 0] 0) 3)) := below_alloc hb2 _
 have hg3 := blk_alloc hg2 (.cells (madeCells #[.int .i64 0] 0) 3)
 generalize w2.alloc (.cells (madeCells #[.int .i64 0] 0) 3) = w3 at hb3 hg3 ⊢
 generalize w2.heap.size = g2
 clear y0
 have y1 : w3.cell? ⟨w.heap.size, 1, none⟩ = some (.slice none 0 0) := (blk_cell hg3 1).trans rfl
 go_wp2
 go_loopw [24] (fun v wr => v = .int .i64 0 ∧ w3 = wr) (fun _ _ => 0)
 case atStart => exact ⟨rfl, rfl⟩
 case round =>
  obtain ⟨rfl, rfl⟩ := hrel
  go_wp2
  go_loopw [47] (fun v wr => v = .int .i64 0 ∧ w3 = wr) (fun _ _ => 0)
  case atStart => exact ⟨rfl, rfl⟩
  case round =>
   obtain ⟨rfl, rfl⟩ := hrel
   go_wp2
   go_ret
   exact ⟨rfl, hb3⟩
theorem check0_calls (w : World) :
  Calls Tryz.prog 143 #[.agg #[.slice none 0 0, .slice none 0 0]] w fun e w' => e = .returned (.int .i64 0) ∧ Below w.heap.size w w' := by
 have hu := Tryz.underlying25
 have hp := fun W => plain0_calls W
 have ht := fun W => table0_calls W
 have hf := fun W m => fans0_calls W m
 go_enter Tryz.func143, Tryz.ntmps143
 go_upto_region 1 with (fail)
 have hb : Below w.heap.size w (w.alloc (.cells #[.slice none 0 0, .slice none 0 0] 25)) := below_alloc (Below.refl _ w) _
 have hg := heap_alloc_new w (.cells #[.slice none 0 0, .slice none 0 0] 25)
 generalize w.alloc (.cells #[.slice none 0 0, .slice none 0 0] 25) = w1 at hb hg ⊢
 have y0 : w1.cell? ⟨w.heap.size, 0, none⟩ = some (.slice none 0 0) := (blk_cell hg 0).trans rfl
 have y1 : w1.cell? ⟨w.heap.size, 1, none⟩ = some (.slice none 0 0) := (blk_cell hg 1).trans rfl
 go_upto_region 5 with (go_at_call 194; refine (hp _).mono ?_; rintro e w2 ⟨rfl, hb2⟩)
 have hB2 := below_step hb hb2
 have hg2 := blk_below hg hb2
 clear y0 y1 hb2 hg hb hp
 have y0 : w2.cell? ⟨w.heap.size, 0, none⟩ = some (.slice none 0 0) := (blk_cell hg2 0).trans rfl
 have y1 : w2.cell? ⟨w.heap.size, 1, none⟩ = some (.slice none 0 0) := (blk_cell hg2 1).trans rfl
 go_upto_region 6 with (go_at_call 195; refine (ht _).mono ?_; rintro e w3 ⟨⟨m, rfl⟩, hb3⟩)
 have hB3 := below_step hB2 hb3
 have hg3 := blk_below hg2 hb3
 clear y0 y1 hb3 hg2 hB2 ht
 have y0 : w3.cell? ⟨w.heap.size, 0, none⟩ = some (.slice none 0 0) := (blk_cell hg3 0).trans rfl
 have y1 : w3.cell? ⟨w.heap.size, 1, none⟩ = some (.slice none 0 0) := (blk_cell hg3 1).trans rfl
 go_wp2_with (go_at_call 196; refine (hf _ _).mono ?_; rintro e w4 ⟨rfl, hb4⟩)
 go_ret
 exact ⟨rfl, below_step hB3 hb4⟩
end Go.Proofs.YtbdbobjdlomjnaaGreatDoor.Ec
