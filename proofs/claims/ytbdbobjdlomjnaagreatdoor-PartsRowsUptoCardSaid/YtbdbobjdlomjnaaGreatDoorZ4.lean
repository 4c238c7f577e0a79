/- The coder in memory: a symbol is coded (code). No condition. The coder in memory: all digits (end); the models (begun). No condition. The coder in memory: a new one (ready); whether a code may be (known). No condition. The document's coder as a function: a number's digits, added to; what bytes are beyond; reading: the same symbols. No condition. -/
import Derived.Test.YtbdbobjdlomjnaaGreatDoorZ3

namespace Go.Proofs.YtbdbobjdlomjnaaGreatDoor.Ec
set_option linter.unusedVariables false
set_option linter.unusedSimpArgs false
open Go Go.RowKit Go.Proofs.YtbdbobjdlomjnaaGreatDoor.P Go.Proofs.YtbdbobjdlomjnaaGreatDoor.X Go.Proofs.YtbdbobjdlomjnaaGreatDoorW.PrintWords Go.Proofs.YtbdbobjdlomjnaaGreatDoorW.PrintLast Go.Proofs.YtbdbobjdlomjnaaGreatDoorW.PrintMore
set_option maxHeartbeats 8000000
set_option maxRecDepth 100000
theorem shiftsV_succ : ∀ (k : Nat) (w : WS), shiftV (shiftsV k w) = shiftsV (k + 1) w
 | 0, _ => rfl
 | k + 1, w => by rw [shiftsV, shiftsV_succ k]; rfl
structure Cr (w0 w : World) (h g gc : Nat) (vo : Value) (w' : World) (vo' : Value) : Prop where
 b : Below w0.heap.size w0 w'
 k : Kept w w' (fun k => (k = h ∨ some k = vo.ownBlock) ∨ k = g ∨ k = gc)
 o : vo'.ownBlock = vo.ownBlock ∨ ∃ b, vo'.ownBlock = some b ∧ w.heap.size ≤ b
theorem Wd.setR {base : Nat} {w : World} {h : Nat} {vm : Value} {r : Int} {vo : Value} {P : Nat → Prop} {s : WS} (d : Wd base w h vm r vo P s) (r' : Int) : Wd base (w.setCell ⟨h, 1, none⟩ (.int .u32 r')) h vm r' vo P s :=
 ⟨d.hb, blk_put d.hh 1 _ rfl, Kd.R_far d.ho (fun k hk e => d.hP (by have e' : k = h := e; rw [← e']; exact hk)) _, d.hP⟩
theorem Wd.kept {base : Nat} {w w1 : World} {h : Nat} {vm : Value} {r : Int} {vo : Value} {P S : Nat → Prop} {s : WS} (d : Wd base w h vm r vo P s) (hk : Kept w w1 S) (h0 : ¬ S h) (h1 : ∀ k, P k → ¬ S k) : Wd base w1 h vm r vo P s :=
 ⟨d.hb, blk_kept d.hh hk h0, Kd.R_step d.ho (fun k ho hl => hk.2 k hl (h1 k ho)), d.hP⟩
theorem code_calls (w0 w : World) (h g gc bm cm : Nat) (vo : Value) (s : CS) (a : Cd w0.heap.size w h g gc bm cm vo s) (hok : COk s) (x : Int) (hx : In x) (hB : Below w0.heap.size w0 w) (hl : s.w.out.length + s.w.held ≤ 1099511627000) :
  Calls Tryz.prog 156 #[.pointer (some ⟨h, 0, none⟩), .agg #[.int .i64 0, .int .i64 x]] w fun e w' => e = .returned (.tuple #[.int .i64 (nsh (r1C s x) : Int), .bool true]) ∧ ∃ vo', Cd w0.heap.size w' h g gc bm cm vo' (codeV s x) ∧ Cr w0 w h g gc vo w' vo' := by
 have hu := Tryz.underlying226
 have hu2 := Tryz.underlying122
 have hu3 := Tryz.underlying239
 have hu4 := Tryz.underlying237
 have hm := hok.a.m
 have hm' : MOk s.c := hm
 obtain ⟨b1, b2, b3, b4, b5, b6⟩ := share_bd hok.a hx
 have hr := hok.a.r
 have e1 : qA (absC s) = qC s := rfl
 have e2 : lowC (absC s).c x = lowC s.c x := rfl
 have e3 : r1A (absC s) x = r1C s x := rfl
 have e4 : (absC s).r = s.r := rfl
 have e5 : (absC s).c.getD x.toNat 0 = gt s.c x.toNat := rfl
 have e6 : (absC s).c = s.c := rfl
 rw [e1, e2] at b1
 rw [e3] at b2
 rw [e1, e2, e3, e4] at b3
 rw [e5] at b4
 rw [e2, e5, e6] at b5
 rw [e2] at b6
 rw [e4] at hr
 have hs := hm'.s
 have hge := hm'.ge
 have hq : s.r.tdiv (sumI s.c) = qC s := Int.tdiv_eq_ediv_of_nonneg (by omega)
 have hr1 : qC s * gt s.c x.toNat = r1C s x := rfl
 have hqb := (qA_bd hok.a).1
 rw [e1] at hqb
 have hqb2 : qC s ≤ s.r := by
  have := (qA_bd hok.a).2
  rw [e1, e4, e6] at this
  have := Int.mul_le_mul_of_nonneg_left hge (show 0 ≤ qC s by omega)
  omega
 have hj := hok.j.l
 have hlw : IntKind.u64.wrap (s.w.low + qC s * lowC s.c x) = s.w.low + qC s * lowC s.c x := by rw [IntKind.wrap_u64]; omega
 have hmid := codeV_mid hok hx
 have hnb := nsh_bd b2 (show r1C s x < 4294967296 by omega)
 have hnl := nsh_lt b2
 have hn2 := nsh_le (r1C s x)
 have hwz : IntKind.u32.wrap (sumI s.c) = sumI s.c := by rw [IntKind.wrap_u32]; omega
 have hnz : ¬ sumI s.c = 0 := by omega
 have hwq : IntKind.u32.wrap (qC s) = qC s := by rw [IntKind.wrap_u32]; omega
 go_enter Tryz.func156, Tryz.ntmps156
 go_wp2
 have hb1 : Below w.heap.size w (w.alloc (.cells #[.int .i64 0, .int .i64 x] 122)) := below_alloc (Below.refl _ w) _
 have hg1 := heap_alloc_new w (.cells #[.int .i64 0, .int .i64 x] 122)
 generalize w.alloc (.cells #[.int .i64 0, .int .i64 x] 122) = w1 at hb1 hg1 ⊢
 have a1 := a.below hb1
 have hbd : Below w1.heap.size w1 w1.drew := below_drew (Below.refl _ w1)
 have hsh := share1_calls w0.heap.size w1.drew h g gc bm cm vo s (a1.below hbd) hm' x hx
 have z0 : w1.cell? ⟨w.heap.size, 0, none⟩ = some (.int .i64 0) := (blk_cell hg1 0).trans rfl
 have z1 : w1.cell? ⟨w.heap.size, 1, none⟩ = some (.int .i64 x) := (blk_cell hg1 1).trans rfl
--REGION1
 refine start_ (n := 12) (S := fun w' => w'.cell? ⟨w.heap.size, 0, none⟩ = some (.int .i64 0) ∧ w'.cell? ⟨w.heap.size, 1, none⟩ = some (.int .i64 x)) (ds := []) #[false, false, false, false, false, false, false, false, false, false, false, false] (by kernel_rfl) rfl rfl ⟨z0, z1⟩ (fun hHeld => ?_)
 refine pure_ (i := 0) (N := some 12) (v := ?_) (a' := ?_) #[true, false, false, false, false, false, false, false, false, false, false, false] rfl rfl (by kernel_rfl) (fun _ _ _ h => h) (Or.inl ⟨by rfl, ?_⟩) ?_ ?_
 rotate_left
 ·intro w'
  go_simp
  with_reducible rfl
 rotate_left
 ·simp only [Act.put, List.setIfInBounds_toArray, List.set_cons_zero, List.set_cons_succ, i64_w, i32_w]
  rfl
 refine pure_ (i := 1) (N := some 13) (v := ?_) (a' := ?_) #[true, true, false, false, false, false, false, false, false, false, false, false] rfl rfl (by kernel_rfl) (fun _ _ _ h => h) (Or.inl ⟨by rfl, ?_⟩) ?_ ?_
 rotate_left
 ·intro w'
  go_simp
  with_reducible rfl
 rotate_left
 ·simp only [Act.put, List.setIfInBounds_toArray, List.set_cons_zero, List.set_cons_succ, i64_w, i32_w]
  rfl
 refine pure_ (i := 2) (N := some 14) (v := ?_) (a' := ?_) #[true, true, true, false, false, false, false, false, false, false, false, false] rfl rfl (by kernel_rfl) (fun _ _ _ h => h) (Or.inl ⟨by rfl, ?_⟩) ?_ ?_
 rotate_left
 ·intro w'
  go_simp
  with_reducible rfl
 rotate_left
 ·simp only [Act.put, List.setIfInBounds_toArray, List.set_cons_zero, List.set_cons_succ, i64_w, i32_w]
  rfl
 refine take_ (i := 3) (N := some 15) (v := ?_) (a' := ?_) #[true, true, true, true, false, false, false, false, false, false, false, false] rfl rfl (by kernel_rfl) (fun _ _ _ h => h) (Or.inl ⟨by rfl, ?_⟩) hHeld ?_ ?_
 rotate_left
 ·rintro w' ⟨s0, s1⟩
  go_simp
  with_reducible rfl
 rotate_left
 ·simp only [Act.put, List.setIfInBounds_toArray, List.set_cons_zero, List.set_cons_succ, i64_w, i32_w]
  rfl
 refine one_ (i := 4) (N := some 16) #[true, true, true, true, true, false, false, false, false, false, false, false] rfl rfl (by kernel_rfl) (by decide) (fun K hK => ?_)
 refine goes_ Tryz.func155 (by kernel_rfl) rfl #[.pointer (some ⟨h, 0, none⟩), .agg #[.int .i64 0, .int .i64 x]] (by rfl) rfl rfl (by simp only [List.map_toArray, List.map_cons, List.map_nil]; rfl) ?_
 with_reducible refine (hsh).mono ?_
 rintro e w2 ⟨rfl, hb2⟩
 refine ⟨_, rfl, ?_⟩
 refine hK.out _ _ ⟨(hb2.cell (World.block_lt_of_cell? _ _ hHeld.1)).trans hHeld.1, (hb2.cell (World.block_lt_of_cell? _ _ hHeld.2)).trans hHeld.2⟩ (fun hHeld => ?_)
 clear hK K
 refine norm_ (a' := ?_) ?_ ?_
 rotate_left
 ·show Act.put _ (some 16) _ = _
  simp only [Act.put, List.setIfInBounds_toArray, List.set_cons_zero, List.set_cons_succ, i64_w, i32_w]
  rfl
 refine pure_ (i := 5) (N := some 11) (v := ?_) (a' := ?_) #[true, true, true, true, true, true, false, false, false, false, false, false] rfl rfl (by kernel_rfl) (fun _ _ _ h => h) (Or.inl ⟨by rfl, ?_⟩) ?_ ?_
 rotate_left
 ·intro w'
  go_simp
  with_reducible rfl
 rotate_left
 ·simp only [Act.put, List.setIfInBounds_toArray, List.set_cons_zero, List.set_cons_succ, i64_w, i32_w]
  rfl
 refine pure_ (i := 6) (N := some 17) (v := ?_) (a' := ?_) #[true, true, true, true, true, true, true, false, false, false, false, false] rfl rfl (by kernel_rfl) (fun _ _ _ h => h) (Or.inl ⟨by rfl, ?_⟩) ?_ ?_
 rotate_left
 ·intro w'
  go_simp
  with_reducible rfl
 rotate_left
 ·simp only [Act.put, List.setIfInBounds_toArray, List.set_cons_zero, List.set_cons_succ, i64_w, i32_w]
  rfl
 refine pure_ (i := 7) (N := some 18) (v := ?_) (a' := ?_) #[true, true, true, true, true, true, true, true, false, false, false, false] rfl rfl (by kernel_rfl) (fun _ _ _ h => h) (Or.inl ⟨by rfl, ?_⟩) ?_ ?_
 rotate_left
 ·intro w'
  go_simp
  with_reducible rfl
 rotate_left
 ·simp only [Act.put, List.setIfInBounds_toArray, List.set_cons_zero, List.set_cons_succ, i64_w, i32_w]
  rfl
 refine pure_ (i := 8) (N := some 19) (v := ?_) (a' := ?_) #[true, true, true, true, true, true, true, true, true, false, false, false] rfl rfl (by kernel_rfl) (fun _ _ _ h => h) (Or.inl ⟨by rfl, ?_⟩) ?_ ?_
 rotate_left
 ·intro w'
  go_simp
  with_reducible rfl
 rotate_left
 ·simp only [Act.put, List.setIfInBounds_toArray, List.set_cons_zero, List.set_cons_succ, i64_w, i32_w]
  rfl
 refine pure_ (i := 9) (N := some 6) (v := ?_) (a' := ?_) #[true, true, true, true, true, true, true, true, true, true, false, false] rfl rfl (by kernel_rfl) (fun _ _ _ h => h) (Or.inl ⟨by rfl, ?_⟩) ?_ ?_
 rotate_left
 ·intro w'
  go_simp
  with_reducible rfl
 rotate_left
 ·simp only [Act.put, List.setIfInBounds_toArray, List.set_cons_zero, List.set_cons_succ, i64_w, i32_w]
  rfl
 refine pure_ (i := 10) (N := some 7) (v := ?_) (a' := ?_) #[true, true, true, true, true, true, true, true, true, true, true, false] rfl rfl (by kernel_rfl) (fun _ _ _ h => h) (Or.inl ⟨by rfl, ?_⟩) ?_ ?_
 rotate_left
 ·intro w'
  go_simp
  with_reducible rfl
 rotate_left
 ·simp only [Act.put, List.setIfInBounds_toArray, List.set_cons_zero, List.set_cons_succ, i64_w, i32_w]
  rfl
 refine pure_ (i := 11) (N := some 8) (v := ?_) (a' := ?_) #[true, true, true, true, true, true, true, true, true, true, true, true] rfl rfl (by kernel_rfl) (fun _ _ _ h => h) (Or.inl ⟨by rfl, ?_⟩) ?_ ?_
 rotate_left
 ·intro w'
  go_simp
  with_reducible rfl
 rotate_left
 ·simp only [Act.put, List.setIfInBounds_toArray, List.set_cons_zero, List.set_cons_succ, i64_w, i32_w]
  rfl
 refine done_ (by kernel_rfl) ?_
 
 --END1
 go_wp2
 have hb2' : Below w1.heap.size w1 w2 := below_step hbd hb2
 have a2 := a1.below hb2'
 have hB2 := below_step hB (below_step hb1 hb2')
 have hk2 : Kept w w2 (fun k => (k = h ∨ some k = vo.ownBlock) ∨ k = g ∨ k = gc) := Kept.of_below (below_step hb1 hb2') _
 have hg2 := blk_below hg1 hb2'
 clear z0 z1 hsh hHeld hb2 hbd hb1 hg1 a1
 have z0 : w2.cell? ⟨w.heap.size, 0, none⟩ = some (.int .i64 0) := (blk_cell hg2 0).trans rfl
 obtain ⟨x0, x1, f1⟩ := a2.cell
 have hbd2 : Below w2.heap.size w2 w2.drew := below_drew (Below.refl _ w2)
 have hwh := whole_calls w0.heap.size w2.drew h g gc bm cm vo s (a2.below hbd2)
--REGION4
 refine start_ (n := 14) (S := fun w' => w'.cell? ⟨h, 1, none⟩ = some (.int .u32 s.r) ∧ w'.cell? ⟨w.heap.size, 0, none⟩ = some (.int .i64 0)) (ds := []) #[false, false, false, false, false, false, false, false, false, false, false, false, false, false] (by kernel_rfl) rfl rfl ⟨x1, z0⟩ (fun hHeld => ?_)
 refine pure_ (i := 0) (N := some 22) (v := ?_) (a' := ?_) #[true, false, false, false, false, false, false, false, false, false, false, false, false, false] rfl rfl (by kernel_rfl) (fun _ _ _ h => h) (Or.inl ⟨by rfl, ?_⟩) ?_ ?_
 rotate_left
 ·intro w'
  go_simp
  with_reducible rfl
 rotate_left
 ·simp only [Act.put, List.setIfInBounds_toArray, List.set_cons_zero, List.set_cons_succ, i64_w, i32_w]
  rfl
 refine pure_ (i := 1) (N := some 23) (v := ?_) (a' := ?_) #[true, true, false, false, false, false, false, false, false, false, false, false, false, false] rfl rfl (by kernel_rfl) (fun _ _ _ h => h) (Or.inl ⟨by rfl, ?_⟩) ?_ ?_
 rotate_left
 ·intro w'
  go_simp
  with_reducible rfl
 rotate_left
 ·simp only [Act.put, List.setIfInBounds_toArray, List.set_cons_zero, List.set_cons_succ, i64_w, i32_w]
  rfl
 refine pure_ (i := 2) (N := some 24) (v := ?_) (a' := ?_) #[true, true, true, false, false, false, false, false, false, false, false, false, false, false] rfl rfl (by kernel_rfl) (fun _ _ _ h => h) (Or.inl ⟨by rfl, ?_⟩) ?_ ?_
 rotate_left
 ·intro w'
  go_simp
  with_reducible rfl
 rotate_left
 ·simp only [Act.put, List.setIfInBounds_toArray, List.set_cons_zero, List.set_cons_succ, i64_w, i32_w]
  rfl
 refine pure_ (i := 3) (N := some 25) (v := ?_) (a' := ?_) #[true, true, true, true, false, false, false, false, false, false, false, false, false, false] rfl rfl (by kernel_rfl) (fun _ _ _ h => h) (Or.inl ⟨by rfl, ?_⟩) ?_ ?_
 rotate_left
 ·intro w'
  go_simp
  with_reducible rfl
 rotate_left
 ·simp only [Act.put, List.setIfInBounds_toArray, List.set_cons_zero, List.set_cons_succ, i64_w, i32_w]
  rfl
 refine pure_ (i := 5) (N := some 27) (v := ?_) (a' := ?_) #[true, true, true, true, false, true, false, false, false, false, false, false, false, false] rfl rfl (by kernel_rfl) (fun _ _ _ h => h) (Or.inl ⟨by rfl, ?_⟩) ?_ ?_
 rotate_left
 ·intro w'
  go_simp
  with_reducible rfl
 rotate_left
 ·simp only [Act.put, List.setIfInBounds_toArray, List.set_cons_zero, List.set_cons_succ, i64_w, i32_w]
  rfl
 refine pure_ (i := 6) (N := some 28) (v := ?_) (a' := ?_) #[true, true, true, true, false, true, true, false, false, false, false, false, false, false] rfl rfl (by kernel_rfl) (fun _ _ _ h => h) (Or.inl ⟨by rfl, ?_⟩) ?_ ?_
 rotate_left
 ·intro w'
  go_simp
  with_reducible rfl
 rotate_left
 ·simp only [Act.put, List.setIfInBounds_toArray, List.set_cons_zero, List.set_cons_succ, i64_w, i32_w]
  rfl
 refine pure_ (i := 7) (N := some 29) (v := ?_) (a' := ?_) #[true, true, true, true, false, true, true, true, false, false, false, false, false, false] rfl rfl (by kernel_rfl) (fun _ _ _ h => h) (Or.inl ⟨by rfl, ?_⟩) ?_ ?_
 rotate_left
 ·intro w'
  go_simp
  with_reducible rfl
 rotate_left
 ·simp only [Act.put, List.setIfInBounds_toArray, List.set_cons_zero, List.set_cons_succ, i64_w, i32_w]
  rfl
 refine pure_ (i := 8) (N := some 30) (v := ?_) (a' := ?_) #[true, true, true, true, false, true, true, true, true, false, false, false, false, false] rfl rfl (by kernel_rfl) (fun _ _ _ h => h) (Or.inl ⟨by rfl, ?_⟩) ?_ ?_
 rotate_left
 ·intro w'
  go_simp
  with_reducible rfl
 rotate_left
 ·simp only [Act.put, List.setIfInBounds_toArray, List.set_cons_zero, List.set_cons_succ, i64_w, i32_w]
  rfl
 refine take_ (i := 4) (N := some 26) (v := ?_) (a' := ?_) #[true, true, true, true, true, true, true, true, true, false, false, false, false, false] rfl rfl (by kernel_rfl) (fun _ _ _ h => h) (Or.inl ⟨by rfl, ?_⟩) hHeld ?_ ?_
 rotate_left
 ·rintro w' ⟨s0, s1⟩
  go_simp
  with_reducible rfl
 rotate_left
 ·simp only [Act.put, List.setIfInBounds_toArray, List.set_cons_zero, List.set_cons_succ, i64_w, i32_w]
  rfl
 refine take_ (i := 9) (N := some 31) (v := ?_) (a' := ?_) #[true, true, true, true, true, true, true, true, true, true, false, false, false, false] rfl rfl (by kernel_rfl) (fun _ _ _ h => h) (Or.inl ⟨by rfl, ?_⟩) hHeld ?_ ?_
 rotate_left
 ·rintro w' ⟨s0, s1⟩
  go_simp
  with_reducible rfl
 rotate_left
 ·simp only [Act.put, List.setIfInBounds_toArray, List.set_cons_zero, List.set_cons_succ, i64_w, i32_w]
  rfl
 refine one_ (i := 10) (N := some 32) #[true, true, true, true, true, true, true, true, true, true, true, false, false, false] rfl rfl (by kernel_rfl) (by decide) (fun K hK => ?_)
 refine goes_ Tryz.func153 (by kernel_rfl) rfl #[.pointer (some ⟨h, 0, none⟩), .int .i64 0] (by rfl) rfl rfl (by simp only [List.map_toArray, List.map_cons, List.map_nil]; rfl) ?_
 with_reducible refine (hwh).mono ?_
 rintro e w3 ⟨rfl, rfl⟩
 refine ⟨_, rfl, ?_⟩
 refine hK.out _ _ ⟨hHeld.1, hHeld.2⟩ (fun hHeld => ?_)
 clear hK K
 refine norm_ (a' := ?_) ?_ ?_
 rotate_left
 ·show Act.put _ (some 32) _ = _
  simp only [Act.put, List.setIfInBounds_toArray, List.set_cons_zero, List.set_cons_succ, i64_w, i32_w]
  rfl
 refine pure_ (i := 11) (N := some 33) (v := ?_) (a' := ?_) #[true, true, true, true, true, true, true, true, true, true, true, true, false, false] rfl rfl (by kernel_rfl) (fun _ _ _ h => h) (Or.inl ⟨by rfl, ?_⟩) ?_ ?_
 rotate_left
 ·intro w'
  go_simp
  with_reducible rfl
 rotate_left
 ·simp only [Act.put, List.setIfInBounds_toArray, List.set_cons_zero, List.set_cons_succ, i64_w, i32_w]
  rfl
 refine pure_ (i := 12) (N := some 34) (v := ?_) (a' := ?_) #[true, true, true, true, true, true, true, true, true, true, true, true, true, false] rfl rfl (by kernel_rfl) (fun _ _ _ h => h) (Or.inl ⟨by rfl, ?_⟩) ?_ ?_
 rotate_left
 ·intro w'
  go_simp
  with_reducible rfl
 rotate_left
 ·simp only [Act.put, List.setIfInBounds_toArray, List.set_cons_zero, List.set_cons_succ, i64_w, i32_w]
  rfl
 refine pure_ (i := 13) (N := some 9) (v := ?_) (a' := ?_) #[true, true, true, true, true, true, true, true, true, true, true, true, true, true] rfl rfl (by kernel_rfl) (fun _ _ _ h => h) (Or.inl ⟨by rfl, ?_⟩) ?_ ?_
 rotate_left
 ·intro w'
  go_simp
  with_reducible rfl
 rotate_left
 ·simp only [Act.put, List.setIfInBounds_toArray, List.set_cons_zero, List.set_cons_succ, i64_w, i32_w]
  rfl
 refine done_ (by kernel_rfl) ?_
 
 --END4
 have a3 := a2.below hbd2
 have hB3 := below_step hB2 hbd2
 have hk3 := hk2.drew
 have hg3 := blk_below hg2 hbd2
 generalize w2.drew = w3 at a3 hB3 hk3 hg3 ⊢
 clear z0 x0 x1 f1 hwh hHeld hbd2 a2 hB2 hk2 hg2 hb2'
 obtain ⟨x0, x1, f1⟩ := a3.cell
 obtain ⟨y2, y3, y4, y5⟩ := a3.d.cell
 obtain ⟨f2, f3, f4, f5⟩ := a3.d.free
 have z0 : w3.cell? ⟨w.heap.size, 0, none⟩ = some (.int .i64 0) := (blk_cell hg3 0).trans rfl
 go_wp2
 obtain ⟨w4, hw4⟩ : ∃ w4, w4 = (w3.setCell ⟨h, 5, none⟩ (.int .u64 (s.w.low + qC s * lowC s.c x))).setCell ⟨h, 1, none⟩ (.int .u32 (r1C s x)) := ⟨_, rfl⟩
 rw [← hw4]
 have hd4 : Wd w0.heap.size w4 h (.slice (some ⟨bm, 0, none⟩) 1 cm) (r1C s x) vo (PP h g gc bm) { s.w with low := s.w.low + qC s * lowC s.c x } := by
  rw [hw4]
  exact (a3.d.set (i := 5) (s' := { s.w with low := s.w.low + qC s * lowC s.c x }) rfl rfl).setR _
 have hr4 : Wr w0 w3 h vo w4 vo := by
  rw [hw4]
  exact ⟨below_set (below_set hB3 a.d.hb) a.d.hb, ((Kept.refl w3 _).setCell (.inl (.inl rfl)) _).setCell (.inl (.inl rfl)) _, .inl rfl⟩
 clear hw4 x0 x1 f1 y2 y3 y4 y5 f2 f3 f4 f5 z0
 have hR : ∀ j, j < nsh (r1C s x) → 0 ≤ r1C s x * 256 ^ j := fun j _ => Int.mul_nonneg (by omega) (by have := pow_pos j; omega)
 have hS : ∀ j, j ≤ nsh (r1C s x) → JOk (shiftsV j { s.w with low := s.w.low + qC s * lowC s.c x }) (r1C s x * 256 ^ j) ∧ nw (shiftsV j { s.w with low := s.w.low + qC s * lowC s.c x }) = nw s.w + j := fun j hj => by
  obtain ⟨q1, q2, q3⟩ := shiftsV_of j _ _ hmid (fun i hi => hnl i (by omega))
  exact ⟨q1, q3⟩
 have hcv : codeV s x = ⟨countC s.c x, r1C s x * 256 ^ nsh (r1C s x), shiftsV (nsh (r1C s x)) { s.w with low := s.w.low + qC s * lowC s.c x }⟩ := rfl
 have HCV := Aside0.mk hcv
 have HS := Aside0.mk hS
 have HNL := Aside0.mk hnl
 have HNB := Aside0.mk hnb
 have HR := Aside0.mk hR
 clear hcv hS hnl hR hnb hlw hwz hnz hwq hq hr1 hmid
 have hnw : nw s.w = s.w.out.length + s.w.held + 4 := rfl
 generalize { s.w with low := s.w.low + qC s * lowC s.c x } = W0 at *
 generalize hK : nsh (r1C s x) = K at *
 go_loopw [10] (fun v wr => ∃ (j : Nat) (vo' : Value), j ≤ K ∧ v = .int .i64 j ∧ Wd w0.heap.size wr h (.slice (some ⟨bm, 0, none⟩) 1 cm) (r1C s x * 256 ^ j) vo' (PP h g gc bm) (shiftsV j W0) ∧ Wr w0 w3 h vo wr vo') (fun v _ => 2 - (intV v).toNat)
 case atStart => exact ⟨0, vo, by omega, rfl, by rw [Int.pow_zero, Int.mul_one]; exact hd4, hr4⟩
 case round =>
  clear hd4 hr4
  obtain ⟨j, vo', hjK, rfl, hd4, hr4⟩ := hrel
  have x1 : wr.cell? ⟨h, 1, none⟩ = some (.int .u32 (r1C s x * 256 ^ j)) := (blk_cell hd4.hh 1).trans rfl
  have f1 : wr.frozen? ⟨h, 1, none⟩ = false := blk_frozen hd4.hh 1
  rcases Nat.lt_or_ge j K with hlt | hge
  ·have c1 := HNL.out j hlt
   have c0 := HR.out j hlt
   obtain ⟨q1, q3⟩ := HS.out j hjK
   have epow : r1C s x * 256 ^ (j + 1) = r1C s x * 256 ^ j * 256 := by rw [pow_succ', Int.mul_assoc]
   have HE := Aside0.mk epow
   clear epow
   have hfr : ∀ k, w3.heap.size ≤ k → PP h g gc bm k := a3.fresh
   have d1 := hd4.setR (r1C s x * 256 ^ j * 256)
   have B1 : Below w0.heap.size w0 (wr.setCell ⟨h, 1, none⟩ (.int .u32 (r1C s x * 256 ^ j * 256))) := below_set hr4.b a.d.hb
   have hsz : (wr.setCell ⟨h, 1, none⟩ (.int .u32 (r1C s x * 256 ^ j * 256))).heap.size = wr.heap.size := by simp
   have hsc := shift_calls w0 _ h _ _ vo' _ _ d1 q1.ok B1 (fun k hk => hfr k (by have := hr4.k.1; omega)) (by
    have : nw (shiftsV j W0) = (shiftsV j W0).out.length + (shiftsV j W0).held + 4 := rfl
    omega)
   have hr4' : Wr w0 w3 h vo (wr.setCell ⟨h, 1, none⟩ (.int .u32 (r1C s x * 256 ^ j * 256))) vo' := hr4.trans ⟨B1, (Kept.refl wr _).setCell (.inl (.inl rfl)) _, .inl rfl⟩
   rw [shiftsV_succ] at hsc
   have b1 : decide (r1C s x * 256 ^ j < 16777216) = true := decide_eq_true c1
   clear q1 q3 d1 B1 hsz HS
   generalize r1C s x * 256 ^ j = R at *
   have hw8 : IntKind.u32.wrap (R * 256) = R * 256 := by rw [IntKind.wrap_u32]; omega
   go_wp2_with (go_at_call 201; refine hsc.mono ?_; rintro e w5 ⟨rfl, vo5, hd5, hr5⟩)
   go_roundw
   case rel => exact ⟨j + 1, vo5, by omega, rfl, by rw [HE.out]; exact hd5, hr4'.trans hr5⟩
   case measure => simp [intV]; omega
  ·obtain rfl : j = K := by omega
   have b1 : decide (r1C s x * 256 ^ j < 16777216) = false := decide_eq_false (by have := HNB.out.1; omega)
   clear HNL HNB HR
   obtain ⟨q1, q3⟩ := HS.out j (Nat.le_refl _)
   have hown : ∀ k, vo.ownBlock = some k → PP h g gc bm k := fun k hk => a.d.ho.1 k hk
   have hm5 : Mo wr g gc s.c (sumI s.c) := a3.m.kept hr4.k (fun e => e.elim (fun e => a.n1 e.symm) (fun e => (hown g e.symm).2.1 rfl)) (fun e => e.elim (fun e => a.n2 e.symm) (fun e => (hown gc e.symm).2.2.1 rfl))
   have hp5 : wr.cell? ⟨bm, 0, none⟩ = some (.pointer (some ⟨g, 0, none⟩)) := cell_kept a3.p hr4.k (fun e => e.elim (fun e => a.n3 e) (fun e => (hown bm e.symm).2.2.2 rfl))
   have hg5 := blk_kept hg3 hr4.k (fun e => e.elim (fun e => by have := blk_lt a.d.hh; have e' : w.heap.size = h := e; omega) (fun e => by have := Kd.R_lt a.d.ho _ e.symm; omega))
   have a5 : Cd w0.heap.size wr h g gc bm cm vo' ⟨s.c, r1C s x * 256 ^ j, shiftsV j W0⟩ := ⟨hd4, hm5, hp5, a.hg, a.hgc, a.n1, a.n2, a.n3, a.n4, a.n5⟩
   have hbd5 : Below wr.heap.size wr wr.drew := below_drew (Below.refl _ wr)
   have hcnt := count1_calls w0 wr.drew h g gc bm cm vo' _ (a5.below hbd5) hm' x hx (below_step hr4.b hbd5)
   have z0 : wr.cell? ⟨w.heap.size, 0, none⟩ = some (.int .i64 0) := (blk_cell hg5 0).trans rfl
   have z1 : wr.cell? ⟨w.heap.size, 1, none⟩ = some (.int .i64 x) := (blk_cell hg5 1).trans rfl
   have hcnt' : Calls Tryz.prog 202 #[.pointer (some ⟨h, 0, none⟩), .agg #[.int .i64 0, .int .i64 x]] wr.drew fun e w' => e = .returned (.tuple #[]) ∧ Mo w' g gc (countC s.c x) (sumI (countC s.c x)) ∧ Below w0.heap.size w0 w' ∧ Kept wr.drew w' (fun k => k = g ∨ k = gc) := hcnt
   clear hcnt
   go_wp2
--REGION12
   refine start_ (n := 5) (S := fun w' => w'.cell? ⟨w.heap.size, 0, none⟩ = some (.int .i64 0) ∧ w'.cell? ⟨w.heap.size, 1, none⟩ = some (.int .i64 x)) (ds := [4]) #[false, false, false, false, false] (by kernel_rfl) rfl rfl ⟨z0, z1⟩ (fun hHeld => ?_)
   refine pure_ (i := 0) (N := some 78) (v := ?_) (a' := ?_) #[true, false, false, false, false] rfl rfl (by kernel_rfl) (fun _ _ _ h => h) (Or.inl ⟨by rfl, ?_⟩) ?_ ?_
   rotate_left
   ·intro w'
    go_simp
    with_reducible rfl
   rotate_left
   ·simp only [Act.put, List.setIfInBounds_toArray, List.set_cons_zero, List.set_cons_succ, i64_w, i32_w]
    rfl
   refine pure_ (i := 1) (N := some 79) (v := ?_) (a' := ?_) #[true, true, false, false, false] rfl rfl (by kernel_rfl) (fun _ _ _ h => h) (Or.inl ⟨by rfl, ?_⟩) ?_ ?_
   rotate_left
   ·intro w'
    go_simp
    with_reducible rfl
   rotate_left
   ·simp only [Act.put, List.setIfInBounds_toArray, List.set_cons_zero, List.set_cons_succ, i64_w, i32_w]
    rfl
   refine pure_ (i := 2) (N := some 80) (v := ?_) (a' := ?_) #[true, true, true, false, false] rfl rfl (by kernel_rfl) (fun _ _ _ h => h) (Or.inl ⟨by rfl, ?_⟩) ?_ ?_
   rotate_left
   ·intro w'
    go_simp
    with_reducible rfl
   rotate_left
   ·simp only [Act.put, List.setIfInBounds_toArray, List.set_cons_zero, List.set_cons_succ, i64_w, i32_w]
    rfl
   refine take_ (i := 3) (N := some 81) (v := ?_) (a' := ?_) #[true, true, true, true, false] rfl rfl (by kernel_rfl) (fun _ _ _ h => h) (Or.inl ⟨by rfl, ?_⟩) hHeld ?_ ?_
   rotate_left
   ·rintro w' ⟨s0, s1⟩
    go_simp
    with_reducible rfl
   rotate_left
   ·simp only [Act.put, List.setIfInBounds_toArray, List.set_cons_zero, List.set_cons_succ, i64_w, i32_w]
    rfl
   refine last_ (i := 4) (N := some 82) #[true, true, true, true, true] rfl rfl (by kernel_rfl) (by decide) (fun K hK => ?_)
   refine goes_ Tryz.func202 (by kernel_rfl) rfl #[.pointer (some ⟨h, 0, none⟩), .agg #[.int .i64 0, .int .i64 x]] (by rfl) rfl rfl (by simp only [List.map_toArray, List.map_cons, List.map_nil]; rfl) ?_
   with_reducible refine (hcnt').mono ?_
   rintro e w6 ⟨rfl, hM6, hB6, hK6⟩
   refine ⟨_, rfl, ?_⟩
   refine hK.out _ _ ?_
   clear hK K
   refine norm_ (a' := ?_) ?_ ?_
   rotate_left
   ·show Act.put _ (some 82) _ = _
    simp only [Act.put, List.setIfInBounds_toArray, List.set_cons_zero, List.set_cons_succ, i64_w, i32_w]
    rfl
   refine done_ (by kernel_rfl) ?_
   
   --END12
   go_wp2
   have hk6 : Kept wr w6 (fun k => k = g ∨ k = gc) := (Kept.refl wr _).drew.then_ hK6 (fun k hk => .inl hk)
   have hd6 := hd4.kept hk6 (fun e => e.elim a.n1 a.n2) (fun k hk e => e.elim hk.2.1 hk.2.2.1)
   have hp6 := cell_kept hp5 hk6 (fun e => e.elim a.n4 a.n5)
   go_ret2
   refine ⟨by rw [hK]; rfl, vo', ?_, hB6, ?_, ?_⟩
   ·rw [HCV.out]
    exact ⟨hd6, hM6, hp6, a.hg, a.hgc, a.n1, a.n2, a.n3, a.n4, a.n5⟩
   ·refine (hk3.then_ hr4.k (fun k hk => ?_)).then_ hk6 (fun k hk => .inl (.inr hk))
    exact .inl (.inl hk)
   ·rcases hr4.o with e | ⟨c, e, hc⟩
    ·exact .inl e
    ·exact .inr ⟨c, e, Nat.le_trans hk3.1 hc⟩

theorem shiftsV_ok : ∀ (k : Nat) (w : WS), Ok w → Ok (shiftsV k w) ∧ nw (shiftsV k w) = nw w + k
 | 0, w, h => ⟨h, rfl⟩
 | k + 1, w, h => by
  obtain ⟨a, b⟩ := shiftsV_ok k (shiftV w) (shiftV_ok' h)
  exact ⟨a, by rw [shiftsV, b, shiftV_nw h]; omega⟩
theorem end_calls (w0 w : World) (h g gc bm cm : Nat) (vo : Value) (s : CS) (a : Cd w0.heap.size w h g gc bm cm vo s) (hok : COk s) (hB : Below w0.heap.size w0 w) (hl : s.w.out.length + s.w.held ≤ 1099511627000) :
  Calls Tryz.prog 158 #[.pointer (some ⟨h, 0, none⟩)] w fun e w' => ∃ vo', e = .returned vo' ∧ Kd.R (Kd.int .u8) 5 w' w0.heap.size (PP h g gc bm) vo' (endV s.w) ∧ Wr w0 w h vo w' vo' := by
 have hu3 := Tryz.underlying239
 have hu4 := Tryz.underlying237
 have hS := fun j => shiftsV_ok j s.w hok.j.ok
 have hnw : nw s.w = s.w.out.length + s.w.held + 4 := rfl
 have hfr := a.fresh
 have hd := a.d
 have hr0 : Wr w0 w h vo w vo := ⟨hB, Kept.refl w _, .inl rfl⟩
 have he : endV s.w = (shiftsV 5 s.w).out := rfl
 go_enter Tryz.func158, Tryz.ntmps158
 go_wp2
 go_loopw [3] (fun v wr => ∃ (j : Nat) (vo' : Value), j ≤ 5 ∧ v = .int .i64 j ∧ Wd w0.heap.size wr h (.slice (some ⟨bm, 0, none⟩) 1 cm) s.r vo' (PP h g gc bm) (shiftsV j s.w) ∧ Wr w0 w h vo wr vo') (fun v _ => 5 - (intV v).toNat)
 case atStart => exact ⟨0, vo, by omega, rfl, hd, hr0⟩
 case round =>
  clear hd hr0
  obtain ⟨j, vo', hj, rfl, hd, hr⟩ := hrel
  rcases Nat.lt_or_ge j 5 with hlt | hge
  ·have hii : (j : Int) < 5 := by omega
   obtain ⟨q1, q2⟩ := hS j
   have hsc := shift_calls w0 wr h _ _ vo' _ _ hd q1 hr.b (fun k hk => hfr k (by have := hr.k.1; omega)) (by
    have : nw (shiftsV j s.w) = (shiftsV j s.w).out.length + (shiftsV j s.w).held + 4 := rfl
    omega)
   rw [shiftsV_succ] at hsc
   go_wp2_with (go_at_call 201; refine hsc.mono ?_; rintro e w5 ⟨rfl, vo5, hd5, hr5⟩)
   go_roundw
   case rel => exact ⟨j + 1, vo5, by omega, rfl, hd5, hr.trans hr5⟩
   case measure => simp [intV]; omega
  ·obtain rfl : j = 5 := by omega
   obtain ⟨x2, x3, x4, x5⟩ := hd.cell
   go_wp2
   go_returns
   exact ⟨vo', rfl, by rw [he]; exact hd.ho, hr⟩
def kp : Kd Addr := Kd.scalar (fun a => Value.pointer (some a)) (fun _ => rfl)
theorem infoP : (Tryz.prog.info? 274).map (fun i => (i.zero, i.size, i.bytes)) = some (some (.pointer none), 1, 8) := by kernel_rfl
theorem kp_cell {w : World} {base : Nat} {ok : Nat → Prop} {v : Value} {x : Addr} (h : Kd.R kp 274 w base ok v [x]) : ∃ bm cm, v = .slice (some ⟨bm, 0, none⟩) 1 cm ∧ base ≤ bm ∧ ok bm ∧ w.cell? ⟨bm, 0, none⟩ = some (.pointer (some x)) := by
 obtain ⟨bm, cm, rfl, hb, hlt, cells, hc⟩ := Kd.R_form h (by simp)
 refine ⟨bm, cm, rfl, hb, h.1 bm rfl, ?_⟩
 obtain ⟨_, _, h3⟩ := (Kd.R_reads' h).2.2
 obtain ⟨ad, e, h4⟩ := h3 (by simp)
 injection e with e
 subst e
 obtain ⟨cs, h5, h6, h7⟩ := h4 0 x rfl
 first
  | exact h7 0 _ (by rw [h6]; rfl)
  | exact h7 0 _ (by rw [h5]; rfl)
theorem begun_calls (w : World) (b : Nat) (hA : w.cell? ⟨b, 0, none⟩ = some (.int .i64 256)) : Calls Tryz.prog 149 #[.slice (some ⟨b, 0, none⟩) 1 1] w fun e w' => ∃ g gc bm cm, e = .returned (.tuple #[.agg #[.slice (some ⟨bm, 0, none⟩) 1 cm, .int .u32 4294967295], .bool true]) ∧ Mo w' g gc (List.replicate 256 1) 256 ∧ w'.cell? ⟨bm, 0, none⟩ = some (.pointer (some ⟨g, 0, none⟩)) ∧
  w.heap.size ≤ g ∧ w.heap.size ≤ gc ∧ w.heap.size ≤ bm ∧ bm ≠ g ∧ bm ≠ gc ∧ Below w.heap.size w w' := by
 have hu := Tryz.underlying226
 go_enter Tryz.func149, Tryz.ntmps149
 go_wp2
 obtain ⟨w1, hw1⟩ : ∃ w1, w1 = (w.alloc (Obj.cells #[Value.slice none 0 0, Value.int IntKind.u32 0] 226)).alloc (Obj.cells #[Value.slice none 0 0, Value.int IntKind.u32 4294967295] 226) := ⟨_, rfl⟩
 rw [← hw1]
 have hB1 : Below w.heap.size w w1 := by rw [hw1]; exact below_alloc (below_alloc (Below.refl _ w) _) _
 have hs1 : w1.heap.size = w.heap.size + 2 := by rw [hw1]; simp
 have hg0 : w1.heap[w.heap.size]? = some (.cells #[Value.slice none 0 0, Value.int IntKind.u32 0] 226 (0, 0)) := by rw [hw1]; exact blk_alloc (heap_alloc_new w _) _
 have hg1 : w1.heap[w.heap.size + 1]? = some (.cells #[Value.slice none 0 0, Value.int IntKind.u32 4294967295] 226 (0, 0)) := by
  rw [hw1]
  have := heap_alloc_new (w.alloc (Obj.cells #[Value.slice none 0 0, Value.int IntKind.u32 0] 226)) (.cells #[Value.slice none 0 0, Value.int IntKind.u32 4294967295] 226)
  rwa [show (w.alloc (Obj.cells #[Value.slice none 0 0, Value.int IntKind.u32 0] 226)).heap.size = w.heap.size + 1 by simp] at this
 have hA1 : w1.cell? ⟨b, 0, none⟩ = some (.int .i64 256) := (hB1.cell (World.block_lt_of_cell? w _ hA)).trans hA
 have hnew := new_calls w1
 clear hw1 hA
 go_loopw [16] (fun v wr => (v = .int .i64 0 ∧ w1 = wr) ∨ (v = .int .i64 1 ∧ ∃ g gc bm cm, wr.heap[w.heap.size]? = some (.cells #[Value.slice none 0 0, Value.int IntKind.u32 0] 226 (0, 0)) ∧ wr.heap[w.heap.size + 1]? = some (.cells #[Value.slice (some ⟨bm, 0, none⟩) 1 cm, Value.int IntKind.u32 4294967295] 226 (0, 0)) ∧ Mo wr g gc (List.replicate 256 1) 256 ∧ wr.cell? ⟨bm, 0, none⟩ = some (.pointer (some ⟨g, 0, none⟩)) ∧ w.heap.size + 2 ≤ g ∧ w.heap.size + 2 ≤ gc ∧ w.heap.size + 2 ≤ bm ∧ bm ≠ g ∧ bm ≠ gc ∧ Below w.heap.size w wr)) (fun v _ => 1 - (intV v).toNat)
 case atStart => exact .inl ⟨rfl, rfl⟩
 case round =>
  rcases hrel with ⟨rfl, rfl⟩ | ⟨rfl, g, gc, bm, cm, q0, q1, q2, q3, q4, q5, q6, q7, q8, q9⟩
  ·go_upto_region 10 with (first | (go_at_call 197; refine hnew.mono ?_; rintro e w2 ⟨g, gc, rfl, hgs, hgcs, hM2, hb2⟩))
   have hB2 := below_step hB1 hb2
   have hg2 := blk_below hg1 hb2
   have hg2' := blk_below hg0 hb2
   have x0 : w2.cell? ⟨w.heap.size + 1, 0, none⟩ = some (.slice none 0 0) := (blk_cell hg2 0).trans rfl
   have f0 := blk_frozen hg2 0
   have h1 := blk_lt hM2.hm
   have h2 := blk_lt hM2.hc
   have h3 := blk_lt hg2
   have hsz2 : w.heap.size ≤ w2.heap.size := hB2.size
   go_wp2_with (first | ((with_reducible refine gate_builtin (b := .append) (xs := #[.tmp 29, .tmp 31]) rfl ?_); at_builtin; refine Kd.R_append kp (w0 := w) w.heap.size rfl (.tmp 29) (.tmp 31) 223 274 (.pointer none) 8 rfl Tryz.underlying223 infoP rfl (by decide) (by omega) (.slice none 0 0) [] ⟨g, 0, none⟩ [.pointer (some ⟨g, 0, none⟩)] (fun k => k ≠ g ∧ k ≠ gc ∧ k ≠ w.heap.size + 1 ∧ k ≠ w.heap.size) (fun _ => False) rfl rfl ?aP (fun _ hk => hk.elim) ?aF ?aO ?aB ?aS ?aL ?_; (case aP => exact rfl); (case aF => exact fun k hk => ⟨by omega, by omega, by omega, by omega⟩); (case aO => exact Kd.R_nil _ _ _ _ _); (case aB => exact hB2); (case aS => exact hB2.size); (case aL => simp); intro v3 w3 hR3 hb3 hg3 hat3; obtain ⟨bm, cm, rfl, hbm, hokm, hcm⟩ := kp_cell hR3; have hg4 := blk_grown hg2 hg3 (by simp [Value.ownBlock]); have hg4' := blk_grown hg2' hg3 (by simp [Value.ownBlock]); have hM4 : Mo w3 g gc (List.replicate 256 1) 256 := ⟨hM2.ne, blk_grown hM2.hm hg3 (by simp [Value.ownBlock]), blk_grown hM2.hc hg3 (by simp [Value.ownBlock]), hM2.n⟩; have z0 : w3.cell? ⟨w.heap.size + 1, 0, none⟩ = some (.slice none 0 0) := (blk_cell hg4 0).trans rfl; have zf := blk_frozen hg4 0; clear x0 f0))
   go_roundw
   case rel =>
    refine .inr ⟨rfl, g, gc, bm, cm, blk_far hg4' (by simp) _, blk_put hg4 0 _ rfl, ⟨hM4.ne, blk_far hM4.hm (by simp; omega) _, blk_far hM4.hc (by simp; omega) _, hM4.n⟩, ?_, by omega, by omega, ?_, hokm.1, hokm.2.1, below_set hb3 (by omega)⟩
    ·rw [cell_far (show bm ≠ w.heap.size + 1 from hokm.2.2.1)]
     exact hcm
    ·have := hokm.2.2.1
     have := hokm.2.2.2
     omega
   case measure => simp [intV]
  ·have y0 : wr.cell? ⟨w.heap.size + 1, 0, none⟩ = some (Value.slice (some ⟨bm, 0, none⟩) 1 cm) := (blk_cell q1 0).trans rfl
   have y1 : wr.cell? ⟨w.heap.size + 1, 1, none⟩ = some (Value.int IntKind.u32 4294967295) := (blk_cell q1 1).trans rfl
   have y2 : wr.cell? ⟨w.heap.size, 0, none⟩ = some (Value.slice none 0 0) := (blk_cell q0 0).trans rfl
   have y3 : wr.cell? ⟨w.heap.size, 1, none⟩ = some (Value.int IntKind.u32 0) := (blk_cell q0 1).trans rfl
   have y4 := blk_frozen q0 0
   have y5 := blk_frozen q0 1
   go_wp2
   have q0' := blk_put (blk_put q0 0 (Value.slice (some ⟨bm, 0, none⟩) 1 cm) rfl) 1 (Value.int IntKind.u32 4294967295) rfl
   refine bodyPost_ret (results_ct rfl _ _ w.heap.size 226 #[.slice (some ⟨bm, 0, none⟩) 1 cm, .int .u32 4294967295] (0, 0) _ rfl q0' Tryz.underlying226 rfl (by kernel_rfl)) rfl ?_
   refine ⟨g, gc, bm, cm, rfl, ⟨q2.ne, blk_far (blk_far q2.hm (by simp; omega) _) (by simp; omega) _, blk_far (blk_far q2.hc (by simp; omega) _) (by simp; omega) _, q2.n⟩, ?_, by omega, by omega, by omega, q7, q8, below_set (below_set q9 (Nat.le_refl _)) (Nat.le_refl _)⟩
   rw [cell_far (show bm ≠ w.heap.size by omega), cell_far (show bm ≠ w.heap.size by omega)]
   exact q3

def ws0 : WS := ⟨[], 0, 1, 0⟩
theorem ready_calls (w : World) (bm cm : Nat) (r : Int) : Calls Tryz.prog 152 #[.agg #[.slice (some ⟨bm, 0, none⟩) 1 cm, .int .u32 r]] w fun e w' => ∃ h, e = .returned (.pointer (some ⟨h, 0, none⟩)) ∧ w.heap.size ≤ h ∧ w'.heap[h]? = some (.cells (cc (.slice (some ⟨bm, 0, none⟩) 1 cm) r (.slice none 0 0) ws0) 239 (0, 0)) ∧ Below w.heap.size w w' := by
 have hu := Tryz.underlying226
 have hu3 := Tryz.underlying239
 have hu4 := Tryz.underlying237
 go_enter Tryz.func152, Tryz.ntmps152
 go_wp2
 go_returns
 refine ⟨_, rfl, ?_, ?_, below_alloc (below_alloc (Below.refl _ w) _) _⟩
 ·simp
 ·have h := heap_alloc_new (w.alloc (.cells #[.slice (some ⟨bm, 0, none⟩) 1 cm, .int .u32 r] 226)) (.cells (cc (.slice (some ⟨bm, 0, none⟩) 1 cm) r (.slice none 0 0) ws0) 239)
  rwa [show (w.alloc (.cells #[.slice (some ⟨bm, 0, none⟩) 1 cm, .int .u32 r] 226)).heap.size = w.heap.size + 1 by simp] at h
theorem known1_calls (w : World) (b : Nat) (x : Int) (hx : In x) (hb : w.cell? ⟨b, 0, none⟩ = some (.int .i64 256)) : Calls Tryz.prog 165 #[.slice (some ⟨b, 0, none⟩) 1 1, .agg #[.int .i64 0, .int .i64 x]] w fun e w' => e = .returned (.bool true) ∧ Below w.heap.size w w' := by
 have hu2 := Tryz.underlying122
 have hp := fun W => plain_calls W
 have b0 : decide (0 ≤ x) = true := decide_eq_true hx.1
 have b1 : decide (x < 256) = true := decide_eq_true hx.2
 go_enter Tryz.func165, Tryz.ntmps165
 go_wp2_with (go_at_call 150; refine (hp _).mono ?_; rintro e w1 ⟨rfl, rfl⟩)
 have hb1 : Below w.heap.size w (w.alloc (.cells #[.int .i64 0, .int .i64 x] 122)) := below_alloc (Below.refl _ w) _
 have hg1 := heap_alloc_new w (.cells #[.int .i64 0, .int .i64 x] 122)
 have hb' := (hb1.cell (World.block_lt_of_cell? w _ hb)).trans hb
 generalize w.alloc (.cells #[.int .i64 0, .int .i64 x] 122) = w1 at hb1 hg1 hb' ⊢
 have z0 : w1.cell? ⟨w.heap.size, 0, none⟩ = some (.int .i64 0) := (blk_cell hg1 0).trans rfl
 have z1 : w1.cell? ⟨w.heap.size, 1, none⟩ = some (.int .i64 x) := (blk_cell hg1 1).trans rfl
 repeat (go_quiet (fail); try go_wp2)
 go_returns
 exact ⟨rfl, by first | exact hb1 | exact pw_below_drewN hb1 _⟩
end Go.Proofs.YtbdbobjdlomjnaaGreatDoor.Ec

namespace Go.Proofs.YtbdbobjdlomjnaaGreatDoor.Ec
set_option linter.unusedVariables false
set_option linter.unusedSimpArgs false
def addD : List Int → Int → List Int × Int
 | [], x => ([], x)
 | d :: l, x => (((addD l x).2 + d) % 256 :: (addD l x).1, ((addD l x).2 + d) / 256)
theorem addD_len (x : Int) : ∀ l, (addD l x).1.length = l.length
 | [] => rfl
 | d :: l => by simp [addD, addD_len x l]
theorem addD_dg (x : Int) : ∀ l, Dg (addD l x).1
 | [] => fun _ h => absurd h List.not_mem_nil
 | d :: l => fun y hy => by
  simp only [addD, List.mem_cons] at hy
  rcases hy with rfl | hy
  ·omega
  ·exact addD_dg x l y hy
theorem addD_val (x : Int) : ∀ l, val (addD l x).1 + (addD l x).2 * 256 ^ l.length = val l + x
 | [] => by simp [addD, val]
 | d :: l => by
  have ih := addD_val x l
  simp only [addD, val, addD_len, List.length_cons, pow_succ']
  have e : ((addD l x).2 + d) = ((addD l x).2 + d) % 256 + ((addD l x).2 + d) / 256 * 256 := by omega
  generalize ((addD l x).2 + d) / 256 = u at *
  generalize ((addD l x).2 + d) % 256 = v at *
  generalize (addD l x).2 = y at *
  generalize (256 : Int) ^ l.length = P at *
  have e1 : (y + d) * P = v * P + u * (P * 256) := by
   rw [e, Int.add_mul, Int.mul_comm P 256, Int.mul_assoc]
  rw [Int.add_mul] at e1
  omega
theorem addD_car {x : Int} (hx : 0 ≤ x) : ∀ l, Dg l → 0 ≤ (addD l x).2 ∧ (addD l x).2 ≤ x + 1
 | [], _ => by simp only [addD]; omega
 | d :: l, h => by
  have ih := addD_car hx l (fun y hy => h y (List.mem_cons_of_mem _ hy))
  have := h d (List.mem_cons_self ..)
  simp only [addD]
  omega
theorem addD_of {l : List Int} {x : Int} (hl : Dg l) (hx : 0 ≤ x) (hb : val l + x < 256 ^ l.length) : val (addD l x).1 = val l + x := by
 have h1 := addD_val x l
 have h2 := (addD_car hx l hl).1
 have h3 := (val_bd _ (addD_dg x l)).1
 have hp := pow_pos l.length
 rcases Int.lt_or_le 0 (addD l x).2 with h | h
 ·have := Int.mul_le_mul_of_nonneg_right (show 1 ≤ (addD l x).2 by omega) (show 0 ≤ (256 : Int) ^ l.length by omega)
  omega
 ·have : (addD l x).2 = 0 := by omega
  rw [this] at h1
  omega
structure RS where
 c : List Int
 N : List Int
 r : Int
def absR (s : RS) : AS := ⟨s.c, val s.N, s.N.length, s.r⟩
structure ROk (s : RS) : Prop where
 a : AI (absR s)
 d : Dg s.N
def s0R : RS := ⟨List.replicate 256 1, [0, 0, 0, 0, 0], 4294967295⟩
theorem absR0 : absR s0R = s0A := rfl
theorem rok0 : ROk s0R := ⟨ai0, Dg_rep 5 (by decide)⟩
def qR (s : RS) : Int := s.r / sumI s.c
def r1R (s : RS) (x : Int) : Int := qR s * s.c.getD x.toNat 0
def stepR (s : RS) (x : Int) : RS := ⟨countC s.c x, (addD s.N (qR s * lowC s.c x)).1 ++ List.replicate (nsh (r1R s x)) 0, r1R s x * 256 ^ nsh (r1R s x)⟩
theorem val_zeros (l : List Int) (k : Nat) : val (l ++ List.replicate k 0) = val l * 256 ^ k := by rw [val_append, val_rep0, List.length_replicate]; omega
theorem stepR_of {s : RS} {x : Int} (h : ROk s) (hx : In x) : ROk (stepR s x) ∧ absR (stepR s x) = stepA (absR s) x := by
 obtain ⟨b1, b2, b3, b4, b5, b6⟩ := share_bd h.a hx
 have hb := h.a.b
 have hn := h.a.n
 have e1 : (absR s).V = val s.N := rfl
 have e2 : (absR s).n = s.N.length := rfl
 have e3 : qA (absR s) * lowC (absR s).c x = qR s * lowC s.c x := rfl
 rw [e3] at b1 b3
 rw [e1, e2] at hb
 rw [e2] at hn
 have hp : (256 : Int) ^ (s.N.length - 1) ≤ 256 ^ s.N.length := by
  obtain ⟨m, hm⟩ : ∃ m, s.N.length = m + 1 := ⟨s.N.length - 1, by omega⟩
  rw [hm, Nat.add_sub_cancel, pow_succ']
  have := pow_pos m
  omega
 have hv := addD_of h.d b1 (by omega)
 have hd : Dg (stepR s x).N := Dg_append (addD_dg _ _) (Dg_rep _ (by decide))
 have e : absR (stepR s x) = stepA (absR s) x := by
  unfold absR stepR stepA
  rw [AS.mk.injEq]
  refine ⟨rfl, ?_, ?_, rfl⟩
  ·show val (_ ++ _) = _
   rw [val_zeros, hv]
   rfl
  ·show (_ ++ _ : List Int).length = _
   rw [List.length_append, addD_len, List.length_replicate]
   rfl
 exact ⟨⟨e ▸ stepA_ok h.a hx, hd⟩, e⟩
def stepsR (s : RS) : List Int → RS
 | [] => s
 | x :: l => stepsR (stepR s x) l
theorem stepsR_of : ∀ (l : List Int) (s : RS), ROk s → (∀ x ∈ l, In x) → ROk (stepsR s l) ∧ absR (stepsR s l) = stepsA (absR s) l
 | [], s, h, _ => ⟨h, rfl⟩
 | x :: l, s, h, hl => by
  obtain ⟨h1, e1⟩ := stepR_of h (hl x (List.mem_cons_self ..))
  obtain ⟨h2, e2⟩ := stepsR_of l (stepR s x) h1 (fun y hy => hl y (List.mem_cons_of_mem _ hy))
  exact ⟨h2, by rw [stepsR, e2, e1]; rfl⟩
theorem stepsR_enc {l : List Int} (hl : ∀ x ∈ l, In x) : (stepsR s0R l).N = encV l := by
 obtain ⟨h, e⟩ := stepsR_of l s0R rok0 hl
 obtain ⟨d1, d2, d3⟩ := encV_of hl
 rw [absR0] at e
 refine val_inj _ _ h.d d1 ?_ ?_
 ·rw [d2, ← e]; rfl
 ·rw [d3, ← e]; rfl
def beyG (r : Int) : List Int → List Int → Int → Int
 | [], _, d => d
 | n :: N, b, d => if d * 256 + b.headD 0 - n < 0 ∧ d * 256 + b.headD 0 - n < -r ∨ d * 256 + b.headD 0 - n > 2 * r then (if d * 256 + b.headD 0 - n < 0 then -1 else r) else beyG r N b.tail (d * 256 + b.headD 0 - n)
def beyV (b N : List Int) (r : Int) : Int := if b.length < N.length then -1 else beyG r N b 0
theorem beyG_of (r : Int) (hr : 0 < r) : ∀ (N b : List Int) (d : Int), Dg N → Dg b → N.length ≤ b.length → 0 ≤ d * 256 ^ N.length + val (b.take N.length) - val N → d * 256 ^ N.length + val (b.take N.length) - val N < r → beyG r N b d = d * 256 ^ N.length + val (b.take N.length) - val N
 | [], b, d, _, _, _, _, _ => by simp [beyG, val]
 | n :: N, [], d, _, _, h, _, _ => by simp at h
 | n :: N, c :: b, d, hN, hb, hl, h0, h1 => by
  have hN' : Dg N := fun y hy => hN y (List.mem_cons_of_mem _ hy)
  have hb' : Dg b := fun y hy => hb y (List.mem_cons_of_mem _ hy)
  have hl' : N.length ≤ b.length := by simpa using hl
  have e : d * 256 ^ (n :: N).length + val ((c :: b).take (n :: N).length) - val (n :: N) = (d * 256 + c - n) * 256 ^ N.length + val (b.take N.length) - val N := by
   have ht : (b.take N.length).length = N.length := by rw [List.length_take]; omega
   simp only [List.length_cons, List.take_succ_cons, val, ht, pow_succ']
   rw [Int.sub_mul, Int.add_mul, Int.mul_comm (256 ^ N.length) 256, ← Int.mul_assoc]
   omega
  rw [e] at h0 h1 ⊢
  clear e
  have bN := val_bd N hN'
  have bb := val_bd _ (Dg_take hb' N.length)
  rw [List.length_take, Nat.min_eq_left hl'] at bb
  have hp := pow_pos N.length
  have ih := beyG_of r hr N b (d * 256 + c - n) hN' hb' hl' h0 h1
  have key : ∀ D : Int, 0 ≤ D * 256 ^ N.length + val (b.take N.length) - val N → D * 256 ^ N.length + val (b.take N.length) - val N < r → ¬ (D < 0 ∧ D < -r ∨ D > 2 * r) := by
   intro D h0 h1
   have hD0 : 0 ≤ D := by
    rcases Int.lt_or_le D 0 with h | h
    ·have := Int.mul_le_mul_of_nonneg_right (show D ≤ -1 by omega) (show 0 ≤ (256 : Int) ^ N.length by omega)
     omega
    ·exact h
   have hD1 : D ≤ r := by
    rcases Int.lt_or_le r D with h | h
    ·have h2 := Int.mul_le_mul_of_nonneg_right (show r + 1 ≤ D by omega) (show 0 ≤ (256 : Int) ^ N.length by omega)
     have h3 := Int.mul_le_mul_of_nonneg_left (show 1 ≤ (256 : Int) ^ N.length by omega) (show 0 ≤ r by omega)
     rw [Int.add_mul] at h2
     omega
    ·exact h
   omega
  unfold beyG
  exact (if_neg (key (d * 256 + c - n) h0 h1)).trans ih
theorem beyV_of {b N : List Int} {r : Int} (hr : 0 < r) (hN : Dg N) (hb : Dg b) (hl : N.length ≤ b.length) (h0 : 0 ≤ val (b.take N.length) - val N) (h1 : val (b.take N.length) - val N < r) : beyV b N r = val (b.take N.length) - val N := by
 unfold beyV
 rw [if_neg (by omega), beyG_of r hr N b 0 hN hb hl (by omega) (by omega)]
 omega
def foundR (s : RS) (d : Int) : Int := findC s.c (min (d / qR s) (sumI s.c - 1))
def decR (b : List Int) : Nat → RS → Option (List Int × RS)
 | 0, s => some ([], s)
 | n + 1, s => if beyV b s.N s.r < 0 then none else (decR b n (stepR s (foundR s (beyV b s.N s.r)))).map fun t => (foundR s (beyV b s.N s.r) :: t.1, t.2)
theorem foundR_in {s : RS} {d : Int} (h : ROk s) (h0 : 0 ≤ d) : In (foundR s d) := by
 have hq := (qA_bd h.a).1
 have e : qA (absR s) = qR s := rfl
 rw [e] at hq
 have hs := h.a.m.ge
 have e2 : (absR s).c = s.c := rfl
 rw [e2] at hs
 have hd : 0 ≤ d / qR s := Int.ediv_nonneg h0 (by omega)
 have := findC_lt s.c (min (d / qR s) (sumI s.c - 1)) (by omega) (by omega)
 have hn := h.a.m.n
 rw [e2] at hn
 unfold foundR In
 omega
theorem decR_sound {b : List Int} : ∀ (n : Nat) (s : RS) (l : List Int) (t : RS), ROk s → decR b n s = some (l, t) → l.length = n ∧ (∀ x ∈ l, In x) ∧ t = stepsR s l
 | 0, s, l, t, _, h => by
  simp only [decR, Option.some.injEq, Prod.mk.injEq] at h
  obtain ⟨rfl, rfl⟩ := h
  exact ⟨rfl, fun _ h => absurd h List.not_mem_nil, rfl⟩
 | n + 1, s, l, t, hs, h => by
  unfold decR at h
  split at h
  ·cases h
  ·rename_i h0
   have hx := foundR_in hs (Int.not_lt.1 h0)
   generalize foundR s (beyV b s.N s.r) = x at *
   simp only [Option.map_eq_some_iff] at h
   obtain ⟨⟨l1, t1⟩, h1, h2⟩ := h
   simp only [Prod.mk.injEq] at h2
   obtain ⟨rfl, rfl⟩ := h2
   obtain ⟨a, c, d⟩ := decR_sound n _ _ _ (stepR_of hs hx).1 h1
   refine ⟨by simp [a], fun y hy => ?_, d⟩
   rcases List.mem_cons.1 hy with rfl | hy
   ·exact hx
   ·exact c y hy
theorem decR_complete {b : List Int} (hb : Dg b) : ∀ (l : List Int) (s : RS), ROk s → (∀ x ∈ l, In x) → val b = (stepsA (absR s) l).V → b.length = (stepsA (absR s) l).n → decR b l.length s = some (l, stepsR s l)
 | [], s, _, _, _, _ => rfl
 | x :: l, s, hs, hl, hv, hn => by
  have hx := hl x (List.mem_cons_self ..)
  obtain ⟨f1, f2, f3, f4, f5⟩ := find_next hb hs.a hl hv hn
  obtain ⟨h1, e1⟩ := stepR_of hs hx
  have g1 : (absR s).n = s.N.length := rfl
  have g2 : (absR s).V = val s.N := rfl
  have g3 : qA (absR s) = qR s := rfl
  have g4 : (absR s).c = s.c := rfl
  have g6 : (absR s).r = s.r := rfl
  have hr := hs.a.r
  rw [g1] at f1
  rw [g1, g2, g6] at f2
  rw [g1, g2, g3, g4] at f3
  rw [g6] at hr
  have hbe := beyV_of (by omega) hs.d hb f1 f2.1 f2.2
  have hf : foundR s (beyV b s.N s.r) = x := by rw [hbe]; exact f3
  have ih := decR_complete hb l (stepR s x) h1 (fun y hy => hl y (List.mem_cons_of_mem _ hy)) (by rw [e1]; exact hv) (by rw [e1]; exact hn)
  rw [List.length_cons, decR, if_neg (by rw [hbe]; omega), hf, ih]
  rfl
def unpackR (n : Nat) (b : List Int) : Option (List Int) := (decR b n s0R).bind fun t => if t.2.N = b then some t.1 else none
theorem unpackR_iff {n : Nat} {b l : List Int} (hb : Dg b) : unpackR n b = some l ↔ l.length = n ∧ (∀ x ∈ l, In x) ∧ encV l = b := by
 unfold unpackR
 constructor
 ·intro h
  obtain ⟨⟨l1, t⟩, h1, h2⟩ := Option.bind_eq_some_iff.1 h
  simp only at h2
  split at h2
  ·rename_i he
   cases h2
   obtain ⟨a, c, rfl⟩ := decR_sound n _ _ _ rok0 h1
   exact ⟨a, c, by rw [← stepsR_enc c]; exact he⟩
  ·cases h2
 ·rintro ⟨rfl, hl, he⟩
  obtain ⟨d1, d2, d3⟩ := encV_of hl
  rw [he] at d2 d3
  have := decR_complete hb l s0R rok0 hl (by rw [absR0]; exact d3) (by rw [absR0]; exact d2)
  rw [this]
  have he' : (stepsR s0R l).N = b := (stepsR_enc hl).trans he
  simp [he']
theorem unpack_eq {n : Nat} {b : List Int} (hb : Dg b) : unpackR n b = unpackV n b := by
 cases h : unpackV n b with
 | none =>
  cases h' : unpackR n b with
  | none => rfl
  | some l =>
   have := (unpackV_iff hb).2 ((unpackR_iff hb).1 h')
   rw [h] at this
   cases this
 | some l => exact (unpackR_iff hb).2 ((unpackV_iff hb).1 h)
theorem stepsA_n : ∀ (l : List Int) (s : AS), (stepsA s l).n ≤ s.n + 2 * l.length
 | [], s => by simp [stepsA]
 | x :: l, s => by
  have ih := stepsA_n l (stepA s x)
  have e : (stepA s x).n = s.n + nsh (r1A s x) := rfl
  have := nsh_le (r1A s x)
  simp only [stepsA, List.length_cons]
  omega
theorem encV_len {l : List Int} (hl : ∀ x ∈ l, In x) : (encV l).length ≤ 5 + 2 * l.length := by
 rw [(encV_of hl).2.1]
 exact stepsA_n l s0A
theorem In_dg {l : List Int} : (∀ x ∈ l, In x) ↔ Dg l := ⟨fun h d hd => ⟨(h d hd).1, by have := (h d hd).2; omega⟩, fun h d hd => ⟨(h d hd).1, by have := (h d hd).2; omega⟩⟩
end Go.Proofs.YtbdbobjdlomjnaaGreatDoor.Ec
