/- Symbols of one model, read: Decode. No condition. -/
import Derived.Test.YtbdbobjdlomjnaaGreatDoorZ5

namespace Go.Proofs.YtbdbobjdlomjnaaGreatDoor.Ec
set_option linter.unusedVariables false
set_option linter.unusedSimpArgs false
open Go Go.RowKit Go.Proofs.YtbdbobjdlomjnaaGreatDoor.P Go.Proofs.YtbdbobjdlomjnaaGreatDoor.X Go.Proofs.YtbdbobjdlomjnaaGreatDoorW.PrintWords Go.Proofs.YtbdbobjdlomjnaaGreatDoorW.PrintLast Go.Proofs.YtbdbobjdlomjnaaGreatDoorW.PrintMore
set_option maxHeartbeats 16000000
set_option maxRecDepth 100000
theorem readsV_succ (b : List Int) : ∀ (k : Nat) (p : Int × Nat), nextV b (readsV b k p) = readsV b (k + 1) p
 | 0, _ => rfl
 | k + 1, p => by rw [readsV, readsV_succ b k]; rfl
def OO (hr h g gc bm k : Nat) : Prop := k ≠ hr ∧ k ≠ h ∧ k ≠ g ∧ k ≠ gc ∧ k ≠ bm
theorem wrapZ {x : Int} : IntKind.u32.wrap x = x % 4294967296 := IntKind.wrap_u32 x
theorem Cd.keptN {base : Nat} {w w1 : World} {h g gc bm cm : Nat} {vo : Value} {s : CS} {S : Nat → Prop} (a : Cd base w h g gc bm cm vo s) (hk : Kept w w1 S) (h1 : ¬ S h) (h2 : ¬ S g) (h3 : ¬ S gc) (h4 : ¬ S bm) (ho : Kd.R (Kd.int .u8) 5 w base (fun k => PP h g gc bm k ∧ ¬ S k) vo s.w.out) : Cd base w1 h g gc bm cm vo s :=
 ⟨⟨a.d.hb, blk_kept a.d.hh hk h1, Kd.R_mono (Kd.R_step ho (fun k hk' hl => hk.2 k hl hk'.2)) (fun _ h => h.1), a.d.hP⟩, a.m.kept hk h2 h3, cell_kept a.p hk h4, a.hg, a.hgc, a.n1, a.n2, a.n3, a.n4, a.n5⟩
def decE (o : Option (List Int)) (base : Nat) (e : Ending) (w' : World) : Prop := match o with
 | some l => ∃ vo, e = .returned (.tuple #[vo, .int .i64 0]) ∧ Kd.R k122 122 w' base (fun _ => True) vo (codesOf l)
 | none => e = .returned (.tuple #[.slice none 0 0, .int .i64 11])
theorem decode_calls (w : World) (b : Nat) (M : Option Addr) (cM n : Nat) (B : Option Addr) (bc : Nat) (bs : List Int) (hn : n ≤ 65536) (hd : Dg bs) (hbl : bs.length ≤ 1073741824) (hb : w.cell? ⟨b, 0, none⟩ = some (.int .i64 256)) (hM : Kd.C (Kd.int .i64) w M n (List.replicate n 0)) (hB : Kd.C (Kd.int .u8) w B bs.length bs) :
  Calls Tryz.prog 102 #[.slice (some ⟨b, 0, none⟩) 1 1, .slice M n cM, .slice B bs.length bc] w fun e w' => decE (unpackV n bs) w.heap.size e w' ∧ Below w.heap.size w w' := by
 have hu := Tryz.underlying226
 have hu2 := Tryz.underlying122
 have hu3 := Tryz.underlying239
 have hu5 := Tryz.underlying233
 have hbeg := begun_calls w b hb
 have hp := fun W => plain_calls W
 go_enter Tryz.func102, Tryz.ntmps102
 go_upto_region 2 with (first | (go_at_call 149; refine hbeg.mono ?_; rintro e w1 ⟨g, gc, bm, cm, rfl, hM1, hp1, hg1, hgc1, hbm1, n4, n5, hb1⟩) | go_step3)
 have hb2 : Below w1.heap.size w1 (w1.alloc (.cells #[.slice (some ⟨bm, 0, none⟩) 1 cm, .int .u32 4294967295] 226)) := below_alloc (Below.refl _ w1) _
 have hg2 := heap_alloc_new w1 (.cells #[.slice (some ⟨bm, 0, none⟩) 1 cm, .int .u32 4294967295] 226)
 generalize w1.alloc (.cells #[.slice (some ⟨bm, 0, none⟩) 1 cm, .int .u32 4294967295] 226) = w2 at hb2 hg2 ⊢
 have hB2 := below_step hb1 hb2
 go_wp2_with (go_step3)
 go_loopw [9, 33] (fun v9 v wr => ∃ i : Nat, i ≤ n ∧ v9 = .bool true ∧ v = .int .i64 i ∧ w2 = wr) (fun _ v _ => n - (intV v).toNat)
 case atStart => exact ⟨0, by omega, rfl, rfl, rfl⟩
 case round =>
  obtain ⟨i, hi, rfl, rfl, rfl⟩ := hrel
  rcases Nat.lt_or_ge i n with hlt | hge
  ·have hii : (i : Int) < (n : Int) := by omega
   obtain ⟨ad, eA, y0⟩ := Kd.at_int (Kd.C_below hM hB2) (i : Int) (by omega) hii
   subst eA
   have hrd : rd (List.replicate n (0 : Int)) (i : Int) = 0 := by simp [rd, List.getD, List.getElem?_replicate, hlt]
   rw [hrd, Int.toNat_natCast] at y0
   go_wp2_with (first | (go_at_call 150; refine (hp _).mono ?_; rintro e w3 ⟨rfl, rfl⟩) | go_step3)
   go_roundw
   case rel => exact ⟨i + 1, by omega, rfl, rfl, trivial⟩
   case measure => simp [intV]; omega
  ·obtain rfl : n = i := by omega
   have b6 : decide (65536 < (n : Int)) = false := decide_eq_false (by omega)
   go_upto_region 13 with (go_step3)
   clear hbeg
   have hb3 : Below w2.heap.size w2 (w2.alloc (.cells (rc B bs.length bc 0 0) 233)) := below_alloc (Below.refl _ w2) _
   have hg3 := heap_alloc_new w2 (.cells (rc B bs.length bc 0 0) 233)
   change Code.wp _ _ _ _ (w2.alloc (.cells (rc B bs.length bc 0 0) 233))
   generalize w2.alloc (.cells (rc B bs.length bc 0 0) 233) = w3 at hb3 hg3 ⊢
   have hB3 := below_step hB2 hb3
   have hk3 : Kept w3 w3 (fun k => k = w2.heap.size) := Kept.refl _ _
   have hrb : w.heap.size ≤ w2.heap.size := hB2.size
   have hrd0 : ∀ j, 0 ≤ (readsV bs j (0, 0)).1 ∧ (readsV bs j (0, 0)).1 < 4294967296 := fun j => readsV_bd hd j _ (by decide)
   have hra0 : ∀ j, (readsV bs j (0, 0)).2 = j := fun j => by rw [readsV_at]; simp
   go_wp2
   go_loopw [67] (fun v wr => ∃ j : Nat, j ≤ 5 ∧ v = .int .i64 j ∧ wr.heap[w2.heap.size]? = some (.cells (rc B bs.length bc (readsV bs j (0, 0)).2 (readsV bs j (0, 0)).1) 233 (0, 0)) ∧ Below w.heap.size w wr ∧ Kept w3 wr (fun k => k = w2.heap.size)) (fun v _ => 5 - (intV v).toNat)
   case atStart => exact ⟨0, by omega, rfl, hg3, hB3, hk3⟩
   case round =>
    clear hk3
    obtain ⟨j, hj, rfl, hgr, hBr, hkr⟩ := hrel
    rcases Nat.lt_or_ge j 5 with hlt | hge
    ·have hii : (j : Int) < 5 := by omega
     have hnx := next_calls w wr w2.heap.size B bc _ _ bs hgr (Kd.C_below hB hBr) hd (hrd0 j).1 (hrd0 j).2 (by rw [hra0]; omega) hrb hBr
     rw [show ((readsV bs j (0, 0)).1, (readsV bs j (0, 0)).2) = readsV bs j (0, 0) from rfl, readsV_succ] at hnx
     go_wp2_with (go_at_call 151; refine hnx.mono ?_; rintro e w5 ⟨rfl, hg5, hB5, hk5⟩)
     go_roundw
     case rel => exact ⟨j + 1, by omega, rfl, hg5, hB5, hkr.then_ hk5 (fun k hk => .inl hk)⟩
     case measure => simp [intV]; omega
    ·obtain rfl : j = 5 := by omega
     have hst : (readsV bs 5 (0, 0)).1 = startV bs := rfl
     rw [hst, hra0] at hgr
     have hs0 : 0 ≤ startV bs ∧ startV bs < 4294967296 := hrd0 5
     clear hrd0 hra0 hst hg3
     -- the models, and the coder
     have l1 := blk_lt hM1.hm
     have l2 := blk_lt hM1.hc
     have l3 : bm < w1.heap.size := World.block_lt_of_cell? _ _ hp1
     have l4 := blk_lt hg2
     have l6 := hb2.size
     have hb13 := below_step hb2 hb3
     have hMr : Mo wr g gc (List.replicate 256 1) 256 := (hM1.below hb13).kept hkr (fun e => by have e' : g = w2.heap.size := e; omega) (fun e => by have e' : gc = w2.heap.size := e; omega)
     have hpr : wr.cell? ⟨bm, 0, none⟩ = some (.pointer (some ⟨g, 0, none⟩)) := cell_kept ((hb13.cell (World.block_lt_of_cell? _ _ hp1)).trans hp1) hkr (fun e => by have e' : bm = w2.heap.size := e; omega)
     have hgs := blk_kept (blk_below hg2 hb3) hkr (fun e => by have e' : w1.heap.size = w2.heap.size := e; omega)
     have z0 : wr.cell? ⟨w1.heap.size, 0, none⟩ = some (.slice (some ⟨bm, 0, none⟩) 1 cm) := (blk_cell hgs 0).trans rfl
     have z1 : wr.cell? ⟨w1.heap.size, 1, none⟩ = some (.int .u32 4294967295) := (blk_cell hgs 1).trans rfl
     have hrdy := ready_calls wr bm cm 4294967295
     go_upto_region 19 with (first | (go_at_call 152; refine hrdy.mono ?_; rintro e w4 ⟨h, rfl, hh4, hg4, hb4⟩))
     have l7 := hkr.1
     have l8 := hb3.size
     have l9 := blk_lt hgr
     have hcd : Cd w.heap.size w4 h g gc bm cm (.slice none 0 0) s0C := cd_new hg4 (hMr.below hb4) ((hb4.cell (World.block_lt_of_cell? _ _ hpr)).trans hpr) (by have := hBr.size; omega) hg1 hgc1 (by omega) (by omega) (by omega) n4 n5
     have hgr4 := blk_below hgr hb4
     have hB4 := below_step hBr hb4
     have nr : w2.heap.size ≠ h ∧ w2.heap.size ≠ g ∧ w2.heap.size ≠ gc ∧ w2.heap.size ≠ bm := ⟨by omega, by omega, by omega, by omega⟩
     generalize w2.heap.size = hr at *
     clear hMr hpr hgs z0 z1 hrdy hg4 hb4 hh4 hM1 hp1 hg2 hb2 hb13 hb3 l1 l2 l3 l4 l6 l7 l8 l9 hkr hgr hBr hB3 hB2 hb1 hbm1
     have OOf : ∀ W : World, Below w4.heap.size w4 W → True := fun _ _ => trivial
     clear OOf
     go_wp2_with (go_step3)
     go_loopw [16, 76] (fun v16 v wr => ∃ (i : Nat) (pre : List Int) (s : CS) (code : Int) (at_ : Nat) (vo : Value), i ≤ n ∧ v = .int .i64 i ∧ Aside0 (decP bs n s0C (startV bs) 5 = (decP bs (n - i) s code at_).map fun t => (pre ++ t.1, t.2)) ∧ COk s ∧ Aside0 (nw s.w ≤ 5 + 2 * i ∧ 0 ≤ code ∧ code < 4294967296 ∧ at_ ≤ 5 + 2 * i ∧ pre.length = i) ∧
      Cd w.heap.size wr h g gc bm cm vo s ∧ wr.heap[hr]? = some (.cells (rc B bs.length bc at_ code) 233 (0, 0)) ∧ Kd.R k122 122 wr w.heap.size (OO hr h g gc bm) v16 (codesOf pre) ∧ Below w.heap.size w wr) (fun _ v _ => n - (intV v).toNat)
     case atStart => exact ⟨0, [], s0C, startV bs, 5, _, by omega, rfl, ⟨by rw [Nat.sub_zero]; cases decP bs n s0C (startV bs) 5 <;> simp⟩, cok0, ⟨by decide, hs0.1, hs0.2, by omega, rfl⟩, hcd, hgr4, Kd.R_nil _ _ _ _ _, hB4⟩
     case round =>
      clear hcd hgr4 hB4
      obtain ⟨i, pre, s, code, at_, vo, hi, rfl, HD, hok, HN, hcd, hgr, hR, hB4⟩ := hrel
      have x1 : wr.cell? ⟨hr, 1, none⟩ = some (.int .i64 (at_ : Int)) := (blk_cell hgr 1).trans rfl
      rcases Nat.lt_or_ge i n with hlt | hge
      ·have hii : (i : Int) < (n : Int) := by omega
       obtain ⟨ad, eA, y0⟩ := Kd.at_int (Kd.C_below hM hB4) (i : Int) (by omega) hii
       subst eA
       have hrd : rd (List.replicate n (0 : Int)) (i : Int) = 0 := by simp [rd, List.getD, List.getElem?_replicate, hlt]
       rw [hrd, Int.toNat_natCast] at y0
       obtain ⟨m, hm⟩ : ∃ m, n - i = m + 1 := ⟨n - i - 1, by omega⟩
       by_cases hbt : bs.length < at_
       ·have hbb : decide ((bs.length : Int) < (at_ : Int)) = true := decide_eq_true (by omega)
        have hnone : unpackV n bs = none := by
         unfold unpackV
         rw [HD.out, hm, decP, if_pos hbt]
         rfl
        go_wp2_with (go_step3)
        first | rw [Exit.noGoto_ret] | skip
        go_ret2
        rw [hnone]
        exact ⟨rfl, hB4⟩
       ·have hbb : decide ((bs.length : Int) < (at_ : Int)) = false := decide_eq_false (by omega)
        obtain ⟨hnw, hc0, hc1, hat, hpl⟩ := HN.out
        have hxi := foundV_in hok hc0
        have hmm : MOk s.c := hok.a.m
        obtain ⟨b1, b2, b3, b4, b5, b7⟩ := share_bd hok.a hxi
        have hrr := hok.a.r
        have hqb := qA_bd hok.a
        have hs := hmm.s
        have hge := hmm.ge
        have hrr' : 16777216 ≤ s.r ∧ s.r < 4294967296 := hrr
        have hqb' : 2048 ≤ qC s ∧ qC s * sumI s.c ≤ s.r := hqb
        have hqb2 : qC s ≤ s.r := by
         have := Int.mul_le_mul_of_nonneg_left hge (show 0 ≤ qC s by omega)
         omega
        have hql : 0 ≤ qC s * lowC s.c (foundV s code) ∧ qC s * lowC s.c (foundV s code) ≤ s.r := by
         have a1 : 0 ≤ qC s * lowC s.c (foundV s code) := b1
         have a2 : qC s * lowC s.c (foundV s code) + r1C s (foundV s code) ≤ s.r := b3
         have a3 : 2048 ≤ r1C s (foundV s code) := b2
         omega
        have hlow : 0 ≤ lowC s.c (foundV s code) ∧ lowC s.c (foundV s code) ≤ 8192 := by
         have a1 : 0 ≤ lowC s.c (foundV s code) := b7
         have a2 : lowC s.c (foundV s code) + s.c.getD (foundV s code).toNat 0 ≤ sumI s.c := b5
         have a3 : 1 ≤ s.c.getD (foundV s code).toNat 0 := b4
         omega
        have hdv : 0 ≤ code / qC s ∧ code / qC s < 4294967296 := ⟨Int.ediv_nonneg hc0 (by omega), by
         have := Int.ediv_le_self (qC s) hc0
         omega⟩
        clear b1 b2 b3 b4 b5 b7 hrr hqb
        have hq : s.r.tdiv (sumI s.c) = qC s := Int.tdiv_eq_ediv_of_nonneg (by omega)
        have hwz : IntKind.u32.wrap (sumI s.c) = sumI s.c := by rw [wrapZ]; omega
        have hnz : ¬ sumI s.c = 0 := by omega
        have hwq : IntKind.u32.wrap (qC s) = qC s := by rw [wrapZ]; omega
        have hfound : findC s.c (min (code / qC s) (sumI s.c - 1)) = foundV s code := rfl
        obtain ⟨c0, c1, cf1⟩ := hcd.cell
        have hbd : Below wr.heap.size wr wr.drew := below_drew (Below.refl _ wr)
        have hwh := whole_calls w.heap.size wr.drew h g gc bm cm vo s (hcd.below hbd)
        go_upto_region 24 with (go_step3)
        clear x1
--REGION24
        refine start_ (n := 13) (S := fun w' => w'.cell? ⟨h, 1, none⟩ = some (.int .u32 s.r)) (ds := []) #[false, false, false, false, false, false, false, false, false, false, false, false, false] (by kernel_rfl) rfl rfl (c1) (fun hHeld => ?_)
        refine pure_ (i := 0) (N := some 87) (v := ?_) (a' := ?_) #[true, false, false, false, false, false, false, false, false, false, false, false, false] rfl rfl (by kernel_rfl) (fun _ _ _ h => h) (Or.inl ⟨by rfl, ?_⟩) ?_ ?_
        rotate_left
        ·intro w'
         go_simp
         with_reducible rfl
        rotate_left
        ·simp only [Act.put, List.setIfInBounds_toArray, List.set_cons_zero, List.set_cons_succ, i64_w, i32_w]
         rfl
        refine pure_ (i := 1) (N := some 88) (v := ?_) (a' := ?_) #[true, true, false, false, false, false, false, false, false, false, false, false, false] rfl rfl (by kernel_rfl) (fun _ _ _ h => h) (Or.inl ⟨by rfl, ?_⟩) ?_ ?_
        rotate_left
        ·intro w'
         go_simp
         with_reducible rfl
        rotate_left
        ·simp only [Act.put, List.setIfInBounds_toArray, List.set_cons_zero, List.set_cons_succ, i64_w, i32_w]
         rfl
        refine pure_ (i := 2) (N := some 89) (v := ?_) (a' := ?_) #[true, true, true, false, false, false, false, false, false, false, false, false, false] rfl rfl (by kernel_rfl) (fun _ _ _ h => h) (Or.inl ⟨by rfl, ?_⟩) ?_ ?_
        rotate_left
        ·intro w'
         go_simp
         with_reducible rfl
        rotate_left
        ·simp only [Act.put, List.setIfInBounds_toArray, List.set_cons_zero, List.set_cons_succ, i64_w, i32_w]
         rfl
        refine pure_ (i := 3) (N := some 90) (v := ?_) (a' := ?_) #[true, true, true, true, false, false, false, false, false, false, false, false, false] rfl rfl (by kernel_rfl) (fun _ _ _ h => h) (Or.inl ⟨by rfl, ?_⟩) ?_ ?_
        rotate_left
        ·intro w'
         go_simp
         with_reducible rfl
        rotate_left
        ·simp only [Act.put, List.setIfInBounds_toArray, List.set_cons_zero, List.set_cons_succ, i64_w, i32_w]
         rfl
        refine pure_ (i := 5) (N := some 92) (v := ?_) (a' := ?_) #[true, true, true, true, false, true, false, false, false, false, false, false, false] rfl rfl (by kernel_rfl) (fun _ _ _ h => h) (Or.inl ⟨by rfl, ?_⟩) ?_ ?_
        rotate_left
        ·intro w'
         go_simp
         with_reducible rfl
        rotate_left
        ·simp only [Act.put, List.setIfInBounds_toArray, List.set_cons_zero, List.set_cons_succ, i64_w, i32_w]
         rfl
        refine pure_ (i := 6) (N := some 93) (v := ?_) (a' := ?_) #[true, true, true, true, false, true, true, false, false, false, false, false, false] rfl rfl (by kernel_rfl) (fun _ _ _ h => h) (Or.inl ⟨by rfl, ?_⟩) ?_ ?_
        rotate_left
        ·intro w'
         go_simp
         with_reducible rfl
        rotate_left
        ·simp only [Act.put, List.setIfInBounds_toArray, List.set_cons_zero, List.set_cons_succ, i64_w, i32_w]
         rfl
        refine pure_ (i := 7) (N := some 94) (v := ?_) (a' := ?_) #[true, true, true, true, false, true, true, true, false, false, false, false, false] rfl rfl (by kernel_rfl) (fun _ _ _ h => h) (Or.inl ⟨by rfl, ?_⟩) ?_ ?_
        rotate_left
        ·intro w'
         go_simp
         with_reducible rfl
        rotate_left
        ·simp only [Act.put, List.setIfInBounds_toArray, List.set_cons_zero, List.set_cons_succ, i64_w, i32_w]
         rfl
        refine pure_ (i := 8) (N := some 95) (v := ?_) (a' := ?_) #[true, true, true, true, false, true, true, true, true, false, false, false, false] rfl rfl (by kernel_rfl) (fun _ _ _ h => h) (Or.inl ⟨by rfl, ?_⟩) ?_ ?_
        rotate_left
        ·intro w'
         go_simp
         with_reducible rfl
        rotate_left
        ·simp only [Act.put, List.setIfInBounds_toArray, List.set_cons_zero, List.set_cons_succ, i64_w, i32_w]
         rfl
        refine take_ (i := 4) (N := some 91) (v := ?_) (a' := ?_) #[true, true, true, true, true, true, true, true, true, false, false, false, false] rfl rfl (by kernel_rfl) (fun _ _ _ h => h) (Or.inl ⟨by rfl, ?_⟩) hHeld ?_ ?_
        rotate_left
        ·intro w' s0
         go_simp
         with_reducible rfl
        rotate_left
        ·simp only [Act.put, List.setIfInBounds_toArray, List.set_cons_zero, List.set_cons_succ, i64_w, i32_w]
         rfl
        refine one_ (i := 9) (N := some 96) #[true, true, true, true, true, true, true, true, true, true, false, false, false] rfl rfl (by kernel_rfl) (by decide) (fun K hK => ?_)
        refine goes_ Tryz.func153 (by kernel_rfl) rfl #[.pointer (some ⟨h, 0, none⟩), .int .i64 0] (by rfl) rfl rfl (by simp only [List.map_toArray, List.map_cons, List.map_nil]; rfl) ?_
        with_reducible refine (hwh).mono ?_
        rintro e w5 ⟨rfl, rfl⟩
        refine ⟨_, rfl, ?_⟩
        refine hK.out _ _ (hHeld) (fun hHeld => ?_)
        clear hK K
        refine norm_ (a' := ?_) ?_ ?_
        rotate_left
        ·show Act.put _ (some 96) _ = _
         simp only [Act.put, List.setIfInBounds_toArray, List.set_cons_zero, List.set_cons_succ, i64_w, i32_w]
         rfl
        refine pure_ (i := 10) (N := some 97) (v := ?_) (a' := ?_) #[true, true, true, true, true, true, true, true, true, true, true, false, false] rfl rfl (by kernel_rfl) (fun _ _ _ h => h) (Or.inl ⟨by rfl, ?_⟩) ?_ ?_
        rotate_left
        ·intro w'
         go_simp
         with_reducible rfl
        rotate_left
        ·simp only [Act.put, List.setIfInBounds_toArray, List.set_cons_zero, List.set_cons_succ, i64_w, i32_w]
         rfl
        refine pure_ (i := 11) (N := some 98) (v := ?_) (a' := ?_) #[true, true, true, true, true, true, true, true, true, true, true, true, false] rfl rfl (by kernel_rfl) (fun _ _ _ h => h) (Or.inl ⟨by rfl, ?_⟩) ?_ ?_
        rotate_left
        ·intro w'
         go_simp
         with_reducible rfl
        rotate_left
        ·simp only [Act.put, List.setIfInBounds_toArray, List.set_cons_zero, List.set_cons_succ, i64_w, i32_w]
         rfl
        refine pure_ (i := 12) (N := some 19) (v := ?_) (a' := ?_) #[true, true, true, true, true, true, true, true, true, true, true, true, true] rfl rfl (by kernel_rfl) (fun _ _ _ h => h) (Or.inl ⟨by rfl, ?_⟩) ?_ ?_
        rotate_left
        ·intro w'
         go_simp
         with_reducible rfl
        rotate_left
        ·simp only [Act.put, List.setIfInBounds_toArray, List.set_cons_zero, List.set_cons_succ, i64_w, i32_w]
         rfl
        refine done_ (by kernel_rfl) ?_
        
        --END24
        go_upto_region 25 with (fail)
        have hcd5 := hcd.below hbd
        have hgr5 := blk_below hgr hbd
        have hR5 := Kd.R_below hR hbd
        have hB5 := below_step hB4 hbd
        generalize wr.drew = w5 at hcd5 hgr5 hR5 hB5 ⊢
        clear hbd hwh c0 c1 cf1 hcd hgr hR hB4 hHeld hq hwz hnz y0
        have hnq : ¬ qC s = 0 := by omega
        have hdq : code.tdiv (qC s) = code / qC s := Int.tdiv_eq_ediv_of_nonneg hc0
        have hwd : IntKind.u32.wrap (code / qC s) = code / qC s := by rw [wrapZ]; omega
        have r2 : w5.cell? ⟨hr, 2, none⟩ = some (.int .u32 code) := (blk_cell hgr5 2).trans rfl
        have hbd5 : Below w5.heap.size w5 w5.drew := below_drew (Below.refl _ w5)
        have hfind := fun (W : World) (hb : Below w5.heap.size w5 W) => find1_calls w.heap.size W h g gc bm cm vo s (hcd5.below hb) hmm (code / qC s) hdv.1 hdv.2
        have hw64 : wrap64 (code / qC s) = code / qC s := w64 (by omega) (by omega)
        have HW := Aside0.mk hw64
        rw [hfound, ← hw64] at hfind
        clear hw64
--REGION25
        refine start_ (n := 16) (S := fun w' => w'.cell? ⟨hr, 2, none⟩ = some (.int .u32 code)) (ds := [15]) #[false, false, false, false, false, false, false, false, false, false, false, false, false, false, false, false] (by kernel_rfl) rfl rfl (r2) (fun hHeld => ?_)
        refine pure_ (i := 0) (N := some 99) (v := ?_) (a' := ?_) #[true, false, false, false, false, false, false, false, false, false, false, false, false, false, false, false] rfl rfl (by kernel_rfl) (fun _ _ _ h => h) (Or.inl ⟨by rfl, ?_⟩) ?_ ?_
        rotate_left
        ·intro w'
         go_simp
         with_reducible rfl
        rotate_left
        ·simp only [Act.put, List.setIfInBounds_toArray, List.set_cons_zero, List.set_cons_succ, i64_w, i32_w]
         rfl
        refine pure_ (i := 1) (N := some 100) (v := ?_) (a' := ?_) #[true, true, false, false, false, false, false, false, false, false, false, false, false, false, false, false] rfl rfl (by kernel_rfl) (fun _ _ _ h => h) (Or.inl ⟨by rfl, ?_⟩) ?_ ?_
        rotate_left
        ·intro w'
         go_simp
         with_reducible rfl
        rotate_left
        ·simp only [Act.put, List.setIfInBounds_toArray, List.set_cons_zero, List.set_cons_succ, i64_w, i32_w]
         rfl
        refine pure_ (i := 2) (N := some 101) (v := ?_) (a' := ?_) #[true, true, true, false, false, false, false, false, false, false, false, false, false, false, false, false] rfl rfl (by kernel_rfl) (fun _ _ _ h => h) (Or.inl ⟨by rfl, ?_⟩) ?_ ?_
        rotate_left
        ·intro w'
         go_simp
         with_reducible rfl
        rotate_left
        ·simp only [Act.put, List.setIfInBounds_toArray, List.set_cons_zero, List.set_cons_succ, i64_w, i32_w]
         rfl
        refine pure_ (i := 3) (N := some 102) (v := ?_) (a' := ?_) #[true, true, true, true, false, false, false, false, false, false, false, false, false, false, false, false] rfl rfl (by kernel_rfl) (fun _ _ _ h => h) (Or.inl ⟨by rfl, ?_⟩) ?_ ?_
        rotate_left
        ·intro w'
         go_simp
         with_reducible rfl
        rotate_left
        ·simp only [Act.put, List.setIfInBounds_toArray, List.set_cons_zero, List.set_cons_succ, i64_w, i32_w]
         rfl
        refine pure_ (i := 4) (N := some 103) (v := ?_) (a' := ?_) #[true, true, true, true, true, false, false, false, false, false, false, false, false, false, false, false] rfl rfl (by kernel_rfl) (fun _ _ _ h => h) (Or.inl ⟨by rfl, ?_⟩) ?_ ?_
        rotate_left
        ·intro w'
         go_simp
         with_reducible rfl
        rotate_left
        ·simp only [Act.put, List.setIfInBounds_toArray, List.set_cons_zero, List.set_cons_succ, i64_w, i32_w]
         rfl
        refine pure_ (i := 5) (N := some 104) (v := ?_) (a' := ?_) #[true, true, true, true, true, true, false, false, false, false, false, false, false, false, false, false] rfl rfl (by kernel_rfl) (fun _ _ _ h => h) (Or.inl ⟨by rfl, ?_⟩) ?_ ?_
        rotate_left
        ·intro w'
         go_simp
         with_reducible rfl
        rotate_left
        ·simp only [Act.put, List.setIfInBounds_toArray, List.set_cons_zero, List.set_cons_succ, i64_w, i32_w]
         rfl
        refine pure_ (i := 6) (N := some 105) (v := ?_) (a' := ?_) #[true, true, true, true, true, true, true, false, false, false, false, false, false, false, false, false] rfl rfl (by kernel_rfl) (fun _ _ _ h => h) (Or.inl ⟨by rfl, ?_⟩) ?_ ?_
        rotate_left
        ·intro w'
         go_simp
         with_reducible rfl
        rotate_left
        ·simp only [Act.put, List.setIfInBounds_toArray, List.set_cons_zero, List.set_cons_succ, i64_w, i32_w]
         rfl
        refine pure_ (i := 7) (N := some 106) (v := ?_) (a' := ?_) #[true, true, true, true, true, true, true, true, false, false, false, false, false, false, false, false] rfl rfl (by kernel_rfl) (fun _ _ _ h => h) (Or.inl ⟨by rfl, ?_⟩) ?_ ?_
        rotate_left
        ·intro w'
         go_simp
         with_reducible rfl
        rotate_left
        ·simp only [Act.put, List.setIfInBounds_toArray, List.set_cons_zero, List.set_cons_succ, i64_w, i32_w]
         rfl
        refine pure_ (i := 9) (N := some 108) (v := ?_) (a' := ?_) #[true, true, true, true, true, true, true, true, false, true, false, false, false, false, false, false] rfl rfl (by kernel_rfl) (fun _ _ _ h => h) (Or.inl ⟨by rfl, ?_⟩) ?_ ?_
        rotate_left
        ·intro w'
         go_simp
         with_reducible rfl
        rotate_left
        ·simp only [Act.put, List.setIfInBounds_toArray, List.set_cons_zero, List.set_cons_succ, i64_w, i32_w]
         rfl
        refine take_ (i := 8) (N := some 107) (v := ?_) (a' := ?_) #[true, true, true, true, true, true, true, true, true, true, false, false, false, false, false, false] rfl rfl (by kernel_rfl) (fun _ _ _ h => h) (Or.inl ⟨by rfl, ?_⟩) hHeld ?_ ?_
        rotate_left
        ·intro w' s0
         go_simp
         with_reducible rfl
        rotate_left
        ·simp only [Act.put, List.setIfInBounds_toArray, List.set_cons_zero, List.set_cons_succ, i64_w, i32_w]
         rfl
        refine pure_ (i := 10) (N := some 109) (v := ?_) (a' := ?_) #[true, true, true, true, true, true, true, true, true, true, true, false, false, false, false, false] rfl rfl (by kernel_rfl) (fun _ _ _ h => h) (Or.inl ⟨by rfl, ?_⟩) ?_ ?_
        rotate_left
        ·intro w'
         go_simp
         with_reducible rfl
        rotate_left
        ·simp only [Act.put, List.setIfInBounds_toArray, List.set_cons_zero, List.set_cons_succ, i64_w, i32_w]
         rfl
        refine pure_ (i := 11) (N := some 110) (v := ?_) (a' := ?_) #[true, true, true, true, true, true, true, true, true, true, true, true, false, false, false, false] rfl rfl (by kernel_rfl) (fun _ _ _ h => h) (Or.inl ⟨by rfl, ?_⟩) ?_ ?_
        rotate_left
        ·intro w'
         go_simp
         with_reducible rfl
        rotate_left
        ·simp only [Act.put, List.setIfInBounds_toArray, List.set_cons_zero, List.set_cons_succ, i64_w, i32_w]
         rfl
        refine join_ (σ := Nat) 1 #[true, true, true, true, true, true, true, true, true, true, true, true, true, true, true, false] (fun s_ => [(111, .int .i64 (foundV s code)), (112, .agg #[.int .i64 0, .int .i64 (foundV s code)]), (20, .pointer (some ⟨s_, 0, none⟩))]) (fun s_ w' => Below w5.heap.size w5 w' ∧ w'.heap[s_]? = some (.cells #[.int .i64 0, .int .i64 0] 122 (0, 0)) ∧ s_ = w5.heap.size) ?_ ?_
        rotate_left
        ·intro hCont
         refine two_ (i := 12) (j := 14) (Ni := some 111) (Nj := some 20) #[true, true, true, true, true, true, true, true, true, true, true, true, true, false, false, false] #[true, true, true, true, true, true, true, true, true, true, true, true, false, false, true, false] rfl rfl rfl rfl (by kernel_rfl) (by decide) (by decide) (fun K hK => ?_) (fun K hK => ?_)
         ·skip
          refine goes_ Tryz.func154 (by kernel_rfl) rfl #[.pointer (some ⟨h, 0, none⟩), .int .i64 0, .int .i64 (wrap64 (code / qC s))] (by rfl) rfl rfl (by simp only [List.map_toArray, List.map_cons, List.map_nil]; rfl) ?_
          with_reducible refine (hfind _ (below_drew (Below.refl _ _))).mono ?_
          rintro e w6 ⟨rfl, rfl⟩
          refine ⟨_, rfl, ?_⟩
          refine hK.out _ _ (hHeld) (fun hHeld => ?_)
          clear hK K
          refine norm_ (a' := ?_) ?_ ?_
          rotate_left
          ·show Act.put _ (some 111) _ = _
           simp only [Act.put, List.setIfInBounds_toArray, List.set_cons_zero, List.set_cons_succ, i64_w, i32_w]
           rfl
          refine pure_ (i := 13) (N := some 112) (v := ?_) (a' := ?_) #[true, true, true, true, true, true, true, true, true, true, true, true, true, true, false, false] rfl rfl (by kernel_rfl) (fun _ _ _ h => h) (Or.inl ⟨by rfl, ?_⟩) ?_ ?_
          rotate_left
          ·intro w'
           go_simp
           with_reducible rfl
          rotate_left
          ·simp only [Act.put, List.setIfInBounds_toArray, List.set_cons_zero, List.set_cons_succ, i64_w, i32_w]
           rfl
          refine one_ (i := 14) (N := some 20) #[true, true, true, true, true, true, true, true, true, true, true, true, true, true, true, false] rfl rfl (by kernel_rfl) (by decide) (fun K hK => ?_)
          refine value_ (w1 := ?_) (v := ?_) (by rfl) rfl ?_ ?_
          rotate_left 2
          ·go_simp
           constructor
           ·rfl
           ·rfl
          refine hK.out _ _ ((((Below.refl _ _).alloc (Nat.le_refl _) _).cell (World.block_lt_of_cell? _ _ hHeld)).trans hHeld) (fun hHeld => ?_)
          clear hK K
          refine norm_ (a' := ?_) ?_ ?_
          rotate_left
          ·show Act.put _ (some 20) _ = _
           simp only [Act.put, List.setIfInBounds_toArray, List.set_cons_zero, List.set_cons_succ, i64_w, i32_w]
           rfl
          exact norm_ (by simp only [putAll, Act.put, List.setIfInBounds_toArray, List.set_cons_zero, List.set_cons_succ]) (hCont w5.heap.size _ ⟨by repeat (first | exact Below.refl _ _ | apply below_alloc | apply below_drew), heap_alloc_new _ _, rfl⟩)
         ·skip
          refine value_ (w1 := ?_) (v := ?_) (by rfl) rfl ?_ ?_
          rotate_left 2
          ·go_simp
           constructor
           ·rfl
           ·rfl
          refine hK.out _ _ ((((Below.refl _ _).alloc (Nat.le_refl _) _).cell (World.block_lt_of_cell? _ _ hHeld)).trans hHeld) (fun hHeld => ?_)
          clear hK K
          refine norm_ (a' := ?_) ?_ ?_
          rotate_left
          ·show Act.put _ (some 20) _ = _
           simp only [Act.put, List.setIfInBounds_toArray, List.set_cons_zero, List.set_cons_succ, i64_w, i32_w]
           rfl
          refine one_ (i := 12) (N := some 111) #[true, true, true, true, true, true, true, true, true, true, true, true, true, false, true, false] rfl rfl (by kernel_rfl) (by decide) (fun K hK => ?_)
          refine goes_ Tryz.func154 (by kernel_rfl) rfl #[.pointer (some ⟨h, 0, none⟩), .int .i64 0, .int .i64 (wrap64 (code / qC s))] (by rfl) rfl rfl (by simp only [List.map_toArray, List.map_cons, List.map_nil]; rfl) ?_
          with_reducible refine (hfind _ (by repeat (first | exact Below.refl _ _ | apply below_alloc | apply below_drew))).mono ?_
          rintro e w6 ⟨rfl, rfl⟩
          refine ⟨_, rfl, ?_⟩
          refine hK.out _ _ (hHeld) (fun hHeld => ?_)
          clear hK K
          refine norm_ (a' := ?_) ?_ ?_
          rotate_left
          ·show Act.put _ (some 111) _ = _
           simp only [Act.put, List.setIfInBounds_toArray, List.set_cons_zero, List.set_cons_succ, i64_w, i32_w]
           rfl
          refine pure_ (i := 13) (N := some 112) (v := ?_) (a' := ?_) #[true, true, true, true, true, true, true, true, true, true, true, true, true, true, true, false] rfl rfl (by kernel_rfl) (fun _ _ _ h => h) (Or.inl ⟨by rfl, ?_⟩) ?_ ?_
          rotate_left
          ·intro w'
           go_simp
           with_reducible rfl
          rotate_left
          ·simp only [Act.put, List.setIfInBounds_toArray, List.set_cons_zero, List.set_cons_succ, i64_w, i32_w]
           rfl
          exact norm_ (by simp only [putAll, Act.put, List.setIfInBounds_toArray, List.set_cons_zero, List.set_cons_succ]) (hCont w5.heap.size _ ⟨by repeat (first | exact Below.refl _ _ | apply below_alloc | apply below_drew), heap_alloc_new _ _, rfl⟩)
        rintro pb w6 ⟨hb6, hg6, rfl⟩
        have hHeld : w6.cell? ⟨hr, 2, none⟩ = some (.int .u32 code) := (hb6.cell (World.block_lt_of_cell? _ _ r2)).trans r2
        refine norm_ (a' := ?_) ?_ ?_
        rotate_left
        ·simp only [putAll, Act.put, List.setIfInBounds_toArray, List.set_cons_zero, List.set_cons_succ]
         rfl
        refine last_ (i := 15) (N := none) #[true, true, true, true, true, true, true, true, true, true, true, true, true, true, true, true] rfl rfl (by kernel_rfl) (by decide) (fun K hK => ?_)
        have hz0 : w6.cell? ⟨w5.heap.size, 0, none⟩ = some (.int .i64 0) := (blk_cell hg6 0).trans rfl
        have hz1 : w6.cell? ⟨w5.heap.size, 1, none⟩ = some (.int .i64 0) := (blk_cell hg6 1).trans rfl
        have hf0 := blk_frozen hg6 0
        have hf1 := blk_frozen hg6 1
        refine skip_ (w1 := ?_) (by rfl) rfl ?_ ?_
        rotate_left
        ·go_simp
         rfl
        refine hK.out _ _ ?_
        clear hK K
        refine done_ (by kernel_rfl) ?_
        
        --END25
        have hg7 := blk_put (blk_put hg6 0 (.int .i64 0) rfl) 1 (.int .i64 (foundV s code)) rfl
        have hb7 := below_set (j := 1) (v := .int .i64 (foundV s code)) (below_set (j := 0) (v := .int .i64 0) hb6 (Nat.le_refl _)) (Nat.le_refl _)
        generalize (w6.setCell ⟨w5.heap.size, 0, none⟩ (.int .i64 0)).setCell ⟨w5.heap.size, 1, none⟩ (.int .i64 (foundV s code)) = w7 at hg7 hb7 ⊢
        have np := hcd5.fresh w5.heap.size (Nat.le_refl _)
        have npr : w5.heap.size ≠ hr := by have := blk_lt hgr5; omega
        have npo : some w5.heap.size ≠ vo.ownBlock := fun e => by have := Kd.R_lt hcd5.d.ho _ e.symm; omega
        have hcd7 := hcd5.below hb7
        have hgr7 := blk_below hgr5 hb7
        have hR7 := Kd.R_below hR5 hb7
        have hB7 := below_step hB5 hb7
        clear hfind hbd5 hg6 hb6 hz0 hz1 hf0 hf1 hHeld hcd5 hgr5 hR5 hB5 r2 hb7 hnq hdq hwd
        generalize w5.heap.size = pb at *
        have z0 : w7.cell? ⟨pb, 0, none⟩ = some (.int .i64 0) := (blk_cell hg7 0).trans rfl
        have z1 : w7.cell? ⟨pb, 1, none⟩ = some (.int .i64 (foundV s code)) := (blk_cell hg7 1).trans rfl
        have hbd7 : Below w7.heap.size w7 w7.drew := below_drew (Below.refl _ w7)
        have hsh := share1_calls w.heap.size w7.drew h g gc bm cm vo s (hcd7.below hbd7) hmm _ hxi
        go_upto_region 26 with (fail)
--REGION26
        refine start_ (n := 12) (S := fun w' => w'.cell? ⟨pb, 0, none⟩ = some (.int .i64 0) ∧ w'.cell? ⟨pb, 1, none⟩ = some (.int .i64 (foundV s code))) (ds := []) #[false, false, false, false, false, false, false, false, false, false, false, false] (by kernel_rfl) rfl rfl ⟨z0, z1⟩ (fun hHeld => ?_)
        refine pure_ (i := 0) (N := some 114) (v := ?_) (a' := ?_) #[true, false, false, false, false, false, false, false, false, false, false, false] rfl rfl (by kernel_rfl) (fun _ _ _ h => h) (Or.inl ⟨by rfl, ?_⟩) ?_ ?_
        rotate_left
        ·intro w'
         go_simp
         with_reducible rfl
        rotate_left
        ·simp only [Act.put, List.setIfInBounds_toArray, List.set_cons_zero, List.set_cons_succ, i64_w, i32_w]
         rfl
        refine pure_ (i := 1) (N := some 115) (v := ?_) (a' := ?_) #[true, true, false, false, false, false, false, false, false, false, false, false] rfl rfl (by kernel_rfl) (fun _ _ _ h => h) (Or.inl ⟨by rfl, ?_⟩) ?_ ?_
        rotate_left
        ·intro w'
         go_simp
         with_reducible rfl
        rotate_left
        ·simp only [Act.put, List.setIfInBounds_toArray, List.set_cons_zero, List.set_cons_succ, i64_w, i32_w]
         rfl
        refine pure_ (i := 2) (N := some 116) (v := ?_) (a' := ?_) #[true, true, true, false, false, false, false, false, false, false, false, false] rfl rfl (by kernel_rfl) (fun _ _ _ h => h) (Or.inl ⟨by rfl, ?_⟩) ?_ ?_
        rotate_left
        ·intro w'
         go_simp
         with_reducible rfl
        rotate_left
        ·simp only [Act.put, List.setIfInBounds_toArray, List.set_cons_zero, List.set_cons_succ, i64_w, i32_w]
         rfl
        refine take_ (i := 3) (N := some 117) (v := ?_) (a' := ?_) #[true, true, true, true, false, false, false, false, false, false, false, false] rfl rfl (by kernel_rfl) (fun _ _ _ h => h) (Or.inl ⟨by rfl, ?_⟩) hHeld ?_ ?_
        rotate_left
        ·rintro w' ⟨s0, s1⟩
         go_simp
         with_reducible rfl
        rotate_left
        ·simp only [Act.put, List.setIfInBounds_toArray, List.set_cons_zero, List.set_cons_succ, i64_w, i32_w]
         rfl
        refine one_ (i := 4) (N := some 118) #[true, true, true, true, true, false, false, false, false, false, false, false] rfl rfl (by kernel_rfl) (by decide) (fun K hK => ?_)
        refine goes_ Tryz.func155 (by kernel_rfl) rfl #[.pointer (some ⟨h, 0, none⟩), .agg #[.int .i64 0, .int .i64 (foundV s code)]] (by rfl) rfl rfl (by simp only [List.map_toArray, List.map_cons, List.map_nil]; rfl) ?_
        with_reducible refine (hsh).mono ?_
        rintro e w8 ⟨rfl, hb8⟩
        refine ⟨_, rfl, ?_⟩
        refine hK.out _ _ ⟨(hb8.cell (World.block_lt_of_cell? _ _ hHeld.1)).trans hHeld.1, (hb8.cell (World.block_lt_of_cell? _ _ hHeld.2)).trans hHeld.2⟩ (fun hHeld => ?_)
        clear hK K
        refine norm_ (a' := ?_) ?_ ?_
        rotate_left
        ·show Act.put _ (some 118) _ = _
         simp only [Act.put, List.setIfInBounds_toArray, List.set_cons_zero, List.set_cons_succ, i64_w, i32_w]
         rfl
        refine pure_ (i := 5) (N := some 113) (v := ?_) (a' := ?_) #[true, true, true, true, true, true, false, false, false, false, false, false] rfl rfl (by kernel_rfl) (fun _ _ _ h => h) (Or.inl ⟨by rfl, ?_⟩) ?_ ?_
        rotate_left
        ·intro w'
         go_simp
         with_reducible rfl
        rotate_left
        ·simp only [Act.put, List.setIfInBounds_toArray, List.set_cons_zero, List.set_cons_succ, i64_w, i32_w]
         rfl
        refine pure_ (i := 6) (N := some 119) (v := ?_) (a' := ?_) #[true, true, true, true, true, true, true, false, false, false, false, false] rfl rfl (by kernel_rfl) (fun _ _ _ h => h) (Or.inl ⟨by rfl, ?_⟩) ?_ ?_
        rotate_left
        ·intro w'
         go_simp
         with_reducible rfl
        rotate_left
        ·simp only [Act.put, List.setIfInBounds_toArray, List.set_cons_zero, List.set_cons_succ, i64_w, i32_w]
         rfl
        refine pure_ (i := 7) (N := some 120) (v := ?_) (a' := ?_) #[true, true, true, true, true, true, true, true, false, false, false, false] rfl rfl (by kernel_rfl) (fun _ _ _ h => h) (Or.inl ⟨by rfl, ?_⟩) ?_ ?_
        rotate_left
        ·intro w'
         go_simp
         with_reducible rfl
        rotate_left
        ·simp only [Act.put, List.setIfInBounds_toArray, List.set_cons_zero, List.set_cons_succ, i64_w, i32_w]
         rfl
        refine pure_ (i := 8) (N := some 121) (v := ?_) (a' := ?_) #[true, true, true, true, true, true, true, true, true, false, false, false] rfl rfl (by kernel_rfl) (fun _ _ _ h => h) (Or.inl ⟨by rfl, ?_⟩) ?_ ?_
        rotate_left
        ·intro w'
         go_simp
         with_reducible rfl
        rotate_left
        ·simp only [Act.put, List.setIfInBounds_toArray, List.set_cons_zero, List.set_cons_succ, i64_w, i32_w]
         rfl
        refine pure_ (i := 9) (N := some 21) (v := ?_) (a' := ?_) #[true, true, true, true, true, true, true, true, true, true, false, false] rfl rfl (by kernel_rfl) (fun _ _ _ h => h) (Or.inl ⟨by rfl, ?_⟩) ?_ ?_
        rotate_left
        ·intro w'
         go_simp
         with_reducible rfl
        rotate_left
        ·simp only [Act.put, List.setIfInBounds_toArray, List.set_cons_zero, List.set_cons_succ, i64_w, i32_w]
         rfl
        refine pure_ (i := 10) (N := some 22) (v := ?_) (a' := ?_) #[true, true, true, true, true, true, true, true, true, true, true, false] rfl rfl (by kernel_rfl) (fun _ _ _ h => h) (Or.inl ⟨by rfl, ?_⟩) ?_ ?_
        rotate_left
        ·intro w'
         go_simp
         with_reducible rfl
        rotate_left
        ·simp only [Act.put, List.setIfInBounds_toArray, List.set_cons_zero, List.set_cons_succ, i64_w, i32_w]
         rfl
        refine pure_ (i := 11) (N := some 23) (v := ?_) (a' := ?_) #[true, true, true, true, true, true, true, true, true, true, true, true] rfl rfl (by kernel_rfl) (fun _ _ _ h => h) (Or.inl ⟨by rfl, ?_⟩) ?_ ?_
        rotate_left
        ·intro w'
         go_simp
         with_reducible rfl
        rotate_left
        ·simp only [Act.put, List.setIfInBounds_toArray, List.set_cons_zero, List.set_cons_succ, i64_w, i32_w]
         rfl
        refine done_ (by kernel_rfl) ?_
        
        --END26
        have hb8' := below_step hbd7 hb8
        have hcd8 := hcd7.below hb8'
        have hgr8 := blk_below hgr7 hb8'
        have hR8 := Kd.R_below hR7 hb8'
        have hB8 := below_step hB7 hb8'
        have hg8 := blk_below hg7 hb8'
        clear hsh hbd7 hb8 hb8' hHeld hcd7 hgr7 hR7 hB7 hg7 z0 z1
        have r2 : w8.cell? ⟨hr, 2, none⟩ = some (.int .u32 code) := (blk_cell hgr8 2).trans rfl
        have rf2 := blk_frozen hgr8 2
        obtain ⟨cq, hcq⟩ : ∃ cq, cq = (code - qC s * lowC s.c (foundV s code)) % 4294967296 := ⟨_, rfl⟩
        have hwl : IntKind.u32.wrap (lowC s.c (foundV s code)) = lowC s.c (foundV s code) := by rw [wrapZ]; omega
        have hwm : IntKind.u32.wrap (qC s * lowC s.c (foundV s code)) = qC s * lowC s.c (foundV s code) := by rw [wrapZ]; omega
        have hws : IntKind.u32.wrap (code - qC s * lowC s.c (foundV s code)) = cq := by rw [wrapZ, hcq]
        have hcqb : 0 ≤ cq ∧ cq < 4294967296 := by rw [hcq]; omega
        have hgr9 : (w8.setCell ⟨hr, 2, none⟩ (.int .u32 cq)).heap[hr]? = some (.cells (rc B bs.length bc at_ cq) 233 (0, 0)) := blk_put hgr8 2 _ rfl
        have nhr : hr ≠ h ∧ hr ≠ g ∧ hr ≠ gc ∧ hr ≠ bm := nr
        have hkw : Kept w8 (w8.setCell ⟨hr, 2, none⟩ (.int .u32 cq)) (fun k => k = hr) := Kept.setCell (S := fun k => k = hr) (p := ⟨hr, 2, none⟩) (Kept.refl w8 _) (.inl rfl) _
        have hB9 := below_set (j := 2) (v := .int .u32 cq) hB8 hrb
        have hor : vo.ownBlock ≠ some hr := fun e => by
         obtain ⟨cells, hc⟩ := Kd.R_typed hcd8.d.ho hr e
         rw [hgr8] at hc
         simp at hc
        have hcd9 := hcd8.keptN hkw (fun e => nhr.1 e.symm) (fun e => nhr.2.1 e.symm) (fun e => nhr.2.2.1 e.symm) (fun e => nhr.2.2.2 e.symm) (Kd.R_types hcd8.d.ho hgr8 (by decide))
        have hg9 := blk_kept hg8 hkw npr
        have hR9 := Kd.R_far (p := ⟨hr, 2, none⟩) hR8 (fun k hk => hk.1) (.int .u32 cq)
        clear hws
        go_upto_region 28 with (fail)
        rw [← hcq]
        generalize w8.setCell ⟨hr, 2, none⟩ (.int .u32 cq) = w9 at hgr9 hB9 hcd9 hg9 hR9 ⊢
        have hR9' := Kd.R_apart' hR9 (Kd.R_typed hcd9.d.ho) (by decide)
        clear hkw hcd8 hgr8 hR8 hB8 hg8 r2 rf2 hwl hwm hR9
        have z0 : w9.cell? ⟨pb, 0, none⟩ = some (.int .i64 0) := (blk_cell hg9 0).trans rfl
        have z1 : w9.cell? ⟨pb, 1, none⟩ = some (.int .i64 (foundV s code)) := (blk_cell hg9 1).trans rfl
        have hcode := code_calls w w9 h g gc bm cm vo s hcd9 hok _ hxi hB9 (by
         have nwe : nw s.w = s.w.out.length + s.w.held + 4 := rfl
         omega)
        obtain ⟨hok', habs⟩ := codeV_of hok hxi
        have hnk := nsh_le (r1C s (foundV s code))
        have HN' : Aside0 (nw (codeV s (foundV s code)).w ≤ 5 + 2 * (i + 1)) := ⟨by
         have e : nw (codeV s (foundV s code)).w = (stepA (absC s) (foundV s code)).n := by rw [← habs]; rfl
         have e2 : (stepA (absC s) (foundV s code)).n = nw s.w + nsh (r1C s (foundV s code)) := rfl
         omega⟩
        have HD' : Aside0 (decP bs n s0C (startV bs) 5 = (decP bs (n - (i + 1)) (codeV s (foundV s code)) (readsV bs (nsh (r1C s (foundV s code))) (cq, at_)).1 (readsV bs (nsh (r1C s (foundV s code))) (cq, at_)).2).map fun t => (pre ++ [foundV s code] ++ t.1, t.2)) := ⟨by
         rw [HD.out, hm, decP, if_neg hbt, show n - (i + 1) = m by omega, Option.map_map, hcq]
         congr 1
         funext t
         simp⟩
        have hrdb : ∀ j, 0 ≤ (readsV bs j (cq, at_)).1 ∧ (readsV bs j (cq, at_)).1 < 4294967296 := fun j => readsV_bd hd j _ hcqb
        have hrda : ∀ j, (readsV bs j (cq, at_)).2 = at_ + j := fun j => readsV_at bs j _
        have hcO : codesOf (pre ++ [foundV s code]) = codesOf pre ++ [⟨0, foundV s code⟩] := by simp [codesOf]
        have HCO := Aside0.mk hcO
        have HHK := Aside0.mk hnk
        have HRDB := Aside0.mk hrdb
        have HRDA := Aside0.mk hrda
        have HAT := Aside0.mk hat
        have HPL := Aside0.mk hpl
        have HOK := Aside0.mk hok'
        clear hcO hnk habs HD HN hm hcq hrdb hrda hat hpl hok' hnw
        generalize codeV s (foundV s code) = s' at *
        generalize nsh (r1C s (foundV s code)) = K at *
        generalize foundV s code = x at *
        clear hlow hql hqb' hqb2 hrr' hdv hwq HW hge hs hmm
        go_upto_region 30 with (first | (go_at_call 156; refine hcode.mono ?_; rintro e w10 ⟨rfl, vo10, hcd10, hcr10⟩))
        have hgr10 := blk_kept hgr9 hcr10.k (fun e => e.elim (fun e => e.elim nhr.1 (fun e => hor e.symm)) (fun e => e.elim nhr.2.1 nhr.2.2.1))
        have hg10 := blk_kept hg9 hcr10.k (fun e => e.elim (fun e => e.elim np.1 npo) (fun e => e.elim np.2.1 np.2.2.1))
        have hR10 : Kd.R k122 122 w10 w.heap.size (OO hr h g gc bm) _ (codesOf pre) := Kd.R_mono (Kd.R_step hR9' (fun k hk hl => hcr10.k.2 k hl (fun e => e.elim (fun e => e.elim hk.1.2.1 hk.2) (fun e => e.elim hk.1.2.2.1 hk.1.2.2.2.1)))) (fun _ hk => hk.1)
        have hB10 := hcr10.b
        have hk10 : Kept w10 w10 (fun k => k = hr) := Kept.refl _ _
        clear z0 z1 hcode hcr10 hR9' hg9 hgr9 hcd9 hB9
        go_loopw [140] (fun v wr => ∃ j : Nat, j ≤ K ∧ v = .int .i64 j ∧ wr.heap[hr]? = some (.cells (rc B bs.length bc (readsV bs j (cq, at_)).2 (readsV bs j (cq, at_)).1) 233 (0, 0)) ∧ Below w.heap.size w wr ∧ Kept w10 wr (fun k => k = hr)) (fun v _ => K - (intV v).toNat)
        case atStart => exact ⟨0, by omega, rfl, hgr10, hB10, hk10⟩
        case round =>
         clear hk10
         obtain ⟨j, hj, rfl, hgr, hBr, hkr⟩ := hrel
         rcases Nat.lt_or_ge j K with hlt | hge
         ·have hjj : (j : Int) < (K : Int) := by omega
          have hK2 := HHK.out
          have hnx := next_calls w wr hr B bc _ _ bs hgr (Kd.C_below hB hBr) hd (HRDB.out j).1 (HRDB.out j).2 (by
           rw [HRDA.out]
           have := HAT.out
           have := HHK.out
           omega) hrb hBr
          rw [show ((readsV bs j (cq, at_)).1, (readsV bs j (cq, at_)).2) = readsV bs j (cq, at_) from rfl, readsV_succ] at hnx
          go_wp2_with (go_at_call 151; refine hnx.mono ?_; rintro e w5 ⟨rfl, hg5, hB5, hk5⟩)
          go_roundw
          case rel => exact ⟨j + 1, by omega, rfl, hg5, hB5, hkr.then_ hk5 (fun k hk => .inl hk)⟩
          case measure => simp [intV]; omega
         ·obtain rfl : K = j := by omega
          have hcd11 := hcd10.keptN hkr (fun e => nhr.1 e.symm) (fun e => nhr.2.1 e.symm) (fun e => nhr.2.2.1 e.symm) (fun e => nhr.2.2.2 e.symm) (Kd.R_types hcd10.d.ho hgr10 (by decide))
          have hg11 := blk_kept hg10 hkr npr
          have hR11 := Kd.R_step hR10 (fun k hk hl => hkr.2 k hl hk.1)
          have hRo := Kd.R_apart' hcd11.d.ho (Kd.R_typed hR11) (by decide)
          have hfr11 : ∀ k, wr.heap.size ≤ k → OO hr h g gc bm k := fun k hk => by
           have q := hcd11.fresh k hk
           have := blk_lt hgr
           exact ⟨by omega, q.1, q.2.1, q.2.2.1, q.2.2.2⟩
          have hlk : ((codesOf pre).length + 1) * 16 ≤ 140737488355328 := by rw [codesOf_len, HPL.out]; omega
          have z0 : wr.cell? ⟨pb, 0, none⟩ = some (.int .i64 0) := (blk_cell hg11 0).trans rfl
          have z1 : wr.cell? ⟨pb, 1, none⟩ = some (.int .i64 x) := (blk_cell hg11 1).trans rfl
          clear hcd10 hg10 hR10 hB10 hgr10
          have HHD := Aside0.mk (And.intro hgr hcd11)
          clear hgr hcd11 hg11 hkr
          go_wp2_with (first | ((with_reducible refine gate_builtin (b := .append) (xs := #[.tmp 145, .tmp 147]) rfl ?_); at_builtin; refine Kd.R_append k122 (w0 := w) w.heap.size rfl (.tmp 145) (.tmp 147) 118 122 (.agg #[(.int .i64 0), (.int .i64 0)]) 16 rfl Tryz.underlying118 info122 rfl (by decide) (by omega) _ (codesOf pre) ⟨0, x⟩ [.int .i64 0, .int .i64 x] (OO hr h g gc bm) (fun _ => False) rfl rfl ?aP (fun _ hk => hk.elim) ?aF ?aO ?aB ?aS ?aL ?_; (case aP => exact k122_mkM _ _ _ ⟨0, x⟩); (case aF => exact hfr11); (case aO => exact hR11); (case aB => exact hBr); (case aS => exact hBr.size); (case aL => exact hlk); intro v12 w12 hR12 hb12 hg12 hat12; rw [← HCO.out] at hR12) | go_step3)
          have hk12 : Kept wr w12 (fun k => some k = u16.ownBlock) := Kept.of_grown hg12 (Kept.refl wr _) (fun k hk => .inl hk.symm)
          obtain ⟨hgr, hcd11⟩ := HHD.out
          have own : ∀ k, some k = u16.ownBlock → OO hr h g gc bm k := fun k e => hR11.1 k e.symm
          go_roundw
          case rel => exact ⟨i + 1, pre ++ [x], s', _, _, vo10, by omega, rfl, HD', HOK.out, ⟨HN'.out, (HRDB.out K).1, (HRDB.out K).2, by rw [HRDA.out]; have := HAT.out; have := HHK.out; omega, by rw [List.length_append, HPL.out]; rfl⟩, hcd11.keptN hk12 (fun e => (own h e).2.1 rfl) (fun e => (own g e).2.2.1 rfl) (fun e => (own gc e).2.2.2.1 rfl) (fun e => (own bm e).2.2.2.2 rfl) hRo, blk_kept hgr hk12 (fun e => (own hr e).1 rfl), hR12, hb12⟩
          case measure => simp [intV]; omega
      ·obtain rfl : n = i := by omega
       have HUN : Aside0 (unpackV n bs = if endV s.w = bs then some pre else none) := by
        have hfin : decP bs n s0C (startV bs) 5 = some (pre, s) := by rw [HD.out, Nat.sub_self, decP]; simp
        exact ⟨by unfold unpackV; rw [hfin]; rfl⟩
       have hend := end_calls w wr h g gc bm cm vo s hcd hok hB4 (by
        have := HN.out.1
        have nwe : nw s.w = s.w.out.length + s.w.held + 4 := rfl
        omega)
       have hRa := Kd.R_apart' hR (Kd.R_typed hcd.d.ho) (by decide)
       have hlen : (endV s.w).length ≤ 1099511627776 := by
        rw [(endV_of hok.j.ok).2.1]
        have := HN.out.1
        omega
       clear HD HN x1
       by_cases hq : endV s.w = bs
       ·have hEQ := fun (w9 : World) (A9 : Option Addr) (c9 : Nat) (hR9 : Kd.R (Kd.int .u8) 5 w9 w.heap.size (PP h g gc bm) (.slice A9 (endV s.w).length c9) (endV s.w)) (hb : Below w.heap.size w w9) => equal_calls w9 A9 B c9 bc _ bs (Kd.R_reads' hR9).2.2 (Kd.C_below hB hb) hlen
        rw [if_pos hq] at HUN
        simp only [decide_eq_true hq] at hEQ
        have HEQ := Aside0.mk hEQ
        clear hEQ hq hlen
        generalize endV s.w = E9 at *
        go_wp2_with (first | (go_at_call 158; refine hend.mono ?_; rintro e w9 ⟨vo9, rfl, hR9, hr9⟩; obtain ⟨A9, c9, rfl⟩ := Kd.R_slice hR9) | (go_at_call 157; refine (HEQ.out _ A9 c9 hR9 hr9.b).mono ?_; rintro e w10 ⟨rfl, hb10⟩) | go_step3)
        go_ret2
        rw [HUN.out]
        exact ⟨⟨_, rfl, Kd.R_mono (Kd.R_below (Kd.R_step hRa (fun k hk hl => hr9.k.2 k hl (fun e => e.elim hk.1.2.1 hk.2))) hb10) (fun _ _ => trivial)⟩, below_step hr9.b hb10⟩
       ·have hEQ := fun (w9 : World) (A9 : Option Addr) (c9 : Nat) (hR9 : Kd.R (Kd.int .u8) 5 w9 w.heap.size (PP h g gc bm) (.slice A9 (endV s.w).length c9) (endV s.w)) (hb : Below w.heap.size w w9) => equal_calls w9 A9 B c9 bc _ bs (Kd.R_reads' hR9).2.2 (Kd.C_below hB hb) hlen
        rw [if_neg hq] at HUN
        simp only [decide_eq_false hq] at hEQ
        have HEQ := Aside0.mk hEQ
        clear hEQ hq hlen
        generalize endV s.w = E9 at *
        go_wp2_with (first | (go_at_call 158; refine hend.mono ?_; rintro e w9 ⟨vo9, rfl, hR9, hr9⟩; obtain ⟨A9, c9, rfl⟩ := Kd.R_slice hR9) | (go_at_call 157; refine (HEQ.out _ A9 c9 hR9 hr9.b).mono ?_; rintro e w10 ⟨rfl, hb10⟩) | go_step3)
        first | rw [Exit.noGoto_ret] | skip
        go_ret2
        rw [HUN.out]
        exact ⟨rfl, below_step hr9.b hb10⟩
end Go.Proofs.YtbdbobjdlomjnaaGreatDoor.Ec
