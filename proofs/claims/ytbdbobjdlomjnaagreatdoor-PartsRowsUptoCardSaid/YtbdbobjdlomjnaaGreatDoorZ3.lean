/- A model in memory: Count. No condition. The program's coder as a function: coding, all digits, and reading: what is read of bytes are just the symbols that have these bytes. No condition. The writer in memory: shift: a digit more is settled, or held back. No condition. The coder in memory: one model; whole, find, share. No condition. The coder in memory: a symbol came (count). No condition. -/
import Derived.Test.YtbdbobjdlomjnaaGreatDoorZ2
import Derived.Shelf.SlicesQ.IndexFunc
import Derived.Laws.BitsAllLaws

namespace Go.Proofs.YtbdbobjdlomjnaaGreatDoor.Ec
set_option linter.unusedVariables false
set_option linter.unusedSimpArgs false
open Go Go.RowKit Go.Proofs.YtbdbobjdlomjnaaGreatDoor.P Go.Proofs.YtbdbobjdlomjnaaGreatDoor.X Go.Proofs.YtbdbobjdlomjnaaGreatDoorW.PrintWords Go.Proofs.YtbdbobjdlomjnaaGreatDoorW.PrintLast Go.Proofs.YtbdbobjdlomjnaaGreatDoorW.PrintMore
set_option maxHeartbeats 8000000
set_option maxRecDepth 100000
theorem index_calls (w : World) (g gc b : Nat) (c : List Int) (t x : Int) (h : Mo w g gc c t) (h0 : 0 ≤ x) (h1 : x < 256) (hb : w.cell? ⟨b, 0, none⟩ = some (.int .i64 x)) : Calls Tryz.prog 145 #[.slice (some ⟨b, 0, none⟩) 1 1, .func (.func 239) #[.pointer (some ⟨g, 0, none⟩)] #[]] w fun e w' => e = .returned (.int .i64 (-1)) ∧ w = w' := by
 have eg := enters_of Tryz.func239 (by kernel_rfl) rfl
 have hw := wrong_calls w g gc c t x h h0 h1
 go_enter Tryz.func145, Tryz.ntmps145
 go_wp2
 go_loopw [8] (fun v wr => ∃ i : Nat, i ≤ 1 ∧ v = .int .i64 i ∧ w = wr) (fun v _ => 1 - (intV v).toNat)
 case atStart => exact ⟨0, by omega, rfl, rfl⟩
 case round =>
  obtain ⟨i, hi, rfl, rfl⟩ := hrel
  rcases Nat.lt_or_ge i 1 with hlt | hge
  ·obtain rfl : i = 0 := by omega
   go_wp2_with (first | ((with_reducible refine hw.mono ?_); rintro e w2 ⟨rfl, rfl⟩) | go_step3)
   go_roundw
   case rel => exact ⟨1, by omega, rfl, trivial⟩
   case measure => simp [intV]
  ·obtain rfl : i = 1 := by omega
   go_wp2
   go_ret
   exact ⟨rfl, rfl⟩
theorem contains_calls (w : World) (g gc b : Nat) (c : List Int) (t x : Int) (h : Mo w g gc c t) (h0 : 0 ≤ x) (h1 : x < 256) (hb : w.cell? ⟨b, 0, none⟩ = some (.int .i64 x)) : Calls Tryz.prog 97 #[.slice (some ⟨b, 0, none⟩) 1 1, .func (.func 239) #[.pointer (some ⟨g, 0, none⟩)] #[]] w fun e w' => e = .returned (.bool false) ∧ w = w' := by
 have hi := index_calls w g gc b c t x h h0 h1 hb
 go_enter Tryz.func97, Tryz.ntmps97
 go_wp2_with (go_at_call 145; refine hi.mono ?_; rintro e w2 ⟨rfl, rfl⟩)
 go_ret
 exact ⟨rfl, rfl⟩
theorem Mo.kept {w w1 : World} {g gc : Nat} {c : List Int} {t : Int} {S : Nat → Prop} (h : Mo w g gc c t) (hk : Kept w w1 S) (h0 : ¬ S g) (h1 : ¬ S gc) : Mo w1 g gc c t := ⟨h.ne, blk_kept h.hm hk h0, blk_kept h.hc hk h1, h.n⟩
theorem count_calls (w0 w : World) (g gc b : Nat) (c : List Int) (x : Int) (h : Mo w g gc c (sumI c)) (hm : MOk c) (hx : In x) (hb : w.cell? ⟨b, 0, none⟩ = some (.int .i64 x)) (hbg : b ≠ g) (hbc : b ≠ gc) (hg : w0.heap.size ≤ g) (hgc : w0.heap.size ≤ gc) (hB : Below w0.heap.size w0 w) :
  Calls Tryz.prog 224 #[.pointer (some ⟨g, 0, none⟩), .slice (some ⟨b, 0, none⟩) 1 1] w fun e w' => e = .returned (.int .i64 0) ∧ Mo w' g gc (countC c x) (sumI (countC c x)) ∧ Below w0.heap.size w0 w' ∧ Kept w w' (fun k => k = g ∨ k = gc) := by
 have hu := Tryz.underlying305
 obtain ⟨n, rfl⟩ : ∃ n : Nat, x = n := ⟨x.toNat, by have := hx.1; omega⟩
 have hn : n < 256 := by have := hx.2; omega
 have hcon := contains_calls w g gc b c (sumI c) n h hx.1 hx.2 hb
 have hlt := World.block_lt_of_cell? w _ hb
 obtain ⟨x0, x1, f1⟩ := h.cell
 obtain ⟨y0, y1⟩ := h.at hn
 have p0 : (0 : Int) ≤ (n : Int) := by omega
 have p1 : (n : Int) < 256 := by omega
 have hil : n < c.length := by rw [h.n]; exact hn
 have hgp : 1 ≤ gt c n := getD_pos hm.p hil
 have hsum := sumI_set c n (gt c n + 32) hil
 have e0 : c.getD n 0 = gt c n := rfl
 rw [e0] at hsum
 have hs := hm.s
 have hge := hm.ge
 have hgs : gt c n ≤ 8192 := by
  have e := sumI_take_succ c n hil
  have a1 := sumI_take_le c hm.p (n + 1)
  have a2 := sumI_nn (c.take n) (fun d hd => hm.p d (List.mem_of_mem_take hd))
  omega
 have hcc : countC c n = if 8192 < sumI (c.set n (gt c n + 32)) then halveC (c.set n (gt c n + 32)) else c.set n (gt c n + 32) := rfl
 have HCC := Aside0.mk hcc
 clear hcc
 have h2 := (h.setC n (gt c n + 32)).setT (sumI c + 32)
 have hb2 := below_set (j := 1) (v := .int .i64 (sumI c + 32)) (below_set (j := n) (v := .int .i64 (gt c n + 32)) hB hgc) hg
 have hk2 := ((Kept.refl w (fun k => k = g ∨ k = gc)).setCell (p := ⟨gc, n, none⟩) (.inl (.inr rfl)) (.int .i64 (gt c n + 32))).setCell (p := ⟨g, 1, none⟩) (.inl (.inl rfl)) (.int .i64 (sumI c + 32))
 have hhalve := halve_calls w0 _ g gc _ _ h2 (set_pos hm.p (by omega)) (by omega) hg hgc hb2
 have ne1 : g ≠ gc := h.ne
 go_enter Tryz.func224, Tryz.ntmps224
 go_wp2_with (first | (go_at_call 97; refine hcon.mono ?_; rintro e w2 ⟨rfl, rfl⟩) | go_step3)
 go_loopw [15] (fun v wr => (v = .int .i64 0 ∧ w = wr) ∨ (v = .int .i64 1 ∧ Mo wr g gc (countC c n) (sumI (countC c n)) ∧ Below w0.heap.size w0 wr ∧ Kept w wr (fun k => k = g ∨ k = gc))) (fun v _ => 1 - (intV v).toNat)
 case atStart => exact .inl ⟨rfl, rfl⟩
 case round =>
  rcases hrel with ⟨rfl, rfl⟩ | ⟨rfl, hM, hb3, hk3⟩
  ·by_cases hc : 8192 < sumI c + 32
   ·have hcb : decide (8192 < sumI c + 32) = true := decide_eq_true hc
    go_wp2_with (first | (go_at_call 240; refine hhalve.mono ?_; rintro e w3 ⟨rfl, hM, hb3, hk3⟩) | go_step3)
    go_roundw
    case rel =>
     refine .inr ⟨rfl, ?_, hb3, hk2.then_ hk3 (fun k hk => .inl hk)⟩
     rw [HCC.out, if_pos (by omega)]
     exact hM
    case measure => simp [intV]
   ·have hcb : decide (8192 < sumI c + 32) = false := decide_eq_false hc
    go_wp2
    go_roundw
    case rel =>
     refine .inr ⟨rfl, ?_, hb2, hk2⟩
     rw [HCC.out, if_neg (by omega), show sumI (c.set n (gt c n + 32)) = sumI c + 32 by omega]
     exact h2
    case measure => simp [intV]
  ·go_wp2
   go_ret
   exact ⟨rfl, hM, hb3, hk3⟩
end Go.Proofs.YtbdbobjdlomjnaaGreatDoor.Ec

namespace Go.Proofs.YtbdbobjdlomjnaaGreatDoor.Ec
set_option linter.unusedVariables false
set_option linter.unusedSimpArgs false
structure CS where
 c : List Int
 r : Int
 w : WS
def absC (s : CS) : AS := ⟨s.c, Vw s.w, nw s.w, s.r⟩
structure JOk (w : WS) (r : Int) : Prop where
 d : Dg w.out
 c : 0 ≤ w.cache ∧ w.cache ≤ 255
 h : 1 ≤ w.held
 l : 0 ≤ w.low ∧ w.low + r ≤ 8589934592
 k : w.cache = 255 → w.low + r ≤ 4294967296
 r : 1 ≤ r
theorem JOk.ok {w : WS} {r : Int} (h : JOk w r) : Ok w := by
 obtain ⟨a, b, c, d, e, f⟩ := h
 exact ⟨a, b, c, by omega, fun g => by have := e g; omega⟩
theorem JOk.shift {w : WS} {r : Int} (h : JOk w r) (hr : r < 16777216) : JOk (shiftV w) (r * 256) := by
 obtain ⟨s1, s2, s3, s4, s5⟩ := shiftV_ok h.ok
 refine ⟨s1, s2, s3, by omega, ?_, by have := h.r; omega⟩
 obtain ⟨a, b, c, d, e, f⟩ := h
 intro hc
 unfold shiftV at hc ⊢
 split at hc
 ·rename_i hs
  rw [if_pos hs]
  simp only at hc ⊢
  omega
 ·rename_i hs
  rw [if_neg hs]
  simp only at hc ⊢
  have := e hc
  omega
def shiftsV : Nat → WS → WS
 | 0, w => w
 | k + 1, w => shiftsV k (shiftV w)
theorem shiftsV_of : ∀ (k : Nat) (w : WS) (r : Int), JOk w r → (∀ j, j < k → r * 256 ^ j < 16777216) → JOk (shiftsV k w) (r * 256 ^ k) ∧ Vw (shiftsV k w) = Vw w * 256 ^ k ∧ nw (shiftsV k w) = nw w + k
 | 0, w, r, h, _ => by simpa [shiftsV] using h
 | k + 1, w, r, h, hr => by
  have h0 := hr 0 (by omega)
  simp only [Int.pow_zero, Int.mul_one] at h0
  obtain ⟨a, b, c⟩ := shiftsV_of k (shiftV w) (r * 256) (h.shift h0) (fun j hj => by
   have := hr (j + 1) (by omega)
   rw [pow_succ', Int.mul_comm (256 ^ j), ← Int.mul_assoc] at this
   exact this)
  have e : ∀ z : Int, z * 256 * 256 ^ k = z * 256 ^ (k + 1) := fun z => by rw [pow_succ', Int.mul_comm (256 ^ k), ← Int.mul_assoc]
  rw [e] at a
  refine ⟨a, ?_, ?_⟩
  ·rw [shiftsV, b, shiftV_Vw h.ok, e]
  ·rw [shiftsV, c, shiftV_nw h.ok]; omega
def s0C : CS := ⟨List.replicate 256 1, 4294967295, ⟨[], 0, 1, 0⟩⟩
def qC (s : CS) : Int := s.r / sumI s.c
def r1C (s : CS) (x : Int) : Int := qC s * s.c.getD x.toNat 0
def codeV (s : CS) (x : Int) : CS := ⟨countC s.c x, r1C s x * 256 ^ nsh (r1C s x), shiftsV (nsh (r1C s x)) { s.w with low := s.w.low + qC s * lowC s.c x }⟩
structure COk (s : CS) : Prop where
 a : AI (absC s)
 j : JOk s.w s.r
theorem cok0 : COk s0C := ⟨ai0, ⟨fun _ h => absurd h List.not_mem_nil, by decide, by decide, by decide, by decide, by decide⟩⟩
theorem abs0 : absC s0C = s0A := rfl
theorem nsh_lt {r : Int} (h : 2048 ≤ r) (j : Nat) (hj : j < nsh r) : r * 256 ^ j < 16777216 := by
 unfold nsh at hj
 split at hj
 ·rcases (show j = 0 ∨ j = 1 by omega) with rfl | rfl
  ·rw [show (256 : Int) ^ 0 = 1 by decide]; omega
  ·rw [show (256 : Int) ^ 1 = 256 by decide]; omega
 ·split at hj
  ·obtain rfl : j = 0 := by omega
   rw [show (256 : Int) ^ 0 = 1 by decide]; omega
  ·omega
theorem nsh_le (r : Int) : nsh r ≤ 2 := by unfold nsh; split; omega; split <;> omega
theorem Vw_low (w : WS) (l : Int) : Vw { w with low := w.low + l } = Vw w + l := by unfold Vw; simp only; omega
section
variable {s : CS} {x : Int}
theorem codeV_mid (h : COk s) (hx : In x) : JOk { s.w with low := s.w.low + qC s * lowC s.c x } (r1C s x) := by
 obtain ⟨b1, b2, b3, b4, b5, b6⟩ := share_bd h.a hx
 have e1 : qA (absC s) * lowC (absC s).c x = qC s * lowC s.c x := rfl
 have e2 : r1A (absC s) x = r1C s x := rfl
 have e3 : (absC s).r = s.r := rfl
 rw [e1, e2, e3] at b3
 rw [e1] at b1
 rw [e2] at b2
 obtain ⟨a, b, c, d, e, f⟩ := h.j
 exact ⟨a, b, c, by simp only; omega, fun g => by have := e g; simp only; omega, by omega⟩
theorem codeV_of (h : COk s) (hx : In x) : COk (codeV s x) ∧ absC (codeV s x) = stepA (absC s) x := by
 have hm := codeV_mid h hx
 obtain ⟨b1, b2, _⟩ := share_bd h.a hx
 obtain ⟨j1, j2, j3⟩ := shiftsV_of (nsh (r1C s x)) _ _ hm (nsh_lt b2)
 rw [Vw_low] at j2
 have e : absC (codeV s x) = stepA (absC s) x := by
  unfold absC codeV stepA
  rw [AS.mk.injEq]
  exact ⟨rfl, j2, j3, rfl⟩
 exact ⟨⟨e ▸ stepA_ok h.a hx, j1⟩, e⟩
end
def codesV (s : CS) : List Int → CS
 | [] => s
 | x :: l => codesV (codeV s x) l
theorem codesV_of : ∀ (l : List Int) (s : CS), COk s → (∀ x ∈ l, In x) → COk (codesV s l) ∧ absC (codesV s l) = stepsA (absC s) l
 | [], s, h, _ => ⟨h, rfl⟩
 | x :: l, s, h, hl => by
  obtain ⟨h1, e1⟩ := codeV_of h (hl x (List.mem_cons_self ..))
  obtain ⟨h2, e2⟩ := codesV_of l (codeV s x) h1 (fun y hy => hl y (List.mem_cons_of_mem _ hy))
  exact ⟨h2, by rw [codesV, e2, e1]; rfl⟩
def encV (l : List Int) : List Int := endV (codesV s0C l).w
theorem encV_of {l : List Int} (hl : ∀ x ∈ l, In x) : Dg (encV l) ∧ (encV l).length = (stepsA s0A l).n ∧ val (encV l) = (stepsA s0A l).V := by
 obtain ⟨h, e⟩ := codesV_of l s0C cok0 hl
 obtain ⟨h1, h2, h3⟩ := endV_of h.j.ok
 rw [abs0] at e
 rw [← e]
 exact ⟨h1, h2, h3⟩
def nextV (b : List Int) (p : Int × Nat) : Int × Nat := (p.1 * 256 % 4294967296 + b.getD p.2 0, p.2 + 1)
def readsV (b : List Int) : Nat → Int × Nat → Int × Nat
 | 0, p => p
 | k + 1, p => readsV b k (nextV b p)
theorem getD_dg {b : List Int} (h : Dg b) (i : Nat) : 0 ≤ b.getD i 0 ∧ b.getD i 0 ≤ 255 := by
 by_cases hi : i < b.length
 ·have : b.getD i 0 = b[i] := by simp [List.getD, List.getElem?_eq_getElem hi]
  rw [this]
  exact h _ (List.getElem_mem hi)
 ·have : b.getD i 0 = 0 := by simp [List.getD, List.getElem?_eq_none (Nat.le_of_not_lt hi)]
  rw [this]
  decide
theorem nextV_bd {b : List Int} (h : Dg b) (p : Int × Nat) : 0 ≤ (nextV b p).1 ∧ (nextV b p).1 < 4294967296 := by
 have := getD_dg h p.2
 unfold nextV
 simp only
 omega
theorem readsV_bd {b : List Int} (h : Dg b) : ∀ (k : Nat) (p : Int × Nat), 0 ≤ p.1 ∧ p.1 < 4294967296 → 0 ≤ (readsV b k p).1 ∧ (readsV b k p).1 < 4294967296
 | 0, _, hp => hp
 | k + 1, p, _ => readsV_bd h k _ (nextV_bd h p)
theorem readsV_at (b : List Int) : ∀ (k : Nat) (p : Int × Nat), (readsV b k p).2 = p.2 + k
 | 0, _ => rfl
 | k + 1, p => by rw [readsV, readsV_at b k]; simp only [nextV]; omega
theorem val_take_succ {b : List Int} {n : Nat} (h : n < b.length) : val (b.take (n + 1)) = val (b.take n) * 256 + b.getD n 0 := by
 rw [List.take_add_one, val_append, List.getElem?_eq_getElem h]
 simp [val, List.getD, List.getElem?_eq_getElem h]
theorem readsV_of {b : List Int} (hb : Dg b) : ∀ (k : Nat) (d V R : Int) (n : Nat), n + k ≤ b.length → 0 ≤ d → d = val (b.take n) - V → d < R → R * 256 ^ k ≤ 4294967296 → readsV b k (d, n) = (val (b.take (n + k)) - V * 256 ^ k, n + k)
 | 0, d, V, R, n, _, _, h, _, _ => by simp [readsV, h]
 | k + 1, d, V, R, n, hl, h0, h, hR, hk => by
  have hp := pow_pos k
  have e : ∀ z : Int, z * 256 ^ (k + 1) = z * 256 * 256 ^ k := fun z => by rw [pow_succ', Int.mul_comm (256 ^ k), ← Int.mul_assoc]
  have hg := getD_dg hb n
  have hR0 : R * 256 ≤ R * 256 ^ (k + 1) := by
   rw [e]
   have := Int.mul_le_mul_of_nonneg_left (show 1 ≤ (256 : Int) ^ k by omega) (show 0 ≤ R * 256 by omega)
   omega
  rw [readsV, nextV]
  simp only
  rw [Int.emod_eq_of_lt (by omega) (by omega), readsV_of hb k (d * 256 + b.getD n 0) (V * 256) (R * 256) (n + 1) (by omega) (by omega) (by rw [val_take_succ (by omega), h]; omega) (by omega) (by rw [← e]; exact hk), ← e, show n + 1 + k = n + (k + 1) by omega]
def foundV (s : CS) (code : Int) : Int := findC s.c (min (code / qC s) (sumI s.c - 1))
def decP (b : List Int) : Nat → CS → Int → Nat → Option (List Int × CS)
 | 0, s, _, _ => some ([], s)
 | n + 1, s, code, at_ => if b.length < at_ then none else
   (decP b n (codeV s (foundV s code)) (readsV b (nsh (r1C s (foundV s code))) ((code - qC s * lowC s.c (foundV s code)) % 4294967296, at_)).1
    (readsV b (nsh (r1C s (foundV s code))) ((code - qC s * lowC s.c (foundV s code)) % 4294967296, at_)).2).map fun t => (foundV s code :: t.1, t.2)
theorem foundV_in {s : CS} {code : Int} (h : COk s) (h0 : 0 ≤ code) : In (foundV s code) := by
 have hq := (qA_bd h.a).1
 have e : qA (absC s) = qC s := rfl
 rw [e] at hq
 have hs := h.a.m.ge
 have e2 : (absC s).c = s.c := rfl
 rw [e2] at hs
 have hd : 0 ≤ code / qC s := Int.ediv_nonneg h0 (by omega)
 have := findC_lt s.c (min (code / qC s) (sumI s.c - 1)) (by omega) (by omega)
 have hn := h.a.m.n
 rw [e2] at hn
 unfold foundV In
 omega
theorem decP_sound {b : List Int} (hb : Dg b) : ∀ (n : Nat) (s : CS) (code : Int) (at_ : Nat) (l : List Int) (t : CS), COk s → 0 ≤ code → decP b n s code at_ = some (l, t) → l.length = n ∧ (∀ x ∈ l, In x) ∧ t = codesV s l
 | 0, s, code, at_, l, t, _, _, h => by
  simp only [decP, Option.some.injEq, Prod.mk.injEq] at h
  obtain ⟨rfl, rfl⟩ := h
  exact ⟨rfl, fun _ h => (by cases h), rfl⟩
 | n + 1, s, code, at_, l, t, hs, h0, h => by
  unfold decP at h
  split at h
  ·cases h
  ·have hx := foundV_in hs h0
   generalize foundV s code = x at *
   simp only [Option.map_eq_some_iff] at h
   obtain ⟨⟨l1, t1⟩, h1, h2⟩ := h
   simp only [Prod.mk.injEq] at h2
   obtain ⟨rfl, rfl⟩ := h2
   obtain ⟨a, c, d⟩ := decP_sound hb n _ _ _ _ _ (codeV_of hs hx).1 (readsV_bd hb _ _ (by simp only; omega)).1 h1
   refine ⟨by simp [a], fun y hy => ?_, d⟩
   rcases List.mem_cons.1 hy with rfl | hy
   ·exact hx
   ·exact c y hy
theorem decP_complete {b : List Int} (hb : Dg b) : ∀ (l : List Int) (s : CS) (code : Int), COk s → (∀ x ∈ l, In x) → val b = (stepsA (absC s) l).V → b.length = (stepsA (absC s) l).n → code = val (b.take (nw s.w)) - Vw s.w → decP b l.length s code (nw s.w) = some (l, codesV s l)
 | [], s, code, _, _, _, _, _ => rfl
 | x :: l, s, code, hs, hl, hv, hn, hc => by
  have hx := hl x (List.mem_cons_self ..)
  obtain ⟨f1, f2, f3, f4, f5⟩ := find_next hb hs.a hl hv hn
  obtain ⟨h1, e1⟩ := codeV_of hs hx
  obtain ⟨b1, b2, b3, _⟩ := share_bd hs.a hx
  have g1 : (absC s).n = nw s.w := rfl
  have g2 : (absC s).V = Vw s.w := rfl
  have g3 : qA (absC s) = qC s := rfl
  have g4 : (absC s).c = s.c := rfl
  have g5 : r1A (absC s) x = r1C s x := rfl
  have g6 : (absC s).r = s.r := rfl
  have hr := hs.a.r
  have hk := nsh_bd b2 (by omega)
  rw [g1, g2, g3, g4, ← hc] at f3
  rw [g1, g2, g3, g4, g5, ← hc] at f4
  have e2 : (stepA (absC s) x).n = nw s.w + nsh (r1C s x) := rfl
  have e3 : (absC (codeV s x)).n = (stepA (absC s) x).n := by rw [e1]
  have e4 : (absC (codeV s x)).V = (stepA (absC s) x).V := by rw [e1]
  have e5 : (stepA (absC s) x).V = (Vw s.w + qC s * lowC s.c x) * 256 ^ nsh (r1C s x) := rfl
  have e6 : nw (codeV s x).w = nw s.w + nsh (r1C s x) := e3.trans e2
  have e7 : Vw (codeV s x).w = (Vw s.w + qC s * lowC s.c x) * 256 ^ nsh (r1C s x) := e4.trans e5
  have hf : foundV s code = x := f3
  rw [g5] at hk b2
  have hrd := readsV_of hb (nsh (r1C s x)) (code - qC s * lowC s.c x) (Vw s.w + qC s * lowC s.c x) (r1C s x) (nw s.w) (by rw [← e2]; exact f5) f4.1 (by omega) f4.2 (by omega)
  have hmod : (code - qC s * lowC s.c x) % 4294967296 = code - qC s * lowC s.c x := Int.emod_eq_of_lt f4.1 (by omega)
  have ih := decP_complete hb l (codeV s x) (val (b.take (nw s.w + nsh (r1C s x))) - (Vw s.w + qC s * lowC s.c x) * 256 ^ nsh (r1C s x)) h1 (fun y hy => hl y (List.mem_cons_of_mem _ hy)) (by rw [e1]; exact hv) (by rw [e1]; exact hn) (by rw [e6, e7])
  rw [List.length_cons, decP, if_neg (by rw [g1] at f1; omega), hf, hmod, hrd, ← e6]
  rw [← e6] at ih
  rw [ih]
  rfl
def startV (b : List Int) : Int := (readsV b 5 (0, 0)).1
def unpackV (n : Nat) (b : List Int) : Option (List Int) := (decP b n s0C (startV b) 5).bind fun t => if endV t.2.w = b then some t.1 else none
theorem start_of {b : List Int} (hb : Dg b) (h5 : 5 ≤ b.length) (h : val (b.take 5) < 4294967296) : startV b = val (b.take 5) := by
 unfold startV
 have bd : ∀ n, n ≤ 5 → 0 ≤ val (b.take n) := fun n _ => (val_bd _ (Dg_take hb n)).1
 have s1 := val_take_succ (b := b) (n := 0) (by omega)
 have s2 := val_take_succ (b := b) (n := 1) (by omega)
 have s3 := val_take_succ (b := b) (n := 2) (by omega)
 have s4 := val_take_succ (b := b) (n := 3) (by omega)
 have s5 := val_take_succ (b := b) (n := 4) (by omega)
 have z : val (b.take 0) = 0 := rfl
 have d0 := getD_dg hb 0
 have d1 := getD_dg hb 1
 have d2 := getD_dg hb 2
 have d3 := getD_dg hb 3
 have d4 := getD_dg hb 4
 simp only [readsV, nextV, Nat.zero_add, Nat.reduceAdd] at s1 s2 s3 s4 s5 ⊢
 omega
theorem unpackV_iff {n : Nat} {b l : List Int} (hb : Dg b) : unpackV n b = some l ↔ l.length = n ∧ (∀ x ∈ l, In x) ∧ encV l = b := by
 unfold unpackV
 have h0 : 0 ≤ startV b := (readsV_bd hb 5 (0, 0) (by decide)).1
 constructor
 ·intro h
  obtain ⟨⟨l1, t⟩, h1, h2⟩ := Option.bind_eq_some_iff.1 h
  simp only at h2
  split at h2
  ·rename_i he
   cases h2
   obtain ⟨a, c, rfl⟩ := decP_sound hb n _ _ _ _ _ cok0 h0 h1
   exact ⟨a, c, he⟩
  ·cases h2
 ·rintro ⟨rfl, hl, he⟩
  obtain ⟨d1, d2, d3⟩ := encV_of hl
  rw [he] at d2 d3
  have h5 : 5 ≤ b.length := by rw [d2]; exact (stepsA_ok l s0A ai0 hl).n
  obtain ⟨a, ha⟩ := stepsA_within l s0A ai0 hl
  have hr := (stepsA_ok l s0A ai0 hl).r
  have ht := take_in hb ha (by omega) d3 d2
  have e0 : s0A.n = 5 := rfl
  have e1 : s0A.V = 0 := rfl
  have e2 : s0A.r = 4294967295 := rfl
  rw [e0, e1, e2] at ht
  have hst := start_of hb h5 (by omega)
  have := decP_complete hb l s0C (startV b) cok0 hl (by rw [abs0]; exact d3) (by rw [abs0]; exact d2) (by rw [hst]; exact (Int.sub_zero _).symm)
  rw [show nw s0C.w = 5 from rfl] at this
  rw [this]
  have he' : endV (codesV s0C l).w = b := he
  simp [he']
theorem enc_unpack {l : List Int} (hl : ∀ x ∈ l, In x) : unpackV l.length (encV l) = some l := (unpackV_iff (encV_of hl).1).2 ⟨rfl, hl, rfl⟩
end Go.Proofs.YtbdbobjdlomjnaaGreatDoor.Ec

namespace Go.Proofs.YtbdbobjdlomjnaaGreatDoor.Ec
set_option linter.unusedVariables false
set_option linter.unusedSimpArgs false
open Go Go.RowKit Go.Proofs.YtbdbobjdlomjnaaGreatDoor.P Go.Proofs.YtbdbobjdlomjnaaGreatDoor.X Go.Proofs.YtbdbobjdlomjnaaGreatDoorW.PrintWords Go.Proofs.YtbdbobjdlomjnaaGreatDoorW.PrintLast Go.Proofs.YtbdbobjdlomjnaaGreatDoorW.PrintMore
set_option maxHeartbeats 8000000
set_option maxRecDepth 100000
def cc (vm : Value) (r : Int) (vo : Value) (s : WS) : Array Value := #[vm, .int .u32 r, vo, .int .u8 s.cache, .int .i64 (s.held : Int), .int .u64 s.low]
structure Wd (base : Nat) (w : World) (h : Nat) (vm : Value) (r : Int) (vo : Value) (P : Nat → Prop) (s : WS) : Prop where
 hb : base ≤ h
 hh : w.heap[h]? = some (.cells (cc vm r vo s) 239 (0, 0))
 ho : Kd.R (Kd.int .u8) 5 w base P vo s.out
 hP : ¬ P h
section
variable {base : Nat} {w w1 : World} {h : Nat} {vm : Value} {r : Int} {vo : Value} {P : Nat → Prop} {s : WS}
theorem Wd.cell (d : Wd base w h vm r vo P s) : w.cell? ⟨h, 2, none⟩ = some vo ∧ w.cell? ⟨h, 3, none⟩ = some (.int .u8 s.cache) ∧ w.cell? ⟨h, 4, none⟩ = some (.int .i64 (s.held : Int)) ∧ w.cell? ⟨h, 5, none⟩ = some (.int .u64 s.low) :=
 ⟨(blk_cell d.hh 2).trans rfl, (blk_cell d.hh 3).trans rfl, (blk_cell d.hh 4).trans rfl, (blk_cell d.hh 5).trans rfl⟩
theorem Wd.free (d : Wd base w h vm r vo P s) : w.frozen? ⟨h, 2, none⟩ = false ∧ w.frozen? ⟨h, 3, none⟩ = false ∧ w.frozen? ⟨h, 4, none⟩ = false ∧ w.frozen? ⟨h, 5, none⟩ = false :=
 ⟨blk_frozen d.hh 2, blk_frozen d.hh 3, blk_frozen d.hh 4, blk_frozen d.hh 5⟩
theorem Wd.below (d : Wd base w h vm r vo P s) (hb : Below w.heap.size w w1) : Wd base w1 h vm r vo P s := ⟨d.hb, blk_below d.hh hb, Kd.R_below d.ho hb, d.hP⟩
theorem Wd.set (d : Wd base w h vm r vo P s) {i : Nat} {u : Value} {s' : WS} (e : (cc vm r vo s).setIfInBounds i u = cc vm r vo s') (eo : s'.out = s.out) : Wd base (w.setCell ⟨h, i, none⟩ u) h vm r vo P s' :=
 ⟨d.hb, blk_put d.hh i u e, by rw [eo]; exact Kd.R_far d.ho (fun k hk e => d.hP (by have e' : k = h := e; rw [← e']; exact hk)) u, d.hP⟩
end
structure Wr (w0 w : World) (h : Nat) (vo : Value) (w' : World) (vo' : Value) : Prop where
 b : Below w0.heap.size w0 w'
 k : Kept w w' (fun k => k = h ∨ some k = vo.ownBlock)
 o : vo'.ownBlock = vo.ownBlock ∨ ∃ b, vo'.ownBlock = some b ∧ w.heap.size ≤ b
theorem Wr.trans {w0 w w1 w2 : World} {h : Nat} {vo v1 v2 : Value} (a : Wr w0 w h vo w1 v1) (b : Wr w0 w1 h v1 w2 v2) : Wr w0 w h vo w2 v2 := by
 refine ⟨b.b, a.k.then_ b.k ?_, ?_⟩
 ·rintro k (rfl | hk)
  ·exact .inl (.inl rfl)
  ·rcases a.o with e | ⟨c, e, hc⟩
   ·exact .inl (.inr (by rw [hk, e]))
   ·rw [e] at hk
    injection hk with hk
    exact .inr (by omega)
 ·rcases b.o with e | ⟨c, e, hc⟩
  ·rw [e]; exact a.o
  ·exact .inr ⟨c, e, Nat.le_trans a.k.1 hc⟩
theorem and24 {x : Int} (h0 : 0 ≤ x) (h1 : x < 18446744073709551616) : Go.bits .and .u64 x 16777215 = x % 16777216 := by
 rw [u64_and x 16777215 h0 h1 (by decide) (by decide), show (16777215 : Int).toNat = 2 ^ 24 - 1 by decide, Nat.and_two_pow_sub_one_eq_mod]
 omega
def heldAt (w : World) (h : Nat) : Nat := match w.cell? ⟨h, 4, none⟩ with | some v => (intV v).toNat | none => 0
theorem heldAt_of {w : World} {h : Nat} {n : Int} (e : w.cell? ⟨h, 4, none⟩ = some (.int .i64 n)) : heldAt w h = n.toNat := by unfold heldAt; rw [e]; rfl
theorem infoU : (Tryz.prog.info? 5).map (fun i => (i.zero, i.size, i.bytes)) = some (some (.int .u8 0), 1, 1) := by kernel_rfl
theorem shift_calls (w0 w : World) (h : Nat) (vm : Value) (r : Int) (vo : Value) (P : Nat → Prop) (s : WS) (d : Wd w0.heap.size w h vm r vo P s) (hok : Ok s) (hB : Below w0.heap.size w0 w) (hP : ∀ k, w.heap.size ≤ k → P k) (hl : s.out.length + s.held ≤ 1099511627776) :
  Calls Tryz.prog 201 #[.pointer (some ⟨h, 2, none⟩)] w fun e w' => e = .returned (.tuple #[]) ∧ ∃ vo', Wd w0.heap.size w' h vm r vo' P (shiftV s) ∧ Wr w0 w h vo w' vo' := by
 have hu := Tryz.underlying237
 obtain ⟨x2, x3, x4, x5⟩ := d.cell
 obtain ⟨f2, f3, f4, f5⟩ := d.free
 obtain ⟨hd, hc, hh, hlw, hk⟩ := hok
 go_enter Tryz.func201, Tryz.ntmps201
 have ha24 := and24 hlw.1 (show s.low < 18446744073709551616 by omega)
 go_upto_region 0 with (fail)
 go_cut [14] (fun v wc => v = .bool (decide (s.low < 4278190080 ∨ s.low ≥ 4294967296)) ∧ w = wc)
 case first =>
  by_cases c1 : s.low < 4278190080
  ·have b1 : decide (s.low < 4278190080) = true := decide_eq_true c1
   go_wp2
   go_meet
   exact ⟨by rw [decide_eq_true (.inl c1)], rfl⟩
  ·have b1 : decide (s.low < 4278190080) = false := decide_eq_false c1
   by_cases c2 : 4294967296 ≤ s.low
   ·have b2 : decide (4294967296 ≤ s.low) = true := decide_eq_true c2
    go_wp2
    go_meet
    exact ⟨by rw [decide_eq_true (.inr c2)], rfl⟩
   ·have b2 : decide (4294967296 ≤ s.low) = false := decide_eq_false c2
    go_wp2
    go_meet
    exact ⟨by rw [decide_eq_false (by omega)], rfl⟩
 case rest =>
  obtain ⟨rfl, rfl⟩ := hcut
  by_cases c : s.low < 4278190080 ∨ s.low ≥ 4294967296
  ·rw [decide_eq_true c]
   have b1 : decide ((s.held : Int) > 0) = true := decide_eq_true (by omega)
   go_upto_region 3 with (fail)
   have hne : some h ≠ vo.ownBlock := fun e => d.hP (d.ho.1 h e.symm)
   have hHd : w.drew.heap[h]? = some (.cells (cc vm r vo s) 239 (0, 0)) := d.hh
   have hOd : Kd.R (Kd.int .u8) 5 w.drew w0.heap.size P vo s.out := Kd.R_drew d.ho
   have hBd : Below w0.heap.size w0 w.drew := below_drew hB
   have hfr : ∀ k, w.drew.heap.size ≤ k → P k := hP
   have hlk : (s.out.length + 1) * 1 ≤ 140737488355328 := by omega
   clear f2 f3 f4 f5
--REGION3
   refine start_ (n := 16) (S := fun w' => w'.cell? ⟨h, 2, none⟩ = some vo ∧ w'.cell? ⟨h, 3, none⟩ = some (.int .u8 s.cache)) (ds := [15]) #[false, false, false, false, false, false, false, false, false, false, false, false, false, false, false, false] (by kernel_rfl) rfl rfl ⟨x2, x3⟩ (fun hHeld => ?_)
   refine pure_ (i := 0) (N := some 26) (v := ?_) (a' := ?_) #[true, false, false, false, false, false, false, false, false, false, false, false, false, false, false, false] rfl rfl (by kernel_rfl) (fun _ _ _ h => h) (Or.inl ⟨by rfl, ?_⟩) ?_ ?_
   rotate_left
   ·intro w'
    go_simp
    with_reducible rfl
   rotate_left
   ·simp only [Act.put, List.setIfInBounds_toArray, List.set_cons_zero, List.set_cons_succ, i64_w, i32_w]
    rfl
   refine pure_ (i := 1) (N := some 27) (v := ?_) (a' := ?_) #[true, true, false, false, false, false, false, false, false, false, false, false, false, false, false, false] rfl rfl (by kernel_rfl) (fun _ _ _ h => h) (Or.inl ⟨by rfl, ?_⟩) ?_ ?_
   rotate_left
   ·intro w'
    go_simp
    with_reducible rfl
   rotate_left
   ·simp only [Act.put, List.setIfInBounds_toArray, List.set_cons_zero, List.set_cons_succ, i64_w, i32_w]
    rfl
   refine pure_ (i := 2) (N := some 28) (v := ?_) (a' := ?_) #[true, true, true, false, false, false, false, false, false, false, false, false, false, false, false, false] rfl rfl (by kernel_rfl) (fun _ _ _ h => h) (Or.inl ⟨by rfl, ?_⟩) ?_ ?_
   rotate_left
   ·intro w'
    go_simp
    with_reducible rfl
   rotate_left
   ·simp only [Act.put, List.setIfInBounds_toArray, List.set_cons_zero, List.set_cons_succ, i64_w, i32_w]
    rfl
   refine pure_ (i := 3) (N := some 29) (v := ?_) (a' := ?_) #[true, true, true, true, false, false, false, false, false, false, false, false, false, false, false, false] rfl rfl (by kernel_rfl) (fun _ _ _ h => h) (Or.inl ⟨by rfl, ?_⟩) ?_ ?_
   rotate_left
   ·intro w'
    go_simp
    with_reducible rfl
   rotate_left
   ·simp only [Act.put, List.setIfInBounds_toArray, List.set_cons_zero, List.set_cons_succ, i64_w, i32_w]
    rfl
   refine pure_ (i := 5) (N := some 31) (v := ?_) (a' := ?_) #[true, true, true, true, false, true, false, false, false, false, false, false, false, false, false, false] rfl rfl (by kernel_rfl) (fun _ _ _ h => h) (Or.inl ⟨by rfl, ?_⟩) ?_ ?_
   rotate_left
   ·intro w'
    go_simp
    with_reducible rfl
   rotate_left
   ·simp only [Act.put, List.setIfInBounds_toArray, List.set_cons_zero, List.set_cons_succ, i64_w, i32_w]
    rfl
   refine pure_ (i := 6) (N := some 32) (v := ?_) (a' := ?_) #[true, true, true, true, false, true, true, false, false, false, false, false, false, false, false, false] rfl rfl (by kernel_rfl) (fun _ _ _ h => h) (Or.inl ⟨by rfl, ?_⟩) ?_ ?_
   rotate_left
   ·intro w'
    go_simp
    with_reducible rfl
   rotate_left
   ·simp only [Act.put, List.setIfInBounds_toArray, List.set_cons_zero, List.set_cons_succ, i64_w, i32_w]
    rfl
   refine pure_ (i := 7) (N := some 33) (v := ?_) (a' := ?_) #[true, true, true, true, false, true, true, true, false, false, false, false, false, false, false, false] rfl rfl (by kernel_rfl) (fun _ _ _ h => h) (Or.inl ⟨by rfl, ?_⟩) ?_ ?_
   rotate_left
   ·intro w'
    go_simp
    with_reducible rfl
   rotate_left
   ·simp only [Act.put, List.setIfInBounds_toArray, List.set_cons_zero, List.set_cons_succ, i64_w, i32_w]
    rfl
   refine pure_ (i := 9) (N := some 35) (v := ?_) (a' := ?_) #[true, true, true, true, false, true, true, true, false, true, false, false, false, false, false, false] rfl rfl (by kernel_rfl) (fun _ _ _ h => h) (Or.inl ⟨by rfl, ?_⟩) ?_ ?_
   rotate_left
   ·intro w'
    go_simp
    with_reducible rfl
   rotate_left
   ·simp only [Act.put, List.setIfInBounds_toArray, List.set_cons_zero, List.set_cons_succ, i64_w, i32_w]
    rfl
   refine take_ (i := 4) (N := some 30) (v := ?_) (a' := ?_) #[true, true, true, true, true, true, true, true, false, true, false, false, false, false, false, false] rfl rfl (by kernel_rfl) (fun _ _ _ h => h) (Or.inl ⟨by rfl, ?_⟩) hHeld ?_ ?_
   rotate_left
   ·rintro w' ⟨s0, s1⟩
    go_simp
    with_reducible rfl
   rotate_left
   ·simp only [Act.put, List.setIfInBounds_toArray, List.set_cons_zero, List.set_cons_succ, i64_w, i32_w]
    rfl
   refine take_ (i := 8) (N := some 34) (v := ?_) (a' := ?_) #[true, true, true, true, true, true, true, true, true, true, false, false, false, false, false, false] rfl rfl (by kernel_rfl) (fun _ _ _ h => h) (Or.inl ⟨by rfl, ?_⟩) hHeld ?_ ?_
   rotate_left
   ·rintro w' ⟨s0, s1⟩
    go_simp
    with_reducible rfl
   rotate_left
   ·simp only [Act.put, List.setIfInBounds_toArray, List.set_cons_zero, List.set_cons_succ, i64_w, i32_w]
    rfl
   refine pure_ (i := 10) (N := some 36) (v := ?_) (a' := ?_) #[true, true, true, true, true, true, true, true, true, true, true, false, false, false, false, false] rfl rfl (by kernel_rfl) (fun _ _ _ h => h) (Or.inl ⟨by rfl, ?_⟩) ?_ ?_
   rotate_left
   ·intro w'
    go_simp
    with_reducible rfl
   rotate_left
   ·simp only [Act.put, List.setIfInBounds_toArray, List.set_cons_zero, List.set_cons_succ, i64_w, i32_w]
    rfl
   refine one_ (i := 11) (N := some 37) #[true, true, true, true, true, true, true, true, true, true, true, true, false, false, false, false] rfl rfl (by kernel_rfl) (by decide) (fun K hK => ?_)
   refine value_ (w1 := ?_) (v := ?_) (by rfl) rfl ?_ ?_
   rotate_left 2
   ·go_simp
    constructor
    ·rfl
    ·rfl
   refine hK.out _ _ ⟨(((Below.refl _ _).alloc (Nat.le_refl _) _).cell (World.block_lt_of_cell? _ _ hHeld.1)).trans hHeld.1, (((Below.refl _ _).alloc (Nat.le_refl _) _).cell (World.block_lt_of_cell? _ _ hHeld.2)).trans hHeld.2⟩ (fun hHeld => ?_)
   clear hK K
   refine norm_ (a' := ?_) ?_ ?_
   rotate_left
   ·show Act.put _ (some 37) _ = _
    simp only [Act.put, List.setIfInBounds_toArray, List.set_cons_zero, List.set_cons_succ, i64_w, i32_w]
    rfl
   refine one_ (i := 12) (N := some 38) #[true, true, true, true, true, true, true, true, true, true, true, true, true, false, false, false] rfl rfl (by kernel_rfl) (by decide) (fun K hK => ?_)
   refine Kd.R_append_step (Kd.int .u8) (w0 := w0) w0.heap.size rfl (.tmp 30) (.tmp 37) 26 5 (.int .u8 0) 1 rfl Tryz.underlying26 infoU rfl (by decide) (by omega) vo s.out _ _ P (fun _ => False) rfl rfl rfl (fun _ hk => hk.elim) hfr hOd hBd hBd.size hlk ?_
   intro v1 w1 hR1 hb1 hg1 hat1
   obtain ⟨A1, c1, e1⟩ := Kd.R_slice hR1
   subst e1
   have hH1 := blk_grown hHd hg1 hne
   refine hK.out _ _ ⟨(blk_cell hH1 2).trans rfl, (blk_cell hH1 3).trans rfl⟩ (fun hHeld => ?_)
   clear hK K
   refine norm_ (a' := ?_) ?_ ?_
   rotate_left
   ·show Act.put _ (some 38) _ = _
    simp only [Act.put, List.setIfInBounds_toArray, List.set_cons_zero, List.set_cons_succ, i64_w, i32_w]
    rfl
   refine pure_ (i := 13) (N := some 39) (v := ?_) (a' := ?_) #[true, true, true, true, true, true, true, true, true, true, true, true, true, true, false, false] rfl rfl (by kernel_rfl) (fun _ _ _ h => h) (Or.inl ⟨by rfl, ?_⟩) ?_ ?_
   rotate_left
   ·intro w'
    go_simp
    with_reducible rfl
   rotate_left
   ·simp only [Act.put, List.setIfInBounds_toArray, List.set_cons_zero, List.set_cons_succ, i64_w, i32_w]
    rfl
   refine pure_ (i := 14) (N := some 40) (v := ?_) (a' := ?_) #[true, true, true, true, true, true, true, true, true, true, true, true, true, true, true, false] rfl rfl (by kernel_rfl) (fun _ _ _ h => h) (Or.inl ⟨by rfl, ?_⟩) ?_ ?_
   rotate_left
   ·intro w'
    go_simp
    with_reducible rfl
   rotate_left
   ·simp only [Act.put, List.setIfInBounds_toArray, List.set_cons_zero, List.set_cons_succ, i64_w, i32_w]
    rfl
   refine last_ (i := 15) (N := none) #[true, true, true, true, true, true, true, true, true, true, true, true, true, true, true, true] rfl rfl (by kernel_rfl) (by decide) (fun K hK => ?_)
   have hcs1 : w1.cell? ⟨h, 2, none⟩ = some vo := (blk_cell hH1 2).trans rfl
   have hfs1 := blk_frozen hH1 2
   refine skip_ (w1 := ?_) (by rfl) rfl ?_ ?_
   rotate_left
   ·go_simp
    rfl
   refine hK.out _ _ ?_
   clear hK K
   refine done_ (by kernel_rfl) ?_
   
   --END3
   have hX : IntKind.u8.wrap (s.cache + s.low / 4294967296) = (s.cache + s.low / 4294967296) % 256 := IntKind.wrap_u8 _
   rw [hX] at hR1 ⊢
   have hd1 : Wd w0.heap.size (w1.setCell ⟨h, 2, none⟩ (.slice A1 (s.out.length + 1) c1)) h vm r (.slice A1 (s.out.length + 1) c1) P { s with out := s.out ++ [(s.cache + s.low / 4294967296) % 256] } :=
    ⟨d.hb, blk_put hH1 2 _ rfl, by
     have := Kd.R_far (p := ⟨h, 2, none⟩) hR1 (fun k hk e => d.hP (by have e' : k = h := e; rw [← e']; exact hk)) (.slice A1 (s.out.length + 1) c1)
     rwa [List.length_append] at this, d.hP⟩
   have hr1 : Wr w0 w h vo (w1.setCell ⟨h, 2, none⟩ (.slice A1 (s.out.length + 1) c1)) (.slice A1 (s.out.length + 1) c1) :=
    ⟨below_set hb1 d.hb, (Kept.of_grown hg1 (Kept.refl w _).drew (fun k hk => .inl (.inr hk.symm))).setCell (.inl (.inl rfl)) _, by
     rw [List.length_append] at hat1
     exact hat1⟩
   clear hR1 hb1 hg1 hat1 hH1 hHd hOd hBd hfr hlk hne hcs1 hfs1 x2 x3 x4 x5 hHeld
   generalize w1.setCell ⟨h, 2, none⟩ (.slice A1 (s.out.length + 1) c1) = w2 at hd1 hr1 ⊢
   have hle : 0 ≤ s.low / 4294967296 ∧ s.low / 4294967296 ≤ 1 := by omega
   have bh : decide (0 < s.held) = true := decide_eq_true (by omega)
   simp only [List.length_append, List.length_cons, List.length_nil, Nat.zero_add, bh]
   go_wp2
   go_loopw [] (fun wr => ∃ (j : Nat) (vo' : Value), j + 1 ≤ s.held ∧ Wd w0.heap.size wr h vm r vo' P { s with out := s.out ++ [(s.cache + s.low / 4294967296) % 256] ++ List.replicate j ((255 + s.low / 4294967296) % 256), held := s.held - j } ∧ Wr w0 w h vo wr vo') (fun wr => heldAt wr h)
   case atStart => exact ⟨0, _, hh, by simpa using hd1, hr1⟩
   case round =>
    clear hd1 hr1 hB
    obtain ⟨j, vo', hj, hd1, hr1⟩ := hrel
    obtain ⟨x2, x3, x4, x5⟩ := hd1.cell
    obtain ⟨f2, f3, f4, f5⟩ := hd1.free
    have hmeas : heldAt wr h = s.held - j := by rw [heldAt_of x4]; exact Int.toNat_natCast _
    by_cases c2 : s.held - j > 1
    ·have b2 : decide (1 < ((s.held - j : Nat) : Int)) = true := decide_eq_true (by omega)
     have hne : some h ≠ vo'.ownBlock := fun e => hd1.hP (hd1.ho.1 h e.symm)
     have hfr : ∀ k, wr.heap.size ≤ k → P k := fun k hk => hP k (Nat.le_trans hr1.k.1 hk)
     have hlen : (s.out ++ [(s.cache + s.low / 4294967296) % 256] ++ List.replicate j ((255 + s.low / 4294967296) % 256)).length = s.out.length + 1 + j := by simp; omega
     have hO := hd1.ho
     have hlk : ((s.out ++ [(s.cache + s.low / 4294967296) % 256] ++ List.replicate j ((255 + s.low / 4294967296) % 256)).length + 1) * 1 ≤ 140737488355328 := by rw [hlen]; omega
     have hB1 := hr1.b
     have hsnoc : s.out ++ [(s.cache + s.low / 4294967296) % 256] ++ List.replicate j ((255 + s.low / 4294967296) % 256) ++ [(255 + s.low / 4294967296) % 256] = s.out ++ [(s.cache + s.low / 4294967296) % 256] ++ List.replicate (j + 1) ((255 + s.low / 4294967296) % 256) := by rw [List.replicate_succ', ← List.append_assoc]
     have hlen2 : (s.out ++ [(s.cache + s.low / 4294967296) % 256] ++ List.replicate (j + 1) ((255 + s.low / 4294967296) % 256)).length = s.out.length + 1 + (j + 1) := by simp; omega
     have HSN := Aside0.mk hsnoc
     have HL2 := Aside0.mk hlen2
     clear hsnoc hlen2
     generalize hO1 : s.out ++ [(s.cache + s.low / 4294967296) % 256] ++ List.replicate j ((255 + s.low / 4294967296) % 256) = O1 at *
     generalize hO2 : s.out ++ [(s.cache + s.low / 4294967296) % 256] ++ List.replicate (j + 1) ((255 + s.low / 4294967296) % 256) = O2 at *
     generalize hy : (255 + s.low / 4294967296) % 256 = y at *
     have hy2 : (255 + s.low / 4294967296) % 256 = y := hy
     go_wp2_with (first | ((with_reducible refine gate_builtin (b := .append) (xs := #[.tmp 57, .tmp 60]) rfl ?_); at_builtin; refine Kd.R_append (Kd.int .u8) (w0 := w0) w0.heap.size rfl (.tmp 57) (.tmp 60) 26 5 (.int .u8 0) 1 rfl Tryz.underlying26 infoU rfl (by decide) (by omega) vo' O1 y [.int .u8 y] P (fun _ => False) rfl rfl ?aP (fun _ hk => hk.elim) ?aF ?aO ?aB ?aS ?aL ?_; (case aP => exact rfl); (case aF => exact hfr); (case aO => exact hO); (case aB => exact hB1); (case aS => exact hB1.size); (case aL => exact hlk); intro v3 w3 hR3 hb3 hg3 hat3; rw [HSN.out] at hR3; obtain ⟨A3, c3, e3⟩ := Kd.R_slice hR3; subst e3; have hH3 := blk_grown hd1.hh hg3 hne; have z2 : w3.cell? ⟨h, 2, none⟩ = some vo' := (blk_cell hH3 2).trans rfl; have z4 : w3.cell? ⟨h, 4, none⟩ = some (.int .i64 ((s.held - j : Nat) : Int)) := (blk_cell hH3 4).trans rfl; have zf2 := blk_frozen hH3 2; have zf4 := blk_frozen hH3 4; clear x2 x3 x4 x5 f2 f3 f4 f5 hO hlk hfr hB1))
     have hdA : Wd w0.heap.size (w3.setCell ⟨h, 2, none⟩ (.slice A3 O2.length c3)) h vm r (.slice A3 O2.length c3) P { s with out := O2, held := s.held - j } :=
      ⟨d.hb, blk_put hH3 2 _ rfl, Kd.R_far (p := ⟨h, 2, none⟩) hR3 (fun k hk e => d.hP (by have e' : k = h := e; rw [← e']; exact hk)) _, d.hP⟩
     have hdB := hdA.set (i := 4) (u := .int .i64 (((s.held - j : Nat) : Int) - 1)) (s' := { s with out := O2, held := s.held - (j + 1) }) (by
      have : ((s.held - j : Nat) : Int) - 1 = ((s.held - (j + 1) : Nat) : Int) := by omega
      rw [this]
      rfl) rfl
     have hrB : Wr w0 w h vo ((w3.setCell ⟨h, 2, none⟩ (.slice A3 O2.length c3)).setCell ⟨h, 4, none⟩ (.int .i64 (((s.held - j : Nat) : Int) - 1))) (.slice A3 O2.length c3) :=
      hr1.trans ⟨below_set (below_set hb3 d.hb) d.hb, ((Kept.of_grown hg3 (Kept.refl wr _) (fun k hk => .inl (.inr hk.symm))).setCell (p := ⟨h, 2, none⟩) (.inl (.inl rfl)) _).setCell (p := ⟨h, 4, none⟩) (.inl (.inl rfl)) _, hat3⟩
     go_roundw
     case rel =>
      exact ⟨j + 1, .slice A3 O2.length c3, by omega, by first | (rw [hO2]; exact hdB) | (rw [hy2, hO2]; exact hdB), hrB⟩
     case measure =>
      rw [hmeas, heldAt_of hdB.cell.2.2.1]
      simp only [Int.toNat_natCast]
      omega
    ·have b2 : decide (1 < ((s.held - j : Nat) : Int)) = false := decide_eq_false (by omega)
     obtain rfl : j = s.held - 1 := by omega
     go_wp2
     go_returns
     have e : shiftV s = { out := s.out ++ [(s.cache + s.low / 4294967296) % 256] ++ List.replicate (s.held - 1) ((255 + s.low / 4294967296) % 256), cache := s.low / 16777216 % 256, held := 1, low := s.low % 16777216 * 256 } := by
      unfold shiftV
      rw [if_pos c, if_pos (show 0 < s.held by omega)]
     have h1 := hd1.set (i := 4) (u := .int .i64 0) (s' := { out := s.out ++ [(s.cache + s.low / 4294967296) % 256] ++ List.replicate (s.held - 1) ((255 + s.low / 4294967296) % 256), cache := s.cache, held := 0, low := s.low }) rfl rfl
     have h2 := h1.set (i := 3) (u := .int .u8 (s.low / 16777216 % 256)) (s' := { out := s.out ++ [(s.cache + s.low / 4294967296) % 256] ++ List.replicate (s.held - 1) ((255 + s.low / 4294967296) % 256), cache := s.low / 16777216 % 256, held := 0, low := s.low }) rfl rfl
     have h3 := h2.set (i := 4) (u := .int .i64 1) (s' := { out := s.out ++ [(s.cache + s.low / 4294967296) % 256] ++ List.replicate (s.held - 1) ((255 + s.low / 4294967296) % 256), cache := s.low / 16777216 % 256, held := 1, low := s.low }) rfl rfl
     have h4 := h3.set (i := 5) (u := .int .u64 (s.low % 16777216 * 256)) (s' := shiftV s) (by rw [e]; rfl) (by rw [e])
     have hk := hr1.k
     exact ⟨rfl, vo', h4, below_set (below_set (below_set (below_set hr1.b d.hb) d.hb) d.hb) d.hb, (((hk.setCell (p := ⟨h, 4, none⟩) (.inl (.inl rfl)) _).setCell (p := ⟨h, 3, none⟩) (.inl (.inl rfl)) _).setCell (p := ⟨h, 4, none⟩) (.inl (.inl rfl)) _).setCell (p := ⟨h, 5, none⟩) (.inl (.inl rfl)) _, hr1.o⟩
  ·rw [decide_eq_false c]
   go_wp2
   go_returns
   have hs' : shiftV s = { s with held := s.held + 1, low := s.low % 16777216 * 256 } := by unfold shiftV; rw [if_neg c]
   refine ⟨rfl, vo, ?_, below_set (below_set hB d.hb) d.hb, ((Kept.refl w _).setCell (.inl (.inl rfl)) _).setCell (.inl (.inl rfl)) _, .inl rfl⟩
   rw [hs']
   exact (d.set (s' := { s with held := s.held + 1 }) rfl rfl).set rfl rfl
end Go.Proofs.YtbdbobjdlomjnaaGreatDoor.Ec

namespace Go.Proofs.YtbdbobjdlomjnaaGreatDoor.Ec
set_option linter.unusedVariables false
set_option linter.unusedSimpArgs false
open Go Go.RowKit Go.Proofs.YtbdbobjdlomjnaaGreatDoor.P Go.Proofs.YtbdbobjdlomjnaaGreatDoor.X Go.Proofs.YtbdbobjdlomjnaaGreatDoorW.PrintWords Go.Proofs.YtbdbobjdlomjnaaGreatDoorW.PrintLast Go.Proofs.YtbdbobjdlomjnaaGreatDoorW.PrintMore
set_option maxHeartbeats 8000000
set_option maxRecDepth 100000
def PP (h g gc bm k : Nat) : Prop := k ≠ h ∧ k ≠ g ∧ k ≠ gc ∧ k ≠ bm
structure Cd (base : Nat) (w : World) (h g gc bm cm : Nat) (vo : Value) (s : CS) : Prop where
 d : Wd base w h (.slice (some ⟨bm, 0, none⟩) 1 cm) s.r vo (PP h g gc bm) s.w
 m : Mo w g gc s.c (sumI s.c)
 p : w.cell? ⟨bm, 0, none⟩ = some (.pointer (some ⟨g, 0, none⟩))
 hg : base ≤ g
 hgc : base ≤ gc
 n1 : h ≠ g
 n2 : h ≠ gc
 n3 : bm ≠ h
 n4 : bm ≠ g
 n5 : bm ≠ gc
section
variable {base : Nat} {w w1 : World} {h g gc bm cm : Nat} {vo : Value} {s : CS}
theorem Cd.below (a : Cd base w h g gc bm cm vo s) (hb : Below w.heap.size w w1) : Cd base w1 h g gc bm cm vo s :=
 ⟨a.d.below hb, a.m.below hb, (hb.cell (World.block_lt_of_cell? w _ a.p)).trans a.p, a.hg, a.hgc, a.n1, a.n2, a.n3, a.n4, a.n5⟩
theorem Cd.fresh (a : Cd base w h g gc bm cm vo s) : ∀ k, w.heap.size ≤ k → PP h g gc bm k := fun k hk => by
 have h1 := blk_lt a.d.hh
 have h2 := blk_lt a.m.hm
 have h3 := blk_lt a.m.hc
 have h4 : bm < w.heap.size := World.block_lt_of_cell? w _ a.p
 exact ⟨by omega, by omega, by omega, by omega⟩
theorem Cd.cell (a : Cd base w h g gc bm cm vo s) : w.cell? ⟨h, 0, none⟩ = some (.slice (some ⟨bm, 0, none⟩) 1 cm) ∧ w.cell? ⟨h, 1, none⟩ = some (.int .u32 s.r) ∧ w.frozen? ⟨h, 1, none⟩ = false := ⟨(blk_cell a.d.hh 0).trans rfl, (blk_cell a.d.hh 1).trans rfl, blk_frozen a.d.hh 1⟩
end
theorem Mo.heap {w w1 : World} {g gc : Nat} {c : List Int} {t : Int} (a : Mo w g gc c t) (e : w1.heap = w.heap) : Mo w1 g gc c t := ⟨a.ne, by rw [e]; exact a.hm, by rw [e]; exact a.hc, a.n⟩
theorem plain_calls (w : World) : Calls Tryz.prog 150 #[.int .i64 0] w fun e w' => e = .returned (.tuple #[.int .i64 1, .bool false]) ∧ w = w' := by
 go_enter Tryz.func150, Tryz.ntmps150
 go_wp2
 go_ret2
 rw [show wrap64 (2 ^ (min (0 : Int) 16).toNat) = 1 by rw [show (min (0 : Int) 16).toNat = 0 from rfl, Int.pow_zero]; exact w64 (by decide) (by decide)]
 exact ⟨rfl, rfl⟩
theorem whole_calls (base : Nat) (w : World) (h g gc bm cm : Nat) (vo : Value) (s : CS) (a : Cd base w h g gc bm cm vo s) : Calls Tryz.prog 153 #[.pointer (some ⟨h, 0, none⟩), .int .i64 0] w fun e w' => e = .returned (.int .i64 (sumI s.c)) ∧ w = w' := by
 have hu := Tryz.underlying226
 obtain ⟨x0, x1, f1⟩ := a.cell
 have y0 := a.p
 have hp := plain_calls w
 have ht := total_calls w g gc s.c _ a.m
 go_enter Tryz.func153, Tryz.ntmps153
 go_wp2_with (first | (go_at_call 150; refine hp.mono ?_; rintro e w1 ⟨rfl, rfl⟩) | (go_at_call 198; refine ht.mono ?_; rintro e w1 ⟨rfl, rfl⟩))
 go_returns
 exact ⟨rfl, rfl⟩
theorem find1_calls (base : Nat) (w : World) (h g gc bm cm : Nat) (vo : Value) (s : CS) (a : Cd base w h g gc bm cm vo s) (hm : MOk s.c) (v : Int) (h0 : 0 ≤ v) (h1 : v < 4294967296) : Calls Tryz.prog 154 #[.pointer (some ⟨h, 0, none⟩), .int .i64 0, .int .i64 v] w fun e w' => e = .returned (.int .i64 (findC s.c (min v (sumI s.c - 1)))) ∧ w = w' := by
 have hu := Tryz.underlying226
 obtain ⟨x0, x1, f1⟩ := a.cell
 have y0 := a.p
 have hge := hm.ge
 have hs := hm.s
 have hw := whole_calls base w h g gc bm cm vo s a
 have hf := find_calls w g gc s.c (min v (sumI s.c - 1)) a.m hm (by omega) (by omega)
 generalize findC s.c (min v (sumI s.c - 1)) = r at *
 go_enter Tryz.func154, Tryz.ntmps154
 go_wp2_with (first | (go_at_call 153; refine hw.mono ?_; rintro e w1 ⟨rfl, rfl⟩) | (go_at_call 199; refine hf.mono ?_; rintro e w1 ⟨rfl, rfl⟩))
 go_returns
 exact ⟨rfl, rfl⟩
theorem share1_calls (base : Nat) (w : World) (h g gc bm cm : Nat) (vo : Value) (s : CS) (a : Cd base w h g gc bm cm vo s) (hm : MOk s.c) (x : Int) (hx : In x) : Calls Tryz.prog 155 #[.pointer (some ⟨h, 0, none⟩), .agg #[.int .i64 0, .int .i64 x]] w fun e w' => e = .returned (.tuple #[.int .i64 (lowC s.c x), .int .i64 (gt s.c x.toNat), .bool true]) ∧ Below w.heap.size w w' := by
 have hu := Tryz.underlying226
 have hu2 := Tryz.underlying122
 have hp := fun W => plain_calls W
 go_enter Tryz.func155, Tryz.ntmps155
 go_wp2_with (go_at_call 150; refine (hp _).mono ?_; rintro e w1 ⟨rfl, rfl⟩)
 have hb1 : Below w.heap.size w (w.alloc (.cells #[.int .i64 0, .int .i64 x] 122)) := below_alloc (Below.refl _ w) _
 have hg1 := heap_alloc_new w (.cells #[.int .i64 0, .int .i64 x] 122)
 have a1 := a.below hb1
 generalize w.alloc (.cells #[.int .i64 0, .int .i64 x] 122) = w1 at hb1 hg1 a1 ⊢
 clear hp
 have hsh := fun W (e : W.heap = w1.heap) => share_calls W g gc s.c _ x (a1.m.heap e) hm hx
 obtain ⟨x0, x1, f1⟩ := a1.cell
 have y0 := a1.p
 have z0 : w1.cell? ⟨w.heap.size, 0, none⟩ = some (.int .i64 0) := (blk_cell hg1 0).trans rfl
 have z1 : w1.cell? ⟨w.heap.size, 1, none⟩ = some (.int .i64 x) := (blk_cell hg1 1).trans rfl
 go_quiet (fail)
 go_wp2
 go_quiet (first | (go_at_call 200; refine (hsh _ (by rfl)).mono ?_; rintro e w2 ⟨rfl, ⟨nd, rfl⟩⟩; (try first | exact ⟨rfl, _, World.drewN_drewN _ _ _⟩ | exact ⟨rfl, _, Eq.trans (World.drewN_drewN _ _ _) (congrArg (World.drewN _) (Nat.add_assoc _ _ _))⟩)))
 go_wp2
 go_ret3
 exact ⟨rfl, pw_below_drewN hb1 _⟩
end Go.Proofs.YtbdbobjdlomjnaaGreatDoor.Ec

namespace Go.Proofs.YtbdbobjdlomjnaaGreatDoor.Ec
set_option linter.unusedVariables false
set_option linter.unusedSimpArgs false
open Go Go.RowKit Go.Proofs.YtbdbobjdlomjnaaGreatDoor.P Go.Proofs.YtbdbobjdlomjnaaGreatDoor.X Go.Proofs.YtbdbobjdlomjnaaGreatDoorW.PrintWords Go.Proofs.YtbdbobjdlomjnaaGreatDoorW.PrintLast Go.Proofs.YtbdbobjdlomjnaaGreatDoorW.PrintMore
set_option maxHeartbeats 8000000
set_option maxRecDepth 100000
theorem count1_calls (w0 w : World) (h g gc bm cm : Nat) (vo : Value) (s : CS) (a : Cd w0.heap.size w h g gc bm cm vo s) (hm : MOk s.c) (x : Int) (hx : In x) (hB : Below w0.heap.size w0 w) :
  Calls Tryz.prog 202 #[.pointer (some ⟨h, 0, none⟩), .agg #[.int .i64 0, .int .i64 x]] w fun e w' => e = .returned (.tuple #[]) ∧ Mo w' g gc (countC s.c x) (sumI (countC s.c x)) ∧ Below w0.heap.size w0 w' ∧ Kept w w' (fun k => k = g ∨ k = gc) := by
 have hu := Tryz.underlying226
 have hu2 := Tryz.underlying122
 go_enter Tryz.func202, Tryz.ntmps202
 go_wp2
 have hb1 : Below w.heap.size w (w.alloc (.cells #[.int .i64 0, .int .i64 x] 122)) := below_alloc (Below.refl _ w) _
 have hg1 := heap_alloc_new w (.cells #[.int .i64 0, .int .i64 x] 122)
 generalize w.alloc (.cells #[.int .i64 0, .int .i64 x] 122) = w1 at hb1 hg1 ⊢
 have a1 := a.below hb1
 obtain ⟨x0, x1, f1⟩ := a1.cell
 have y0 := a1.p
 have z0 : w1.cell? ⟨w.heap.size, 0, none⟩ = some (.int .i64 0) := (blk_cell hg1 0).trans rfl
 have z1 : w1.cell? ⟨w.heap.size, 1, none⟩ = some (.int .i64 x) := (blk_cell hg1 1).trans rfl
 have hB1 := below_step hB hb1
 have hB2 : Below w0.heap.size w0 (w1.alloc (.cells #[.int .i64 x] 3)).drew := below_drew (below_alloc hB1 _)
 have hb2 : Below w1.heap.size w1 (w1.alloc (.cells #[.int .i64 x] 3)).drew := below_drew (below_alloc (Below.refl _ w1) _)
 have a2 := a1.below hb2
 have hn : (w1.alloc (.cells #[.int .i64 x] 3)).drew.heap[w1.heap.size]? = _ := heap_alloc_new w1 (.cells #[.int .i64 x] 3)
 have hlt1 := blk_lt a1.m.hm
 have hlt2 := blk_lt a1.m.hc
 have hcnt := count_calls w0 _ g gc w1.heap.size s.c x a2.m hm hx ((blk_cell hn 0).trans rfl) (by omega) (by omega) a.hg a.hgc hB2
 go_wp2
--REGION2
 refine start_ (n := 12) (S := fun w' => w'.cell? ⟨h, 0, none⟩ = some (.slice (some ⟨bm, 0, none⟩) 1 cm) ∧ w'.cell? ⟨bm, 0, none⟩ = some (.pointer (some ⟨g, 0, none⟩)) ∧ w'.cell? ⟨w.heap.size, 0, none⟩ = some (.int .i64 0) ∧ w'.cell? ⟨w.heap.size, 1, none⟩ = some (.int .i64 x)) (ds := [11]) #[false, false, false, false, false, false, false, false, false, false, false, false] (by kernel_rfl) rfl rfl ⟨x0, y0, z0, z1⟩ (fun hHeld => ?_)
 refine pure_ (i := 0) (N := some 7) (v := ?_) (a' := ?_) #[true, false, false, false, false, false, false, false, false, false, false, false] rfl rfl (by kernel_rfl) (fun _ _ _ h => h) (Or.inl ⟨by rfl, ?_⟩) ?_ ?_
 rotate_left
 ·intro w'
  go_simp
  with_reducible rfl
 rotate_left
 ·simp only [Act.put, List.setIfInBounds_toArray, List.set_cons_zero, List.set_cons_succ, i64_w, i32_w]
  rfl
 refine pure_ (i := 1) (N := some 8) (v := ?_) (a' := ?_) #[true, true, false, false, false, false, false, false, false, false, false, false] rfl rfl (by kernel_rfl) (fun _ _ _ h => h) (Or.inl ⟨by rfl, ?_⟩) ?_ ?_
 rotate_left
 ·intro w'
  go_simp
  with_reducible rfl
 rotate_left
 ·simp only [Act.put, List.setIfInBounds_toArray, List.set_cons_zero, List.set_cons_succ, i64_w, i32_w]
  rfl
 refine pure_ (i := 2) (N := some 9) (v := ?_) (a' := ?_) #[true, true, true, false, false, false, false, false, false, false, false, false] rfl rfl (by kernel_rfl) (fun _ _ _ h => h) (Or.inl ⟨by rfl, ?_⟩) ?_ ?_
 rotate_left
 ·intro w'
  go_simp
  with_reducible rfl
 rotate_left
 ·simp only [Act.put, List.setIfInBounds_toArray, List.set_cons_zero, List.set_cons_succ, i64_w, i32_w]
  rfl
 refine pure_ (i := 4) (N := some 11) (v := ?_) (a' := ?_) #[true, true, true, false, true, false, false, false, false, false, false, false] rfl rfl (by kernel_rfl) (fun _ _ _ h => h) (Or.inl ⟨by rfl, ?_⟩) ?_ ?_
 rotate_left
 ·intro w'
  go_simp
  with_reducible rfl
 rotate_left
 ·simp only [Act.put, List.setIfInBounds_toArray, List.set_cons_zero, List.set_cons_succ, i64_w, i32_w]
  rfl
 refine pure_ (i := 8) (N := some 15) (v := ?_) (a' := ?_) #[true, true, true, false, true, false, false, false, true, false, false, false] rfl rfl (by kernel_rfl) (fun _ _ _ h => h) (Or.inl ⟨by rfl, ?_⟩) ?_ ?_
 rotate_left
 ·intro w'
  go_simp
  with_reducible rfl
 rotate_left
 ·simp only [Act.put, List.setIfInBounds_toArray, List.set_cons_zero, List.set_cons_succ, i64_w, i32_w]
  rfl
 refine take_ (i := 3) (N := some 10) (v := ?_) (a' := ?_) #[true, true, true, true, true, false, false, false, true, false, false, false] rfl rfl (by kernel_rfl) (fun _ _ _ h => h) (Or.inl ⟨by rfl, ?_⟩) hHeld ?_ ?_
 rotate_left
 ·rintro w' ⟨s0, s1, s2, s3⟩
  go_simp
  with_reducible rfl
 rotate_left
 ·simp only [Act.put, List.setIfInBounds_toArray, List.set_cons_zero, List.set_cons_succ, i64_w, i32_w]
  rfl
 refine take_ (i := 5) (N := some 12) (v := ?_) (a' := ?_) #[true, true, true, true, true, true, false, false, true, false, false, false] rfl rfl (by kernel_rfl) (fun _ _ _ h => h) (Or.inl ⟨by rfl, ?_⟩) hHeld ?_ ?_
 rotate_left
 ·rintro w' ⟨s0, s1, s2, s3⟩
  go_simp
  with_reducible rfl
 rotate_left
 ·simp only [Act.put, List.setIfInBounds_toArray, List.set_cons_zero, List.set_cons_succ, i64_w, i32_w]
  rfl
 refine pure_ (i := 6) (N := some 13) (v := ?_) (a' := ?_) #[true, true, true, true, true, true, true, false, true, false, false, false] rfl rfl (by kernel_rfl) (fun _ _ _ h => h) (Or.inl ⟨by rfl, ?_⟩) ?_ ?_
 rotate_left
 ·intro w'
  go_simp
  with_reducible rfl
 rotate_left
 ·simp only [Act.put, List.setIfInBounds_toArray, List.set_cons_zero, List.set_cons_succ, i64_w, i32_w]
  rfl
 refine take_ (i := 7) (N := some 14) (v := ?_) (a' := ?_) #[true, true, true, true, true, true, true, true, true, false, false, false] rfl rfl (by kernel_rfl) (fun _ _ _ h => h) (Or.inl ⟨by rfl, ?_⟩) hHeld ?_ ?_
 rotate_left
 ·rintro w' ⟨s0, s1, s2, s3⟩
  go_simp
  with_reducible rfl
 rotate_left
 ·simp only [Act.put, List.setIfInBounds_toArray, List.set_cons_zero, List.set_cons_succ, i64_w, i32_w]
  rfl
 refine take_ (i := 9) (N := some 16) (v := ?_) (a' := ?_) #[true, true, true, true, true, true, true, true, true, true, false, false] rfl rfl (by kernel_rfl) (fun _ _ _ h => h) (Or.inl ⟨by rfl, ?_⟩) hHeld ?_ ?_
 rotate_left
 ·rintro w' ⟨s0, s1, s2, s3⟩
  go_simp
  with_reducible rfl
 rotate_left
 ·simp only [Act.put, List.setIfInBounds_toArray, List.set_cons_zero, List.set_cons_succ, i64_w, i32_w]
  rfl
 refine one_ (i := 10) (N := some 17) #[true, true, true, true, true, true, true, true, true, true, true, false] rfl rfl (by kernel_rfl) (by decide) (fun K hK => ?_)
 refine value_ (w1 := ?_) (v := ?_) (by rfl) rfl ?_ ?_
 rotate_left 2
 ·go_simp
  constructor
  ·rfl
  ·rfl
 refine hK.out _ _ ⟨(((Below.refl _ _).alloc (Nat.le_refl _) _).cell (World.block_lt_of_cell? _ _ hHeld.1)).trans hHeld.1, (((Below.refl _ _).alloc (Nat.le_refl _) _).cell (World.block_lt_of_cell? _ _ hHeld.2.1)).trans hHeld.2.1, (((Below.refl _ _).alloc (Nat.le_refl _) _).cell (World.block_lt_of_cell? _ _ hHeld.2.2.1)).trans hHeld.2.2.1, (((Below.refl _ _).alloc (Nat.le_refl _) _).cell (World.block_lt_of_cell? _ _ hHeld.2.2.2)).trans hHeld.2.2.2⟩ (fun hHeld => ?_)
 clear hK K
 refine norm_ (a' := ?_) ?_ ?_
 rotate_left
 ·show Act.put _ (some 17) _ = _
  simp only [Act.put, List.setIfInBounds_toArray, List.set_cons_zero, List.set_cons_succ, i64_w, i32_w]
  rfl
 refine last_ (i := 11) (N := some 18) #[true, true, true, true, true, true, true, true, true, true, true, true] rfl rfl (by kernel_rfl) (by decide) (fun K hK => ?_)
 refine goes_ Tryz.func224 (by kernel_rfl) rfl #[.pointer (some ⟨g, 0, none⟩), .slice (some ⟨w1.heap.size, 0, none⟩) 1 1] (by rfl) rfl rfl (by simp only [List.map_toArray, List.map_cons, List.map_nil]; rfl) ?_
 with_reducible refine (hcnt).mono ?_
 rintro e w3 ⟨rfl, hM3, hB3, hK3⟩
 refine ⟨_, rfl, ?_⟩
 refine hK.out _ _ ?_
 clear hK K
 refine norm_ (a' := ?_) ?_ ?_
 rotate_left
 ·show Act.put _ (some 18) _ = _
  simp only [Act.put, List.setIfInBounds_toArray, List.set_cons_zero, List.set_cons_succ, i64_w, i32_w]
  rfl
 refine done_ (by kernel_rfl) ?_
 
 --END2
 go_wp2
 go_returns
 exact ⟨rfl, hM3, hB3, (Kept.of_below (below_step hb1 hb2) _).then_ hK3 (fun k hk => .inl hk)⟩
end Go.Proofs.YtbdbobjdlomjnaaGreatDoor.Ec
