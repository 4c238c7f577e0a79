/- The document's reader of symbols in memory: what it holds, and how that turns. No condition. The document's Decode, walked. No condition. Written for this claim by a program of this session (a turned copy of the print): Go functions as Lean functions, and that the Go code comes to just these answers; or a statement proved out of them. No condition. -/
import Derived.Test.YtbdbobjdlomjnaaGreatDoorZ11
import Derived.Test.YtbdbobjdlomjnaaGreatDoorZ12
import Derived.Test.YtbdbobjdlomjnaaGreatDoorZ18
import Derived.Test.YtbdbobjdlomjnaaGreatDoorZ19
import Derived.Test.YtbdbobjdlomjnaaGreatDoorZ15
import Derived.Test.YtbdbobjdlomjnaaGreatDoorZ16
import Derived.Test.YtbdbobjdlomjnaaGreatDoorZ6
import Derived.Test.YtbdbobjdlomjnaaGreatDoorZ2

namespace Go.Proofs.YtbdbobjdlomjnaaGreatDoor.Ec
set_option linter.unusedVariables false
set_option linter.unusedSimpArgs false
open Go Go.RowKit Go.Proofs.YtbdbobjdlomjnaaGreatDoor.P Go.Proofs.YtbdbobjdlomjnaaGreatDoor.X Go.Proofs.YtbdbobjdlomjnaaGreatDoor.Fv Go.Proofs.YtbdbobjdlomjnaaGreatDoorW.PrintWords Go.Proofs.YtbdbobjdlomjnaaGreatDoorW.PrintLast Go.Proofs.YtbdbobjdlomjnaaGreatDoorW.PrintMore
set_option maxHeartbeats 8000000
set_option maxRecDepth 100000
abbrev kII : Kd (List Int) := Kd.slice 3 (Kd.int .i64)
structure Dt (base : Nat) (w : World) (gt : Nat) (s : RS) (vC vN vO : Value) (pre : List Int) : Prop where
 g : base ≤ gt
 t : w.heap[gt]? = some (.cells #[vC, vN, .int .i64 s.r] 184 (0, 0))
 c : Kd.V kII 83 w base (fun k => some k ≠ vN.ownBlock ∧ k ≠ gt ∧ some k ≠ vO.ownBlock) vC [s.c]
 n : Kd.R (Kd.int .i64) 3 w base (fun _ => True) vN s.N
 o : Kd.R k122 122 w base (fun _ => True) vO (codesOf pre)
theorem Dt.below {base gt : Nat} {w w1 : World} {s : RS} {vC vN vO : Value} {pre : List Int} (h : Dt base w gt s vC vN vO pre) (hb : Below w.heap.size w w1) : Dt base w1 gt s vC vN vO pre :=
 ⟨h.g, blk_below h.t hb, Kd.V_below h.c hb, Kd.R_below h.n hb, Kd.R_below h.o hb⟩
theorem Dt.far {base gt px i : Nat} {w : World} {s : RS} {vC vN vO u : Value} {pre : List Int} (h : Dt base w gt s vC vN vO pre) {w1 : World} (hb : Below w.heap.size w w1) (hp : w.heap.size ≤ px) : Dt base (w1.setCell ⟨px, i, none⟩ u) gt s vC vN vO pre := by
 have hl := blk_lt h.t
 have k1 : Kept w (w1.setCell ⟨px, i, none⟩ u) (fun _ => False) := ((Kept.refl w _).below hb).setCell (.inr hp) _
 exact ⟨h.g, blk_kept h.t k1 (fun h => h), Kd.V_mono (Kd.V_keptB h.c k1 (fun _ _ h => h)) (fun _ h => h.1), Kd.R_mono (Kd.R_keptB h.n k1 (fun _ _ h => h)) (fun _ _ => trivial), Kd.R_mono (Kd.R_keptB h.o k1 (fun _ _ h => h)) (fun _ _ => trivial)⟩
theorem Dt.step {base gt : Nat} {w w6 : World} {s s' : RS} {vC vN vO v0 v1 : Value} {pre : List Int} (h : Dt base w gt s vC vN vO pre)
  (hK : Kept w w6 (fun k => some k = vN.ownBlock))
  (hV : Kd.V kII 83 w6 base (fun k => ((some k = vN.ownBlock ∨ (k ≠ gt ∧ some k ≠ vO.ownBlock)) ∨ w.heap.size ≤ k) ∧ some k ≠ v1.ownBlock) v0 [s'.c])
  (hR : Kd.R (Kd.int .i64) 3 w6 base (fun k => some k = vN.ownBlock ∨ w.heap.size ≤ k) v1 s'.N) :
  Dt base (((w6.setCell ⟨gt, 0, none⟩ v0).setCell ⟨gt, 1, none⟩ v1).setCell ⟨gt, 2, none⟩ (.int .i64 s'.r)) gt s' v0 v1 vO pre := by
 have hl := blk_lt h.t
 have hne : some gt ≠ vN.ownBlock := Kd.R_ne h.n h.t (by decide)
 have hoa := Kd.R_apart' h.o (Kd.R_typed h.n) (by decide)
 have hon : ∀ k, vO.ownBlock = some k → some k ≠ vN.ownBlock := fun k hk => (hoa.1 k hk).2
 have hol := Kd.R_lt h.o
 have ht6 := blk_kept h.t hK hne
 have hok : ∀ k, ((some k = vN.ownBlock ∨ (k ≠ gt ∧ some k ≠ vO.ownBlock)) ∨ w.heap.size ≤ k) → k ≠ gt ∧ some k ≠ vO.ownBlock := by
  rintro k ((hk | hk) | hk)
  ·exact ⟨fun e => hne (by rw [← e]; exact hk), fun e => hon k e.symm hk⟩
  ·exact hk
  ·exact ⟨by omega, fun e => by have := hol k e.symm; omega⟩
 have hgt : ∀ k, ((some k = vN.ownBlock ∨ w.heap.size ≤ k)) → k ≠ gt := by
  rintro k (hk | hk)
  ·exact fun e => hne (by rw [← e]; exact hk)
  ·omega
 refine ⟨h.g, blk_put (blk_put (blk_put ht6 0 _ rfl) 1 _ rfl) 2 _ rfl, ?_, ?_, ?_⟩
 ·refine Kd.V_far (Kd.V_far (Kd.V_far (Kd.V_mono hV (fun k hk => ⟨hk.2, hok k hk.1⟩)) ?_ _) ?_ _) ?_ _
  all_goals exact fun k hk => hk.2.1
 ·refine Kd.R_mono (ok := fun k => k ≠ gt) (Kd.R_far (Kd.R_far (Kd.R_far (Kd.R_mono hR (fun k hk => hgt k hk)) ?_ _) ?_ _) ?_ _) (fun _ _ => trivial)
  all_goals exact fun k hk => hk
 ·have h1 := Kd.R_keptB hoa hK (fun k hk => hk.2)
  have h2 := Kd.R_types h1 ht6 (by decide)
  refine Kd.R_mono (Kd.R_far (Kd.R_far (Kd.R_far h2 ?_ _) ?_ _) ?_ _) (fun _ _ => trivial)
  all_goals exact fun k hk => hk.2
theorem Dt.push {base gt : Nat} {w w1 : World} {s : RS} {vC vN vO v1 : Value} {pre pre' : List Int} (h : Dt base w gt s vC vN vO pre) (hg : w.grownBy w1 vO.ownBlock) (hat : v1.ownBlock = vO.ownBlock ∨ ∃ b, v1.ownBlock = some b ∧ w.heap.size ≤ b)
  (hR : Kd.R k122 122 w1 base (fun _ => True) v1 (codesOf pre')) : Dt base w1 gt s vC vN v1 pre' := by
 have hne : some gt ≠ vO.ownBlock := Kd.R_ne h.o h.t (by decide)
 refine ⟨h.g, blk_grown h.t hg hne, ?_, ?_, hR⟩
 ·exact Kd.V_mono (Kd.V_afterv (Kd.V_mono (ok' := fun k => (some k ≠ vN.ownBlock ∧ k ≠ gt) ∧ some k ≠ vO.ownBlock) h.c (fun k hk => ⟨⟨hk.1, hk.2.1⟩, hk.2.2⟩)) hg hat) (fun k hk => ⟨hk.1.1, hk.1.2, hk.2⟩)
 ·exact Kd.R_mono (Kd.R_after (Kd.R_apart' h.n (Kd.R_typed h.o) (by decide)) hg hat) (fun _ _ => trivial)
theorem Dt.made {base : Nat} {w1 : World} {s : RS} {v0 v1 : Value} (hS : Kd.S kII 83 w1 base (fun k => some k ≠ v1.ownBlock) v0 [s.c]) (hR : Kd.R (Kd.int .i64) 3 w1 base (fun _ => True) v1 s.N) (hb : base ≤ w1.heap.size) :
  Dt base (w1.alloc (.cells #[v0, v1, .int .i64 s.r] 184)) w1.heap.size s v0 v1 (.slice none 0 0) [] := by
 refine ⟨hb, heap_alloc_new _ _, ?_, Kd.R_alloc hR _, Kd.R_nil _ _ _ _ _⟩
 refine Kd.V_alloc ?_ _
 exact Kd.V_mono (Kd.V_bound (Kd.S_V hS)) (fun k hk => ⟨hk.1, Nat.ne_of_lt hk.2, fun e => by simp [Value.ownBlock] at e⟩)
theorem beyG_le (r : Int) (hr : 0 < r) : ∀ (N b : List Int) (d : Int), d ≤ 2 * r → beyG r N b d ≤ 2 * r
 | [], b, d, h => h
 | n :: N, b, d, h => by
  unfold beyG
  split
  ·split <;> omega
  ·rename_i hc
   exact beyG_le r hr N b.tail _ (by omega)
theorem beyV_le (b N : List Int) (r : Int) (hr : 0 < r) : beyV b N r ≤ 2 * r := by
 unfold beyV
 split
 ·omega
 ·exact beyG_le r hr N b 0 (by omega)
def decF (n : Nat) (b : List Int) : List S122 × Int := match unpackR n b with
 | some l => (codesOf l, 0)
 | none => ([], 11)
theorem rwhole_calls {base gt : Nat} {w : World} {s : RS} {A1 A2 : Option Addr} {c1 c2 : Nat} {vO : Value} {pre : List Int} (hD : Dt base w gt s (.slice A1 1 c1) (.slice A2 s.N.length c2) vO pre) (hok : ROk s) :
  Calls Tryz.prog 104 #[.agg #[.slice A1 1 c1, .slice A2 s.N.length c2, .int .i64 s.r], .int .i64 0] w fun e w' => e = .returned (.int .i64 (sumI s.c)) ∧ Below w.heap.size w w' := by
 obtain ⟨K1, hK1⟩ := whole_ev s.c s.N s.r hok.a.m
 exact rf06_whole.calls K1 A1 c1 [s.c] A2 c2 s.N s.r 0 (sumI s.c) w (Kd.V_reads' hD.c).2.2 (Kd.V_reads' hD.c).2.1 (Kd.R_reads' hD.n).2.2 (Kd.R_reads' hD.n).2.1 (hK1 K1 (Nat.le_refl _))
theorem rbeyond_calls {base gt : Nat} {w : World} {s : RS} {A2 B : Option Addr} {c2 bc : Nat} {vC vO : Value} {pre bs : List Int} (hD : Dt base w gt s vC (.slice A2 s.N.length c2) vO pre) (hok : ROk s) (hd : Dg bs) (hl : s.N.length ≤ 1099511627776) (hbc : bs.length ≤ bc) (hB : Kd.C (Kd.int .u8) w B bs.length bs) :
  Calls Tryz.prog 105 #[.slice B bs.length bc, .slice A2 s.N.length c2, .int .i64 s.r] w fun e w' => e = .returned (.int .i64 (beyV bs s.N s.r)) ∧ Drawn0 w w' := by
 have hr : 16777216 ≤ s.r ∧ s.r < 4294967296 := hok.a.r
 obtain ⟨K1, hK1⟩ := bey_ev bs s.N s.r hd hok.d hl (by omega) hr.2
 exact rf06_beyond.calls K1 B bc bs A2 c2 s.N s.r _ w hB hbc (Kd.R_reads' hD.n).2.2 (Kd.R_reads' hD.n).2.1 (hK1 K1 (Nat.le_refl _))
theorem rstep_calls {gt : Nat} {w0 w : World} {s : RS} {A1 A2 : Option Addr} {c1 c2 : Nat} {vO : Value} {pre : List Int} (x : Int) (hD : Dt w0.heap.size w gt s (.slice A1 1 c1) (.slice A2 s.N.length c2) vO pre) (hok : ROk s) (hx : In x) (hl : s.N.length ≤ 1048576) (hB : Below w0.heap.size w0 w) :
  Calls Tryz.prog 107 #[.agg #[.slice A1 1 c1, .slice A2 s.N.length c2, .int .i64 s.r], .agg #[.int .i64 0, .int .i64 x]] w fun e w' => ∃ A3 c3 A4 c4, e = .returned (.tuple #[.agg #[.slice A3 1 c3, .slice A4 (stepR s x).N.length c4, .int .i64 (stepR s x).r], .bool true]) ∧
   Dt w0.heap.size (((w'.setCell ⟨gt, 0, none⟩ (.slice A3 1 c3)).setCell ⟨gt, 1, none⟩ (.slice A4 (stepR s x).N.length c4)).setCell ⟨gt, 2, none⟩ (.int .i64 (stepR s x).r)) gt (stepR s x) (.slice A3 1 c3) (.slice A4 (stepR s x).N.length c4) vO pre ∧ w'.heap[gt]? = some (.cells #[.slice A1 1 c1, .slice A2 s.N.length c2, .int .i64 s.r] 184 (0, 0)) ∧ Below w0.heap.size w0 w' ∧ Kept w w' (fun k => some k = (Value.slice A2 s.N.length c2).ownBlock) := by
 obtain ⟨K1, hK1⟩ := step_ev s x hok hx hl
 have hV := Kd.V_mono (ok' := fun k => (k ≠ gt ∧ some k ≠ vO.ownBlock) ∧ some k ≠ (Value.slice A2 s.N.length c2).ownBlock) hD.c (fun k hk => ⟨hk.2, hk.1⟩)
 refine (rf06_Step.calls K1 _ A1 c1 [s.c] _ (.slice A2 s.N.length c2) s.N s.r 0 x _ _ _ _ w0 w hB hV (Kd.R_tight rfl hD.n) (hK1 K1 (Nat.le_refl _))).mono ?_
 rintro e w' ⟨v0, v1, rfl, hV1, hR1, hb1, hk1⟩
 obtain ⟨A3, c3, rfl⟩ := Kd.V_slice hV1
 obtain ⟨A4, c4, rfl⟩ := Kd.R_slice hR1
 exact ⟨A3, c3, A4, c4, rfl, hD.step hk1 hV1 hR1, blk_kept hD.t hk1 (Kd.R_ne hD.n hD.t (by decide)), hb1, hk1⟩
theorem add0 (a : Addr) : a.add 0 = a := by
 rcases a with ⟨b, o, m⟩
 cases m <;> simp [Addr.add]
theorem rfind_calls {base gt : Nat} {w : World} {s : RS} {A1 : Option Addr} {c1 : Nat} {vN vO : Value} {pre : List Int} (hD : Dt base w gt s (.slice A1 1 c1) vN vO pre) (hok : ROk s) : ∃ ad A3 c3, A1 = some ad ∧ w.cell? ad = some (.slice A3 s.c.length c3) ∧ Kd.C (Kd.int .i64) w A3 s.c.length s.c ∧
  ∀ W, Below w.heap.size w W → ∀ v, 0 ≤ v → v < sumI s.c → Calls Tryz.prog 106 #[.slice A3 s.c.length c3, .int .i64 v] W fun e w' => e = .returned (.tuple #[.int .i64 (findC s.c v : Int), .int .i64 0]) ∧ Drawn0 W w' := by
 obtain ⟨ad, A3, c3, rfl, h1, h2, h3⟩ := at_L4 (Kd.V_reads' hD.c).2.2 0 (by decide) (show (0 : Int) < ((1 : Nat) : Int) by decide)
 refine ⟨ad, A3, c3, rfl, by have h1 := h1; rw [show (0 : Int).toNat = 0 from rfl, add0] at h1; exact h1, h3, fun W hb v h0 hv => ?_⟩
 obtain ⟨K1, hK1⟩ := find_ev s.c v hok.a.m h0 hv
 exact rf05_Find.calls K1 A3 c3 s.c v _ _ W (Kd.C_below h3 hb) h2 (hK1 K1 (Nat.le_refl _))
theorem rdigits_calls {base gt : Nat} {w : World} {s : RS} {A2 : Option Addr} {c2 : Nat} {vC vO : Value} {pre : List Int} (hD : Dt base w gt s vC (.slice A2 s.N.length c2) vO pre) (hok : ROk s) (hl : s.N.length ≤ 1099511627776) (W : World) (hb : Below w.heap.size w W) :
  Calls Tryz.prog 108 #[.slice A2 s.N.length c2] W fun e w' => ∃ A c, e = .returned (.slice A s.N.length c) ∧ Kd.C (Kd.int .u8) w' A s.N.length s.N ∧ Below W.heap.size W w' := by
 obtain ⟨K1, hK1⟩ := digits_ev s.N hok.d hl
 refine (rf06_digits.calls K1 A2 c2 s.N _ W (Kd.R_reads' (Kd.R_below hD.n hb)).2.2 (Kd.R_reads' hD.n).2.1 (hK1 K1 (Nat.le_refl _))).mono ?_
 rintro e w' ⟨v0, rfl, hR, hb1⟩
 obtain ⟨A, c, rfl⟩ := Kd.R_slice hR
 exact ⟨A, c, rfl, (Kd.R_reads' hR).2.2, hb1⟩
end Go.Proofs.YtbdbobjdlomjnaaGreatDoor.Ec

namespace Go.Proofs.YtbdbobjdlomjnaaGreatDoor.Ec
set_option linter.unusedVariables false
set_option linter.unusedSimpArgs false
open Go Go.RowKit Go.Proofs.YtbdbobjdlomjnaaGreatDoor.P Go.Proofs.YtbdbobjdlomjnaaGreatDoor.X Go.Proofs.YtbdbobjdlomjnaaGreatDoor.Fv Go.Proofs.YtbdbobjdlomjnaaGreatDoorW.PrintWords Go.Proofs.YtbdbobjdlomjnaaGreatDoorW.PrintLast Go.Proofs.YtbdbobjdlomjnaaGreatDoorW.PrintMore
attribute [local go_sem] max2_int min2_int max_two min_two
set_option maxHeartbeats 16000000
set_option maxRecDepth 100000
theorem rdecode_calls (w : World) (A0 : Option Addr) (c0 : Nat) (M : Option Addr) (cM n : Nat) (B : Option Addr) (bc : Nat) (bs : List Int) (hn : n ≤ 65536) (hd : Dg bs) (hbl : bs.length ≤ 1073741824) (hbc : bs.length ≤ bc) (hA : Kd.C (Kd.int .i64) w A0 1 [256]) (hAc : 1 ≤ c0) (hM : Kd.C (Kd.int .i64) w M n (List.replicate n 0)) (hMc : n ≤ cM) (hB : Kd.C (Kd.int .u8) w B bs.length bs) :
  Calls Tryz.prog 53 #[.slice A0 1 c0, .slice M n cM, .slice B bs.length bc] w fun e w' => ∃ vo, e = .returned (.tuple #[vo, .int .i64 (decF n bs).2]) ∧ Kd.R k122 122 w' w.heap.size (fun _ => True) vo (decF n bs).1 ∧ Below w.heap.size w w' := by
 have hu := Tryz.underlying184
 have hu2 := Tryz.underlying122
 obtain ⟨K0, hK0⟩ := begun_ev
 have hbeg := rf06_Begun.calls K0 A0 c0 [256] _ _ _ _ w hA hAc (hK0 K0 (Nat.le_refl _))
 go_enter Tryz.func53, Tryz.ntmps53
 go_upto_region 2 with (go_at_call 103; refine hbeg.mono ?_; rintro e w1 ⟨v0, v1, rfl, hS1, hR1, hb1⟩; obtain ⟨A1, c1, rfl⟩ := Kd.S_slice hS1; obtain ⟨A2, c2, rfl⟩ := Kd.R_slice hR1)
 have hD2 := Dt.made (s := s0R) hS1 hR1 hb1.size
 have hB2 : Below w.heap.size w (w1.alloc (.cells #[.slice A1 1 c1, .slice A2 s0R.N.length c2, .int .i64 s0R.r] 184)) := below_alloc hb1 _
 change Dt _ (w1.alloc (.cells #[.slice A1 1 c1, .slice A2 s0R.N.length c2, .int .i64 s0R.r] 184)) _ _ (.slice A1 1 c1) _ _ _ at hD2
 generalize w1.alloc (.cells #[.slice A1 1 c1, .slice A2 s0R.N.length c2, .int .i64 s0R.r] 184) = w2 at hD2 hB2 ⊢
 generalize w1.heap.size = gt at hD2 ⊢
 clear hbeg hS1 hR1 hb1
 have hok0 := rok0
 have hN0 : Aside0 (s0R.N.length = 5) := ⟨rfl⟩
 have HD0 : Aside0 (decR bs n s0R = (decR bs (n - 0) s0R).map fun t => ([] ++ t.1, t.2)) := ⟨by rw [Nat.sub_zero]; cases decR bs n s0R <;> simp⟩
 have HUN : Aside0 (∀ l t, decR bs n s0R = some (l, t) → unpackR n bs = if t.N = bs then some l else none) := ⟨fun l t h => by unfold unpackR; rw [h]; rfl⟩
 have HUN0 : Aside0 (decR bs n s0R = none → unpackR n bs = none) := ⟨fun h => by unfold unpackR; rw [h]; rfl⟩
 generalize s0R = s0 at *
 go_wp2
 go_loopw [9, 10] (fun v9 v wr => ∃ i : Nat, i ≤ n ∧ v9 = .bool true ∧ v = .int .i64 i ∧ Dt w.heap.size wr gt s0 (.slice A1 1 c1) (.slice A2 s0.N.length c2) (.slice none 0 0) [] ∧ Below w.heap.size w wr) (fun _ v _ => n - (intV v).toNat)
 case atStart => exact ⟨0, by omega, rfl, rfl, hD2, hB2⟩
 case round =>
  clear hD2 hB2
  obtain ⟨i, hi, rfl, rfl, hD, hBr⟩ := hrel
  rcases Nat.lt_or_ge i n with hlt | hge
  ·have hii : (i : Int) < (n : Int) := by omega
   obtain ⟨ad, eA, y0⟩ := Kd.at_int (Kd.C_below hM hBr) (i : Int) (by omega) hii
   subst eA
   have hrd : rd (List.replicate n (0 : Int)) (i : Int) = 0 := by simp [rd, List.getD, List.getElem?_replicate, hlt]
   rw [hrd, Int.toNat_natCast] at y0
   have z0 : wr.cell? ⟨gt, 0, none⟩ = some (.slice A1 1 c1) := (blk_cell hD.t 0).trans rfl
   have z1 : wr.cell? ⟨gt, 1, none⟩ = some (.slice A2 s0.N.length c2) := (blk_cell hD.t 1).trans rfl
   have z2 : wr.cell? ⟨gt, 2, none⟩ = some (.int .i64 s0.r) := (blk_cell hD.t 2).trans rfl
   have hge := hok0.a.m.ge
   have hwh := fun (W : World) (hb : Below wr.heap.size wr W) => rwhole_calls (hD.below hb) hok0
   have hge' : (256 : Int) ≤ sumI s0.c := hge
   have hgt : decide (0 < sumI s0.c) = true := decide_eq_true (by omega)
   clear hge hge'
   generalize s0 = s at *
   go_upto_region 5 with (fail)
--REGION5
   refine start_ (n := 11) (S := fun w' => w'.cell? ⟨gt, 0, none⟩ = some (.slice A1 1 c1) ∧ w'.cell? ⟨gt, 1, none⟩ = some (.slice A2 s.N.length c2) ∧ w'.cell? ⟨gt, 2, none⟩ = some (.int .i64 s.r) ∧ w'.cell? (ad.add i) = some (.int .i64 0)) (ds := []) #[false, false, false, false, false, false, false, false, false, false, false] (by kernel_rfl) rfl rfl ⟨z0, z1, z2, y0⟩ (fun hHeld => ?_)
   refine pure_ (i := 0) (N := some 28) (v := ?_) (a' := ?_) #[true, false, false, false, false, false, false, false, false, false, false] rfl rfl (by kernel_rfl) (fun _ _ _ h => h) (Or.inl ⟨by rfl, ?_⟩) ?_ ?_
   rotate_left
   ·intro w'
    go_simp
    with_reducible rfl
   rotate_left
   ·simp only [Act.put, List.setIfInBounds_toArray, List.set_cons_zero, List.set_cons_succ, i64_w, i32_w]
    rfl
   refine pure_ (i := 1) (N := some 29) (v := ?_) (a' := ?_) #[true, true, false, false, false, false, false, false, false, false, false] rfl rfl (by kernel_rfl) (fun _ _ _ h => h) (Or.inl ⟨by rfl, ?_⟩) ?_ ?_
   rotate_left
   ·intro w'
    go_simp
    with_reducible rfl
   rotate_left
   ·simp only [Act.put, List.setIfInBounds_toArray, List.set_cons_zero, List.set_cons_succ, i64_w, i32_w]
    rfl
   refine pure_ (i := 3) (N := some 31) (v := ?_) (a' := ?_) #[true, true, false, true, false, false, false, false, false, false, false] rfl rfl (by kernel_rfl) (fun _ _ _ h => h) (Or.inl ⟨by rfl, ?_⟩) ?_ ?_
   rotate_left
   ·intro w'
    go_simp
    with_reducible rfl
   rotate_left
   ·simp only [Act.put, List.setIfInBounds_toArray, List.set_cons_zero, List.set_cons_succ, i64_w, i32_w]
    rfl
   refine pure_ (i := 4) (N := some 32) (v := ?_) (a' := ?_) #[true, true, false, true, true, false, false, false, false, false, false] rfl rfl (by kernel_rfl) (fun _ _ _ h => h) (Or.inl ⟨by rfl, ?_⟩) ?_ ?_
   rotate_left
   ·intro w'
    go_simp
    with_reducible rfl
   rotate_left
   ·simp only [Act.put, List.setIfInBounds_toArray, List.set_cons_zero, List.set_cons_succ, i64_w, i32_w]
    rfl
   refine pure_ (i := 5) (N := some 33) (v := ?_) (a' := ?_) #[true, true, false, true, true, true, false, false, false, false, false] rfl rfl (by kernel_rfl) (fun _ _ _ h => h) (Or.inl ⟨by rfl, ?_⟩) ?_ ?_
   rotate_left
   ·intro w'
    go_simp
    with_reducible rfl
   rotate_left
   ·simp only [Act.put, List.setIfInBounds_toArray, List.set_cons_zero, List.set_cons_succ, i64_w, i32_w]
    rfl
   refine take_ (i := 2) (N := some 30) (v := ?_) (a' := ?_) #[true, true, true, true, true, true, false, false, false, false, false] rfl rfl (by kernel_rfl) (fun _ _ _ h => h) (Or.inl ⟨by rfl, ?_⟩) hHeld ?_ ?_
   rotate_left
   ·rintro w' ⟨s0, s1, s2, s3⟩
    go_simp
    with_reducible rfl
   rotate_left
   ·simp only [Act.put, List.setIfInBounds_toArray, List.set_cons_zero, List.set_cons_succ, i64_w, i32_w]
    rfl
   refine take_ (i := 6) (N := some 34) (v := ?_) (a' := ?_) #[true, true, true, true, true, true, true, false, false, false, false] rfl rfl (by kernel_rfl) (fun _ _ _ h => h) (Or.inl ⟨by rfl, ?_⟩) hHeld ?_ ?_
   rotate_left
   ·rintro w' ⟨s0, s1, s2, s3⟩
    go_simp
    with_reducible rfl
   rotate_left
   ·simp only [Act.put, List.setIfInBounds_toArray, List.set_cons_zero, List.set_cons_succ, i64_w, i32_w]
    rfl
   refine one_ (i := 7) (N := some 35) #[true, true, true, true, true, true, true, true, false, false, false] rfl rfl (by kernel_rfl) (by decide) (fun K hK => ?_)
   refine goes_ Tryz.func104 (by kernel_rfl) rfl #[.agg #[.slice A1 1 c1, .slice A2 s.N.length c2, .int .i64 s.r], .int .i64 0] (by rfl) rfl rfl (by simp only [List.map_toArray, List.map_cons, List.map_nil]; rfl) ?_
   with_reducible refine (hwh _ (below_drew (Below.refl _ _))).mono ?_
   rintro e w3 ⟨rfl, hb3⟩
   refine ⟨_, rfl, ?_⟩
   refine hK.out _ _ ⟨(hb3.cell (World.block_lt_of_cell? _ _ hHeld.1)).trans hHeld.1, (hb3.cell (World.block_lt_of_cell? _ _ hHeld.2.1)).trans hHeld.2.1, (hb3.cell (World.block_lt_of_cell? _ _ hHeld.2.2.1)).trans hHeld.2.2.1, (hb3.cell (World.block_lt_of_cell? _ _ hHeld.2.2.2)).trans hHeld.2.2.2⟩ (fun hHeld => ?_)
   clear hK K
   refine norm_ (a' := ?_) ?_ ?_
   rotate_left
   ·show Act.put _ (some 35) _ = _
    simp only [Act.put, List.setIfInBounds_toArray, List.set_cons_zero, List.set_cons_succ, i64_w, i32_w]
    rfl
   refine pure_ (i := 8) (N := some 36) (v := ?_) (a' := ?_) #[true, true, true, true, true, true, true, true, true, false, false] rfl rfl (by kernel_rfl) (fun _ _ _ h => h) (Or.inl ⟨by rfl, ?_⟩) ?_ ?_
   rotate_left
   ·intro w'
    go_simp
    with_reducible rfl
   rotate_left
   ·simp only [Act.put, List.setIfInBounds_toArray, List.set_cons_zero, List.set_cons_succ, i64_w, i32_w]
    rfl
   refine pure_ (i := 9) (N := some 37) (v := ?_) (a' := ?_) #[true, true, true, true, true, true, true, true, true, true, false] rfl rfl (by kernel_rfl) (fun _ _ _ h => h) (Or.inl ⟨by rfl, ?_⟩) ?_ ?_
   rotate_left
   ·intro w'
    go_simp
    with_reducible rfl
   rotate_left
   ·simp only [Act.put, List.setIfInBounds_toArray, List.set_cons_zero, List.set_cons_succ, i64_w, i32_w]
    rfl
   refine pure_ (i := 10) (N := some 9) (v := ?_) (a' := ?_) #[true, true, true, true, true, true, true, true, true, true, true] rfl rfl (by kernel_rfl) (fun _ _ _ h => h) (Or.inl ⟨by rfl, ?_⟩) ?_ ?_
   rotate_left
   ·intro w'
    go_simp
    with_reducible rfl
   rotate_left
   ·simp only [Act.put, List.setIfInBounds_toArray, List.set_cons_zero, List.set_cons_succ, i64_w, i32_w]
    rfl
   refine done_ (by kernel_rfl) ?_
   
   --END5
   have hb4 : Below wr.heap.size wr w3 := below_step (below_drew (Below.refl _ wr)) hb3
   go_wp2
   go_roundw
   case rel => exact ⟨i + 1, by omega, rfl, rfl, hD.below hb4, below_step hBr hb4⟩
   case measure => simp [intV]; omega
  ·obtain rfl : n = i := by omega
   have b6 : decide (65536 < (n : Int)) = false := decide_eq_false (by omega)
   go_wp2
   have hDl : s0.N.length = ([] : List Int).length + 5 := hN0.out
   have HI0 : Aside0 (s0.N.length ≤ 5 + 2 * 0) := ⟨by rw [hDl]; simp⟩
   clear hDl hN0
   go_loopw [11, 12] (fun v11 v wr => ∃ (i : Nat) (pre : List Int) (s : RS) (A1 : Option Addr) (c1 : Nat) (A2 : Option Addr) (c2 : Nat), i ≤ n ∧ v = .int .i64 i ∧ Aside0 (decR bs n s0 = (decR bs (n - i) s).map fun t => (pre ++ t.1, t.2)) ∧ ROk s ∧ Aside0 (s.N.length ≤ 5 + 2 * i) ∧ Aside0 (pre.length = i) ∧ Dt w.heap.size wr gt s (.slice A1 1 c1) (.slice A2 s.N.length c2) v11 pre ∧ Below w.heap.size w wr) (fun _ v _ => n - (intV v).toNat)
   case atStart => exact ⟨0, [], s0, A1, c1, A2, c2, by omega, rfl, HD0, hok0, HI0, ⟨rfl⟩, hD, hBr⟩
   case round =>
    clear hD hBr hok0 HD0 HI0
    obtain ⟨i, pre, s, A1, c1, A2, c2, hi, rfl, HD, hok, HN, HP, hD, hBr⟩ := hrel
    rcases Nat.lt_or_ge i n with hlt | hge
    ·have hii : (i : Int) < (n : Int) := by omega
     obtain ⟨ad, eA, y0⟩ := Kd.at_int (Kd.C_below hM hBr) (i : Int) (by omega) hii
     subst eA
     have hrd : rd (List.replicate n (0 : Int)) (i : Int) = 0 := by simp [rd, List.getD, List.getElem?_replicate, hlt]
     rw [hrd, Int.toNat_natCast] at y0
     have z0 : wr.cell? ⟨gt, 0, none⟩ = some (.slice A1 1 c1) := (blk_cell hD.t 0).trans rfl
     have z1 : wr.cell? ⟨gt, 1, none⟩ = some (.slice A2 s.N.length c2) := (blk_cell hD.t 1).trans rfl
     have z2 : wr.cell? ⟨gt, 2, none⟩ = some (.int .i64 s.r) := (blk_cell hD.t 2).trans rfl
     have hbe := rbeyond_calls hD hok hd (by have := HN.out; omega) hbc (Kd.C_below hB hBr)
     obtain ⟨m, hm⟩ : ∃ m, n - i = m + 1 := ⟨n - i - 1, by omega⟩
     have HM := Aside0.mk hm
     clear hm
     obtain ⟨d, hdd⟩ : ∃ d, d = beyV bs s.N s.r := ⟨_, rfl⟩
     rw [← hdd] at hbe
     by_cases hneg : d < 0
     ·have hbb : decide (d < 0) = true := decide_eq_true hneg
      have hnone : unpackR n bs = none := HUN0.out (by rw [HD.out, HM.out, decR, ← hdd, if_pos hneg]; rfl)
      have HNO := Aside0.mk hnone
      clear hnone hneg hdd
      go_wp2_with (go_at_call 105; refine hbe.mono ?_; rintro e w3 ⟨rfl, hd3⟩; have hb3 := hd3.below)
      go_ret2
      unfold decF
      rw [HNO.out]
      exact ⟨_, rfl, Kd.R_nil _ _ _ _ _, below_step hBr hb3⟩
     ·have hbb : decide (d < 0) = false := decide_eq_false hneg
      have hd0 : 0 ≤ d := by omega
      have hx : In (foundR s d) := foundR_in hok hd0
      have hDm : Aside0 (decR bs (m + 1) s = (decR bs m (stepR s (foundR s d))).map fun t => (foundR s d :: t.1, t.2)) := ⟨by rw [decR, ← hdd, if_neg hneg]⟩
      have HDV := Aside0.mk hdd
      clear hdd
      go_upto_region 17 with (go_at_call 105; refine hbe.mono ?_; rintro e w3 ⟨rfl, hd3⟩; have hb3 := hd3.below)
      have hD3 := hD.below hb3
      have hB3 := below_step hBr hb3
      replace y0 := (hb3.cell (World.block_lt_of_cell? _ _ y0)).trans y0
      clear hbe z0 z1 z2 hD hBr hd3 hb3
      have z0 : w3.cell? ⟨gt, 0, none⟩ = some (.slice A1 1 c1) := (blk_cell hD3.t 0).trans rfl
      have z1 : w3.cell? ⟨gt, 1, none⟩ = some (.slice A2 s.N.length c2) := (blk_cell hD3.t 1).trans rfl
      have z2 : w3.cell? ⟨gt, 2, none⟩ = some (.int .i64 s.r) := (blk_cell hD3.t 2).trans rfl
      have hwh := fun (W : World) (hb : Below w3.heap.size w3 W) => rwhole_calls (hD3.below hb) hok
--REGION17
      refine start_ (n := 7) (S := fun w' => w'.cell? ⟨gt, 0, none⟩ = some (.slice A1 1 c1) ∧ w'.cell? ⟨gt, 1, none⟩ = some (.slice A2 s.N.length c2) ∧ w'.cell? ⟨gt, 2, none⟩ = some (.int .i64 s.r) ∧ w'.cell? (ad.add i) = some (.int .i64 0)) (ds := []) #[false, false, false, false, false, false, false] (by kernel_rfl) rfl rfl ⟨z0, z1, z2, y0⟩ (fun hHeld => ?_)
      refine pure_ (i := 1) (N := some 58) (v := ?_) (a' := ?_) #[false, true, false, false, false, false, false] rfl rfl (by kernel_rfl) (fun _ _ _ h => h) (Or.inl ⟨by rfl, ?_⟩) ?_ ?_
      rotate_left
      ·intro w'
       go_simp
       with_reducible rfl
      rotate_left
      ·simp only [Act.put, List.setIfInBounds_toArray, List.set_cons_zero, List.set_cons_succ, i64_w, i32_w]
       rfl
      refine pure_ (i := 2) (N := some 59) (v := ?_) (a' := ?_) #[false, true, true, false, false, false, false] rfl rfl (by kernel_rfl) (fun _ _ _ h => h) (Or.inl ⟨by rfl, ?_⟩) ?_ ?_
      rotate_left
      ·intro w'
       go_simp
       with_reducible rfl
      rotate_left
      ·simp only [Act.put, List.setIfInBounds_toArray, List.set_cons_zero, List.set_cons_succ, i64_w, i32_w]
       rfl
      refine pure_ (i := 3) (N := some 60) (v := ?_) (a' := ?_) #[false, true, true, true, false, false, false] rfl rfl (by kernel_rfl) (fun _ _ _ h => h) (Or.inl ⟨by rfl, ?_⟩) ?_ ?_
      rotate_left
      ·intro w'
       go_simp
       with_reducible rfl
      rotate_left
      ·simp only [Act.put, List.setIfInBounds_toArray, List.set_cons_zero, List.set_cons_succ, i64_w, i32_w]
       rfl
      refine take_ (i := 0) (N := some 57) (v := ?_) (a' := ?_) #[true, true, true, true, false, false, false] rfl rfl (by kernel_rfl) (fun _ _ _ h => h) (Or.inl ⟨by rfl, ?_⟩) hHeld ?_ ?_
      rotate_left
      ·rintro w' ⟨s0, s1, s2, s3⟩
       go_simp
       with_reducible rfl
      rotate_left
      ·simp only [Act.put, List.setIfInBounds_toArray, List.set_cons_zero, List.set_cons_succ, i64_w, i32_w]
       rfl
      refine take_ (i := 4) (N := some 61) (v := ?_) (a' := ?_) #[true, true, true, true, true, false, false] rfl rfl (by kernel_rfl) (fun _ _ _ h => h) (Or.inl ⟨by rfl, ?_⟩) hHeld ?_ ?_
      rotate_left
      ·rintro w' ⟨s0, s1, s2, s3⟩
       go_simp
       with_reducible rfl
      rotate_left
      ·simp only [Act.put, List.setIfInBounds_toArray, List.set_cons_zero, List.set_cons_succ, i64_w, i32_w]
       rfl
      refine one_ (i := 5) (N := some 62) #[true, true, true, true, true, true, false] rfl rfl (by kernel_rfl) (by decide) (fun K hK => ?_)
      refine goes_ Tryz.func104 (by kernel_rfl) rfl #[.agg #[.slice A1 1 c1, .slice A2 s.N.length c2, .int .i64 s.r], .int .i64 0] (by rfl) rfl rfl (by simp only [List.map_toArray, List.map_cons, List.map_nil]; rfl) ?_
      with_reducible refine (hwh _ (below_drew (Below.refl _ _))).mono ?_
      rintro e w5 ⟨rfl, hb5⟩
      refine ⟨_, rfl, ?_⟩
      refine hK.out _ _ ⟨(hb5.cell (World.block_lt_of_cell? _ _ hHeld.1)).trans hHeld.1, (hb5.cell (World.block_lt_of_cell? _ _ hHeld.2.1)).trans hHeld.2.1, (hb5.cell (World.block_lt_of_cell? _ _ hHeld.2.2.1)).trans hHeld.2.2.1, (hb5.cell (World.block_lt_of_cell? _ _ hHeld.2.2.2)).trans hHeld.2.2.2⟩ (fun hHeld => ?_)
      clear hK K
      refine norm_ (a' := ?_) ?_ ?_
      rotate_left
      ·show Act.put _ (some 62) _ = _
       simp only [Act.put, List.setIfInBounds_toArray, List.set_cons_zero, List.set_cons_succ, i64_w, i32_w]
       rfl
      refine pure_ (i := 6) (N := some 14) (v := ?_) (a' := ?_) #[true, true, true, true, true, true, true] rfl rfl (by kernel_rfl) (fun _ _ _ h => h) (Or.inl ⟨by rfl, ?_⟩) ?_ ?_
      rotate_left
      ·intro w'
       go_simp
       with_reducible rfl
      rotate_left
      ·simp only [Act.put, List.setIfInBounds_toArray, List.set_cons_zero, List.set_cons_succ, i64_w, i32_w]
       rfl
      refine done_ (by kernel_rfl) ?_
      
      --END17
      have hb5' : Below w3.heap.size w3 w5 := below_step (below_drew (Below.refl _ w3)) hb5
      have hD5 := hD3.below hb5'
      have hB5 := below_step hB3 hb5'
      replace y0 := (hb5'.cell (World.block_lt_of_cell? _ _ y0)).trans y0
      clear hwh z0 z1 z2 hD3 hB3 hb5 hb5'
      have z0 : w5.cell? ⟨gt, 0, none⟩ = some (.slice A1 1 c1) := (blk_cell hD5.t 0).trans rfl
      have z2 : w5.cell? ⟨gt, 2, none⟩ = some (.int .i64 s.r) := (blk_cell hD5.t 2).trans rfl
      have hr : 16777216 ≤ s.r ∧ s.r < 4294967296 := hok.a.r
      have hs : 256 ≤ sumI s.c ∧ sumI s.c ≤ 8192 := ⟨hok.a.m.ge, hok.a.m.s⟩
      have hqr : 2048 ≤ qR s ∧ qR s * sumI s.c ≤ s.r := qA_bd hok.a
      have hqs : qR s ≤ s.r := by
       have := Int.mul_le_mul_of_nonneg_left (show (1 : Int) ≤ sumI s.c by omega) (show 0 ≤ qR s by omega)
       omega
      have hdd : d ≤ 1099511627776 := by
       have h1 := beyV_le bs s.N s.r (by omega)
       rw [← HDV.out] at h1
       omega
      have hq : s.r.tdiv (sumI s.c) = qR s := Int.tdiv_eq_ediv_of_nonneg (by omega)
      have hdq : d.tdiv (qR s) = d / qR s := Int.tdiv_eq_ediv_of_nonneg hd0
      have hdv : 0 ≤ d / qR s ∧ d / qR s ≤ 1099511627776 := ⟨Int.ediv_nonneg hd0 (by omega), by
       have := Int.ediv_le_self (qR s) hd0
       omega⟩
      have hnz : ¬ sumI s.c = 0 := by omega
      have hnq : ¬ qR s = 0 := by omega
      go_upto_region 19 with (fail)
      have hmn : (if sumI s.c - 1 < d / qR s then sumI s.c - 1 else d / qR s) = min (d / qR s) (sumI s.c - 1) := by split <;> omega
      have hvb : 0 ≤ min (d / qR s) (sumI s.c - 1) ∧ min (d / qR s) (sumI s.c - 1) < sumI s.c := by omega
      have hfo : Aside0 ((findC s.c (min (d / qR s) (sumI s.c - 1)) : Int) = foundR s d) := ⟨rfl⟩
      rw [hmn]
      generalize min (d / qR s) (sumI s.c - 1) = v at hvb hfo ⊢
      clear hmn hnq hnz hdv hdq hq hdd hqs hqr hr z2
      go_upto_region 20 with (fail)
      have hpx := heap_alloc_new w5 (.cells #[.int .i64 0, .int .i64 v] 122)
      have hb7 : Below w5.heap.size w5 (w5.alloc (.cells #[.int .i64 0, .int .i64 v] 122)) := below_alloc (Below.refl _ w5) _
      have hpp : w5.heap.size ≤ w5.heap.size := Nat.le_refl _
      generalize w5.alloc (.cells #[.int .i64 0, .int .i64 v] 122) = w6 at hpx hb7 ⊢
      obtain ⟨px, hpxe⟩ : ∃ px, px = w5.heap.size := ⟨_, rfl⟩
      rw [← hpxe] at hpx ⊢
      have hD6 := hD5.below hb7
      have hgp : gt < px := by rw [hpxe]; exact blk_lt hD5.t
      have hB6 := below_step hB5 hb7
      have hwp : w.heap.size ≤ px := by rw [hpxe]; exact hB5.size
      replace y0 := (hb7.cell (World.block_lt_of_cell? _ _ y0)).trans y0
      have HPX := Aside0.mk hpxe
      clear z0 hpp hpxe
      have z0 : w6.cell? ⟨gt, 0, none⟩ = some (.slice A1 1 c1) := (blk_cell hD6.t 0).trans rfl
      obtain ⟨ad1, A3, c3, rfl, z3, hC3, hfd'⟩ := rfind_calls hD6 hok
      have hfd := fun (W : World) (hb : Below w6.heap.size w6 W) => hfd' W hb v hvb.1 hvb.2
      rw [hfo.out] at hfd
      clear hfd'
      go_upto_region 21 with (fail)
--REGION21
      refine start_ (n := 15) (S := fun w' => w'.cell? ⟨gt, 0, none⟩ = some (.slice (some ad1) 1 c1) ∧ w'.cell? (ad.add i) = some (.int .i64 0) ∧ w'.cell? ad1 = some (.slice A3 s.c.length c3)) (ds := [14]) #[false, false, false, false, false, false, false, false, false, false, false, false, false, false, false] (by kernel_rfl) rfl rfl ⟨z0, y0, z3⟩ (fun hHeld => ?_)
      refine pure_ (i := 0) (N := some 84) (v := ?_) (a' := ?_) #[true, false, false, false, false, false, false, false, false, false, false, false, false, false, false] rfl rfl (by kernel_rfl) (fun _ _ _ h => h) (Or.inl ⟨by rfl, ?_⟩) ?_ ?_
      rotate_left
      ·intro w'
       go_simp
       with_reducible rfl
      rotate_left
      ·simp only [Act.put, List.setIfInBounds_toArray, List.set_cons_zero, List.set_cons_succ, i64_w, i32_w]
       rfl
      refine pure_ (i := 2) (N := some 86) (v := ?_) (a' := ?_) #[true, false, true, false, false, false, false, false, false, false, false, false, false, false, false] rfl rfl (by kernel_rfl) (fun _ _ _ h => h) (Or.inl ⟨by rfl, ?_⟩) ?_ ?_
      rotate_left
      ·intro w'
       go_simp
       with_reducible rfl
      rotate_left
      ·simp only [Act.put, List.setIfInBounds_toArray, List.set_cons_zero, List.set_cons_succ, i64_w, i32_w]
       rfl
      refine pure_ (i := 3) (N := some 87) (v := ?_) (a' := ?_) #[true, false, true, true, false, false, false, false, false, false, false, false, false, false, false] rfl rfl (by kernel_rfl) (fun _ _ _ h => h) (Or.inl ⟨by rfl, ?_⟩) ?_ ?_
      rotate_left
      ·intro w'
       go_simp
       with_reducible rfl
      rotate_left
      ·simp only [Act.put, List.setIfInBounds_toArray, List.set_cons_zero, List.set_cons_succ, i64_w, i32_w]
       rfl
      refine pure_ (i := 4) (N := some 88) (v := ?_) (a' := ?_) #[true, false, true, true, true, false, false, false, false, false, false, false, false, false, false] rfl rfl (by kernel_rfl) (fun _ _ _ h => h) (Or.inl ⟨by rfl, ?_⟩) ?_ ?_
      rotate_left
      ·intro w'
       go_simp
       with_reducible rfl
      rotate_left
      ·simp only [Act.put, List.setIfInBounds_toArray, List.set_cons_zero, List.set_cons_succ, i64_w, i32_w]
       rfl
      refine pure_ (i := 8) (N := some 92) (v := ?_) (a' := ?_) #[true, false, true, true, true, false, false, false, true, false, false, false, false, false, false] rfl rfl (by kernel_rfl) (fun _ _ _ h => h) (Or.inl ⟨by rfl, ?_⟩) ?_ ?_
      rotate_left
      ·intro w'
       go_simp
       with_reducible rfl
      rotate_left
      ·simp only [Act.put, List.setIfInBounds_toArray, List.set_cons_zero, List.set_cons_succ, i64_w, i32_w]
       rfl
      refine take_ (i := 1) (N := some 85) (v := ?_) (a' := ?_) #[true, true, true, true, true, false, false, false, true, false, false, false, false, false, false] rfl rfl (by kernel_rfl) (fun _ _ _ h => h) (Or.inl ⟨by rfl, ?_⟩) hHeld ?_ ?_
      rotate_left
      ·rintro w' ⟨s0, s1, s2⟩
       go_simp
       with_reducible rfl
      rotate_left
      ·simp only [Act.put, List.setIfInBounds_toArray, List.set_cons_zero, List.set_cons_succ, i64_w, i32_w]
       rfl
      refine take_ (i := 5) (N := some 89) (v := ?_) (a' := ?_) #[true, true, true, true, true, true, false, false, true, false, false, false, false, false, false] rfl rfl (by kernel_rfl) (fun _ _ _ h => h) (Or.inl ⟨by rfl, ?_⟩) hHeld ?_ ?_
      rotate_left
      ·rintro w' ⟨s0, s1, s2⟩
       go_simp
       with_reducible rfl
      rotate_left
      ·simp only [Act.put, List.setIfInBounds_toArray, List.set_cons_zero, List.set_cons_succ, i64_w, i32_w]
       rfl
      refine pure_ (i := 6) (N := some 90) (v := ?_) (a' := ?_) #[true, true, true, true, true, true, true, false, true, false, false, false, false, false, false] rfl rfl (by kernel_rfl) (fun _ _ _ h => h) (Or.inl ⟨by rfl, ?_⟩) ?_ ?_
      rotate_left
      ·intro w'
       go_simp
       with_reducible rfl
      rotate_left
      ·simp only [Act.put, List.setIfInBounds_toArray, List.set_cons_zero, List.set_cons_succ, i64_w, i32_w]
       rfl
      refine take_ (i := 7) (N := some 91) (v := ?_) (a' := ?_) #[true, true, true, true, true, true, true, true, true, false, false, false, false, false, false] rfl rfl (by kernel_rfl) (fun _ _ _ h => h) (Or.inl ⟨by rfl, ?_⟩) hHeld ?_ ?_
      rotate_left
      ·rintro w' ⟨s0, s1, s2⟩
       go_simp
       with_reducible rfl
      rotate_left
      ·simp only [Act.put, List.setIfInBounds_toArray, List.set_cons_zero, List.set_cons_succ, i64_w, i32_w]
       rfl
      refine one_ (i := 9) (N := some 93) #[true, true, true, true, true, true, true, true, true, true, false, false, false, false, false] rfl rfl (by kernel_rfl) (by decide) (fun K hK => ?_)
      refine goes_ Tryz.func106 (by kernel_rfl) rfl #[.slice A3 s.c.length c3, .int .i64 v] (by rfl) rfl rfl (by simp only [List.map_toArray, List.map_cons, List.map_nil]; rfl) ?_
      with_reducible refine (hfd _ (below_drew (Below.refl _ _))).mono ?_
      rintro e w7 ⟨rfl, hd7⟩
      refine ⟨_, rfl, ?_⟩
      refine hK.out _ _ ⟨(hd7.below.cell (World.block_lt_of_cell? _ _ hHeld.1)).trans hHeld.1, (hd7.below.cell (World.block_lt_of_cell? _ _ hHeld.2.1)).trans hHeld.2.1, (hd7.below.cell (World.block_lt_of_cell? _ _ hHeld.2.2)).trans hHeld.2.2⟩ (fun hHeld => ?_)
      clear hK K
      refine norm_ (a' := ?_) ?_ ?_
      rotate_left
      ·show Act.put _ (some 93) _ = _
       simp only [Act.put, List.setIfInBounds_toArray, List.set_cons_zero, List.set_cons_succ, i64_w, i32_w]
       rfl
      refine pure_ (i := 10) (N := some 83) (v := ?_) (a' := ?_) #[true, true, true, true, true, true, true, true, true, true, true, false, false, false, false] rfl rfl (by kernel_rfl) (fun _ _ _ h => h) (Or.inl ⟨by rfl, ?_⟩) ?_ ?_
      rotate_left
      ·intro w'
       go_simp
       with_reducible rfl
      rotate_left
      ·simp only [Act.put, List.setIfInBounds_toArray, List.set_cons_zero, List.set_cons_succ, i64_w, i32_w]
       rfl
      refine pure_ (i := 11) (N := some 94) (v := ?_) (a' := ?_) #[true, true, true, true, true, true, true, true, true, true, true, true, false, false, false] rfl rfl (by kernel_rfl) (fun _ _ _ h => h) (Or.inl ⟨by rfl, ?_⟩) ?_ ?_
      rotate_left
      ·intro w'
       go_simp
       with_reducible rfl
      rotate_left
      ·simp only [Act.put, List.setIfInBounds_toArray, List.set_cons_zero, List.set_cons_succ, i64_w, i32_w]
       rfl
      refine pure_ (i := 12) (N := some 95) (v := ?_) (a' := ?_) #[true, true, true, true, true, true, true, true, true, true, true, true, true, false, false] rfl rfl (by kernel_rfl) (fun _ _ _ h => h) (Or.inl ⟨by rfl, ?_⟩) ?_ ?_
      rotate_left
      ·intro w'
       go_simp
       with_reducible rfl
      rotate_left
      ·simp only [Act.put, List.setIfInBounds_toArray, List.set_cons_zero, List.set_cons_succ, i64_w, i32_w]
       rfl
      refine pure_ (i := 13) (N := some 96) (v := ?_) (a' := ?_) #[true, true, true, true, true, true, true, true, true, true, true, true, true, true, false] rfl rfl (by kernel_rfl) (fun _ _ _ h => h) (Or.inl ⟨by rfl, ?_⟩) ?_ ?_
      rotate_left
      ·intro w'
       go_simp
       with_reducible rfl
      rotate_left
      ·simp only [Act.put, List.setIfInBounds_toArray, List.set_cons_zero, List.set_cons_succ, i64_w, i32_w]
       rfl
      refine last_ (i := 14) (N := none) #[true, true, true, true, true, true, true, true, true, true, true, true, true, true, true] rfl rfl (by kernel_rfl) (by decide) (fun K hK => ?_)
      have hz0 : w7.cell? ⟨px, 1, none⟩ = some (.int .i64 v) := (blk_cell (blk_below (blk_drew hpx) hd7.below) 1).trans rfl
      have hf0 := blk_frozen (blk_below (blk_drew hpx) hd7.below) 1
      refine skip_ (w1 := ?_) (by rfl) rfl ?_ ?_
      rotate_left
      ·go_simp
       rfl
      refine hK.out _ _ ?_
      clear hK K
      refine done_ (by kernel_rfl) ?_
      
      --END21
      have hb8 : Below w6.heap.size w6 w7 := below_step (below_drew (Below.refl _ w6)) hd7.below
      have hD8 := hD5.far (px := px) (i := 1) (u := .int .i64 (foundR s d)) (below_step hb7 hb8) (Nat.le_of_eq HPX.out.symm)
      have hg8 : (w7.setCell ⟨px, 1, none⟩ (.int .i64 (foundR s d))).heap[px]? = some (.cells #[.int .i64 0, .int .i64 (foundR s d)] 122 (0, 0)) := blk_put (blk_below hpx hb8) 1 _ rfl
      have hB8 : Below w.heap.size w (w7.setCell ⟨px, 1, none⟩ (.int .i64 (foundR s d))) := below_set (below_step hB6 hb8) hwp
      clear hd7 hb8 hHeld hfd hC3 z3 z0 y0 hpx hb7 hD6 hB6 hD5 hB5 hfo hvb hs hwp
      generalize w7.setCell ⟨px, 1, none⟩ (.int .i64 (foundR s d)) = w8 at hD8 hg8 hB8 ⊢
      have hok' := (stepR_of hok hx).1
      have hN' := stepR_len s (foundR s d)
      generalize foundR s d = x at *
      have z0 : w8.cell? ⟨gt, 0, none⟩ = some (.slice (some ad1) 1 c1) := (blk_cell hD8.t 0).trans rfl
      have z1 : w8.cell? ⟨gt, 1, none⟩ = some (.slice A2 s.N.length c2) := (blk_cell hD8.t 1).trans rfl
      have z2 : w8.cell? ⟨gt, 2, none⟩ = some (.int .i64 s.r) := (blk_cell hD8.t 2).trans rfl
      have z3 : w8.cell? ⟨px, 0, none⟩ = some (.int .i64 0) := (blk_cell hg8 0).trans rfl
      have z4 : w8.cell? ⟨px, 1, none⟩ = some (.int .i64 x) := (blk_cell hg8 1).trans rfl
      have hst := rstep_calls x hD8 hok hx (by have := HN.out; omega) hB8
      have HN' : Aside0 ((stepR s x).N.length ≤ 5 + 2 * (i + 1)) := ⟨by have := HN.out; omega⟩
      have hpn : some px ≠ (Value.slice A2 s.N.length c2).ownBlock := Kd.R_ne hD8.n hg8 (by decide)
      clear hN'
      go_upto_region 23 with (go_at_call 107; refine hst.mono ?_; rintro e w9 ⟨A4, c4, A5, c5, rfl, hD9, hg9, hb9, hk9⟩; have f0 := blk_frozen hg9 0; have f1 := blk_frozen hg9 1; have f2 := blk_frozen hg9 2; have q0 : w9.cell? ⟨gt, 0, none⟩ = some (.slice (some ad1) 1 c1) := (blk_cell hg9 0).trans rfl; have q1 : w9.cell? ⟨gt, 1, none⟩ = some (.slice A2 s.N.length c2) := (blk_cell hg9 1).trans rfl; have q2 : w9.cell? ⟨gt, 2, none⟩ = some (.int .i64 s.r) := (blk_cell hg9 2).trans rfl)
      have hg10 : (((w9.setCell ⟨gt, 0, none⟩ (.slice A4 1 c4)).setCell ⟨gt, 1, none⟩ (.slice A5 (stepR s x).N.length c5)).setCell ⟨gt, 2, none⟩ (.int .i64 (stepR s x).r)).heap[px]? = some (.cells #[.int .i64 0, .int .i64 x] 122 (0, 0)) := blk_far (blk_far (blk_far (blk_kept hg8 hk9 hpn) (Nat.ne_of_gt hgp) _) (Nat.ne_of_gt hgp) _) (Nat.ne_of_gt hgp) _
      have hB10 : Below w.heap.size w (((w9.setCell ⟨gt, 0, none⟩ (.slice A4 1 c4)).setCell ⟨gt, 1, none⟩ (.slice A5 (stepR s x).N.length c5)).setCell ⟨gt, 2, none⟩ (.int .i64 (stepR s x).r)) := below_set (below_set (below_set hb9 hD9.g) hD9.g) hD9.g
      clear q0 q1 q2 f0 f1 f2 hb9 hk9 hg9 hst z0 z1 z2 z3 z4 hD8 hg8 hB8 hpn
      generalize ((w9.setCell ⟨gt, 0, none⟩ (.slice A4 1 c4)).setCell ⟨gt, 1, none⟩ (.slice A5 (stepR s x).N.length c5)).setCell ⟨gt, 2, none⟩ (.int .i64 (stepR s x).r) = w10 at hD9 hg10 hB10 ⊢
      have z3 : w10.cell? ⟨px, 0, none⟩ = some (.int .i64 0) := (blk_cell hg10 0).trans rfl
      have z4 : w10.cell? ⟨px, 1, none⟩ = some (.int .i64 x) := (blk_cell hg10 1).trans rfl
      have HCO : Aside0 (codesOf (pre ++ [x]) = codesOf pre ++ [⟨0, x⟩]) := ⟨by simp [codesOf]⟩
      have hlk : ((codesOf pre).length + 1) * 16 ≤ 140737488355328 := by rw [codesOf_len, HP.out]; omega
      have hRo := hD9.o
      have HD' : Aside0 (decR bs n s0 = (decR bs (n - (i + 1)) (stepR s x)).map fun t => (pre ++ [x] ++ t.1, t.2)) := ⟨by
       rw [HD.out, HM.out, hDm.out, show n - (i + 1) = m by have := HM.out; omega]
       cases decR bs m (stepR s x) <;> simp⟩
      clear hDm HD
      go_wp2_with (first | ((with_reducible refine gate_builtin (b := .append) (xs := #[.tmp 103, .tmp 105]) rfl ?_); at_builtin; refine Kd.R_append k122 (w0 := w) w.heap.size rfl (.tmp 103) (.tmp 105) 118 122 (.agg #[(.int .i64 0), (.int .i64 0)]) 16 rfl Tryz.underlying118 info122 rfl (by decide) (by omega) _ (codesOf pre) ⟨0, x⟩ [.int .i64 0, .int .i64 x] (fun _ => True) (fun _ => False) rfl rfl ?aP (fun _ hk => hk.elim) ?aF ?aO ?aB ?aS ?aL ?_; (case aP => exact k122_mkM _ _ _ ⟨0, x⟩); (case aF => exact fun _ _ => trivial); (case aO => exact hRo); (case aB => exact hB10); (case aS => exact hB10.size); (case aL => exact hlk); intro v12 w12 hR12 hb12 hg12 hat12; rw [← HCO.out] at hR12))
      go_roundw
      case rel => exact ⟨i + 1, pre ++ [x], stepR s x, A4, c4, A5, c5, by omega, rfl, HD', hok', HN', ⟨by rw [List.length_append, HP.out]; rfl⟩, hD9.push hg12 hat12 hR12, hb12⟩
      case measure => simp [intV]; omega
    ·obtain rfl : n = i := by omega
     have hfin : decR bs n s0 = some (pre, s) := by rw [HD.out, Nat.sub_self, decR]; simp
     have HU := Aside0.mk (HUN.out _ _ hfin)
     have hNl := HN.out
     have hNL : s.N.length ≤ 1099511627776 := by omega
     have z1 : wr.cell? ⟨gt, 1, none⟩ = some (.slice A2 s.N.length c2) := (blk_cell hD.t 1).trans rfl
     have hdg := fun (W : World) (hb : Below wr.heap.size wr W) => rdigits_calls hD hok hNL W hb
     have hCB := fun (W : World) (hb : Below wr.heap.size wr W) => Kd.C_below (Kd.C_below hB hBr) hb
     have hcv := fun (W : World) (hb : Below wr.heap.size wr W) => Kd.C_string (P := Tryz.prog) (A := B) (c := bc) Tryz.underlying26 Tryz.underlying5 Tryz.underlying9 (hCB W hb)
     have hcv0 := hcv wr (Below.refl _ wr)
     clear hfin HD HUN HUN0 hNl HN hNL
     go_upto_region 24 with (fail)
--REGION24
     refine start_ (n := 7) (S := fun w' => w'.cell? ⟨gt, 1, none⟩ = some (.slice A2 s.N.length c2) ∧ Sem.run Tryz.prog (convert 26 9 (.slice B bs.length bc)) w' = .ok (.string (strOfNums bs)) w') (ds := []) #[false, false, false, false, false, false, false] (by kernel_rfl) rfl rfl ⟨z1, (hcv _ (below_drew (Below.refl _ wr)))⟩ (fun hHeld => ?_)
     refine pure_ (i := 0) (N := some 107) (v := ?_) (a' := ?_) #[true, false, false, false, false, false, false] rfl rfl (by kernel_rfl) (fun _ _ _ h => h) (Or.inl ⟨by rfl, ?_⟩) ?_ ?_
     rotate_left
     ·intro w'
      go_simp
      with_reducible rfl
     rotate_left
     ·simp only [Act.put, List.setIfInBounds_toArray, List.set_cons_zero, List.set_cons_succ, i64_w, i32_w]
      rfl
     refine pure_ (i := 4) (N := some 111) (v := ?_) (a' := ?_) #[true, false, false, false, true, false, false] rfl rfl (by kernel_rfl) (fun _ _ _ h => h) (Or.inl ⟨by rfl, ?_⟩) ?_ ?_
     rotate_left
     ·intro w'
      go_simp
      with_reducible rfl
     rotate_left
     ·simp only [Act.put, List.setIfInBounds_toArray, List.set_cons_zero, List.set_cons_succ, i64_w, i32_w]
      rfl
     refine take_ (i := 1) (N := some 108) (v := ?_) (a' := ?_) #[true, true, false, false, true, false, false] rfl rfl (by kernel_rfl) (fun _ _ _ h => h) (Or.inl ⟨by rfl, ?_⟩) hHeld ?_ ?_
     rotate_left
     ·rintro w' ⟨s0, s1⟩
      go_simp
      with_reducible rfl
     rotate_left
     ·simp only [Act.put, List.setIfInBounds_toArray, List.set_cons_zero, List.set_cons_succ, i64_w, i32_w]
      rfl
     refine take_ (i := 5) (N := some 112) (v := ?_) (a' := ?_) #[true, true, false, false, true, true, false] rfl rfl (by kernel_rfl) (fun _ _ _ h => h) (Or.inl ⟨by rfl, ?_⟩) hHeld ?_ ?_
     rotate_left
     ·rintro w' ⟨s0, s1⟩
      go_simp
      with_reducible rfl
     rotate_left
     ·simp only [Act.put, List.setIfInBounds_toArray, List.set_cons_zero, List.set_cons_succ, i64_w, i32_w]
      rfl
     refine one_ (i := 2) (N := some 109) #[true, true, true, false, true, true, false] rfl rfl (by kernel_rfl) (by decide) (fun K hK => ?_)
     refine goes_ Tryz.func108 (by kernel_rfl) rfl #[.slice A2 s.N.length c2] (by rfl) rfl rfl (by simp only [List.map_toArray, List.map_cons, List.map_nil]; rfl) ?_
     with_reducible refine (hdg _ (below_drew (Below.refl _ _))).mono ?_
     rintro e w9 ⟨A9, c9, rfl, hC9, hb9⟩
     refine ⟨_, rfl, ?_⟩
     refine hK.out _ _ ⟨(hb9.cell (World.block_lt_of_cell? _ _ hHeld.1)).trans hHeld.1, hcv _ (below_step (below_drew (Below.refl _ wr)) hb9)⟩ (fun hHeld => ?_)
     clear hK K
     refine norm_ (a' := ?_) ?_ ?_
     rotate_left
     ·show Act.put _ (some 109) _ = _
      simp only [Act.put, List.setIfInBounds_toArray, List.set_cons_zero, List.set_cons_succ, i64_w, i32_w]
      rfl
     refine one_ (i := 3) (N := some 110) #[true, true, true, true, true, true, false] rfl rfl (by kernel_rfl) (by decide) (fun K hK => ?_)
     have hcv9 := Kd.C_string (P := Tryz.prog) (A := A9) (c := c9) Tryz.underlying26 Tryz.underlying5 Tryz.underlying9 hC9
     refine value_ (w1 := ?_) (v := ?_) (by rfl) rfl ?_ ?_
     rotate_left 2
     ·go_simp
      constructor
      ·rfl
      ·rfl
     refine hK.out _ _ ⟨hHeld.1, hHeld.2⟩ (fun hHeld => ?_)
     clear hK K
     refine norm_ (a' := ?_) ?_ ?_
     rotate_left
     ·show Act.put _ (some 110) _ = _
      simp only [Act.put, List.setIfInBounds_toArray, List.set_cons_zero, List.set_cons_succ, i64_w, i32_w]
      rfl
     refine pure_ (i := 6) (N := some 113) (v := ?_) (a' := ?_) #[true, true, true, true, true, true, true] rfl rfl (by kernel_rfl) (fun _ _ _ h => h) (Or.inl ⟨by rfl, ?_⟩) ?_ ?_
     rotate_left
     ·intro w'
      go_simp
      with_reducible rfl
     rotate_left
     ·simp only [Act.put, List.setIfInBounds_toArray, List.set_cons_zero, List.set_cons_succ, i64_w, i32_w]
      rfl
     refine done_ (by kernel_rfl) ?_
     
     --END24
     have hb10 : Below wr.heap.size wr w9 := below_step (below_drew (Below.refl _ wr)) hb9
     clear hcv hcv0 hCB hdg hHeld hC9 hcv9 z1
     go_wp2
     ·have hs : (!(strOfNums s.N).toList == (strOfNums bs).toList) = true := by assumption
      have hq : ¬ s.N = bs := fun e => by rw [e] at hs; simp at hs
      go_ret2
      unfold decF
      rw [HU.out, if_neg hq]
      exact ⟨_, rfl, Kd.R_nil _ _ _ _ _, below_step hBr hb10⟩
     ·have hs : (!(strOfNums s.N).toList == (strOfNums bs).toList) = false := by assumption
      have hq : s.N = bs := by
       have h1 : (strOfNums s.N).toList = (strOfNums bs).toList := by simpa using hs
       rw [C.toList_map, C.toList_map] at h1
       exact C.same_list _ _ hok.d hd h1
      go_ret2
      unfold decF
      rw [HU.out, if_pos hq]
      exact ⟨_, rfl, Kd.R_below hD.o hb10, below_step hBr hb10⟩
end Go.Proofs.YtbdbobjdlomjnaaGreatDoor.Ec

namespace Go.Proofs.YtbdbobjdlomjnaaGreatDoor.P
open Go.RowKit Go.Proofs.YtbdbobjdlomjnaaGreatDoorW.PrintWords Go.Proofs.YtbdbobjdlomjnaaGreatDoorW.PrintLast Go.Proofs.YtbdbobjdlomjnaaGreatDoorW.PrintMore Go.Proofs.YtbdbobjdlomjnaaGreatDoor.X
attribute [local go_sem] max2_int min2_int max_two min_two max_three min_three max_four min_four add64_0 add64_1 add64
set_option linter.unusedVariables false
set_option linter.unusedSimpArgs false
def rf06_Decode.f (l0 : List Int) (l1 : List Int) (l2 : List Int) : Option ((List (S122)) × Int) := if (l0 = [256] ∧ l1 = List.replicate l1.length 0 ∧ l1.length ≤ 65536 ∧ l2.length ≤ 1073741824) ∧ (∀ x ∈ l2, 0 ≤ x ∧ x ≤ 255) then (some ((Ec.decF l1.length l2).1, (Ec.decF l1.length l2).2)) else (none)
set_option maxHeartbeats 8000000 in
set_option maxRecDepth 100000 in
theorem rf06_Decode.calls (A0 : Option Addr) (c0 : Nat) (l0 : List Int) (A1 : Option Addr) (c1 : Nat) (l1 : List Int) (A2 : Option Addr) (c2 : Nat) (l2 : List Int) (r1 : List (S122)) (r2 : Int) (w : World) (hr0 : Kd.C (Kd.int .i64) w A0 l0.length l0) (hc0 : l0.length ≤ c0) (hr1 : Kd.C (Kd.int .i64) w A1 l1.length l1) (hc1 : l1.length ≤ c1) (hr2 : Kd.C (Kd.int .u8) w A2 l2.length l2) (hc2 : l2.length ≤ c2) (h : rf06_Decode.f l0 l1 l2 = some (r1, r2)) :
  Calls Tryz.prog 53 #[.slice A0 l0.length c0, .slice A1 l1.length c1, .slice A2 l2.length c2] w fun e w' => ∃ v0_ : Value, e = .returned (.tuple #[v0_, .int .i64 r2]) ∧ Kd.R k122 122 w' w.heap.size (fun _ => True) v0_ r1 ∧ Below w.heap.size w w' := by
 unfold rf06_Decode.f at h
 by_cases hl : (l0 = [256] ∧ l1 = List.replicate l1.length 0 ∧ l1.length ≤ 65536 ∧ l2.length ≤ 1073741824) ∧ (∀ x ∈ l2, 0 ≤ x ∧ x ≤ 255)
 ·rw [if_pos hl] at h
  simp only [Option.some.injEq, Prod.mk.injEq] at h
  obtain ⟨rfl, rfl⟩ := h
  exact (by obtain ⟨⟨h0, h1, h2, h3⟩, h4⟩ := hl; subst h0; exact Ec.rdecode_calls w A0 c0 A1 c1 l1.length A2 c2 l2 h2 h4 h3 hc2 hr0 hc0 (h1 ▸ hr1) hc1 hr2)
 ·rw [if_neg hl] at h; cases h
end Go.Proofs.YtbdbobjdlomjnaaGreatDoor.P
