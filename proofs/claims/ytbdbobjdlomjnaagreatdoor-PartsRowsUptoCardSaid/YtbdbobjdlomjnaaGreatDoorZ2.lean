/- Short names of words, for a text that would be too long for a file. bits.Add64, a function without a body, as the model runs it: for any two words and a carry that is at most 1. Written for this claim by a program of this session (a turned copy of the print): Go functions as Lean functions, and that the Go code comes to just these answers; or a statement proved out of them. No condition. The coder's number: digits, one digit more with a carry, all digits at the end. No condition. The coder's state without its writing: counts, the number, how many digits it has, the range; how a symbol turns it; what is read of bytes that are a row's. No condition. A model in memory: New, Total, Share, Find. No condition. -/
import Derived.Test.YtbdbobjdlomjnaaGreatDoorZ1
import Derived.Test.YtbdbobjdlomjnaaGreatDoorProg
import Derived.WalkKit
import Derived.KernelRfl
import Derived.Below
import Derived.Deep.Draws
import Derived.Deep.AppendLies
import Derived.Maps.AppendAt
import Derived.OwnWalk
import Derived.Laws.BytesArg
import Derived.Laws.MakeOwn
import Derived.Laws.OwnMore
import Derived.Deep.OwnRows
import Derived.Tactics
import Derived.Lib.ConvBytes
import Derived.Laws.Slices
import Derived.RowKit3
import Derived.Deep.LoopGhost
import Derived.Deep.QuietTactic
import Derived.BigQuiet
import Derived.WideLaws
import Derived.Deep.DeepCutAuto
import Derived.Deep.CutBlock
import Derived.Deep.RegionHeld3
import Derived.Laws.Rows
import Derived.Lib.AppendStr
import Derived.ArgAppend
import Derived.Laws.IdiomCopy
import Derived.OrdersHeld
import Derived.Laws.BitsLemmas
import Derived.RowKit
import Derived.WalkMore
import Derived.Lib.LazyBuf
import Derived.Handy
import Derived.StillTailTactics

namespace Go.Proofs.YtbdbobjdlomjnaaGreatDoor.X
set_option linter.unusedVariables false
open Go Go.RowKit Go.Proofs.YtbdbobjdlomjnaaGreatDoorW.PrintWords
abbrev bN := @blk_drewN
abbrev bD := @blk_drew
abbrev bA := @blk_alloc
abbrev AM := @Aside0.mk
theorem sT {α : Type} (l : List α) (i : Nat) (a : α) : l.toArray.setIfInBounds i a = (l.set i a).toArray := List.setIfInBounds_toArray ..
theorem sZ {α : Type} (b : α) (l : List α) (a : α) : (b :: l).set 0 a = a :: l := List.set_cons_zero
theorem sS {α : Type} (b : α) (l : List α) (n : Nat) (a : α) : (b :: l).set (n + 1) a = b :: l.set n a := List.set_cons_succ
theorem bK {w0 w : World} {g : Nat} {o : Obj} (b : Aside0 (w0.heap[g]? = some o)) (h : w0.heap[g]? = some o → w.heap[g]? = some o := by intro h; (repeat (first | (with_reducible first | refine blk_drewN ?_ _ | refine blk_drew ?_ | refine blk_alloc ?_ _) | refine blk_far ?_ (Aside0.out (by assumption)) _)); exact h) : w.heap[g]? = some o := h b.out
theorem bH {w w0 w1 : World} (b : Aside0 (Below w.heap.size w w0)) (h : Below w.heap.size w w0 → Below w.heap.size w w1 := by intro h; repeat (first | (with_reducible first | exact h | apply below_alloc | apply pw_below_drewN | apply below_drew1 | refine below_set ?_ (Aside0.out (by assumption))) | exact h)) : Below w.heap.size w w1 := h b.out
theorem rK {α : Type} {d : Kd α} {e base : Nat} {ok : Nat → Prop} {w0 w : World} {v : Value} {xs : List α} (b : Aside0 (Kd.R d e w0 base ok v xs)) (h : Kd.R d e w0 base ok v xs → Kd.R d e w base ok v xs := by intro h; (with_reducible repeat (first | apply Kd.R_alloc | apply Kd.R_drewN | apply Kd.R_drew)); exact h) : Kd.R d e w base ok v xs := h b.out
end Go.Proofs.YtbdbobjdlomjnaaGreatDoor.X

open Go Go.RowKit
namespace Go.Proofs.YtbdbobjdlomjnaaGreatDoor.X
set_option linter.unusedVariables false
set_option linter.unusedSimpArgs false
set_option maxRecDepth 100000
def a64lo (x y c : Int) : Int := ((x.toNat + y.toNat + c.toNat) % 18446744073709551616 : Nat)
def a64hi (x y c : Int) : Int := ((x.toNat + y.toNat + c.toNat) / 18446744073709551616 : Nat)
theorem add64_0 (x y : Int) (w : World) : (callFunc 245 #[.int .u64 x, .int .u64 y, .int .u64 0]).run Tryz.prog w =
  .ok (.value (.tuple #[.int .u64 (a64lo x y 0), .int .u64 (a64hi x y 0)])) w := by rfl
theorem add64_1 (x y : Int) (w : World) : (callFunc 245 #[.int .u64 x, .int .u64 y, .int .u64 1]).run Tryz.prog w =
  .ok (.value (.tuple #[.int .u64 (a64lo x y 1), .int .u64 (a64hi x y 1)])) w := by rfl
theorem add64 (x y : Int) (c : Int) (hc : decide (c ≤ 1) = true) (w : World) : (callFunc 245 #[.int .u64 x, .int .u64 y, .int .u64 c]).run Tryz.prog w =
  .ok (.value (.tuple #[.int .u64 (a64lo x y c), .int .u64 (a64hi x y c)])) w := by
 have hc := of_decide_eq_true hc
 match c, hc with
 | .ofNat 0, _ => rfl
 | .ofNat 1, _ => rfl
 | .ofNat (n + 2), h => exact absurd h (by simp; omega)
 | .negSucc n, _ => rfl
end Go.Proofs.YtbdbobjdlomjnaaGreatDoor.X

namespace Go.Proofs.YtbdbobjdlomjnaaGreatDoor.P
open Go.RowKit Go.Proofs.YtbdbobjdlomjnaaGreatDoorW.PrintWords Go.Proofs.YtbdbobjdlomjnaaGreatDoorW.PrintLast Go.Proofs.YtbdbobjdlomjnaaGreatDoorW.PrintMore Go.Proofs.YtbdbobjdlomjnaaGreatDoor.X
attribute [local go_sem] max2_int min2_int max_two min_two max_three min_three max_four min_four add64_0 add64_1 add64
set_option linter.unusedVariables false
set_option linter.unusedSimpArgs false
def errW : Option Int → Value
 | none => .nilIface
 | some c => .iface 0 (.int .i64 c)
theorem errW_none : errW none = .nilIface := rfl
theorem errW_some (c : Int) : errW (some c) = .iface 0 (.int .i64 c) := rfl
theorem info3 : (Tryz.prog.info? 3).map (fun i => (i.zero, i.size, i.bytes)) = some (some (.int .i64 0), 1, 8) := by kernel_rfl
theorem info5 : (Tryz.prog.info? 5).map (fun i => (i.zero, i.size, i.bytes)) = some (some (.int .u8 0), 1, 1) := by kernel_rfl
theorem info26 : (Tryz.prog.info? 26).map (fun i => (i.zero, i.size, i.bytes)) = some (some (.slice none 0 0), 1, 24) := by kernel_rfl
theorem info80 : (Tryz.prog.info? 80).map (fun i => (i.zero, i.size, i.bytes)) = some (some (.int .u64 0), 1, 8) := by kernel_rfl
theorem info83 : (Tryz.prog.info? 83).map (fun i => (i.zero, i.size, i.bytes)) = some (some (.slice none 0 0), 1, 24) := by kernel_rfl
theorem info122 : (Tryz.prog.info? 122).map (fun i => (i.zero, i.size, i.bytes)) = some (some (.agg #[(.int .i64 0), (.int .i64 0)]), 2, 16) := by kernel_rfl
-- the values' own types
def rd_L3 (xs : List (List Int)) (i : Int) : (List Int) := xs.getD i.toNat ([] : List Int)
theorem at_L3 {w : World} {A : Option Addr} {n : Nat} {xs : List (List Int)} (h : Kd.C (Kd.slice 5 (Kd.int .u8)) w A n xs) (i : Int) (h0 : 0 ≤ i) (h1 : i < n) : ∃ ad A0 c0, A = some ad ∧ w.cell? (ad.add i.toNat) = some (.slice A0 (rd_L3 xs i).length c0) ∧ (rd_L3 xs i).length ≤ c0 ∧ (Kd.int .u8).C w A0 (rd_L3 xs i).length (rd_L3 xs i) := by
 obtain ⟨ad, c, e, _, hK, hc0⟩ := Kd.C_get h ([] : List Int) i h0 h1
 have hc : ∀ j u, c[j]? = some u → w.cell? (ad.add (i.toNat * 1 + j)) = some u := hc0
 obtain ⟨A0, c0, rfl, l0, g0⟩ := hK
 exact ⟨ad, A0, c0, e, by have hq := hc 0 _ rfl; rwa [Nat.mul_one, Nat.add_zero] at hq, l0, g0⟩
def rd_L4 (xs : List (List Int)) (i : Int) : (List Int) := xs.getD i.toNat ([] : List Int)
theorem at_L4 {w : World} {A : Option Addr} {n : Nat} {xs : List (List Int)} (h : Kd.C (Kd.slice 3 (Kd.int .i64)) w A n xs) (i : Int) (h0 : 0 ≤ i) (h1 : i < n) : ∃ ad A0 c0, A = some ad ∧ w.cell? (ad.add i.toNat) = some (.slice A0 (rd_L4 xs i).length c0) ∧ (rd_L4 xs i).length ≤ c0 ∧ (Kd.int .i64).C w A0 (rd_L4 xs i).length (rd_L4 xs i) := by
 obtain ⟨ad, c, e, _, hK, hc0⟩ := Kd.C_get h ([] : List Int) i h0 h1
 have hc : ∀ j u, c[j]? = some u → w.cell? (ad.add (i.toNat * 1 + j)) = some u := hc0
 obtain ⟨A0, c0, rfl, l0, g0⟩ := hK
 exact ⟨ad, A0, c0, e, by have hq := hc 0 _ rfl; rwa [Nat.mul_one, Nat.add_zero] at hq, l0, g0⟩
structure S122 where
 f0 : Int
 f1 : Int
def z122 : S122 := ⟨(0 : Int), (0 : Int)⟩
def k122 : Kd S122 := Kd.iso (Kd.pair (Kd.int .i64) (Kd.int .i64)) (fun x : S122 => (x.f0, x.f1))
theorem k122_open {w : World} {x : S122} {cs : List Value} (h : k122.K w x cs) : cs = [.int .i64 x.f0, .int .i64 x.f1] := by
 obtain ⟨_, _, rfl, rfl, rfl⟩ := h
 exact rfl
theorem k122_openM {w : World} {base : Nat} {ok : Nat → Prop} {x : S122} {cs : List Value} (h : k122.M w base ok x cs) : cs = [.int .i64 x.f0, .int .i64 x.f1] := by
 obtain ⟨_, _, rfl, rfl, rfl⟩ := h
 exact rfl
theorem k122_mk (w : World) (x : S122)  : k122.K w x [.int .i64 x.f0, .int .i64 x.f1] := ⟨[.int .i64 x.f0], [.int .i64 x.f1], rfl, rfl, rfl⟩
theorem k122_mkM (w : World) (base : Nat) (ok : Nat → Prop) (x : S122)  : k122.M w base ok x [.int .i64 x.f0, .int .i64 x.f1] := ⟨[.int .i64 x.f0], [.int .i64 x.f1], rfl, rfl, rfl⟩
theorem k122_mkF (W : World) (ok : Nat → Prop) (x : S122) : Kd.FK k122 W ok x [.int .i64 x.f0, .int .i64 x.f1] := fun W2 _ => k122_mk W2 x
def rd_T122 (xs : List S122) (i : Int) : S122 := xs.getD i.toNat z122
theorem at_T122 {w : World} {A : Option Addr} {n : Nat} {xs : List S122} (h : Kd.C k122 w A n xs) (i : Int) (h0 : 0 ≤ i) (h1 : i < n) : ∃ ad , A = some ad ∧ w.cell? (ad.add (i.toNat * 2)) = some (.int .i64 (rd_T122 xs i).f0) ∧ w.cell? ⟨(ad.add (i.toNat * 2)).block, (ad.add (i.toNat * 2)).off + 1, none⟩ = some (.int .i64 (rd_T122 xs i).f1) := by
 obtain ⟨ad, c, e, _, hK, hc0⟩ := Kd.C_get h z122 i h0 h1
 have hc : ∀ j u, c[j]? = some u → w.cell? (ad.add (i.toNat * 2 + j)) = some u := hc0
 obtain rfl := k122_open hK
 exact ⟨ad, e, hc 0 _ rfl, by rw [← add_field _ _ 1 (by omega)]; exact hc 1 _ rfl⟩

def rf00_Same.f (l0 : List Int) (l1 : List Int) : Option (Bool) := some ((strOfNums l0).toList == (strOfNums l1).toList)
set_option maxHeartbeats 8000000 in
set_option maxRecDepth 100000 in
theorem rf00_Same.calls (A0 : Option Addr) (c0 : Nat) (l0 : List Int) (A1 : Option Addr) (c1 : Nat) (l1 : List Int) (r : Bool) (w : World) (hr0 : Kd.C (Kd.int .u8) w A0 l0.length l0) (hc0 : l0.length ≤ c0) (hr1 : Kd.C (Kd.int .u8) w A1 l1.length l1) (hc1 : l1.length ≤ c1) (h : rf00_Same.f l0 l1 = some r) :
  Calls Tryz.prog 16 #[.slice A0 l0.length c0, .slice A1 l1.length c1] w fun e w' => e = .returned (.bool r) ∧ Drawn0 w w' := by
 have HR0 := Aside0.mk hr0
 have HC0 := Aside0.mk hc0
 clear hr0 hc0
 have HR1 := Aside0.mk hr1
 have HC1 := Aside0.mk hc1
 clear hr1 hc1
 have H : (some ((strOfNums l0).toList == (strOfNums l1).toList)) = some r := h
 clear h
 obtain rfl := Option.some.inj H
 have hcv3 := Kd.C_string (P := Tryz.prog) (A := A0) (c := c0) Tryz.underlying26 Tryz.underlying5 Tryz.underlying9 HR0.out
 have hcv4 := Kd.C_string (P := Tryz.prog) (A := A1) (c := c1) Tryz.underlying26 Tryz.underlying5 Tryz.underlying9 HR1.out
 go_enter Tryz.func16, Tryz.ntmps16
 go_wp2
 go_ret
 exact ⟨by first | rfl | (simp; done) | (simp [*]; done), by repeat (first | exact Drawn0.refl _ | apply Drawn0.step)⟩
def rf00_Same.Pure : Prop := ∀ (l0 : List Int) (l1 : List Int), l0.length ≤ maxLen → l0.length * 1 ≤ 140737488351232 → (∀ x ∈ l0, (Lit.int .u8 x).wf = true) → l1.length ≤ maxLen → l1.length * 1 ≤ 140737488351232 → (∀ x ∈ l1, (Lit.int .u8 x).wf = true) → rf00_Same.f l0 l1 = some true
theorem rf00_Same.walk (P : rf00_Same.Pure) (a0 : Option Addr) (len0 cap0 : Nat) (z0 : List Int) (a1 : Option Addr) (len1 cap1 : Nat) (z1 : List Int) (w : World) (w0 : (a0 = none ∧ len0 = 0 ∧ cap0 = 0 ∧ z0 = []) ∨ ∃ x, a0 = some x ∧ len0 ≤ cap0 ∧ cap0 ≤ maxLen ∧ z0.length = cap0 ∧ (∀ i, i < z0.length → w.cell? (x.add i) = some (.int .u8 (z0.getD i 0))) ∧ ∀ n ∈ z0, (Lit.int .u8 n).wf = true) (y0 : len0 * 1 ≤ 140737488351232) (w1 : (a1 = none ∧ len1 = 0 ∧ cap1 = 0 ∧ z1 = []) ∨ ∃ x, a1 = some x ∧ len1 ≤ cap1 ∧ cap1 ≤ maxLen ∧ z1.length = cap1 ∧ (∀ i, i < z1.length → w.cell? (x.add i) = some (.int .u8 (z1.getD i 0))) ∧ ∀ n ∈ z1, (Lit.int .u8 n).wf = true) (y1 : len1 * 1 ≤ 140737488351232) :
  Calls Tryz.prog 16 #[.slice a0 len0 cap0, .slice a1 len1 cap1] w fun e w' => e = .returned (.bool true) ∧ Below w.heap.size w w' := by
 obtain ⟨l0, rfl, hr0, hm0, hw0, hc0⟩ := ReadsInt.ofRowC w0
 obtain ⟨l1, rfl, hr1, hm1, hw1, hc1⟩ := ReadsInt.ofRowC w1
 have h := P l0 l1 hm0 y0 hw0 hm1 y1 hw1
 refine (rf00_Same.calls _ _ l0 _ _ l1 true w (Kd.C_of_reads (d := (0 : Int)) (h1 := fun _ => rfl) hr0) hc0 (Kd.C_of_reads (d := (0 : Int)) (h1 := fun _ => rfl) hr1) hc1 h).mono ?_
 rintro e w' ⟨rfl, hd⟩
 exact ⟨rfl, hd.below⟩
end Go.Proofs.YtbdbobjdlomjnaaGreatDoor.P

namespace Go.Proofs.YtbdbobjdlomjnaaGreatDoor.Ec
set_option linter.unusedVariables false
set_option linter.unusedSimpArgs false
def val : List Int → Int
 | [] => 0
 | d :: l => d * 256 ^ l.length + val l
theorem pow_pos (n : Nat) : 0 < (256 : Int) ^ n := Int.pow_pos (by decide)
theorem pow_succ' (n : Nat) : (256 : Int) ^ (n + 1) = 256 ^ n * 256 := Int.pow_succ ..
theorem val_append (a b : List Int) : val (a ++ b) = val a * 256 ^ b.length + val b := by
 induction a with
 | nil => simp [val]
 | cons d a ih =>
  simp only [List.cons_append, val, ih, List.length_append, Int.pow_add]
  rw [Int.add_mul, Int.add_assoc, Int.mul_assoc]
theorem val_one (a : Int) : val [a] = a := by simp [val]
theorem val_rep0 (n : Nat) : val (List.replicate n 0) = 0 := by
 induction n with
 | zero => rfl
 | succ n ih => simp [List.replicate_succ, val, ih]
theorem val_rep255 (n : Nat) : val (List.replicate n 255) = 256 ^ n - 1 := by
 induction n with
 | zero => rfl
 | succ n ih =>
  simp only [List.replicate_succ, val, ih, List.length_replicate]
  rw [pow_succ']
  omega
def Dg (l : List Int) : Prop := ∀ d ∈ l, 0 ≤ d ∧ d ≤ 255
theorem Dg_append {a b : List Int} (ha : Dg a) (hb : Dg b) : Dg (a ++ b) := fun d h => (List.mem_append.1 h).elim (ha d) (hb d)
theorem Dg_rep (n : Nat) {x : Int} (h : 0 ≤ x ∧ x ≤ 255) : Dg (List.replicate n x) := fun d hd => by rw [List.eq_of_mem_replicate hd]; exact h
theorem Dg_one {x : Int} (h : 0 ≤ x ∧ x ≤ 255) : Dg [x] := fun d hd => by rw [List.mem_singleton.1 hd]; exact h
theorem val_bd : ∀ l : List Int, Dg l → 0 ≤ val l ∧ val l < 256 ^ l.length
 | [], _ => by simp [val]
 | d :: l, h => by
  have h0 := h d (List.mem_cons_self ..)
  have ih := val_bd l (fun x hx => h x (List.mem_cons_of_mem _ hx))
  have hp := pow_pos l.length
  simp only [val, List.length_cons, pow_succ']
  generalize (256 : Int) ^ l.length = P at *
  have a1 : 0 ≤ d * P := Int.mul_nonneg h0.1 (by omega)
  have a2 : d * P ≤ 255 * P := Int.mul_le_mul_of_nonneg_right h0.2 (by omega)
  omega
theorem val_inj : ∀ a b : List Int, Dg a → Dg b → a.length = b.length → val a = val b → a = b
 | [], [], _, _, _, _ => rfl
 | [], _ :: _, _, _, h, _ => by simp at h
 | _ :: _, [], _, _, h, _ => by simp at h
 | x :: a, y :: b, ha, hb, hl, hv => by
  have hl' : a.length = b.length := by simpa using hl
  have ba := val_bd a (fun z hz => ha z (List.mem_cons_of_mem _ hz))
  have bb := val_bd b (fun z hz => hb z (List.mem_cons_of_mem _ hz))
  simp only [val, hl'] at hv
  rw [hl'] at ba
  have hp := pow_pos b.length
  have e : x = y := by
   generalize (256 : Int) ^ b.length = P at *
   rcases Int.lt_trichotomy x y with h | h | h
   ·have := Int.mul_le_mul_of_nonneg_right (show x + 1 ≤ y by omega) (show 0 ≤ P by omega)
    rw [Int.add_mul] at this
    omega
   ·exact h
   ·have := Int.mul_le_mul_of_nonneg_right (show y + 1 ≤ x by omega) (show 0 ≤ P by omega)
    rw [Int.add_mul] at this
    omega
  subst e
  rw [val_inj a b (fun z hz => ha z (List.mem_cons_of_mem _ hz)) (fun z hz => hb z (List.mem_cons_of_mem _ hz)) hl' (by omega)]
structure WS where
 out : List Int
 cache : Int
 held : Nat
 low : Int
def shiftV (s : WS) : WS :=
 if s.low < 4278190080 ∨ s.low ≥ 4294967296 then
  { out := s.out ++ (if 0 < s.held then [(s.cache + s.low / 4294967296) % 256] else []) ++ List.replicate (s.held - 1) ((255 + s.low / 4294967296) % 256), cache := s.low / 16777216 % 256, held := 1, low := s.low % 16777216 * 256 }
 else { s with held := s.held + 1, low := s.low % 16777216 * 256 }
def Vw (s : WS) : Int := val (s.out ++ [s.cache] ++ List.replicate (s.held - 1) 255) * 4294967296 + s.low
def nw (s : WS) : Nat := s.out.length + s.held + 4
structure Ok (s : WS) : Prop where
 d : Dg s.out
 c : 0 ≤ s.cache ∧ s.cache ≤ 255
 h : 1 ≤ s.held
 l : 0 ≤ s.low ∧ s.low < 8589934592
 k : s.cache = 255 → s.low < 4294967296
theorem shiftV_ok {s : WS} (h : Ok s) : Dg (shiftV s).out ∧ (0 ≤ (shiftV s).cache ∧ (shiftV s).cache ≤ 255) ∧ 1 ≤ (shiftV s).held ∧ 0 ≤ (shiftV s).low ∧ (shiftV s).low < 4294967296 := by
 obtain ⟨hd, hc, hh, hl, hk⟩ := h
 unfold shiftV
 split
 ·refine ⟨?_, ?_, ?_, ?_⟩
  ·simp only [if_pos (show 0 < s.held by omega)]
   exact Dg_append (Dg_append hd (Dg_one (by omega))) (Dg_rep _ (by omega))
  ·simp only; omega
  ·simp only; omega
  ·simp only; omega
 ·exact ⟨hd, hc, by simp only; omega, by simp only; omega⟩
theorem shiftV_ok' {s : WS} (h : Ok s) : Ok (shiftV s) := by
 obtain ⟨a, b, c, d, e⟩ := shiftV_ok h
 exact ⟨a, b, c, ⟨d, by omega⟩, fun _ => e⟩
theorem shiftV_nw {s : WS} (h : Ok s) : nw (shiftV s) = nw s + 1 := by
 have hh := h.h
 unfold shiftV nw
 split
 ·simp only [if_pos (show 0 < s.held by omega), List.length_append, List.length_replicate, List.length_cons, List.length_nil]
  omega
 ·simp only; omega
theorem shiftV_Vw {s : WS} (h : Ok s) : Vw (shiftV s) = Vw s * 256 := by
 obtain ⟨hd, hc, hh, hl, hk⟩ := h
 unfold shiftV Vw
 split
 ·rename_i hs
  simp only [if_pos (show 0 < s.held by omega), Nat.sub_self, List.replicate_zero, List.append_nil]
  rw [val_append, val_one, val_append, val_append, val_append, val_append, val_one, val_one, List.length_replicate, List.length_replicate, val_rep255]
  simp only [List.length_cons, List.length_nil, Nat.zero_add, Int.pow_one]
  have hp := pow_pos (s.held - 1)
  generalize val s.out = O at *
  rcases Int.lt_or_le s.low 4294967296 with hlo | hhi
  ·have e1 : s.low / 4294967296 = 0 := by omega
   rw [e1]
   have e2 : (s.cache + 0) % 256 = s.cache := by omega
   rw [e2, show ((255 : Int) + 0) % 256 = 255 by decide, val_rep255]
   generalize (256 : Int) ^ (s.held - 1) = P at *
   generalize (O * 256 + s.cache) * P = M at *
   omega
  ·have e1 : s.low / 4294967296 = 1 := by omega
   have hc' : s.cache ≠ 255 := fun e => by have := hk e; omega
   rw [e1]
   have e2 : (s.cache + 1) % 256 = s.cache + 1 := by omega
   rw [e2, show ((255 : Int) + 1) % 256 = 0 by decide, val_rep0, show O * 256 + (s.cache + 1) = (O * 256 + s.cache) + 1 by omega]
   generalize (256 : Int) ^ (s.held - 1) = P at *
   have em : (O * 256 + s.cache + 1) * P = (O * 256 + s.cache) * P + P := by rw [Int.add_mul, Int.one_mul]
   rw [em]
   generalize (O * 256 + s.cache) * P = M at *
   omega
 ·rename_i hs
  obtain ⟨m, hm⟩ : ∃ m, s.held = m + 1 := ⟨s.held - 1, by omega⟩
  simp only [hm, Nat.add_sub_cancel]
  rw [show List.replicate (m + 1) (255 : Int) = List.replicate m 255 ++ [255] from List.replicate_succ' .., ← List.append_assoc, val_append (s.out ++ [s.cache] ++ List.replicate m 255), val_one]
  generalize val (s.out ++ [s.cache] ++ List.replicate m 255) = M
  simp only [List.length_cons, List.length_nil, Nat.zero_add, Int.pow_one]
  omega
def endV (s : WS) : List Int := (shiftV (shiftV (shiftV (shiftV (shiftV s))))).out
theorem endV_of {s : WS} (h : Ok s) : Dg (endV s) ∧ (endV s).length = nw s ∧ val (endV s) = Vw s := by
 have h1 := shiftV_ok' h
 have h2 := shiftV_ok' h1
 have h3 := shiftV_ok' h2
 have h4 := shiftV_ok' h3
 have v1 := shiftV_Vw h
 have v2 := shiftV_Vw h1
 have v3 := shiftV_Vw h2
 have v4 := shiftV_Vw h3
 have v5 := shiftV_Vw h4
 have n1 := shiftV_nw h
 have n2 := shiftV_nw h1
 have n3 := shiftV_nw h2
 have n4 := shiftV_nw h3
 have n5 := shiftV_nw h4
 have hd5 := (shiftV_ok h4).1
 have lw : ∀ t : WS, (shiftV t).low = t.low % 16777216 * 256 := fun t => by unfold shiftV; split <;> rfl
 have l1 := lw s
 have l2 := lw (shiftV s)
 have l3 := lw (shiftV (shiftV s))
 have l4 := lw (shiftV (shiftV (shiftV s)))
 have z4 : (shiftV (shiftV (shiftV (shiftV s)))).low = 0 := by omega
 unfold endV
 generalize shiftV (shiftV (shiftV (shiftV s))) = t at *
 have e5 : shiftV t = { out := t.out ++ (if 0 < t.held then [(t.cache + t.low / 4294967296) % 256] else []) ++ List.replicate (t.held - 1) ((255 + t.low / 4294967296) % 256), cache := 0, held := 1, low := 0 } := by
  unfold shiftV
  rw [if_pos (by omega)]
  simp [z4]
 have c5 : (shiftV t).cache = 0 := by rw [e5]
 have g5 : (shiftV t).held = 1 := by rw [e5]
 have l5 : (shiftV t).low = 0 := by rw [e5]
 refine ⟨hd5, ?_, ?_⟩
 ·unfold nw at n5 n4 n3 n2 n1 ⊢
  omega
 ·have hv : Vw (shiftV t) = val (shiftV t).out * 256 * 4294967296 := by
   unfold Vw
   rw [g5, c5, l5, val_append, val_append]
   simp [val]
  omega

def sumI : List Int → Int
 | [] => 0
 | a :: l => a + sumI l
theorem sumI_append (a b : List Int) : sumI (a ++ b) = sumI a + sumI b := by
 induction a with
 | nil => simp [sumI]
 | cons d a ih => simp only [List.cons_append, sumI, ih]; omega
theorem sumI_nn : ∀ c : List Int, (∀ d ∈ c, 1 ≤ d) → 0 ≤ sumI c
 | [], _ => by simp [sumI]
 | d :: c, h => by
  have := sumI_nn c (fun x hx => h x (List.mem_cons_of_mem _ hx))
  have := h d (List.mem_cons_self ..)
  simp only [sumI]
  omega
theorem sumI_take_succ (c : List Int) (x : Nat) (h : x < c.length) : sumI (c.take (x + 1)) = sumI (c.take x) + c.getD x 0 := by
 rw [List.take_add_one, sumI_append, List.getElem?_eq_getElem h]
 simp [sumI, List.getD, List.getElem?_eq_getElem h]
theorem sumI_take_le (c : List Int) (hc : ∀ d ∈ c, 1 ≤ d) (x : Nat) : sumI (c.take x) ≤ sumI c := by
 have e := sumI_append (c.take x) (c.drop x)
 rw [List.take_append_drop] at e
 have := sumI_nn (c.drop x) (fun d hd => hc d (List.mem_of_mem_drop hd))
 omega
theorem getD_pos {c : List Int} (hc : ∀ d ∈ c, 1 ≤ d) {x : Nat} (h : x < c.length) : 1 ≤ c.getD x 0 := by
 have : c.getD x 0 = c[x] := by simp [List.getD, List.getElem?_eq_getElem h]
 rw [this]
 exact hc _ (List.getElem_mem h)
def findC : List Int → Int → Nat
 | [], _ => 0
 | c :: cs, v => if v < c then 0 else findC cs (v - c) + 1
theorem findC_lt : ∀ (c : List Int) (v : Int), v < sumI c → 0 ≤ v → findC c v < c.length
 | [], v, h, h0 => by simp only [sumI] at h; omega
 | d :: c, v, h, h0 => by
  unfold findC
  split
  ·simp
  ·have := findC_lt c (v - d) (by simp only [sumI] at h; omega) (by omega)
   simp only [List.length_cons]
   omega
theorem findC_of : ∀ (c : List Int) (v : Int) (x : Nat), (∀ d ∈ c, 1 ≤ d) → x < c.length → sumI (c.take x) ≤ v → v < sumI (c.take x) + c.getD x 0 → findC c v = x
 | [], _, _, _, h, _, _ => by simp at h
 | d :: c, v, 0, hc, h, h1, h2 => by
  unfold findC
  rw [if_pos (by simpa [sumI] using h2)]
 | d :: c, v, x + 1, hc, h, h1, h2 => by
  have hc' : ∀ z ∈ c, 1 ≤ z := fun z hz => hc z (List.mem_cons_of_mem _ hz)
  have hn := sumI_nn (c.take x) (fun z hz => hc' z (List.mem_of_mem_take hz))
  simp only [List.take_succ_cons, sumI, List.getD_cons_succ] at h1 h2
  unfold findC
  rw [if_neg (by omega), findC_of c (v - d) x hc' (by simpa using h) (by omega) (by omega)]
def halveC (c : List Int) : List Int := c.map fun v => (v + 1) / 2
def countC (c : List Int) (x : Int) : List Int :=
 if 8192 < sumI (c.set x.toNat (c.getD x.toNat 0 + 32)) then halveC (c.set x.toNat (c.getD x.toNat 0 + 32)) else c.set x.toNat (c.getD x.toNat 0 + 32)
theorem sumI_set : ∀ (c : List Int) (x : Nat) (v : Int), x < c.length → sumI (c.set x v) = sumI c - c.getD x 0 + v
 | [], _, _, h => by simp at h
 | d :: c, 0, v, h => by simp [sumI, List.set]; omega
 | d :: c, x + 1, v, h => by
  simp only [List.set, sumI, List.getD_cons_succ, sumI_set c x v (by simpa using h)]
  omega
theorem halveC_pos {c : List Int} (h : ∀ d ∈ c, 1 ≤ d) : ∀ d ∈ halveC c, 1 ≤ d := by
 intro d hd
 obtain ⟨v, hv, rfl⟩ := List.mem_map.1 hd
 have := h v hv
 omega
theorem halveC_le : ∀ c : List Int, 2 * sumI (halveC c) ≤ sumI c + c.length
 | [] => by simp [halveC, sumI]
 | d :: c => by
  have := halveC_le c
  simp only [halveC, List.map_cons, sumI, List.length_cons] at this ⊢
  omega
structure MOk (c : List Int) : Prop where
 n : c.length = 256
 p : ∀ d ∈ c, 1 ≤ d
 s : sumI c ≤ 8192
theorem len_le_sumI : ∀ c : List Int, (∀ d ∈ c, 1 ≤ d) → (c.length : Int) ≤ sumI c
 | [], _ => by simp [sumI]
 | d :: c, h => by
  have := len_le_sumI c (fun x hx => h x (List.mem_cons_of_mem _ hx))
  have := h d (List.mem_cons_self ..)
  simp only [sumI, List.length_cons]
  omega
theorem MOk.ge {c : List Int} (h : MOk c) : 256 ≤ sumI c := by
 have := len_le_sumI c h.p
 have := h.n
 omega
theorem set_pos {c : List Int} (h : ∀ d ∈ c, 1 ≤ d) {x : Nat} {v : Int} (hv : 1 ≤ v) : ∀ d ∈ c.set x v, 1 ≤ d := by
 intro d hd
 rcases List.mem_or_eq_of_mem_set hd with hd | hd
 ·exact h d hd
 ·omega
theorem countC_ok {c : List Int} {x : Int} (h : MOk c) (h0 : 0 ≤ x) (h1 : x < 256) : MOk (countC c x) := by
 obtain ⟨hn, hp, hs⟩ := h
 have hx : x.toNat < c.length := by omega
 have hg := getD_pos hp hx
 have hsum := sumI_set c x.toNat (c.getD x.toNat 0 + 32) hx
 have hp1 := set_pos hp (x := x.toNat) (v := c.getD x.toNat 0 + 32) (by omega)
 unfold countC
 split
 ·refine ⟨by simp [halveC, hn], halveC_pos hp1, ?_⟩
  have := halveC_le (c.set x.toNat (c.getD x.toNat 0 + 32))
  rw [List.length_set, hn] at this
  omega
 ·exact ⟨by simp [hn], hp1, by omega⟩
theorem mok0 : MOk (List.replicate 256 1) := ⟨List.length_replicate, fun d hd => by rw [List.eq_of_mem_replicate hd]; decide, by decide +kernel⟩
structure AS where
 c : List Int
 V : Int
 n : Nat
 r : Int
def nsh (r : Int) : Nat := if r < 65536 then 2 else if r < 16777216 then 1 else 0
def lowC (c : List Int) (x : Int) : Int := sumI (c.take x.toNat)
def qA (s : AS) : Int := s.r / sumI s.c
def r1A (s : AS) (x : Int) : Int := qA s * s.c.getD x.toNat 0
def stepA (s : AS) (x : Int) : AS := ⟨countC s.c x, (s.V + qA s * lowC s.c x) * 256 ^ nsh (r1A s x), s.n + nsh (r1A s x), r1A s x * 256 ^ nsh (r1A s x)⟩
structure AI (s : AS) : Prop where
 m : MOk s.c
 r : 16777216 ≤ s.r ∧ s.r < 4294967296
 v : 0 ≤ s.V
 n : 5 ≤ s.n
 b : s.V + s.r ≤ 256 ^ (s.n - 1)
def s0A : AS := ⟨List.replicate 256 1, 0, 5, 4294967295⟩
theorem ai0 : AI s0A := ⟨mok0, by decide, by decide, by decide, by decide⟩
def In (x : Int) : Prop := 0 ≤ x ∧ x < 256
section
variable {s : AS} {x : Int}
theorem qA_bd (h : AI s) : 2048 ≤ qA s ∧ qA s * sumI s.c ≤ s.r := by
 have h1 := h.m.ge
 have h2 := h.m.s
 have h3 := h.r
 refine ⟨?_, Int.ediv_mul_le _ (by omega)⟩
 have : 2048 * sumI s.c ≤ s.r := by omega
 exact (Int.le_ediv_iff_mul_le (by omega)).2 this
theorem share_bd (h : AI s) (hx : In x) : 0 ≤ qA s * lowC s.c x ∧ 2048 ≤ r1A s x ∧ qA s * lowC s.c x + r1A s x ≤ s.r ∧ 1 ≤ s.c.getD x.toNat 0 ∧ lowC s.c x + s.c.getD x.toNat 0 ≤ sumI s.c ∧ 0 ≤ lowC s.c x := by
 have hq := qA_bd h
 have hxl : x.toNat < s.c.length := by rw [h.m.n]; have := hx.2; have := hx.1; omega
 have hg := getD_pos h.m.p hxl
 have hl : 0 ≤ lowC s.c x := sumI_nn _ (fun d hd => h.m.p d (List.mem_of_mem_take hd))
 have ht : lowC s.c x + s.c.getD x.toNat 0 ≤ sumI s.c := by
  have := sumI_take_le s.c h.m.p (x.toNat + 1)
  rw [sumI_take_succ _ _ hxl] at this
  exact this
 have m1 := Int.mul_le_mul_of_nonneg_left ht (show 0 ≤ qA s by omega)
 rw [Int.mul_add] at m1
 have m2 := Int.mul_le_mul_of_nonneg_left hg (show 0 ≤ qA s by omega)
 have m3 := Int.mul_nonneg (show 0 ≤ qA s by omega) hl
 unfold r1A
 refine ⟨m3, by omega, by omega, hg, ht, hl⟩
theorem nsh_bd {r : Int} (h : 2048 ≤ r) (h1 : r < 4294967296) : 16777216 ≤ r * 256 ^ nsh r ∧ r * 256 ^ nsh r < 4294967296 := by
 unfold nsh
 split
 ·rw [show (256 : Int) ^ 2 = 65536 by decide]; omega
 ·split
  ·rw [show (256 : Int) ^ 1 = 256 by decide]; omega
  ·rw [show (256 : Int) ^ 0 = 1 by decide]; omega
theorem stepA_ok (h : AI s) (hx : In x) : AI (stepA s x) := by
 obtain ⟨b1, b2, b3, b4, b5, b6⟩ := share_bd h hx
 have hr := h.r
 have hv := h.v
 have hn := h.n
 have hk := nsh_bd b2 (show r1A s x < 4294967296 by omega)
 have hp := pow_pos (nsh (r1A s x))
 refine ⟨countC_ok h.m hx.1 hx.2, hk, ?_, ?_, ?_⟩
 ·exact Int.mul_nonneg (by omega) (by omega)
 ·simp only [stepA]; omega
 ·simp only [stepA]
  rw [show s.n + nsh (r1A s x) - 1 = (s.n - 1) + nsh (r1A s x) by omega, Int.pow_add, ← Int.add_mul]
  exact Int.mul_le_mul_of_nonneg_right (by have := h.b; omega) (by omega)
end
def stepsA (s : AS) : List Int → AS
 | [] => s
 | x :: l => stepsA (stepA s x) l
theorem stepsA_ok : ∀ (l : List Int) (s : AS), AI s → (∀ x ∈ l, In x) → AI (stepsA s l)
 | [], s, h, _ => h
 | x :: l, s, h, hl => stepsA_ok l (stepA s x) (stepA_ok h (hl x (List.mem_cons_self ..))) (fun y hy => hl y (List.mem_cons_of_mem _ hy))
structure Within (V r : Int) (n : Nat) (t : AS) (a : Nat) : Prop where
 n : t.n = n + a
 l : V * 256 ^ a ≤ t.V
 h : t.V + t.r ≤ (V + r) * 256 ^ a
theorem within_step {V r V1 r1 : Int} {n k a : Nat} {t : AS} (h0 : V ≤ V1) (h1 : V1 + r1 ≤ V + r) (h : Within (V1 * 256 ^ k) (r1 * 256 ^ k) (n + k) t a) : Within V1 r1 n t (k + a) ∧ Within V r n t (k + a) := by
 obtain ⟨hn, hl, hh⟩ := h
 have hp := pow_pos (k + a)
 rw [Int.mul_assoc, ← Int.pow_add] at hl
 rw [← Int.add_mul, Int.mul_assoc, ← Int.pow_add] at hh
 have m1 := Int.mul_le_mul_of_nonneg_right h0 (show 0 ≤ (256 : Int) ^ (k + a) by omega)
 have m2 := Int.mul_le_mul_of_nonneg_right h1 (show 0 ≤ (256 : Int) ^ (k + a) by omega)
 exact ⟨⟨by omega, hl, hh⟩, ⟨by omega, by omega, by omega⟩⟩
theorem stepsA_within : ∀ (l : List Int) (s : AS), AI s → (∀ x ∈ l, In x) → ∃ a, Within s.V s.r s.n (stepsA s l) a
 | [], s, h, _ => ⟨0, rfl, by simp [stepsA], by simp [stepsA]⟩
 | x :: l, s, h, hl => by
  have hx := hl x (List.mem_cons_self ..)
  obtain ⟨a, ha⟩ := stepsA_within l (stepA s x) (stepA_ok h hx) (fun y hy => hl y (List.mem_cons_of_mem _ hy))
  obtain ⟨b1, b2, b3, _⟩ := share_bd h hx
  exact ⟨_, (within_step (V := s.V) (r := s.r) (n := s.n) (by omega) (by omega) ha).2⟩
theorem Dg_take {b : List Int} (h : Dg b) (n : Nat) : Dg (b.take n) := fun d hd => h d (List.mem_of_mem_take hd)
theorem Dg_drop {b : List Int} (h : Dg b) (n : Nat) : Dg (b.drop n) := fun d hd => h d (List.mem_of_mem_drop hd)
theorem take_in {b : List Int} {V r : Int} {n a : Nat} {t : AS} (hb : Dg b) (h : Within V r n t a) (hr : 0 < t.r) (hv : val b = t.V) (hl : b.length = t.n) : 0 ≤ val (b.take n) - V ∧ val (b.take n) - V < r := by
 obtain ⟨hn, h1, h2⟩ := h
 have e := val_append (b.take n) (b.drop n)
 rw [List.take_append_drop, List.length_drop, hl, hn, Nat.add_sub_cancel_left] at e
 have bd := val_bd _ (Dg_drop hb n)
 rw [List.length_drop, hl, hn, Nat.add_sub_cancel_left] at bd
 have hp := pow_pos a
 generalize val (b.take n) = T at *
 generalize (256 : Int) ^ a = P at *
 constructor
 ·rcases Int.lt_or_le T V with hlt | hle
  ·have := Int.mul_le_mul_of_nonneg_right (show T + 1 ≤ V by omega) (show 0 ≤ P by omega)
   rw [Int.add_mul] at this
   omega
  ·omega
 ·rcases Int.lt_or_le T (V + r) with hlt | hle
  ·omega
  ·have := Int.mul_le_mul_of_nonneg_right hle (show 0 ≤ P by omega)
   omega
theorem find_next {b : List Int} {s : AS} {x : Int} {l : List Int} (hb : Dg b) (h : AI s) (hl : ∀ y ∈ x :: l, In y) (hv : val b = (stepsA s (x :: l)).V) (hn : b.length = (stepsA s (x :: l)).n) :
  s.n ≤ b.length ∧ (0 ≤ val (b.take s.n) - s.V ∧ val (b.take s.n) - s.V < s.r) ∧ (findC s.c (min ((val (b.take s.n) - s.V) / qA s) (sumI s.c - 1)) : Int) = x ∧
  (0 ≤ val (b.take s.n) - s.V - qA s * lowC s.c x ∧ val (b.take s.n) - s.V - qA s * lowC s.c x < r1A s x) ∧ (stepA s x).n ≤ b.length := by
 have hx := hl x (List.mem_cons_self ..)
 have hl' : ∀ y ∈ l, In y := fun y hy => hl y (List.mem_cons_of_mem _ hy)
 have hok := stepsA_ok l _ (stepA_ok h hx) hl'
 obtain ⟨a, ha⟩ := stepsA_within l (stepA s x) (stepA_ok h hx) hl'
 obtain ⟨b1, b2, b3, b4, b5, b6⟩ := share_bd h hx
 obtain ⟨w1, w2⟩ := within_step (V := s.V) (r := s.r) (n := s.n) (V1 := s.V + qA s * lowC s.c x) (r1 := r1A s x) (k := nsh (r1A s x)) (by omega) (by omega) ha
 have hr := hok.r
 have t1 := take_in hb w1 (by omega) hv hn
 have t2 := take_in hb w2 (by omega) hv hn
 have hq := (qA_bd h).1
 have hxl : x.toNat < s.c.length := by rw [h.m.n]; have := hx.2; have := hx.1; omega
 have en : b.length = (stepA s x).n + a := hn.trans ha.n
 refine ⟨?_, t2, ?_, ⟨by omega, by omega⟩, by omega⟩
 ·have e1 : (stepA s x).n = s.n + nsh (r1A s x) := rfl
  omega
 ·have l1 : lowC s.c x ≤ (val (b.take s.n) - s.V) / qA s := (Int.le_ediv_iff_mul_le (by omega)).2 (by rw [Int.mul_comm]; omega)
  have l2 : (val (b.take s.n) - s.V) / qA s < lowC s.c x + s.c.getD x.toNat 0 := Int.ediv_lt_of_lt_mul (by omega) (by
   rw [Int.mul_comm, Int.mul_add]
   unfold r1A at t1
   omega)
  rw [show min ((val (b.take s.n) - s.V) / qA s) (sumI s.c - 1) = (val (b.take s.n) - s.V) / qA s by omega, findC_of s.c _ x.toNat h.m.p hxl l1 l2]
  have := hx.1
  omega
end Go.Proofs.YtbdbobjdlomjnaaGreatDoor.Ec

namespace Go.Proofs.YtbdbobjdlomjnaaGreatDoor.Ec
set_option linter.unusedVariables false
set_option linter.unusedSimpArgs false
open Go Go.RowKit Go.Proofs.YtbdbobjdlomjnaaGreatDoor.P Go.Proofs.YtbdbobjdlomjnaaGreatDoor.X Go.Proofs.YtbdbobjdlomjnaaGreatDoorW.PrintWords Go.Proofs.YtbdbobjdlomjnaaGreatDoorW.PrintLast Go.Proofs.YtbdbobjdlomjnaaGreatDoorW.PrintMore
set_option maxHeartbeats 8000000
set_option maxRecDepth 100000
def ci (c : List Int) : Array Value := (c.map (Value.int .i64)).toArray
theorem ci_get {c : List Int} {i : Nat} (h : i < c.length) : (ci c)[i]? = some (.int .i64 (c.getD i 0)) := by
 simp [ci, List.getD, List.getElem?_eq_getElem h]
theorem ci_set (c : List Int) (i : Nat) (v : Int) : (ci c).setIfInBounds i (.int .i64 v) = ci (c.set i v) := by
 simp [ci, List.setIfInBounds_toArray, List.map_set]
def gt (c : List Int) (i : Nat) : Int := c.getD i 0
structure Mo (w : World) (g gc : Nat) (c : List Int) (t : Int) : Prop where
 ne : g ≠ gc
 hm : w.heap[g]? = some (.cells #[.slice (some ⟨gc, 0, none⟩) 256 256, .int .i64 t] 305 (0, 0))
 hc : w.heap[gc]? = some (.cells (ci c) 3 (0, 0))
 n : c.length = 256
section
variable {w w1 : World} {g gc : Nat} {c : List Int} {t : Int}
theorem Mo.below (h : Mo w g gc c t) (hb : Below w.heap.size w w1) : Mo w1 g gc c t := ⟨h.ne, blk_below h.hm hb, blk_below h.hc hb, h.n⟩
theorem Mo.cell (h : Mo w g gc c t) : w.cell? ⟨g, 0, none⟩ = some (.slice (some ⟨gc, 0, none⟩) 256 256) ∧ w.cell? ⟨g, 1, none⟩ = some (.int .i64 t) ∧ w.frozen? ⟨g, 1, none⟩ = false := ⟨(blk_cell h.hm 0).trans rfl, (blk_cell h.hm 1).trans rfl, blk_frozen h.hm 1⟩
theorem Mo.at (h : Mo w g gc c t) {i : Nat} (hi : i < 256) : w.cell? ⟨gc, i, none⟩ = some (.int .i64 (gt c i)) ∧ w.frozen? ⟨gc, i, none⟩ = false := ⟨(blk_cell h.hc i).trans (ci_get (by rw [h.n]; exact hi)), blk_frozen h.hc i⟩
theorem Mo.setT (h : Mo w g gc c t) (u : Int) : Mo (w.setCell ⟨g, 1, none⟩ (.int .i64 u)) g gc c u := ⟨h.ne, blk_put h.hm 1 _ rfl, blk_far h.hc (Ne.symm h.ne) _, h.n⟩
theorem Mo.setC (h : Mo w g gc c t) (i : Nat) (u : Int) : Mo (w.setCell ⟨gc, i, none⟩ (.int .i64 u)) g gc (c.set i u) t := ⟨h.ne, blk_far h.hm h.ne _, blk_put h.hc i _ (ci_set ..), by rw [List.length_set]; exact h.n⟩
end
theorem make256 : ∀ W : World, (Instr.makeSlice 83 (.int .i64 256) (.int .i64 256)).run Tryz.prog W = .ok (.slice (some ⟨W.heap.size, 0, none⟩) 256 256) (W.alloc (.cells (madeCells #[.int .i64 0] 256) 3)) :=
 print_make 83 3 .i64 8 Tryz.underlying83 (by kernel_rfl) (by decide) 256 (by decide)
theorem made_ci (n : Nat) : madeCells #[Value.int .i64 0] n = ci (List.replicate n 0) := by
 unfold ci madeCells
 apply Array.ext'
 apply List.ext_getElem
 ·simp
 ·intro i h1 h2
  simp [Nat.mod_one]
theorem set_rep (i : Nat) (h : i < 256) : (List.replicate i (1 : Int) ++ List.replicate (256 - i) 0).set i 1 = List.replicate (i + 1) 1 ++ List.replicate (256 - (i + 1)) 0 := by
 rw [List.set_append_right _ _ (by simp), List.length_replicate, Nat.sub_self, show 256 - i = (256 - (i + 1)) + 1 by omega, List.replicate_succ, List.set_cons_zero, List.replicate_succ', List.append_assoc]
 rfl
def intV (v : Value) : Int := match v with | .int _ n => n | _ => 0
theorem w64 {x : Int} (h0 : -9223372036854775808 ≤ x) (h1 : x ≤ 9223372036854775807) : wrap64 x = x := by unfold Go.RowKit.wrap64; omega
theorem i_lt {i n : Nat} (h : i < n) : ((i : Int) < (n : Int)) := by omega
theorem new_calls (w : World) : Calls Tryz.prog 197 #[.int .i64 256] w fun e w' => ∃ g gc, e = .returned (.tuple #[.pointer (some ⟨g, 0, none⟩), .int .i64 0]) ∧ w.heap.size ≤ g ∧ w.heap.size ≤ gc ∧ Mo w' g gc (List.replicate 256 1) 256 ∧ Below w.heap.size w w' := by
 have hu := Tryz.underlying305
 have hmk := make256
 go_enter Tryz.func197, Tryz.ntmps197
 go_upto_region 4 with (fail)
 obtain ⟨w2, hW2⟩ : ∃ w2, w2 = (w.alloc (.cells (madeCells #[.int .i64 0] 256) 3)).alloc (.cells #[.slice (some ⟨w.heap.size, 0, none⟩) 256 256, .int .i64 256] 305) := ⟨_, rfl⟩
 rw [← hW2]
 have hM : Mo w2 (w.heap.size + 1) w.heap.size (List.replicate 256 0) 256 := by
  rw [hW2]
  refine ⟨by omega, ?_, ?_, by decide⟩
  ·have := heap_alloc_new (w.alloc (.cells (madeCells #[.int .i64 0] 256) 3)) (.cells #[.slice (some ⟨w.heap.size, 0, none⟩) 256 256, .int .i64 256] 305)
   rwa [show (w.alloc (.cells (madeCells #[.int .i64 0] 256) 3)).heap.size = w.heap.size + 1 by simp] at this
  ·rw [made_ci]
   exact blk_alloc (heap_alloc_new w _) _
 have hB : Below w.heap.size w w2 := by rw [hW2]; exact below_alloc (below_alloc (Below.refl _ w) _) _
 clear hW2
 obtain ⟨x0, x1, f1⟩ := hM.cell
 go_wp2
 clear x0 x1 f1
 go_loopw [22] (fun v wr => ∃ i : Nat, i ≤ 256 ∧ v = .int .i64 i ∧ Mo wr (w.heap.size + 1) w.heap.size (List.replicate i 1 ++ List.replicate (256 - i) 0) 256 ∧ Below w.heap.size w wr) (fun v _ => 256 - (intV v).toNat)
 case atStart => exact ⟨0, by omega, rfl, hM, hB⟩
 case round =>
  obtain ⟨i, hi, rfl, hR, hb⟩ := hrel
  obtain ⟨x0, x1, f1⟩ := hR.cell
  rcases Nat.lt_or_ge i 256 with hlt | hge
  ·have hii : (i : Int) < 256 := by omega
   obtain ⟨y0, y1⟩ := hR.at hlt
   go_wp2
   go_roundw
   case rel =>
    have := hR.setC i 1
    rw [set_rep i hlt] at this
    exact ⟨i + 1, by omega, rfl, this, below_set hb (Nat.le_refl _)⟩
   case measure => simp [intV]; omega
  ·obtain rfl : i = 256 := by omega
   go_wp2
   go_ret2
   exact ⟨_, _, rfl, by omega, by omega, hR, hb⟩
theorem total_calls (w : World) (g gc : Nat) (c : List Int) (t : Int) (h : Mo w g gc c t) : Calls Tryz.prog 198 #[.pointer (some ⟨g, 0, none⟩)] w fun e w' => e = .returned (.int .i64 t) ∧ w = w' := by
 have hu := Tryz.underlying305
 obtain ⟨x0, x1, f1⟩ := h.cell
 go_enter Tryz.func198, Tryz.ntmps198
 go_wp2
 go_ret
 exact ⟨rfl, rfl⟩
theorem right_calls (w : World) (g gc : Nat) (c : List Int) (t x : Int) (h : Mo w g gc c t) (h0 : 0 ≤ x) (h1 : x < 256) : Calls Tryz.prog 223 #[.pointer (some ⟨g, 0, none⟩), .int .i64 x] w fun e w' => e = .returned (.bool true) ∧ w = w' := by
 have hu := Tryz.underlying305
 obtain ⟨x0, x1, f1⟩ := h.cell
 have b0 : decide (0 ≤ x) = true := decide_eq_true h0
 have b1 : decide (x < 256) = true := decide_eq_true h1
 go_enter Tryz.func223, Tryz.ntmps223
 go_wp2
 go_ret
 exact ⟨rfl, rfl⟩
theorem wrong_calls (w : World) (g gc : Nat) (c : List Int) (t x : Int) (h : Mo w g gc c t) (h0 : 0 ≤ x) (h1 : x < 256) : Calls Tryz.prog 239 #[.pointer (some ⟨g, 0, none⟩), .int .i64 x] w fun e w' => e = .returned (.bool false) ∧ w = w' := by
 have hr := right_calls w g gc c t x h h0 h1
 go_enter Tryz.func239, Tryz.ntmps239
 go_wp2_with (go_at_call 223; refine hr.mono ?_; rintro e w1 ⟨rfl, rfl⟩)
 go_ret
 exact ⟨rfl, rfl⟩
theorem sumI_bd {c : List Int} (hm : MOk c) (i : Nat) : 0 ≤ sumI (c.take i) ∧ sumI (c.take i) ≤ 8192 := by
 have := sumI_take_le c hm.p i
 have := sumI_nn (c.take i) (fun d hd => hm.p d (List.mem_of_mem_take hd))
 have := hm.s
 omega
theorem share_calls (w : World) (g gc : Nat) (c : List Int) (t x : Int) (h : Mo w g gc c t) (hm : MOk c) (hx : In x) : Calls Tryz.prog 200 #[.pointer (some ⟨g, 0, none⟩), .int .i64 x] w fun e w' => e = .returned (.tuple #[.int .i64 (lowC c x), .int .i64 (gt c x.toNat), .int .i64 0]) ∧ Drawn0 w w' := by
 have hu := Tryz.underlying305
 obtain ⟨n, rfl⟩ : ∃ n : Nat, x = n := ⟨x.toNat, by have := hx.1; omega⟩
 have hn : n < 256 := by have := hx.2; omega
 have hr := right_calls w g gc c t n h hx.1 hx.2
 obtain ⟨x0, x1, f1⟩ := h.cell
 have p0 : (0 : Int) ≤ (n : Int) := by omega
 have p1 : (n : Int) ≤ 256 := by omega
 obtain ⟨z0, z1⟩ := h.at hn
 go_enter Tryz.func200, Tryz.ntmps200
 go_wp2_with (go_at_call 223; refine hr.mono ?_; rintro e w1 ⟨rfl, rfl⟩)
 go_loopw [7, 25] (fun v v' wr => ∃ i : Nat, i ≤ n ∧ v = .int .i64 (sumI (c.take i)) ∧ v' = .int .i64 i ∧ w = wr) (fun _ v _ => n - (intV v).toNat)
 case atStart => exact ⟨0, by omega, rfl, rfl, rfl⟩
 case round =>
  obtain ⟨i, hi, rfl, rfl, rfl⟩ := hrel
  rcases Nat.lt_or_ge i n with hlt | hge
  ·have hii : (i : Int) < (n : Int) := by omega
   obtain ⟨y0, y1⟩ := h.at (show i < 256 by omega)
   have hs : sumI (c.take (i + 1)) = sumI (c.take i) + gt c i := sumI_take_succ c i (by rw [h.n]; omega)
   have b0 := sumI_bd hm i
   have b1 := sumI_bd hm (i + 1)
   go_wp2
   go_roundw
   case rel => exact ⟨i + 1, by omega, by rw [hs], rfl, trivial⟩
   case measure => simp [intV]; omega
  ·obtain rfl : i = n := by omega
   go_wp2
   repeat (go_quiet (fail); try go_wp2)
   go_ret3
   exact ⟨rfl, by repeat (first | exact Drawn0.refl _ | apply Drawn0.step)⟩
theorem findC_drop (c : List Int) : ∀ (i : Nat) (v : Int), i ≤ c.length → (∀ j, j < i → gt c j ≤ v - sumI (c.take j)) → findC c v = i + findC (c.drop i) (v - sumI (c.take i))
 | 0, v, _, _ => by simp [sumI]
 | i + 1, v, hi, h => by
  have ih := findC_drop c i v (by omega) (fun j hj => h j (by omega))
  have hh := h i (by omega)
  have hg : gt c i = c[i] := by simp [gt, List.getD, List.getElem?_eq_getElem (show i < c.length by omega)]
  rw [ih, List.drop_eq_getElem_cons (show i < c.length by omega), findC, if_neg (by omega), sumI_take_succ c i (by omega), show c.getD i 0 = gt c i from rfl, hg, show v - sumI (c.take i) - c[i] = v - (sumI (c.take i) + c[i]) by omega]
  omega
theorem find_calls (w : World) (g gc : Nat) (c : List Int) (v : Int) (h : Mo w g gc c (sumI c)) (hm : MOk c) (h0 : 0 ≤ v) (h1 : v < sumI c) : Calls Tryz.prog 199 #[.pointer (some ⟨g, 0, none⟩), .int .i64 v] w fun e w' => e = .returned (.tuple #[.int .i64 (findC c v), .int .i64 0]) ∧ w = w' := by
 have hu := Tryz.underlying305
 obtain ⟨x0, x1, f1⟩ := h.cell
 have b0 : decide (v < 0) = false := decide_eq_false (by omega)
 have b1 : decide (sumI c ≤ v) = false := decide_eq_false (by omega)
 have hs := hm.s
 go_enter Tryz.func199, Tryz.ntmps199
 go_wp2_with (go_step3)
 clear b0 b1 x0 x1 f1
 go_loopw [1, 28] (fun v1 v' wr => ∃ i : Nat, i ≤ 256 ∧ v1 = .int .i64 (v - sumI (c.take i)) ∧ v' = .int .i64 i ∧ (∀ j, j < i → gt c j ≤ v - sumI (c.take j)) ∧ w = wr) (fun _ v _ => 256 - (intV v).toNat)
 case atStart => exact ⟨0, by omega, by rw [List.take_zero]; show _ = Value.int _ (v - 0); rw [Int.sub_zero], rfl, fun j hj => by omega, rfl⟩
 case round =>
  obtain ⟨i, hi, rfl, rfl, HJ, rfl⟩ := hrel
  have hHJ := Aside0.mk HJ
  clear HJ
  rcases Nat.lt_or_ge i 256 with hlt | hge
  ·have hii : (i : Int) < 256 := by omega
   obtain ⟨y0, y1⟩ := h.at hlt
   have hs1 : sumI (c.take (i + 1)) = sumI (c.take i) + gt c i := sumI_take_succ c i (by rw [h.n]; omega)
   have b0 := sumI_bd hm i
   have b1 := sumI_bd hm (i + 1)
   by_cases hc : v - sumI (c.take i) < gt c i
   ·have hcb : decide (v - sumI (c.take i) < gt c i) = true := decide_eq_true hc
    have hf : findC c v = i := by
     have hg : gt c i = c[i]'(by rw [h.n]; omega) := by simp [gt, List.getD, List.getElem?_eq_getElem (show i < c.length by rw [h.n]; omega)]
     rw [hg] at hc
     rw [findC_drop c i v (by rw [h.n]; omega) hHJ.out, List.drop_eq_getElem_cons (show i < c.length by rw [h.n]; omega), findC, if_pos hc]
     rfl
    go_wp2_with (go_step3)
    rw [Exit.noGoto_ret]
    go_ret2
    rw [hf]
    exact ⟨rfl, rfl⟩
   ·have hcb : decide (v - sumI (c.take i) < gt c i) = false := decide_eq_false hc
    have e1 : v - sumI (c.take i) - gt c i = v - sumI (c.take (i + 1)) := by omega
    go_wp2_with (go_step3)
    go_roundw
    case rel => exact ⟨i + 1, by omega, by rw [hs1], rfl, fun j hj => by
     rcases Nat.lt_or_ge j i with h1 | h1
     ·exact hHJ.out j h1
     ·obtain rfl : j = i := by omega
      omega, trivial⟩
    case measure => simp [intV]; omega
  ·exfalso
   obtain rfl : i = 256 := by omega
   have e := findC_drop c 256 v (by rw [h.n]; omega) hHJ.out
   have := findC_lt c v h1 h0
   rw [h.n] at this
   omega
def halfI (c : List Int) (i : Nat) : List Int := halveC (c.take i) ++ c.drop i
theorem halfI_len (c : List Int) (i : Nat) : (halfI c i).length = c.length := by unfold halfI halveC; simp; omega
theorem halfI_set (c : List Int) (i : Nat) (h : i < c.length) : (halfI c i).set i ((gt c i + 1) / 2) = halfI c (i + 1) := by
 have hg : gt c i = c[i] := by simp [gt, List.getD, List.getElem?_eq_getElem h]
 unfold halfI halveC
 rw [List.set_append_right _ _ (by simp; omega), List.length_map, List.length_take, Nat.min_eq_left (by omega), Nat.sub_self, List.drop_eq_getElem_cons h, List.set_cons_zero, List.take_add_one, List.getElem?_eq_getElem h, List.map_append, List.append_assoc, hg]
 rfl
theorem halfI_at (c : List Int) (i : Nat) (h : i < c.length) : gt (halfI c i) i = gt c i := by
 unfold gt halfI halveC
 simp [List.getD, List.getElem?_append_right, List.length_take, Nat.min_eq_left (Nat.le_of_lt h), List.getElem?_drop]
theorem halve_calls (w0 w : World) (g gc : Nat) (c : List Int) (t : Int) (h : Mo w g gc c t) (hp : ∀ d ∈ c, 1 ≤ d) (hs : sumI c ≤ 8300) (hg : w0.heap.size ≤ g) (hgc : w0.heap.size ≤ gc) (hB : Below w0.heap.size w0 w) : Calls Tryz.prog 240 #[.pointer (some ⟨g, 0, none⟩)] w fun e w' => e = .returned (.tuple #[]) ∧ Mo w' g gc (halveC c) (sumI (halveC c)) ∧ Below w0.heap.size w0 w' ∧ Kept w w' (fun k => k = g ∨ k = gc) := by
 have hu := Tryz.underlying305
 obtain ⟨x0, x1, f1⟩ := h.cell
 go_enter Tryz.func240, Tryz.ntmps240
 go_upto_region 1 with (fail)
 have h1 := h.setT 0
 have hB1 := below_set (j := 1) (v := .int .i64 0) hB hg
 have hK1 : Kept w (w.setCell ⟨g, 1, none⟩ (.int .i64 0)) (fun k => k = g ∨ k = gc) := (Kept.refl w _).setCell (.inl (.inl rfl)) _
 obtain ⟨w1, hw1⟩ : ∃ w1, w1 = w.setCell ⟨g, 1, none⟩ (.int .i64 0) := ⟨_, rfl⟩
 rw [← hw1] at h1 hB1 hK1 ⊢
 clear x0 x1 f1 hw1
 obtain ⟨x0, x1, f1⟩ := h1.cell
 go_wp2
 clear x0 x1 f1
 go_loopw [12] (fun v wr => ∃ i : Nat, i ≤ 256 ∧ v = .int .i64 i ∧ Mo wr g gc (halfI c i) (sumI (halveC (c.take i))) ∧ Below w0.heap.size w0 wr ∧ Kept w wr (fun k => k = g ∨ k = gc)) (fun v _ => 256 - (intV v).toNat)
 case atStart => exact ⟨0, by omega, rfl, by simpa [halfI, halveC, sumI] using h1, hB1, hK1⟩
 case round =>
  clear h1 hB1 hK1
  obtain ⟨i, hi, rfl, hM, hb, hk⟩ := hrel
  obtain ⟨x0, x1, f1⟩ := hM.cell
  rcases Nat.lt_or_ge i 256 with hlt | hge
  ·have hii : (i : Int) < 256 := by omega
   obtain ⟨y0, y1⟩ := hM.at hlt
   have hil : i < c.length := by rw [h.n]; exact hlt
   rw [halfI_at c i hil] at y0
   have hgp : 1 ≤ gt c i ∧ gt c i ≤ 8300 := by
    have e := sumI_take_succ c i hil
    have e2 := sumI_append (c.take (i + 1)) (c.drop (i + 1))
    rw [List.take_append_drop] at e2
    have n1 := sumI_nn (c.drop (i + 1)) (fun d hd => hp d (List.mem_of_mem_drop hd))
    have n2 := sumI_nn (c.take i) (fun d hd => hp d (List.mem_of_mem_take hd))
    have := getD_pos hp hil
    have e3 : gt c i = c.getD i 0 := rfl
    omega
   have hq : (gt c i + 1).tdiv 2 = (gt c i + 1) / 2 := Int.tdiv_eq_ediv_of_nonneg (by omega)
   have hset := halfI_set c i hil
   have hadd : sumI (halveC (c.take (i + 1))) = sumI (halveC (c.take i)) + (gt c i + 1) / 2 := by
    have e3 : gt c i = c.getD i 0 := rfl
    unfold halveC
    rw [List.take_add_one, List.getElem?_eq_getElem hil, List.map_append, sumI_append]
    simp [sumI, e3, List.getD, List.getElem?_eq_getElem hil]
   have hbd : 0 ≤ sumI (halveC (c.take i)) ∧ sumI (halveC (c.take i)) ≤ 8300 := by
    have n1 := sumI_nn (halveC (c.take i)) (fun d hd => halveC_pos (fun x hx => hp x (List.mem_of_mem_take hx)) d hd)
    have n2 := halveC_le (c.take i)
    have n3 := sumI_take_le c hp i
    have n4 : (c.take i).length ≤ 256 := by rw [List.length_take]; omega
    omega
   go_upto_region 5 with (fail)
   have h2 := hM.setC i ((gt c i + 1) / 2)
   have hb2 := below_set (j := i) (v := .int .i64 ((gt c i + 1) / 2)) hb hgc
   have hk2 := hk.setCell (p := ⟨gc, i, none⟩) (.inl (.inr rfl)) (.int .i64 ((gt c i + 1) / 2))
   rw [hset] at h2
   generalize wr.setCell ⟨gc, i, none⟩ (.int .i64 ((gt c i + 1) / 2)) = w2 at h2 hb2 hk2 ⊢
   clear x0 x1 f1 y0 y1 hM hb hk hB hq
   obtain ⟨x0, x1, f1⟩ := h2.cell
   obtain ⟨y0, y1⟩ := h2.at hlt
   have e4 : gt (halfI c (i + 1)) i = (gt c i + 1) / 2 := by rw [← hset]; simp [gt, List.getD, halfI_len, hil]
   rw [e4] at y0
   go_still_tail 14, (by kernel_rfl)
   change wpList _ _ _ _ _ w2.drew
   have h3 : Mo w2.drew g gc (halfI c (i + 1)) (sumI (halveC (c.take i))) := ⟨h2.ne, h2.hm, h2.hc, h2.n⟩
   have hb3 := below_drew hb2
   have hk3 := hk2.drew
   generalize w2.drew = w3 at h3 hb3 hk3 ⊢
   clear x0 x1 f1 y0 y1 h2 hb2 hk2
   obtain ⟨x0, x1, f1⟩ := h3.cell
   have h4 := h3.setT (sumI (halveC (c.take i)) + (gt c i + 1) / 2)
   rw [← hadd] at h4
   go_wp2
   go_roundw
   case rel => exact ⟨i + 1, by omega, rfl, by rw [hadd] at h4 ⊢; exact h4, below_set hb3 hg, hk3.setCell (.inl (.inl rfl)) _⟩
   case measure => simp [intV]; omega
  ·obtain rfl : i = 256 := by omega
   have e1 : halfI c 256 = halveC c := by unfold halfI; rw [List.take_of_length_le (by rw [h.n]; omega), List.drop_of_length_le (by rw [h.n]; omega), List.append_nil]
   rw [e1, List.take_of_length_le (by rw [h.n]; omega)] at hM
   go_wp2
   go_returns
   exact ⟨rfl, hM, hb, hk⟩
end Go.Proofs.YtbdbobjdlomjnaaGreatDoor.Ec
