/- slices.Backward over whole numbers, what its closure hands to a loop's body: after the kit's worked text on slices.All, the other way round. No condition. -/
import Derived.RangeFuncNested
import Derived.RangeFuncBound
import Derived.RangeFuncCalls
import Derived.RangeFuncBox
import Derived.Maps.AppendAt
import Derived.RangeFuncLeaves
import Derived.Shelf.Abstract
import Derived.Shelf.RegionOpen
import Derived.WalkKit
import Derived.OwnWalkIn
import Derived.TacticsInMore
import Derived.LoopNIn
import Derived.LoopIn
import Derived.Test.YtfbkjgedaadlmaaProg
import Derived.Test.YtfbkjgedaadlmaaV0
namespace Go.Proofs.Ytfbkjgedaadlmaa.F
set_option linter.unusedVariables false
open Go.RowKit Go.Shelf
attribute [local go_sem] Oper.semAt_some

theorem addb (a : Addr) (i : Nat) : (a.add i).block = a.block := by unfold Addr.add; split <;> rfl
/-- What comes k-th of len numbers from behind. -/
def nth (zs : List Int) (len : Nat) (j : Nat) : Nat × Int := (len - 1 - j, zs[len - 1 - j]?.getD 0)
def upto {α : Type} (f : Nat → α) (k : Nat) : List α := (List.range k).map f
theorem upto_succ {α : Type} (f : Nat → α) (k : Nat) : upto f (k + 1) = upto f k ++ [f k] := by simp [upto, List.range_succ]
theorem upto_length {α : Type} (f : Nat → α) (k : Nat) : (upto f k).length = k := by simp [upto]

/-- What lay below n₀ is as it was, and so is the box B. -/
def Keep (n₀ B : Nat) (W W' : World) : Prop := Below n₀ W W' ∧ ∀ v, Boxed W B 26 v → Boxed W' B 26 v
theorem Keep.refl (n₀ B : Nat) (W : World) : Keep n₀ B W W := ⟨Below.refl _ _, fun _ h => h⟩
theorem Keep.trans {n₀ B : Nat} {X Y Z : World} (h : Keep n₀ B X Y) (k : Keep n₀ B Y Z) : Keep n₀ B X Z := ⟨h.1.trans k.1, fun v hv => k.2 v (h.2 v hv)⟩
theorem Keep.put {n₀ B : Nat} {w : World} (hn : n₀ ≤ w.heap.size) (W : World) (l : Nat) (o o' : Obj) (hl : w.heap.size ≤ l) (h : W.heap[l]? = some o) (hc : o.isCells = false) (hw : o.isWalk = false) : Keep n₀ B W (W.putObj l o') := by
  refine ⟨belowK_b hn W l o o' hl h hc hw, fun v hv => hv.kept (grownBy_putObj' W l o') (fun e => ?_)⟩
  cases e
  rw [show W.heap[B]? = _ from hv] at h; cases h; cases hc

set_option maxRecDepth 100000 in
set_option maxHeartbeats 2000000 in
theorem back1_in (F : Fence) (n : Nat) (h8 : F.fn 31) (hro : F.round = none) (hn : 1 ≤ n) (l Bs n₀ len cap : Nat) (ad : Addr) (zs : List Int) (hreach : len * 8 ≤ 140737488355328) (hb : ad.block < n₀) (J Jx : List (Nat × Int) → World → Prop)
    (hY : ∀ pre x W, J pre W → pre.length < len → YieldAt F (n - 1) Try.prog l #[.int .i64 (x.1 : Int), .int .i64 x.2] W fun e W' =>
      (e = .returned (.bool true) ∧ J (pre ++ [x]) W' ∧ Keep n₀ Bs W W') ∨ (e = .returned (.bool false) ∧ Jx (pre ++ [x]) W'))
    (W : World) (hBs : Boxed W Bs 26 (.slice (some ad) len cap)) (hc : ∀ j, j < len → W.cell? (ad.add j) = some (.int .i64 (zs[j]?.getD 0))) (h0 : J [] W) :
    CallsIn F n Try.prog 31 #[.func (.yield l) #[] #[], .pointer (some ⟨Bs, 0, none⟩)] W fun e W' => (∃ v, e = .returned v) ∧
      ((∃ ys, ys = upto (nth zs len) len ∧ J ys W') ∨ (∃ pre, (∃ k, k ≤ len ∧ pre = upto (nth zs len) k) ∧ Jx pre W')) := by
  refine callsIn_of_wp Try.func31 rfl h8 ?_ hro
  simp only [Try.ntmps31, List.size_toArray, List.length_cons, List.length_nil, Nat.reduceAdd, Nat.reduceSub, Array.replicate_succ, Array.replicate_zero, List.push_toArray, List.append_toArray, List.nil_append, List.cons_append]
  have hBs0 := hBs.cell
  gi_wp2
  gi_loopw [3] (fun i wr => ∃ m : Nat, m ≤ len ∧ i = .int .i64 ((m : Int) - 1) ∧ J (upto (nth zs len) (len - m)) wr ∧ Keep n₀ Bs W wr)
    (fun i _ => (intOf i + 1).toNat)
  case atStart => exact ⟨len, Nat.le_refl _, by first | (congr 1; done) | (congr 1; unfold wrap64; omega), by rw [Nat.sub_self]; exact h0, Keep.refl _ _ _⟩
  case round =>
    obtain ⟨m, hm, rfl, hJs, hnx⟩ := hrel
    cases m with
    | succ m =>
      have e1 : ((m + 1 : Nat) : Int) - 1 = (m : Int) := by omega
      rw [e1]
      have hBs' := (hnx.2 _ hBs).cell
      have hcx' : wr.cell? (ad.add m) = some (.int .i64 (zs[m]?.getD 0)) := (hnx.1.cell (p := ad.add m) (by rw [addb]; exact hb)).trans (hc m (by omega))
      have hf : nth zs len (len - (m + 1)) = (m, zs[m]?.getD 0) := by unfold nth; rw [show len - 1 - (len - (m + 1)) = m by omega]
      obtain ⟨fn, tmps, assign, body, hy, hR⟩ := hY _ (m, zs[m]?.getD 0) wr hJs (by rw [upto_length]; omega)
      dsimp only at hy
      rw [← hf, ← upto_succ, show len - (m + 1) + 1 = len - m by omega] at hR
      gi_wp2
      refine hR.mono ?_
      rintro e W3 (⟨rfl, hJ3, hk3⟩ | ⟨rfl, hJx3⟩)
      · gi_wp2
        go_roundw
        case rel => exact ⟨m, by omega, by first | (congr 1; done) | (congr 1; unfold wrap64; omega), hJ3, hnx.trans hk3⟩
        case measure => first | (simp [intOf]; done) | (simp [intOf]; omega)
      · gi_wp2
        refine bodyPost_ret (results_none rfl _ _ _) rfl ?_
        exact ⟨⟨_, rfl⟩, .inr ⟨_, ⟨len - m, by omega, rfl⟩, hJx3⟩⟩
    | zero =>
      gi_wp2
      go_end0
      exact ⟨⟨_, rfl⟩, .inl ⟨_, rfl, hJs⟩⟩

set_option maxRecDepth 100000 in
set_option maxHeartbeats 1000000 in
/-- .. of nothing: no round. -/
theorem back0_in (F : Fence) (n : Nat) (h8 : F.fn 31) (hro : F.round = none) (l Bs cap : Nat) (A : Option Addr) (J : List (Nat × Int) → World → Prop) (W : World) (hBs : W.cell? ⟨Bs, 0, none⟩ = some (.slice A 0 cap)) (h0 : J [] W) :
    CallsIn F n Try.prog 31 #[.func (.yield l) #[] #[], .pointer (some ⟨Bs, 0, none⟩)] W fun e W' => (∃ v, e = .returned v) ∧ J [] W' := by
  refine callsIn_of_wp Try.func31 rfl h8 ?_ hro
  simp only [Try.ntmps31, List.size_toArray, List.length_cons, List.length_nil, Nat.reduceAdd, Nat.reduceSub, Array.replicate_succ, Array.replicate_zero, List.push_toArray, List.append_toArray, List.nil_append, List.cons_append]
  gi_wp2
  gi_loopw [3] (fun i wr => i = .int .i64 (-1) ∧ J [] wr) (fun _ _ => 0)
  case atStart => exact ⟨by first | rfl | (congr 1; done) | (congr 1; unfold wrap64; omega), h0⟩
  case round =>
    obtain ⟨rfl, hJs⟩ := hrel
    gi_wp2
    go_end0
    exact ⟨⟨_, rfl⟩, hJs⟩

set_option maxHeartbeats 1000000 in
/-- slices.Backward(s): the slice is boxed; the function value captures the box. -/
theorem back_in (F : Fence) (n : Nat) (h6 : F.fn 23) (hro : F.round = none) (a : Option Addr) (len cap : Nat) (w : World) :
    CallsIn F n Try.prog 23 #[.slice a len cap] w fun e w' => e = .returned (.func (.func 31) #[] #[.pointer (some ⟨w.heap.size, 0, none⟩)]) ∧ w' = w.alloc (.cells #[.slice a len cap] 26) := by
  refine callsIn_of_wp Try.func23 rfl h6 ?_ hro
  simp only [Try.ntmps23, List.size_toArray, List.length_cons, List.length_nil, Nat.reduceAdd, Nat.reduceSub, Array.replicate_succ, Array.replicate_zero, List.push_toArray, List.append_toArray, List.nil_append, List.cons_append]
  gi_wp2
  go_ret
  exact ⟨rfl, rfl⟩

/-- The slice value sv holds the numbers zs, in a block below n₀; or there are none. -/
def Ints (n₀ : Nat) (W : World) (sv : Value) (zs : List Int) : Prop :=
  (∃ A cap, sv = .slice A 0 cap ∧ zs = []) ∨ ∃ ad cap, sv = .slice (some ad) zs.length cap ∧ ad.block < n₀ ∧ ∀ j, j < zs.length → W.cell? (ad.add j) = some (.int .i64 (zs[j]?.getD 0))
theorem Ints.below {n₀ : Nat} {A B : World} (h : Below n₀ A B) {sv : Value} {zs : List Int} : Ints n₀ A sv zs → Ints n₀ B sv zs
  | .inl e => .inl e
  | .inr ⟨ad, cap, e, hb, hc⟩ => .inr ⟨ad, cap, e, hb, fun j hj => (h.cell (p := ad.add j) (by rw [addb]; exact hb)).trans (hc j hj)⟩

theorem back_stops (F : Fence) (n : Nat) (h8 : F.fn 31) (hro : F.round = none) (hn : 1 ≤ n) (Bs n₀ : Nat) (sv : Value) (zs : List Int) (hreach : zs.length * 8 ≤ 140737488355328) (w : World) (hBs : Bs < w.heap.size) (hn₀ : n₀ ≤ w.heap.size)
    (hc : Boxed w Bs 26 sv) (hI : Ints n₀ w sv zs) :
    SeqStopsK F n Try.prog 31 #[.pointer (some ⟨Bs, 0, none⟩)] (fun x : Nat × Int => #[Value.int .i64 (x.1 : Int), Value.int .i64 x.2]) (Keep n₀ Bs) (fun ys => ys = upto (nth zs zs.length) zs.length)
      (fun pre => ∃ k, k ≤ zs.length ∧ pre = upto (nth zs zs.length) k) zs.length w := fun l J Jx W hW _ _ hY h0 => by
  have hc' : Boxed W Bs 26 sv := (hW.block Bs hBs).trans hc
  rcases hI.below (hW.mono hn₀) with ⟨A, cap, rfl, rfl⟩ | ⟨ad, cap, rfl, hb, hcs⟩
  · exact (back0_in F n h8 hro l Bs cap A J W hc'.cell h0).mono fun e W' ⟨he, hj⟩ => ⟨he, .inl ⟨_, rfl, hj⟩⟩
  · exact back1_in F n h8 hro hn l Bs n₀ zs.length cap ad zs hreach hb J Jx hY W hc' hcs h0

theorem info3 : (Try.prog.info? 3).map (fun i => (i.zero, i.size, i.bytes)) = some (some (.int .i64 0), 1, 8) := by kernel_rfl
def put (pre : List (Nat × Int)) : List Int := pre.map fun x => Go.bits .xor .i64 (-1) x.2
theorem put_snoc (pre : List (Nat × Int)) (x : Nat × Int) : put (pre ++ [x]) = put pre ++ [Go.bits .xor .i64 (-1) x.2] := by simp [put]

set_option maxRecDepth 100000 in
set_option maxHeartbeats 2000000 in
theorem flip_in (F : Fence) (n : Nat) (h3 : F.fn 16) (h5 : F.fn 23) (h7 : F.fn 31) (hro : F.round = none) (hn : 3 ≤ n) (a : Option Addr) (len cap : Nat) (zs : List Int) (hreach : zs.length * 8 ≤ 140737488355328) (w : World) (hI : Ints w.heap.size w (.slice a len cap) zs) :
    CallsIn F n Try.prog 16 #[.slice a len cap] w fun e W' => ∃ v, e = .returned v ∧ W'.ownsRow w.heap.size 3 1 v (put (upto (nth zs zs.length) zs.length)).length ((put (upto (nth zs zs.length) zs.length)).map (Value.int .i64)) ∧ Below w.heap.size w W' := by
  have h1 : 1 ≤ n := by omega
  obtain ⟨i0, hi, hz0, hz1, hz2⟩ := info_parts info3
  refine callsIn_of_wp_marks Try.func16 rfl h3 ?_ hro
  simp only [Try.ntmps16, List.size_toArray, List.length_cons, List.length_nil, Nat.reduceAdd, Nat.reduceSub, Array.replicate_succ, Array.replicate_zero, List.push_toArray, List.append_toArray, List.nil_append, List.cons_append]
  gi_wp2_with (gi_at_call 23; refine (back_in F (n - 1) h5 hro _ _ _ _).mono ?_; rintro e w' ⟨rfl, rfl⟩)
  have bO := Boxed.new w 26 (.slice none 0 0)
  have bN := Boxed.new (w.alloc (.cells #[.slice none 0 0] 26)) 26 (.slice a len cap)
  rw [World.size_alloc] at bN
  have hB0 : Below w.heap.size w ((w.alloc (.cells #[.slice none 0 0] 26)).alloc (.cells #[.slice a len cap] 26)) := ((Below.refl _ w).alloc (Nat.le_refl _) _).alloc (by simp) _
  refine wpIn_rangeFunc_ownG hro h1 (gf := 31) (lb := #[.pointer (some ⟨w.heap.size + 1, 0, none⟩)]) rfl h7 (enters_of Try.func31 (by kernel_rfl) rfl)
    (back_stops F (n - 1) h7 hro (by omega) (w.heap.size + 1) w.heap.size _ zs hreach _ (by simp) (by simp; omega) bN (hI.below hB0)) Keep.trans (Keep.put (by simp; omega)) (Below.refl _ _) (fun _ => rfl)
    (fun pre W => (∃ v, Boxed W w.heap.size 26 v ∧ W.ownsRow w.heap.size 3 1 v (put pre).length ((put pre).map (Value.int .i64)) ∧ True) ∧ Below w.heap.size w W)
    (fun _ _ _ => False)
    (OwnFrom.and (Own.from (holdsRow_own w.heap.size w.heap.size 26 3 1 (fun pre => (put pre).length) (fun pre => (put pre).map (Value.int .i64)) (fun pre v => True)) _) (ownFrom_below (Nat.le_refl _) (by simp; omega)))
    (fun _ _ _ _ _ hs _ _ => hs)
    ⟨⟨_, bO.alloc _, World.ownsRow_nil _ _ _ _, trivial⟩, hB0⟩
    (fun x => { tmps := #[.slice a len cap, undef, .slice none 0 0, .pointer (some ⟨w.heap.size, 0, none⟩), undef, .int .i64 x.2, .slice a len cap, .func (.func 31) #[] #[.pointer (some ⟨w.heap.size + 1, 0, none⟩)], .int .i64 (x.1 : Int), .int .i64 x.2, undef, undef, undef, undef, undef, undef], defers := [] }) ?assign ?body ?done ?stop
  case assign =>
    intro l x W K hK
    gi_wp2
    exact hK
  case body =>
    rintro l pre x W ⟨⟨v, hv, hrow, _⟩, hB⟩ hlt
    have hc := hv.cell
    have hpl : (put pre).length ≤ pre.length := by simp [put]
    gi_wp2_with (gi_at_builtin; refine wpListIn_append_own _ rfl _ _ 26 rfl w.heap.size 3 i0 (.int .i64 0) 1 8 Try.underlying26 hi hz0 hz1 hz2 rfl (by decide) _ _ _ rfl (hrow.alloc _) ⟨W.heap.size, 0, none⟩ 1 1 [.int .i64 (Go.bits .xor .i64 (-1) x.2)] rfl rfl (cell_one_new _ _ _) (by simp [Value.oneCell']) (by first | omega | (simp only [maxLen]; omega) | (show _ ≤ 9223372036854775807; omega)) (by omega) (by have := hB.size; simp; omega) ?_; intro v' w1 hown' hgrow _; obtain ⟨g', cap', rfl⟩ := ownsRow_succ hown'; obtain ⟨hv1, hv2, hr2, hk2, hb2⟩ := hv.appended (by decide) hrow hB.size (Nat.le_refl _) hown' hgrow; have hc1 := hv1.cell; have hf1 := hv1.frozen)
    refine ⟨hk2.from _, ⟨hb2, fun u hu => ?_⟩, ⟨_, hv2, by rw [put_snoc]; simpa using hr2⟩, hB.trans hb2⟩
    refine (((hu.alloc _).kept hgrow (hu.not_row (by decide) hrow)).kept (grownBy_setCell' _ _ _) (fun e => ?_))
    injection e with e
    omega
  case done =>
    rintro D ys W hD rfl ⟨⟨v, hv, hrow, _⟩, hB⟩ hK
    have hc := hv.cell
    gi_wp2
    refine ⟨by simp, .inl ⟨_, _, rfl, run_takeDeferred hK, ?_⟩⟩
    exact ⟨_, results_tmp rfl _ _ _, v, rfl, ownsRow_putObj hrow _ hK rfl, hB.trans (belowK_b (w := w) (Nat.le_refl _) W D _ _ (by simp at hD; omega) hK rfl rfl)⟩
  case stop =>
    rintro D c pre W _ _ h _
    exact h.elim

open Go.Proofs.YtfbkjgedaadlmaaW.PrintWords
theorem ints_of {A : Option Addr} {c : Nat} {l : List Int} {w : World} (h : Kd.C (Kd.int .i64) w A l.length l) : Ints w.heap.size w (.slice A l.length c) l := by
  cases l with
  | nil => exact .inl ⟨A, c, rfl, rfl⟩
  | cons x l =>
    obtain ⟨ad, rfl, hc⟩ := h.2.2 (by simp)
    have key : ∀ j, j < (x :: l).length → w.cell? (ad.add j) = some (.int .i64 ((x :: l)[j]?.getD 0)) := by
      intro j hj
      have hj' : (x :: l)[j]? = some (x :: l)[j] := List.getElem?_eq_getElem hj
      obtain ⟨cs, hl, hk, hr⟩ := hc j _ hj'
      rw [hj']
      have := hr 0 (.int .i64 (x :: l)[j]) (by rw [show cs = [.int .i64 (x :: l)[j]] from hk]; rfl)
      simpa [Kd.int, Kd.scalar] using this
    exact .inr ⟨ad, c, rfl, by have := World.block_lt_of_cell? w _ (key 0 (by simp)); rwa [addb] at this, key⟩
theorem put_rev (l : List Int) : put (upto (nth l l.length) l.length) = l.reverse.map fun x => Go.bits .xor .i64 (-1) x := by
  unfold put upto nth
  apply List.ext_getElem
  · simp
  · intro i h1 h2
    simp at h1
    simp only [List.getElem_map, List.getElem_range, List.getElem_reverse]
    rw [List.getElem?_eq_getElem (by omega)]
    rfl
theorem flip_calls (A : Option Addr) (c : Nat) (l : List Int) (w : World) (h : Kd.C (Kd.int .i64) w A l.length l) (hl : l.length < 17592186044416) :
    Calls Try.prog 16 #[.slice A l.length c] w fun e w' => ∃ v : Value, e = .returned v ∧ Kd.R (Kd.int .i64) 3 w' w.heap.size (fun _ => True) v (l.reverse.map fun x => Go.bits .xor .i64 (-1) x) ∧ Below w.heap.size w w' := by
  refine (callsIn_wide (n := 3)).1 ((flip_in _ 3 trivial trivial trivial rfl (by decide) A l.length c l (by omega) w (ints_of h)).mono ?_)
  rintro e W' ⟨v, rfl, hr, hb⟩
  rw [put_rev] at hr
  exact ⟨v, rfl, ⟨fun _ _ => trivial, _, hr, by
    refine ⟨by simp [Kd.int, Kd.scalar], fun j p hp => ?_⟩
    show ((List.map (Value.int .i64) (l.reverse.map fun x => Go.bits .xor .i64 (-1) x)).drop (j * 1)).take 1 = [Value.int .i64 p]
    generalize (l.reverse.map fun x => Go.bits .xor .i64 (-1) x) = ys at hp
    obtain ⟨hj, rfl⟩ := List.getElem?_eq_some_iff.1 hp
    rw [Nat.mul_one, List.drop_eq_getElem_cons (by simpa using hj)]
    simp⟩, hb⟩
end Go.Proofs.Ytfbkjgedaadlmaa.F