/- Four bytes as a number; whether rows of bytes are the same; crc.Check, and the document's. No condition. -/
import Derived.Test.YtimdikfllbbdoaaPx28
import Derived.Test.YtimdikfllbbdoaaPx16
import Derived.Test.YtimdikfllbbdoaaCV
import Derived.Lib.Bytes
namespace Go.Proofs.Ytimdikfllbbdoaa.C
set_option linter.unusedVariables false
set_option linter.unusedSimpArgs false
open Go.RowKit Go.Proofs.Ytimdikfllbbdoaa.P Go.Proofs.YtimdikfllbbdoaaW.PrintWords Go.Proofs.YtimdikfllbbdoaaW.PrintLast Go.Proofs.YtimdikfllbbdoaaW.PrintMore

theorem bits_or64 (x y : BitVec 64) : Go.bits .or .u64 (x.toNat : Int) (y.toNat : Int) = ((x ||| y).toNat : Int) := by
  unfold Go.bits
  show IntKind.u64.wrap (((BitVec.ofInt 64 (x.toNat : Int)) ||| (BitVec.ofInt 64 (y.toNat : Int))).toNat : Int) = _
  rw [ofInt_toNat, ofInt_toNat]
  have := (x ||| y).isLt
  show ((x ||| y).toNat : Int) % 18446744073709551616 = _
  omega
theorem or64 (a c : Nat) (s : Nat) (ha : a < 2 ^ s) (hc : c < 256) (hs : s ≤ 24) : Go.bits .or .u64 (a : Int) (shl .u64 (IntKind.u64.wrap (c : Int)) (s : Int)) = ((a + c * 2 ^ s : Nat) : Int) := by
  have hp : 2 ^ s ≤ 2 ^ 24 := Nat.pow_le_pow_right (by decide) hs
  have hb : c * 2 ^ s < 2 ^ 32 := Nat.lt_of_lt_of_le (Nat.mul_lt_mul_of_lt_of_le hc hp (by decide)) (by decide)
  have e1 : shl .u64 (IntKind.u64.wrap (c : Int)) (s : Int) = ((c * 2 ^ s : Nat) : Int) := by
    unfold shl
    rw [Int.toNat_natCast, show min s IntKind.u64.bits = s from Nat.min_eq_left (Nat.le_trans hs (by decide))]
    have : IntKind.u64.wrap (c : Int) = (c : Int) := by
      show (c : Int) % 18446744073709551616 = _
      omega
    rw [this]
    have e : (c : Int) * 2 ^ s = ((c * 2 ^ s : Nat) : Int) := by push_cast; rfl
    rw [e]
    generalize c * 2 ^ s = q at *
    show (q : Int) % 18446744073709551616 = _
    omega
  have h1 : (BitVec.ofNat 64 a).toNat = a := by rw [BitVec.toNat_ofNat]; exact Nat.mod_eq_of_lt (by omega)
  have h2 : (BitVec.ofNat 64 (c * 2 ^ s)).toNat = c * 2 ^ s := by rw [BitVec.toNat_ofNat]; exact Nat.mod_eq_of_lt (by omega)
  have h := bits_or64 (BitVec.ofNat 64 a) (BitVec.ofNat 64 (c * 2 ^ s))
  rw [BitVec.toNat_or, h1, h2] at h
  rw [e1, h]
  congr 1
  rw [Nat.or_comm, ← Nat.shiftLeft_eq, ← Nat.shiftLeft_add_eq_or_of_lt ha, Nat.add_comm]
def le4 (b : List Int) (i : Nat) : Nat := cN b i + cN b (i + 1) * 256 + cN b (i + 2) * 65536 + cN b (i + 3) * 16777216
theorem rdN (b : List Int) (h : ∀ c ∈ b, 0 ≤ c ∧ c ≤ 255) (i : Nat) (hi : i < b.length) : rd b (i : Int) = (cN b i : Int) := by
  have := h _ (List.getElem_mem hi)
  unfold rd cN
  simp only [Int.toNat_natCast, List.getD, List.getElem?_eq_getElem hi, Option.getD_some]
  omega
theorem field_ev (b : List Int) (h : ∀ c ∈ b, 0 ≤ c ∧ c ≤ 255) (hl : b.length ≤ 140737488351232) (i : Nat) (hi : i + 4 ≤ b.length) : Ev (fun k => vint_Field.f k b (i : Int) 4) ((le4 b i : Int), 0) := by
  have hc := cN_lt b h
  unfold vint_Field.f
  simp only [if_neg (show ¬ ((4 : Int) < 1) by omega), if_neg (show ¬ ((4 : Int) > 8) by omega), decide_eq_false (show ¬ ((i : Int) < 0) by omega)]
  refine Ev.step (fun k => vint_Field.j0.eq_2 _ _ _ _ _) ?_
  simp only [Bool.false_eq_true, if_false, w64 (x := (b.length : Int) - 4) (by omega) (by omega), if_neg (show ¬ ((i : Int) > (b.length : Int) - 4) by omega)]
  have step : ∀ (j a : Nat) (R : Int × Int), j < 4 → a < 2 ^ (8 * j) → Ev (fun k => vint_Field.l0 k b (i : Int) ((a + cN b (i + j) * 2 ^ (8 * j) : Nat) : Int) 4 ((j + 1 : Nat) : Int)) R → Ev (fun k => vint_Field.l0 k b (i : Int) (a : Int) 4 (j : Int)) R := by
    intro j a R hj ha nx
    refine Ev.step (fun k => vint_Field.l0.eq_2 _ _ _ _ _ _) ?_
    have e : wrap64 ((i : Int) + (j : Int)) = ((i + j : Nat) : Int) := by rw [w64 (by omega) (by omega)]; omega
    have e8 : wrap64 (8 * (j : Int)) = ((8 * j : Nat) : Int) := by rw [w64 (by omega) (by omega)]; omega
    simp only [e, e8, if_pos (show (j : Int) < 4 by omega), if_pos (show (0 : Int) ≤ ((i + j : Nat) : Int) by omega), if_pos (show ((i + j : Nat) : Int) < (b.length : Int) by omega), if_pos (show (0 : Int) ≤ ((8 * j : Nat) : Int) by omega), rdN b h (i + j) (by omega), or64 a (cN b (i + j)) (8 * j) ha (hc _) (by omega), w64 (x := (j : Int) + 1) (by omega) (by omega)]
    exact nx
  have h0 := hc i; have h1 := hc (i + 1); have h2 := hc (i + 2); have h3 := hc (i + 3)
  refine step 0 0 _ (by omega) (by decide) ?_
  refine step 1 _ _ (by omega) (by simp only [Nat.add_zero]; omega) ?_
  refine step 2 _ _ (by omega) (by simp only [Nat.add_zero]; omega) ?_
  refine step 3 _ _ (by omega) (by simp only [Nat.add_zero]; omega) ?_
  refine Ev.step (fun k => vint_Field.l0.eq_2 _ _ _ _ _ _) ?_
  simp only [if_neg (show ¬ (((3 + 1 : Nat) : Int) < 4) by omega)]
  have e : (0 + cN b (i + 0) * 2 ^ (8 * 0) + cN b (i + 1) * 2 ^ (8 * 1) + cN b (i + 2) * 2 ^ (8 * 2) + cN b (i + 3) * 2 ^ (8 * 3) : Nat) = le4 b i := by
    unfold le4; simp
  rw [e]
  exact Ev.now _
theorem getN (b : List Int) (h : ∀ c ∈ b, 0 ≤ c ∧ c ≤ 255) (i : Nat) (hi : i < b.length) : b[i] = (cN b i : Int) := by
  have := h _ (List.getElem_mem hi)
  unfold cN
  simp only [List.getD, List.getElem?_eq_getElem hi, Option.getD_some]
  omega
theorem drop4 (b : List Int) (h : ∀ c ∈ b, 0 ≤ c ∧ c ≤ 255) (i : Nat) (hi : i + 4 = b.length) : b.drop i = [(cN b i : Int), (cN b (i + 1) : Int), (cN b (i + 2) : Int), (cN b (i + 3) : Int)] := by
  rw [List.drop_eq_getElem_cons (show i < b.length by omega), List.drop_eq_getElem_cons (show i + 1 < b.length by omega), List.drop_eq_getElem_cons (show i + 1 + 1 < b.length by omega), List.drop_eq_getElem_cons (show i + 1 + 1 + 1 < b.length by omega), List.drop_of_length_le (by omega)]
  rw [getN b h i (by omega), getN b h (i + 1) (by omega), getN b h (i + 1 + 1) (by omega), getN b h (i + 1 + 1 + 1) (by omega)]
def bytes4 (T : Int) : List Int := [(Int.tmod T 256) % 256, ((Int.tdiv T 256) % 4294967296) % 256, ((Int.tdiv T 65536) % 4294967296) % 256, ((Int.tdiv T 16777216) % 4294967296) % 256]
theorem bytes4_eq (T : Int) (h0 : 0 ≤ T) (h1 : T < 4294967296) : bytes4 T = [T % 256, T / 256 % 256, T / 65536 % 256, T / 16777216 % 256] := by
  unfold bytes4
  rw [Int.tmod_eq_emod_of_nonneg h0, Int.tdiv_eq_ediv_of_nonneg h0, Int.tdiv_eq_ediv_of_nonneg h0, Int.tdiv_eq_ediv_of_nonneg h0]
  rw [show T % 256 % 256 = T % 256 by omega, show T / 256 % 4294967296 % 256 = T / 256 % 256 by omega, show T / 65536 % 4294967296 % 256 = T / 65536 % 256 by omega, show T / 16777216 % 4294967296 % 256 = T / 16777216 % 256 by omega]
theorem same_self (a : List Int) : lapidaryref00_Same.f a a = some true := by unfold lapidaryref00_Same.f; simp
theorem byte_inj {x y : Int} (hx : 0 ≤ x ∧ x ≤ 255) (hy : 0 ≤ y ∧ y ≤ 255) (h : UInt8.ofNat x.toNat = UInt8.ofNat y.toNat) : x = y := by
  have := congrArg UInt8.toNat h
  rw [UInt8.toNat_ofNat', UInt8.toNat_ofNat'] at this
  omega
theorem same_list : ∀ (a b : List Int), (∀ c ∈ a, 0 ≤ c ∧ c ≤ 255) → (∀ c ∈ b, 0 ≤ c ∧ c ≤ 255) → (a.map fun n => UInt8.ofNat n.toNat) = (b.map fun n => UInt8.ofNat n.toNat) → a = b := by
  intro a
  induction a with
  | nil => intro b _ _ h; cases b with
    | nil => rfl
    | cons y t => simp at h
  | cons x s ih =>
    intro b ha hb h
    cases b with
    | nil => simp at h
    | cons y t =>
      rw [List.map_cons, List.map_cons] at h
      injection h with h1 h2
      rw [byte_inj (ha x (by simp)) (hb y (by simp)) h1, ih t (fun c hc => ha c (List.mem_cons_of_mem _ hc)) (fun c hc => hb c (List.mem_cons_of_mem _ hc)) h2]
theorem toList_map (a : List Int) : (strOfNums a).toList = a.map fun n => UInt8.ofNat n.toNat := Lib.strOfNums_toList a
theorem same_dec (a b : List Int) (ha : ∀ c ∈ a, 0 ≤ c ∧ c ≤ 255) (hb : ∀ c ∈ b, 0 ≤ c ∧ c ≤ 255) : lapidaryref00_Same.f a b = some (decide (a = b)) := by
  unfold lapidaryref00_Same.f
  rw [toList_map, toList_map]
  by_cases h : a = b
  · rw [decide_eq_true h, h]; simp
  · rw [decide_eq_false h]
    congr 1
    rw [beq_eq_false_iff_ne]
    intro hh
    exact h (same_list a b ha hb hh)
theorem seal_iff (b : List Int) (h : ∀ c ∈ b, 0 ≤ c ∧ c ≤ 255) (i : Nat) (hi : i + 4 = b.length) (T : Int) (h0 : 0 ≤ T) (h1 : T < 4294967296) : b.take i ++ bytes4 T = b ↔ (le4 b i : Int) = T := by
  have hc := cN_lt b h
  have c0 := hc i; have c1 := hc (i + 1); have c2 := hc (i + 2); have c3 := hc (i + 3)
  rw [bytes4_eq T h0 h1]
  conv => lhs; rhs; rw [← List.take_append_drop i b]
  rw [drop4 b h i hi, List.append_right_inj]
  simp only [List.cons.injEq, and_true]
  unfold le4
  omega
theorem ofV_range (l : List Int) (h : ∀ c ∈ l, 0 ≤ c ∧ c ≤ 255) : 0 ≤ ofV [l] ∧ ofV [l] < 4294967296 := by
  rw [ofV_one l h]
  have := (~~~(regP l (BitVec.allOnes 32))).isLt
  omega
/-- What is checked: the bytes ahead of the last four, or why not. -/
def chkV (b : List Int) : List Int × Int := if b.length < 4 then ([], 10) else if (le4 b (b.length - 4) : Int) = ofV [b.take (b.length - 4)] then (b.take (b.length - 4), 0) else ([], 30)
end Go.Proofs.Ytimdikfllbbdoaa.C
