/- The checksum's register, in words of bits. No condition. -/
import Derived.Test.YtimdikfllbbdoaaCO
namespace Go.Proofs.Ytimdikfllbbdoaa.C
set_option linter.unusedVariables false
set_option linter.unusedSimpArgs false
open Go.RowKit

def poly : BitVec 32 := 0xEDB88320#32
def stepB (x : BitVec 32) : BitVec 32 := (x >>> 1) ^^^ (if x.getLsbD 0 then poly else 0#32)
def stepBn : Nat → BitVec 32 → BitVec 32
  | 0, x => x
  | n + 1, x => stepB (stepBn n x)
theorem stepB_xor (x y : BitVec 32) : stepB (x ^^^ y) = stepB x ^^^ stepB y := by
  unfold stepB
  rw [BitVec.getLsbD_xor, BitVec.ushiftRight_xor_distrib]
  apply BitVec.eq_of_getLsbD_eq
  intro i hi
  cases h1 : x.getLsbD 0 <;> cases h2 : y.getLsbD 0 <;> simp <;> cases (poly.getLsbD i) <;> simp
theorem stepBn_xor (n : Nat) (x y : BitVec 32) : stepBn n (x ^^^ y) = stepBn n x ^^^ stepBn n y := by
  induction n with
  | zero => rfl
  | succ n ih => unfold stepBn; rw [ih, stepB_xor]
theorem stepB_even (x : BitVec 32) (h : x.getLsbD 0 = false) : stepB x = x >>> 1 := by
  unfold stepB
  rw [h]
  simp
theorem stepBn_shift (x : BitVec 32) : ∀ k, (∀ j, j < k → x.getLsbD j = false) → stepBn k x = x >>> k := by
  intro k
  induction k with
  | zero => intro _; simp [stepBn]
  | succ k ih =>
    intro h
    unfold stepBn
    rw [ih (fun j hj => h j (by omega)), stepB_even _ (by rw [BitVec.getLsbD_ushiftRight]; exact h _ (by omega))]
    rw [BitVec.shiftRight_add]
theorem split8 (y : BitVec 32) : y = (y.setWidth 8).setWidth 32 ^^^ ((y >>> 8) <<< 8) := by
  apply BitVec.eq_of_getLsbD_eq
  intro i hi
  rw [BitVec.getLsbD_xor, BitVec.getLsbD_setWidth, BitVec.getLsbD_setWidth, BitVec.getLsbD_shiftLeft, BitVec.getLsbD_ushiftRight]
  by_cases h : i < 8
  · simp [h, hi]
  · simp [h, hi, show 8 + (i - 8) = i by omega]
theorem stepBn_8 (y : BitVec 32) : stepBn 8 y = (y >>> 8) ^^^ stepBn 8 ((y.setWidth 8).setWidth 32) := by
  conv => lhs; rw [split8 y, stepBn_xor]
  rw [stepBn_shift ((y >>> 8) <<< 8) 8 (fun j hj => by simp [hj]), BitVec.xor_comm]
  congr 1
  apply BitVec.eq_of_getLsbD_eq
  intro i hi
  simp
  intro h
  have : (y.getLsbD (8 + i)) = true → 8 + i < 32 := BitVec.lt_of_getLsbD
  have := this h
  omega
theorem ofInt_toNat (n : Nat) (x : BitVec n) : BitVec.ofInt n (x.toNat : Int) = x := by
  rw [BitVec.ofInt_natCast, BitVec.ofNat_toNat]; simp
theorem bits_xor32 (x y : BitVec 32) : Go.bits .xor .u32 (x.toNat : Int) (y.toNat : Int) = ((x ^^^ y).toNat : Int) := by
  unfold Go.bits
  show IntKind.u32.wrap (((BitVec.ofInt 32 (x.toNat : Int)) ^^^ (BitVec.ofInt 32 (y.toNat : Int))).toNat : Int) = _
  rw [ofInt_toNat, ofInt_toNat]
  have := (x ^^^ y).isLt
  show ((x ^^^ y).toNat : Int) % 4294967296 = _
  omega
theorem bits_and32 (x y : BitVec 32) : Go.bits .and .u32 (x.toNat : Int) (y.toNat : Int) = ((x &&& y).toNat : Int) := by
  unfold Go.bits
  show IntKind.u32.wrap (((BitVec.ofInt 32 (x.toNat : Int)) &&& (BitVec.ofInt 32 (y.toNat : Int))).toNat : Int) = _
  rw [ofInt_toNat, ofInt_toNat]
  have := (x &&& y).isLt
  show ((x &&& y).toNat : Int) % 4294967296 = _
  omega
theorem bits_xor8 (x y : BitVec 8) : Go.bits .xor .u8 (x.toNat : Int) (y.toNat : Int) = ((x ^^^ y).toNat : Int) := by
  unfold Go.bits
  show IntKind.u8.wrap (((BitVec.ofInt 8 (x.toNat : Int)) ^^^ (BitVec.ofInt 8 (y.toNat : Int))).toNat : Int) = _
  rw [ofInt_toNat, ofInt_toNat]
  have := (x ^^^ y).isLt
  show ((x ^^^ y).toNat : Int) % 256 = _
  omega
theorem and_one (x : BitVec 32) : poly &&& -(x &&& 1#32) = if x.getLsbD 0 then poly else 0#32 := by
  rw [BitVec.and_one_eq_setWidth_ofBool_getLsbD]
  cases x.getLsbD 0
  · decide
  · decide
theorem step_eq (x : BitVec 32) : step (x.toNat : Int) = ((stepB x).toNat : Int) := by
  unfold step stepB
  rw [← and_one]
  have h1 : Go.bits .and .u32 (x.toNat : Int) 1 = ((x &&& 1#32).toNat : Int) := bits_and32 x 1#32
  have h2 : (-((x &&& 1#32).toNat : Int)) % 4294967296 = ((-(x &&& 1#32)).toNat : Int) := by
    rw [BitVec.toNat_neg]
    have := (x &&& 1#32).isLt
    omega
  have h3 : Go.bits .and .u32 3988292384 ((-(x &&& 1#32)).toNat : Int) = ((poly &&& -(x &&& 1#32)).toNat : Int) := bits_and32 poly _
  have h4 : (x.toNat : Int) / (2 : Int) = ((x >>> 1).toNat : Int) := by
    rw [BitVec.toNat_ushiftRight, Nat.shiftRight_eq_div_pow]; omega
  rw [h1, h2, h3, h4, bits_xor32]
theorem stepN_eq (x : BitVec 32) : ∀ n, stepN n (x.toNat : Int) = ((stepBn n x).toNat : Int) := by
  intro n
  induction n with
  | zero => rfl
  | succ n ih => unfold stepN stepBn; rw [ih, step_eq]
def cB (c : Int) : BitVec 32 := BitVec.ofNat 32 c.toNat
theorem add1_eq (x : BitVec 32) (c : Int) (h0 : 0 ≤ c) (h1 : c ≤ 255) : add1 (x.toNat : Int) c = ((stepBn 8 (x ^^^ cB c)).toNat : Int) := by
  obtain ⟨d, rfl⟩ := Int.eq_ofNat_of_zero_le h0
  have hd : (d : Int) = ((BitVec.ofNat 8 d).toNat : Int) := by
    rw [BitVec.toNat_ofNat]; omega
  unfold add1 idx
  have e1 : IntKind.u8.wrap (x.toNat : Int) = ((x.setWidth 8).toNat : Int) := by
    rw [BitVec.toNat_setWidth]
    show (x.toNat : Int) % 256 = _
    omega
  rw [e1]
  have e2 : Go.bits .xor .u8 ((x.setWidth 8).toNat : Int) (d : Int) = ((x.setWidth 8 ^^^ BitVec.ofNat 8 d).toNat : Int) := by
    conv => lhs; rw [hd]
    exact bits_xor8 _ _
  rw [e2]
  have e3 : tabV (((x.setWidth 8 ^^^ BitVec.ofNat 8 d).toNat : Int).toNat) = ((stepBn 8 ((x.setWidth 8 ^^^ BitVec.ofNat 8 d).setWidth 32)).toNat : Int) := by
    unfold tabV
    rw [Int.toNat_natCast, ← stepN_eq]
    have h : ((x.setWidth 8 ^^^ BitVec.ofNat 8 d).setWidth 32).toNat = (x.setWidth 8 ^^^ BitVec.ofNat 8 d).toNat := by
      rw [BitVec.toNat_setWidth]
      have := (x.setWidth 8 ^^^ BitVec.ofNat 8 d).isLt
      exact Nat.mod_eq_of_lt (by omega)
    rw [h]
  have e4 : (x.toNat : Int) / (256 : Int) = ((x >>> 8).toNat : Int) := by
    rw [BitVec.toNat_ushiftRight, Nat.shiftRight_eq_div_pow]; omega
  rw [e3, e4, bits_xor32, stepBn_8 (x ^^^ cB (d : Int))]
  have f1 : (x ^^^ cB (d : Int)) >>> 8 = x >>> 8 := by
    apply BitVec.eq_of_getLsbD_eq
    intro i hi
    unfold cB
    have hz : d.testBit (8 + i) = false := Nat.testBit_lt_two_pow (Nat.lt_of_lt_of_le (show d < 2 ^ 8 by omega) (Nat.pow_le_pow_right (by decide) (by omega)))
    simp [BitVec.getLsbD_ofNat, hz]
  have f2 : (x ^^^ cB (d : Int)).setWidth 8 = x.setWidth 8 ^^^ BitVec.ofNat 8 d := by
    apply BitVec.eq_of_getLsbD_eq
    intro i hi
    unfold cB
    simp [BitVec.getLsbD_ofNat, hi]
    (try (intro _; omega))
  rw [f1, f2]
def regP (l : List Int) (x : BitVec 32) : BitVec 32 := l.foldl (fun x c => stepBn 8 (x ^^^ cB c)) x
theorem addV_eq : ∀ (l : List Int) (x : BitVec 32), (∀ c ∈ l, 0 ≤ c ∧ c ≤ 255) → addV l (x.toNat : Int) = ((regP l x).toNat : Int) := by
  intro l
  induction l with
  | nil => intro x _; rfl
  | cons c l ih =>
    intro x h
    show addV l (add1 _ c) = _
    rw [add1_eq x c (h c (by simp)).1 (h c (by simp)).2]
    exact ih _ (fun y hy => h y (List.mem_cons_of_mem _ hy))
theorem not32_eq (x : BitVec 32) : not32 (x.toNat : Int) = ((~~~x).toNat : Int) := by
  unfold not32
  have h : IntKind.u32.max = ((BitVec.allOnes 32).toNat : Int) := by decide
  rw [h, bits_xor32, BitVec.allOnes_xor]
theorem ofV_one (l : List Int) (h : ∀ c ∈ l, 0 ≤ c ∧ c ≤ 255) : ofV [l] = ((~~~(regP l (BitVec.allOnes 32))).toNat : Int) := by
  show not32 (addV l 4294967295) = _
  have := addV_eq l (BitVec.allOnes 32) h
  rw [show ((BitVec.allOnes 32).toNat : Int) = 4294967295 by decide] at this
  rw [this, not32_eq]
end Go.Proofs.Ytimdikfllbbdoaa.C
