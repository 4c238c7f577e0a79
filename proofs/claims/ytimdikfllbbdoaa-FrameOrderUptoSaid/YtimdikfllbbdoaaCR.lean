/- The document's checksum, bit by bit: the same register. No condition. -/
import Derived.Test.YtimdikfllbbdoaaCM
namespace Go.Proofs.Ytimdikfllbbdoaa.C
set_option linter.unusedVariables false
set_option linter.unusedSimpArgs false
open Go.RowKit

/-- The raw byte, behind the end 0; with the first four turned; the bit at place p. -/
def cN (b : List Int) (i : Nat) : Nat := (b.getD i 0).toNat
def vN (b : List Int) (i : Nat) : Nat := if i < 4 then cN b i ^^^ 255 else cN b i
def ob (b : List Int) (p : Nat) : Bool := (vN b (p / 8)).testBit (p % 8)
def top (o : Bool) : BitVec 32 := if o then 0x80000000#32 else 0#32
def regRun (b : List Int) : Nat → Nat → BitVec 32 → BitVec 32
  | _, 0, x => x
  | i, n + 1, x => regRun b (i + 1) n (stepB x ^^^ top (ob b (i + 32)))
def nB (c : Nat) : BitVec 32 := BitVec.ofNat 32 c
theorem cN_lt (b : List Int) (h : ∀ c ∈ b, 0 ≤ c ∧ c ≤ 255) (i : Nat) : cN b i < 256 := by
  unfold cN
  rcases Nat.lt_or_ge i b.length with hi | hi
  · have := h _ (List.getElem_mem hi)
    simp only [List.getD, List.getElem?_eq_getElem hi, Option.getD_some]
    omega
  · simp [List.getD, List.getElem?_eq_none hi]
/-- What comes in at the top while n bits are taken. -/
def inj (b : List Int) (i : Nat) : Nat → BitVec 32
  | 0 => 0#32
  | n + 1 => stepB (inj b i n) ^^^ top (ob b (i + n + 32))
theorem regRun_add (b : List Int) : ∀ (m n i : Nat) (x : BitVec 32), regRun b i (m + n) x = regRun b (i + m) n (regRun b i m x) := by
  intro m
  induction m with
  | zero => intro n i x; simp [regRun]
  | succ m ih =>
    intro n i x
    rw [show m + 1 + n = (m + n) + 1 by omega]
    show regRun b (i + 1) (m + n) (stepB x ^^^ top (ob b (i + 32))) = regRun b (i + (m + 1)) n (regRun b (i + 1) m (stepB x ^^^ top (ob b (i + 32))))
    rw [ih n (i + 1), show i + 1 + m = i + (m + 1) by omega]
theorem regRun_snoc (b : List Int) (i n : Nat) (x : BitVec 32) : regRun b i (n + 1) x = stepB (regRun b i n x) ^^^ top (ob b (i + n + 32)) := by
  rw [regRun_add]; rfl
theorem regRun_inj (b : List Int) (i : Nat) (x : BitVec 32) : ∀ n, regRun b i n x = stepBn n x ^^^ inj b i n := by
  intro n
  induction n with
  | zero => simp [regRun, stepBn, inj]
  | succ n ih =>
    rw [regRun_snoc, ih]
    show _ = stepB (stepBn n x) ^^^ (stepB (inj b i n) ^^^ top (ob b (i + n + 32)))
    rw [stepB_xor, BitVec.xor_assoc]
theorem top_get (o : Bool) (p : Nat) (hp : p < 32) : (top o).getLsbD p = (decide (p = 31) && o) := by
  unfold top
  cases o
  · simp
  · have : ∀ q : Fin 32, (0x80000000#32).getLsbD q.val = decide (q.val = 31) := by decide
    simpa using this ⟨p, hp⟩
theorem inj_get (b : List Int) (i : Nat) : ∀ n, n ≤ 8 → ∀ p, p < 32 → (inj b i n).getLsbD p = (decide (32 ≤ p + n) && ob b (i + 32 + (p + n - 32))) := by
  intro n
  induction n with
  | zero =>
    intro _ p hp
    rw [decide_eq_false (show ¬ 32 ≤ p + 0 by omega)]
    simp [inj]
  | succ n ih =>
    intro hn p hp
    have I := ih (by omega)
    have h0 : (inj b i n).getLsbD 0 = false := by
      rw [I 0 (by omega), decide_eq_false (show ¬ 32 ≤ 0 + n by omega)]
      simp
    unfold inj
    rw [stepB_even _ h0, BitVec.getLsbD_xor, BitVec.getLsbD_ushiftRight, top_get _ p hp]
    by_cases h31 : p = 31
    · subst h31
      rw [BitVec.getLsbD_of_ge _ _ (by omega)]
      simp only [decide_true, Bool.true_and, Bool.false_xor]
      rw [decide_eq_true (show 32 ≤ 31 + (n + 1) by omega), Bool.true_and]
      congr 1; omega
    · rw [I (1 + p) (by omega), decide_eq_false h31]
      simp only [Bool.false_and, Bool.xor_false]
      rw [show 1 + p + n = p + (n + 1) by omega]
theorem nB_get (c p : Nat) (hp : p < 32) : (nB c).getLsbD p = c.testBit p := by
  unfold nB
  rw [BitVec.getLsbD_ofNat]
  simp [hp]
theorem small_bit {c : Nat} (h : c < 256) (p : Nat) (hp : 8 ≤ p) : c.testBit p = false :=
  Nat.testBit_lt_two_pow (Nat.lt_of_lt_of_le (show c < 2 ^ 8 from h) (Nat.pow_le_pow_right (by decide) hp))
theorem nB_down (c : Nat) (h : c < 256) (s : Nat) (hs : s + 8 ≤ 24) : ((nB c) <<< (s + 8)) >>> 8 = (nB c) <<< s := by
  apply BitVec.eq_of_getLsbD_eq
  intro p hp
  rw [BitVec.getLsbD_ushiftRight, BitVec.getLsbD_shiftLeft, BitVec.getLsbD_shiftLeft]
  by_cases h1 : p < s
  · rw [decide_eq_true (show 8 + p < s + 8 by omega), decide_eq_true h1]; simp
  · rw [decide_eq_false (show ¬ 8 + p < s + 8 by omega), decide_eq_false h1, show 8 + p - (s + 8) = p - s by omega]
    by_cases h2 : 8 + p < 32
    · simp [h2, hp]
    · rw [nB_get _ _ (by omega), small_bit h _ (by omega)]; simp
theorem inj_eight (b : List Int) (h : ∀ c ∈ b, 0 ≤ c ∧ c ≤ 255) (j : Nat) : inj b (8 * j) 8 = (nB (cN b (j + 4))) <<< 24 := by
  apply BitVec.eq_of_getLsbD_eq
  intro p hp
  rw [inj_get b (8 * j) 8 (by omega) p hp, BitVec.getLsbD_shiftLeft]
  by_cases h1 : p < 24
  · rw [decide_eq_false (show ¬ 32 ≤ p + 8 by omega), decide_eq_true h1]; simp
  · rw [decide_eq_true (show 32 ≤ p + 8 by omega), decide_eq_false h1, decide_eq_true hp, nB_get _ _ (by omega)]
    simp only [Bool.true_and, Bool.not_false]
    unfold ob vN
    rw [show (8 * j + 32 + (p + 8 - 32)) / 8 = j + 4 by omega, show (8 * j + 32 + (p + 8 - 32)) % 8 = p - 24 by omega, if_neg (by omega)]
def W (b : List Int) (j : Nat) : BitVec 32 := nB (cN b j) ^^^ (nB (cN b (j + 1)) <<< 8) ^^^ (nB (cN b (j + 2)) <<< 16) ^^^ (nB (cN b (j + 3)) <<< 24)
theorem shl_low (c s j : Nat) (h : j < s) : (nB c <<< s).getLsbD j = false := by
  rw [BitVec.getLsbD_shiftLeft, decide_eq_true h]; simp
theorem block_step (b : List Int) (h : ∀ c ∈ b, 0 ≤ c ∧ c ≤ 255) (j : Nat) (P : BitVec 32) : regRun b (8 * j) 8 (P ^^^ W b j) = stepBn 8 (P ^^^ nB (cN b j)) ^^^ W b (j + 1) := by
  have hlt := cN_lt b h
  rw [regRun_inj, inj_eight b h]
  unfold W
  have e : P ^^^ (nB (cN b j) ^^^ nB (cN b (j + 1)) <<< 8 ^^^ nB (cN b (j + 2)) <<< 16 ^^^ nB (cN b (j + 3)) <<< 24) = (P ^^^ nB (cN b j)) ^^^ (nB (cN b (j + 1)) <<< 8) ^^^ (nB (cN b (j + 2)) <<< 16) ^^^ (nB (cN b (j + 3)) <<< 24) := by
    simp only [BitVec.xor_assoc]
  rw [e, stepBn_xor, stepBn_xor, stepBn_xor]
  rw [stepBn_shift (nB (cN b (j + 1)) <<< 8) 8 (fun q hq => shl_low _ _ _ (by omega)), stepBn_shift (nB (cN b (j + 2)) <<< 16) 8 (fun q hq => shl_low _ _ _ (by omega)), stepBn_shift (nB (cN b (j + 3)) <<< 24) 8 (fun q hq => shl_low _ _ _ (by omega))]
  have d1 := nB_down (cN b (j + 1)) (hlt _) 0 (by omega)
  have d2 := nB_down (cN b (j + 2)) (hlt _) 8 (by omega)
  have d3 := nB_down (cN b (j + 3)) (hlt _) 16 (by omega)
  rw [show 0 + 8 = 8 from rfl] at d1
  rw [show 8 + 8 = 16 from rfl] at d2
  rw [show 16 + 8 = 24 from rfl] at d3
  rw [d1, d2, d3]
  simp only [BitVec.shiftLeft_zero, BitVec.xor_assoc, show j + 1 + 1 = j + 2 by omega, show j + 1 + 2 = j + 3 by omega, show j + 1 + 3 = j + 4 by omega]
theorem blocks (b : List Int) (h : ∀ c ∈ b, 0 ≤ c ∧ c ≤ 255) : ∀ (n j : Nat) (P : BitVec 32), j + n = b.length → regRun b (8 * j) (8 * n) (P ^^^ W b j) = regP (b.drop j) P := by
  intro n
  induction n with
  | zero =>
    intro j P hj
    have hz : ∀ i, b.length ≤ i → cN b i = 0 := fun i hi => by unfold cN; simp [List.getD, List.getElem?_eq_none hi]
    rw [List.drop_of_length_le (by omega)]
    unfold W
    rw [hz j (by omega), hz (j + 1) (by omega), hz (j + 2) (by omega), hz (j + 3) (by omega)]
    show P ^^^ _ = P
    have : nB 0 = 0#32 := rfl
    rw [this]; simp
  | succ n ih =>
    intro j P hj
    rw [show 8 * (n + 1) = 8 + 8 * n by omega, regRun_add, block_step b h, show 8 * j + 8 = 8 * (j + 1) by omega, ih (j + 1) _ (by omega)]
    have hj' : j < b.length := by omega
    rw [List.drop_eq_getElem_cons hj']
    have e : nB (cN b j) = cB b[j] := by
      unfold nB cN cB
      simp [List.getD, List.getElem?_eq_getElem hj']
    rw [e]
    rfl
/-- The whole: the first four bytes, turned, stand in the register. -/
theorem whole (b : List Int) (h : ∀ c ∈ b, 0 ≤ c ∧ c ≤ 255) : regRun b 0 (8 * b.length) (BitVec.allOnes 32 ^^^ W b 0) = regP b (BitVec.allOnes 32) := by
  have := blocks b h b.length 0 (BitVec.allOnes 32) (by omega)
  simpa using this
theorem W0_get (b : List Int) (h : ∀ c ∈ b, 0 ≤ c ∧ c ≤ 255) (p : Nat) (hp : p < 32) : (BitVec.allOnes 32 ^^^ W b 0).getLsbD p = ob b p := by
  have hlt := cN_lt b h
  unfold W ob vN
  rw [if_pos (by omega), Nat.testBit_xor, BitVec.getLsbD_xor, BitVec.getLsbD_xor, BitVec.getLsbD_xor, BitVec.getLsbD_xor, BitVec.getLsbD_allOnes, BitVec.getLsbD_shiftLeft, BitVec.getLsbD_shiftLeft, BitVec.getLsbD_shiftLeft, nB_get _ _ hp, nB_get _ _ (show p - 8 < 32 by omega), nB_get _ _ (show p - 16 < 32 by omega), nB_get _ _ (show p - 24 < 32 by omega)]
  have h255 : ∀ q, q < 8 → (255 : Nat).testBit q = true := by
    intro q hq
    have : ∀ q : Fin 8, (255 : Nat).testBit q.val = true := by decide
    exact this ⟨q, hq⟩
  rw [h255 _ (by omega), decide_eq_true hp]
  simp only [Bool.true_and, Nat.zero_add]
  by_cases h1 : p < 8
  · rw [decide_eq_true h1, decide_eq_true (show p < 16 by omega), decide_eq_true (show p < 24 by omega), show p / 8 = 0 by omega, show p % 8 = p by omega]; simp [Bool.xor_comm]
  · rw [decide_eq_false h1, small_bit (hlt 0) p (by omega)]
    by_cases h2 : p < 16
    · rw [decide_eq_true h2, decide_eq_true (show p < 24 by omega), show p / 8 = 1 by omega, show p % 8 = p - 8 by omega]; simp [Bool.xor_comm]
    · rw [decide_eq_false h2, small_bit (hlt 1) (p - 8) (by omega)]
      by_cases h3 : p < 24
      · rw [decide_eq_true h3, show p / 8 = 2 by omega, show p % 8 = p - 16 by omega]; simp [Bool.xor_comm]
      · rw [decide_eq_false h3, small_bit (hlt 2) (p - 16) (by omega), show p / 8 = 3 by omega, show p % 8 = p - 24 by omega]; simp [Bool.xor_comm]
end Go.Proofs.Ytimdikfllbbdoaa.C
