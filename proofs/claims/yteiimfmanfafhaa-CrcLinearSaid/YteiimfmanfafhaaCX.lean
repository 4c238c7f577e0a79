/- The checksum is linear, but for its beginning: of three rows the xor's is the xor of theirs. No condition. -/
import Derived.Test.YteiimfmanfafhaaCM
namespace Go.Proofs.Yteiimfmanfafhaa.C
set_option linter.unusedVariables false
set_option linter.unusedSimpArgs false
open Go.RowKit

def x3 : List Int → List Int → List Int → List Int
  | a :: s, b :: t, c :: u => Go.bits .xor .u8 (Go.bits .xor .u8 a b) c :: x3 s t u
  | _, _, _ => []
theorem byte_xor (a b : Int) (ha : 0 ≤ a ∧ a ≤ 255) (hb : 0 ≤ b ∧ b ≤ 255) : (0 ≤ Go.bits .xor .u8 a b ∧ Go.bits .xor .u8 a b ≤ 255) ∧ cB (Go.bits .xor .u8 a b) = cB a ^^^ cB b := by
  obtain ⟨m, rfl⟩ := Int.eq_ofNat_of_zero_le ha.1
  obtain ⟨n, rfl⟩ := Int.eq_ofNat_of_zero_le hb.1
  have hm : (m : Int) = ((BitVec.ofNat 8 m).toNat : Int) := by rw [BitVec.toNat_ofNat]; omega
  have hn : (n : Int) = ((BitVec.ofNat 8 n).toNat : Int) := by rw [BitVec.toNat_ofNat]; omega
  have e : Go.bits .xor .u8 (m : Int) (n : Int) = ((m ^^^ n : Nat) : Int) := by
    have h := bits_xor8 (BitVec.ofNat 8 m) (BitVec.ofNat 8 n)
    rw [← hm, ← hn, BitVec.toNat_xor, BitVec.toNat_ofNat, BitVec.toNat_ofNat, Nat.mod_eq_of_lt (show m < 2 ^ 8 by omega), Nat.mod_eq_of_lt (show n < 2 ^ 8 by omega)] at h
    exact h
  rw [e]
  have hlt : m ^^^ n < 2 ^ 8 := Nat.xor_lt_two_pow (by omega) (by omega)
  refine ⟨⟨by omega, by omega⟩, ?_⟩
  unfold cB
  rw [Int.toNat_natCast, Int.toNat_natCast, Int.toNat_natCast]
  apply BitVec.eq_of_getLsbD_eq
  intro i hi
  rw [BitVec.getLsbD_xor, BitVec.getLsbD_ofNat, BitVec.getLsbD_ofNat, BitVec.getLsbD_ofNat, Nat.testBit_xor]
  simp [hi]
theorem regP_x3 : ∀ (a b c : List Int) (x y z : BitVec 32), a.length = b.length → a.length = c.length → (∀ v ∈ a, 0 ≤ v ∧ v ≤ 255) → (∀ v ∈ b, 0 ≤ v ∧ v ≤ 255) → (∀ v ∈ c, 0 ≤ v ∧ v ≤ 255) → regP (x3 a b c) (x ^^^ y ^^^ z) = regP a x ^^^ regP b y ^^^ regP c z := by
  intro a
  induction a with
  | nil =>
    intro b c x y z hb hc _ _ _
    cases b with
    | nil => cases c with
      | nil => rfl
      | cons _ _ => simp at hc
    | cons _ _ => simp at hb
  | cons p s ih =>
    intro b c x y z hb hc wa wb wc
    cases b with
    | nil => simp at hb
    | cons q t =>
      cases c with
      | nil => simp at hc
      | cons r u =>
        have h1 := byte_xor p q (wa p (by simp)) (wb q (by simp))
        have h2 := byte_xor (Go.bits .xor .u8 p q) r h1.1 (wc r (by simp))
        show regP (x3 s t u) (stepBn 8 (x ^^^ y ^^^ z ^^^ cB (Go.bits .xor .u8 (Go.bits .xor .u8 p q) r))) = regP s (stepBn 8 (x ^^^ cB p)) ^^^ regP t (stepBn 8 (y ^^^ cB q)) ^^^ regP u (stepBn 8 (z ^^^ cB r))
        rw [h2.2, h1.2]
        have e : x ^^^ y ^^^ z ^^^ (cB p ^^^ cB q ^^^ cB r) = (x ^^^ cB p) ^^^ (y ^^^ cB q) ^^^ (z ^^^ cB r) := by
          apply BitVec.eq_of_getLsbD_eq
          intro i hi
          simp only [BitVec.getLsbD_xor]
          cases x.getLsbD i <;> cases y.getLsbD i <;> cases z.getLsbD i <;> cases (cB p).getLsbD i <;> cases (cB q).getLsbD i <;> cases (cB r).getLsbD i <;> rfl
        rw [e, stepBn_xor, stepBn_xor]
        exact ih t u _ _ _ (by simpa using hb) (by simpa using hc) (fun v hv => wa v (List.mem_cons_of_mem _ hv)) (fun v hv => wb v (List.mem_cons_of_mem _ hv)) (fun v hv => wc v (List.mem_cons_of_mem _ hv))
theorem x3_wf : ∀ (a b c : List Int), (∀ v ∈ a, 0 ≤ v ∧ v ≤ 255) → (∀ v ∈ b, 0 ≤ v ∧ v ≤ 255) → (∀ v ∈ c, 0 ≤ v ∧ v ≤ 255) → ∀ v ∈ x3 a b c, 0 ≤ v ∧ v ≤ 255 := by
  intro a
  induction a with
  | nil => intro b c _ _ _ v hv; simp [x3] at hv
  | cons p s ih =>
    intro b c wa wb wc v hv
    cases b with
    | nil => simp [x3] at hv
    | cons q t =>
      cases c with
      | nil => simp [x3] at hv
      | cons r u =>
        have h1 := byte_xor p q (wa p (by simp)) (wb q (by simp))
        have h2 := byte_xor (Go.bits .xor .u8 p q) r h1.1 (wc r (by simp))
        simp only [x3, List.mem_cons] at hv
        rcases hv with rfl | hv
        · exact h2.1
        · exact ih t u (fun v hv => wa v (List.mem_cons_of_mem _ hv)) (fun v hv => wb v (List.mem_cons_of_mem _ hv)) (fun v hv => wc v (List.mem_cons_of_mem _ hv)) v hv
theorem ofV_x3 (a b c : List Int) (hb : a.length = b.length) (hc : a.length = c.length) (wa : ∀ v ∈ a, 0 ≤ v ∧ v ≤ 255) (wb : ∀ v ∈ b, 0 ≤ v ∧ v ≤ 255) (wc : ∀ v ∈ c, 0 ≤ v ∧ v ≤ 255) : ofV [x3 a b c] = Go.bits .xor .u32 (Go.bits .xor .u32 (ofV [a]) (ofV [b])) (ofV [c]) := by
  rw [ofV_one _ (x3_wf a b c wa wb wc), ofV_one a wa, ofV_one b wb, ofV_one c wc, bits_xor32, bits_xor32]
  have h := regP_x3 a b c (BitVec.allOnes 32) (BitVec.allOnes 32) (BitVec.allOnes 32) hb hc wa wb wc
  rw [show BitVec.allOnes 32 ^^^ BitVec.allOnes 32 ^^^ BitVec.allOnes 32 = BitVec.allOnes 32 by decide] at h
  rw [h]
  generalize regP a (BitVec.allOnes 32) = x
  generalize regP b (BitVec.allOnes 32) = y
  generalize regP c (BitVec.allOnes 32) = z
  congr 2
  apply BitVec.eq_of_getLsbD_eq
  intro i hi
  simp only [BitVec.getLsbD_xor, BitVec.getLsbD_not]
  rw [decide_eq_true hi]
  cases x.getLsbD i <;> cases y.getLsbD i <;> cases z.getLsbD i <;> rfl
theorem x3_get : ∀ (a b c : List Int) (i : Nat), a.length = b.length → a.length = c.length → (x3 a b c)[i]? = if i < a.length then some (Go.bits .xor .u8 (Go.bits .xor .u8 (a.getD i 0) (b.getD i 0)) (c.getD i 0)) else none := by
  intro a
  induction a with
  | nil => intro b c i hb hc; simp [x3]
  | cons p s ih =>
    intro b c i hb hc
    cases b with
    | nil => simp at hb
    | cons q t =>
      cases c with
      | nil => simp at hc
      | cons r u =>
        cases i with
        | zero => simp [x3]
        | succ i =>
          have := ih t u i (by simpa using hb) (by simpa using hc)
          simpa [x3] using this
def xB (a b c : List Int) (j : Nat) : Int := Go.bits .xor .u8 (Go.bits .xor .u8 (a.getD j 0) (b.getD j 0)) (c.getD j 0)
def xL (a b c : List Int) (n k : Nat) : List Int := (List.range n).map fun j => if j < k then xB a b c j else 0
theorem xL_len (a b c : List Int) (n k : Nat) : (xL a b c n k).length = n := by unfold xL; simp
theorem xL_get (a b c : List Int) (n k i : Nat) : (xL a b c n k)[i]? = if i < n then some (if i < k then xB a b c i else 0) else none := by
  unfold xL
  by_cases h : i < n
  · rw [if_pos h, List.getElem?_map, List.getElem?_range h]; rfl
  · rw [if_neg h]; simp; omega
theorem xL_zero (a b c : List Int) (n : Nat) : List.replicate n 0 = xL a b c n 0 := by
  apply List.ext_getElem?
  intro i
  rw [xL_get, List.getElem?_replicate]
  simp
theorem xL_set (a b c : List Int) (n k : Nat) (h : k < n) : (xL a b c n k).set k (xB a b c k) = xL a b c n (k + 1) := by
  apply List.ext_getElem?
  intro i
  rw [List.getElem?_set, xL_get, xL_get, xL_len]
  by_cases he : k = i
  · subst he; simp [h]
  · rw [if_neg he]
    by_cases hi : i < n
    · rw [if_pos hi, if_pos hi]
      by_cases hl : i < k
      · rw [if_pos hl, if_pos (by omega)]
      · rw [if_neg hl, if_neg (by omega)]
    · rw [if_neg hi, if_neg hi]
theorem linear_eq (l0 l1 l2 : List Int) (k : Nat) (h0 : k ≤ l0.length) (h1 : k ≤ l1.length) (h2 : k ≤ l2.length) (w0 : ∀ c ∈ l0, 0 ≤ c ∧ c ≤ 255) (w1 : ∀ c ∈ l1, 0 ≤ c ∧ c ≤ 255) (w2 : ∀ c ∈ l2, 0 ≤ c ∧ c ≤ 255) : (ofV [xL l0 l1 l2 k k] == Go.bits .xor .u32 (Go.bits .xor .u32 (ofV [l0.take k]) (ofV [l1.take k])) (ofV [l2.take k])) = true := by
  have e : xL l0 l1 l2 k k = x3 (l0.take k) (l1.take k) (l2.take k) := by
    apply List.ext_getElem?
    intro i
    rw [xL_get, x3_get _ _ _ i (by rw [List.length_take, List.length_take]; omega) (by rw [List.length_take, List.length_take]; omega), List.length_take, show min k l0.length = k by omega]
    by_cases hi : i < k
    · rw [if_pos hi, if_pos hi, if_pos hi]
      unfold xB
      simp [List.getD, List.getElem?_take, hi]
    · rw [if_neg hi, if_neg hi]
  rw [e, ofV_x3 _ _ _ (by rw [List.length_take, List.length_take]; omega) (by rw [List.length_take, List.length_take]; omega) (fun v hv => w0 v (List.mem_of_mem_take hv)) (fun v hv => w1 v (List.mem_of_mem_take hv)) (fun v hv => w2 v (List.mem_of_mem_take hv))]
  simp
end Go.Proofs.Yteiimfmanfafhaa.C
