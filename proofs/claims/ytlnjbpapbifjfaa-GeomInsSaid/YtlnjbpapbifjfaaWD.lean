/- Digits to the base 65536, words, and how numbers stand: plain arithmetic. -/
import Derived.Test.YtlnjbpapbifjfaaPx0
namespace Go.Proofs.Ytlnjbpapbifjfaa.WL
set_option linter.unusedVariables false
set_option linter.unusedSimpArgs false
open Go.RowKit Go.Proofs.Ytlnjbpapbifjfaa.P Go.Proofs.Ytlnjbpapbifjfaa.X Go.Proofs.YtlnjbpapbifjfaaW.PrintWords Go.Proofs.YtlnjbpapbifjfaaW.PrintLast Go.Proofs.YtlnjbpapbifjfaaW.PrintMore
theorem u64w (x : Int) : IntKind.u64.wrap x = x % 18446744073709551616 := by
  unfold IntKind.wrap; rfl
theorem w64_id {x : Int} (h : -9223372036854775808 ≤ x) (h' : x ≤ 9223372036854775807) : wrap64 x = x := by
  unfold wrap64; omega
theorem tmod65536 (x : Int) : Int.tmod x 65536 = if 0 ≤ x then x % 65536 else -((-x) % 65536) := by
  split
  · rename_i h; exact Int.tmod_eq_emod_of_nonneg h
  · rename_i h
    have h' : 0 ≤ -x := by omega
    rw [← Int.tmod_eq_emod_of_nonneg h', Int.neg_tmod, Int.neg_neg]
theorem tdiv_ex (q : Int) : Int.tdiv (65536 * q) 65536 = q := Int.mul_tdiv_cancel_left q (by decide)
theorem tdiv_nn {x : Int} (h : 0 ≤ x) : Int.tdiv x 65536 = x / 65536 := Int.tdiv_eq_ediv_of_nonneg h
theorem tmod_nn {x : Int} (h : 0 ≤ x) : Int.tmod x 65536 = x % 65536 := Int.tmod_eq_emod_of_nonneg h

def digs : Nat → Int → List Int
  | 0, _ => []
  | n + 1, x => (x % 65536) :: digs n (x / 65536)
def hor : List Int → Int
  | [] => 0
  | d :: l => d + 65536 * hor l
abbrev dig (x : Int) : List Int := digs 8 x
theorem digs_len : ∀ n x, (digs n x).length = n
  | 0, _ => rfl
  | n + 1, x => by simp [digs, digs_len n]
theorem digs_range : ∀ n x d, d ∈ digs n x → 0 ≤ d ∧ d < 65536
  | 0, _, d, h => by simp [digs] at h
  | n + 1, x, d, h => by
    simp only [digs, List.mem_cons] at h
    rcases h with rfl | h
    · omega
    · exact digs_range n _ d h
theorem hor_digs : ∀ n x, ∃ q : Int, hor (digs n x) = x - q * 65536 ^ n
  | 0, x => ⟨x, by simp [digs, hor]⟩
  | n + 1, x => by
    obtain ⟨q, hq⟩ := hor_digs n (x / 65536)
    refine ⟨q, ?_⟩
    have e : q * (65536 : Int) ^ (n + 1) = 65536 * (q * 65536 ^ n) := by
      rw [Int.pow_succ, ← Int.mul_assoc, Int.mul_comm]
    rw [e]
    simp only [digs, hor, hq]
    generalize q * (65536 : Int) ^ n = P
    omega
theorem digs_add : ∀ n (x q : Int), digs n (x + q * 65536 ^ n) = digs n x
  | 0, _, _ => rfl
  | n + 1, x, q => by
    have e : q * (65536 : Int) ^ (n + 1) = 65536 * (q * 65536 ^ n) := by
      rw [Int.pow_succ, ← Int.mul_assoc, Int.mul_comm]
    rw [e]
    have ih := digs_add n (x / 65536) q
    generalize q * (65536 : Int) ^ n = P at ih ⊢
    simp only [digs]
    rw [show (x + 65536 * P) % 65536 = x % 65536 by omega, show (x + 65536 * P) / 65536 = x / 65536 + P by omega, ih]
theorem digs_congr {n : Nat} {x y : Int} (h : ∃ q : Int, x = y + q * 65536 ^ n) : digs n x = digs n y := by
  obtain ⟨q, rfl⟩ := h; exact digs_add n y q
theorem dig_congr {x y : Int} (h : (x - y) % 340282366920938463463374607431768211456 = 0) : dig x = dig y :=
  digs_congr ⟨(x - y) / 340282366920938463463374607431768211456, by
    have : (65536 : Int) ^ 8 = 340282366920938463463374607431768211456 := by decide
    rw [this]; omega⟩
theorem dig_hor (x : Int) : dig (hor (dig x)) = dig x := by
  obtain ⟨q, hq⟩ := hor_digs 8 x
  exact digs_congr ⟨-q, by rw [show dig x = digs 8 x from rfl, hq]; generalize (65536 : Int) ^ 8 = M; rw [Int.neg_mul]; omega⟩

theorem digs4_8 (hi lo : Int) (h0 : 0 ≤ lo) (h1 : lo < 18446744073709551616) : digs 4 lo ++ (digs 8 hi).take 4 = dig (hi * 18446744073709551616 + lo) := by
  simp only [digs, List.take_succ_cons, List.take_zero, List.cons_append, List.nil_append]
  congr 1
  · omega
  · congr 1
    · omega
    · congr 1
      · omega
      · congr 1
        · omega
        · congr 1
          · omega
          · congr 1
            · omega
            · congr 1
              · omega
              · congr 1; omega
theorem rd_eq (l : List Int) (i : Int) (h0 : i.toNat < l.length) : rd l i = l[i.toNat] := by
  unfold rd; rw [List.getD_eq_getElem?_getD, List.getElem?_eq_getElem h0]; rfl
theorem hor_range : ∀ l : List Int, (∀ d ∈ l, 0 ≤ d ∧ d < 65536) → 0 ≤ hor l ∧ hor l < 65536 ^ l.length
  | [], _ => by simp [hor]
  | d :: l, h => by
    have h1 := h d (by simp)
    have h2 := hor_range l fun x hx => h x (by simp [hx])
    simp only [hor, List.length_cons, Int.pow_succ]
    generalize (65536 : Int) ^ l.length = P at h2 ⊢
    omega
theorem hor_take : ∀ (l : List Int) (n : Nat) (h : n < l.length), hor (l.take (n + 1)) = hor (l.take n) + l[n] * 65536 ^ n
  | [], n, h => by simp at h
  | d :: l, 0, _ => by simp [hor]
  | d :: l, n + 1, h => by
    have h' : n < l.length := by simpa using h
    have ih := hor_take l n h'
    simp only [List.take_succ_cons, hor, List.getElem_cons_succ]
    rw [ih, Int.pow_succ]
    rw [Int.mul_add, show l[n] * ((65536 : Int) ^ n * 65536) = 65536 * (l[n] * 65536 ^ n) by rw [← Int.mul_assoc, Int.mul_comm]]
    omega
theorem hor_digs_mod (n : Nat) (x : Int) : hor (digs n x) = x % 65536 ^ n := by
  obtain ⟨q, hq⟩ := hor_digs n x
  have hr := hor_range (digs n x) (digs_range n x)
  rw [digs_len] at hr
  have e : x = hor (digs n x) + q * 65536 ^ n := by omega
  generalize hor (digs n x) = H at *
  rw [e, Int.add_mul_emod_self_right]
  exact (Int.emod_eq_of_lt hr.1 hr.2).symm

def cmp3 (a b : Int) : Int := if a < b then -1 else if b < a then 1 else 0
def off (x : Int) : Int := (x + 170141183460469231731687303715884105728) % 340282366920938463463374607431768211456
theorem top_turned (x : Int) : hor (digs 7 x) + ((x / 65536 / 65536 / 65536 / 65536 / 65536 / 65536 / 65536 % 65536 + 32768) % 65536) * 65536 ^ 7 = off x := by
  rw [hor_digs_mod]
  have : (65536 : Int) ^ 7 = 5192296858534827628530496329220096 := by decide
  rw [this]; unfold off; omega
theorem cmp3_eq0 (a b : Int) : cmp3 a b = 0 ↔ a = b := by unfold cmp3; split <;> (try split) <;> omega
theorem off_eq {x y : Int} : off x = off y ↔ (x - y) % 340282366920938463463374607431768211456 = 0 := by unfold off; omega

theorem w64_succ (n : Nat) (h : n < 9223372036854775807) : wrap64 ((n : Int) + 1) = ((n + 1 : Nat) : Int) := by unfold wrap64; omega
theorem rd_nat (l : List Int) (i : Nat) (h : i < l.length) : rd l (i : Int) = l[i] := rd_eq l i (by simpa using h)

theorem hor_zip : ∀ a b : List Int, a.length = b.length → hor (List.zipWith (· + ·) a b) = hor a + hor b
  | [], [], _ => rfl
  | x :: a, y :: b, h => by
    simp only [List.zipWith, hor, hor_zip a b (by simpa using h)]; omega
  | [], _ :: _, h => by simp at h
  | _ :: _, [], h => by simp at h
theorem hor_set : ∀ (l : List Int) (n : Nat) (v : Int) (h : n < l.length), hor (l.set n v) = hor l + (v - l[n]) * 65536 ^ n
  | [], n, v, h => by simp at h
  | d :: l, 0, v, _ => by simp [hor]; omega
  | d :: l, n + 1, v, h => by
    have h' : n < l.length := by simpa using h
    have ih := hor_set l n v h'
    simp only [List.set_cons_succ, hor, List.getElem_cons_succ, ih, Int.pow_succ]
    grind
theorem ring1 (h x p y T : Int) : h + x * p * y + T = h + T + x * y * p := by grind
theorem ring2 (h D x y P H T : Int) : h + (D + x * y - D) * P + x * (P * 65536) * H + T = h + x * P * (y + 65536 * H) + T := by grind
theorem ring3 (h x P B H : Int) : h + x * P * B + P * 65536 * H * B = h + P * (x + 65536 * H) * B := by grind
theorem mulb {x y : Int} (h1 : 0 ≤ x) (h2 : x < 65536) (h3 : 0 ≤ y) (h4 : y < 65536) : 0 ≤ x * y ∧ x * y ≤ 4294836225 := by
  have := Int.mul_le_mul (show x ≤ 65535 by omega) (show y ≤ 65535 by omega) h3 (by decide)
  exact ⟨Int.mul_nonneg h1 h3, this⟩
theorem digs_neg : ∀ (n : Nat) (x : Int), (digs n x).map (fun d => 65535 - d) = digs n (-x - 1)
  | 0, _ => rfl
  | n + 1, x => by
    simp only [digs, List.map_cons, digs_neg n]
    rw [show 65535 - x % 65536 = (-x - 1) % 65536 by omega, show -(x / 65536) - 1 = (-x - 1) / 65536 by omega]
def dotS : List Int → Int
  | a :: b :: l => a * b + dotS l
  | _ => 0

end Go.Proofs.Ytlnjbpapbifjfaa.WL
