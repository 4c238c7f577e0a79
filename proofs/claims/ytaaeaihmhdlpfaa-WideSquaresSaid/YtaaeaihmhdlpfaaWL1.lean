/- Wide numbers, the plain side: digits to the base 65536, and what the document's own functions reckon, for any words. -/
import Derived.Test.YtaaeaihmhdlpfaaPx3
import Derived.Test.YtaaeaihmhdlpfaaPx4
import Derived.Test.YtaaeaihmhdlpfaaPx6
namespace Go.Proofs.Ytaaeaihmhdlpfaa.WL
set_option linter.unusedVariables false
set_option linter.unusedSimpArgs false
open Go.RowKit Go.Proofs.Ytaaeaihmhdlpfaa.P Go.Proofs.Ytaaeaihmhdlpfaa.X Go.Proofs.YtaaeaihmhdlpfaaW.PrintWords Go.Proofs.YtaaeaihmhdlpfaaW.PrintLast Go.Proofs.YtaaeaihmhdlpfaaW.PrintMore

theorem u64w (x : Int) : IntKind.u64.wrap x = x % 18446744073709551616 := by
  unfold IntKind.wrap; rfl
theorem w64_id {x : Int} (h : -9223372036854775808 ≤ x) (h' : x ≤ 9223372036854775807) : wrap64 x = x := by
  unfold wrap64; omega
theorem tmod65536 (x : Int) : Int.tmod x 65536 = if 0 ≤ x then x % 65536 else -((-x) % 65536) := by
  split
  · rename_i h; exact Int.tmod_eq_emod_of_nonneg h
  · rename_i h
    have h' : 0 ≤ -x := by omega
    rw [← Int.tmod_eq_emod_of_nonneg h', Int.neg_tmod, Int.neg_neg]
theorem tdiv_ex (q : Int) : Int.tdiv (65536 * q) 65536 = q := Int.mul_tdiv_cancel_left q (by decide)
theorem tdiv_nn {x : Int} (h : 0 ≤ x) : Int.tdiv x 65536 = x / 65536 := Int.tdiv_eq_ediv_of_nonneg h
theorem tmod_nn {x : Int} (h : 0 ≤ x) : Int.tmod x 65536 = x % 65536 := Int.tmod_eq_emod_of_nonneg h

/-! ### digits -/
def digs : Nat → Int → List Int
  | 0, _ => []
  | n + 1, x => (x % 65536) :: digs n (x / 65536)
def hor : List Int → Int
  | [] => 0
  | d :: l => d + 65536 * hor l
abbrev dig (x : Int) : List Int := digs 8 x
theorem digs_len : ∀ n x, (digs n x).length = n
  | 0, _ => rfl
  | n + 1, x => by simp [digs, digs_len n]
theorem digs_range : ∀ n x d, d ∈ digs n x → 0 ≤ d ∧ d < 65536
  | 0, _, d, h => by simp [digs] at h
  | n + 1, x, d, h => by
    simp only [digs, List.mem_cons] at h
    rcases h with rfl | h
    · omega
    · exact digs_range n _ d h
theorem hor_digs : ∀ n x, ∃ q : Int, hor (digs n x) = x - q * 65536 ^ n
  | 0, x => ⟨x, by simp [digs, hor]⟩
  | n + 1, x => by
    obtain ⟨q, hq⟩ := hor_digs n (x / 65536)
    refine ⟨q, ?_⟩
    have e : q * (65536 : Int) ^ (n + 1) = 65536 * (q * 65536 ^ n) := by
      rw [Int.pow_succ, ← Int.mul_assoc, Int.mul_comm]
    rw [e]
    simp only [digs, hor, hq]
    generalize q * (65536 : Int) ^ n = P
    omega
theorem digs_add : ∀ n (x q : Int), digs n (x + q * 65536 ^ n) = digs n x
  | 0, _, _ => rfl
  | n + 1, x, q => by
    have e : q * (65536 : Int) ^ (n + 1) = 65536 * (q * 65536 ^ n) := by
      rw [Int.pow_succ, ← Int.mul_assoc, Int.mul_comm]
    rw [e]
    have ih := digs_add n (x / 65536) q
    generalize q * (65536 : Int) ^ n = P at ih ⊢
    simp only [digs]
    rw [show (x + 65536 * P) % 65536 = x % 65536 by omega, show (x + 65536 * P) / 65536 = x / 65536 + P by omega, ih]
theorem digs_congr {n : Nat} {x y : Int} (h : ∃ q : Int, x = y + q * 65536 ^ n) : digs n x = digs n y := by
  obtain ⟨q, rfl⟩ := h; exact digs_add n y q
theorem dig_congr {x y : Int} (h : (x - y) % 340282366920938463463374607431768211456 = 0) : dig x = dig y :=
  digs_congr ⟨(x - y) / 340282366920938463463374607431768211456, by
    have : (65536 : Int) ^ 8 = 340282366920938463463374607431768211456 := by decide
    rw [this]; omega⟩
theorem dig_hor (x : Int) : dig (hor (dig x)) = dig x := by
  obtain ⟨q, hq⟩ := hor_digs 8 x
  exact digs_congr ⟨-q, by rw [show dig x = digs 8 x from rfl, hq]; generalize (65536 : Int) ^ 8 = M; rw [Int.neg_mul]; omega⟩

/-! ### Of -/
theorem Of_l0 : ∀ (n k : Nat) (x : Int) (acc : List Int) (i : Int), i = 8 - (n : Int) → 0 ≤ i → n < k → acc.length ≤ 8 - n → -9223372036854775808 ≤ x → x ≤ 9223372036854775807 →
    lapidaryref08_Of.l0 k x acc i = some (acc ++ digs n x) := by
  intro n
  induction n with
  | zero =>
    intro k x acc i hi _ hk _ _ _
    obtain ⟨k, rfl⟩ : ∃ m, k = m + 1 := ⟨k - 1, by omega⟩
    simp only [lapidaryref08_Of.l0]; rw [if_neg (by omega)]; simp [digs]
  | succ n ih =>
    intro k x acc i hi h0 hk hl h1 h2
    obtain ⟨k, rfl⟩ : ∃ m, k = m + 1 := ⟨k - 1, by omega⟩
    have hw : wrap64 (i + 1) = i + 1 := by unfold wrap64; omega
    have key : lapidaryref08_Of.l0 k (x / 65536) (acc ++ [x % 65536]) (i + 1) = some (acc ++ digs (n + 1) x) := by
      rw [ih k (x / 65536) (acc ++ [x % 65536]) (i + 1) (by omega) (by omega) (by omega) (by simp; omega) (by omega) (by omega)]
      simp [digs]
    simp only [lapidaryref08_Of.l0]; rw [if_pos (by omega)]
    have ht := tmod65536 x
    by_cases hs : Int.tmod x 65536 < 0
    · rw [if_pos hs, if_pos (by omega)]
      have e1 : Int.tmod x 65536 + 65536 = x % 65536 := by split at ht <;> omega
      rw [e1, w64_id (x := x % 65536) (by omega) (by omega), w64_id (x := x - x % 65536) (by omega) (by omega), show x - x % 65536 = 65536 * (x / 65536) by omega, tdiv_ex, w64_id (x := x / 65536) (by omega) (by omega), hw]
      exact key
    · rw [if_neg hs, if_pos (by omega)]
      have e1 : Int.tmod x 65536 = x % 65536 := by split at ht <;> omega
      rw [e1, w64_id (x := x - x % 65536) (by omega) (by omega), show x - x % 65536 = 65536 * (x / 65536) by omega, tdiv_ex, w64_id (x := x / 65536) (by omega) (by omega), hw]
      exact key
theorem Of_ev {x : Int} (h1 : -9223372036854775808 ≤ x) (h2 : x ≤ 9223372036854775807) : Ev (fun k => lapidaryref08_Of.f k x) (dig x) :=
  ⟨9, fun k hk => by show lapidaryref08_Of.f k x = _; unfold lapidaryref08_Of.f; rw [Of_l0 8 k x [] 0 rfl (by omega) (by omega) (by simp) h1 h2]; rfl⟩

/-! ### From -/
theorem From_l0 : ∀ (n k : Nat) (x : Int) (acc : List Int) (i : Int) (h : List Int), i = 4 - (n : Int) → 0 ≤ i → n < k → acc.length ≤ 4 - n → 0 ≤ x → x < 18446744073709551616 → h.length = 8 →
    lapidaryref08_From.l0 k x acc i h = some (acc ++ digs n x ++ h.take 4) := by
  intro n
  induction n with
  | zero =>
    intro k x acc i h hi _ hk _ _ _ hh
    obtain ⟨k, rfl⟩ : ∃ m, k = m + 1 := ⟨k - 1, by omega⟩
    simp only [lapidaryref08_From.l0]; rw [if_neg (by omega), if_pos (by omega)]
    simp only [Option.bind_some]
    rw [if_pos (by simp; omega)]; simp [digs]
  | succ n ih =>
    intro k x acc i h hi h0 hk hl h1 h2 hh
    obtain ⟨k, rfl⟩ : ∃ m, k = m + 1 := ⟨k - 1, by omega⟩
    have hw : wrap64 (i + 1) = i + 1 := by unfold wrap64; omega
    simp only [lapidaryref08_From.l0]; rw [if_pos (by omega), if_pos (by omega), tdiv_nn h1, tmod_nn h1, u64w, hw, w64_id (by omega) (by omega), show x / 65536 % 18446744073709551616 = x / 65536 by omega]
    rw [ih k (x / 65536) _ (i + 1) h (by omega) (by omega) (by omega) (by simp; omega) (by omega) (by omega) hh]
    simp [digs]
theorem digs4_8 (hi lo : Int) (h0 : 0 ≤ lo) (h1 : lo < 18446744073709551616) : digs 4 lo ++ (digs 8 hi).take 4 = dig (hi * 18446744073709551616 + lo) := by
  simp only [digs, List.take_succ_cons, List.take_zero, List.cons_append, List.nil_append]
  congr 1
  · omega
  · congr 1
    · omega
    · congr 1
      · omega
      · congr 1
        · omega
        · congr 1
          · omega
          · congr 1
            · omega
            · congr 1
              · omega
              · congr 1; omega
theorem From_ev {hi lo : Int} (h1 : -9223372036854775808 ≤ hi) (h2 : hi ≤ 9223372036854775807) (h3 : 0 ≤ lo) (h4 : lo < 18446744073709551616) :
    Ev (fun k => lapidaryref08_From.f k hi lo) (dig (hi * 18446744073709551616 + lo)) := by
  unfold lapidaryref08_From.f
  refine Ev.bind (f := fun n a => lapidaryref08_From.l0 n lo ([] : List Int) 0 a) (Of_ev h1 h2) ⟨5, fun k hk => ?_⟩
  show lapidaryref08_From.l0 k lo [] 0 _ = _
  rw [From_l0 4 k lo [] 0 _ rfl (by omega) (by omega) (by simp) h3 h4 (digs_len _ _)]
  rw [List.nil_append, digs4_8 hi lo h3 h4]

/-! ### settled -/
theorem settled_l0 : ∀ (n k : Nat) (d acc : List Int) (c i : Int), d.length = 8 → i = 8 - (n : Int) → 0 ≤ i → n < k → acc.length ≤ 8 - n → 0 ≤ c → c ≤ 1000000000000000 → (∀ x ∈ d, 0 ≤ x ∧ x ≤ 9000000000000000000) →
    lapidaryref08_settled.l0 k d acc c i = some (acc ++ digs n (c + hor (d.drop i.toNat))) := by
  intro n
  induction n with
  | zero =>
    intro k d acc c i hd hi _ hk _ _ _ _
    obtain ⟨k, rfl⟩ : ∃ m, k = m + 1 := ⟨k - 1, by omega⟩
    simp only [lapidaryref08_settled.l0]; rw [if_neg (by omega)]; simp [digs]
  | succ n ih =>
    intro k d acc c i hd hi h0 hk hl hc hc' hr
    obtain ⟨k, rfl⟩ : ∃ m, k = m + 1 := ⟨k - 1, by omega⟩
    have hw : wrap64 (i + 1) = i + 1 := by unfold wrap64; omega
    have hlt : i.toNat < d.length := by omega
    have hx := hr d[i.toNat] (List.getElem_mem hlt)
    have hrd : rd d i = d[i.toNat] := by unfold rd; rw [List.getD_eq_getElem?_getD, List.getElem?_eq_getElem hlt]; rfl
    simp only [lapidaryref08_settled.l0]; rw [if_pos (by omega), if_pos (by omega), if_pos (by omega), if_pos (by omega), hrd]
    generalize hX : d[i.toNat] = X at *
    rw [w64_id (x := c + X) (by omega) (by omega), tmod_nn (by omega), tdiv_nn (by omega), w64_id (by omega) (by omega), hw]
    rw [ih k d _ _ (i + 1) hd (by omega) (by omega) (by omega) (by simp; omega) (by omega) (by omega) hr]
    rw [List.drop_eq_getElem_cons hlt, hX, show (i + 1).toNat = i.toNat + 1 by omega]
    simp only [hor, digs, List.append_assoc, List.cons_append, List.nil_append]
    generalize hor (d.drop (i.toNat + 1)) = R
    rw [show (c + (X + 65536 * R)) % 65536 = (c + X) % 65536 by omega, show (c + (X + 65536 * R)) / 65536 = (c + X) / 65536 + R by omega]
theorem settled_ev {d : List Int} (hd : d.length = 8) (hr : ∀ x ∈ d, 0 ≤ x ∧ x ≤ 9000000000000000000) : Ev (fun k => lapidaryref08_settled.f k d) (dig (hor d)) :=
  ⟨9, fun k hk => by
    show lapidaryref08_settled.f k d = _
    unfold lapidaryref08_settled.f
    rw [settled_l0 8 k d [] 0 0 hd rfl (by omega) (by omega) (by simp) (by omega) (by omega) hr]; simp⟩
end Go.Proofs.Ytaaeaihmhdlpfaa.WL
