/- Wide numbers: what the program's own functions answer, for any words. -/
import Derived.Test.YtlnjbpapbifjfaaPx9
import Derived.Test.YtlnjbpapbifjfaaPx29
import Derived.Test.YtlnjbpapbifjfaaPx7
import Derived.Test.YtlnjbpapbifjfaaPx38
import Derived.Test.YtlnjbpapbifjfaaPx4
import Derived.Test.YtlnjbpapbifjfaaPx5
import Derived.Test.YtlnjbpapbifjfaaPx10
import Derived.Test.YtlnjbpapbifjfaaWD
import Derived.Laws.BitsLemmas
namespace Go.Proofs.Ytlnjbpapbifjfaa.WL
set_option linter.unusedVariables false
set_option linter.unusedSimpArgs false
open Go.RowKit Go.Proofs.Ytlnjbpapbifjfaa.P Go.Proofs.Ytlnjbpapbifjfaa.X Go.Proofs.YtlnjbpapbifjfaaW.PrintWords Go.Proofs.YtlnjbpapbifjfaaW.PrintLast Go.Proofs.YtlnjbpapbifjfaaW.PrintMore
/-- The high word of a number, with its sign, and the low one. -/
def hiw (x : Int) : Int := (x / 18446744073709551616 + 9223372036854775808) % 18446744073709551616 - 9223372036854775808
def low (x : Int) : Int := x % 18446744073709551616
theorem hiw_range (x : Int) : -9223372036854775808 ≤ hiw x ∧ hiw x ≤ 9223372036854775807 := by unfold hiw; omega
theorem low_range (x : Int) : 0 ≤ low x ∧ low x < 18446744073709551616 := by unfold low; omega
theorem hiw_of {h l : Int} (h1 : -9223372036854775808 ≤ h) (h2 : h ≤ 9223372036854775807) (h3 : 0 ≤ l) (h4 : l < 18446744073709551616) : hiw (h * 18446744073709551616 + l) = h := by unfold hiw; omega
theorem low_of {h l : Int} (h3 : 0 ≤ l) (h4 : l < 18446744073709551616) : low (h * 18446744073709551616 + l) = l := by unfold low; omega
theorem val_mod (x : Int) : (x - (hiw x * 18446744073709551616 + low x)) % 340282366920938463463374607431768211456 = 0 := by unfold hiw low; omega
theorem val_mod' (x : Int) : ((hiw x * 18446744073709551616 + low x) - x) % 340282366920938463463374607431768211456 = 0 := by unfold hiw low; omega
theorem hl_congr {x y : Int} (h : (x - y) % 340282366920938463463374607431768211456 = 0) : hiw x = hiw y ∧ low x = low y := by
  constructor
  · unfold hiw; omega
  · unfold low; omega
theorem hl_eq {x y : Int} : (hiw x == hiw y && (low x == low y)) = true ↔ (x - y) % 340282366920938463463374607431768211456 = 0 := by
  simp only [Bool.and_eq_true, beq_iff_eq]
  unfold hiw low; omega

theorem wraps_u64 (n : Int) (h₀ : 0 ≤ n) (h₁ : n < 2 ^ 64) : IntKind.u64.wrap n = n := by rw [u64w]; omega
theorem and32 {x : Int} (h0 : 0 ≤ x) (h1 : x < 18446744073709551616) : Go.bits .and .u64 x 4294967295 = x % 4294967296 :=
  bits_mask .u64 64 (by decide) wraps_u64 32 (by decide) x h0 h1
theorem mul64_arith (P Q R S : Int) :
    let t := (Q + P / 4294967296)
    let w := (t % 4294967296 + R)
    (S + t / 4294967296 + w / 4294967296) = (S * 18446744073709551616 + (Q + R) * 4294967296 + P) / 18446744073709551616 := by
  intro t w
  omega
theorem mulb32 {x y : Int} (h1 : 0 ≤ x) (h2 : x < 4294967296) (h3 : 0 ≤ y) (h4 : y < 4294967296) : 0 ≤ x * y ∧ x * y ≤ 18446744065119617025 := by
  have := Int.mul_le_mul (show x ≤ 4294967295 by omega) (show y ≤ 4294967295 by omega) h3 (by decide)
  exact ⟨Int.mul_nonneg h1 h3, this⟩
theorem split4 (a1 a0 b1 b0 : Int) : (a1 * 4294967296 + a0) * (b1 * 4294967296 + b0) = a1 * b1 * 18446744073709551616 + (a1 * b0 + a0 * b1) * 4294967296 + a0 * b0 := by grind
theorem Mul64_eq {a b : Int} (ha : 0 ≤ a) (ha' : a < 18446744073709551616) (hb : 0 ≤ b) (hb' : b < 18446744073709551616) :
    bits_Mul64.f a b = some (a * b / 18446744073709551616, a * b % 18446744073709551616) := by
  unfold bits_Mul64.f
  rw [and32 ha ha', and32 hb hb']
  have hprod : a * b = (a / 4294967296) * (b / 4294967296) * 18446744073709551616 + ((a / 4294967296) * (b % 4294967296) + (a % 4294967296) * (b / 4294967296)) * 4294967296 + (a % 4294967296) * (b % 4294967296) := by
    rw [← split4]
    congr 1 <;> omega
  obtain ⟨s0, s1⟩ := mulb32 (x := a / 4294967296) (y := b / 4294967296) (by omega) (by omega) (by omega) (by omega)
  obtain ⟨q0, q1⟩ := mulb32 (x := a / 4294967296) (y := b % 4294967296) (by omega) (by omega) (by omega) (by omega)
  obtain ⟨r0, r1⟩ := mulb32 (x := a % 4294967296) (y := b / 4294967296) (by omega) (by omega) (by omega) (by omega)
  obtain ⟨p0, p1⟩ := mulb32 (x := a % 4294967296) (y := b % 4294967296) (by omega) (by omega) (by omega) (by omega)
  simp only [hprod]
  clear hprod
  generalize (a / 4294967296) * (b / 4294967296) = S at *
  generalize (a / 4294967296) * (b % 4294967296) = Q at *
  generalize (a % 4294967296) * (b / 4294967296) = R at *
  generalize (a % 4294967296) * (b % 4294967296) = P at *
  clear ha ha' hb hb'
  have key := mul64_arith P Q R S
  simp only [] at key
  have w1 : IntKind.u64.wrap P = P := by rw [u64w]; omega
  have w2 : IntKind.u64.wrap Q = Q := by rw [u64w]; omega
  have w3 : IntKind.u64.wrap R = R := by rw [u64w]; omega
  have w4 : IntKind.u64.wrap S = S := by rw [u64w]; omega
  have w5 : IntKind.u64.wrap (Q + P / 4294967296) = Q + P / 4294967296 := by rw [u64w]; omega
  rw [w1, w2, w3, w4, w5, and32 (by omega) (by omega)]
  have w6 : IntKind.u64.wrap ((Q + P / 4294967296) % 4294967296 + R) = (Q + P / 4294967296) % 4294967296 + R := by rw [u64w]; omega
  have w7 : IntKind.u64.wrap (S + (Q + P / 4294967296) / 4294967296) = S + (Q + P / 4294967296) / 4294967296 := by rw [u64w]; omega
  rw [w6, w7, u64w, u64w, key]
  congr 2
  omega
theorem wMul_eq {a b : Int} (h1 : -9223372036854775808 ≤ a) (h2 : a ≤ 9223372036854775807) (h3 : -9223372036854775808 ≤ b) (h4 : b ≤ 9223372036854775807) :
    wide_Mul.f a b = some (hiw (a * b), low (a * b)) := by
  have key : ∀ (u v p : Int), u * v = p → ∀ (da db : Int), a = u - da * 18446744073709551616 → b = v - db * 18446744073709551616 → a * b = p - (da * b + db * a) * 18446744073709551616 - da * db * 340282366920938463463374607431768211456 := by
    intro u v p hp da db e1 e2
    have : u = a + da * 18446744073709551616 := by omega
    have : v = b + db * 18446744073709551616 := by omega
    subst u v p; grind
  unfold wide_Mul.f
  rw [u64w a, u64w b, Mul64_eq (by omega) (by omega) (by omega) (by omega)]
  simp only [Option.bind_some]
  by_cases ha : a < 0
  · by_cases hb : b < 0
    · rw [if_pos ha, if_pos hb]
      have k := key (a % 18446744073709551616) (b % 18446744073709551616) _ rfl 1 1 (by omega) (by omega)
      generalize (a % 18446744073709551616) * (b % 18446744073709551616) = p at *
      generalize a * b = m at *
      rw [u64w, u64w]
      unfold hiw low wrap64
      congr 2 <;> omega
    · rw [if_pos ha, if_neg hb]
      have k := key (a % 18446744073709551616) (b % 18446744073709551616) _ rfl 1 0 (by omega) (by omega)
      generalize (a % 18446744073709551616) * (b % 18446744073709551616) = p at *
      generalize a * b = m at *
      rw [u64w]
      unfold hiw low wrap64
      congr 2 <;> omega
  · by_cases hb : b < 0
    · rw [if_neg ha, if_pos hb]
      have k := key (a % 18446744073709551616) (b % 18446744073709551616) _ rfl 0 1 (by omega) (by omega)
      generalize (a % 18446744073709551616) * (b % 18446744073709551616) = p at *
      generalize a * b = m at *
      rw [u64w]
      unfold hiw low wrap64
      congr 2 <;> omega
    · rw [if_neg ha, if_neg hb]
      have k := key (a % 18446744073709551616) (b % 18446744073709551616) _ rfl 0 0 (by omega) (by omega)
      generalize (a % 18446744073709551616) * (b % 18446744073709551616) = p at *
      generalize a * b = m at *
      unfold hiw low wrap64
      congr 2 <;> omega

theorem wOf_eq {a : Int} (h1 : -9223372036854775808 ≤ a) (h2 : a ≤ 9223372036854775807) : wide_Of.f a = some (hiw a, low a) := by
  unfold wide_Of.f hiw low; rw [u64w]; congr 2; omega
theorem wCmp_eq (x y : Int) : wide_Cmp.f (hiw x) (low x) (hiw y) (low y) = some (cmp3 (off x) (off y)) := by
  have hx := low_range x
  have hy := low_range y
  have ex : off x = (hiw x + 9223372036854775808) * 18446744073709551616 + low x := by unfold off hiw low; omega
  have ey : off y = (hiw y + 9223372036854775808) * 18446744073709551616 + low y := by unfold off hiw low; omega
  unfold wide_Cmp.f cmp3
  rw [ex, ey]
  generalize hiw x = a at *
  generalize low x = b at *
  generalize hiw y = c at *
  generalize low y = d at *
  clear ex ey
  by_cases h : (a == c && (b == d)) = true
  · rw [if_pos h]
    simp only [Bool.and_eq_true, beq_iff_eq] at h
    rw [if_neg (by omega), if_neg (by omega)]
  · rw [if_neg h]
    simp only [Bool.and_eq_true, beq_iff_eq] at h
    by_cases h1 : a < c
    · rw [if_pos h1, if_pos (by omega)]
    · rw [if_neg h1]
      by_cases h2 : a = c
      · rw [if_pos h2]
        by_cases h3 : b < d
        · rw [if_pos h3, if_pos (by omega)]
        · rw [if_neg h3, if_neg (by omega), if_pos (by omega)]
      · rw [if_neg h2, if_neg (by omega), if_pos (by omega)]
theorem wSign_eq (x : Int) : wide_Sign.f (hiw x) (low x) = some (cmp3 (off x) (off 0)) := by
  unfold wide_Sign.f
  have := wCmp_eq x 0
  rw [show hiw 0 = 0 by decide, show low 0 = 0 by decide] at this
  rw [this]; rfl
/-- The sign of a number that lies in the range. -/
theorem sign_of {x : Int} (h1 : -170141183460469231731687303715884105728 ≤ x) (h2 : x < 170141183460469231731687303715884105728) : cmp3 (off x) (off 0) = cmp3 x 0 := by
  unfold cmp3 off; split <;> split <;> first | rfl | omega | (split <;> first | rfl | omega | (split <;> first | rfl | omega))

theorem a64 {x y c : Int} (hx : 0 ≤ x) (hy : 0 ≤ y) (hc : 0 ≤ c) : a64lo x y c = (x + y + c) % 18446744073709551616 ∧ a64hi x y c = (x + y + c) / 18446744073709551616 := by
  unfold a64lo a64hi; omega
abbrev num (x : Int) : S31 := ⟨hiw x, low x⟩
theorem wAdd_l0 : ∀ (n : Nat) (ys : List Int) (i : Nat) (x : Int), i + n = ys.length → ys.length < 9000000000000000000 →
    Ev (fun k => wide_Add.l0 k (ys.map num) (ys.length : Int) (i : Int) (hiw x) (low x)) (hiw (x + (ys.drop i).sum), low (x + (ys.drop i).sum)) := by
  intro n
  induction n with
  | zero =>
    intro ys i x hi hl
    rw [List.drop_of_length_le (by omega)]
    refine Ev.step (f := fun _ => some (hiw x, low x)) (fun k => by simp only [wide_Add.l0]; rw [if_neg (by omega)]) ?_
    simp only [List.sum_nil, Int.add_zero]
    exact Ev.now _
  | succ n ih =>
    intro ys i x hi hl
    have hA : i < ys.length := by omega
    have hrd : rd_T31 (ys.map num) (i : Int) = num ys[i] := by
      unfold rd_T31; rw [List.getD_eq_getElem?_getD, Int.toNat_natCast, List.getElem?_map, List.getElem?_eq_getElem hA]; rfl
    have lx := low_range x
    have ly := low_range ys[i]
    refine Ev.step (f := fun k => wide_Add.l0 k (ys.map num) (ys.length : Int) ((i + 1 : Nat) : Int) (hiw (x + ys[i])) (low (x + ys[i]))) (fun k => ?_) ?_
    · simp only [wide_Add.l0]
      rw [hrd, if_pos (by omega), if_pos (by omega), if_pos (by rw [List.length_map]; omega), w64_succ i (by omega)]
      generalize ys[i] = y at *
      by_cases hz : (((num y).f0) == 0 && (((num y).f1) == 0)) = true
      · rw [if_pos hz]
        have h0 : hiw y = 0 ∧ low y = 0 := by simpa using hz
        have e : hiw (x + y) = hiw x ∧ low (x + y) = low x := by
          unfold hiw low at *; omega
        rw [e.1, e.2]
      · rw [if_neg hz]
        obtain ⟨e1, e2⟩ := a64 lx.1 ly.1 (Int.le_refl 0)
        show (if a64hi (low x) (low y) 0 ≤ 1 then wide_Add.l0 k _ _ _ (wrap64 (a64lo (IntKind.u64.wrap (hiw x)) (IntKind.u64.wrap (hiw y)) (a64hi (low x) (low y) 0))) (a64lo (low x) (low y) 0) else none) = _
        rw [e1, e2, u64w, u64w]
        obtain ⟨e3, _⟩ := a64 (x := hiw x % 18446744073709551616) (y := hiw y % 18446744073709551616) (c := (low x + low y + 0) / 18446744073709551616) (by omega) (by omega) (by omega)
        rw [e3, if_pos (by omega)]
        have g1 : wrap64 ((hiw x % 18446744073709551616 + hiw y % 18446744073709551616 + (low x + low y + 0) / 18446744073709551616) % 18446744073709551616) = hiw (x + y) := by
          unfold wrap64 hiw low; omega
        have g2 : (low x + low y + 0) % 18446744073709551616 = low (x + y) := by unfold low; omega
        rw [g1, g2]
    · have := ih ys (i + 1) (x + ys[i]) (by omega) hl
      rw [List.drop_eq_getElem_cons hA, List.sum_cons, ← Int.add_assoc]
      exact this
theorem wAdds_ev (x : Int) (ys : List Int) (h : ys.length < 9000000000000000000) : Ev (fun k => wide_Add.f k (hiw x) (low x) (ys.map num)) (hiw (x + ys.sum), low (x + ys.sum)) := by
  have := wAdd_l0 ys.length ys 0 x (by omega) h
  refine Ev.congr (f := fun k => wide_Add.l0 k (ys.map num) (ys.length : Int) ((0 : Nat) : Int) (hiw x) (low x)) (fun k => by unfold wide_Add.f; rw [List.length_map]; rfl) ?_
  exact this
theorem wAdd_ev (x y : Int) : Ev (fun k => wide_Add.f k (hiw x) (low x) ([num y] : List S31)) (hiw (x + y), low (x + y)) := by
  have := wAdds_ev x [y] (by simp)
  simpa using this

theorem xor_ones {x : Int} (h0 : 0 ≤ x) (h1 : x < 18446744073709551616) : Go.bits .xor .u64 18446744073709551615 x = 18446744073709551615 - x := by
  obtain ⟨n, rfl⟩ := Int.eq_ofNat_of_zero_le h0
  unfold Go.bits
  have e : (BitVec.ofInt IntKind.u64.bits 18446744073709551615 ^^^ BitVec.ofInt IntKind.u64.bits (n : Int)) = ~~~ (BitVec.ofNat 64 n) := by
    show BitVec.ofInt 64 18446744073709551615 ^^^ BitVec.ofInt 64 (n : Int) = _
    rw [BitVec.ofInt_natCast, show BitVec.ofInt 64 18446744073709551615 = BitVec.allOnes 64 by decide, BitVec.allOnes_xor]
  simp only [e]
  rw [u64w]
  have : (~~~ (BitVec.ofNat 64 n)).toNat = 18446744073709551615 - n := by
    rw [BitVec.toNat_not, BitVec.toNat_ofNat]; omega
  show (((~~~ (BitVec.ofNat 64 n)).toNat : Nat) : Int) % 18446744073709551616 = _
  rw [this]; omega
theorem wNeg_ev (x : Int) : Ev (fun k => wide_Neg.f k (hiw x) (low x)) (hiw (-x), low (-x)) := by
  have hl := low_range x
  have hh := hiw_range x
  have e1 : wrap64 (Go.bits .xor .u64 18446744073709551615 (IntKind.u64.wrap (hiw x))) = hiw (-x - 1) := by
    rw [u64w, xor_ones (by omega) (by omega)]; unfold wrap64 hiw; omega
  have e2 : Go.bits .xor .u64 18446744073709551615 (low x) = low (-x - 1) := by
    rw [xor_ones hl.1 hl.2]; unfold low; omega
  have := wAdd_ev (-x - 1) 1
  rw [show -x - 1 + 1 = -x by omega] at this
  unfold wide_Neg.f
  simp only [wOf_eq (a := 1) (by decide) (by decide), Option.bind_some, e1, e2]
  exact Ev.bind (f := fun _ b => some (b.1, b.2)) this (Ev.now _)

theorem b64 {x : Int} (h : (Lit.int .i64 x).wf = true) : -9223372036854775808 ≤ x ∧ x ≤ 9223372036854775807 := by
  simpa [Lit.wf, IntKind.min, IntKind.max, IntKind.signed, IntKind.bits] using h
theorem bu64 {x : Int} (h : (Lit.int .u64 x).wf = true) : 0 ≤ x ∧ x < 18446744073709551616 := by
  have : 0 ≤ x ∧ x ≤ 18446744073709551615 := by simpa [Lit.wf, IntKind.min, IntKind.max, IntKind.signed, IntKind.bits] using h
  omega
theorem b32 {x : Int} (h : (Lit.int .i32 x).wf = true) : -2147483648 ≤ x ∧ x ≤ 2147483647 := by
  simpa [Lit.wf, IntKind.min, IntKind.max, IntKind.signed, IntKind.bits] using h
theorem wDot_l0 (l : List Int) (hl : l.length < 9000000000000000000) (hr : ∀ x ∈ l, -9223372036854775808 ≤ x ∧ x ≤ 9223372036854775807) : ∀ (n i : Nat) (x : Int), i + 2 * n = l.length →
    Ev (fun k => wide_Dot.l0 k l (i : Int) (hiw x) (low x)) (hiw (x + dotS (l.drop i)), low (x + dotS (l.drop i)), 0) := by
  intro n
  induction n with
  | zero =>
    intro i x hi
    rw [List.drop_of_length_le (by omega)]
    refine Ev.step (f := fun _ => some (hiw x, low x, 0)) (fun k => by simp only [wide_Dot.l0]; rw [if_neg (by omega)]) ?_
    simp only [dotS, Int.add_zero]
    exact Ev.now _
  | succ n ih =>
    intro i x hi
    have hA : i < l.length := by omega
    have hB : i + 1 < l.length := by omega
    have ra := hr _ (List.getElem_mem hA)
    have rb := hr _ (List.getElem_mem hB)
    have e2 : wrap64 ((i : Int) + 2) = ((i + 2 : Nat) : Int) := by unfold wrap64; omega
    have q1 : (i : Int) < (l.length : Int) := by omega
    have q2 : ((i + 1 : Nat) : Int) < (l.length : Int) := by omega
    refine Ev.step (f := fun k => (wide_Add.f k (hiw x) (low x) ([num (l[i] * l[i + 1])] : List S31)).bind fun bt170 => (wide_Dot.l0 k l ((i + 2 : Nat) : Int) bt170.1 bt170.2)) (fun k => ?_) ?_
    · simp only [wide_Dot.l0]
      rw [w64_succ i (by omega), if_pos q1, if_pos (by omega), if_pos (by omega), if_pos q2, rd_nat l i hA, rd_nat l (i + 1) hB, wMul_eq ra.1 ra.2 rb.1 rb.2, e2]
      rfl
    · refine Ev.bind (wAdd_ev _ _) ?_
      have := ih (i + 2) (x + l[i] * l[i + 1]) (by omega)
      rw [List.drop_eq_getElem_cons hA, List.drop_eq_getElem_cons hB]
      simp only [dotS]
      rw [← Int.add_assoc]
      exact this
theorem wDot_ev {l : List Int} (hl : l.length < 9000000000000000000) (hr : ∀ x ∈ l, -9223372036854775808 ≤ x ∧ x ≤ 9223372036854775807) (he : l.length % 2 = 0) :
    Ev (fun k => wide_Dot.f k l) (hiw (dotS l), low (dotS l), 0) := by
  have := wDot_l0 l hl hr (l.length / 2) 0 0 (by omega)
  rw [List.drop_zero, Int.zero_add] at this
  refine Ev.congr (f := fun k => wide_Dot.l0 k l ((0 : Nat) : Int) (hiw 0) (low 0)) (fun k => ?_) this
  unfold wide_Dot.f; rw [if_pos (by omega)]; rfl

end Go.Proofs.Ytlnjbpapbifjfaa.WL
