/- Wide numbers: what the program's own functions answer, for any words. Points of the plane: which are points, to which side one turns, whether one lies between: what the program's functions answer. Two segments: what they have in common, plainly; what the program's functions along a line answer. Two segments: what the program's function answers. -/
import Derived.Test.YtbonkedecfjmdaaZ8
import Derived.Test.YtbonkedecfjmdaaZ9
import Derived.Laws.BitsLemmas
import Derived.Test.YtbonkedecfjmdaaZ5
import Derived.Test.YtbonkedecfjmdaaZ6
import Derived.Test.YtbonkedecfjmdaaZ7

namespace Go.Proofs.Ytbonkedecfjmdaa.WL
set_option linter.unusedVariables false
set_option linter.unusedSimpArgs false
open Go.RowKit Go.Proofs.Ytbonkedecfjmdaa.P Go.Proofs.Ytbonkedecfjmdaa.X Go.Proofs.YtbonkedecfjmdaaW.PrintWords Go.Proofs.YtbonkedecfjmdaaW.PrintLast Go.Proofs.YtbonkedecfjmdaaW.PrintMore
/-- The high word of a number, with its sign, and the low one. -/
def hiw (x : Int) : Int := (x / 18446744073709551616 + 9223372036854775808) % 18446744073709551616 - 9223372036854775808
def low (x : Int) : Int := x % 18446744073709551616
theorem hiw_range (x : Int) : -9223372036854775808 ≤ hiw x ∧ hiw x ≤ 9223372036854775807 := by unfold hiw; omega
theorem low_range (x : Int) : 0 ≤ low x ∧ low x < 18446744073709551616 := by unfold low; omega
theorem hiw_of {h l : Int} (h1 : -9223372036854775808 ≤ h) (h2 : h ≤ 9223372036854775807) (h3 : 0 ≤ l) (h4 : l < 18446744073709551616) : hiw (h * 18446744073709551616 + l) = h := by unfold hiw; omega
theorem low_of {h l : Int} (h3 : 0 ≤ l) (h4 : l < 18446744073709551616) : low (h * 18446744073709551616 + l) = l := by unfold low; omega
theorem val_mod (x : Int) : (x - (hiw x * 18446744073709551616 + low x)) % 340282366920938463463374607431768211456 = 0 := by unfold hiw low; omega
theorem val_mod' (x : Int) : ((hiw x * 18446744073709551616 + low x) - x) % 340282366920938463463374607431768211456 = 0 := by unfold hiw low; omega
theorem hl_congr {x y : Int} (h : (x - y) % 340282366920938463463374607431768211456 = 0) : hiw x = hiw y ∧ low x = low y := by
  constructor
  · unfold hiw; omega
  · unfold low; omega
theorem hl_eq {x y : Int} : (hiw x == hiw y && (low x == low y)) = true ↔ (x - y) % 340282366920938463463374607431768211456 = 0 := by
  simp only [Bool.and_eq_true, beq_iff_eq]
  unfold hiw low; omega

theorem wraps_u64 (n : Int) (h₀ : 0 ≤ n) (h₁ : n < 2 ^ 64) : IntKind.u64.wrap n = n := by rw [u64w]; omega
theorem and32 {x : Int} (h0 : 0 ≤ x) (h1 : x < 18446744073709551616) : Go.bits .and .u64 x 4294967295 = x % 4294967296 :=
  bits_mask .u64 64 (by decide) wraps_u64 32 (by decide) x h0 h1
theorem mul64_arith (P Q R S : Int) :
    let t := (Q + P / 4294967296)
    let w := (t % 4294967296 + R)
    (S + t / 4294967296 + w / 4294967296) = (S * 18446744073709551616 + (Q + R) * 4294967296 + P) / 18446744073709551616 := by
  intro t w
  omega
theorem mulb32 {x y : Int} (h1 : 0 ≤ x) (h2 : x < 4294967296) (h3 : 0 ≤ y) (h4 : y < 4294967296) : 0 ≤ x * y ∧ x * y ≤ 18446744065119617025 := by
  have := Int.mul_le_mul (show x ≤ 4294967295 by omega) (show y ≤ 4294967295 by omega) h3 (by decide)
  exact ⟨Int.mul_nonneg h1 h3, this⟩
theorem split4 (a1 a0 b1 b0 : Int) : (a1 * 4294967296 + a0) * (b1 * 4294967296 + b0) = a1 * b1 * 18446744073709551616 + (a1 * b0 + a0 * b1) * 4294967296 + a0 * b0 := by grind
theorem Mul64_eq {a b : Int} (ha : 0 ≤ a) (ha' : a < 18446744073709551616) (hb : 0 ≤ b) (hb' : b < 18446744073709551616) :
    bits_Mul64.f a b = some (a * b / 18446744073709551616, a * b % 18446744073709551616) := by
  unfold bits_Mul64.f
  rw [and32 ha ha', and32 hb hb']
  have hprod : a * b = (a / 4294967296) * (b / 4294967296) * 18446744073709551616 + ((a / 4294967296) * (b % 4294967296) + (a % 4294967296) * (b / 4294967296)) * 4294967296 + (a % 4294967296) * (b % 4294967296) := by
    rw [← split4]
    congr 1 <;> omega
  obtain ⟨s0, s1⟩ := mulb32 (x := a / 4294967296) (y := b / 4294967296) (by omega) (by omega) (by omega) (by omega)
  obtain ⟨q0, q1⟩ := mulb32 (x := a / 4294967296) (y := b % 4294967296) (by omega) (by omega) (by omega) (by omega)
  obtain ⟨r0, r1⟩ := mulb32 (x := a % 4294967296) (y := b / 4294967296) (by omega) (by omega) (by omega) (by omega)
  obtain ⟨p0, p1⟩ := mulb32 (x := a % 4294967296) (y := b % 4294967296) (by omega) (by omega) (by omega) (by omega)
  simp only [hprod]
  clear hprod
  generalize (a / 4294967296) * (b / 4294967296) = S at *
  generalize (a / 4294967296) * (b % 4294967296) = Q at *
  generalize (a % 4294967296) * (b / 4294967296) = R at *
  generalize (a % 4294967296) * (b % 4294967296) = P at *
  clear ha ha' hb hb'
  have key := mul64_arith P Q R S
  simp only [] at key
  have w1 : IntKind.u64.wrap P = P := by rw [u64w]; omega
  have w2 : IntKind.u64.wrap Q = Q := by rw [u64w]; omega
  have w3 : IntKind.u64.wrap R = R := by rw [u64w]; omega
  have w4 : IntKind.u64.wrap S = S := by rw [u64w]; omega
  have w5 : IntKind.u64.wrap (Q + P / 4294967296) = Q + P / 4294967296 := by rw [u64w]; omega
  rw [w1, w2, w3, w4, w5, and32 (by omega) (by omega)]
  have w6 : IntKind.u64.wrap ((Q + P / 4294967296) % 4294967296 + R) = (Q + P / 4294967296) % 4294967296 + R := by rw [u64w]; omega
  have w7 : IntKind.u64.wrap (S + (Q + P / 4294967296) / 4294967296) = S + (Q + P / 4294967296) / 4294967296 := by rw [u64w]; omega
  rw [w6, w7, u64w, u64w, key]
  congr 2
  omega
theorem wMul_eq {a b : Int} (h1 : -9223372036854775808 ≤ a) (h2 : a ≤ 9223372036854775807) (h3 : -9223372036854775808 ≤ b) (h4 : b ≤ 9223372036854775807) :
    wide_Mul.f a b = some (hiw (a * b), low (a * b)) := by
  have key : ∀ (u v p : Int), u * v = p → ∀ (da db : Int), a = u - da * 18446744073709551616 → b = v - db * 18446744073709551616 → a * b = p - (da * b + db * a) * 18446744073709551616 - da * db * 340282366920938463463374607431768211456 := by
    intro u v p hp da db e1 e2
    have : u = a + da * 18446744073709551616 := by omega
    have : v = b + db * 18446744073709551616 := by omega
    subst u v p; grind
  unfold wide_Mul.f
  rw [u64w a, u64w b, Mul64_eq (by omega) (by omega) (by omega) (by omega)]
  simp only [Option.bind_some]
  by_cases ha : a < 0
  · by_cases hb : b < 0
    · rw [if_pos ha, if_pos hb]
      have k := key (a % 18446744073709551616) (b % 18446744073709551616) _ rfl 1 1 (by omega) (by omega)
      generalize (a % 18446744073709551616) * (b % 18446744073709551616) = p at *
      generalize a * b = m at *
      rw [u64w, u64w]
      unfold hiw low wrap64
      congr 2 <;> omega
    · rw [if_pos ha, if_neg hb]
      have k := key (a % 18446744073709551616) (b % 18446744073709551616) _ rfl 1 0 (by omega) (by omega)
      generalize (a % 18446744073709551616) * (b % 18446744073709551616) = p at *
      generalize a * b = m at *
      rw [u64w]
      unfold hiw low wrap64
      congr 2 <;> omega
  · by_cases hb : b < 0
    · rw [if_neg ha, if_pos hb]
      have k := key (a % 18446744073709551616) (b % 18446744073709551616) _ rfl 0 1 (by omega) (by omega)
      generalize (a % 18446744073709551616) * (b % 18446744073709551616) = p at *
      generalize a * b = m at *
      rw [u64w]
      unfold hiw low wrap64
      congr 2 <;> omega
    · rw [if_neg ha, if_neg hb]
      have k := key (a % 18446744073709551616) (b % 18446744073709551616) _ rfl 0 0 (by omega) (by omega)
      generalize (a % 18446744073709551616) * (b % 18446744073709551616) = p at *
      generalize a * b = m at *
      unfold hiw low wrap64
      congr 2 <;> omega

theorem wOf_eq {a : Int} (h1 : -9223372036854775808 ≤ a) (h2 : a ≤ 9223372036854775807) : wide_Of.f a = some (hiw a, low a) := by
  unfold wide_Of.f hiw low; rw [u64w]; congr 2; omega
theorem wCmp_eq (x y : Int) : wide_Cmp.f (hiw x) (low x) (hiw y) (low y) = some (cmp3 (off x) (off y)) := by
  have hx := low_range x
  have hy := low_range y
  have ex : off x = (hiw x + 9223372036854775808) * 18446744073709551616 + low x := by unfold off hiw low; omega
  have ey : off y = (hiw y + 9223372036854775808) * 18446744073709551616 + low y := by unfold off hiw low; omega
  unfold wide_Cmp.f cmp3
  rw [ex, ey]
  generalize hiw x = a at *
  generalize low x = b at *
  generalize hiw y = c at *
  generalize low y = d at *
  clear ex ey
  by_cases h : (a == c && (b == d)) = true
  · rw [if_pos h]
    simp only [Bool.and_eq_true, beq_iff_eq] at h
    rw [if_neg (by omega), if_neg (by omega)]
  · rw [if_neg h]
    simp only [Bool.and_eq_true, beq_iff_eq] at h
    by_cases h1 : a < c
    · rw [if_pos h1, if_pos (by omega)]
    · rw [if_neg h1]
      by_cases h2 : a = c
      · rw [if_pos h2]
        by_cases h3 : b < d
        · rw [if_pos h3, if_pos (by omega)]
        · rw [if_neg h3, if_neg (by omega), if_pos (by omega)]
      · rw [if_neg h2, if_neg (by omega), if_pos (by omega)]
theorem wSign_eq (x : Int) : wide_Sign.f (hiw x) (low x) = some (cmp3 (off x) (off 0)) := by
  unfold wide_Sign.f
  have := wCmp_eq x 0
  rw [show hiw 0 = 0 by decide, show low 0 = 0 by decide] at this
  rw [this]; rfl
/-- The sign of a number that lies in the range. -/
theorem sign_of {x : Int} (h1 : -170141183460469231731687303715884105728 ≤ x) (h2 : x < 170141183460469231731687303715884105728) : cmp3 (off x) (off 0) = cmp3 x 0 := by
  unfold cmp3 off; split <;> split <;> first | rfl | omega | (split <;> first | rfl | omega | (split <;> first | rfl | omega))

theorem a64 {x y c : Int} (hx : 0 ≤ x) (hy : 0 ≤ y) (hc : 0 ≤ c) : a64lo x y c = (x + y + c) % 18446744073709551616 ∧ a64hi x y c = (x + y + c) / 18446744073709551616 := by
  unfold a64lo a64hi; omega
abbrev num (x : Int) : S50 := ⟨hiw x, low x⟩
theorem wAdd_l0 : ∀ (n : Nat) (ys : List Int) (i : Nat) (x : Int), i + n = ys.length → ys.length < 9000000000000000000 →
    Ev (fun k => wide_Add.l0 k (ys.map num) (ys.length : Int) (i : Int) (hiw x) (low x)) (hiw (x + (ys.drop i).sum), low (x + (ys.drop i).sum)) := by
  intro n
  induction n with
  | zero =>
    intro ys i x hi hl
    rw [List.drop_of_length_le (by omega)]
    refine Ev.step (f := fun _ => some (hiw x, low x)) (fun k => by simp only [wide_Add.l0]; rw [if_neg (by omega)]) ?_
    simp only [List.sum_nil, Int.add_zero]
    exact Ev.now _
  | succ n ih =>
    intro ys i x hi hl
    have hA : i < ys.length := by omega
    have hrd : rd_T50 (ys.map num) (i : Int) = num ys[i] := by
      unfold rd_T50; rw [List.getD_eq_getElem?_getD, Int.toNat_natCast, List.getElem?_map, List.getElem?_eq_getElem hA]; rfl
    have lx := low_range x
    have ly := low_range ys[i]
    refine Ev.step (f := fun k => wide_Add.l0 k (ys.map num) (ys.length : Int) ((i + 1 : Nat) : Int) (hiw (x + ys[i])) (low (x + ys[i]))) (fun k => ?_) ?_
    · simp only [wide_Add.l0]
      rw [hrd, if_pos (by omega), if_pos (by omega), if_pos (by rw [List.length_map]; omega), w64_succ i (by omega)]
      generalize ys[i] = y at *
      by_cases hz : (((num y).f0) == 0 && (((num y).f1) == 0)) = true
      · rw [if_pos hz]
        have h0 : hiw y = 0 ∧ low y = 0 := by simpa using hz
        have e : hiw (x + y) = hiw x ∧ low (x + y) = low x := by
          unfold hiw low at *; omega
        rw [e.1, e.2]
      · rw [if_neg hz]
        obtain ⟨e1, e2⟩ := a64 lx.1 ly.1 (Int.le_refl 0)
        show (if a64hi (low x) (low y) 0 ≤ 1 then wide_Add.l0 k _ _ _ (wrap64 (a64lo (IntKind.u64.wrap (hiw x)) (IntKind.u64.wrap (hiw y)) (a64hi (low x) (low y) 0))) (a64lo (low x) (low y) 0) else none) = _
        rw [e1, e2, u64w, u64w]
        obtain ⟨e3, _⟩ := a64 (x := hiw x % 18446744073709551616) (y := hiw y % 18446744073709551616) (c := (low x + low y + 0) / 18446744073709551616) (by omega) (by omega) (by omega)
        rw [e3, if_pos (by omega)]
        have g1 : wrap64 ((hiw x % 18446744073709551616 + hiw y % 18446744073709551616 + (low x + low y + 0) / 18446744073709551616) % 18446744073709551616) = hiw (x + y) := by
          unfold wrap64 hiw low; omega
        have g2 : (low x + low y + 0) % 18446744073709551616 = low (x + y) := by unfold low; omega
        rw [g1, g2]
    · have := ih ys (i + 1) (x + ys[i]) (by omega) hl
      rw [List.drop_eq_getElem_cons hA, List.sum_cons, ← Int.add_assoc]
      exact this
theorem wAdds_ev (x : Int) (ys : List Int) (h : ys.length < 9000000000000000000) : Ev (fun k => wide_Add.f k (hiw x) (low x) (ys.map num)) (hiw (x + ys.sum), low (x + ys.sum)) := by
  have := wAdd_l0 ys.length ys 0 x (by omega) h
  refine Ev.congr (f := fun k => wide_Add.l0 k (ys.map num) (ys.length : Int) ((0 : Nat) : Int) (hiw x) (low x)) (fun k => by unfold wide_Add.f; rw [List.length_map]; rfl) ?_
  exact this
theorem wAdd_ev (x y : Int) : Ev (fun k => wide_Add.f k (hiw x) (low x) ([num y] : List S50)) (hiw (x + y), low (x + y)) := by
  have := wAdds_ev x [y] (by simp)
  simpa using this

theorem xor_ones {x : Int} (h0 : 0 ≤ x) (h1 : x < 18446744073709551616) : Go.bits .xor .u64 18446744073709551615 x = 18446744073709551615 - x := by
  obtain ⟨n, rfl⟩ := Int.eq_ofNat_of_zero_le h0
  unfold Go.bits
  have e : (BitVec.ofInt IntKind.u64.bits 18446744073709551615 ^^^ BitVec.ofInt IntKind.u64.bits (n : Int)) = ~~~ (BitVec.ofNat 64 n) := by
    show BitVec.ofInt 64 18446744073709551615 ^^^ BitVec.ofInt 64 (n : Int) = _
    rw [BitVec.ofInt_natCast, show BitVec.ofInt 64 18446744073709551615 = BitVec.allOnes 64 by decide, BitVec.allOnes_xor]
  simp only [e]
  rw [u64w]
  have : (~~~ (BitVec.ofNat 64 n)).toNat = 18446744073709551615 - n := by
    rw [BitVec.toNat_not, BitVec.toNat_ofNat]; omega
  show (((~~~ (BitVec.ofNat 64 n)).toNat : Nat) : Int) % 18446744073709551616 = _
  rw [this]; omega
theorem b64 {x : Int} (h : (Lit.int .i64 x).wf = true) : -9223372036854775808 ≤ x ∧ x ≤ 9223372036854775807 := by
  simpa [Lit.wf, IntKind.min, IntKind.max, IntKind.signed, IntKind.bits] using h
theorem bu64 {x : Int} (h : (Lit.int .u64 x).wf = true) : 0 ≤ x ∧ x < 18446744073709551616 := by
  have : 0 ≤ x ∧ x ≤ 18446744073709551615 := by simpa [Lit.wf, IntKind.min, IntKind.max, IntKind.signed, IntKind.bits] using h
  omega
theorem b32 {x : Int} (h : (Lit.int .i32 x).wf = true) : -2147483648 ≤ x ∧ x ≤ 2147483647 := by
  simpa [Lit.wf, IntKind.min, IntKind.max, IntKind.signed, IntKind.bits] using h
theorem wDot_l0 (l : List Int) (hl : l.length < 9000000000000000000) (hr : ∀ x ∈ l, -9223372036854775808 ≤ x ∧ x ≤ 9223372036854775807) : ∀ (n i : Nat) (x : Int), i + 2 * n = l.length →
    Ev (fun k => wide_Dot.l0 k l (i : Int) (hiw x) (low x)) (hiw (x + dotS (l.drop i)), low (x + dotS (l.drop i)), 0) := by
  intro n
  induction n with
  | zero =>
    intro i x hi
    rw [List.drop_of_length_le (by omega)]
    refine Ev.step (f := fun _ => some (hiw x, low x, 0)) (fun k => by simp only [wide_Dot.l0]; rw [if_neg (by omega)]) ?_
    simp only [dotS, Int.add_zero]
    exact Ev.now _
  | succ n ih =>
    intro i x hi
    have hA : i < l.length := by omega
    have hB : i + 1 < l.length := by omega
    have ra := hr _ (List.getElem_mem hA)
    have rb := hr _ (List.getElem_mem hB)
    have e2 : wrap64 ((i : Int) + 2) = ((i + 2 : Nat) : Int) := by unfold wrap64; omega
    have q1 : (i : Int) < (l.length : Int) := by omega
    have q2 : ((i + 1 : Nat) : Int) < (l.length : Int) := by omega
    refine Ev.step (f := fun k => (wide_Add.f k (hiw x) (low x) ([num (l[i] * l[i + 1])] : List S50)).bind fun bt170 => (wide_Dot.l0 k l ((i + 2 : Nat) : Int) bt170.1 bt170.2)) (fun k => ?_) ?_
    · simp only [wide_Dot.l0]
      rw [w64_succ i (by omega), if_pos q1, if_pos (by omega), if_pos (by omega), if_pos q2, rd_nat l i hA, rd_nat l (i + 1) hB, wMul_eq ra.1 ra.2 rb.1 rb.2, e2]
      rfl
    · refine Ev.bind (wAdd_ev _ _) ?_
      have := ih (i + 2) (x + l[i] * l[i + 1]) (by omega)
      rw [List.drop_eq_getElem_cons hA, List.drop_eq_getElem_cons hB]
      simp only [dotS]
      rw [← Int.add_assoc]
      exact this
theorem wDot_ev {l : List Int} (hl : l.length < 9000000000000000000) (hr : ∀ x ∈ l, -9223372036854775808 ≤ x ∧ x ≤ 9223372036854775807) (he : l.length % 2 = 0) :
    Ev (fun k => wide_Dot.f k l) (hiw (dotS l), low (dotS l), 0) := by
  have := wDot_l0 l hl hr (l.length / 2) 0 0 (by omega)
  rw [List.drop_zero, Int.zero_add] at this
  refine Ev.congr (f := fun k => wide_Dot.l0 k l ((0 : Nat) : Int) (hiw 0) (low 0)) (fun k => ?_) this
  unfold wide_Dot.f; rw [if_pos (by omega)]; rfl

end Go.Proofs.Ytbonkedecfjmdaa.WL

namespace Go.Proofs.Ytbonkedecfjmdaa.G
set_option linter.unusedVariables false
set_option linter.unusedSimpArgs false
open Go.RowKit Go.Proofs.Ytbonkedecfjmdaa.P Go.Proofs.Ytbonkedecfjmdaa.X Go.Proofs.Ytbonkedecfjmdaa.WL Go.Proofs.YtbonkedecfjmdaaW.PrintWords Go.Proofs.YtbonkedecfjmdaaW.PrintLast Go.Proofs.YtbonkedecfjmdaaW.PrintMore
abbrev Pt := S27
/-- A point of the plane. -/
def rt (p : Pt) : Bool := decide (p.f2 = 0 ∧ -2147483648 ≤ p.f0 ∧ p.f0 ≤ 2147483647 ∧ -2147483648 ≤ p.f1 ∧ p.f1 ≤ 2147483647)
theorem rt_iff {p : Pt} : rt p = true ↔ p.f2 = 0 ∧ -2147483648 ≤ p.f0 ∧ p.f0 ≤ 2147483647 ∧ -2147483648 ≤ p.f1 ∧ p.f1 ≤ 2147483647 := by unfold rt; simp
theorem rdp (l : List Pt) (i : Nat) (h : i < l.length) : rd_T27 l (i : Int) = l[i] := by
  unfold rd_T27; rw [List.getD_eq_getElem?_getD, Int.toNat_natCast, List.getElem?_eq_getElem h]; rfl

theorem gRight_l0 (l : List Pt) (hl : l.length ≤ 9223372036854775807) : ∀ (n i : Nat), i + n = l.length → Ev (fun k => geom_Right.l0 k l (l.length : Int) (i : Int)) ((l.drop i).all rt) := by
  intro n
  induction n with
  | zero =>
    intro i hi
    rw [List.drop_of_length_le (by omega)]
    exact Ev.step (f := fun _ => some true) (fun k => by simp only [geom_Right.l0]; rw [if_neg (by omega)]) (Ev.now _)
  | succ n ih =>
    intro i hi
    have hA : i < l.length := by omega
    rw [List.drop_eq_getElem_cons hA, List.all_cons]
    have I := ih (i + 1) (by omega)
    have q1 : (i : Int) < (l.length : Int) := by omega
    by_cases hp : rt l[i] = true
    · rw [hp, Bool.true_and]
      obtain ⟨h1, h2, h3, h4, h5⟩ := rt_iff.1 hp
      refine Ev.step (f := fun k => geom_Right.l0 k l (l.length : Int) ((i + 1 : Nat) : Int)) (fun k => ?_) I
      simp only [geom_Right.l0]
      rw [if_pos q1, if_pos (by omega), if_pos q1, rdp l i hA, if_pos h1, if_neg (by omega), if_neg (by omega), if_neg (by omega), if_neg (by omega), w64_succ i (by omega)]
    · rw [Bool.eq_false_iff.2 hp, Bool.false_and]
      refine Ev.step (f := fun _ => some false) (fun k => ?_) (Ev.now _)
      rw [rt_iff] at hp
      simp only [geom_Right.l0]
      rw [if_pos q1, if_pos (by omega), if_pos q1, rdp l i hA]
      by_cases h1 : l[i].f2 = 0
      · rw [if_pos h1]
        by_cases h2 : l[i].f0 < -2147483648
        · rw [if_pos h2]
        · rw [if_neg h2]
          by_cases h3 : l[i].f0 > 2147483647
          · rw [if_pos h3]
          · rw [if_neg h3]
            by_cases h4 : l[i].f1 < -2147483648
            · rw [if_pos h4]
            · rw [if_neg h4, if_pos (by omega)]
      · rw [if_neg h1]
theorem gRight_ev (l : List Pt) (hl : l.length ≤ 9223372036854775807) : Ev (fun k => geom_Right.f k l) (l.all rt) := by
  have := gRight_l0 l hl l.length 0 (by omega)
  exact Ev.congr (f := fun k => geom_Right.l0 k l (l.length : Int) ((0 : Nat) : Int)) (fun k => by unfold geom_Right.f; rfl) this
/-- Twice the area of three points. -/
def cross (a b c : Pt) : Int := (b.f0 - a.f0) * (c.f1 - a.f1) - (b.f1 - a.f1) * (c.f0 - a.f0)
def side (a b c : Pt) : Int := cmp3 (cross a b c) 0
theorem mulb33 {x y : Int} (h1 : -4294967296 ≤ x) (h2 : x ≤ 4294967296) (h3 : -4294967296 ≤ y) (h4 : y ≤ 4294967296) : -18446744073709551616 ≤ x * y ∧ x * y ≤ 18446744073709551616 := by
  have key : ∀ u v : Int, 0 ≤ u → u ≤ 4294967296 → 0 ≤ v → v ≤ 4294967296 → 0 ≤ u * v ∧ u * v ≤ 18446744073709551616 := fun u v a b c d =>
    ⟨Int.mul_nonneg a c, by have := Int.mul_le_mul b d c (by decide); exact this⟩
  by_cases hx : 0 ≤ x <;> by_cases hy : 0 ≤ y
  · have := key x y hx h2 hy h4; omega
  · have := key x (-y) hx h2 (by omega) (by omega); rw [Int.mul_neg] at this; omega
  · have := key (-x) y (by omega) (by omega) hy h4; rw [Int.neg_mul] at this; omega
  · have := key (-x) (-y) (by omega) (by omega) (by omega) (by omega); rw [Int.neg_mul_neg] at this; omega
theorem cross_two {a b c : Pt} (ha : rt a = true) (hb : rt b = true) (hc : rt c = true) :
    (-18446744073709551616 ≤ (b.f0 - a.f0) * (c.f1 - a.f1) ∧ (b.f0 - a.f0) * (c.f1 - a.f1) ≤ 18446744073709551616) ∧ (-18446744073709551616 ≤ (b.f1 - a.f1) * (c.f0 - a.f0) ∧ (b.f1 - a.f1) * (c.f0 - a.f0) ≤ 18446744073709551616) := by
  obtain ⟨_, a1, a2, a3, a4⟩ := rt_iff.1 ha
  obtain ⟨_, b1, b2, b3, b4⟩ := rt_iff.1 hb
  obtain ⟨_, c1, c2, c3, c4⟩ := rt_iff.1 hc
  exact ⟨mulb33 (by omega) (by omega) (by omega) (by omega), mulb33 (by omega) (by omega) (by omega) (by omega)⟩
theorem gturn_ev {a b c : Pt} (ha : rt a = true) (hb : rt b = true) (hc : rt c = true) : Ev (fun k => geom_turn.f k a.f0 a.f1 a.f2 b.f0 b.f1 b.f2 c.f0 c.f1 c.f2) (side a b c) := by
  obtain ⟨_, a1, a2, a3, a4⟩ := rt_iff.1 ha
  obtain ⟨_, b1, b2, b3, b4⟩ := rt_iff.1 hb
  obtain ⟨_, c1, c2, c3, c4⟩ := rt_iff.1 hc
  obtain ⟨⟨m1, m2⟩, m3, m4⟩ := cross_two ha hb hc
  unfold geom_turn.f
  rw [w64_id (x := b.f0 - a.f0) (by omega) (by omega), w64_id (x := c.f1 - a.f1) (by omega) (by omega), w64_id (x := a.f1 - b.f1) (by omega) (by omega), w64_id (x := c.f0 - a.f0) (by omega) (by omega)]
  have D := wDot_ev (l := [b.f0 - a.f0, c.f1 - a.f1, a.f1 - b.f1, c.f0 - a.f0]) (by simp) (by
    intro x hx
    simp only [List.mem_cons, List.not_mem_nil, or_false] at hx
    rcases hx with rfl | rfl | rfl | rfl <;> omega) (by simp)
  have e : dotS [b.f0 - a.f0, c.f1 - a.f1, a.f1 - b.f1, c.f0 - a.f0] = cross a b c := by
    simp only [dotS, cross]
    rw [show a.f1 - b.f1 = -(b.f1 - a.f1) by omega, Int.neg_mul]
    generalize (b.f0 - a.f0) * (c.f1 - a.f1) = X
    generalize (b.f1 - a.f1) * (c.f0 - a.f0) = Y
    omega
  rw [e] at D
  refine Ev.bind D ?_
  rw [show wide_Sign.f (hiw (cross a b c)) (low (cross a b c)) = some (side a b c) by
    rw [wSign_eq, sign_of (by unfold cross; omega) (by unfold cross; omega)]; rfl]
  exact Ev.now _
theorem cmp_sub {x y : Int} (hx : -18446744073709551616 ≤ x) (hx' : x ≤ 18446744073709551616) (hy : -18446744073709551616 ≤ y) (hy' : y ≤ 18446744073709551616) : cmp3 (off x) (off y) = cmp3 (x - y) 0 := by
  unfold cmp3 off; split <;> split <;> first | rfl | omega | (split <;> first | rfl | omega | (split <;> first | rfl | omega))
/-- Does p lie between a and b? -/
def onB (p a b : Pt) : Bool := rt p && (rt a && (rt b && decide (cross a b p = 0 ∧ (min a.f0 b.f0 ≤ p.f0 ∧ p.f0 ≤ max a.f0 b.f0) ∧ (min a.f1 b.f1 ≤ p.f1 ∧ p.f1 ≤ max a.f1 b.f1))))
theorem side0 {a b c : Pt} : side a b c = 0 ↔ cross a b c = 0 := by unfold side; rw [cmp3_eq0]
theorem cross_swap (a b c : Pt) : cross b a c = -cross a b c := by unfold cross; grind
theorem onB_swap (p a b : Pt) : onB p a b = onB p b a := by
  unfold onB
  have := cross_swap a b p
  rw [Bool.eq_iff_iff]
  simp only [Bool.and_eq_true, decide_eq_true_eq, Int.min_comm b.f0, Int.max_comm b.f0, Int.min_comm b.f1, Int.max_comm b.f1]
  constructor <;> (rintro ⟨h1, h2, h3, h4, h5⟩; exact ⟨h1, h3, h2, by omega, h5⟩)

end Go.Proofs.Ytbonkedecfjmdaa.G

namespace Go.Proofs.Ytbonkedecfjmdaa.G
set_option linter.unusedVariables false
set_option linter.unusedSimpArgs false
open Go.RowKit Go.Proofs.Ytbonkedecfjmdaa.P Go.Proofs.Ytbonkedecfjmdaa.X Go.Proofs.Ytbonkedecfjmdaa.WL Go.Proofs.YtbonkedecfjmdaaW.PrintWords Go.Proofs.YtbonkedecfjmdaaW.PrintLast Go.Proofs.YtbonkedecfjmdaaW.PrintMore
/-- By X, then Y. -/
def key (p : Pt) : Int := p.f0 * 4294967296 + p.f1
theorem key_inj {p q : Pt} (hp : rt p = true) (hq : rt q = true) (h : key p = key q) : p = q := by
  obtain ⟨a0, a1, a2, a3, a4⟩ := rt_iff.1 hp
  obtain ⟨b0, b1, b2, b3, b4⟩ := rt_iff.1 hq
  unfold key at h
  cases p; cases q
  simp only at *
  congr 1 <;> omega
theorem less_eq {a b : Pt} (ha : rt a = true) (hb : rt b = true) : geom_less.f a.f0 a.f1 a.f2 b.f0 b.f1 b.f2 = some (decide (key a < key b)) := by
  obtain ⟨a0, a1, a2, a3, a4⟩ := rt_iff.1 ha
  obtain ⟨b0, b1, b2, b3, b4⟩ := rt_iff.1 hb
  unfold geom_less.f key
  by_cases h1 : a.f0 < b.f0
  · rw [if_pos h1, show decide (a.f0 * 4294967296 + a.f1 < b.f0 * 4294967296 + b.f1) = true by simp; omega]
  · rw [if_neg h1]
    by_cases h2 : a.f0 = b.f0
    · rw [if_pos h2]; congr 1; rw [decide_eq_decide]; omega
    · rw [if_neg h2, show decide (a.f0 * 4294967296 + a.f1 < b.f0 * 4294967296 + b.f1) = false by simp; omega]
def touch (lo hi : Int) : Int := if lo = hi then 1 else if lo < hi then 3 else 0
theorem along_j1 {lo hi : Pt} (hl : rt lo = true) (hh : rt hi = true) : Ev (fun k => geom_along.j1 k lo.f0 lo.f1 lo.f2 hi.f0 hi.f1 hi.f2) (touch (key lo) (key hi)) := by
  refine Ev.step (f := fun _ => some (touch (key lo) (key hi))) (fun k => ?_) (Ev.now _)
  simp only [geom_along.j1, less_eq hl hh, Option.bind_some]
  unfold touch
  by_cases h : key lo = key hi
  · have := key_inj hl hh h
    subst this
    simp
  · rw [if_neg h]
    rw [if_neg (by
      intro e
      simp only [Bool.and_eq_true, beq_iff_eq] at e
      unfold key at h; omega)]
    by_cases h2 : key lo < key hi <;> simp [h2]
theorem along_j0 {d lo hi : Pt} (hd : rt d = true) (hl : rt lo = true) (hh : rt hi = true) : Ev (fun k => geom_along.j0 k d.f0 d.f1 d.f2 lo.f0 lo.f1 lo.f2 hi.f0 hi.f1 hi.f2) (touch (key lo) (min (key d) (key hi))) := by
  by_cases h : key d < key hi
  · refine Ev.step (f := fun k => geom_along.j1 k lo.f0 lo.f1 lo.f2 d.f0 d.f1 d.f2) (fun k => ?_) ?_
    · simp [geom_along.j0, less_eq hd hh, h]
    · rw [show min (key d) (key hi) = key d by omega]; exact along_j1 hl hd
  · refine Ev.step (f := fun k => geom_along.j1 k lo.f0 lo.f1 lo.f2 hi.f0 hi.f1 hi.f2) (fun k => ?_) ?_
    · simp [geom_along.j0, less_eq hd hh, h]
    · rw [show min (key d) (key hi) = key hi by omega]; exact along_j1 hl hh
theorem rising_eq {a b : Pt} (ha : rt a = true) (hb : rt b = true) : ∃ lo hi : Pt, geom_rising.f a.f0 a.f1 a.f2 b.f0 b.f1 b.f2 = some (lo.f0, lo.f1, lo.f2, hi.f0, hi.f1, hi.f2) ∧ rt lo = true ∧ rt hi = true ∧ key lo = min (key a) (key b) ∧ key hi = max (key a) (key b) := by
  unfold geom_rising.f
  rw [less_eq hb ha]
  by_cases h : key b < key a
  · exact ⟨b, a, by simp [h], hb, ha, by omega, by omega⟩
  · exact ⟨a, b, by simp [h], ha, hb, by omega, by omega⟩
theorem along_ev {a b c d : Pt} (ha : rt a = true) (hb : rt b = true) (hc : rt c = true) (hd : rt d = true) :
    Ev (fun k => geom_along.f k a.f0 a.f1 a.f2 b.f0 b.f1 b.f2 c.f0 c.f1 c.f2 d.f0 d.f1 d.f2) (touch (max (min (key a) (key b)) (min (key c) (key d))) (min (max (key a) (key b)) (max (key c) (key d)))) := by
  obtain ⟨l1, h1, e1, r1, s1, k1, m1⟩ := rising_eq ha hb
  obtain ⟨l2, h2, e2, r2, s2, k2, m2⟩ := rising_eq hc hd
  unfold geom_along.f
  simp only [e1, e2, Option.bind_some, less_eq r1 r2]
  by_cases h : key l1 < key l2
  · have J := along_j0 s2 r2 s1
    simp only [h, decide_true, if_true]
    rw [show max (min (key a) (key b)) (min (key c) (key d)) = key l2 by omega, show min (max (key a) (key b)) (max (key c) (key d)) = min (key h2) (key h1) by omega]
    exact J
  · have J := along_j0 s2 r1 s1
    simp only [h, decide_false, Bool.false_eq_true, if_false]
    rw [show max (min (key a) (key b)) (min (key c) (key d)) = key l1 by omega, show min (max (key a) (key b)) (max (key c) (key d)) = min (key h2) (key h1) by omega]
    exact J

def both (x a b c d : Pt) : Bool := onB x a b && onB x c d
def crs (a b c d : Pt) : Prop := side a b c * side a b d < 0 ∧ side c d a * side c d b < 0
def one_ (a b c d : Pt) : Prop := ∃ x, x ∈ [a, b, c, d] ∧ both x a b c d = true
def two_ (a b c d : Pt) : Prop := ∃ x y, x ∈ [a, b, c, d] ∧ y ∈ [a, b, c, d] ∧ both x a b c d = true ∧ both y a b c d = true ∧ x ≠ y
open Classical in
noncomputable def crsV (a b c d : Pt) : Int := if crs a b c d then 2 else 0
open Classical in
noncomputable def meetM (a b c d : Pt) : Int := if two_ a b c d then 3 else if one_ a b c d then 1 else crsV a b c d
open Classical in
noncomputable def meetV (a b c d : Pt) : Int := if (rt a && (rt b && (rt c && rt d))) = true then meetM a b c d else 0
theorem meetM_congr {a b c d a' b' c' d' : Pt} (h2 : two_ a b c d ↔ two_ a' b' c' d') (h1 : one_ a b c d ↔ one_ a' b' c' d') (h0 : crs a b c d ↔ crs a' b' c' d') : meetM a b c d = meetM a' b' c' d' := by
  unfold meetM crsV
  rw [propext h2, propext h1, propext h0]
theorem side_swap (a b c : Pt) : side b a c = -side a b c := by
  unfold side; rw [cross_swap]; unfold cmp3; split <;> split <;> first | rfl | omega | (split <;> first | rfl | omega | (split <;> first | rfl | omega))
theorem both_sets {a b c d a' b' c' d' : Pt} (hb : ∀ x, both x a b c d = both x a' b' c' d') (hm : ∀ x, x ∈ [a, b, c, d] ↔ x ∈ [a', b', c', d']) : (two_ a b c d ↔ two_ a' b' c' d') ∧ (one_ a b c d ↔ one_ a' b' c' d') := by
  constructor
  · constructor
    · rintro ⟨x, y, h1, h2, h3, h4, h5⟩; exact ⟨x, y, (hm x).1 h1, (hm y).1 h2, (hb x).symm.trans h3, (hb y).symm.trans h4, h5⟩
    · rintro ⟨x, y, h1, h2, h3, h4, h5⟩; exact ⟨x, y, (hm x).2 h1, (hm y).2 h2, (hb x).trans h3, (hb y).trans h4, h5⟩
  · constructor
    · rintro ⟨x, h1, h2⟩; exact ⟨x, (hm x).1 h1, (hb x).symm.trans h2⟩
    · rintro ⟨x, h1, h2⟩; exact ⟨x, (hm x).2 h1, (hb x).trans h2⟩
theorem meetM_cd (a b c d : Pt) : meetM c d a b = meetM a b c d := by
  obtain ⟨h2, h1⟩ := both_sets (a := c) (b := d) (c := a) (d := b) (a' := a) (b' := b) (c' := c) (d' := d) (fun x => by unfold both; rw [Bool.and_comm]) (fun x => by simp only [List.mem_cons, List.not_mem_nil, or_false]; constructor <;> (rintro (h | h | h | h) <;> simp [h]))
  exact meetM_congr h2 h1 (by unfold crs; exact ⟨fun h => ⟨h.2, h.1⟩, fun h => ⟨h.2, h.1⟩⟩)
theorem meetM_ba (a b c d : Pt) : meetM b a c d = meetM a b c d := by
  obtain ⟨h2, h1⟩ := both_sets (a := b) (b := a) (c := c) (d := d) (a' := a) (b' := b) (c' := c) (d' := d) (fun x => by unfold both; rw [onB_swap x b a]) (fun x => by simp only [List.mem_cons, List.not_mem_nil, or_false]; constructor <;> (rintro (h | h | h | h) <;> simp [h]))
  refine meetM_congr h2 h1 ?_
  unfold crs
  rw [side_swap a b c, side_swap a b d, Int.neg_mul_neg, Int.mul_comm (side c d b)]
theorem meetM_dc (a b c d : Pt) : meetM a b d c = meetM a b c d := by
  rw [← meetM_cd a b d c, meetM_ba, meetM_cd]

theorem ne_iff {x y : Pt} : (!(x.f0 == y.f0) || (!(x.f1 == y.f1) || (!(x.f2 == y.f2)))) = true ↔ x ≠ y := by
  rcases x with ⟨x0, x1, x2⟩
  rcases y with ⟨y0, y1, y2⟩
  simp only [ne_eq, S27.mk.injEq, Bool.or_eq_true, Bool.not_eq_true', beq_eq_false_iff_ne]
  constructor
  · rintro (h | h | h) <;> (rintro ⟨a, b, c⟩; contradiction)
  · intro h
    by_cases h1 : x0 = y0
    · by_cases h2 : x1 = y1
      · exact .inr (.inr fun h3 => h ⟨h1, h2, h3⟩)
      · exact .inr (.inl h2)
    · exact .inl h1
theorem side_range (a b c : Pt) : -1 ≤ side a b c ∧ side a b c ≤ 1 := by unfold side cmp3; split <;> (try split) <;> omega
theorem side_mul (a b c a' b' c' : Pt) : wrap64 (side a b c * side a' b' c') = side a b c * side a' b' c' := by
  have h := side_range a b c
  have h' := side_range a' b' c'
  have e : side a b c = -1 ∨ side a b c = 0 ∨ side a b c = 1 := by omega
  rcases e with e | e | e <;> rw [e] <;> exact w64_id (by omega) (by omega)
end Go.Proofs.Ytbonkedecfjmdaa.G

namespace Go.Proofs.Ytbonkedecfjmdaa.G
set_option linter.unusedVariables false
set_option linter.unusedSimpArgs false
open Go.RowKit Go.Proofs.Ytbonkedecfjmdaa.P Go.Proofs.Ytbonkedecfjmdaa.X Go.Proofs.Ytbonkedecfjmdaa.WL Go.Proofs.YtbonkedecfjmdaaW.PrintWords Go.Proofs.YtbonkedecfjmdaaW.PrintLast Go.Proofs.YtbonkedecfjmdaaW.PrintMore
theorem onB_iff {p a b : Pt} : onB p a b = true ↔ rt p = true ∧ rt a = true ∧ rt b = true ∧ cross a b p = 0 ∧ (min a.f0 b.f0 ≤ p.f0 ∧ p.f0 ≤ max a.f0 b.f0) ∧ (min a.f1 b.f1 ≤ p.f1 ∧ p.f1 ≤ max a.f1 b.f1) := by
  unfold onB; simp only [Bool.and_eq_true, decide_eq_true_eq]
theorem cross_self1 (a b : Pt) : cross a b a = 0 := by unfold cross; grind
theorem cross_self2 (a b : Pt) : cross a b b = 0 := by unfold cross; grind
theorem onB_left {a b : Pt} (ha : rt a = true) (hb : rt b = true) : onB a a b = true := onB_iff.2 ⟨ha, ha, hb, cross_self1 a b, by omega, by omega⟩
theorem onB_right {a b : Pt} (ha : rt a = true) (hb : rt b = true) : onB b a b = true := onB_iff.2 ⟨hb, ha, hb, cross_self2 a b, by omega, by omega⟩
/-- What runs along one line: by X, then Y. -/
theorem between {D e f g : Int} (hD : 0 < D) (h0 : 0 ≤ e) (h1 : e ≤ D) (h : D * f = g * e) : (0 ≤ g → 0 ≤ f ∧ f ≤ g) ∧ (g ≤ 0 → g ≤ f ∧ f ≤ 0) := by
  constructor
  · intro hg
    have a1 := Int.mul_nonneg hg h0
    have a2 := Int.mul_le_mul_of_nonneg_left h1 hg
    rw [← h] at a1 a2
    rw [Int.mul_comm g D] at a2
    exact ⟨by have := Int.le_of_mul_le_mul_left (a := D) (b := 0) (c := f) (by rw [Int.mul_zero]; exact a1) hD; exact this, Int.le_of_mul_le_mul_left a2 hD⟩
  · intro hg
    have a1 := Int.mul_nonneg (show 0 ≤ -g by omega) h0
    have a2 := Int.mul_le_mul_of_nonneg_left h1 (show 0 ≤ -g by omega)
    rw [Int.neg_mul, ← h] at a1
    rw [Int.neg_mul, Int.neg_mul, ← h, Int.mul_comm g D] at a2
    exact ⟨Int.le_of_mul_le_mul_left (a := D) (by omega) hD, by have := Int.le_of_mul_le_mul_left (a := D) (b := f) (c := 0) (by rw [Int.mul_zero]; omega) hD; exact this⟩
theorem on_key1 {x a b : Pt} (hx : rt x = true) (ha : rt a = true) (hb : rt b = true) (hc : cross a b x = 0) (hab : key a ≤ key b) :
    ((min a.f0 b.f0 ≤ x.f0 ∧ x.f0 ≤ max a.f0 b.f0) ∧ (min a.f1 b.f1 ≤ x.f1 ∧ x.f1 ≤ max a.f1 b.f1)) ↔ (key a ≤ key x ∧ key x ≤ key b) := by
  obtain ⟨_, a1, a2, a3, a4⟩ := rt_iff.1 ha
  obtain ⟨_, b1, b2, b3, b4⟩ := rt_iff.1 hb
  obtain ⟨_, x1, x2, x3, x4⟩ := rt_iff.1 hx
  have h : (b.f0 - a.f0) * (x.f1 - a.f1) = (b.f1 - a.f1) * (x.f0 - a.f0) := by unfold cross at hc; omega
  unfold key at *
  by_cases hD : 0 < b.f0 - a.f0
  · constructor
    · rintro ⟨⟨c1, c2⟩, c3, c4⟩
      constructor
      · by_cases e : x.f0 = a.f0
        · rw [e, Int.sub_self, Int.mul_zero] at h
          have := (Int.mul_eq_zero.1 h).resolve_left (by omega)
          omega
        · omega
      · by_cases e : x.f0 = b.f0
        · rw [e, Int.mul_comm] at h
          have := Int.eq_of_mul_eq_mul_right (by omega) h
          omega
        · omega
    · rintro ⟨c1, c2⟩
      have h0 : 0 ≤ x.f0 - a.f0 := by omega
      have h1 : x.f0 - a.f0 ≤ b.f0 - a.f0 := by omega
      obtain ⟨k1, k2⟩ := between hD h0 h1 h
      by_cases hg : 0 ≤ b.f1 - a.f1
      · have := k1 hg; omega
      · have := k2 (by omega); omega
  · have e : b.f0 = a.f0 := by omega
    omega
theorem on_key {x a b : Pt} (hx : rt x = true) (ha : rt a = true) (hb : rt b = true) (hc : cross a b x = 0) : onB x a b = true ↔ (min (key a) (key b) ≤ key x ∧ key x ≤ max (key a) (key b)) := by
  have base : ∀ {a b : Pt}, rt a = true → rt b = true → cross a b x = 0 → key a ≤ key b → (onB x a b = true ↔ (min (key a) (key b) ≤ key x ∧ key x ≤ max (key a) (key b))) := by
    intro a b ha hb hc h
    rw [onB_iff]
    have := on_key1 hx ha hb hc h
    constructor
    · rintro ⟨_, _, _, _, c⟩; have := this.1 c; omega
    · intro c; exact ⟨hx, ha, hb, hc, this.2 (by omega)⟩
  by_cases h : key a ≤ key b
  · exact base ha hb hc h
  · rw [onB_swap, base hb ha (by rw [cross_swap, hc]; rfl) (by omega)]; omega
/-- Two points that lie on both: all are of one line. -/
theorem one_line {x y a b c d : Pt} (h1 : onB x a b = true) (h2 : onB y a b = true) (h3 : onB x c d = true) (h4 : onB y c d = true) (hne : x ≠ y) : cross a b c = 0 := by
  obtain ⟨rx, _, _, p1, p2⟩ := onB_iff.1 h1
  obtain ⟨ry, _, _, q1, q2⟩ := onB_iff.1 h2
  obtain ⟨_, _, _, r1, r2⟩ := onB_iff.1 h3
  obtain ⟨_, _, _, s1, s2⟩ := onB_iff.1 h4
  obtain ⟨x2, _, _, _, _⟩ := rt_iff.1 rx
  obtain ⟨y2, _, _, _, _⟩ := rt_iff.1 ry
  have hv : x.f0 ≠ y.f0 ∨ x.f1 ≠ y.f1 := by
    refine Classical.byContradiction fun hn => hne ?_
    cases x; cases y
    simp only at *
    congr 1 <;> omega
  have hw : c.f0 ≠ d.f0 ∨ c.f1 ≠ d.f1 := by omega
  clear p2 q2 r2 s2 h1 h2 h3 h4 hne rx ry x2 y2
  unfold cross at *
  generalize hu0 : b.f0 - a.f0 = u0 at *
  generalize hu1 : b.f1 - a.f1 = u1 at *
  generalize hw0 : d.f0 - c.f0 = w0 at *
  generalize hw1 : d.f1 - c.f1 = w1 at *
  -- u × v = 0, w × v = 0, w × e = 0
  have uv : u0 * (y.f1 - x.f1) = u1 * (y.f0 - x.f0) := by
    have e1 : u0 * (y.f1 - x.f1) = u0 * (y.f1 - a.f1) - u0 * (x.f1 - a.f1) := by rw [← Int.mul_sub]; congr 1; omega
    have e2 : u1 * (y.f0 - x.f0) = u1 * (y.f0 - a.f0) - u1 * (x.f0 - a.f0) := by rw [← Int.mul_sub]; congr 1; omega
    omega
  have wv : w0 * (y.f1 - x.f1) = w1 * (y.f0 - x.f0) := by
    have e1 : w0 * (y.f1 - x.f1) = w0 * (y.f1 - c.f1) - w0 * (x.f1 - c.f1) := by rw [← Int.mul_sub]; congr 1; omega
    have e2 : w1 * (y.f0 - x.f0) = w1 * (y.f0 - c.f0) - w1 * (x.f0 - c.f0) := by rw [← Int.mul_sub]; congr 1; omega
    omega
  have we : w0 * (x.f1 - c.f1) = w1 * (x.f0 - c.f0) := by omega
  have ux : u0 * (x.f1 - a.f1) = u1 * (x.f0 - a.f0) := by omega
  have hv' : y.f0 - x.f0 ≠ 0 ∨ y.f1 - x.f1 ≠ 0 := by omega
  have hw' : w0 ≠ 0 ∨ w1 ≠ 0 := by omega
  have ue : u0 * (x.f1 - c.f1) = u1 * (x.f0 - c.f0) → u0 * (c.f1 - a.f1) - u1 * (c.f0 - a.f0) = 0 := by
    intro h
    have e1 : u0 * (c.f1 - a.f1) = u0 * (x.f1 - a.f1) - u0 * (x.f1 - c.f1) := by rw [← Int.mul_sub]; congr 1; omega
    have e2 : u1 * (c.f0 - a.f0) = u1 * (x.f0 - a.f0) - u1 * (x.f0 - c.f0) := by rw [← Int.mul_sub]; congr 1; omega
    omega
  apply ue
  clear ue ux p1 q1 r1 s1 hv hw hu0 hu1 hw0 hw1
  generalize y.f0 - x.f0 = v0 at *
  generalize y.f1 - x.f1 = v1 at *
  generalize x.f0 - c.f0 = e0 at *
  generalize x.f1 - c.f1 = e1 at *
  have uw : u0 * w1 - u1 * w0 = 0 := by
    rcases hv' with h | h
    · have : v0 * (u0 * w1 - u1 * w0) = 0 := by
        have a1 : v0 * (u0 * w1 - u1 * w0) = u0 * (w1 * v0) - w0 * (u1 * v0) := by grind
        rw [a1, ← wv, ← uv]; grind
      exact (Int.mul_eq_zero.1 this).resolve_left h
    · have : v1 * (u0 * w1 - u1 * w0) = 0 := by
        have a1 : v1 * (u0 * w1 - u1 * w0) = w1 * (u0 * v1) - u1 * (w0 * v1) := by grind
        rw [a1, wv, uv]; grind
      exact (Int.mul_eq_zero.1 this).resolve_left h
  have fin : u0 * e1 - u1 * e0 = 0 := by
    rcases hw' with h | h
    · have : w0 * (u0 * e1 - u1 * e0) = 0 := by
        have a1 : w0 * (u0 * e1 - u1 * e0) = u0 * (w0 * e1) - u1 * w0 * e0 := by grind
        rw [a1, we]
        have a2 : u0 * (w1 * e0) - u1 * w0 * e0 = (u0 * w1 - u1 * w0) * e0 := by grind
        rw [a2, uw, Int.zero_mul]
      exact (Int.mul_eq_zero.1 this).resolve_left h
    · have : w1 * (u0 * e1 - u1 * e0) = 0 := by
        have a1 : w1 * (u0 * e1 - u1 * e0) = u0 * w1 * e1 - u1 * (w1 * e0) := by grind
        rw [a1, ← we]
        have a2 : u0 * w1 * e1 - u1 * (w0 * e1) = (u0 * w1 - u1 * w0) * e1 := by grind
        rw [a2, uw, Int.zero_mul]
      exact (Int.mul_eq_zero.1 this).resolve_left h
  omega

theorem two_line {a b c d : Pt} (h : two_ a b c d) : cross a b c = 0 ∧ cross a b d = 0 ∧ cross c d a = 0 ∧ cross c d b = 0 := by
  obtain ⟨x, y, _, _, hx, hy, hne⟩ := h
  unfold both at hx hy
  simp only [Bool.and_eq_true] at hx hy
  have sw : ∀ {p u v : Pt}, onB p u v = true → onB p v u = true := fun h => by rw [onB_swap]; exact h
  exact ⟨one_line hx.1 hy.1 hx.2 hy.2 hne, one_line hx.1 hy.1 (sw hx.2) (sw hy.2) hne, one_line hx.2 hy.2 hx.1 hy.1 hne, one_line hx.2 hy.2 (sw hx.1) (sw hy.1) hne⟩
theorem one_any {a b c d : Pt} (ha : rt a = true) (hb : rt b = true) (hc : rt c = true) (hd : rt d = true) :
    one_ a b c d ↔ (onB a c d = true ∨ onB b c d = true ∨ onB c a b = true ∨ onB d a b = true) := by
  unfold one_ both
  constructor
  · rintro ⟨x, hx, h⟩
    simp only [Bool.and_eq_true] at h
    simp only [List.mem_cons, List.not_mem_nil, or_false] at hx
    rcases hx with rfl | rfl | rfl | rfl
    · exact .inl h.2
    · exact .inr (.inl h.2)
    · exact .inr (.inr (.inl h.1))
    · exact .inr (.inr (.inr h.1))
  · rintro (h | h | h | h)
    · exact ⟨a, by simp, by rw [onB_left ha hb, h]; rfl⟩
    · exact ⟨b, by simp, by rw [onB_right ha hb, h]; rfl⟩
    · exact ⟨c, by simp, by rw [onB_left hc hd, h]; rfl⟩
    · exact ⟨d, by simp, by rw [onB_right hc hd, h]; rfl⟩
theorem along_val {a b c d : Pt} (ha : rt a = true) (hb : rt b = true) (hc : rt c = true) (hd : rt d = true) (h1 : cross a b c = 0) (h2 : cross a b d = 0) (h3 : cross c d a = 0) (h4 : cross c d b = 0) :
    touch (max (min (key a) (key b)) (min (key c) (key d))) (min (max (key a) (key b)) (max (key c) (key d))) = meetM a b c d := by
  have R : ∀ x, x ∈ [a, b, c, d] → rt x = true := fun x hx => by
    simp only [List.mem_cons, List.not_mem_nil, or_false] at hx; rcases hx with rfl | rfl | rfl | rfl <;> assumption
  have B : ∀ x, x ∈ [a, b, c, d] → (both x a b c d = true ↔ (max (min (key a) (key b)) (min (key c) (key d)) ≤ key x ∧ key x ≤ min (max (key a) (key b)) (max (key c) (key d)))) := fun x hx => by
    have rx := R x hx
    have c1 : cross a b x = 0 := by
      simp only [List.mem_cons, List.not_mem_nil, or_false] at hx; rcases hx with rfl | rfl | rfl | rfl
      · exact cross_self1 _ _
      · exact cross_self2 _ _
      · exact h1
      · exact h2
    have c2 : cross c d x = 0 := by
      simp only [List.mem_cons, List.not_mem_nil, or_false] at hx; rcases hx with rfl | rfl | rfl | rfl
      · exact h3
      · exact h4
      · exact cross_self1 _ _
      · exact cross_self2 _ _
    unfold both
    rw [Bool.and_eq_true, on_key rx ha hb c1, on_key rx hc hd c2]; omega
  have hcrs : ¬ crs a b c d := fun h => by
    have : side a b c = 0 := side0.2 h1
    rw [crs, this, Int.zero_mul] at h; exact absurd h.1 (by omega)
  have W : ∀ v : Int, v = key a ∨ v = key b ∨ v = key c ∨ v = key d → ∃ x, x ∈ [a, b, c, d] ∧ key x = v := fun v h => by
    rcases h with h | h | h | h
    · exact ⟨a, by simp, h.symm⟩
    · exact ⟨b, by simp, h.symm⟩
    · exact ⟨c, by simp, h.symm⟩
    · exact ⟨d, by simp, h.symm⟩
  obtain ⟨xl, ml, kl⟩ := W (max (min (key a) (key b)) (min (key c) (key d))) (by omega)
  obtain ⟨xh, mh, kh⟩ := W (min (max (key a) (key b)) (max (key c) (key d))) (by omega)
  have hO : one_ a b c d ↔ max (min (key a) (key b)) (min (key c) (key d)) ≤ min (max (key a) (key b)) (max (key c) (key d)) := by
    constructor
    · rintro ⟨x, hx, h⟩; have := (B x hx).1 h; omega
    · intro h; exact ⟨xl, ml, (B xl ml).2 (by omega)⟩
  have hT : two_ a b c d ↔ max (min (key a) (key b)) (min (key c) (key d)) < min (max (key a) (key b)) (max (key c) (key d)) := by
    constructor
    · rintro ⟨x, y, hx, hy, bx, by_, hne⟩
      have i1 := (B x hx).1 bx
      have i2 := (B y hy).1 by_
      have : key x ≠ key y := fun e => hne (key_inj (R x hx) (R y hy) e)
      omega
    · intro h
      refine ⟨xl, xh, ml, mh, (B xl ml).2 (by omega), (B xh mh).2 (by omega), fun e => ?_⟩
      rw [e] at kl; omega
  unfold meetM crsV touch
  generalize max (min (key a) (key b)) (min (key c) (key d)) = lo at *
  generalize min (max (key a) (key b)) (max (key c) (key d)) = hi at *
  by_cases e1 : lo < hi
  · rw [if_neg (by omega), if_pos e1, if_pos (hT.2 e1)]
  · rw [if_neg (fun h => e1 (hT.1 h))]
    by_cases e2 : lo = hi
    · rw [if_pos e2, if_pos (hO.2 (by omega))]
    · rw [if_neg e2, if_neg e1, if_neg (fun h => e2 (by have := hO.1 h; omega)), if_neg hcrs]
end Go.Proofs.Ytbonkedecfjmdaa.G
