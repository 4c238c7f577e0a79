/- Numbers in as few bytes as they need: what is written, and what is read of any bytes; the document's, too. No condition. -/
import Derived.Test.YtimdikfllbbdoaaPx2
import Derived.Test.YtimdikfllbbdoaaPx14
import Derived.Test.YtimdikfllbbdoaaPx20
import Derived.Test.YtimdikfllbbdoaaPx27
import Derived.Test.YtimdikfllbbdoaaCF
namespace Go.Proofs.Ytimdikfllbbdoaa.Fv
set_option linter.unusedVariables false
set_option linter.unusedSimpArgs false
open Go.RowKit Go.Proofs.Ytimdikfllbbdoaa.P Go.Proofs.Ytimdikfllbbdoaa.C Go.Proofs.YtimdikfllbbdoaaW.PrintWords Go.Proofs.YtimdikfllbbdoaaW.PrintLast Go.Proofs.YtimdikfllbbdoaaW.PrintMore

/-- A number below 128 · 128, as it is written. -/
def putN (n : Nat) : List Int := if n < 128 then [(n : Int)] else [((n % 128 + 128 : Nat) : Int), ((n / 128 : Nat) : Int)]
theorem putN_len (n : Nat) : (putN n).length = if n < 128 then 1 else 2 := by unfold putN; split <;> rfl
theorem putN_wf (n : Nat) (h : n < 16384) : ∀ c ∈ putN n, 0 ≤ c ∧ c ≤ 255 := by
  intro c hc
  unfold putN at hc
  split at hc <;> simp at hc <;> omega
theorem bits_or8 (x y : BitVec 8) : Go.bits .or .u8 (x.toNat : Int) (y.toNat : Int) = ((x ||| y).toNat : Int) := by
  unfold Go.bits
  show IntKind.u8.wrap (((BitVec.ofInt 8 (x.toNat : Int)) ||| (BitVec.ofInt 8 (y.toNat : Int))).toNat : Int) = _
  rw [ofInt_toNat, ofInt_toNat]
  have := (x ||| y).isLt
  show ((x ||| y).toNat : Int) % 256 = _
  omega
theorem bits_and8 (x y : BitVec 8) : Go.bits .and .u8 (x.toNat : Int) (y.toNat : Int) = ((x &&& y).toNat : Int) := by
  unfold Go.bits
  show IntKind.u8.wrap (((BitVec.ofInt 8 (x.toNat : Int)) &&& (BitVec.ofInt 8 (y.toNat : Int))).toNat : Int) = _
  rw [ofInt_toNat, ofInt_toNat]
  have := (x &&& y).isLt
  show ((x &&& y).toNat : Int) % 256 = _
  omega
set_option maxRecDepth 100000 in
theorem or_byte (m : Nat) (h : m < 256) : Go.bits .or .u8 (m : Int) 128 = ((m % 128 + 128 : Nat) : Int) := by
  have h1 : (BitVec.ofNat 8 m).toNat = m := by rw [BitVec.toNat_ofNat]; exact Nat.mod_eq_of_lt h
  have := bits_or8 (BitVec.ofNat 8 m) 128#8
  rw [h1, BitVec.toNat_or, h1] at this
  rw [show ((128 : Int)) = ((128#8).toNat : Int) from rfl, this]
  have t : ∀ m : Fin 256, m.val ||| 128 = m.val % 128 + 128 := by decide
  exact congrArg _ (t ⟨m, h⟩)
theorem and_byte (m : Nat) (h : m < 256) : Go.bits .and .u8 (m : Int) 127 = ((m % 128 : Nat) : Int) := by
  have h1 : (BitVec.ofNat 8 m).toNat = m := by rw [BitVec.toNat_ofNat]; exact Nat.mod_eq_of_lt h
  have := bits_and8 (BitVec.ofNat 8 m) 127#8
  rw [h1, BitVec.toNat_and, h1] at this
  rw [show ((127 : Int)) = ((127#8).toNat : Int) from rfl, this]
  exact congrArg _ (Nat.and_two_pow_sub_one_eq_mod m 7)
theorem u64_small (n : Nat) (h : n < 18446744073709551616) : IntKind.u64.wrap (n : Int) = (n : Int) := by
  show (n : Int) % 18446744073709551616 = _
  omega

theorem w01 : wrap64 (0 + 1) = 1 := by rw [w64 (by omega) (by omega)]; rfl
theorem one_len (x : Int) : ([x] : List Int).length = 1 := rfl

theorem put_ev (n : Nat) (h : n < 16384) : Ev (fun k => vint_Put.f k [IntKind.u64.wrap (n : Int)]) (putN n) := by
  rw [u64_small n (by omega)]
  unfold vint_Put.f
  have last : ∀ x : List Int, Ev (fun k => vint_Put.l0 k x [(n : Int)] 1 1) x := fun x => by
    refine Ev.step (fun k => vint_Put.l0.eq_2 _ _ _ _ _) ?_
    simp only [Int.lt_irrefl, if_false]
    exact Ev.now _
  show Ev (fun k => vint_Put.l0 k [] [(n : Int)] 1 0) (putN n)
  refine Ev.step (fun k => vint_Put.l0.eq_2 _ _ _ _ _) ?_
  simp only [if_pos (show (0 : Int) < 1 by omega), if_pos (show (0 : Int) ≤ 0 by omega), one_len, if_pos (show (0 : Int) < ((1 : Nat) : Int) by omega), show rd [(n : Int)] 0 = (n : Int) from rfl]
  refine Ev.step (fun k => vint_Put.l1.eq_2 _ _ _ _ _ _) ?_
  by_cases hn : n < 128
  · simp only [if_neg (show ¬ ((n : Int) ≥ 128) by omega), List.length_nil, if_pos (show 0 < 140737488355328 by omega), w01, List.nil_append]
    unfold putN
    rw [if_pos hn, show (n : Int) % 256 = (n : Int) by omega]
    exact last _
  · simp only [if_pos (show ((n : Int) ≥ 128) by omega), List.length_nil, if_pos (show 0 < 140737488355328 by omega)]
    refine Ev.step (fun k => vint_Put.l1.eq_2 _ _ _ _ _ _) ?_
    simp only [if_neg (show ¬ ((n : Int) / 128 ≥ 128) by omega), List.nil_append, one_len, if_pos (show 1 < 140737488355328 by omega), w01]
    unfold putN
    rw [if_neg hn]
    have e1 := or_byte (n % 256) (by omega)
    rw [show ((n % 256 : Nat) : Int) = (n : Int) % 256 by omega] at e1
    rw [e1, show (n : Int) / 128 % 256 = ((n / 128 : Nat) : Int) by omega, show n % 256 % 128 = n % 128 by omega]
    exact last _

theorem rput_ev (n : Nat) (h : n < 16384) : Ev (fun k => lapidaryref01_Put.f k (IntKind.u64.wrap (n : Int))) (putN n) := by
  rw [u64_small n (by omega)]
  unfold lapidaryref01_Put.f
  have last : ∀ x : List Int, Ev (fun k => lapidaryref01_Put.l0 k 0 x) x := fun x => by
    refine Ev.step (fun k => lapidaryref01_Put.l0.eq_2 _ _ _) ?_
    simp only [Int.lt_irrefl, if_false, gt_iff_lt]
    exact Ev.now _
  have t1 : Int.tmod (n : Int) 128 % 256 = ((n % 128 : Nat) : Int) := by rw [Int.tmod_eq_emod_of_nonneg (by omega)]; omega
  have d1 : IntKind.u64.wrap (Int.tdiv (n : Int) 128) = ((n / 128 : Nat) : Int) := by
    rw [Int.tdiv_eq_ediv_of_nonneg (by omega), show (n : Int) / 128 = ((n / 128 : Nat) : Int) by omega]
    exact u64_small _ (by omega)
  simp only [t1, d1]
  by_cases hn : n < 128
  · unfold putN
    rw [if_pos hn, show n / 128 = 0 by omega, show n % 128 = n by omega]
    exact last _
  · refine Ev.step (fun k => lapidaryref01_Put.l0.eq_2 _ _ _) ?_
    have d2 : IntKind.u64.wrap (Int.tdiv ((n / 128 : Nat) : Int) 128) = 0 := by
      rw [Int.tdiv_eq_ediv_of_nonneg (by omega), show ((n / 128 : Nat) : Int) / 128 = ((0 : Nat) : Int) by omega]
      rfl
    have t2 : Int.tmod ((n / 128 : Nat) : Int) 128 % 256 = ((n / 128 : Nat) : Int) := by rw [Int.tmod_eq_emod_of_nonneg (by omega)]; omega
    have e0 : wrap64 (((1 : Nat) : Int) - 1) = 0 := by rw [w64 (by omega) (by omega)]; rfl
    have e2 : (rd [((n % 128 : Nat) : Int)] 0 + 128) % 256 = ((n % 128 + 128 : Nat) : Int) := by
      show (((n % 128 : Nat) : Int) + 128) % 256 = _
      omega
    simp only [if_pos (show ((n / 128 : Nat) : Int) > 0 by omega), one_len, e0, if_pos (show (0 : Int) ≤ 0 by omega), if_pos (show (0 : Int) < ((1 : Nat) : Int) by omega), e2, Option.bind_some, d2, t2]
    simp only [if_pos (show (List.set [((n % 128 : Nat) : Int)] (Int.toNat 0) ((n % 128 + 128 : Nat) : Int)).length < 140737488355328 by rw [List.length_set, one_len]; omega)]
    unfold putN
    rw [if_neg hn]
    exact last _

/-- What is read of bytes: the number, how many bytes are read, the error. -/
def gv : List Int → Nat → Nat → Nat × Nat × Int
  | [], i, _ => (0, i, 10)
  | c :: cs, i, n => if 9 < i ∨ i = 9 ∧ 1 < c then (0, i + 1, 11) else if c < 128 then (if c = 0 ∧ 0 < i then (0, i + 1, 11) else (n + c.toNat * 2 ^ (7 * i), i + 1, 0)) else gv cs (i + 1) (n + (c.toNat - 128) * 2 ^ (7 * i))
def gR (a : Nat) (r : Nat × Nat × Int) : Int × Int × Int := if r.2.2 = 0 then ((r.1 : Int), ((a + r.2.1 : Nat) : Int), 0) else (0, 0, r.2.2)

theorem or64g (a c s : Nat) (ha : a < 2 ^ s) (hc : c * 2 ^ s < 18446744073709551616) (hs : s ≤ 63) : Go.bits .or .u64 (a : Int) (shl .u64 (IntKind.u64.wrap (c : Int)) (s : Int)) = ((a + c * 2 ^ s : Nat) : Int) := by
  have hp : 2 ^ s ≤ 2 ^ 63 := Nat.pow_le_pow_right (by decide) hs
  have hc1 : c ≤ c * 2 ^ s := Nat.le_mul_of_pos_right _ (Nat.two_pow_pos s)
  have e1 : shl .u64 (IntKind.u64.wrap (c : Int)) (s : Int) = ((c * 2 ^ s : Nat) : Int) := by
    unfold shl
    rw [Int.toNat_natCast, show min s IntKind.u64.bits = s from Nat.min_eq_left (Nat.le_trans hs (by decide)), u64_small c (by omega)]
    have e : (c : Int) * 2 ^ s = ((c * 2 ^ s : Nat) : Int) := by push_cast; rfl
    rw [e]
    exact u64_small _ hc
  have h1 : (BitVec.ofNat 64 a).toNat = a := by rw [BitVec.toNat_ofNat]; exact Nat.mod_eq_of_lt (by omega)
  have h2 : (BitVec.ofNat 64 (c * 2 ^ s)).toNat = c * 2 ^ s := by rw [BitVec.toNat_ofNat]; exact Nat.mod_eq_of_lt (by omega)
  have h := bits_or64 (BitVec.ofNat 64 a) (BitVec.ofNat 64 (c * 2 ^ s))
  rw [BitVec.toNat_or, h1, h2] at h
  rw [e1, h]
  congr 1
  rw [Nat.or_comm, ← Nat.shiftLeft_eq, ← Nat.shiftLeft_add_eq_or_of_lt ha, Nat.add_comm]

theorem pow_next (i : Nat) : 2 ^ (7 * (i + 1)) = 128 * 2 ^ (7 * i) := by
  rw [show 7 * (i + 1) = 7 + 7 * i by omega, Nat.pow_add]
theorem pow8 (i : Nat) (h : i ≤ 8) : 2 ^ (7 * i) ≤ 2 ^ 56 := Nat.pow_le_pow_right (by decide) (show 7 * i ≤ 56 by omega)
theorem pow_le (i : Nat) (h : i ≤ 9) (h9 : ¬ i = 9) : 2 ^ (7 * (i + 1)) ≤ 2 ^ 63 := Nat.pow_le_pow_right (by decide) (show 7 * (i + 1) ≤ 63 by omega)
theorem hsm_of (c i : Nat) (hi : i ≤ 9) (hc : c ≤ 127) (h9 : i = 9 → c ≤ 1) : c * 2 ^ (7 * i) < 18446744073709551616 := by
  by_cases h : i = 9
  · subst h
    exact Nat.lt_of_le_of_lt (Nat.mul_le_mul_right _ (h9 rfl)) (by decide)
  · exact Nat.lt_of_le_of_lt (Nat.mul_le_mul hc (pow8 i (by omega))) (by decide)
theorem next_lt (n d i : Nat) (hn : n < 2 ^ (7 * i)) (hd : d ≤ 127) : n + d * 2 ^ (7 * i) < 2 ^ (7 * (i + 1)) := by
  rw [pow_next]
  generalize 2 ^ (7 * i) = q at *
  have := Nat.mul_le_mul_right q hd
  omega

theorem get_l0 (a : Nat) (l : List Int) (h : ∀ c ∈ l, 0 ≤ c ∧ c ≤ 255) (hl : a + l.length ≤ 140737488351232) : ∀ m i n : Nat, i + m = l.length → i ≤ 10 → n < 2 ^ (7 * i) → (i = 10 → False) ∨ True →
    Ev (fun k => vint_Get.l0 k (a : Int) (n : Int) (-1) l (l.length : Int) (i : Int)) (gR a (gv (l.drop i) i n)) := by
  intro m
  induction m with
  | zero =>
    intro i n hm hi hn _
    clear hn
    refine Ev.step (fun k => vint_Get.l0.eq_2 _ _ _ _ _ _ _) ?_
    simp only [if_neg (show ¬ ((i : Int) < (l.length : Int)) by omega), if_pos (show (-1 : Int) < 0 by omega)]
    rw [List.drop_eq_nil_of_le (by omega)]
    exact Ev.now _
  | succ m ih =>
    intro i n hm hi hn _
    have HN := Aside0.mk hn
    clear hn
    have hil : i < l.length := by omega
    have hc := h _ (List.getElem_mem hil)
    have hr : rd l (i : Int) = l[i] := by simp [rd, List.getD, List.getElem?_eq_getElem hil]
    refine Ev.step (fun k => vint_Get.l0.eq_2 _ _ _ _ _ _ _) ?_
    simp only [if_pos (show ((i : Int) < (l.length : Int)) by omega), if_pos (show (0 : Int) ≤ (i : Int) by omega), hr]
    rw [List.drop_eq_getElem_cons hil]
    unfold gv
    generalize hcv : l[i] = c at *
    have key : ∀ b : Bool, b = decide (9 < i ∨ i = 9 ∧ 1 < c) → Ev (fun k => vint_Get.j2 k (a : Int) (n : Int) (-1) (i : Int) c l (l.length : Int) (i : Int) b) (gR a (if 9 < i ∨ i = 9 ∧ 1 < c then (0, i + 1, 11) else if c < 128 then (if c = 0 ∧ 0 < i then (0, i + 1, 11) else (n + c.toNat * 2 ^ (7 * i), i + 1, 0)) else gv (l.drop (i + 1)) (i + 1) (n + (c.toNat - 128) * 2 ^ (7 * i)))) := by
      intro b hb
      refine Ev.step (fun k => vint_Get.j2.eq_2 _ _ _ _ _ _ _ _ _ _) ?_
      by_cases hg : 9 < i ∨ i = 9 ∧ 1 < c
      · rw [decide_eq_true hg] at hb
        subst hb
        simp only [if_true, if_pos hg]
        exact Ev.now _
      · rw [decide_eq_false hg] at hb
        subst hb
        have hi9 : i ≤ 9 := by omega
        have w7 : wrap64 (7 * (i : Int)) = ((7 * i : Nat) : Int) := by rw [w64 (by omega) (by omega)]; omega
        have w8 : wrap64 (wrap64 ((a : Int) + (i : Int)) + 1) = ((a + (i + 1) : Nat) : Int) := by rw [w64 (x := (a : Int) + (i : Int)) (by omega) (by omega), w64 (by omega) (by omega)]; omega
        simp only [Bool.false_eq_true, if_false, if_neg hg, w7, w8, if_pos (show (0 : Int) ≤ ((7 * i : Nat) : Int) by omega), if_neg (show ¬ (((a + (i + 1) : Nat) : Int) < 0) by omega)]
        by_cases hc8 : c < 128
        · simp only [if_pos hc8]
          have ho := or64g n c.toNat (7 * i) HN.out (hsm_of c.toNat i hi9 (by omega) (fun h => by omega)) (by omega)
          rw [show ((c.toNat : Nat) : Int) = c by omega] at ho
          rw [ho]
          by_cases h0 : c = 0
          · by_cases hi0 : 0 < i
            · simp only [if_pos h0, if_pos (show (i : Int) > 0 by omega), if_pos (show c = 0 ∧ 0 < i from ⟨h0, hi0⟩)]
              exact Ev.now _
            · simp only [if_pos h0, if_neg (show ¬ ((i : Int) > 0) by omega), if_neg (show ¬ (c = 0 ∧ 0 < i) from fun x => hi0 x.2)]
              exact Ev.now _
          · simp only [if_neg h0, if_neg (show ¬ (c = 0 ∧ 0 < i) from fun x => h0 x.1)]
            exact Ev.now _
        · simp only [if_neg hc8]
          have ha : Go.bits .and .u8 c 127 = ((c.toNat - 128 : Nat) : Int) := by
            have := and_byte c.toNat (by omega)
            rw [show ((c.toNat : Nat) : Int) = c by omega] at this
            rw [this]
            omega
          have hi8 : i ≤ 8 := by
            by_cases h9 : i = 9
            · exact absurd (.inr ⟨h9, by omega⟩) hg
            · omega
          have hd : c.toNat - 128 ≤ 127 := by omega
          have ho := or64g n (c.toNat - 128) (7 * i) HN.out (hsm_of _ i hi9 hd (fun h => by omega)) (by omega)
          have hnx := Aside0.mk (next_lt n (c.toNat - 128) i HN.out hd)
          rw [ha, ho]
          clear ho
          have w1 : wrap64 ((i : Int) + 1) = ((i + 1 : Nat) : Int) := by rw [w64 (by omega) (by omega)]; omega
          rw [w1]
          clear ha w7 w8 w1
          exact ih (i + 1) _ (by omega) (Nat.succ_le_succ hi9) hnx.out (.inr trivial)
    by_cases h9 : 9 < i
    · simp only [if_pos (show (i : Int) > 9 by omega)]
      exact key true (decide_eq_true (.inl h9)).symm
    · simp only [if_neg (show ¬ ((i : Int) > 9) by omega)]
      by_cases h9' : i = 9
      · simp only [if_pos (show (i : Int) = 9 by omega)]
        refine key _ ?_
        by_cases hc1 : c > 1
        · rw [decide_eq_true hc1, decide_eq_true (show 9 < i ∨ i = 9 ∧ 1 < c from .inr ⟨h9', hc1⟩)]
        · rw [decide_eq_false hc1, decide_eq_false (show ¬ (9 < i ∨ i = 9 ∧ 1 < c) from fun x => x.elim (fun x => h9 x) (fun x => hc1 x.2))]
      · simp only [if_neg (show ¬ ((i : Int) = 9) by omega)]
        exact key false (decide_eq_false (show ¬ (9 < i ∨ i = 9 ∧ 1 < c) from fun x => x.elim (fun x => h9 x) (fun x => h9' x.1))).symm

theorem get_ev (b : List Int) (h : ∀ c ∈ b, 0 ≤ c ∧ c ≤ 255) (hl : b.length ≤ 140737488351232) (a : Nat) (ha : a ≤ b.length) : Ev (fun k => vint_Get.f k b (a : Int)) (gR a (gv (b.drop a) 0 0)) := by
  unfold vint_Get.f
  simp only [if_neg (show ¬ ((a : Int) < 0) by omega), decide_eq_false (show ¬ ((a : Int) > (b.length : Int)) by omega)]
  refine Ev.step (fun k => vint_Get.j0.eq_2 _ _ _ _) ?_
  simp only [Bool.false_eq_true, if_false, if_pos (show (0 : Int) ≤ (a : Int) by omega), if_pos (show (a : Int) ≤ (b.length : Int) by omega), Int.toNat_natCast]
  have := get_l0 a (b.drop a) (fun c hc => h c (List.mem_of_mem_drop hc)) (by simp; omega) (b.drop a).length 0 0 (by omega) (by omega) (by decide) (.inr trivial)
  exact this
end Go.Proofs.Ytimdikfllbbdoaa.Fv
