/- The document's reading of a number. No condition. -/
import Derived.Test.YtimdikfllbbdoaaFV
namespace Go.Proofs.Ytimdikfllbbdoaa.Fv
set_option linter.unusedVariables false
set_option linter.unusedSimpArgs false
open Go.RowKit Go.Proofs.Ytimdikfllbbdoaa.P Go.Proofs.Ytimdikfllbbdoaa.C Go.Proofs.YtimdikfllbbdoaaW.PrintWords Go.Proofs.YtimdikfllbbdoaaW.PrintLast Go.Proofs.YtimdikfllbbdoaaW.PrintMore

def vl (b : List Int) (a : Nat) : Nat → Nat
  | 0 => 0
  | j + 1 => vl b a j + (cN b (a + j) % 128) * 2 ^ (7 * j)
theorem vl_lt (b : List Int) (a : Nat) : ∀ j, vl b a j < 2 ^ (7 * j)
  | 0 => Nat.two_pow_pos _
  | j + 1 => next_lt _ _ j (vl_lt b a j) (by omega)

theorem acc_le (x y q : Nat) (T : Nat) (h : x * q + y = T) (hq : 0 < q) : x ≤ T := by
  have := Nat.le_mul_of_pos_right x hq
  omega
theorem get_l1 (b : List Int) (h : ∀ c ∈ b, 0 ≤ c ∧ c ≤ 255) (a p : Nat) (hl : b.length ≤ 140737488351232) (hp : p < b.length) (T : Nat) (hT : T < 18446744073709551616) : ∀ j acc : Nat, a + j ≤ b.length → acc * 2 ^ (7 * j) + vl b a j = T →
    Ev (fun k => lapidaryref01_Get.l1 k b (a : Int) (p : Int) (acc : Int) ((a : Int) + (j : Int) - 1)) ((T : Int), ((p + 1 : Nat) : Int), 0) := by
  intro j
  induction j with
  | zero =>
    intro acc _ hacc
    refine Ev.step (fun k => lapidaryref01_Get.l1.eq_2 _ _ _ _ _ _) ?_
    have e : acc = T := by simpa [vl] using hacc
    subst e
    simp only [if_neg (show ¬ ((a : Int) + ((0 : Nat) : Int) - 1 ≥ (a : Int)) by omega), w64 (x := (p : Int) + 1) (by omega) (by omega)]
    rw [show (p : Int) + 1 = ((p + 1 : Nat) : Int) by omega]
    exact Ev.now _
  | succ j ih =>
    intro acc haj hacc
    refine Ev.step (fun k => lapidaryref01_Get.l1.eq_2 _ _ _ _ _ _) ?_
    have hr := rdN b h (a + j) (by omega)
    have e9 : (a : Int) + ((j + 1 : Nat) : Int) - 1 = ((a + j : Nat) : Int) := by omega
    have hnew : (acc * 128 + cN b (a + j) % 128) * 2 ^ (7 * j) + vl b a j = T := by
      rw [← hacc, pow_next, Nat.add_mul]
      simp only [vl]
      rw [Nat.mul_assoc]
      omega
    have hle := acc_le _ _ _ _ hnew (Nat.two_pow_pos _)
    have I := ih _ (by omega) hnew
    clear hnew hacc ih
    have e2 : Int.tmod ((cN b (a + j) : Nat) : Int) 128 = ((cN b (a + j) % 128 : Nat) : Int) := by rw [Int.tmod_eq_emod_of_nonneg (by omega)]; omega
    have u1 : IntKind.u64.wrap ((acc : Int) * 128) = ((acc * 128 : Nat) : Int) := by
      rw [show (acc : Int) * 128 = ((acc * 128 : Nat) : Int) by omega]
      exact u64_small _ (by omega)
    have u3 : IntKind.u64.wrap (((acc * 128 : Nat) : Int) + ((cN b (a + j) % 128 : Nat) : Int)) = ((acc * 128 + cN b (a + j) % 128 : Nat) : Int) := by
      rw [show ((acc * 128 : Nat) : Int) + ((cN b (a + j) % 128 : Nat) : Int) = ((acc * 128 + cN b (a + j) % 128 : Nat) : Int) by omega]
      exact u64_small _ (by omega)
    simp only [e9, if_pos (show ((a + j : Nat) : Int) ≥ (a : Int) by omega), if_pos (show (0 : Int) ≤ ((a + j : Nat) : Int) by omega), if_pos (show ((a + j : Nat) : Int) < (b.length : Int) by omega), hr, e2, u1, u64_small (cN b (a + j) % 128) (by omega), u3]
    rw [w64 (x := ((a + j : Nat) : Int) - 1) (by omega) (by omega), show ((a + j : Nat) : Int) - 1 = (a : Int) + (j : Int) - 1 by omega]
    exact I

theorem get_r0 (b : List Int) (h : ∀ c ∈ b, 0 ≤ c ∧ c ≤ 255) (a : Nat) (hl : b.length ≤ 140737488351232) : ∀ m i : Nat, a + i + m = b.length → i ≤ 9 →
    Ev (fun k => lapidaryref01_Get.l0 k b (a : Int) ((a + i : Nat) : Int)) (gR a (gv (b.drop (a + i)) i (vl b a i))) := by
  intro m
  induction m with
  | zero =>
    intro i hm hi
    refine Ev.step (fun k => lapidaryref01_Get.l0.eq_2 _ _ _ _) ?_
    simp only [if_neg (show ¬ (((a + i : Nat) : Int) < (b.length : Int)) by omega)]
    refine Ev.step (fun k => lapidaryref01_Get.j2.eq_2 _ _ _ _ _) ?_
    simp only [Bool.false_eq_true, if_false, if_pos (show ((a + i : Nat) : Int) = (b.length : Int) by omega)]
    rw [List.drop_eq_nil_of_le (by omega)]
    exact Ev.now _
  | succ m ih =>
    intro i hm hi
    have hil : a + i < b.length := by omega
    have hr := rdN b h (a + i) hil
    have hc := cN_lt b h (a + i)
    have wx : wrap64 (((a + i : Nat) : Int) - (a : Int)) = (i : Int) := by rw [w64 (by omega) (by omega)]; omega
    refine Ev.step (fun k => lapidaryref01_Get.l0.eq_2 _ _ _ _) ?_
    rw [List.drop_eq_getElem_cons hil, getN b h (a + i) hil]
    unfold gv
    simp only [if_pos (show ((a + i : Nat) : Int) < (b.length : Int) by omega), if_pos (show (0 : Int) ≤ ((a + i : Nat) : Int) by omega), hr, wx, Int.toNat_natCast]
    generalize hcv : cN b (a + i) = c at *
    have hT : i ≤ 9 → c ≤ 127 → (i = 9 → c ≤ 1) → vl b a (i + 1) < 18446744073709551616 := by
      intro h9 hc1 h2
      show vl b a i + (cN b (a + i) % 128) * 2 ^ (7 * i) < _
      by_cases h9' : i = 9
      · have h3 := vl_lt b a i
        subst h9'
        have h4 : c % 128 ≤ 1 := by have := h2 rfl; omega
        rw [hcv]
        have h5 := Nat.mul_le_mul_right (2 ^ (7 * 9)) h4
        have h6 : (2 : Nat) ^ (7 * 9) = 9223372036854775808 := by decide
        rw [h6] at h3 h5 ⊢
        omega
      · exact Nat.lt_of_lt_of_le (vl_lt b a (i + 1)) (Nat.le_trans (pow_le i h9 h9') (by decide))
    have last : c ≤ 127 → (i = 9 → c ≤ 1) → Ev (fun k => lapidaryref01_Get.l1 k b (a : Int) ((a + i : Nat) : Int) 0 ((a + i : Nat) : Int)) (((vl b a i + c * 2 ^ (7 * i) : Nat) : Int), ((a + (i + 1) : Nat) : Int), 0) := by
      intro hc1 h2
      have := get_l1 b h a (a + i) hl hil (vl b a (i + 1)) (hT hi hc1 h2) (i + 1) 0 (by omega) (by omega)
      rw [show (a : Int) + ((i + 1 : Nat) : Int) - 1 = ((a + i : Nat) : Int) by omega] at this
      have e : vl b a (i + 1) = vl b a i + c * 2 ^ (7 * i) := by
        show vl b a i + (cN b (a + i) % 128) * 2 ^ (7 * i) = _
        rw [hcv, Nat.mod_eq_of_lt (by omega)]
      rw [e] at this
      exact this
    have j3 : ∀ (z : Bool), c ≤ 127 → (i = 9 → c ≤ 1) → z = decide ((c : Int) = 0 ∧ 0 < i) → Ev (fun k => lapidaryref01_Get.j3 k b (a : Int) ((a + i : Nat) : Int) z) (gR a (if 9 < i ∨ i = 9 ∧ 1 < (c : Int) then (0, i + 1, 11) else if (c : Int) < 128 then (if (c : Int) = 0 ∧ 0 < i then (0, i + 1, 11) else (vl b a i + c * 2 ^ (7 * i), i + 1, 0)) else gv (b.drop (a + i + 1)) (i + 1) (vl b a i + (c - 128) * 2 ^ (7 * i)))) := by
      intro z hc1 h2 hz
      refine Ev.step (fun k => lapidaryref01_Get.j3.eq_2 _ _ _ _ _) ?_
      rw [if_neg (show ¬ (9 < i ∨ i = 9 ∧ 1 < (c : Int)) by omega), if_pos (show (c : Int) < 128 by omega)]
      by_cases h0 : (c : Int) = 0 ∧ 0 < i
      · rw [decide_eq_true h0] at hz
        subst hz
        simp only [if_true, if_pos h0]
        exact Ev.now _
      · rw [decide_eq_false h0] at hz
        subst hz
        simp only [Bool.false_eq_true, if_false, if_neg h0]
        exact last hc1 h2
    by_cases hc8 : c ≥ 128
    · simp only [if_pos (show (c : Int) ≥ 128 by omega), decide_eq_true (show (i : Int) < 10 by omega)]
      refine Ev.step (fun k => lapidaryref01_Get.j2.eq_2 _ _ _ _ _) ?_
      simp only [if_true, wx]
      by_cases h9 : i = 9
      · simp only [if_pos (show (i : Int) = 9 by omega), if_pos (show 9 < i ∨ i = 9 ∧ 1 < (c : Int) from .inr ⟨h9, by omega⟩)]
        exact Ev.now _
      · simp only [if_neg (show ¬ ((i : Int) = 9) by omega), if_neg (show ¬ (9 < i ∨ i = 9 ∧ 1 < (c : Int)) by omega), if_neg (show ¬ ((c : Int) < 128) by omega)]
        have I := ih (i + 1) (by omega) (by omega)
        rw [w64 (x := ((a + i : Nat) : Int) + 1) (by omega) (by omega), show ((a + i : Nat) : Int) + 1 = ((a + (i + 1) : Nat) : Int) by omega]
        have e : vl b a (i + 1) = vl b a i + (c - 128) * 2 ^ (7 * i) := by
          show vl b a i + (cN b (a + i) % 128) * 2 ^ (7 * i) = _
          rw [hcv, show c % 128 = c - 128 by omega]
        rw [e] at I
        exact I
    · simp only [if_neg (show ¬ ((c : Int) ≥ 128) by omega)]
      refine Ev.step (fun k => lapidaryref01_Get.j2.eq_2 _ _ _ _ _) ?_
      simp only [Bool.false_eq_true, if_false, if_neg (show ¬ (((a + i : Nat) : Int) = (b.length : Int)) by omega), wx, if_pos (show (0 : Int) ≤ ((a + i : Nat) : Int) by omega), if_pos (show ((a + i : Nat) : Int) < (b.length : Int) by omega), hr]
      by_cases h9 : i = 9
      · simp only [if_pos (show (i : Int) = 9 by omega)]
        by_cases hc1 : (c : Int) > 1
        · simp only [if_pos hc1, if_pos (show 9 < i ∨ i = 9 ∧ 1 < (c : Int) from .inr ⟨h9, hc1⟩)]
          refine Ev.step (fun k => lapidaryref01_Get.j3.eq_2 _ _ _ _ _) ?_
          simp only [if_true]
          exact Ev.now _
        · simp only [if_neg hc1, if_pos (show ((a + i : Nat) : Int) > (a : Int) by omega)]
          refine j3 _ (by omega) (fun _ => by omega) ?_
          rw [Bool.eq_iff_iff]
          simp only [beq_iff_eq, decide_eq_true_eq]
          omega
      · simp only [if_neg (show ¬ ((i : Int) = 9) by omega)]
        by_cases hi0 : 0 < i
        · simp only [if_pos (show ((a + i : Nat) : Int) > (a : Int) by omega)]
          refine j3 _ (by omega) (fun x => absurd x h9) ?_
          rw [Bool.eq_iff_iff]
          simp only [beq_iff_eq, decide_eq_true_eq]
          omega
        · simp only [if_neg (show ¬ (((a + i : Nat) : Int) > (a : Int)) by omega)]
          refine j3 _ (by omega) (fun x => absurd x h9) ?_
          rw [decide_eq_false (show ¬ ((c : Int) = 0 ∧ 0 < i) from fun x => hi0 x.2)]

theorem rget_ev (b : List Int) (h : ∀ c ∈ b, 0 ≤ c ∧ c ≤ 255) (hl : b.length ≤ 140737488351232) (a : Nat) (ha : a ≤ b.length) : Ev (fun k => lapidaryref01_Get.f k b (a : Int)) (gR a (gv (b.drop a) 0 0)) := by
  unfold lapidaryref01_Get.f
  simp only [if_neg (show ¬ ((a : Int) < 0) by omega), decide_eq_false (show ¬ ((a : Int) > (b.length : Int)) by omega)]
  refine Ev.step (fun k => lapidaryref01_Get.j0.eq_2 _ _ _ _) ?_
  simp only [Bool.false_eq_true, if_false]
  have := get_r0 b h a hl (b.length - a) 0 (by omega) (by omega)
  exact this
end Go.Proofs.Ytimdikfllbbdoaa.Fv
