/- What is read of a number hangs on its own bytes alone; the number of what is written; one section's bytes. No condition. -/
import Derived.Test.YtimdikfllbbdoaaPx10
import Derived.Test.YtimdikfllbbdoaaPx24
import Derived.Test.YtimdikfllbbdoaaFW
import Derived.Test.YtimdikfllbbdoaaCH
namespace Go.Proofs.Ytimdikfllbbdoaa.Fv
set_option linter.unusedVariables false
set_option linter.unusedSimpArgs false
open Go.RowKit Go.Proofs.Ytimdikfllbbdoaa.P Go.Proofs.Ytimdikfllbbdoaa.C Go.Proofs.YtimdikfllbbdoaaW.PrintWords Go.Proofs.YtimdikfllbbdoaaW.PrintLast Go.Proofs.YtimdikfllbbdoaaW.PrintMore

theorem gv_cases (c : Int) (cs : List Int) (i n : Nat) : gv (c :: cs) i n = if 9 < i ∨ i = 9 ∧ 1 < c then (0, i + 1, 11) else if c < 128 then (if c = 0 ∧ 0 < i then (0, i + 1, 11) else (n + c.toNat * 2 ^ (7 * i), i + 1, 0)) else gv cs (i + 1) (n + (c.toNat - 128) * 2 ^ (7 * i)) := by rw [gv]
/-- Once it is decided, what stands behind is not looked at. -/
theorem gv_app : ∀ (l r : List Int) (i n : Nat), (gv l i n).2.2 ≠ 10 → gv (l ++ r) i n = gv l i n
  | [], r, i, n, h => absurd rfl h
  | c :: cs, r, i, n, h => by
    rw [List.cons_append, gv_cases, gv_cases]
    rw [gv_cases] at h
    by_cases h1 : 9 < i ∨ i = 9 ∧ 1 < c
    · rw [if_pos h1, if_pos h1]
    · rw [if_neg h1] at h ⊢
      rw [if_neg h1]
      by_cases h2 : c < 128
      · rw [if_pos h2, if_pos h2]
      · rw [if_neg h2] at h ⊢
        rw [if_neg h2]
        exact gv_app cs r _ _ h
/-- What is decided is decided by bytes that are there: as many as it says; fewer do not decide. -/
theorem gv_len : ∀ (l : List Int) (i n : Nat), (gv l i n).2.2 ≠ 10 → i < (gv l i n).2.1 ∧ (gv l i n).2.1 ≤ i + l.length
  | [], i, n, h => absurd rfl h
  | c :: cs, i, n, h => by
    rw [gv_cases] at h ⊢
    by_cases h1 : 9 < i ∨ i = 9 ∧ 1 < c
    · rw [if_pos h1]; exact ⟨Nat.lt_succ_self _, by simp⟩
    · rw [if_neg h1] at h ⊢
      by_cases h2 : c < 128
      · rw [if_pos h2]
        split <;> exact ⟨Nat.lt_succ_self _, by simp⟩
      · rw [if_neg h2] at h ⊢
        have := gv_len cs _ _ h
        simp only [List.length_cons]
        omega
theorem gv_take : ∀ (l : List Int) (i n m : Nat), i + m < (gv l i n).2.1 ∨ (gv l i n).2.2 = 10 → (gv (l.take m) i n).2.2 = 10
  | [], i, n, m, h => by simp [gv]
  | c :: cs, i, n, 0, h => rfl
  | c :: cs, i, n, m + 1, h => by
    rw [List.take_succ_cons, gv_cases]
    rw [gv_cases] at h
    by_cases h1 : 9 < i ∨ i = 9 ∧ 1 < c
    · rw [if_pos h1] at h; rcases h with h | h
      · simp at h <;> omega
      · simp at h
    · rw [if_neg h1] at h ⊢
      by_cases h2 : c < 128
      · rw [if_pos h2] at h
        split at h
        · rcases h with h | h
          · simp at h <;> omega
          · simp at h
        · rcases h with h | h
          · simp at h <;> omega
          · simp at h
      · rw [if_neg h2] at h ⊢
        exact gv_take cs _ _ m (by rcases h with h | h
                                   · left; omega
                                   · right; exact h)
theorem gv_err (l : List Int) (i n : Nat) : (gv l i n).2.2 = 10 ∨ (gv l i n).2.2 = 11 ∨ (gv l i n).2.2 = 0 := by
  induction l generalizing i n with
  | nil => left; rfl
  | cons c cs ih =>
    rw [gv_cases]
    split
    · right; left; rfl
    · split
      · split
        · right; left; rfl
        · right; right; rfl
      · exact ih _ _
/-- What is written is read. -/
theorem gv_put (n : Nat) (h : n < 16384) (r : List Int) : gv (putN n ++ r) 0 0 = (n, (putN n).length, 0) := by
  rw [putN_len]
  unfold putN
  by_cases h1 : n < 128
  · rw [if_pos h1, if_pos h1, List.singleton_append, gv_cases, if_neg (by omega), if_pos (by omega), if_neg (by omega)]
    simp
  · rw [if_neg h1, if_neg h1, List.cons_append, List.singleton_append, gv_cases, if_neg (by omega), if_neg (by omega), gv_cases, if_neg (by omega), if_pos (by omega), if_neg (by omega)]
    simp only [Int.toNat_natCast]
    refine Prod.ext ?_ rfl
    show 0 + (n % 128 + 128 - 128) * 2 ^ (7 * 0) + n / 128 * 2 ^ (7 * (0 + 1)) = n
    have : (2 : Nat) ^ (7 * (0 + 1)) = 128 := by decide
    rw [this]
    simp
    omega
/-- What is read of bytes, if it is not too great, is what is written. -/
theorem put_gv (l : List Int) (h : ∀ c ∈ l, 0 ≤ c ∧ c ≤ 255) (n m : Nat) (hg : gv l 0 0 = (n, m, 0)) (hn : n < 16384) : l.take m = putN n := by
  match l with
  | [] => simp [gv] at hg
  | c :: cs =>
    have hc := h c (List.mem_cons_self)
    rw [gv_cases, if_neg (by omega)] at hg
    by_cases h1 : c < 128
    · rw [if_pos h1, if_neg (by omega)] at hg
      simp at hg
      obtain ⟨rfl, rfl⟩ := hg
      unfold putN
      rw [if_pos (by omega)]
      simp
      omega
    · rw [if_neg h1] at hg
      match cs with
      | [] => simp [gv] at hg
      | d :: ds =>
        have hd := h d (by simp)
        rw [gv_cases, if_neg (by omega)] at hg
        have p7 : (2 : Nat) ^ (7 * (0 + 1)) = 128 := by decide
        rw [p7] at hg
        by_cases h2 : d < 128
        · rw [if_pos h2] at hg
          by_cases h3 : d = 0 ∧ 0 < 0 + 1
          · rw [if_pos h3] at hg; simp at hg
          · rw [if_neg h3] at hg
            simp at hg
            obtain ⟨h4, rfl⟩ := hg
            unfold putN
            rw [if_neg (by omega)]
            simp
            constructor <;> omega
        · rw [if_neg h2] at hg
          exfalso
          have key : ∀ (l : List Int) (i n n' m' : Nat), (∀ c ∈ l, 0 ≤ c ∧ c ≤ 255) → 2 ≤ i → gv l i n = (n', m', 0) → 16384 ≤ n' := by
            intro l
            induction l with
            | nil => intro i n n' m' _ _ hg; simp [gv] at hg
            | cons c cs ih =>
              intro i n n' m' hw hi hg
              have hc := hw c (List.mem_cons_self)
              rw [gv_cases] at hg
              split at hg
              · simp at hg
              · split at hg
                · split at hg
                  · simp at hg
                  · simp at hg
                    have hq : (16384 : Nat) ≤ 2 ^ (7 * i) := Nat.le_trans (by decide) (Nat.pow_le_pow_right (n := 2) (by decide) (show 14 ≤ 7 * i by omega))
                    have hc1 : 1 ≤ c.toNat := by omega
                    have := Nat.mul_le_mul_right (2 ^ (7 * i)) hc1
                    omega
                · exact ih _ _ _ _ (fun c hc => hw c (List.mem_cons_of_mem _ hc)) (by omega) hg
          have := key ds _ _ _ _ (fun c hc => h c (by simp [hc])) (by omega) hg
          omega

/-- The bytes of a section that may be. -/
def secB (k : Int) (B : List Int) : List Int := [k] ++ putN B.length ++ B ++ bytes4 (ofV [[k] ++ putN B.length ++ B])
def oneV (k : Int) (B : List Int) : List Int × Int := if k < 1 ∨ k > 9 then ([], 2) else (secB k B, 0)
theorem pre_wf (k : Int) (B : List Int) (hk : 0 ≤ k ∧ k ≤ 255) (hB : ∀ c ∈ B, 0 ≤ c ∧ c ≤ 255) (hl : B.length < 16384) : ∀ c ∈ [k] ++ putN B.length ++ B, 0 ≤ c ∧ c ≤ 255 := by
  intro c hc
  rcases List.mem_append.1 hc with hc | hc
  · rcases List.mem_append.1 hc with hc | hc
    · simp at hc; subst hc; exact hk
    · exact putN_wf _ hl c hc
  · exact hB c hc
theorem one_ev (k : Int) (B : List Int) (hB : ∀ c ∈ B, 0 ≤ c ∧ c ≤ 255) (hl : B.length ≤ 1900) : Ev (fun n => frame_One.f n k B) (oneV k B) := by
  unfold frame_One.f oneV
  have j0 : ∀ z : Bool, z = decide (k < 1 ∨ k > 9) → Ev (fun n => frame_One.j0 n z k B) (if k < 1 ∨ k > 9 then ([], 2) else (secB k B, 0)) := by
    intro z hz
    refine Ev.step (fun n => frame_One.j0.eq_2 _ _ _ _) ?_
    by_cases h : k < 1 ∨ k > 9
    · rw [decide_eq_true h] at hz
      subst hz
      simp only [if_true, if_pos h]
      exact Ev.now _
    · rw [decide_eq_false h] at hz
      subst hz
      have e : k % 256 = k := by omega
      have hp := putN_len B.length
      have hp2 : (putN B.length).length ≤ 2 := by rw [hp]; split <;> omega
      simp only [Bool.false_eq_true, if_false, if_neg h, if_neg (show ¬ ((B.length : Int) > 1048576) by omega), e]
      refine Ev.bind (a := [k]) (Ev.now _) ?_
      refine Ev.bind (put_ev B.length (by omega)) ?_
      simp only [one_len, if_pos (show 1 + (putN B.length).length < 140737488355328 by omega)]
      refine Ev.bind (a := [k] ++ putN B.length) (Ev.now _) ?_
      simp only [if_pos (show ([k] ++ putN B.length).length + B.length < 140737488355328 by rw [List.length_append, one_len]; omega)]
      refine Ev.bind (a := secB k B) (by rw [seal_f _ (by rw [List.length_append, List.length_append, one_len]; omega)]; exact Ev.now _) ?_
      exact Ev.now _
  by_cases h1 : k < 1
  · simp only [if_pos h1]
    have := j0 true (decide_eq_true (.inl h1)).symm
    exact this
  · simp only [if_neg h1]
    refine j0 _ ?_
    rw [Bool.eq_iff_iff, decide_eq_true_eq, decide_eq_true_eq]
    omega
theorem rone_ev (k : Int) (B : List Int) (hB : ∀ c ∈ B, 0 ≤ c ∧ c ≤ 255) (hl : B.length ≤ 1900) : Ev (fun n => lapidaryref03_One.f n k B) (oneV k B) := by
  unfold lapidaryref03_One.f oneV
  have j0 : ∀ z : Bool, z = decide (k < 1 ∨ k > 9) → Ev (fun n => lapidaryref03_One.j0 n z k B) (if k < 1 ∨ k > 9 then ([], 2) else (secB k B, 0)) := by
    intro z hz
    refine Ev.step (fun n => lapidaryref03_One.j0.eq_2 _ _ _ _) ?_
    by_cases h : k < 1 ∨ k > 9
    · rw [decide_eq_true h] at hz
      subst hz
      simp only [if_true, if_pos h]
      exact Ev.now _
    · rw [decide_eq_false h] at hz
      subst hz
      have e : k % 256 = k := by omega
      have hp := putN_len B.length
      have hp2 : (putN B.length).length ≤ 2 := by rw [hp]; split <;> omega
      simp only [Bool.false_eq_true, if_false, if_neg h, if_neg (show ¬ ((B.length : Int) > 1048576) by omega), e]
      refine Ev.bind (a := [k]) (Ev.now _) ?_
      refine Ev.bind (rput_ev B.length (by omega)) ?_
      simp only [one_len, if_pos (show 1 + (putN B.length).length < 140737488355328 by omega)]
      refine Ev.bind (a := [k] ++ putN B.length) (Ev.now _) ?_
      simp only [if_pos (show ([k] ++ putN B.length).length + B.length < 140737488355328 by rw [List.length_append, one_len]; omega)]
      refine Ev.bind (rseal_ev _ (pre_wf k B (by omega) hB (by omega)) (by rw [List.length_append, List.length_append, one_len]; omega)) ?_
      exact Ev.now _
  by_cases h1 : k < 1
  · simp only [if_pos h1]
    have := j0 true (decide_eq_true (.inl h1)).symm
    exact this
  · simp only [if_neg h1]
    refine j0 _ ?_
    rw [Bool.eq_iff_iff, decide_eq_true_eq, decide_eq_true_eq]
    omega
end Go.Proofs.Ytimdikfllbbdoaa.Fv
