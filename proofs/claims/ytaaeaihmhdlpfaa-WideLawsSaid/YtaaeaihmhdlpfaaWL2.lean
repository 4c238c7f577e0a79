/- Wide numbers, the plain side: what the document's own functions answer (sum, product, 0 less a number, order), for any digits. -/
import Derived.Test.YtaaeaihmhdlpfaaPx2
import Derived.Test.YtaaeaihmhdlpfaaPx5
import Derived.Test.YtaaeaihmhdlpfaaWL1
namespace Go.Proofs.Ytaaeaihmhdlpfaa.WL
set_option linter.unusedVariables false
set_option linter.unusedSimpArgs false
open Go.RowKit Go.Proofs.Ytaaeaihmhdlpfaa.P Go.Proofs.Ytaaeaihmhdlpfaa.X Go.Proofs.YtaaeaihmhdlpfaaW.PrintWords Go.Proofs.YtaaeaihmhdlpfaaW.PrintLast Go.Proofs.YtaaeaihmhdlpfaaW.PrintMore

theorem rd_eq (l : List Int) (i : Int) (h0 : i.toNat < l.length) : rd l i = l[i.toNat] := by
  unfold rd; rw [List.getD_eq_getElem?_getD, List.getElem?_eq_getElem h0]; rfl
theorem hor_range : ∀ l : List Int, (∀ d ∈ l, 0 ≤ d ∧ d < 65536) → 0 ≤ hor l ∧ hor l < 65536 ^ l.length
  | [], _ => by simp [hor]
  | d :: l, h => by
    have h1 := h d (by simp)
    have h2 := hor_range l fun x hx => h x (by simp [hx])
    simp only [hor, List.length_cons, Int.pow_succ]
    generalize (65536 : Int) ^ l.length = P at h2 ⊢
    omega
theorem hor_take : ∀ (l : List Int) (n : Nat) (h : n < l.length), hor (l.take (n + 1)) = hor (l.take n) + l[n] * 65536 ^ n
  | [], n, h => by simp at h
  | d :: l, 0, _ => by simp [hor]
  | d :: l, n + 1, h => by
    have h' : n < l.length := by simpa using h
    have ih := hor_take l n h'
    simp only [List.take_succ_cons, hor, List.getElem_cons_succ]
    rw [ih, Int.pow_succ]
    rw [Int.mul_add, show l[n] * ((65536 : Int) ^ n * 65536) = 65536 * (l[n] * 65536 ^ n) by rw [← Int.mul_assoc, Int.mul_comm]]
    omega
theorem hor_digs_mod (n : Nat) (x : Int) : hor (digs n x) = x % 65536 ^ n := by
  obtain ⟨q, hq⟩ := hor_digs n x
  have hr := hor_range (digs n x) (digs_range n x)
  rw [digs_len] at hr
  have e : x = hor (digs n x) + q * 65536 ^ n := by omega
  generalize hor (digs n x) = H at *
  rw [e, Int.add_mul_emod_self_right]
  exact (Int.emod_eq_of_lt hr.1 hr.2).symm

/-! ### Cmp -/
def cmp3 (a b : Int) : Int := if a < b then -1 else if b < a then 1 else 0
theorem Cmp_j1 (k : Nat) (i x y : Int) (a b : List Int) : lapidaryref08_Cmp.j1 (k + 1) i x y a b = if x < y then some (-1) else if x > y then some 1 else lapidaryref08_Cmp.l0 k (wrap64 (i - 1)) a b := by
  simp only [lapidaryref08_Cmp.j1]
theorem Cmp_l0 : ∀ (n k : Nat) (a b : List Int), n ≤ 7 → a.length = 8 → b.length = 8 → (∀ d ∈ a, 0 ≤ d ∧ d < 65536) → (∀ d ∈ b, 0 ≤ d ∧ d < 65536) → 2 * n < k →
    lapidaryref08_Cmp.l0 k ((n : Int) - 1) a b = some (cmp3 (hor (a.take n)) (hor (b.take n))) := by
  intro n
  induction n with
  | zero =>
    intro k a b _ _ _ _ _ hk
    obtain ⟨k, rfl⟩ : ∃ m, k = m + 1 := ⟨k - 1, by omega⟩
    simp only [lapidaryref08_Cmp.l0]; rw [if_neg (by omega)]; simp [hor, cmp3]
  | succ n ih =>
    intro k a b hn ha hb hda hdb hk
    obtain ⟨k, rfl⟩ : ∃ m, k = m + 2 := ⟨k - 2, by omega⟩
    simp only [lapidaryref08_Cmp.l0]
    rw [if_pos (by omega), if_pos (by omega), if_pos (by omega), if_pos (by omega), if_neg (by omega), Cmp_j1]
    have hA : n < a.length := by omega
    have hB : n < b.length := by omega
    have e1 : (((n + 1 : Nat) : Int) - 1).toNat = n := by omega
    rw [rd_eq a _ (by omega), rd_eq b _ (by omega)]
    simp only [e1]
    rw [hor_take a n hA, hor_take b n hB, show wrap64 (((n + 1 : Nat) : Int) - 1 - 1) = (n : Int) - 1 by unfold wrap64; omega]
    rw [ih k a b (by omega) ha hb hda hdb (by omega)]
    have u := hor_range (a.take n) fun d hd => hda d (List.mem_of_mem_take hd)
    have v := hor_range (b.take n) fun d hd => hdb d (List.mem_of_mem_take hd)
    rw [show (a.take n).length = n by simp; omega] at u
    rw [show (b.take n).length = n by simp; omega] at v
    generalize hor (a.take n) = U at *
    generalize hor (b.take n) = V at *
    generalize a[n] = X at *
    generalize b[n] = Y at *
    have hP : (0 : Int) < 65536 ^ n := Int.pow_pos (by decide)
    generalize (65536 : Int) ^ n = P at *
    unfold cmp3
    by_cases h1 : X < Y
    · have := Int.mul_le_mul_of_nonneg_right (show X + 1 ≤ Y by omega) (Int.le_of_lt hP)
      rw [Int.add_mul] at this
      rw [if_pos h1, if_pos (by omega)]
    · by_cases h2 : Y < X
      · have := Int.mul_le_mul_of_nonneg_right (show Y + 1 ≤ X by omega) (Int.le_of_lt hP)
        rw [Int.add_mul] at this
        rw [if_neg h1, if_pos h2, if_neg (by omega), if_pos (by omega)]
      · have : X = Y := by omega
        subst this
        rw [if_neg h1, if_neg h2]
        congr 1
        generalize X * P = Q
        split <;> split <;> first | rfl | omega | (split <;> first | rfl | omega)
def off (x : Int) : Int := (x + 170141183460469231731687303715884105728) % 340282366920938463463374607431768211456
theorem top_turned (x : Int) : hor (digs 7 x) + ((x / 65536 / 65536 / 65536 / 65536 / 65536 / 65536 / 65536 % 65536 + 32768) % 65536) * 65536 ^ 7 = off x := by
  rw [hor_digs_mod]
  have : (65536 : Int) ^ 7 = 5192296858534827628530496329220096 := by decide
  rw [this]; unfold off; omega
theorem Cmp_ev (x y : Int) : Ev (fun k => lapidaryref08_Cmp.f k (dig x) (dig y)) (cmp3 (off x) (off y)) := ⟨20, fun k hk => by
  obtain ⟨k, rfl⟩ : ∃ m, k = m + 2 := ⟨k - 2, by omega⟩
  show lapidaryref08_Cmp.f (k + 2) (dig x) (dig y) = _
  unfold lapidaryref08_Cmp.f
  simp only [lapidaryref08_Cmp.l0]
  have lx : (dig x).length = 8 := digs_len 8 x
  have ly : (dig y).length = 8 := digs_len 8 y
  have rx := digs_range 8 x
  have ry := digs_range 8 y
  rw [if_pos (by omega), if_pos (by omega), if_pos (by omega), if_pos (by omega), if_pos True.intro]
  have ex : rd (dig x) 7 = x / 65536 / 65536 / 65536 / 65536 / 65536 / 65536 / 65536 % 65536 := rfl
  have ey : rd (dig y) 7 = y / 65536 / 65536 / 65536 / 65536 / 65536 / 65536 / 65536 % 65536 := rfl
  rw [ex, ey, w64_id (by omega) (by omega), w64_id (by omega) (by omega), tmod_nn (by omega), tmod_nn (by omega), Cmp_j1, show wrap64 (7 - 1) = ((7 : Nat) : Int) - 1 by unfold wrap64; omega]
  rw [Cmp_l0 7 k (dig x) (dig y) (by omega) lx ly rx ry (by omega)]
  have tx := top_turned x
  have ty := top_turned y
  have u := hor_range (digs 7 x) (digs_range 7 x)
  have v := hor_range (digs 7 y) (digs_range 7 y)
  rw [show List.take 7 (dig x) = digs 7 x from rfl, show List.take 7 (dig y) = digs 7 y from rfl]
  rw [digs_len] at u v
  rw [← tx, ← ty]
  have e7 : (65536 : Int) ^ 7 = 5192296858534827628530496329220096 := by decide
  rw [e7] at *
  generalize hor (digs 7 x) = U at *
  generalize hor (digs 7 y) = V at *
  generalize (x / 65536 / 65536 / 65536 / 65536 / 65536 / 65536 / 65536 % 65536 + 32768) % 65536 = X at *
  generalize (y / 65536 / 65536 / 65536 / 65536 / 65536 / 65536 / 65536 % 65536 + 32768) % 65536 = Y at *
  unfold cmp3
  by_cases h1 : X < Y
  · rw [if_pos h1, if_pos (by omega)]
  · by_cases h2 : X > Y
    · rw [if_neg h1, if_pos h2, if_neg (by omega), if_pos (by omega)]
    · rw [if_neg h1, if_neg h2]
      congr 1
      split <;> split <;> first | rfl | omega | (split <;> first | rfl | omega)⟩
theorem cmp3_eq0 (a b : Int) : cmp3 a b = 0 ↔ a = b := by unfold cmp3; split <;> (try split) <;> omega
theorem off_eq {x y : Int} : off x = off y ↔ (x - y) % 340282366920938463463374607431768211456 = 0 := by unfold off; omega

/-! ### Is -/
theorem Is_ev {x hi lo : Int} (h1 : -9223372036854775808 ≤ hi) (h2 : hi ≤ 9223372036854775807) (h3 : 0 ≤ lo) (h4 : lo < 18446744073709551616) (h : (x - (hi * 18446744073709551616 + lo)) % 340282366920938463463374607431768211456 = 0) :
    Ev (fun k => lapidaryref08_Is.f k (dig x) hi lo) true := by
  unfold lapidaryref08_Is.f
  refine Ev.bind (f := fun n t => (lapidaryref08_Cmp.f n (dig x) t).bind fun t131 => (some (t131 == 0))) (From_ev h1 h2 h3 h4) ?_
  refine Ev.bind (f := fun n t => some (t == 0)) (Cmp_ev _ _) ?_
  rw [(cmp3_eq0 _ _).2 (off_eq.2 h)]
  exact Ev.now true
end Go.Proofs.Ytaaeaihmhdlpfaa.WL
