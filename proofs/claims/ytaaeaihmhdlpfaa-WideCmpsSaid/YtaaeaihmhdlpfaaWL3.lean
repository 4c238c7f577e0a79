/- Wide numbers, the plain side: sums, products, 0 less a number, and sums of products, as the document's own functions reckon them, for any numbers. -/
import Derived.Test.YtaaeaihmhdlpfaaPx12
import Derived.Test.YtaaeaihmhdlpfaaPx7
import Derived.Test.YtaaeaihmhdlpfaaPx16
import Derived.Test.YtaaeaihmhdlpfaaWL2
namespace Go.Proofs.Ytaaeaihmhdlpfaa.WL
set_option linter.unusedVariables false
set_option linter.unusedSimpArgs false
open Go.RowKit Go.Proofs.Ytaaeaihmhdlpfaa.P Go.Proofs.Ytaaeaihmhdlpfaa.X Go.Proofs.YtaaeaihmhdlpfaaW.PrintWords Go.Proofs.YtaaeaihmhdlpfaaW.PrintLast Go.Proofs.YtaaeaihmhdlpfaaW.PrintMore

theorem w64_succ (n : Nat) (h : n < 9000000000000000000) : wrap64 ((n : Int) + 1) = ((n + 1 : Nat) : Int) := by unfold wrap64; omega
theorem rd_nat (l : List Int) (i : Nat) (h : i < l.length) : rd l (i : Int) = l[i] := rd_eq l i (by simpa using h)

/-! ### Add -/
theorem hor_zip : ∀ a b : List Int, a.length = b.length → hor (List.zipWith (· + ·) a b) = hor a + hor b
  | [], [], _ => rfl
  | x :: a, y :: b, h => by
    simp only [List.zipWith, hor, hor_zip a b (by simpa using h)]; omega
  | [], _ :: _, h => by simp at h
  | _ :: _, [], h => by simp at h
theorem Add_l0 : ∀ (n : Nat) (acc a b : List Int) (i : Nat), i + n = 8 → acc.length = i → a.length = 8 → b.length = 8 → (∀ d ∈ a, 0 ≤ d ∧ d < 65536) → (∀ d ∈ b, 0 ≤ d ∧ d < 65536) → (∀ d ∈ acc, 0 ≤ d ∧ d ≤ 9000000000000000000) →
    Ev (fun k => lapidaryref08_Add.l0 k acc (i : Int) a b) (dig (hor (acc ++ List.zipWith (· + ·) (a.drop i) (b.drop i)))) := by
  intro n
  induction n with
  | zero =>
    intro acc a b i hi hl ha hb hda hdb hacc
    obtain rfl : i = 8 := by omega
    refine Ev.step (f := fun k => (lapidaryref08_settled.f k acc).bind fun t217 => (some t217)) (fun k => by simp only [lapidaryref08_Add.l0]; rw [if_neg (by omega)]) ?_
    rw [List.drop_of_length_le (by omega), List.zipWith_nil_left, List.append_nil]
    exact Ev.bind (f := fun _ t => some t) (settled_ev hl hacc) (Ev.now _)
  | succ n ih =>
    intro acc a b i hi hl ha hb hda hdb hacc
    have hA : i < a.length := by omega
    have hB : i < b.length := by omega
    have ra := hda _ (List.getElem_mem hA)
    have rb := hdb _ (List.getElem_mem hB)
    refine Ev.step (f := fun k => lapidaryref08_Add.l0 k (acc ++ [a[i] + b[i]]) ((i + 1 : Nat) : Int) a b) (fun k => ?_) ?_
    · simp only [lapidaryref08_Add.l0]
      rw [if_pos (by omega), if_pos (by omega), if_pos (by omega), if_pos (by omega), if_pos (by omega), rd_nat a i hA, rd_nat b i hB, w64_id (by omega) (by omega), w64_succ i (by omega)]
    · have := ih (acc ++ [a[i] + b[i]]) a b (i + 1) (by omega) (by simp; omega) ha hb hda hdb (fun d hd => by
        simp only [List.mem_append, List.mem_singleton] at hd
        rcases hd with hd | rfl
        · exact hacc d hd
        · omega)
      rw [List.drop_eq_getElem_cons hA, List.drop_eq_getElem_cons hB, List.zipWith_cons_cons]
      rw [List.append_assoc] at this
      exact this
theorem Add_ev (x y : Int) : Ev (fun k => lapidaryref08_Add.f k (dig x) (dig y)) (dig (x + y)) := by
  have := Add_l0 8 [] (dig x) (dig y) 0 rfl rfl (digs_len _ _) (digs_len _ _) (digs_range _ _) (digs_range _ _) (by simp)
  rw [List.drop_zero, List.drop_zero, List.nil_append, hor_zip _ _ (by rw [digs_len, digs_len])] at this
  obtain ⟨q, hq⟩ := hor_digs 8 x
  obtain ⟨p, hp⟩ := hor_digs 8 y
  have e : dig (hor (dig x) + hor (dig y)) = dig (x + y) := digs_congr ⟨-q - p, by
    show hor (digs 8 x) + hor (digs 8 y) = _
    rw [hq, hp, Int.sub_mul, Int.neg_mul]; omega⟩
  rw [e] at this
  exact this

/-! ### Mul -/
theorem hor_set : ∀ (l : List Int) (n : Nat) (v : Int) (h : n < l.length), hor (l.set n v) = hor l + (v - l[n]) * 65536 ^ n
  | [], n, v, h => by simp at h
  | d :: l, 0, v, _ => by simp [hor]; omega
  | d :: l, n + 1, v, h => by
    have h' : n < l.length := by simpa using h
    have ih := hor_set l n v h'
    simp only [List.set_cons_succ, hor, List.getElem_cons_succ, ih, Int.pow_succ]
    grind
theorem ring1 (h x p y T : Int) : h + x * p * y + T = h + T + x * y * p := by grind
theorem ring2 (h D x y P H T : Int) : h + (D + x * y - D) * P + x * (P * 65536) * H + T = h + x * P * (y + 65536 * H) + T := by grind
theorem ring3 (h x P B H : Int) : h + x * P * B + P * 65536 * H * B = h + P * (x + 65536 * H) * B := by grind
theorem mulb {x y : Int} (h1 : 0 ≤ x) (h2 : x < 65536) (h3 : 0 ≤ y) (h4 : y < 65536) : 0 ≤ x * y ∧ x * y ≤ 4294836225 := by
  have := Int.mul_le_mul (show x ≤ 65535 by omega) (show y ≤ 65535 by omega) h3 (by decide)
  exact ⟨Int.mul_nonneg h1 h3, this⟩
theorem Mul_in (a b : List Int) (ha : a.length = 8) (hb : b.length = 8) (hda : ∀ d ∈ a, 0 ≤ d ∧ d < 65536) (hdb : ∀ d ∈ b, 0 ≤ d ∧ d < 65536) (i : Nat) (hi : i < 8) (T : Int)
    (out : ∀ (d : List Int) (c : Int), d.length = 8 → (∀ x ∈ d, 0 ≤ x ∧ x ≤ c) → c + (7 - (i : Int)) * 9 * 4294836225 ≤ 9000000000000000000 → Ev (fun k => lapidaryref08_Mul.l0 k d ((i + 1 : Nat) : Int) a b) (dig (hor d + T))) :
    ∀ (n kk : Nat) (d : List Int) (c : Int), i + kk + n = 8 → d.length = 8 → (∀ x ∈ d, 0 ≤ x ∧ x ≤ c) → c + ((n : Int) + (7 - (i : Int)) * 9) * 4294836225 ≤ 9000000000000000000 →
      Ev (fun k => lapidaryref08_Mul.l1 k d (i : Int) (kk : Int) a b) (dig (hor d + a[i] * 65536 ^ (i + kk) * hor (b.drop kk) + T)) := by
  intro n
  induction n with
  | zero =>
    intro kk d c hk hd hr hc
    refine Ev.step (f := fun k => lapidaryref08_Mul.l0 k d ((i + 1 : Nat) : Int) a b) (fun k => ?_) ?_
    · simp only [lapidaryref08_Mul.l1]
      rw [show wrap64 ((i : Int) + kk) = 8 by unfold wrap64; omega, if_neg (by omega), w64_succ i (by omega)]
    · have e : dig (hor d + a[i] * 65536 ^ (i + kk) * hor (b.drop kk) + T) = dig (hor d + T) := digs_congr ⟨a[i] * hor (b.drop kk), by
        rw [show i + kk = 8 by omega]; exact ring1 _ _ _ _ _⟩
      rw [e]
      exact out d c hd hr (by omega)
  | succ n ih =>
    intro kk d c hk hd hr hc
    have hA : i < a.length := by omega
    have hB : kk < b.length := by omega
    have hD : i + kk < d.length := by omega
    have ra := hda _ (List.getElem_mem hA)
    have rb := hdb _ (List.getElem_mem hB)
    have rD := hr _ (List.getElem_mem hD)
    obtain ⟨hm0, hm1⟩ := mulb ra.1 ra.2 rb.1 rb.2
    have q1 : ((i + kk : Nat) : Int) < 8 := by clear hm0 hm1 rD hc hr; omega
    have q2 : (0 : Int) ≤ ((i + kk : Nat) : Int) := by clear hm0 hm1 rD hc hr; omega
    have q3 : ((i + kk : Nat) : Int) < (d.length : Int) := by clear hm0 hm1 rD hc hr; omega
    have q4 : (0 : Int) ≤ (i : Int) := by clear hm0 hm1 rD hc hr; omega
    have q5 : (i : Int) < (a.length : Int) := by clear hm0 hm1 rD hc hr; omega
    have q6 : (0 : Int) ≤ (kk : Int) := by clear hm0 hm1 rD hc hr; omega
    have q7 : (kk : Int) < (b.length : Int) := by clear hm0 hm1 rD hc hr; omega
    have q8 : wrap64 ((i : Int) + kk) = ((i + kk : Nat) : Int) := by clear hm0 hm1 rD hc hr; unfold wrap64; omega
    have q9 : wrap64 ((kk : Int) + 1) = ((kk + 1 : Nat) : Int) := w64_succ kk (by clear hm0 hm1 rD hc hr; omega)
    have hc1 : c + 4294836225 ≤ 9000000000000000000 := by clear hm0 hm1 rD hr q1 q2 q3 q4 q5 q6 q7 q8 q9; omega
    have hc2 : c + 4294836225 + ((n : Int) + (7 - (i : Int)) * 9) * 4294836225 ≤ 9000000000000000000 := by clear hm0 hm1 rD hr q1 q2 q3 q4 q5 q6 q7 q8 q9; omega
    have q10 : wrap64 (a[i] * b[kk]) = a[i] * b[kk] := by clear hc hc2; exact w64_id (Int.le_trans (by decide) hm0) (Int.le_trans hm1 (by decide))
    have q11 : wrap64 (d[i + kk] + a[i] * b[kk]) = d[i + kk] + a[i] * b[kk] := w64_id (Int.le_trans (by decide) (Int.add_nonneg rD.1 hm0)) (Int.le_trans (Int.add_le_add rD.2 hm1) (Int.le_trans hc1 (by decide)))
    refine Ev.step (f := fun k => lapidaryref08_Mul.l1 k (d.set (i + kk) (d[i + kk] + a[i] * b[kk])) (i : Int) ((kk + 1 : Nat) : Int) a b) (fun k => ?_) ?_
    · simp only [lapidaryref08_Mul.l1]
      rw [q8, if_pos q1, if_pos q2, if_pos q3, if_pos q4, if_pos q5, if_pos q6, if_pos q7, rd_nat a i hA, rd_nat b kk hB, rd_nat d (i + kk) hD, q10, q11, q9, Int.toNat_natCast]
    · have := ih (kk + 1) (d.set (i + kk) (d[i + kk] + a[i] * b[kk])) (c + 4294836225) (by clear hm0 hm1 rD hr hc hc1 hc2 q1 q2 q3 q4 q5 q6 q7 q8 q9 q10 q11; omega) (by simpa using hd) (fun x hx => by
        rcases List.mem_or_eq_of_mem_set hx with h | rfl
        · exact ⟨(hr x h).1, Int.le_trans (hr x h).2 (Int.le_add_of_nonneg_right (by decide))⟩
        · exact ⟨Int.add_nonneg rD.1 hm0, Int.add_le_add rD.2 hm1⟩) hc2
      rw [hor_set d (i + kk) _ hD] at this
      rw [List.drop_eq_getElem_cons hB]
      simp only [hor]
      have e : hor d + (d[i + kk] + a[i] * b[kk] - d[i + kk]) * 65536 ^ (i + kk) + a[i] * 65536 ^ (i + (kk + 1)) * hor (b.drop (kk + 1)) + T
          = hor d + a[i] * 65536 ^ (i + kk) * (b[kk] + 65536 * hor (b.drop (kk + 1))) + T := by
        rw [show i + (kk + 1) = (i + kk) + 1 by omega, Int.pow_succ]; exact ring2 _ _ _ _ _ _ _
      rw [e] at this
      exact this
theorem Mul_l0 (a b : List Int) (ha : a.length = 8) (hb : b.length = 8) (hda : ∀ d ∈ a, 0 ≤ d ∧ d < 65536) (hdb : ∀ d ∈ b, 0 ≤ d ∧ d < 65536) :
    ∀ (n i : Nat) (d : List Int) (c : Int), i + n = 8 → d.length = 8 → (∀ x ∈ d, 0 ≤ x ∧ x ≤ c) → c + (8 - (i : Int)) * 9 * 4294836225 ≤ 9000000000000000000 →
      Ev (fun k => lapidaryref08_Mul.l0 k d (i : Int) a b) (dig (hor d + 65536 ^ i * hor (a.drop i) * hor b)) := by
  intro n
  induction n with
  | zero =>
    intro i d c hi hd hr hc
    obtain rfl : i = 8 := by omega
    refine Ev.step (f := fun k => (lapidaryref08_settled.f k d).bind fun t149 => (some t149)) (fun k => by simp only [lapidaryref08_Mul.l0]; rw [if_neg (by omega)]) ?_
    rw [List.drop_of_length_le (by omega)]
    simp only [hor, Int.mul_zero, Int.zero_mul, Int.add_zero]
    exact Ev.bind (f := fun _ t => some t) (settled_ev hd fun x hx => by have := hr x hx; omega) (Ev.now _)
  | succ n ih =>
    intro i d c hi hd hr hc
    have hA : i < a.length := by omega
    refine Ev.step (f := fun k => lapidaryref08_Mul.l1 k d (i : Int) ((0 : Nat) : Int) a b) (fun k => by simp only [lapidaryref08_Mul.l0]; rw [if_pos (by omega)]; rfl) ?_
    have := Mul_in a b ha hb hda hdb i (by omega) (65536 ^ (i + 1) * hor (a.drop (i + 1)) * hor b) (fun d' c' h1 h2 h3 => ih (i + 1) d' c' (by omega) h1 h2 (by omega)) (8 - i) 0 d c (by omega) hd hr (by omega)
    rw [List.drop_eq_getElem_cons hA]
    simp only [hor]
    have e : hor d + a[i] * 65536 ^ (i + 0) * hor (b.drop 0) + 65536 ^ (i + 1) * hor (a.drop (i + 1)) * hor b = hor d + 65536 ^ i * (a[i] + 65536 * hor (a.drop (i + 1))) * hor b := by
      rw [Nat.add_zero, List.drop_zero, Int.pow_succ]; exact ring3 _ _ _ _ _
    rw [e] at this
    exact this
theorem Mul_ev (x y : Int) : Ev (fun k => lapidaryref08_Mul.f k (dig x) (dig y)) (dig (x * y)) := by
  have := Mul_l0 (dig x) (dig y) (digs_len _ _) (digs_len _ _) (digs_range _ _) (digs_range _ _) 8 0 (List.replicate 8 0) 0 rfl (by simp) (by simp) (by omega)
  refine Ev.congr (f := fun k => lapidaryref08_Mul.l0 k (List.replicate 8 0) 0 (dig x) (dig y)) (fun k => by unfold lapidaryref08_Mul.f; rw [if_pos (by omega)]) ?_
  obtain ⟨q, hq⟩ := hor_digs 8 x
  obtain ⟨p, hp⟩ := hor_digs 8 y
  have e : dig (hor (List.replicate 8 0) + 65536 ^ 0 * hor (List.drop 0 (dig x)) * hor (dig y)) = dig (x * y) := digs_congr ⟨q * p * 65536 ^ 8 - q * y - p * x, by
    rw [List.drop_zero, show hor (List.replicate 8 0) = 0 by decide]
    show _ + _ * hor (digs 8 x) * hor (digs 8 y) = _
    rw [hq, hp]; grind⟩
  rw [e] at this
  exact this

/-! ### Neg -/
theorem digs_neg : ∀ (n : Nat) (x : Int), (digs n x).map (fun d => 65535 - d) = digs n (-x - 1)
  | 0, _ => rfl
  | n + 1, x => by
    simp only [digs, List.map_cons, digs_neg n]
    rw [show 65535 - x % 65536 = (-x - 1) % 65536 by omega, show -(x / 65536) - 1 = (-x - 1) / 65536 by omega]
theorem Neg_l0 (x : Int) : ∀ (n : Nat) (acc a : List Int) (i : Nat), i + n = 8 → acc.length = i → a.length = 8 → (∀ d ∈ a, 0 ≤ d ∧ d < 65536) → acc ++ (a.drop i).map (fun d => 65535 - d) = dig (-x - 1) →
    Ev (fun k => lapidaryref08_Neg.l0 k acc (i : Int) a) (dig (-x)) := by
  intro n
  induction n with
  | zero =>
    intro acc a i hi hl ha hda he
    obtain rfl : i = 8 := by omega
    rw [List.drop_of_length_le (by omega), List.map_nil, List.append_nil] at he
    subst he
    refine Ev.step (f := fun k => (lapidaryref08_Of.f k 1).bind fun t281 => ((lapidaryref08_Add.f k (dig (-x - 1)) t281).bind fun t284 => (some t284))) (fun k => by simp only [lapidaryref08_Neg.l0]; rw [if_neg (by omega)]) ?_
    refine Ev.bind (f := fun k t281 => (lapidaryref08_Add.f k (dig (-x - 1)) t281).bind fun t284 => (some t284)) (Of_ev (by decide) (by decide)) ?_
    refine Ev.bind (f := fun _ t => some t) (Add_ev _ _) ?_
    rw [show -x - 1 + 1 = -x by omega]
    exact Ev.now _
  | succ n ih =>
    intro acc a i hi hl ha hda he
    have hA : i < a.length := by omega
    have ra := hda _ (List.getElem_mem hA)
    refine Ev.step (f := fun k => lapidaryref08_Neg.l0 k (acc ++ [65535 - a[i]]) ((i + 1 : Nat) : Int) a) (fun k => ?_) ?_
    · simp only [lapidaryref08_Neg.l0]
      rw [if_pos (by omega), if_pos (by omega), if_pos (by omega), if_pos (by omega), rd_nat a i hA, w64_id (by omega) (by omega), w64_succ i (by omega)]
    · refine ih _ a (i + 1) (by omega) (by simp; omega) ha hda ?_
      rw [List.drop_eq_getElem_cons hA, List.map_cons, List.append_cons] at he
      exact he
theorem Neg_ev (x : Int) : Ev (fun k => lapidaryref08_Neg.f k (dig x)) (dig (-x)) :=
  Neg_l0 x 8 [] (dig x) 0 rfl rfl (digs_len _ _) (digs_range _ _) (by rw [List.drop_zero, List.nil_append, digs_neg])

/-! ### Dot -/
def dotS : List Int → Int
  | a :: b :: l => a * b + dotS l
  | _ => 0
end Go.Proofs.Ytaaeaihmhdlpfaa.WL
