/- Wide numbers: what the document's own functions answer, for any digits. -/
import Derived.Test.YtlnjbpapbifjfaaPx19
import Derived.Test.YtlnjbpapbifjfaaPx33
import Derived.Test.YtlnjbpapbifjfaaPx20
import Derived.Test.YtlnjbpapbifjfaaPx18
import Derived.Test.YtlnjbpapbifjfaaPx34
import Derived.Test.YtlnjbpapbifjfaaPx35
import Derived.Test.YtlnjbpapbifjfaaPx21
import Derived.Test.YtlnjbpapbifjfaaPx36
import Derived.Test.YtlnjbpapbifjfaaWD
namespace Go.Proofs.Ytlnjbpapbifjfaa.WL
set_option linter.unusedVariables false
set_option linter.unusedSimpArgs false
open Go.RowKit Go.Proofs.Ytlnjbpapbifjfaa.P Go.Proofs.Ytlnjbpapbifjfaa.X Go.Proofs.YtlnjbpapbifjfaaW.PrintWords Go.Proofs.YtlnjbpapbifjfaaW.PrintLast Go.Proofs.YtlnjbpapbifjfaaW.PrintMore
theorem Of_l0 : ∀ (n k : Nat) (x : Int) (acc : List Int) (i : Int), i = 8 - (n : Int) → 0 ≤ i → n < k → acc.length ≤ 8 - n → -9223372036854775808 ≤ x → x ≤ 9223372036854775807 →
    lapidaryref08_Of.l0 k x acc i = some (acc ++ digs n x) := by
  intro n
  induction n with
  | zero =>
    intro k x acc i hi _ hk _ _ _
    obtain ⟨k, rfl⟩ : ∃ m, k = m + 1 := ⟨k - 1, by omega⟩
    simp only [lapidaryref08_Of.l0]; rw [if_neg (by omega)]; simp [digs]
  | succ n ih =>
    intro k x acc i hi h0 hk hl h1 h2
    obtain ⟨k, rfl⟩ : ∃ m, k = m + 1 := ⟨k - 1, by omega⟩
    have hw : wrap64 (i + 1) = i + 1 := by unfold wrap64; omega
    have key : lapidaryref08_Of.l0 k (x / 65536) (acc ++ [x % 65536]) (i + 1) = some (acc ++ digs (n + 1) x) := by
      rw [ih k (x / 65536) (acc ++ [x % 65536]) (i + 1) (by omega) (by omega) (by omega) (by simp; omega) (by omega) (by omega)]
      simp [digs]
    simp only [lapidaryref08_Of.l0]; rw [if_pos (by omega)]
    have ht := tmod65536 x
    by_cases hs : Int.tmod x 65536 < 0
    · rw [if_pos hs, if_pos (by omega)]
      have e1 : Int.tmod x 65536 + 65536 = x % 65536 := by split at ht <;> omega
      rw [e1, w64_id (x := x % 65536) (by omega) (by omega), w64_id (x := x - x % 65536) (by omega) (by omega), show x - x % 65536 = 65536 * (x / 65536) by omega, tdiv_ex, w64_id (x := x / 65536) (by omega) (by omega), hw]
      exact key
    · rw [if_neg hs, if_pos (by omega)]
      have e1 : Int.tmod x 65536 = x % 65536 := by split at ht <;> omega
      rw [e1, w64_id (x := x - x % 65536) (by omega) (by omega), show x - x % 65536 = 65536 * (x / 65536) by omega, tdiv_ex, w64_id (x := x / 65536) (by omega) (by omega), hw]
      exact key
theorem Of_ev {x : Int} (h1 : -9223372036854775808 ≤ x) (h2 : x ≤ 9223372036854775807) : Ev (fun k => lapidaryref08_Of.f k x) (dig x) :=
  ⟨9, fun k hk => by show lapidaryref08_Of.f k x = _; unfold lapidaryref08_Of.f; rw [Of_l0 8 k x [] 0 rfl (by omega) (by omega) (by simp) h1 h2]; rfl⟩

theorem From_l0 : ∀ (n k : Nat) (x : Int) (acc : List Int) (i : Int) (h : List Int), i = 4 - (n : Int) → 0 ≤ i → n < k → acc.length ≤ 4 - n → 0 ≤ x → x < 18446744073709551616 → h.length = 8 →
    lapidaryref08_From.l0 k x acc i h = some (acc ++ digs n x ++ h.take 4) := by
  intro n
  induction n with
  | zero =>
    intro k x acc i h hi _ hk _ _ _ hh
    obtain ⟨k, rfl⟩ : ∃ m, k = m + 1 := ⟨k - 1, by omega⟩
    simp only [lapidaryref08_From.l0]; rw [if_neg (by omega), if_pos (by omega)]
    simp only [Option.bind_some]
    rw [if_pos (by simp; omega)]; simp [digs]
  | succ n ih =>
    intro k x acc i h hi h0 hk hl h1 h2 hh
    obtain ⟨k, rfl⟩ : ∃ m, k = m + 1 := ⟨k - 1, by omega⟩
    have hw : wrap64 (i + 1) = i + 1 := by unfold wrap64; omega
    simp only [lapidaryref08_From.l0]; rw [if_pos (by omega), if_pos (by omega), tdiv_nn h1, tmod_nn h1, u64w, hw, w64_id (by omega) (by omega), show x / 65536 % 18446744073709551616 = x / 65536 by omega]
    rw [ih k (x / 65536) _ (i + 1) h (by omega) (by omega) (by omega) (by simp; omega) (by omega) (by omega) hh]
    simp [digs]
theorem From_ev {hi lo : Int} (h1 : -9223372036854775808 ≤ hi) (h2 : hi ≤ 9223372036854775807) (h3 : 0 ≤ lo) (h4 : lo < 18446744073709551616) :
    Ev (fun k => lapidaryref08_From.f k hi lo) (dig (hi * 18446744073709551616 + lo)) := by
  unfold lapidaryref08_From.f
  refine Ev.bind (f := fun n a => lapidaryref08_From.l0 n lo ([] : List Int) 0 a) (Of_ev h1 h2) ⟨5, fun k hk => ?_⟩
  show lapidaryref08_From.l0 k lo [] 0 _ = _
  rw [From_l0 4 k lo [] 0 _ rfl (by omega) (by omega) (by simp) h3 h4 (digs_len _ _)]
  rw [List.nil_append, digs4_8 hi lo h3 h4]

theorem settled_l0 : ∀ (n k : Nat) (d acc : List Int) (c i : Int), d.length = 8 → i = 8 - (n : Int) → 0 ≤ i → n < k → acc.length ≤ 8 - n → 0 ≤ c → c ≤ 1000000000000000 → (∀ x ∈ d, 0 ≤ x ∧ x ≤ 9000000000000000000) →
    lapidaryref08_settled.l0 k d acc c i = some (acc ++ digs n (c + hor (d.drop i.toNat))) := by
  intro n
  induction n with
  | zero =>
    intro k d acc c i hd hi _ hk _ _ _ _
    obtain ⟨k, rfl⟩ : ∃ m, k = m + 1 := ⟨k - 1, by omega⟩
    simp only [lapidaryref08_settled.l0]; rw [if_neg (by omega)]; simp [digs]
  | succ n ih =>
    intro k d acc c i hd hi h0 hk hl hc hc' hr
    obtain ⟨k, rfl⟩ : ∃ m, k = m + 1 := ⟨k - 1, by omega⟩
    have hw : wrap64 (i + 1) = i + 1 := by unfold wrap64; omega
    have hlt : i.toNat < d.length := by omega
    have hx := hr d[i.toNat] (List.getElem_mem hlt)
    have hrd : rd d i = d[i.toNat] := by unfold rd; rw [List.getD_eq_getElem?_getD, List.getElem?_eq_getElem hlt]; rfl
    simp only [lapidaryref08_settled.l0]; rw [if_pos (by omega), if_pos (by omega), if_pos (by omega), if_pos (by omega), hrd]
    generalize hX : d[i.toNat] = X at *
    rw [w64_id (x := c + X) (by omega) (by omega), tmod_nn (by omega), tdiv_nn (by omega), w64_id (by omega) (by omega), hw]
    rw [ih k d _ _ (i + 1) hd (by omega) (by omega) (by omega) (by simp; omega) (by omega) (by omega) hr]
    rw [List.drop_eq_getElem_cons hlt, hX, show (i + 1).toNat = i.toNat + 1 by omega]
    simp only [hor, digs, List.append_assoc, List.cons_append, List.nil_append]
    generalize hor (d.drop (i.toNat + 1)) = R
    rw [show (c + (X + 65536 * R)) % 65536 = (c + X) % 65536 by omega, show (c + (X + 65536 * R)) / 65536 = (c + X) / 65536 + R by omega]
theorem settled_ev {d : List Int} (hd : d.length = 8) (hr : ∀ x ∈ d, 0 ≤ x ∧ x ≤ 9000000000000000000) : Ev (fun k => lapidaryref08_settled.f k d) (dig (hor d)) :=
  ⟨9, fun k hk => by
    show lapidaryref08_settled.f k d = _
    unfold lapidaryref08_settled.f
    rw [settled_l0 8 k d [] 0 0 hd rfl (by omega) (by omega) (by simp) (by omega) (by omega) hr]; simp⟩

theorem Cmp_j1 (k : Nat) (i x y : Int) (a b : List Int) : lapidaryref08_Cmp.j1 (k + 1) i x y a b = if x < y then some (-1) else if x > y then some 1 else lapidaryref08_Cmp.l0 k (wrap64 (i - 1)) a b := by
  simp only [lapidaryref08_Cmp.j1]
theorem Cmp_l0 : ∀ (n k : Nat) (a b : List Int), n ≤ 7 → a.length = 8 → b.length = 8 → (∀ d ∈ a, 0 ≤ d ∧ d < 65536) → (∀ d ∈ b, 0 ≤ d ∧ d < 65536) → 2 * n < k →
    lapidaryref08_Cmp.l0 k ((n : Int) - 1) a b = some (cmp3 (hor (a.take n)) (hor (b.take n))) := by
  intro n
  induction n with
  | zero =>
    intro k a b _ _ _ _ _ hk
    obtain ⟨k, rfl⟩ : ∃ m, k = m + 1 := ⟨k - 1, by omega⟩
    simp only [lapidaryref08_Cmp.l0]; rw [if_neg (by omega)]; simp [hor, cmp3]
  | succ n ih =>
    intro k a b hn ha hb hda hdb hk
    obtain ⟨k, rfl⟩ : ∃ m, k = m + 2 := ⟨k - 2, by omega⟩
    simp only [lapidaryref08_Cmp.l0]
    rw [if_pos (by omega), if_pos (by omega), if_pos (by omega), if_pos (by omega), if_neg (by omega), Cmp_j1]
    have hA : n < a.length := by omega
    have hB : n < b.length := by omega
    have e1 : (((n + 1 : Nat) : Int) - 1).toNat = n := by omega
    rw [rd_eq a _ (by omega), rd_eq b _ (by omega)]
    simp only [e1]
    rw [hor_take a n hA, hor_take b n hB, show wrap64 (((n + 1 : Nat) : Int) - 1 - 1) = (n : Int) - 1 by unfold wrap64; omega]
    rw [ih k a b (by omega) ha hb hda hdb (by omega)]
    have u := hor_range (a.take n) fun d hd => hda d (List.mem_of_mem_take hd)
    have v := hor_range (b.take n) fun d hd => hdb d (List.mem_of_mem_take hd)
    rw [show (a.take n).length = n by simp; omega] at u
    rw [show (b.take n).length = n by simp; omega] at v
    generalize hor (a.take n) = U at *
    generalize hor (b.take n) = V at *
    generalize a[n] = X at *
    generalize b[n] = Y at *
    have hP : (0 : Int) < 65536 ^ n := Int.pow_pos (by decide)
    generalize (65536 : Int) ^ n = P at *
    unfold cmp3
    by_cases h1 : X < Y
    · have := Int.mul_le_mul_of_nonneg_right (show X + 1 ≤ Y by omega) (Int.le_of_lt hP)
      rw [Int.add_mul] at this
      rw [if_pos h1, if_pos (by omega)]
    · by_cases h2 : Y < X
      · have := Int.mul_le_mul_of_nonneg_right (show Y + 1 ≤ X by omega) (Int.le_of_lt hP)
        rw [Int.add_mul] at this
        rw [if_neg h1, if_pos h2, if_neg (by omega), if_pos (by omega)]
      · have : X = Y := by omega
        subst this
        rw [if_neg h1, if_neg h2]
        congr 1
        generalize X * P = Q
        split <;> split <;> first | rfl | omega | (split <;> first | rfl | omega)
theorem Cmp_ev (x y : Int) : Ev (fun k => lapidaryref08_Cmp.f k (dig x) (dig y)) (cmp3 (off x) (off y)) := ⟨20, fun k hk => by
  obtain ⟨k, rfl⟩ : ∃ m, k = m + 2 := ⟨k - 2, by omega⟩
  show lapidaryref08_Cmp.f (k + 2) (dig x) (dig y) = _
  unfold lapidaryref08_Cmp.f
  simp only [lapidaryref08_Cmp.l0]
  have lx : (dig x).length = 8 := digs_len 8 x
  have ly : (dig y).length = 8 := digs_len 8 y
  have rx := digs_range 8 x
  have ry := digs_range 8 y
  rw [if_pos (by omega), if_pos (by omega), if_pos (by omega), if_pos (by omega), if_pos True.intro]
  have ex : rd (dig x) 7 = x / 65536 / 65536 / 65536 / 65536 / 65536 / 65536 / 65536 % 65536 := rfl
  have ey : rd (dig y) 7 = y / 65536 / 65536 / 65536 / 65536 / 65536 / 65536 / 65536 % 65536 := rfl
  rw [ex, ey, w64_id (by omega) (by omega), w64_id (by omega) (by omega), tmod_nn (by omega), tmod_nn (by omega), Cmp_j1, show wrap64 (7 - 1) = ((7 : Nat) : Int) - 1 by unfold wrap64; omega]
  rw [Cmp_l0 7 k (dig x) (dig y) (by omega) lx ly rx ry (by omega)]
  have tx := top_turned x
  have ty := top_turned y
  have u := hor_range (digs 7 x) (digs_range 7 x)
  have v := hor_range (digs 7 y) (digs_range 7 y)
  rw [show List.take 7 (dig x) = digs 7 x from rfl, show List.take 7 (dig y) = digs 7 y from rfl]
  rw [digs_len] at u v
  rw [← tx, ← ty]
  have e7 : (65536 : Int) ^ 7 = 5192296858534827628530496329220096 := by decide
  rw [e7] at *
  generalize hor (digs 7 x) = U at *
  generalize hor (digs 7 y) = V at *
  generalize (x / 65536 / 65536 / 65536 / 65536 / 65536 / 65536 / 65536 % 65536 + 32768) % 65536 = X at *
  generalize (y / 65536 / 65536 / 65536 / 65536 / 65536 / 65536 / 65536 % 65536 + 32768) % 65536 = Y at *
  unfold cmp3
  by_cases h1 : X < Y
  · rw [if_pos h1, if_pos (by omega)]
  · by_cases h2 : X > Y
    · rw [if_neg h1, if_pos h2, if_neg (by omega), if_pos (by omega)]
    · rw [if_neg h1, if_neg h2]
      congr 1
      split <;> split <;> first | rfl | omega | (split <;> first | rfl | omega)⟩
theorem Is_ev {x hi lo : Int} (h1 : -9223372036854775808 ≤ hi) (h2 : hi ≤ 9223372036854775807) (h3 : 0 ≤ lo) (h4 : lo < 18446744073709551616) (h : (x - (hi * 18446744073709551616 + lo)) % 340282366920938463463374607431768211456 = 0) :
    Ev (fun k => lapidaryref08_Is.f k (dig x) hi lo) true := by
  unfold lapidaryref08_Is.f
  refine Ev.bind (f := fun n t => (lapidaryref08_Cmp.f n (dig x) t).bind fun t131 => (some (t131 == 0))) (From_ev h1 h2 h3 h4) ?_
  refine Ev.bind (f := fun n t => some (t == 0)) (Cmp_ev _ _) ?_
  rw [(cmp3_eq0 _ _).2 (off_eq.2 h)]
  exact Ev.now true

theorem Add_l0 : ∀ (n : Nat) (acc a b : List Int) (i : Nat), i + n = 8 → acc.length = i → a.length = 8 → b.length = 8 → (∀ d ∈ a, 0 ≤ d ∧ d < 65536) → (∀ d ∈ b, 0 ≤ d ∧ d < 65536) → (∀ d ∈ acc, 0 ≤ d ∧ d ≤ 9000000000000000000) →
    Ev (fun k => lapidaryref08_Add.l0 k acc (i : Int) a b) (dig (hor (acc ++ List.zipWith (· + ·) (a.drop i) (b.drop i)))) := by
  intro n
  induction n with
  | zero =>
    intro acc a b i hi hl ha hb hda hdb hacc
    obtain rfl : i = 8 := by omega
    refine Ev.step (f := fun k => (lapidaryref08_settled.f k acc).bind fun t217 => (some t217)) (fun k => by simp only [lapidaryref08_Add.l0]; rw [if_neg (by omega)]) ?_
    rw [List.drop_of_length_le (by omega), List.zipWith_nil_left, List.append_nil]
    exact Ev.bind (f := fun _ t => some t) (settled_ev hl hacc) (Ev.now _)
  | succ n ih =>
    intro acc a b i hi hl ha hb hda hdb hacc
    have hA : i < a.length := by omega
    have hB : i < b.length := by omega
    have ra := hda _ (List.getElem_mem hA)
    have rb := hdb _ (List.getElem_mem hB)
    refine Ev.step (f := fun k => lapidaryref08_Add.l0 k (acc ++ [a[i] + b[i]]) ((i + 1 : Nat) : Int) a b) (fun k => ?_) ?_
    · simp only [lapidaryref08_Add.l0]
      rw [if_pos (by omega), if_pos (by omega), if_pos (by omega), if_pos (by omega), if_pos (by omega), rd_nat a i hA, rd_nat b i hB, w64_id (by omega) (by omega), w64_succ i (by omega)]
    · have := ih (acc ++ [a[i] + b[i]]) a b (i + 1) (by omega) (by simp; omega) ha hb hda hdb (fun d hd => by
        simp only [List.mem_append, List.mem_singleton] at hd
        rcases hd with hd | rfl
        · exact hacc d hd
        · omega)
      rw [List.drop_eq_getElem_cons hA, List.drop_eq_getElem_cons hB, List.zipWith_cons_cons]
      rw [List.append_assoc] at this
      exact this
theorem Add_ev (x y : Int) : Ev (fun k => lapidaryref08_Add.f k (dig x) (dig y)) (dig (x + y)) := by
  have := Add_l0 8 [] (dig x) (dig y) 0 rfl rfl (digs_len _ _) (digs_len _ _) (digs_range _ _) (digs_range _ _) (by simp)
  rw [List.drop_zero, List.drop_zero, List.nil_append, hor_zip _ _ (by rw [digs_len, digs_len])] at this
  obtain ⟨q, hq⟩ := hor_digs 8 x
  obtain ⟨p, hp⟩ := hor_digs 8 y
  have e : dig (hor (dig x) + hor (dig y)) = dig (x + y) := digs_congr ⟨-q - p, by
    show hor (digs 8 x) + hor (digs 8 y) = _
    rw [hq, hp, Int.sub_mul, Int.neg_mul]; omega⟩
  rw [e] at this
  exact this

theorem Mul_in (a b : List Int) (ha : a.length = 8) (hb : b.length = 8) (hda : ∀ d ∈ a, 0 ≤ d ∧ d < 65536) (hdb : ∀ d ∈ b, 0 ≤ d ∧ d < 65536) (i : Nat) (hi : i < 8) (T : Int)
    (out : ∀ (d : List Int) (c : Int), d.length = 8 → (∀ x ∈ d, 0 ≤ x ∧ x ≤ c) → c + (7 - (i : Int)) * 9 * 4294836225 ≤ 9000000000000000000 → Ev (fun k => lapidaryref08_Mul.l0 k d ((i + 1 : Nat) : Int) a b) (dig (hor d + T))) :
    ∀ (n kk : Nat) (d : List Int) (c : Int), i + kk + n = 8 → d.length = 8 → (∀ x ∈ d, 0 ≤ x ∧ x ≤ c) → c + ((n : Int) + (7 - (i : Int)) * 9) * 4294836225 ≤ 9000000000000000000 →
      Ev (fun k => lapidaryref08_Mul.l1 k d (i : Int) (kk : Int) a b) (dig (hor d + a[i] * 65536 ^ (i + kk) * hor (b.drop kk) + T)) := by
  intro n
  induction n with
  | zero =>
    intro kk d c hk hd hr hc
    refine Ev.step (f := fun k => lapidaryref08_Mul.l0 k d ((i + 1 : Nat) : Int) a b) (fun k => ?_) ?_
    · simp only [lapidaryref08_Mul.l1]
      rw [show wrap64 ((i : Int) + kk) = 8 by unfold wrap64; omega, if_neg (by omega), w64_succ i (by omega)]
    · have e : dig (hor d + a[i] * 65536 ^ (i + kk) * hor (b.drop kk) + T) = dig (hor d + T) := digs_congr ⟨a[i] * hor (b.drop kk), by
        rw [show i + kk = 8 by omega]; exact ring1 _ _ _ _ _⟩
      rw [e]
      exact out d c hd hr (by omega)
  | succ n ih =>
    intro kk d c hk hd hr hc
    have hA : i < a.length := by omega
    have hB : kk < b.length := by omega
    have hD : i + kk < d.length := by omega
    have ra := hda _ (List.getElem_mem hA)
    have rb := hdb _ (List.getElem_mem hB)
    have rD := hr _ (List.getElem_mem hD)
    obtain ⟨hm0, hm1⟩ := mulb ra.1 ra.2 rb.1 rb.2
    have q1 : ((i + kk : Nat) : Int) < 8 := by clear hm0 hm1 rD hc hr; omega
    have q2 : (0 : Int) ≤ ((i + kk : Nat) : Int) := by clear hm0 hm1 rD hc hr; omega
    have q3 : ((i + kk : Nat) : Int) < (d.length : Int) := by clear hm0 hm1 rD hc hr; omega
    have q4 : (0 : Int) ≤ (i : Int) := by clear hm0 hm1 rD hc hr; omega
    have q5 : (i : Int) < (a.length : Int) := by clear hm0 hm1 rD hc hr; omega
    have q6 : (0 : Int) ≤ (kk : Int) := by clear hm0 hm1 rD hc hr; omega
    have q7 : (kk : Int) < (b.length : Int) := by clear hm0 hm1 rD hc hr; omega
    have q8 : wrap64 ((i : Int) + kk) = ((i + kk : Nat) : Int) := by clear hm0 hm1 rD hc hr; unfold wrap64; omega
    have q9 : wrap64 ((kk : Int) + 1) = ((kk + 1 : Nat) : Int) := w64_succ kk (by clear hm0 hm1 rD hc hr; omega)
    have hc1 : c + 4294836225 ≤ 9000000000000000000 := by clear hm0 hm1 rD hr q1 q2 q3 q4 q5 q6 q7 q8 q9; omega
    have hc2 : c + 4294836225 + ((n : Int) + (7 - (i : Int)) * 9) * 4294836225 ≤ 9000000000000000000 := by clear hm0 hm1 rD hr q1 q2 q3 q4 q5 q6 q7 q8 q9; omega
    have q10 : wrap64 (a[i] * b[kk]) = a[i] * b[kk] := by clear hc hc2; exact w64_id (Int.le_trans (by decide) hm0) (Int.le_trans hm1 (by decide))
    have q11 : wrap64 (d[i + kk] + a[i] * b[kk]) = d[i + kk] + a[i] * b[kk] := w64_id (Int.le_trans (by decide) (Int.add_nonneg rD.1 hm0)) (Int.le_trans (Int.add_le_add rD.2 hm1) (Int.le_trans hc1 (by decide)))
    refine Ev.step (f := fun k => lapidaryref08_Mul.l1 k (d.set (i + kk) (d[i + kk] + a[i] * b[kk])) (i : Int) ((kk + 1 : Nat) : Int) a b) (fun k => ?_) ?_
    · simp only [lapidaryref08_Mul.l1]
      rw [q8, if_pos q1, if_pos q2, if_pos q3, if_pos q4, if_pos q5, if_pos q6, if_pos q7, rd_nat a i hA, rd_nat b kk hB, rd_nat d (i + kk) hD, q10, q11, q9, Int.toNat_natCast]
    · have := ih (kk + 1) (d.set (i + kk) (d[i + kk] + a[i] * b[kk])) (c + 4294836225) (by clear hm0 hm1 rD hr hc hc1 hc2 q1 q2 q3 q4 q5 q6 q7 q8 q9 q10 q11; omega) (by simpa using hd) (fun x hx => by
        rcases List.mem_or_eq_of_mem_set hx with h | rfl
        · exact ⟨(hr x h).1, Int.le_trans (hr x h).2 (Int.le_add_of_nonneg_right (by decide))⟩
        · exact ⟨Int.add_nonneg rD.1 hm0, Int.add_le_add rD.2 hm1⟩) hc2
      rw [hor_set d (i + kk) _ hD] at this
      rw [List.drop_eq_getElem_cons hB]
      simp only [hor]
      have e : hor d + (d[i + kk] + a[i] * b[kk] - d[i + kk]) * 65536 ^ (i + kk) + a[i] * 65536 ^ (i + (kk + 1)) * hor (b.drop (kk + 1)) + T
          = hor d + a[i] * 65536 ^ (i + kk) * (b[kk] + 65536 * hor (b.drop (kk + 1))) + T := by
        rw [show i + (kk + 1) = (i + kk) + 1 by omega, Int.pow_succ]; exact ring2 _ _ _ _ _ _ _
      rw [e] at this
      exact this
theorem Mul_l0 (a b : List Int) (ha : a.length = 8) (hb : b.length = 8) (hda : ∀ d ∈ a, 0 ≤ d ∧ d < 65536) (hdb : ∀ d ∈ b, 0 ≤ d ∧ d < 65536) :
    ∀ (n i : Nat) (d : List Int) (c : Int), i + n = 8 → d.length = 8 → (∀ x ∈ d, 0 ≤ x ∧ x ≤ c) → c + (8 - (i : Int)) * 9 * 4294836225 ≤ 9000000000000000000 →
      Ev (fun k => lapidaryref08_Mul.l0 k d (i : Int) a b) (dig (hor d + 65536 ^ i * hor (a.drop i) * hor b)) := by
  intro n
  induction n with
  | zero =>
    intro i d c hi hd hr hc
    obtain rfl : i = 8 := by omega
    refine Ev.step (f := fun k => (lapidaryref08_settled.f k d).bind fun t149 => (some t149)) (fun k => by simp only [lapidaryref08_Mul.l0]; rw [if_neg (by omega)]) ?_
    rw [List.drop_of_length_le (by omega)]
    simp only [hor, Int.mul_zero, Int.zero_mul, Int.add_zero]
    exact Ev.bind (f := fun _ t => some t) (settled_ev hd fun x hx => by have := hr x hx; omega) (Ev.now _)
  | succ n ih =>
    intro i d c hi hd hr hc
    have hA : i < a.length := by omega
    refine Ev.step (f := fun k => lapidaryref08_Mul.l1 k d (i : Int) ((0 : Nat) : Int) a b) (fun k => by simp only [lapidaryref08_Mul.l0]; rw [if_pos (by omega)]; rfl) ?_
    have := Mul_in a b ha hb hda hdb i (by omega) (65536 ^ (i + 1) * hor (a.drop (i + 1)) * hor b) (fun d' c' h1 h2 h3 => ih (i + 1) d' c' (by omega) h1 h2 (by omega)) (8 - i) 0 d c (by omega) hd hr (by omega)
    rw [List.drop_eq_getElem_cons hA]
    simp only [hor]
    have e : hor d + a[i] * 65536 ^ (i + 0) * hor (b.drop 0) + 65536 ^ (i + 1) * hor (a.drop (i + 1)) * hor b = hor d + 65536 ^ i * (a[i] + 65536 * hor (a.drop (i + 1))) * hor b := by
      rw [Nat.add_zero, List.drop_zero, Int.pow_succ]; exact ring3 _ _ _ _ _
    rw [e] at this
    exact this
theorem Mul_ev (x y : Int) : Ev (fun k => lapidaryref08_Mul.f k (dig x) (dig y)) (dig (x * y)) := by
  have := Mul_l0 (dig x) (dig y) (digs_len _ _) (digs_len _ _) (digs_range _ _) (digs_range _ _) 8 0 (List.replicate 8 0) 0 rfl (by simp) (by simp) (by omega)
  refine Ev.congr (f := fun k => lapidaryref08_Mul.l0 k (List.replicate 8 0) 0 (dig x) (dig y)) (fun k => by unfold lapidaryref08_Mul.f; rw [if_pos (by omega)]) ?_
  obtain ⟨q, hq⟩ := hor_digs 8 x
  obtain ⟨p, hp⟩ := hor_digs 8 y
  have e : dig (hor (List.replicate 8 0) + 65536 ^ 0 * hor (List.drop 0 (dig x)) * hor (dig y)) = dig (x * y) := digs_congr ⟨q * p * 65536 ^ 8 - q * y - p * x, by
    rw [List.drop_zero, show hor (List.replicate 8 0) = 0 by decide]
    show _ + _ * hor (digs 8 x) * hor (digs 8 y) = _
    rw [hq, hp]; grind⟩
  rw [e] at this
  exact this

theorem Neg_l0 (x : Int) : ∀ (n : Nat) (acc a : List Int) (i : Nat), i + n = 8 → acc.length = i → a.length = 8 → (∀ d ∈ a, 0 ≤ d ∧ d < 65536) → acc ++ (a.drop i).map (fun d => 65535 - d) = dig (-x - 1) →
    Ev (fun k => lapidaryref08_Neg.l0 k acc (i : Int) a) (dig (-x)) := by
  intro n
  induction n with
  | zero =>
    intro acc a i hi hl ha hda he
    obtain rfl : i = 8 := by omega
    rw [List.drop_of_length_le (by omega), List.map_nil, List.append_nil] at he
    subst he
    refine Ev.step (f := fun k => (lapidaryref08_Of.f k 1).bind fun t281 => ((lapidaryref08_Add.f k (dig (-x - 1)) t281).bind fun t284 => (some t284))) (fun k => by simp only [lapidaryref08_Neg.l0]; rw [if_neg (by omega)]) ?_
    refine Ev.bind (f := fun k t281 => (lapidaryref08_Add.f k (dig (-x - 1)) t281).bind fun t284 => (some t284)) (Of_ev (by decide) (by decide)) ?_
    refine Ev.bind (f := fun _ t => some t) (Add_ev _ _) ?_
    rw [show -x - 1 + 1 = -x by omega]
    exact Ev.now _
  | succ n ih =>
    intro acc a i hi hl ha hda he
    have hA : i < a.length := by omega
    have ra := hda _ (List.getElem_mem hA)
    refine Ev.step (f := fun k => lapidaryref08_Neg.l0 k (acc ++ [65535 - a[i]]) ((i + 1 : Nat) : Int) a) (fun k => ?_) ?_
    · simp only [lapidaryref08_Neg.l0]
      rw [if_pos (by omega), if_pos (by omega), if_pos (by omega), if_pos (by omega), rd_nat a i hA, w64_id (by omega) (by omega), w64_succ i (by omega)]
    · refine ih _ a (i + 1) (by omega) (by simp; omega) ha hda ?_
      rw [List.drop_eq_getElem_cons hA, List.map_cons, List.append_cons] at he
      exact he
theorem Neg_ev (x : Int) : Ev (fun k => lapidaryref08_Neg.f k (dig x)) (dig (-x)) :=
  Neg_l0 x 8 [] (dig x) 0 rfl rfl (digs_len _ _) (digs_range _ _) (by rw [List.drop_zero, List.nil_append, digs_neg])

end Go.Proofs.Ytlnjbpapbifjfaa.WL
