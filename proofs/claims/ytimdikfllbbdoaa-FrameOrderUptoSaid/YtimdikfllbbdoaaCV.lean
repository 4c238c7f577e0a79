/- The document's checksum comes to the program's. No condition. -/
import Derived.Test.YtimdikfllbbdoaaPx22
import Derived.Test.YtimdikfllbbdoaaCR
namespace Go.Proofs.Ytimdikfllbbdoaa.C
set_option linter.unusedVariables false
set_option linter.unusedSimpArgs false
open Go.RowKit Go.Proofs.Ytimdikfllbbdoaa.P Go.Proofs.YtimdikfllbbdoaaW.PrintWords Go.Proofs.YtimdikfllbbdoaaW.PrintLast Go.Proofs.YtimdikfllbbdoaaW.PrintMore

theorem w64 {x : Int} (h : -9223372036854775808 ≤ x) (h' : x ≤ 9223372036854775807) : wrap64 x = x := by unfold wrap64; omega
def O (b : List Int) (n : Nat) : List Bool := (List.range n).map (ob b)
theorem O_len (b : List Int) (n : Nat) : (O b n).length = n := by unfold O; simp
theorem O_snoc (b : List Int) (n : Nat) : O b n ++ [ob b n] = O b (n + 1) := by unfold O; rw [List.range_succ, List.map_append]; rfl
theorem vN_lt (b : List Int) (h : ∀ c ∈ b, 0 ≤ c ∧ c ≤ 255) (i : Nat) : vN b i < 256 := by
  have := cN_lt b h i
  unfold vN
  split
  · exact Nat.xor_lt_two_pow (n := 8) this (by decide)
  · exact this
theorem of_l1 (b : List Int) (h : ∀ c ∈ b, 0 ≤ c ∧ c ≤ 255) (hl : b.length ≤ 2000) (R : Int) (i : Nat) (hi : i < b.length + 4) (next : Ev (fun k => lapidaryref02_Of.l0 k b (O b (8 * (i + 1))) ((i + 1 : Nat) : Int)) R) :
    ∀ (n m : Nat), m + n = 8 → Ev (fun k => lapidaryref02_Of.l1 k b (O b (8 * i + m)) (i : Int) ((vN b i / 2 ^ m : Nat) : Int) (m : Int)) R := by
  intro n
  induction n with
  | zero =>
    intro m hm
    obtain rfl : m = 8 := by omega
    refine Ev.step (fun k => lapidaryref02_Of.l1.eq_2 _ _ _ _ _ _) ?_
    simp only [if_neg (show ¬ (((8 : Nat) : Int) < 8) by omega), w64 (x := (i : Int) + 1) (by omega) (by omega)]
    rw [show 8 * (i + 1) = 8 * i + 8 by omega] at next
    exact next
  | succ n ih =>
    intro m hm
    refine Ev.step (fun k => lapidaryref02_Of.l1.eq_2 _ _ _ _ _ _) ?_
    have I := ih (m + 1) (by omega)
    have hv := vN_lt b h i
    have e1 : ((Int.tmod ((vN b i / 2 ^ m : Nat) : Int) 2) == 1) = ob b (8 * i + m) := by
      unfold ob
      rw [show (8 * i + m) / 8 = i by omega, show (8 * i + m) % 8 = m by omega, Nat.testBit_eq_decide_div_mod_eq]
      rw [Int.tmod_eq_emod_of_nonneg (Int.natCast_nonneg (vN b i / 2 ^ m))]
      generalize vN b i / 2 ^ m = q
      rw [Bool.eq_iff_iff]
      simp only [beq_iff_eq, decide_eq_true_eq]
      omega
    have e2 : (Int.tdiv ((vN b i / 2 ^ m : Nat) : Int) 2) % 256 = ((vN b i / 2 ^ (m + 1) : Nat) : Int) := by
      rw [Int.tdiv_eq_ediv_of_nonneg (Int.natCast_nonneg (vN b i / 2 ^ m)), Nat.pow_succ, ← Nat.div_div_eq_div_mul]
      have h2 : vN b i / 2 ^ m ≤ vN b i := Nat.div_le_self _ _
      generalize vN b i / 2 ^ m = q at *
      omega
    simp only [if_pos (show (m : Int) < 8 by omega), O_len, if_pos (show 8 * i + m < 140737488355328 by omega), e1, e2, O_snoc, w64 (x := (m : Int) + 1) (by omega) (by omega)]
    exact I
theorem of_l0 (b : List Int) (h : ∀ c ∈ b, 0 ≤ c ∧ c ≤ 255) (hl : b.length ≤ 2000) (R : Int) (next : Ev (fun k => lapidaryref02_Of.l2 k (O b (8 * (b.length + 4))) [0, 6, 9, 10, 16, 20, 21, 22, 24, 25, 27, 28, 30, 31, 32] 0) R) :
    ∀ (n i : Nat), i + n = b.length + 4 → Ev (fun k => lapidaryref02_Of.l0 k b (O b (8 * i)) (i : Int)) R := by
  intro n
  induction n with
  | zero =>
    intro i hi
    refine Ev.step (fun k => lapidaryref02_Of.l0.eq_2 _ _ _ _) ?_
    simp only [w64 (x := (b.length : Int) + 4) (by omega) (by omega), if_neg (show ¬ ((i : Int) < (b.length : Int) + 4) by omega)]
    rw [show i = b.length + 4 by omega]
    exact next
  | succ n ih =>
    intro i hi
    have L := of_l1 b h hl R i (by omega) (ih (i + 1) (by omega)) 8 0 (by omega)
    have J : Ev (fun k => lapidaryref02_Of.j1 k b (O b (8 * i)) (i : Int) (cN b i : Int)) R := by
      refine Ev.step (fun k => lapidaryref02_Of.j1.eq_2 _ _ _ _ _) ?_
      have hx : Go.bits .xor .u8 (cN b i : Int) 255 = ((cN b i ^^^ 255 : Nat) : Int) := by
        have hc := cN_lt b h i
        have e := bits_xor8 (BitVec.ofNat 8 (cN b i)) 255#8
        have e1 : (BitVec.ofNat 8 (cN b i)).toNat = cN b i := by rw [BitVec.toNat_ofNat]; exact Nat.mod_eq_of_lt hc
        rw [BitVec.toNat_xor, e1] at e
        exact e
      have hv : ∀ y : Int, y = (vN b i : Int) → Ev (fun k => lapidaryref02_Of.j2 k b (O b (8 * i)) (i : Int) y) R := by
        rintro y rfl
        refine Ev.step (fun k => lapidaryref02_Of.j2.eq_2 _ _ _ _ _) ?_
        simpa using L
      by_cases h4 : i < 4
      · simp only [if_pos (show (i : Int) < 4 by omega), hx]
        exact hv _ (by unfold vN; rw [if_pos h4])
      · simp only [if_neg (show ¬ (i : Int) < 4 by omega)]
        exact hv _ (by unfold vN; rw [if_neg h4])
    refine Ev.step (fun k => lapidaryref02_Of.l0.eq_2 _ _ _ _) ?_
    simp only [w64 (x := (b.length : Int) + 4) (by omega) (by omega), if_pos (show ((i : Int) < (b.length : Int) + 4) by omega)]
    by_cases hb : i < b.length
    · have hr : rd b (i : Int) = (cN b i : Int) := by
        have := h _ (List.getElem_mem hb)
        unfold rd cN
        simp only [Int.toNat_natCast, List.getD, List.getElem?_eq_getElem hb, Option.getD_some]
        omega
      simp only [if_pos (show (i : Int) < (b.length : Int) by omega), if_pos (show (0 : Int) ≤ (i : Int) by omega), hr]
      exact J
    · have hr : cN b i = 0 := by unfold cN; simp [List.getD, List.getElem?_eq_none (show b.length ≤ i by omega)]
      simp only [if_neg (show ¬ (i : Int) < (b.length : Int) by omega)]
      rw [hr] at J
      exact J
def AT : List Nat := [0, 6, 9, 10, 16, 20, 21, 22, 24, 25, 27, 28, 30, 31, 32]
def ATi : List Int := [0, 6, 9, 10, 16, 20, 21, 22, 24, 25, 27, 28, 30, 31, 32]
theorem ATi_get (j : Nat) (h : j < 15) : rd ATi (j : Int) = ((AT.getD j 0 : Nat) : Int) ∧ AT.getD j 0 ≤ 32 := by
  have : ∀ j : Fin 15, rd ATi ((j.val : Nat) : Int) = ((AT.getD j.val 0 : Nat) : Int) ∧ AT.getD j.val 0 ≤ 32 := by decide
  exact this ⟨j, h⟩
def flipAll (i : Nat) : List Nat → List Bool → List Bool
  | [], B => B
  | a :: t, B => flipAll i t (B.set (i + a) (!(B.getD (i + a) false)))
def flipP (i p : Nat) : List Nat → Bool
  | [] => false
  | a :: t => (decide (p = i + a)) ^^ flipP i p t
theorem flipAll_len (i : Nat) : ∀ (ats : List Nat) (B : List Bool), (flipAll i ats B).length = B.length := by
  intro ats
  induction ats with
  | nil => intro B; rfl
  | cons a t ih => intro B; unfold flipAll; rw [ih, List.length_set]
theorem flipAll_get (i p : Nat) : ∀ (ats : List Nat) (B : List Bool), p < B.length → (flipAll i ats B).getD p false = (B.getD p false ^^ flipP i p ats) := by
  intro ats
  induction ats with
  | nil => intro B _; simp [flipAll, flipP]
  | cons a t ih =>
    intro B hp
    unfold flipAll flipP
    rw [ih _ (by rw [List.length_set]; exact hp)]
    by_cases h : p = i + a
    · subst h
      simp [List.getD, List.getElem?_set, hp]
    · rw [decide_eq_false h]
      simp [List.getD, List.getElem?_set, Ne.symm h]
theorem of_l3 (R : Int) (i : Nat) : ∀ (n j : Nat) (B : List Bool), j + n = 15 → i + 32 < B.length → B.length ≤ 20000 → Ev (fun k => lapidaryref02_Of.l2 k (flipAll i (AT.drop j) B) ATi ((i + 1 : Nat) : Int)) R → Ev (fun k => lapidaryref02_Of.l3 k B ATi (i : Int) (j : Int)) R := by
  intro n
  induction n with
  | zero =>
    intro j B hj hi hB nx
    refine Ev.step (fun k => lapidaryref02_Of.l3.eq_2 _ _ _ _ _) ?_
    have hlen : (ATi.length : Int) = 15 := rfl
    obtain rfl : j = 15 := by omega
    simp only [hlen, if_neg (show ¬ (((15 : Nat) : Int) < 15) by omega), w64 (x := (i : Int) + 1) (by omega) (by omega)]
    exact nx
  | succ n ih =>
    intro j B hj hi hB nx
    refine Ev.step (fun k => lapidaryref02_Of.l3.eq_2 _ _ _ _ _) ?_
    have hlen : (ATi.length : Int) = 15 := rfl
    obtain ⟨hr, ha⟩ := ATi_get j (by omega)
    have hd : AT.drop j = AT.getD j 0 :: AT.drop (j + 1) := by
      have hj' : j < AT.length := by show j < 15; omega
      rw [List.drop_eq_getElem_cons hj']
      simp [List.getD, List.getElem?_eq_getElem hj']
    rw [hd] at nx
    generalize AT.getD j 0 = a at *
    have e : wrap64 ((i : Int) + (a : Int)) = ((i + a : Nat) : Int) := by rw [w64 (by omega) (by omega)]; omega
    simp only [hlen, hr, e, if_pos (show (j : Int) < 15 by omega), if_pos (show (0 : Int) ≤ (j : Int) by omega), if_pos (show (0 : Int) ≤ ((i + a : Nat) : Int) by omega), if_pos (show ((i + a : Nat) : Int) < (B.length : Int) by omega), w64 (x := (j : Int) + 1) (by omega) (by omega), Int.toNat_natCast]
    have hrd : rdOf false B ((i + a : Nat) : Int) = B.getD (i + a) false := by unfold rdOf; rw [Int.toNat_natCast]
    rw [hrd]
    exact ih (j + 1) _ (by omega) (by rw [List.length_set]; exact hi) (by rw [List.length_set]; exact hB) nx
theorem flipP_poly (i j : Nat) (hj : j < 32) : flipP i (i + 1 + j) AT = poly.getLsbD j := by
  have e : ∀ a, decide (i + 1 + j = i + a) = decide (1 + j = a) := fun a => by
    by_cases h : 1 + j = a
    · rw [decide_eq_true h, decide_eq_true (by omega)]
    · rw [decide_eq_false h, decide_eq_false (by omega)]
  have h1 : flipP i (i + 1 + j) AT = flipP 0 (1 + j) AT := by
    unfold AT
    simp only [flipP, e, Nat.zero_add]
  rw [h1]
  have : ∀ j : Fin 32, flipP 0 (1 + j.val) AT = poly.getLsbD j.val := by decide
  exact this ⟨j, hj⟩
theorem flipP_far (i p : Nat) (h : i + 33 ≤ p) : flipP i p AT = false := by
  unfold AT
  simp only [flipP]
  simp (disch := omega) only [decide_eq_false (show ¬ p = i + 0 by omega), decide_eq_false (show ¬ p = i + 6 by omega), decide_eq_false (show ¬ p = i + 9 by omega), decide_eq_false (show ¬ p = i + 10 by omega), decide_eq_false (show ¬ p = i + 16 by omega), decide_eq_false (show ¬ p = i + 20 by omega), decide_eq_false (show ¬ p = i + 21 by omega), decide_eq_false (show ¬ p = i + 22 by omega), decide_eq_false (show ¬ p = i + 24 by omega), decide_eq_false (show ¬ p = i + 25 by omega), decide_eq_false (show ¬ p = i + 27 by omega), decide_eq_false (show ¬ p = i + 28 by omega), decide_eq_false (show ¬ p = i + 30 by omega), decide_eq_false (show ¬ p = i + 31 by omega), decide_eq_false (show ¬ p = i + 32 by omega)]
  rfl
def Rel (b : List Int) (B : List Bool) (i : Nat) (x : BitVec 32) : Prop := B.length = 8 * (b.length + 4) ∧ (∀ j, j < 32 → B.getD (i + j) false = x.getLsbD j) ∧ ∀ p, i + 32 ≤ p → p < B.length → B.getD p false = ob b p
theorem rel_step (b : List Int) (B : List Bool) (i : Nat) (x : BitVec 32) (hr : Rel b B i x) (hi : i + 32 < B.length) : Rel b (if x.getLsbD 0 then flipAll i AT B else B) (i + 1) (stepB x ^^^ top (ob b (i + 32))) := by
  obtain ⟨h1, h2, h3⟩ := hr
  have key : ∀ j, j < 32 → B.getD (i + 1 + j) false = ((x >>> 1) ^^^ top (ob b (i + 32))).getLsbD j := by
    intro j hj
    rw [BitVec.getLsbD_xor, BitVec.getLsbD_ushiftRight, top_get _ j hj]
    by_cases h31 : j = 31
    · subst h31
      rw [BitVec.getLsbD_of_ge _ _ (by omega), decide_eq_true rfl, h3 _ (by omega) (by omega)]
      simp
    · rw [decide_eq_false h31, show i + 1 + j = i + (1 + j) by omega, h2 _ (by omega)]; simp
  unfold stepB
  cases h0 : x.getLsbD 0 with
  | false =>
    refine ⟨h1, ?_, ?_⟩
    · intro j hj
      rw [if_neg (by simp)]
      rw [key j hj]; simp
    · intro p hp hp'
      rw [if_neg (by simp)]
      exact h3 p (by omega) (by simpa using hp')
  | true =>
    rw [if_pos rfl, if_pos rfl]
    refine ⟨by rw [flipAll_len]; exact h1, ?_, ?_⟩
    · intro j hj
      rw [flipAll_get i _ _ _ (by omega), flipP_poly i j hj, key j hj]
      simp only [BitVec.getLsbD_xor, Bool.xor_assoc]
      rw [Bool.xor_comm (poly.getLsbD j)]
    · intro p hp hp'
      rw [flipAll_len] at hp'
      rw [flipAll_get i _ _ _ hp', flipP_far i p (by omega), h3 p (by omega) hp']; simp
def val (x : BitVec 32) : Int := ((~~~x).toNat : Int)
theorem of_l4 (b : List Int) (hl : b.length ≤ 2000) (B : List Bool) (x : BitVec 32) (hr : Rel b B (8 * b.length) x) : ∀ m : Nat, m ≤ 32 → Ev (fun k => lapidaryref02_Of.l4 k B (((~~~x).toNat / 2 ^ m : Nat) : Int) ((m : Int) - 1)) (val x) := by
  obtain ⟨h1, h2, h3⟩ := hr
  intro m
  induction m with
  | zero =>
    intro _
    refine Ev.step (fun k => lapidaryref02_Of.l4.eq_2 _ _ _ _) ?_
    simp only [if_neg (show ¬ (((0 : Nat) : Int) - 1 ≥ 0) by omega), Nat.pow_zero, Nat.div_one]
    exact Ev.now _
  | succ m ih =>
    intro hm
    have I := ih (by omega)
    refine Ev.step (fun k => lapidaryref02_Of.l4.eq_2 _ _ _ _) ?_
    have e0 : ((m + 1 : Nat) : Int) - 1 = (m : Int) := by omega
    have e : wrap64 (wrap64 ((B.length : Int) - 32) + (m : Int)) = ((8 * b.length + m : Nat) : Int) := by
      rw [w64 (x := (B.length : Int) - 32) (by omega) (by omega), w64 (by omega) (by omega)]; omega
    have hrd : rdOf false B ((8 * b.length + m : Nat) : Int) = x.getLsbD m := by unfold rdOf; rw [Int.toNat_natCast]; exact h2 m (by omega)
    have hy : (~~~x).toNat < 4294967296 := (~~~x).isLt
    have hbit : (!(x.getLsbD m)) = decide ((~~~x).toNat / 2 ^ m % 2 = 1) := by
      rw [← Nat.testBit_eq_decide_div_mod_eq]
      have : (~~~x).getLsbD m = !(x.getLsbD m) := by rw [BitVec.getLsbD_not]; simp; intro; omega
      rw [← this]; rfl
    have hq : (~~~x).toNat / 2 ^ (m + 1) = (~~~x).toNat / 2 ^ m / 2 := by rw [Nat.pow_succ, Nat.div_div_eq_div_mul]
    have hle : (~~~x).toNat / 2 ^ m ≤ (~~~x).toNat := Nat.div_le_self _ _
    rw [hq]
    generalize (~~~x).toNat / 2 ^ m = q at *
    simp only [e0, e, hrd, if_pos (show (m : Int) ≥ 0 by omega), if_pos (show (0 : Int) ≤ ((8 * b.length + m : Nat) : Int) by omega), if_pos (show ((8 * b.length + m : Nat) : Int) < (B.length : Int) by omega), w64 (x := (m : Int) - 1) (by omega) (by omega)]
    cases hx : x.getLsbD m with
    | true =>
      rw [hx] at hbit
      have : ¬ q % 2 = 1 := by intro hh; rw [decide_eq_true hh] at hbit; simp at hbit
      simp only [if_true]
      rw [show ((q / 2 : Nat) : Int) * 2 % 4294967296 = (q : Int) by omega]
      exact I
    | false =>
      rw [hx] at hbit
      have : q % 2 = 1 := by
        by_cases hh : q % 2 = 1
        · exact hh
        · rw [decide_eq_false hh] at hbit; simp at hbit
      simp only [Bool.false_eq_true, if_false]
      rw [show (((q / 2 : Nat) : Int) * 2 % 4294967296 + 1) % 4294967296 = (q : Int) by omega]
      exact I
theorem of_l2 (b : List Int) (hl : b.length ≤ 2000) : ∀ (n i : Nat) (B : List Bool) (x : BitVec 32), i + n = 8 * b.length → Rel b B i x → Ev (fun k => lapidaryref02_Of.l2 k B ATi (i : Int)) (val (regRun b i n x)) := by
  intro n
  induction n with
  | zero =>
    intro i B x hi hr
    have hB := hr.1
    refine Ev.step (fun k => lapidaryref02_Of.l2.eq_2 _ _ _ _) ?_
    simp only [w64 (x := (i : Int) + 32) (by omega) (by omega), if_neg (show ¬ ((i : Int) + 32 < (B.length : Int)) by omega)]
    obtain rfl : i = 8 * b.length := by omega
    have L := of_l4 b hl B x hr 32 (by omega)
    rw [Nat.div_eq_of_lt (show (~~~x).toNat < 2 ^ 32 from (~~~x).isLt)] at L
    exact L
  | succ n ih =>
    intro i B x hi hr
    have hB := hr.1
    have I := ih (i + 1) _ _ (by omega) (rel_step b B i x hr (by omega))
    refine Ev.step (fun k => lapidaryref02_Of.l2.eq_2 _ _ _ _) ?_
    have hrd : rdOf false B (i : Int) = x.getLsbD 0 := by unfold rdOf; rw [Int.toNat_natCast]; exact hr.2.1 0 (by omega)
    simp only [w64 (x := (i : Int) + 32) (by omega) (by omega), if_pos (show ((i : Int) + 32 < (B.length : Int)) by omega), if_pos (show (0 : Int) ≤ (i : Int) by omega), if_pos (show ((i : Int) < (B.length : Int)) by omega), hrd, w64 (x := (i : Int) + 1) (by omega) (by omega)]
    cases h0 : x.getLsbD 0 with
    | true =>
      rw [h0, if_pos rfl] at I
      simp only [if_true]
      exact of_l3 _ i 15 0 B (by omega) (by omega) (by omega) I
    | false =>
      rw [h0, if_neg (by simp)] at I
      simp only [Bool.false_eq_true, if_false]
      exact I
theorem rof_ev (b : List Int) (h : ∀ c ∈ b, 0 ≤ c ∧ c ≤ 255) (hl : b.length ≤ 2000) : Ev (fun k => lapidaryref02_Of.f k b) (ofV [b]) := by
  rw [ofV_one b h, ← whole b h]
  unfold lapidaryref02_Of.f
  refine of_l0 b h hl _ ?_ (b.length + 4) 0 (by omega)
  refine of_l2 b hl (8 * b.length) 0 _ _ (by omega) ⟨O_len _ _, ?_, ?_⟩
  · intro j hj
    rw [W0_get b h j hj, Nat.zero_add]
    unfold O
    simp [List.getD, show j < 8 * (b.length + 4) by omega]
  · intro p _ hp
    rw [O_len] at hp
    unfold O
    simp [List.getD, hp]
end Go.Proofs.Ytimdikfllbbdoaa.C
