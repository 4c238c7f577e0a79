/- Numbers in as few bytes as they need: what is written, and what is read of any bytes; the document's, too. No condition. The document's reading of a number. No condition. What is read of a number hangs on its own bytes alone; the number of what is written; No condition. Rows wrapped, unwrapped, many of them, and split: as functions; what is wrapped is unwrapped as it was, whatever stands ahead or behind. No condition. -/
import Derived.Test.YtbdbobjdlomjnaaGreatDoorZ7
import Derived.Test.YtbdbobjdlomjnaaGreatDoorZ8
import Derived.Test.YtbdbobjdlomjnaaGreatDoorZ4

namespace Go.Proofs.YtbdbobjdlomjnaaGreatDoor.Fv
set_option linter.unusedVariables false
set_option linter.unusedSimpArgs false
open Go.RowKit Go.Proofs.YtbdbobjdlomjnaaGreatDoor.P Go.Proofs.YtbdbobjdlomjnaaGreatDoor.C Go.Proofs.YtbdbobjdlomjnaaGreatDoorW.PrintWords Go.Proofs.YtbdbobjdlomjnaaGreatDoorW.PrintLast Go.Proofs.YtbdbobjdlomjnaaGreatDoorW.PrintMore
def putN (n : Nat) : List Int := if n < 128 then [(n : Int)] else [((n % 128 + 128 : Nat) : Int), ((n / 128 : Nat) : Int)]
theorem putN_len (n : Nat) : (putN n).length = if n < 128 then 1 else 2 := by unfold putN; split <;> rfl
theorem putN_wf (n : Nat) (h : n < 16384) : ∀ c ∈ putN n, 0 ≤ c ∧ c ≤ 255 := by
 intro c hc
 unfold putN at hc
 split at hc <;> simp at hc <;> omega
theorem bits_or8 (x y : BitVec 8) : Go.bits .or .u8 (x.toNat : Int) (y.toNat : Int) = ((x ||| y).toNat : Int) := by
 unfold Go.bits
 show IntKind.u8.wrap (((BitVec.ofInt 8 (x.toNat : Int)) ||| (BitVec.ofInt 8 (y.toNat : Int))).toNat : Int) = _
 rw [ofInt_toNat, ofInt_toNat]
 have := (x ||| y).isLt
 show ((x ||| y).toNat : Int) % 256 = _
 omega
theorem bits_and8 (x y : BitVec 8) : Go.bits .and .u8 (x.toNat : Int) (y.toNat : Int) = ((x &&& y).toNat : Int) := by
 unfold Go.bits
 show IntKind.u8.wrap (((BitVec.ofInt 8 (x.toNat : Int)) &&& (BitVec.ofInt 8 (y.toNat : Int))).toNat : Int) = _
 rw [ofInt_toNat, ofInt_toNat]
 have := (x &&& y).isLt
 show ((x &&& y).toNat : Int) % 256 = _
 omega
set_option maxRecDepth 100000 in
theorem or_byte (m : Nat) (h : m < 256) : Go.bits .or .u8 (m : Int) 128 = ((m % 128 + 128 : Nat) : Int) := by
 have h1 : (BitVec.ofNat 8 m).toNat = m := by rw [BitVec.toNat_ofNat]; exact Nat.mod_eq_of_lt h
 have := bits_or8 (BitVec.ofNat 8 m) 128#8
 rw [h1, BitVec.toNat_or, h1] at this
 rw [show ((128 : Int)) = ((128#8).toNat : Int) from rfl, this]
 have t : ∀ m : Fin 256, m.val ||| 128 = m.val % 128 + 128 := by decide
 exact congrArg _ (t ⟨m, h⟩)
theorem and_byte (m : Nat) (h : m < 256) : Go.bits .and .u8 (m : Int) 127 = ((m % 128 : Nat) : Int) := by
 have h1 : (BitVec.ofNat 8 m).toNat = m := by rw [BitVec.toNat_ofNat]; exact Nat.mod_eq_of_lt h
 have := bits_and8 (BitVec.ofNat 8 m) 127#8
 rw [h1, BitVec.toNat_and, h1] at this
 rw [show ((127 : Int)) = ((127#8).toNat : Int) from rfl, this]
 exact congrArg _ (Nat.and_two_pow_sub_one_eq_mod m 7)
theorem u64_small (n : Nat) (h : n < 18446744073709551616) : IntKind.u64.wrap (n : Int) = (n : Int) := by
 show (n : Int) % 18446744073709551616 = _
 omega
theorem w01 : wrap64 (0 + 1) = 1 := by rw [w64 (by omega) (by omega)]; rfl
theorem one_len (x : Int) : ([x] : List Int).length = 1 := rfl
theorem put_ev (n : Nat) (h : n < 16384) : Ev (fun k => vint_Put.f k [IntKind.u64.wrap (n : Int)]) (putN n) := by
 rw [u64_small n (by omega)]
 unfold vint_Put.f
 have last : ∀ x : List Int, Ev (fun k => vint_Put.l0 k x [(n : Int)] 1 1) x := fun x => by
  refine Ev.step (fun k => vint_Put.l0.eq_2 _ _ _ _ _) ?_
  simp only [Int.lt_irrefl, if_false]
  exact Ev.now _
 show Ev (fun k => vint_Put.l0 k [] [(n : Int)] 1 0) (putN n)
 refine Ev.step (fun k => vint_Put.l0.eq_2 _ _ _ _ _) ?_
 simp only [if_pos (show (0 : Int) < 1 by omega), if_pos (show (0 : Int) ≤ 0 by omega), one_len, if_pos (show (0 : Int) < ((1 : Nat) : Int) by omega), show rd [(n : Int)] 0 = (n : Int) from rfl]
 refine Ev.step (fun k => vint_Put.l1.eq_2 _ _ _ _ _ _) ?_
 by_cases hn : n < 128
 ·simp only [if_neg (show ¬ ((n : Int) ≥ 128) by omega), List.length_nil, if_pos (show 0 < 140737488355328 by omega), w01, List.nil_append]
  unfold putN
  rw [if_pos hn, show (n : Int) % 256 = (n : Int) by omega]
  exact last _
 ·simp only [if_pos (show ((n : Int) ≥ 128) by omega), List.length_nil, if_pos (show 0 < 140737488355328 by omega)]
  refine Ev.step (fun k => vint_Put.l1.eq_2 _ _ _ _ _ _) ?_
  simp only [if_neg (show ¬ ((n : Int) / 128 ≥ 128) by omega), List.nil_append, one_len, if_pos (show 1 < 140737488355328 by omega), w01]
  unfold putN
  rw [if_neg hn]
  have e1 := or_byte (n % 256) (by omega)
  rw [show ((n % 256 : Nat) : Int) = (n : Int) % 256 by omega] at e1
  rw [e1, show (n : Int) / 128 % 256 = ((n / 128 : Nat) : Int) by omega, show n % 256 % 128 = n % 128 by omega]
  exact last _
theorem rput_ev (n : Nat) (h : n < 16384) : Ev (fun k => rf01_Put.f k (IntKind.u64.wrap (n : Int))) (putN n) := by
 rw [u64_small n (by omega)]
 unfold rf01_Put.f
 have last : ∀ x : List Int, Ev (fun k => rf01_Put.l0 k 0 x) x := fun x => by
  refine Ev.step (fun k => rf01_Put.l0.eq_2 _ _ _) ?_
  simp only [Int.lt_irrefl, if_false, gt_iff_lt]
  exact Ev.now _
 have t1 : Int.tmod (n : Int) 128 % 256 = ((n % 128 : Nat) : Int) := by rw [Int.tmod_eq_emod_of_nonneg (by omega)]; omega
 have d1 : IntKind.u64.wrap (Int.tdiv (n : Int) 128) = ((n / 128 : Nat) : Int) := by
  rw [Int.tdiv_eq_ediv_of_nonneg (by omega), show (n : Int) / 128 = ((n / 128 : Nat) : Int) by omega]
  exact u64_small _ (by omega)
 simp only [t1, d1]
 by_cases hn : n < 128
 ·unfold putN
  rw [if_pos hn, show n / 128 = 0 by omega, show n % 128 = n by omega]
  exact last _
 ·refine Ev.step (fun k => rf01_Put.l0.eq_2 _ _ _) ?_
  have d2 : IntKind.u64.wrap (Int.tdiv ((n / 128 : Nat) : Int) 128) = 0 := by
   rw [Int.tdiv_eq_ediv_of_nonneg (by omega), show ((n / 128 : Nat) : Int) / 128 = ((0 : Nat) : Int) by omega]
   rfl
  have t2 : Int.tmod ((n / 128 : Nat) : Int) 128 % 256 = ((n / 128 : Nat) : Int) := by rw [Int.tmod_eq_emod_of_nonneg (by omega)]; omega
  have e0 : wrap64 (((1 : Nat) : Int) - 1) = 0 := by rw [w64 (by omega) (by omega)]; rfl
  have e2 : (rd [((n % 128 : Nat) : Int)] 0 + 128) % 256 = ((n % 128 + 128 : Nat) : Int) := by
   show (((n % 128 : Nat) : Int) + 128) % 256 = _
   omega
  simp only [if_pos (show ((n / 128 : Nat) : Int) > 0 by omega), one_len, e0, if_pos (show (0 : Int) ≤ 0 by omega), if_pos (show (0 : Int) < ((1 : Nat) : Int) by omega), e2, Option.bind_some, d2, t2]
  simp only [if_pos (show (List.set [((n % 128 : Nat) : Int)] (Int.toNat 0) ((n % 128 + 128 : Nat) : Int)).length < 140737488355328 by rw [List.length_set, one_len]; omega)]
  unfold putN
  rw [if_neg hn]
  exact last _
def gv : List Int → Nat → Nat → Nat × Nat × Int
 | [], i, _ => (0, i, 10)
 | c :: cs, i, n => if 9 < i ∨ i = 9 ∧ 1 < c then (0, i + 1, 11) else if c < 128 then (if c = 0 ∧ 0 < i then (0, i + 1, 11) else (n + c.toNat * 2 ^ (7 * i), i + 1, 0)) else gv cs (i + 1) (n + (c.toNat - 128) * 2 ^ (7 * i))
def gR (a : Nat) (r : Nat × Nat × Int) : Int × Int × Int := if r.2.2 = 0 then ((r.1 : Int), ((a + r.2.1 : Nat) : Int), 0) else (0, 0, r.2.2)
theorem or64g (a c s : Nat) (ha : a < 2 ^ s) (hc : c * 2 ^ s < 18446744073709551616) (hs : s ≤ 63) : Go.bits .or .u64 (a : Int) (shl .u64 (IntKind.u64.wrap (c : Int)) (s : Int)) = ((a + c * 2 ^ s : Nat) : Int) := by
 have hp : 2 ^ s ≤ 2 ^ 63 := Nat.pow_le_pow_right (by decide) hs
 have hc1 : c ≤ c * 2 ^ s := Nat.le_mul_of_pos_right _ (Nat.two_pow_pos s)
 have e1 : shl .u64 (IntKind.u64.wrap (c : Int)) (s : Int) = ((c * 2 ^ s : Nat) : Int) := by
  unfold shl
  rw [Int.toNat_natCast, show min s IntKind.u64.bits = s from Nat.min_eq_left (Nat.le_trans hs (by decide)), u64_small c (by omega)]
  have e : (c : Int) * 2 ^ s = ((c * 2 ^ s : Nat) : Int) := by push_cast; rfl
  rw [e]
  exact u64_small _ hc
 have h1 : (BitVec.ofNat 64 a).toNat = a := by rw [BitVec.toNat_ofNat]; exact Nat.mod_eq_of_lt (by omega)
 have h2 : (BitVec.ofNat 64 (c * 2 ^ s)).toNat = c * 2 ^ s := by rw [BitVec.toNat_ofNat]; exact Nat.mod_eq_of_lt (by omega)
 have h := bits_or64 (BitVec.ofNat 64 a) (BitVec.ofNat 64 (c * 2 ^ s))
 rw [BitVec.toNat_or, h1, h2] at h
 rw [e1, h]
 congr 1
 rw [Nat.or_comm, ← Nat.shiftLeft_eq, ← Nat.shiftLeft_add_eq_or_of_lt ha, Nat.add_comm]
theorem pow_next (i : Nat) : 2 ^ (7 * (i + 1)) = 128 * 2 ^ (7 * i) := by
 rw [show 7 * (i + 1) = 7 + 7 * i by omega, Nat.pow_add]
theorem pow8 (i : Nat) (h : i ≤ 8) : 2 ^ (7 * i) ≤ 2 ^ 56 := Nat.pow_le_pow_right (by decide) (show 7 * i ≤ 56 by omega)
theorem pow_le (i : Nat) (h : i ≤ 9) (h9 : ¬ i = 9) : 2 ^ (7 * (i + 1)) ≤ 2 ^ 63 := Nat.pow_le_pow_right (by decide) (show 7 * (i + 1) ≤ 63 by omega)
theorem hsm_of (c i : Nat) (hi : i ≤ 9) (hc : c ≤ 127) (h9 : i = 9 → c ≤ 1) : c * 2 ^ (7 * i) < 18446744073709551616 := by
 by_cases h : i = 9
 ·subst h
  exact Nat.lt_of_le_of_lt (Nat.mul_le_mul_right _ (h9 rfl)) (by decide)
 ·exact Nat.lt_of_le_of_lt (Nat.mul_le_mul hc (pow8 i (by omega))) (by decide)
theorem next_lt (n d i : Nat) (hn : n < 2 ^ (7 * i)) (hd : d ≤ 127) : n + d * 2 ^ (7 * i) < 2 ^ (7 * (i + 1)) := by
 rw [pow_next]
 generalize 2 ^ (7 * i) = q at *
 have := Nat.mul_le_mul_right q hd
 omega
theorem get_l0 (a : Nat) (l : List Int) (h : ∀ c ∈ l, 0 ≤ c ∧ c ≤ 255) (hl : a + l.length ≤ 140737488351232) : ∀ m i n : Nat, i + m = l.length → i ≤ 10 → n < 2 ^ (7 * i) → (i = 10 → False) ∨ True →
  Ev (fun k => vint_Get.l0 k (a : Int) (n : Int) (-1) l (l.length : Int) (i : Int)) (gR a (gv (l.drop i) i n)) := by
 intro m
 induction m with
 | zero =>
  intro i n hm hi hn _
  clear hn
  refine Ev.step (fun k => vint_Get.l0.eq_2 _ _ _ _ _ _ _) ?_
  simp only [if_neg (show ¬ ((i : Int) < (l.length : Int)) by omega), if_pos (show (-1 : Int) < 0 by omega)]
  rw [List.drop_eq_nil_of_le (by omega)]
  exact Ev.now _
 | succ m ih =>
  intro i n hm hi hn _
  have HN := Aside0.mk hn
  clear hn
  have hil : i < l.length := by omega
  have hc := h _ (List.getElem_mem hil)
  have hr : rd l (i : Int) = l[i] := by simp [rd, List.getD, List.getElem?_eq_getElem hil]
  refine Ev.step (fun k => vint_Get.l0.eq_2 _ _ _ _ _ _ _) ?_
  simp only [if_pos (show ((i : Int) < (l.length : Int)) by omega), if_pos (show (0 : Int) ≤ (i : Int) by omega), hr]
  rw [List.drop_eq_getElem_cons hil]
  unfold gv
  generalize hcv : l[i] = c at *
  have key : ∀ b : Bool, b = decide (9 < i ∨ i = 9 ∧ 1 < c) → Ev (fun k => vint_Get.j2 k (a : Int) (n : Int) (-1) (i : Int) c l (l.length : Int) (i : Int) b) (gR a (if 9 < i ∨ i = 9 ∧ 1 < c then (0, i + 1, 11) else if c < 128 then (if c = 0 ∧ 0 < i then (0, i + 1, 11) else (n + c.toNat * 2 ^ (7 * i), i + 1, 0)) else gv (l.drop (i + 1)) (i + 1) (n + (c.toNat - 128) * 2 ^ (7 * i)))) := by
   intro b hb
   refine Ev.step (fun k => vint_Get.j2.eq_2 _ _ _ _ _ _ _ _ _ _) ?_
   by_cases hg : 9 < i ∨ i = 9 ∧ 1 < c
   ·rw [decide_eq_true hg] at hb
    subst hb
    simp only [if_true, if_pos hg]
    exact Ev.now _
   ·rw [decide_eq_false hg] at hb
    subst hb
    have hi9 : i ≤ 9 := by omega
    have w7 : wrap64 (7 * (i : Int)) = ((7 * i : Nat) : Int) := by rw [w64 (by omega) (by omega)]; omega
    have w8 : wrap64 (wrap64 ((a : Int) + (i : Int)) + 1) = ((a + (i + 1) : Nat) : Int) := by rw [w64 (x := (a : Int) + (i : Int)) (by omega) (by omega), w64 (by omega) (by omega)]; omega
    simp only [Bool.false_eq_true, if_false, if_neg hg, w7, w8, if_pos (show (0 : Int) ≤ ((7 * i : Nat) : Int) by omega), if_neg (show ¬ (((a + (i + 1) : Nat) : Int) < 0) by omega)]
    by_cases hc8 : c < 128
    ·simp only [if_pos hc8]
     have ho := or64g n c.toNat (7 * i) HN.out (hsm_of c.toNat i hi9 (by omega) (fun h => by omega)) (by omega)
     rw [show ((c.toNat : Nat) : Int) = c by omega] at ho
     rw [ho]
     by_cases h0 : c = 0
     ·by_cases hi0 : 0 < i
      ·simp only [if_pos h0, if_pos (show (i : Int) > 0 by omega), if_pos (show c = 0 ∧ 0 < i from ⟨h0, hi0⟩)]
       exact Ev.now _
      ·simp only [if_pos h0, if_neg (show ¬ ((i : Int) > 0) by omega), if_neg (show ¬ (c = 0 ∧ 0 < i) from fun x => hi0 x.2)]
       exact Ev.now _
     ·simp only [if_neg h0, if_neg (show ¬ (c = 0 ∧ 0 < i) from fun x => h0 x.1)]
      exact Ev.now _
    ·simp only [if_neg hc8]
     have ha : Go.bits .and .u8 c 127 = ((c.toNat - 128 : Nat) : Int) := by
      have := and_byte c.toNat (by omega)
      rw [show ((c.toNat : Nat) : Int) = c by omega] at this
      rw [this]
      omega
     have hi8 : i ≤ 8 := by
      by_cases h9 : i = 9
      ·exact absurd (.inr ⟨h9, by omega⟩) hg
      ·omega
     have hd : c.toNat - 128 ≤ 127 := by omega
     have ho := or64g n (c.toNat - 128) (7 * i) HN.out (hsm_of _ i hi9 hd (fun h => by omega)) (by omega)
     have hnx := Aside0.mk (next_lt n (c.toNat - 128) i HN.out hd)
     rw [ha, ho]
     clear ho
     have w1 : wrap64 ((i : Int) + 1) = ((i + 1 : Nat) : Int) := by rw [w64 (by omega) (by omega)]; omega
     rw [w1]
     clear ha w7 w8 w1
     exact ih (i + 1) _ (by omega) (Nat.succ_le_succ hi9) hnx.out (.inr trivial)
  by_cases h9 : 9 < i
  ·simp only [if_pos (show (i : Int) > 9 by omega)]
   exact key true (decide_eq_true (.inl h9)).symm
  ·simp only [if_neg (show ¬ ((i : Int) > 9) by omega)]
   by_cases h9' : i = 9
   ·simp only [if_pos (show (i : Int) = 9 by omega)]
    refine key _ ?_
    by_cases hc1 : c > 1
    ·rw [decide_eq_true hc1, decide_eq_true (show 9 < i ∨ i = 9 ∧ 1 < c from .inr ⟨h9', hc1⟩)]
    ·rw [decide_eq_false hc1, decide_eq_false (show ¬ (9 < i ∨ i = 9 ∧ 1 < c) from fun x => x.elim (fun x => h9 x) (fun x => hc1 x.2))]
   ·simp only [if_neg (show ¬ ((i : Int) = 9) by omega)]
    exact key false (decide_eq_false (show ¬ (9 < i ∨ i = 9 ∧ 1 < c) from fun x => x.elim (fun x => h9 x) (fun x => h9' x.1))).symm
theorem get_ev (b : List Int) (h : ∀ c ∈ b, 0 ≤ c ∧ c ≤ 255) (hl : b.length ≤ 140737488351232) (a : Nat) (ha : a ≤ b.length) : Ev (fun k => vint_Get.f k b (a : Int)) (gR a (gv (b.drop a) 0 0)) := by
 unfold vint_Get.f
 simp only [if_neg (show ¬ ((a : Int) < 0) by omega), decide_eq_false (show ¬ ((a : Int) > (b.length : Int)) by omega)]
 refine Ev.step (fun k => vint_Get.j0.eq_2 _ _ _ _) ?_
 simp only [Bool.false_eq_true, if_false, if_pos (show (0 : Int) ≤ (a : Int) by omega), if_pos (show (a : Int) ≤ (b.length : Int) by omega), Int.toNat_natCast]
 have := get_l0 a (b.drop a) (fun c hc => h c (List.mem_of_mem_drop hc)) (by simp; omega) (b.drop a).length 0 0 (by omega) (by omega) (by decide) (.inr trivial)
 exact this

def vl (b : List Int) (a : Nat) : Nat → Nat
 | 0 => 0
 | j + 1 => vl b a j + (cN b (a + j) % 128) * 2 ^ (7 * j)
theorem vl_lt (b : List Int) (a : Nat) : ∀ j, vl b a j < 2 ^ (7 * j)
 | 0 => Nat.two_pow_pos _
 | j + 1 => next_lt _ _ j (vl_lt b a j) (by omega)
theorem acc_le (x y q : Nat) (T : Nat) (h : x * q + y = T) (hq : 0 < q) : x ≤ T := by
 have := Nat.le_mul_of_pos_right x hq
 omega
theorem get_l1 (b : List Int) (h : ∀ c ∈ b, 0 ≤ c ∧ c ≤ 255) (a p : Nat) (hl : b.length ≤ 140737488351232) (hp : p < b.length) (T : Nat) (hT : T < 18446744073709551616) : ∀ j acc : Nat, a + j ≤ b.length → acc * 2 ^ (7 * j) + vl b a j = T →
  Ev (fun k => rf01_Get.l1 k b (a : Int) (p : Int) (acc : Int) ((a : Int) + (j : Int) - 1)) ((T : Int), ((p + 1 : Nat) : Int), 0) := by
 intro j
 induction j with
 | zero =>
  intro acc _ hacc
  refine Ev.step (fun k => rf01_Get.l1.eq_2 _ _ _ _ _ _) ?_
  have e : acc = T := by simpa [vl] using hacc
  subst e
  simp only [if_neg (show ¬ ((a : Int) + ((0 : Nat) : Int) - 1 ≥ (a : Int)) by omega), w64 (x := (p : Int) + 1) (by omega) (by omega)]
  rw [show (p : Int) + 1 = ((p + 1 : Nat) : Int) by omega]
  exact Ev.now _
 | succ j ih =>
  intro acc haj hacc
  refine Ev.step (fun k => rf01_Get.l1.eq_2 _ _ _ _ _ _) ?_
  have hr := rdN b h (a + j) (by omega)
  have e9 : (a : Int) + ((j + 1 : Nat) : Int) - 1 = ((a + j : Nat) : Int) := by omega
  have hnew : (acc * 128 + cN b (a + j) % 128) * 2 ^ (7 * j) + vl b a j = T := by
   rw [← hacc, pow_next, Nat.add_mul]
   simp only [vl]
   rw [Nat.mul_assoc]
   omega
  have hle := acc_le _ _ _ _ hnew (Nat.two_pow_pos _)
  have I := ih _ (by omega) hnew
  clear hnew hacc ih
  have e2 : Int.tmod ((cN b (a + j) : Nat) : Int) 128 = ((cN b (a + j) % 128 : Nat) : Int) := by rw [Int.tmod_eq_emod_of_nonneg (by omega)]; omega
  have u1 : IntKind.u64.wrap ((acc : Int) * 128) = ((acc * 128 : Nat) : Int) := by
   rw [show (acc : Int) * 128 = ((acc * 128 : Nat) : Int) by omega]
   exact u64_small _ (by omega)
  have u3 : IntKind.u64.wrap (((acc * 128 : Nat) : Int) + ((cN b (a + j) % 128 : Nat) : Int)) = ((acc * 128 + cN b (a + j) % 128 : Nat) : Int) := by
   rw [show ((acc * 128 : Nat) : Int) + ((cN b (a + j) % 128 : Nat) : Int) = ((acc * 128 + cN b (a + j) % 128 : Nat) : Int) by omega]
   exact u64_small _ (by omega)
  simp only [e9, if_pos (show ((a + j : Nat) : Int) ≥ (a : Int) by omega), if_pos (show (0 : Int) ≤ ((a + j : Nat) : Int) by omega), if_pos (show ((a + j : Nat) : Int) < (b.length : Int) by omega), hr, e2, u1, u64_small (cN b (a + j) % 128) (by omega), u3]
  rw [w64 (x := ((a + j : Nat) : Int) - 1) (by omega) (by omega), show ((a + j : Nat) : Int) - 1 = (a : Int) + (j : Int) - 1 by omega]
  exact I
theorem get_r0 (b : List Int) (h : ∀ c ∈ b, 0 ≤ c ∧ c ≤ 255) (a : Nat) (hl : b.length ≤ 140737488351232) : ∀ m i : Nat, a + i + m = b.length → i ≤ 9 →
  Ev (fun k => rf01_Get.l0 k b (a : Int) ((a + i : Nat) : Int)) (gR a (gv (b.drop (a + i)) i (vl b a i))) := by
 intro m
 induction m with
 | zero =>
  intro i hm hi
  refine Ev.step (fun k => rf01_Get.l0.eq_2 _ _ _ _) ?_
  simp only [if_neg (show ¬ (((a + i : Nat) : Int) < (b.length : Int)) by omega)]
  refine Ev.step (fun k => rf01_Get.j2.eq_2 _ _ _ _ _) ?_
  simp only [Bool.false_eq_true, if_false, if_pos (show ((a + i : Nat) : Int) = (b.length : Int) by omega)]
  rw [List.drop_eq_nil_of_le (by omega)]
  exact Ev.now _
 | succ m ih =>
  intro i hm hi
  have hil : a + i < b.length := by omega
  have hr := rdN b h (a + i) hil
  have hc := cN_lt b h (a + i)
  have wx : wrap64 (((a + i : Nat) : Int) - (a : Int)) = (i : Int) := by rw [w64 (by omega) (by omega)]; omega
  refine Ev.step (fun k => rf01_Get.l0.eq_2 _ _ _ _) ?_
  rw [List.drop_eq_getElem_cons hil, getN b h (a + i) hil]
  unfold gv
  simp only [if_pos (show ((a + i : Nat) : Int) < (b.length : Int) by omega), if_pos (show (0 : Int) ≤ ((a + i : Nat) : Int) by omega), hr, wx, Int.toNat_natCast]
  generalize hcv : cN b (a + i) = c at *
  have hT : i ≤ 9 → c ≤ 127 → (i = 9 → c ≤ 1) → vl b a (i + 1) < 18446744073709551616 := by
   intro h9 hc1 h2
   show vl b a i + (cN b (a + i) % 128) * 2 ^ (7 * i) < _
   by_cases h9' : i = 9
   ·have h3 := vl_lt b a i
    subst h9'
    have h4 : c % 128 ≤ 1 := by have := h2 rfl; omega
    rw [hcv]
    have h5 := Nat.mul_le_mul_right (2 ^ (7 * 9)) h4
    have h6 : (2 : Nat) ^ (7 * 9) = 9223372036854775808 := by decide
    rw [h6] at h3 h5 ⊢
    omega
   ·exact Nat.lt_of_lt_of_le (vl_lt b a (i + 1)) (Nat.le_trans (pow_le i h9 h9') (by decide))
  have last : c ≤ 127 → (i = 9 → c ≤ 1) → Ev (fun k => rf01_Get.l1 k b (a : Int) ((a + i : Nat) : Int) 0 ((a + i : Nat) : Int)) (((vl b a i + c * 2 ^ (7 * i) : Nat) : Int), ((a + (i + 1) : Nat) : Int), 0) := by
   intro hc1 h2
   have := get_l1 b h a (a + i) hl hil (vl b a (i + 1)) (hT hi hc1 h2) (i + 1) 0 (by omega) (by omega)
   rw [show (a : Int) + ((i + 1 : Nat) : Int) - 1 = ((a + i : Nat) : Int) by omega] at this
   have e : vl b a (i + 1) = vl b a i + c * 2 ^ (7 * i) := by
    show vl b a i + (cN b (a + i) % 128) * 2 ^ (7 * i) = _
    rw [hcv, Nat.mod_eq_of_lt (by omega)]
   rw [e] at this
   exact this
  have j3 : ∀ (z : Bool), c ≤ 127 → (i = 9 → c ≤ 1) → z = decide ((c : Int) = 0 ∧ 0 < i) → Ev (fun k => rf01_Get.j3 k b (a : Int) ((a + i : Nat) : Int) z) (gR a (if 9 < i ∨ i = 9 ∧ 1 < (c : Int) then (0, i + 1, 11) else if (c : Int) < 128 then (if (c : Int) = 0 ∧ 0 < i then (0, i + 1, 11) else (vl b a i + c * 2 ^ (7 * i), i + 1, 0)) else gv (b.drop (a + i + 1)) (i + 1) (vl b a i + (c - 128) * 2 ^ (7 * i)))) := by
   intro z hc1 h2 hz
   refine Ev.step (fun k => rf01_Get.j3.eq_2 _ _ _ _ _) ?_
   rw [if_neg (show ¬ (9 < i ∨ i = 9 ∧ 1 < (c : Int)) by omega), if_pos (show (c : Int) < 128 by omega)]
   by_cases h0 : (c : Int) = 0 ∧ 0 < i
   ·rw [decide_eq_true h0] at hz
    subst hz
    simp only [if_true, if_pos h0]
    exact Ev.now _
   ·rw [decide_eq_false h0] at hz
    subst hz
    simp only [Bool.false_eq_true, if_false, if_neg h0]
    exact last hc1 h2
  by_cases hc8 : c ≥ 128
  ·simp only [if_pos (show (c : Int) ≥ 128 by omega), decide_eq_true (show (i : Int) < 10 by omega)]
   refine Ev.step (fun k => rf01_Get.j2.eq_2 _ _ _ _ _) ?_
   simp only [if_true, wx]
   by_cases h9 : i = 9
   ·simp only [if_pos (show (i : Int) = 9 by omega), if_pos (show 9 < i ∨ i = 9 ∧ 1 < (c : Int) from .inr ⟨h9, by omega⟩)]
    exact Ev.now _
   ·simp only [if_neg (show ¬ ((i : Int) = 9) by omega), if_neg (show ¬ (9 < i ∨ i = 9 ∧ 1 < (c : Int)) by omega), if_neg (show ¬ ((c : Int) < 128) by omega)]
    have I := ih (i + 1) (by omega) (by omega)
    rw [w64 (x := ((a + i : Nat) : Int) + 1) (by omega) (by omega), show ((a + i : Nat) : Int) + 1 = ((a + (i + 1) : Nat) : Int) by omega]
    have e : vl b a (i + 1) = vl b a i + (c - 128) * 2 ^ (7 * i) := by
     show vl b a i + (cN b (a + i) % 128) * 2 ^ (7 * i) = _
     rw [hcv, show c % 128 = c - 128 by omega]
    rw [e] at I
    exact I
  ·simp only [if_neg (show ¬ ((c : Int) ≥ 128) by omega)]
   refine Ev.step (fun k => rf01_Get.j2.eq_2 _ _ _ _ _) ?_
   simp only [Bool.false_eq_true, if_false, if_neg (show ¬ (((a + i : Nat) : Int) = (b.length : Int)) by omega), wx, if_pos (show (0 : Int) ≤ ((a + i : Nat) : Int) by omega), if_pos (show ((a + i : Nat) : Int) < (b.length : Int) by omega), hr]
   by_cases h9 : i = 9
   ·simp only [if_pos (show (i : Int) = 9 by omega)]
    by_cases hc1 : (c : Int) > 1
    ·simp only [if_pos hc1, if_pos (show 9 < i ∨ i = 9 ∧ 1 < (c : Int) from .inr ⟨h9, hc1⟩)]
     refine Ev.step (fun k => rf01_Get.j3.eq_2 _ _ _ _ _) ?_
     simp only [if_true]
     exact Ev.now _
    ·simp only [if_neg hc1, if_pos (show ((a + i : Nat) : Int) > (a : Int) by omega)]
     refine j3 _ (by omega) (fun _ => by omega) ?_
     rw [Bool.eq_iff_iff]
     simp only [beq_iff_eq, decide_eq_true_eq]
     omega
   ·simp only [if_neg (show ¬ ((i : Int) = 9) by omega)]
    by_cases hi0 : 0 < i
    ·simp only [if_pos (show ((a + i : Nat) : Int) > (a : Int) by omega)]
     refine j3 _ (by omega) (fun x => absurd x h9) ?_
     rw [Bool.eq_iff_iff]
     simp only [beq_iff_eq, decide_eq_true_eq]
     omega
    ·simp only [if_neg (show ¬ (((a + i : Nat) : Int) > (a : Int)) by omega)]
     refine j3 _ (by omega) (fun x => absurd x h9) ?_
     rw [decide_eq_false (show ¬ ((c : Int) = 0 ∧ 0 < i) from fun x => hi0 x.2)]
theorem rget_ev (b : List Int) (h : ∀ c ∈ b, 0 ≤ c ∧ c ≤ 255) (hl : b.length ≤ 140737488351232) (a : Nat) (ha : a ≤ b.length) : Ev (fun k => rf01_Get.f k b (a : Int)) (gR a (gv (b.drop a) 0 0)) := by
 unfold rf01_Get.f
 simp only [if_neg (show ¬ ((a : Int) < 0) by omega), decide_eq_false (show ¬ ((a : Int) > (b.length : Int)) by omega)]
 refine Ev.step (fun k => rf01_Get.j0.eq_2 _ _ _ _) ?_
 simp only [Bool.false_eq_true, if_false]
 have := get_r0 b h a hl (b.length - a) 0 (by omega) (by omega)
 exact this

theorem gv_cases (c : Int) (cs : List Int) (i n : Nat) : gv (c :: cs) i n = if 9 < i ∨ i = 9 ∧ 1 < c then (0, i + 1, 11) else if c < 128 then (if c = 0 ∧ 0 < i then (0, i + 1, 11) else (n + c.toNat * 2 ^ (7 * i), i + 1, 0)) else gv cs (i + 1) (n + (c.toNat - 128) * 2 ^ (7 * i)) := by rw [gv]
theorem gv_app : ∀ (l r : List Int) (i n : Nat), (gv l i n).2.2 ≠ 10 → gv (l ++ r) i n = gv l i n
 | [], r, i, n, h => absurd rfl h
 | c :: cs, r, i, n, h => by
  rw [List.cons_append, gv_cases, gv_cases]
  rw [gv_cases] at h
  by_cases h1 : 9 < i ∨ i = 9 ∧ 1 < c
  ·rw [if_pos h1, if_pos h1]
  ·rw [if_neg h1] at h ⊢
   rw [if_neg h1]
   by_cases h2 : c < 128
   ·rw [if_pos h2, if_pos h2]
   ·rw [if_neg h2] at h ⊢
    rw [if_neg h2]
    exact gv_app cs r _ _ h
theorem gv_len : ∀ (l : List Int) (i n : Nat), (gv l i n).2.2 ≠ 10 → i < (gv l i n).2.1 ∧ (gv l i n).2.1 ≤ i + l.length
 | [], i, n, h => absurd rfl h
 | c :: cs, i, n, h => by
  rw [gv_cases] at h ⊢
  by_cases h1 : 9 < i ∨ i = 9 ∧ 1 < c
  ·rw [if_pos h1]; exact ⟨Nat.lt_succ_self _, by simp⟩
  ·rw [if_neg h1] at h ⊢
   by_cases h2 : c < 128
   ·rw [if_pos h2]
    split <;> exact ⟨Nat.lt_succ_self _, by simp⟩
   ·rw [if_neg h2] at h ⊢
    have := gv_len cs _ _ h
    simp only [List.length_cons]
    omega
theorem gv_take : ∀ (l : List Int) (i n m : Nat), i + m < (gv l i n).2.1 ∨ (gv l i n).2.2 = 10 → (gv (l.take m) i n).2.2 = 10
 | [], i, n, m, h => by simp [gv]
 | c :: cs, i, n, 0, h => rfl
 | c :: cs, i, n, m + 1, h => by
  rw [List.take_succ_cons, gv_cases]
  rw [gv_cases] at h
  by_cases h1 : 9 < i ∨ i = 9 ∧ 1 < c
  ·rw [if_pos h1] at h; rcases h with h | h
   ·simp at h <;> omega
   ·simp at h
  ·rw [if_neg h1] at h ⊢
   by_cases h2 : c < 128
   ·rw [if_pos h2] at h
    split at h
    ·rcases h with h | h
     ·simp at h <;> omega
     ·simp at h
    ·rcases h with h | h
     ·simp at h <;> omega
     ·simp at h
   ·rw [if_neg h2] at h ⊢
    exact gv_take cs _ _ m (h.elim (fun h => .inl (by omega)) .inr)
theorem gv_err (l : List Int) (i n : Nat) : (gv l i n).2.2 = 10 ∨ (gv l i n).2.2 = 11 ∨ (gv l i n).2.2 = 0 := by
 induction l generalizing i n with
 | nil => left; rfl
 | cons c cs ih =>
  rw [gv_cases]
  split
  ·right; left; rfl
  ·split
   ·split
    ·right; left; rfl
    ·right; right; rfl
   ·exact ih _ _
theorem gv_put (n : Nat) (h : n < 16384) (r : List Int) : gv (putN n ++ r) 0 0 = (n, (putN n).length, 0) := by
 rw [putN_len]
 unfold putN
 by_cases h1 : n < 128
 ·rw [if_pos h1, if_pos h1, List.singleton_append, gv_cases, if_neg (by omega), if_pos (by omega), if_neg (by omega)]
  simp
 ·rw [if_neg h1, if_neg h1, List.cons_append, List.singleton_append, gv_cases, if_neg (by omega), if_neg (by omega), gv_cases, if_neg (by omega), if_pos (by omega), if_neg (by omega)]
  simp only [Int.toNat_natCast]
  refine Prod.ext ?_ rfl
  show 0 + (n % 128 + 128 - 128) * 2 ^ (7 * 0) + n / 128 * 2 ^ (7 * (0 + 1)) = n
  have : (2 : Nat) ^ (7 * (0 + 1)) = 128 := by decide
  rw [this]
  simp
  omega
theorem put_gv (l : List Int) (h : ∀ c ∈ l, 0 ≤ c ∧ c ≤ 255) (n m : Nat) (hg : gv l 0 0 = (n, m, 0)) (hn : n < 16384) : l.take m = putN n := by
 match l with
 | [] => simp [gv] at hg
 | c :: cs =>
  have hc := h c (List.mem_cons_self)
  rw [gv_cases, if_neg (by omega)] at hg
  by_cases h1 : c < 128
  ·rw [if_pos h1, if_neg (by omega)] at hg
   simp at hg
   obtain ⟨rfl, rfl⟩ := hg
   unfold putN
   rw [if_pos (by omega)]
   simp
   omega
  ·rw [if_neg h1] at hg
   match cs with
   | [] => simp [gv] at hg
   | d :: ds =>
    have hd := h d (by simp)
    rw [gv_cases, if_neg (by omega)] at hg
    have p7 : (2 : Nat) ^ (7 * (0 + 1)) = 128 := by decide
    rw [p7] at hg
    by_cases h2 : d < 128
    ·rw [if_pos h2] at hg
     by_cases h3 : d = 0 ∧ 0 < 0 + 1
     ·rw [if_pos h3] at hg; simp at hg
     ·rw [if_neg h3] at hg
      simp at hg
      obtain ⟨h4, rfl⟩ := hg
      unfold putN
      rw [if_neg (by omega)]
      simp
      constructor <;> omega
    ·rw [if_neg h2] at hg
     exfalso
     have key : ∀ (l : List Int) (i n n' m' : Nat), (∀ c ∈ l, 0 ≤ c ∧ c ≤ 255) → 2 ≤ i → gv l i n = (n', m', 0) → 16384 ≤ n' := by
      intro l
      induction l with
      | nil => intro i n n' m' _ _ hg; simp [gv] at hg
      | cons c cs ih =>
       intro i n n' m' hw hi hg
       have hc := hw c (List.mem_cons_self)
       rw [gv_cases] at hg
       split at hg
       ·simp at hg
       ·split at hg
        ·split at hg
         ·simp at hg
         ·simp at hg
          have hq : (16384 : Nat) ≤ 2 ^ (7 * i) := Nat.le_trans (by decide) (Nat.pow_le_pow_right (n := 2) (by decide) (show 14 ≤ 7 * i by omega))
          have hc1 : 1 ≤ c.toNat := by omega
          have := Nat.mul_le_mul_right (2 ^ (7 * i)) hc1
          omega
        ·exact ih _ _ _ _ (fun c hc => hw c (List.mem_cons_of_mem _ hc)) (by omega) hg
     have := key ds _ _ _ _ (fun c hc => h c (by simp [hc])) (by omega) hg
     omega
end Go.Proofs.YtbdbobjdlomjnaaGreatDoor.Fv

namespace Go.Proofs.YtbdbobjdlomjnaaGreatDoor.Ec
set_option linter.unusedVariables false
set_option linter.unusedSimpArgs false
open Go.Proofs.YtbdbobjdlomjnaaGreatDoor.Fv
def wrapV (b : List Int) : List Int := putN b.length ++ (putN (encV b).length ++ encV b)
def unwV (b : List Int) (a : Nat) : List Int × Int × Int :=
 if (gv (b.drop a) 0 0).2.2 = 0 ∧ (gv (b.drop a) 0 0).1 ≤ 65536 ∧ (gv (b.drop (a + (gv (b.drop a) 0 0).2.1)) 0 0).2.2 = 0 ∧ (gv (b.drop (a + (gv (b.drop a) 0 0).2.1)) 0 0).1 ≤ b.length - (a + (gv (b.drop a) 0 0).2.1 + (gv (b.drop (a + (gv (b.drop a) 0 0).2.1)) 0 0).2.1) then
  match unpackV (gv (b.drop a) 0 0).1 ((b.drop (a + (gv (b.drop a) 0 0).2.1 + (gv (b.drop (a + (gv (b.drop a) 0 0).2.1)) 0 0).2.1)).take (gv (b.drop (a + (gv (b.drop a) 0 0).2.1)) 0 0).1) with
  | some l => (l, ((a + (gv (b.drop a) 0 0).2.1 + (gv (b.drop (a + (gv (b.drop a) 0 0).2.1)) 0 0).2.1 + (gv (b.drop (a + (gv (b.drop a) 0 0).2.1)) 0 0).1 : Nat) : Int), 0)
  | none => ([], 0, 11)
 else ([], 0, 11)
theorem drop_app {α : Type} (a b : List α) {n : Nat} (h : n = a.length) : (a ++ b).drop n = b := by rw [h, List.drop_left]
theorem unw_wrap {b pre post : List Int} (hb : Dg b) (hl : b.length ≤ 8000) : unwV (pre ++ (wrapV b ++ post)) pre.length = (b, ((pre.length + (wrapV b).length : Nat) : Int), 0) := by
 have hi := In_dg.2 hb
 have hn := encV_len hi
 have e1 : (pre ++ (wrapV b ++ post)).drop pre.length = putN b.length ++ (putN (encV b).length ++ (encV b ++ post)) := by
  rw [List.drop_left]; unfold wrapV; simp only [List.append_assoc]
 have g1 := gv_put b.length (by omega) (putN (encV b).length ++ (encV b ++ post))
 rw [← e1] at g1
 have e2 : (pre ++ (wrapV b ++ post)).drop (pre.length + (putN b.length).length) = putN (encV b).length ++ (encV b ++ post) := by
  rw [← List.drop_drop, e1, List.drop_left]
 have g2 := gv_put (encV b).length (by omega) (encV b ++ post)
 rw [← e2] at g2
 have e3 : (pre ++ (wrapV b ++ post)).drop (pre.length + (putN b.length).length + (putN (encV b).length).length) = encV b ++ post := by
  rw [← List.drop_drop, e2, List.drop_left]
 have hlen : (pre ++ (wrapV b ++ post)).length = pre.length + (putN b.length).length + (putN (encV b).length).length + (encV b).length + post.length := by
  unfold wrapV; simp only [List.length_append]; omega
 unfold unwV
 simp only [g1, g2, e3]
 rw [if_pos ⟨trivial, by omega, trivial, by omega⟩, List.take_left, enc_unpack hi]
 unfold wrapV
 simp only [List.length_append, Prod.mk.injEq, true_and, and_true]
 omega
def rowsV (b : List Int) : Nat → Nat → Option (List (List Int) × Nat)
 | 0, a => some ([], a)
 | n + 1, a => if (unwV b a).2.2 = 0 then (rowsV b n (unwV b a).2.1.toNat).map fun t => ((unwV b a).1 :: t.1, t.2) else none
def splitV (b : List Int) : List (List Int) × Int :=
 if (gv b 0 0).2.2 = 0 ∧ (gv b 0 0).1 ≤ 50 then
  match rowsV b (gv b 0 0).1 (gv b 0 0).2.1 with
  | some t => if t.2 = b.length then (t.1, 0) else ([], 11)
  | none => ([], 11)
 else ([], 11)
def manyB : List (List Int) → List Int
 | [] => []
 | b :: l => wrapV b ++ manyB l
def manyV (l : List (List Int)) : List Int × Int := if 50 < l.length then ([], 3) else (putN l.length ++ manyB l, 0)
theorem rows_many : ∀ (l : List (List Int)) (pre : List Int), (∀ b ∈ l, Dg b ∧ b.length ≤ 8000) → rowsV (pre ++ manyB l) l.length pre.length = some (l, (pre ++ manyB l).length)
 | [], pre, _ => by simp [rowsV, manyB]
 | b :: l, pre, h => by
  have hb := h b (List.mem_cons_self ..)
  have hu := unw_wrap (pre := pre) (post := manyB l) hb.1 hb.2
  have ih := rows_many l (pre ++ wrapV b) (fun x hx => h x (List.mem_cons_of_mem _ hx))
  rw [List.append_assoc, List.length_append] at ih
  unfold manyB
  rw [List.length_cons, rowsV, hu]
  simp only [if_true, Int.toNat_natCast]
  rw [ih]
  rfl
theorem split_many (l : List (List Int)) (h : ∀ b ∈ l, Dg b ∧ b.length ≤ 8000) (hl : l.length ≤ 50) : splitV (putN l.length ++ manyB l) = (l, 0) := by
 have g := gv_put l.length (by omega) (manyB l)
 unfold splitV
 simp only [g]
 rw [if_pos ⟨trivial, hl⟩, rows_many l _ h]
 simp
end Go.Proofs.YtbdbobjdlomjnaaGreatDoor.Ec
