/- Sections, written: the program's and the document's. No condition. -/
import Derived.Test.YtimdikfllbbdoaaPx12
import Derived.Test.YtimdikfllbbdoaaPx25
import Derived.Test.YtimdikfllbbdoaaPx32
import Derived.Test.YtimdikfllbbdoaaPx1
import Derived.Test.YtimdikfllbbdoaaFX
namespace Go.Proofs.Ytimdikfllbbdoaa.Fv
set_option linter.unusedVariables false
set_option linter.unusedSimpArgs false
open Go.RowKit Go.Proofs.Ytimdikfllbbdoaa.P Go.Proofs.Ytimdikfllbbdoaa.C Go.Proofs.YtimdikfllbbdoaaW.PrintWords Go.Proofs.YtimdikfllbbdoaaW.PrintLast Go.Proofs.YtimdikfllbbdoaaW.PrintMore

theorem nx (i : Nat) (h : i < 4611686018427387904) : wrap64 ((i : Int) + 1) = ((i + 1 : Nat) : Int) := by rw [w64 (by omega) (by omega)]; omega
theorem pv (i : Nat) (h : i < 4611686018427387904) : wrap64 (((i + 1 : Nat) : Int) - 1) = (i : Int) := by rw [w64 (by omega) (by omega)]; omega
def wfS (s : S33) : Prop := (∀ c ∈ s.f1, 0 ≤ c ∧ c ≤ 255) ∧ s.f1.length ≤ 1900
def szL : List S33 → Nat
  | [] => 0
  | s :: l => s.f1.length + 7 + szL l
def bodyL : List S33 → List Int
  | [] => []
  | s :: l => secB s.f0 s.f1 ++ bodyL l
def okL : Int → List S33 → Bool
  | _, [] => true
  | q, s :: l => decide (1 ≤ s.f0 ∧ s.f0 ≤ 9 ∧ q < s.f0) && okL s.f0 l
def inL : List S33 → Bool
  | [] => true
  | s :: l => decide (1 ≤ s.f0 ∧ s.f0 ≤ 9) && inL l
def hdB : List Int := [76, 80, 68, 89, 1]
def encV (l : List S33) : List Int × Int := if okL 0 l = true then (hdB ++ bodyL l ++ [0], 0) else ([], 2)
theorem secB_len (k : Int) (B : List Int) : (secB k B).length = 1 + (putN B.length).length + B.length + 4 := by
  unfold secB
  rw [List.length_append, List.length_append, List.length_append, one_len]
  rfl
theorem putN_le (n : Nat) : (putN n).length ≤ 2 := by rw [putN_len]; split <;> omega
theorem putN_pos (n : Nat) : 1 ≤ (putN n).length := by rw [putN_len]; split <;> omega
theorem secB_le (k : Int) (B : List Int) : (secB k B).length ≤ B.length + 7 := by
  rw [secB_len]; have := putN_le B.length; omega
theorem secB_pos (k : Int) (B : List Int) : 1 ≤ (secB k B).length := by rw [secB_len]; omega
theorem rdS (l : List S33) (i : Nat) (h : i < l.length) : rd_T33 l (i : Int) = l[i] := by
  unfold rd_T33
  simp [List.getD, List.getElem?_eq_getElem h]
theorem inL_of_okL : ∀ (l : List S33) (q : Int), okL q l = true → inL l = true
  | [], _, _ => rfl
  | s :: l, q, h => by
    simp only [okL, Bool.and_eq_true, decide_eq_true_eq] at h
    simp only [inL, Bool.and_eq_true, decide_eq_true_eq]
    exact ⟨⟨h.1.1, h.1.2.1⟩, inL_of_okL l _ h.2⟩

theorem enc_l0 (l : List S33) (hw : ∀ s ∈ l, wfS s) (hlen : l.length ≤ 140737488351232) : ∀ (m i : Nat) (out : List Int) (q : Int) (r : Bool), i + m = l.length → out.length + szL (l.drop i) ≤ 200000 →
    Ev (fun k => frame_Encode.l0 k out q r l (l.length : Int) (i : Int)) (if (r && okL q (l.drop i)) = true then (out ++ bodyL (l.drop i) ++ [0], 0) else ([], 2)) := by
  intro m
  induction m with
  | zero =>
    intro i out q r hm hsz
    refine Ev.step (fun k => frame_Encode.l0.eq_2 _ _ _ _ _ _ _) ?_
    rw [List.drop_eq_nil_of_le (by omega)] at hsz ⊢
    simp only [szL] at hsz
    simp only [if_neg (show ¬ ((i : Int) < (l.length : Int)) by omega), if_pos (show out.length < 140737488355328 by omega), okL, bodyL, List.append_nil, Bool.and_true]
    refine Ev.bind (a := out ++ [0]) (Ev.now _) ?_
    cases r with
    | false =>
      simp only [Bool.false_eq_true, if_false]
      exact Ev.now _
    | true =>
      simp only [if_true, if_neg (show ¬ (((out ++ [0]).length : Int) > 1048576) by rw [List.length_append, one_len]; omega)]
      exact Ev.now _
  | succ m ih =>
    intro i out q r hm hsz
    have hil : i < l.length := by omega
    have hs := hw _ (List.getElem_mem hil)
    have hr := rdS l i hil
    refine Ev.step (fun k => frame_Encode.l0.eq_2 _ _ _ _ _ _ _) ?_
    rw [List.drop_eq_getElem_cons hil] at hsz ⊢
    simp only [if_pos (show (i : Int) < (l.length : Int) by omega), if_pos (show (0 : Int) ≤ (i : Int) by omega), hr, szL, okL, bodyL, nx i (by omega)] at hsz ⊢
    generalize l[i] = s at *
    have h1 := one_ev s.f0 s.f1 hs.1 hs.2
    refine Ev.bind h1 ?_
    unfold oneV
    by_cases hb : s.f0 < 1 ∨ s.f0 > 9
    · simp only [if_pos hb, if_neg (show ¬ ((2 : Int) = 0) by omega)]
      have e : (r && (decide (1 ≤ s.f0 ∧ s.f0 ≤ 9 ∧ q < s.f0) && okL s.f0 (List.drop (i + 1) l))) = false := by
        rw [decide_eq_false (show ¬ (1 ≤ s.f0 ∧ s.f0 ≤ 9 ∧ q < s.f0) by omega), Bool.false_and, Bool.and_false]
      simp only [e, Bool.false_eq_true, if_false]
      exact Ev.now _
    · have hle := secB_le s.f0 s.f1
      simp only [if_neg hb, if_true, if_pos (show out.length + (secB s.f0 s.f1).length < 140737488355328 by omega)]
      have I := fun z => ih (i + 1) (out ++ secB s.f0 s.f1) s.f0 z (by omega) (by rw [List.length_append]; omega)
      have e : decide (1 ≤ s.f0 ∧ s.f0 ≤ 9 ∧ q < s.f0) = decide (s.f0 > q) := by
        rw [Bool.eq_iff_iff, decide_eq_true_eq, decide_eq_true_eq]
        omega
      simp only [e]
      cases r with
      | false =>
        have := I false
        simp only [Bool.false_eq_true, Bool.false_and, if_false] at this ⊢
        exact this
      | true =>
        have := I (decide (s.f0 > q))
        simp only [if_true, Bool.true_and, List.append_assoc] at this ⊢
        exact this
theorem enc_ev (l : List S33) (hw : ∀ s ∈ l, wfS s) (hsz : szL l ≤ 100000) : Ev (fun k => frame_Encode.f k l) (encV l) := by
  have hl : ∀ l : List S33, l.length ≤ szL l := by
    intro l
    induction l with
    | nil => exact Nat.le_refl _
    | cons s l ih => simp only [List.length_cons, szL]; omega
  have := hl l
  unfold frame_Encode.f
  refine Ev.bind (a := hdB) (Ev.now _) ?_
  have := enc_l0 l hw (by omega) l.length 0 hdB 0 true (by omega) (by rw [List.drop_zero]; show 5 + _ ≤ _; omega)
  simp only [Bool.true_and, List.drop_zero] at this
  exact this

theorem renc_l1 (l : List S33) (hin : ∀ s ∈ l, 1 ≤ s.f0 ∧ s.f0 ≤ 9) (hlen : l.length ≤ 140737488351232) (out : List Int) (ho : out.length ≤ 200000) : ∀ (m i : Nat) (q : S33), i + 1 + m = l.length → l[i]? = some q →
    Ev (fun k => lapidaryref03_Encode.l1 k l out ((i + 1 : Nat) : Int)) (if okL q.f0 (l.drop (i + 1)) = true then (out ++ [0], 0) else ([], 2)) := by
  intro m
  induction m with
  | zero =>
    intro i q hm hq
    refine Ev.step (fun k => lapidaryref03_Encode.l1.eq_2 _ _ _ _) ?_
    rw [List.drop_eq_nil_of_le (by omega)]
    simp only [if_neg (show ¬ (((i + 1 : Nat) : Int) < (l.length : Int)) by omega), if_pos (show out.length < 140737488355328 by omega), okL, if_true]
    refine Ev.bind (a := out ++ [0]) (Ev.now _) ?_
    simp only [if_neg (show ¬ (((out ++ [0]).length : Int) > 1048576) by rw [List.length_append, one_len]; omega)]
    exact Ev.now _
  | succ m ih =>
    intro i q hm hq
    have hil : i + 1 < l.length := by omega
    have hs := hin _ (List.getElem_mem hil)
    have hr := rdS l (i + 1) hil
    have hr0 : rd_T33 l (i : Int) = q := by
      rw [rdS l i (by omega)]
      rw [List.getElem?_eq_getElem (by omega)] at hq
      exact Option.some.inj hq
    refine Ev.step (fun k => lapidaryref03_Encode.l1.eq_2 _ _ _ _) ?_
    rw [List.drop_eq_getElem_cons hil]
    simp only [if_pos (show ((i + 1 : Nat) : Int) < (l.length : Int) by omega), if_pos (show (0 : Int) ≤ ((i + 1 : Nat) : Int) by omega), hr, okL, pv i (by omega), nx (i + 1) (by omega), hr0, if_pos (show (0 : Int) ≤ (i : Int) by omega), if_pos (show (i : Int) < (l.length : Int) by omega)]
    have I := ih (i + 1) _ (by omega) (List.getElem?_eq_getElem hil)
    generalize l[i + 1] = s at *
    by_cases hb : s.f0 ≤ q.f0
    · simp only [if_pos hb]
      simp only [decide_eq_false (show ¬ (1 ≤ s.f0 ∧ s.f0 ≤ 9 ∧ q.f0 < s.f0) by omega), Bool.false_and, Bool.false_eq_true, if_false]
      exact Ev.now _
    · simp only [if_neg hb, decide_eq_true (show 1 ≤ s.f0 ∧ s.f0 ≤ 9 ∧ q.f0 < s.f0 from ⟨hs.1, hs.2, by omega⟩), Bool.true_and]
      exact I
theorem renc_l0 (l : List S33) (hw : ∀ s ∈ l, wfS s) (hlen : l.length ≤ 140737488351232) (R : List Int × Int) : ∀ (m i : Nat) (out : List Int), i + m = l.length → out.length + szL (l.drop i) ≤ 200000 → (inL (l.drop i) = false → R = ([], 2)) →
    (inL (l.drop i) = true → Ev (fun k => lapidaryref03_Encode.l1 k l (out ++ bodyL (l.drop i)) 1) R) → Ev (fun k => lapidaryref03_Encode.l0 k l out (i : Int)) R := by
  intro m
  induction m with
  | zero =>
    intro i out hm hsz h1 h2
    refine Ev.step (fun k => lapidaryref03_Encode.l0.eq_2 _ _ _ _) ?_
    rw [List.drop_eq_nil_of_le (by omega)] at h2
    simp only [if_neg (show ¬ ((i : Int) < (l.length : Int)) by omega)]
    have := h2 rfl
    simp only [bodyL, List.append_nil] at this
    exact this
  | succ m ih =>
    intro i out hm hsz h1 h2
    have hil : i < l.length := by omega
    have hs := hw _ (List.getElem_mem hil)
    have hr := rdS l i hil
    refine Ev.step (fun k => lapidaryref03_Encode.l0.eq_2 _ _ _ _) ?_
    rw [List.drop_eq_getElem_cons hil] at hsz h1 h2
    simp only [szL, inL, bodyL] at hsz h1 h2
    simp only [if_pos (show (i : Int) < (l.length : Int) by omega), if_pos (show (0 : Int) ≤ (i : Int) by omega), hr, nx i (by omega)]
    generalize l[i] = s at *
    refine Ev.bind (rone_ev s.f0 s.f1 hs.1 hs.2) ?_
    unfold oneV
    by_cases hb : s.f0 < 1 ∨ s.f0 > 9
    · simp only [if_pos hb, if_neg (show ¬ ((2 : Int) = 0) by omega)]
      rw [h1 (by rw [decide_eq_false (by omega), Bool.false_and])]
      exact Ev.now _
    · have hle := secB_le s.f0 s.f1
      simp only [if_neg hb, if_true, if_pos (show out.length + (secB s.f0 s.f1).length < 140737488355328 by omega)]
      rw [decide_eq_true (show 1 ≤ s.f0 ∧ s.f0 ≤ 9 by omega)] at h1 h2
      simp only [Bool.true_and] at h1 h2
      exact ih (i + 1) (out ++ secB s.f0 s.f1) (by omega) (by rw [List.length_append]; omega) h1 (fun x => by rw [List.append_assoc]; exact h2 x)
theorem inL_mem : ∀ (l : List S33), inL l = true → ∀ s ∈ l, 1 ≤ s.f0 ∧ s.f0 ≤ 9
  | [], _, s, hs => by simp at hs
  | t :: l, h, s, hs => by
    simp only [inL, Bool.and_eq_true, decide_eq_true_eq] at h
    rcases List.mem_cons.1 hs with rfl | hs
    · exact h.1
    · exact inL_mem l h.2 s hs
theorem body_len : ∀ l : List S33, (bodyL l).length ≤ szL l
  | [] => Nat.le_refl _
  | s :: l => by
    have := secB_le s.f0 s.f1
    have := body_len l
    simp only [bodyL, szL, List.length_append]
    omega
theorem renc_ev (l : List S33) (hw : ∀ s ∈ l, wfS s) (hsz : szL l ≤ 100000) : Ev (fun k => lapidaryref03_Encode.f k l) (encV l) := by
  have hl : ∀ l : List S33, l.length ≤ szL l := by
    intro l
    induction l with
    | nil => exact Nat.le_refl _
    | cons s l ih => simp only [List.length_cons, szL]; omega
  have hll := hl l
  have hbl := body_len l
  unfold lapidaryref03_Encode.f
  refine renc_l0 l hw (by omega) _ l.length 0 hdB (by omega) (by rw [List.drop_zero]; show 5 + _ ≤ _; omega) ?_ ?_
  · rw [List.drop_zero]
    intro h
    unfold encV
    rw [if_neg (fun x => by rw [inL_of_okL l 0 x] at h; cases h)]
  · rw [List.drop_zero]
    intro h
    have hin := inL_mem l h
    have hol : (hdB ++ bodyL l).length ≤ 200000 := by rw [List.length_append]; show 5 + _ ≤ _; omega
    cases l with
    | nil =>
      refine Ev.step (fun k => lapidaryref03_Encode.l1.eq_2 _ _ _ _) ?_
      simp only [List.length_nil, if_neg (show ¬ ((1 : Int) < ((0 : Nat) : Int)) by omega), if_pos (show (hdB ++ bodyL []).length < 140737488355328 by omega)]
      exact Ev.now _
    | cons s t =>
      have := renc_l1 (s :: t) hin (by omega) _ hol t.length 0 s (by simp only [List.length_cons]; omega) rfl
      have hs := hin s (List.mem_cons_self)
      unfold encV
      simp only [okL, decide_eq_true (show 1 ≤ s.f0 ∧ s.f0 ≤ 9 ∧ 0 < s.f0 from ⟨hs.1, hs.2, by omega⟩), Bool.true_and]
      exact this

/-- What is asked: is it long? -/
def lenL : List S33 → Nat
  | [] => 0
  | s :: l => 1 + s.f1.length + lenL l
theorem long_l0 (l : List S33) (hlen : lenL l ≤ 140737488351232) : ∀ (m i n : Nat), i + m = l.length → n + lenL (l.drop i) ≤ 140737488351232 → Ev (fun k => lapidarylaw03_long.l0 k l (n : Int) (i : Int)) (decide (((n + lenL (l.drop i) : Nat) : Int) > 1500)) := by
  have hl : ∀ l : List S33, l.length ≤ lenL l := by
    intro l
    induction l with
    | nil => exact Nat.le_refl _
    | cons s l ih => simp only [List.length_cons, lenL]; omega
  have hll := hl l
  intro m
  induction m with
  | zero =>
    intro i n hm hn
    refine Ev.step (fun k => lapidarylaw03_long.l0.eq_2 _ _ _ _) ?_
    rw [List.drop_eq_nil_of_le (by omega)]
    simp only [if_neg (show ¬ ((i : Int) < (l.length : Int)) by omega), lenL, Nat.add_zero]
    exact Ev.now _
  | succ m ih =>
    intro i n hm hn
    have hil : i < l.length := by omega
    have hr := rdS l i hil
    refine Ev.step (fun k => lapidarylaw03_long.l0.eq_2 _ _ _ _) ?_
    rw [List.drop_eq_getElem_cons hil] at hn ⊢
    simp only [lenL] at hn
    simp only [if_pos (show (i : Int) < (l.length : Int) by omega), if_pos (show (0 : Int) ≤ (i : Int) by omega), hr, lenL, nx i (by omega)]
    generalize l[i] = s at *
    have := ih (i + 1) (n + (1 + s.f1.length)) (by omega) (by omega)
    rw [w64 (x := (n : Int) + 1) (by omega) (by omega), w64 (by omega) (by omega), show (n : Int) + 1 + (s.f1.length : Int) = ((n + (1 + s.f1.length) : Nat) : Int) by omega]
    simp only [show n + (1 + s.f1.length + lenL (List.drop (i + 1) l)) = n + (1 + s.f1.length) + lenL (List.drop (i + 1) l) by omega]
    exact this
theorem long_ev (l : List S33) (hlen : lenL l ≤ 140737488351232) : Ev (fun k => lapidarylaw03_long.f k l) (decide ((lenL l : Int) > 1500)) := by
  have := long_l0 l hlen l.length 0 0 (by omega) (by rw [List.drop_zero]; omega)
  rw [List.drop_zero, Nat.zero_add] at this
  exact this
theorem sz_len : ∀ l : List S33, szL l ≤ 7 * lenL l
  | [] => Nat.le_refl _
  | s :: l => by
    have := sz_len l
    simp only [szL, lenL]
    omega
/-- Are sections the same? -/
theorem rsame_self (l : List S33) (hlen : l.length ≤ 140737488351232) : Ev (fun k => lapidaryref03_Same.f k l l) true := by
  unfold lapidaryref03_Same.f
  simp only [if_true]
  have : ∀ m i : Nat, i + m = l.length → Ev (fun k => lapidaryref03_Same.l0 k l l (i : Int)) true := by
    intro m
    induction m with
    | zero =>
      intro i hm
      refine Ev.step (fun k => lapidaryref03_Same.l0.eq_2 _ _ _ _) ?_
      simp only [if_neg (show ¬ ((i : Int) < (l.length : Int)) by omega)]
      exact Ev.now _
    | succ m ih =>
      intro i hm
      refine Ev.step (fun k => lapidaryref03_Same.l0.eq_2 _ _ _ _) ?_
      simp only [if_pos (show (i : Int) < (l.length : Int) by omega), if_pos (show (0 : Int) ≤ (i : Int) by omega), if_true, same_self, Option.bind_some, nx i (by omega)]
      exact ih (i + 1) (by omega)
  exact this l.length 0 (by omega)
end Go.Proofs.Ytimdikfllbbdoaa.Fv
