/- Arcs told the other way round: they close just if they did; their points. No condition. -/
import Derived.Test.YtfbkjgedaadlmaaRC
namespace Go.Proofs.Ytfbkjgedaadlmaa.G
set_option linter.unusedVariables false
set_option linter.unusedSimpArgs false
open Go.RowKit Go.Proofs.Ytfbkjgedaadlmaa.P Go.Proofs.YtfbkjgedaadlmaaW.PrintWords Go.Proofs.YtfbkjgedaadlmaaW.PrintLast Go.Proofs.YtfbkjgedaadlmaaW.PrintMore

theorem arcB_other (m : List (List Pt)) (n : Int) : arcB m (-n - 1) = (arcB m n).map List.reverse := by
  unfold arcB
  by_cases h : 0 ≤ n
  · rw [if_pos h, if_neg (by omega), show -1 - (-n - 1) = n by omega]
  · rw [if_neg h, if_pos (by omega), show -n - 1 = -1 - n by omega]
    cases m[(-1 - n).toNat]? <;> simp
theorem arcsOf_cons (m : List (List Pt)) (n : Int) (t : List Int) : arcsOf m (n :: t) = match arcB m n with
    | none => none
    | some a => if a.length = 0 then none else (arcsOf m t).map (a :: ·) := rfl
theorem arcsOf_append (m : List (List Pt)) (ys : List Int) : ∀ xs : List Int, arcsOf m (xs ++ ys) = (arcsOf m xs).bind fun a => (arcsOf m ys).map (a ++ ·) := by
  intro xs
  induction xs with
  | nil => show arcsOf m ys = _; simp [arcsOf]
  | cons n t ih =>
    rw [List.cons_append, arcsOf_cons, arcsOf_cons]
    cases arcB m n with
    | none => rfl
    | some a =>
      simp only
      by_cases h : a.length = 0
      · obtain rfl := List.length_eq_zero_iff.1 h
        simp
      · simp only [if_neg h]
        rw [ih]
        cases arcsOf m t <;> cases arcsOf m ys <;> simp
def flipR (refs : List Int) : List Int := refs.reverse.map fun x => -x - 1
def flipA (L : List (List Pt)) : List (List Pt) := L.reverse.map List.reverse
theorem flipR_flipR (refs : List Int) : flipR (flipR refs) = refs := by
  unfold flipR
  rw [← List.map_reverse, List.reverse_reverse, List.map_map]
  conv => rhs; rw [← List.map_id refs]
  apply List.map_congr_left
  intro x _
  show -(-x - 1) - 1 = x
  omega
theorem arcsOf_flip (m : List (List Pt)) : ∀ refs : List Int, arcsOf m (flipR refs) = (arcsOf m refs).map flipA := by
  intro refs
  induction refs with
  | nil => rfl
  | cons n t ih =>
    have e : flipR (n :: t) = flipR t ++ [-n - 1] := by unfold flipR; simp
    rw [e, arcsOf_append, ih, arcsOf_cons, arcsOf_cons, arcB_other]
    cases arcB m n with
    | none => simp
    | some a =>
      simp only [Option.map_some, List.length_reverse]
      by_cases h : a.length = 0
      · obtain rfl := List.length_eq_zero_iff.1 h
        simp
      · simp only [if_neg h]
        cases arcsOf m t with
        | none => rfl
        | some L => simp [arcsOf, flipA]
theorem eqP_comm (p q : Pt) : eqP p q = eqP q p := by unfold eqP; rw [Bool.beq_comm (a := p.f0), Bool.beq_comm (a := p.f1), Bool.beq_comm (a := p.f2)]
theorem eqP_iff (p q : Pt) : eqP p q = true ↔ p = q := by
  unfold eqP
  cases p; cases q
  simp
theorem lastP_get (a : List Pt) (h : 0 < a.length) : lastP a = a[a.length - 1] := by
  unfold lastP
  rw [show (a.length : Int) - 1 = ((a.length - 1 : Nat) : Int) by omega, rdp a _ (by omega)]
theorem headP_get (a : List Pt) (h : 0 < a.length) : headP a = a[0] := by
  unfold headP
  exact rdp a 0 h
theorem lastP_rev (a : List Pt) (h : 0 < a.length) : lastP a.reverse = headP a := by
  rw [lastP_get _ (by simpa using h), headP_get a h, List.getElem_reverse]
  congr 1
  rw [List.length_reverse]; omega
theorem headP_rev (a : List Pt) (h : 0 < a.length) : headP a.reverse = lastP a := by
  rw [headP_get _ (by simpa using h), lastP_get a h, List.getElem_reverse]
  congr 1
theorem okAt_flip (L : List (List Pt)) (hne : ∀ a ∈ L, 0 < a.length) (i : Nat) (hi : i < L.length) : okAt (flipA L) i = okNext L (L.length - 1 - i) := by
  have hl : (flipA L).length = L.length := by unfold flipA; simp
  have hg : ∀ j (h : j < L.length), rd_L2 (flipA L) (j : Int) = (L[L.length - 1 - j]).reverse := by
    intro j h
    rw [rdl (flipA L) j (by omega)]
    unfold flipA
    simp
  have h1 : (i + L.length - 1) % L.length < L.length := Nat.mod_lt _ (by omega)
  have e : L.length - 1 - (i + L.length - 1) % L.length = (L.length - 1 - i + 1) % L.length := by
    by_cases hq : i = 0
    · subst hq
      rw [Nat.zero_add, Nat.mod_eq_of_lt (show L.length - 1 < L.length by omega), show L.length - 1 - 0 + 1 = L.length by omega, Nat.mod_self]; omega
    · rw [show i + L.length - 1 = i - 1 + L.length by omega, Nat.add_mod_right, Nat.mod_eq_of_lt (show i - 1 < L.length by omega), Nat.mod_eq_of_lt (show L.length - 1 - i + 1 < L.length by omega)]; omega
  unfold okAt okNext
  rw [hl, hg _ h1, hg _ hi, rdl L _ (show L.length - 1 - i < L.length by omega), rdl L _ (Nat.mod_lt _ (by omega))]
  rw [lastP_rev _ (hne _ (List.getElem_mem _)), headP_rev _ (hne _ (List.getElem_mem _)), eqP_comm]
  congr 2
  have : ∀ (x y : Nat) (hx : x < L.length) (hy : y < L.length), x = y → L[x] = L[y] := by intro x y _ _ h; subst h; rfl
  exact this _ _ _ _ e
theorem okFrom_iff (L : List (List Pt)) : okFrom L 0 L.length = true ↔ ∀ i, i < L.length → okAt L i = true := by
  unfold okFrom
  simp only [List.all_eq_true, List.mem_range'_1, Nat.zero_le, true_and, Nat.zero_add]
theorem okFrom_flip (L : List (List Pt)) (hne : ∀ a ∈ L, 0 < a.length) : okFrom (flipA L) 0 (flipA L).length = okFrom L 0 L.length := by
  rw [Bool.eq_iff_iff, okFrom_iff, okFrom_iff, ok_iff L]
  have hl : (flipA L).length = L.length := by unfold flipA; simp
  rw [hl]
  constructor
  · intro h i hi
    have h1 := h (L.length - 1 - i) (by omega)
    rw [okAt_flip L hne _ (by omega), show L.length - 1 - (L.length - 1 - i) = i by omega] at h1
    exact h1
  · intro h i hi
    rw [okAt_flip L hne i hi]
    exact h _ (by omega)
def tailL (l : List (List Pt)) : List Pt := (l.map List.tail).flatten
theorem drop_last (a : List Pt) (h : 0 < a.length) : a.dropLast ++ [lastP a] = a := by
  rw [lastP_get a h]
  have h' : a ≠ [] := by intro e; subst e; simp at h
  have := List.dropLast_concat_getLast h'
  rw [List.getLast_eq_getElem] at this
  exact this
theorem head_tail (a : List Pt) (h : 0 < a.length) : headP a :: a.tail = a := by
  rw [headP_get a h]
  cases a with
  | nil => simp at h
  | cons x t => rfl
theorem chain (q : Pt) : ∀ (t : List (List Pt)) (x : List Pt), (∀ a ∈ x :: t, 0 < a.length) → (∀ i (h : i + 1 < (x :: t).length), lastP (x :: t)[i] = headP (x :: t)[i + 1]) → lastP ((x :: t)[(x :: t).length - 1]'(by simp)) = q →
    flatL (x :: t) ++ [q] = headP x :: tailL (x :: t) := by
  intro t
  induction t with
  | nil =>
    intro x hn _ hq
    have h := hn x (by simp)
    have hq' : lastP x = q := hq
    unfold flatL tailL
    simp only [List.map_cons, List.map_nil, List.flatten_cons, List.flatten_nil, List.append_nil]
    rw [← hq', drop_last x h, head_tail x h]
  | cons y t ih =>
    intro x hn hc hq
    have h := hn x (by simp)
    have h1 := ih y (fun a ha => hn a (List.mem_cons_of_mem _ ha)) (fun i hi => by have := hc (i + 1) (by simpa using hi); simpa using this) (by
      have e : (x :: y :: t)[(x :: y :: t).length - 1]'(by simp) = (y :: t)[(y :: t).length - 1]'(by simp) := by simp
      rw [← e]; exact hq)
    have h0 : lastP x = headP y := hc 0 (by simp)
    have e1 : flatL (x :: y :: t) = x.dropLast ++ flatL (y :: t) := by unfold flatL; simp
    have e2 : tailL (x :: y :: t) = x.tail ++ tailL (y :: t) := by unfold tailL; simp
    rw [e1, e2, List.append_assoc, h1, ← h0, ← List.cons_append, head_tail x h]
    conv => rhs; rw [← drop_last x h]
    rw [List.append_assoc]; rfl
theorem closed_chain (L : List (List Pt)) (h0 : 0 < L.length) (hne : ∀ a ∈ L, 0 < a.length) (hok : okFrom L 0 L.length = true) : flatL L ++ [headP L[0]] = headP L[0] :: tailL L := by
  have h := (ok_iff L).1 ((okFrom_iff L).1 hok)
  cases L with
  | nil => simp at h0
  | cons x t =>
    refine chain _ t x hne ?_ ?_
    · intro i hi
      have h1 := h i (by omega)
      unfold okNext at h1
      rw [Nat.mod_eq_of_lt hi, rdl _ i (by omega), rdl _ (i + 1) hi] at h1
      exact (eqP_iff _ _).1 h1
    · have h1 := h ((x :: t).length - 1) (by omega)
      unfold okNext at h1
      rw [show (x :: t).length - 1 + 1 = (x :: t).length by omega, Nat.mod_self, rdl _ ((x :: t).length - 1) (by omega), rdl _ 0 h0] at h1
      exact (eqP_iff _ _).1 h1
theorem flat_flip (L : List (List Pt)) : flatL (flipA L) = (tailL L).reverse := by
  unfold flatL flipA tailL
  rw [List.map_map, List.reverse_flatten, List.map_map, ← List.map_reverse]
  congr 1
  apply List.map_congr_left
  intro a _
  simp
/-- What comes of a ring told the other way round. -/
theorem ptsV_flip (m : List (List Pt)) (refs : List Int) : (ptsV m [] (flipR refs)).2 = (ptsV m [] refs).2 ∧ (ptsV m [] (flipR refs)).1.length = (ptsV m [] refs).1.length ∧
    ∀ i, i < (ptsV m [] refs).1.length → (ptsV m [] (flipR refs)).1[i]? = (ptsV m [] refs).1[((ptsV m [] refs).1.length - i) % (ptsV m [] refs).1.length]? := by
  unfold ptsV
  rw [arcsOf_flip]
  cases hL : arcsOf m refs with
  | none => exact ⟨rfl, rfl, fun i hi => by simp at hi⟩
  | some L =>
    obtain ⟨hn, hg⟩ := arcsOf_get m refs L hL
    have hne : ∀ a ∈ L, 0 < a.length := by
      intro a ha
      obtain ⟨j, hj, rfl⟩ := List.mem_iff_getElem.1 ha
      exact (hg j (by omega) hj).2
    have hl : (flipA L).length = L.length := by unfold flipA; simp
    simp only [Option.map_some, List.nil_append]
    unfold ringV
    rw [okFrom_flip L hne, hl]
    by_cases h0 : 0 < L.length
    · rw [if_pos h0, if_pos h0]
      by_cases hok : okFrom L 0 L.length = true
      · rw [if_pos hok, if_pos hok]
        have hc := closed_chain L h0 hne hok
        refine ⟨rfl, ?_, ?_⟩
        · have := congrArg List.length hc
          simp only [List.length_append, List.length_cons, List.length_nil] at this
          show (flatL (flipA L)).length = (flatL L).length
          rw [flat_flip, List.length_reverse]; omega
        · intro i hi
          show (flatL (flipA L))[i]? = (flatL L)[((flatL L).length - i) % (flatL L).length]?
          have hi' : i < (flatL L).length := hi
          rw [flat_flip]
          generalize flatL L = a at *
          generalize headP L[0] = p at *
          generalize tailL L = b at *
          cases a with
          | nil => simp at hi'
          | cons x t =>
            rw [List.cons_append] at hc
            injection hc with hx hb
            subst hb
            rw [List.reverse_append]
            simp only [List.length_cons] at hi' ⊢
            cases i with
            | zero =>
              rw [Nat.sub_zero, Nat.mod_self]
              simp [hx]
            | succ i =>
              rw [Nat.mod_eq_of_lt (show t.length + 1 - (i + 1) < t.length + 1 by omega), show t.length + 1 - (i + 1) = (t.length - 1 - i) + 1 by omega]
              simp only [List.reverse_cons, List.reverse_nil, List.nil_append, List.singleton_append, List.getElem?_cons_succ]
              rw [List.getElem?_reverse (by omega)]
      · rw [if_neg hok, if_neg hok]; exact ⟨rfl, rfl, fun i hi => by simp at hi⟩
    · rw [if_neg h0, if_neg h0]; exact ⟨rfl, rfl, fun i hi => by simp at hi⟩
end Go.Proofs.Ytfbkjgedaadlmaa.G
