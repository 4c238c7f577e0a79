/- The document's points of arcs: the same. No condition. -/
import Derived.Test.YtfbkjgedaadlmaaPx13
import Derived.Test.YtfbkjgedaadlmaaRQ
import Derived.Test.YtfbkjgedaadlmaaRB
namespace Go.Proofs.Ytfbkjgedaadlmaa.G
set_option linter.unusedVariables false
set_option linter.unusedSimpArgs false
open Go.RowKit Go.Proofs.Ytfbkjgedaadlmaa.P Go.Proofs.YtfbkjgedaadlmaaW.PrintWords Go.Proofs.YtfbkjgedaadlmaaW.PrintLast Go.Proofs.YtfbkjgedaadlmaaW.PrintMore

theorem arcsOf_get (m : List (List Pt)) : ∀ (refs : List Int) (L : List (List Pt)), arcsOf m refs = some L → L.length = refs.length ∧ ∀ i (h : i < refs.length) (h' : i < L.length), arcB m refs[i] = some L[i] ∧ 0 < L[i].length := by
  intro refs
  induction refs with
  | nil =>
    intro L h
    have e : [] = L := Option.some.inj h
    subst e
    exact ⟨rfl, fun i h => by simp at h⟩
  | cons n t ih =>
    intro L h
    unfold arcsOf at h
    cases hq : arcB m n with
    | none => rw [hq] at h; cases h
    | some a =>
      rw [hq] at h
      simp only at h
      split at h
      · cases h
      · obtain ⟨ls, h1, rfl⟩ := Option.map_eq_some_iff.1 h
        obtain ⟨h2, h3⟩ := ih ls h1
        refine ⟨by simp [h2], fun i hi hi' => ?_⟩
        cases i with
        | zero => exact ⟨hq, by simp only [List.getElem_cons_zero]; omega⟩
        | succ i => exact h3 i (by simpa using hi) (by simpa using hi')
def okNext (L : List (List Pt)) (i : Nat) : Bool := eqP (lastP (rd_L2 L (i : Int))) (headP (rd_L2 L (((i + 1) % L.length : Nat) : Int)))
theorem ok_iff (L : List (List Pt)) : (∀ i, i < L.length → okAt L i = true) ↔ (∀ i, i < L.length → okNext L i = true) := by
  constructor
  · intro h i hi
    have h1 := h ((i + 1) % L.length) (Nat.mod_lt _ (by omega))
    unfold okAt at h1
    have e : ((i + 1) % L.length + L.length - 1) % L.length = i := by
      by_cases hq : i + 1 = L.length
      · rw [hq, Nat.mod_self, Nat.zero_add, Nat.mod_eq_of_lt (by omega)]; omega
      · rw [Nat.mod_eq_of_lt (show i + 1 < L.length by omega), show i + 1 + L.length - 1 = i + L.length by omega, Nat.add_mod_right, Nat.mod_eq_of_lt hi]
    rw [e] at h1
    exact h1
  · intro h i hi
    have h1 := h ((i + L.length - 1) % L.length) (Nat.mod_lt _ (by omega))
    unfold okNext at h1
    have e : ((i + L.length - 1) % L.length + 1) % L.length = i := by
      by_cases hq : i = 0
      · rw [hq, Nat.zero_add, Nat.mod_eq_of_lt (show L.length - 1 < L.length by omega), show L.length - 1 + 1 = L.length by omega, Nat.mod_self]
      · rw [show i + L.length - 1 = i - 1 + L.length by omega, Nat.add_mod_right, Nat.mod_eq_of_lt (show i - 1 < L.length by omega), show i - 1 + 1 = i by omega, Nat.mod_eq_of_lt hi]
    rw [e] at h1
    exact h1
def nextFrom (L : List (List Pt)) (i n : Nat) : Bool := (List.range' i n).all (okNext L)
theorem rpts_l1 (m : List (List Pt)) (r p : List (List Int)) (B : Nat) (hb : B < 5864062014805) (hm : ∀ x ∈ m, x.length ≤ B) (refs : List Int) (hr : refs.length ≤ 1000000000000) (hw : ∀ x ∈ refs, -9223372036854775808 ≤ x ∧ x ≤ 9223372036854775807) (hs : refs.length * B < 5864062014805)
    (L : List (List Pt)) (hL : arcsOf m refs = some L) : ∀ (n i : Nat), i + n = refs.length → Ev (fun k => lapidaryref16_Points.l1 k refs (flatL (L.take i)) (i : Int) m r p) (if nextFrom L i n then (flatL L, 0) else ([], 90)) := by
  obtain ⟨hn, hg⟩ := arcsOf_get m refs L hL
  have hlen : ∀ a ∈ L, a.length ≤ B := by
    intro a ha
    obtain ⟨j, hj, rfl⟩ := List.mem_iff_getElem.1 ha
    obtain ⟨x, hx, e⟩ := arcB_mem (hg j (by omega) hj).1
    have := hm x hx; omega
  intro n
  induction n with
  | zero =>
    intro i hi
    refine Ev.step (fun k => lapidaryref16_Points.l1.eq_2 _ _ _ _ _ _ _) ?_
    simp only [if_neg (show ¬ ((i : Int) < (refs.length : Int)) by omega)]
    rw [show i = L.length by omega, List.take_length]
    simp only [nextFrom, List.range'_zero, List.all_nil, if_true]
    exact Ev.now _
  | succ n ih =>
    intro i hi
    have h1 : i < refs.length := by omega
    have h2 : i < L.length := by omega
    have hk0 : (i + 1) % L.length < L.length := Nat.mod_lt _ (by omega)
    have I := ih (i + 1) (by omega)
    obtain ⟨j, hj⟩ : ∃ j, (i + 1) % L.length = j := ⟨_, rfl⟩
    have hk : j < L.length := by rw [← hj]; exact hk0
    have key : Ev (fun k => lapidaryref16_Points.j2 k refs (flatL (L.take i)) (i : Int) ((j : Nat) : Int) m r p) (if nextFrom L i (n + 1) then (flatL L, 0) else ([], 90)) := by
      have hA := rarc_ev m r p refs[i] (hw _ (List.getElem_mem h1)).1 (hw _ (List.getElem_mem h1)).2 (fun x hx => by have := hm x hx; omega)
      have hB := rarc_ev m r p (refs[j]'(by omega)) (hw _ (List.getElem_mem _)).1 (hw _ (List.getElem_mem _)).2 (fun x hx => by have := hm x hx; omega)
      rw [(hg i h1 h2).1] at hA
      rw [(hg j (by omega) hk).1] at hB
      have p1 := (hg i h1 h2).2
      have p2 := (hg j (by omega) hk).2
      have b1 := hlen _ (List.getElem_mem h2)
      have hsp : nextFrom L i (n + 1) = (okNext L i && nextFrom L (i + 1) n) := by unfold nextFrom; rw [List.range'_succ, List.all_cons]
      have hok : okNext L i = eqP (lastP L[i]) (headP L[j]) := by unfold okNext; rw [hj, rdl L i h2, rdl L j hk]
      have hfl : flatL (L.take (i + 1)) = flatL (L.take i) ++ L[i].dropLast := by
        unfold flatL; rw [List.take_succ_eq_append_getElem h2, List.map_append, List.flatten_append]; simp
      have hl2 : (flatL (L.take (i + 1))).length < 5864062014805 := by
        have q1 := flat_len (L.take (i + 1))
        have q2 := sum_bound B L hlen
        have q3 : ((L.take (i + 1)).map List.length).sum ≤ (L.map List.length).sum := by
          rw [List.map_take]
          conv => rhs; rw [← List.take_append_drop (i + 1) (L.map List.length), List.sum_append]
          omega
        rw [hn] at q2
        omega
      rw [hfl, List.length_append, List.length_dropLast] at hl2
      refine Ev.step (fun k => lapidaryref16_Points.j2.eq_2 _ _ _ _ _ _ _ _) ?_
      have hri : rd refs (i : Int) = refs[i] := by unfold rd; simp [h1]
      have hrj : rd refs (j : Int) = refs[j]'(by omega) := by unfold rd; simp [show j < refs.length by omega]
      simp only [if_pos (show (0 : Int) ≤ (i : Int) by omega), if_pos (show (i : Int) < (refs.length : Int) by omega), if_pos (show (0 : Int) ≤ (j : Int) by omega), if_pos (show (j : Int) < (refs.length : Int) by omega), hri, hrj]
      refine Ev.bind hA ?_
      refine Ev.bind hB ?_
      simp only [w64_id (x := (L[i].length : Int) - 1) (by omega) (by omega), w64_id (x := (i : Int) + 1) (by omega) (by omega), if_pos (show (0 : Int) ≤ (L[i].length : Int) - 1 by omega), if_pos (show (L[i].length : Int) - 1 < (L[i].length : Int) by omega), if_pos (show (0 : Int) < (L[j].length : Int) by omega), if_pos (show (L[i].length : Int) - 1 ≤ (L[i].length : Int) by omega)]
      rw [hsp, hok]
      by_cases hc : eqP (lastP L[i]) (headP L[j]) = true
      · have hc' := hc
        unfold eqP lastP headP at hc'
        simp only [Bool.and_eq_true] at hc'
        simp only [hc'.1, hc'.2.1, hc'.2.2, Bool.not_true, Bool.or_self, Bool.false_eq_true, if_false, hc, Bool.true_and, Option.bind_some, show ((L[i].length : Int) - 1).toNat = L[i].length - 1 by omega, ← List.dropLast_eq_take, List.length_dropLast, if_pos hl2]
        rw [hfl] at I
        exact I
      · have hc' := hc
        rw [Bool.not_eq_true] at hc
        have hd : (!((rd_T42 L[i] ((L[i].length : Int) - 1)).f0 == (rd_T42 L[j] 0).f0) || (!((rd_T42 L[i] ((L[i].length : Int) - 1)).f1 == (rd_T42 L[j] 0).f1) || (!((rd_T42 L[i] ((L[i].length : Int) - 1)).f2 == (rd_T42 L[j] 0).f2)))) = true := by
          unfold eqP lastP headP at hc
          rw [← Bool.not_and, ← Bool.not_and, hc]; rfl
        simp only [hd, hc, Bool.false_and, Bool.false_eq_true, if_false, if_true]
        exact Ev.now _
    refine Ev.step (fun k => lapidaryref16_Points.l1.eq_2 _ _ _ _ _ _ _) ?_
    simp only [if_pos (show (i : Int) < (refs.length : Int) by omega), w64_id (x := (i : Int) + 1) (by omega) (by omega)]
    by_cases hq : (i : Int) + 1 = (refs.length : Int)
    · simp only [if_pos hq]
      rw [show j = 0 by rw [← hj, hn, show i + 1 = refs.length by omega, Nat.mod_self]] at key
      exact key
    · simp only [if_neg hq]
      rw [Nat.mod_eq_of_lt (show i + 1 < L.length by omega)] at hj
      rw [← hj] at key
      exact key
theorem rpts_l0 (m : List (List Pt)) (r p : List (List Int)) (B : Nat) (hb : B < 5864062014805) (hm : ∀ x ∈ m, x.length ≤ B) (refs : List Int) (hr : refs.length ≤ 1000000000000) (hw : ∀ x ∈ refs, -9223372036854775808 ≤ x ∧ x ≤ 9223372036854775807) (hs : refs.length * B < 5864062014805) :
    ∀ (n i : Nat), i + n = refs.length → (arcsOf m (refs.drop i) = none ↔ arcsOf m refs = none) → Ev (fun k => lapidaryref16_Points.l0 k refs (i : Int) m r p) (ptsV m [] refs) := by
  intro n
  induction n with
  | zero =>
    intro i hi hn
    refine Ev.step (fun k => lapidaryref16_Points.l0.eq_2 _ _ _ _ _ _) ?_
    simp only [if_neg (show ¬ ((i : Int) < (refs.length : Int)) by omega)]
    rw [List.drop_of_length_le (by omega)] at hn
    cases hL : arcsOf m refs with
    | none => rw [hL] at hn; simp [arcsOf] at hn
    | some L =>
      have hl := (arcsOf_get m refs L hL).1
      have h := rpts_l1 m r p B hb hm refs hr hw hs L hL refs.length 0 (by omega)
      have e : (if nextFrom L 0 refs.length then (flatL L, (0 : Int)) else ([], 90)) = if okFrom L 0 L.length then (flatL L, (0 : Int)) else ([], 90) := by
        have e1 : nextFrom L 0 refs.length = okFrom L 0 L.length := by
          rw [← hl]
          rw [Bool.eq_iff_iff]
          unfold nextFrom okFrom
          simp only [List.all_eq_true, List.mem_range'_1, Nat.zero_le, true_and, Nat.zero_add]
          exact (ok_iff L).symm
        rw [e1]
      unfold ptsV ringV
      rw [hL]
      simp only [List.nil_append]
      by_cases h0 : refs.length = 0
      · simp only [if_pos (show (refs.length : Int) = 0 by omega), if_neg (show ¬ 0 < L.length by omega)]
        exact Ev.now _
      · simp only [if_neg (show ¬ (refs.length : Int) = 0 by omega), if_pos (show 0 < L.length by omega)]
        rw [e] at h
        exact h
  | succ n ih =>
    intro i hi hn
    have h1 : i < refs.length := by omega
    have hx := hw _ (List.getElem_mem h1)
    refine Ev.step (fun k => lapidaryref16_Points.l0.eq_2 _ _ _ _ _ _) ?_
    have hrd : rd refs (i : Int) = refs[i] := by unfold rd; simp [h1]
    simp only [if_pos (show (i : Int) < (refs.length : Int) by omega), if_pos (show (0 : Int) ≤ (i : Int) by omega), hrd, w64_id (x := (i : Int) + 1) (by omega) (by omega)]
    refine Ev.bind (rarc_ev m r p refs[i] hx.1 hx.2 (fun x hx => by have := hm x hx; omega)) ?_
    rw [List.drop_eq_getElem_cons h1] at hn
    unfold arcsOf at hn
    cases hq : arcB m refs[i] with
    | none =>
      rw [hq] at hn
      have h2 : arcsOf m refs = none := by
        have h3 := hn.1 rfl
        rw [← h3]; rw [arcsOf.eq_def]
      simp only [if_neg (show ¬ ((2 : Int) = 0) by decide)]
      unfold ptsV
      rw [h2]
      exact Ev.now _
    | some a =>
      rw [hq] at hn
      simp only [if_true]
      by_cases h0 : a.length = 0
      · have h2 : arcsOf m refs = none := by
          have h3 := hn.1 (by simp only [if_pos h0])
          rw [← h3]; rw [arcsOf.eq_def]
        simp only [if_pos (show ((a.length : Int) = 0) by omega)]
        unfold ptsV
        rw [h2]
        exact Ev.now _
      · simp only [if_neg (show ¬ ((a.length : Int) = 0) by omega)]
        have I := ih (i + 1) (by omega) (by
          simp only [if_neg h0, Option.map_eq_none_iff] at hn
          rw [hn]
          rw [← arcsOf.eq_def])
        exact I
theorem rpoints_ev (m : List (List Pt)) (r p : List (List Int)) (B : Nat) (hb : B < 5864062014805) (hm : ∀ x ∈ m, x.length ≤ B) (refs : List Int) (hr : refs.length ≤ 1000000000000) (hw : ∀ x ∈ refs, -9223372036854775808 ≤ x ∧ x ≤ 9223372036854775807) (hs : refs.length * B < 5864062014805) :
    Ev (fun k => lapidaryref16_Points.f k m r p refs) (ptsV m [] refs) := by
  unfold lapidaryref16_Points.f
  exact rpts_l0 m r p B hb hm refs hr hw hs refs.length 0 (by omega) (by rw [List.drop_zero])
end Go.Proofs.Ytfbkjgedaadlmaa.G
