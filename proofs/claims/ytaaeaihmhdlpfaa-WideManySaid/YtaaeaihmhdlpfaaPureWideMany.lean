/- Many are added as one behind the other, in whichever order; how two stand is the sign of one less the other one. No condition. -/
import Derived.Test.YtaaeaihmhdlpfaaPx18
import Derived.Test.YtaaeaihmhdlpfaaW08
namespace Go.Proofs.Ytaaeaihmhdlpfaa.Pure
set_option linter.unusedVariables false
set_option linter.unusedSimpArgs false
open Go.RowKit Go.Proofs.Ytaaeaihmhdlpfaa.P Go.Proofs.Ytaaeaihmhdlpfaa.X Go.Proofs.Ytaaeaihmhdlpfaa.WL Go.Proofs.YtaaeaihmhdlpfaaW.PrintWords Go.Proofs.YtaaeaihmhdlpfaaW.PrintLast Go.Proofs.YtaaeaihmhdlpfaaW.PrintMore

theorem many_j2 {a b : Int} (a1 : -9223372036854775808 ≤ a) (a2 : a ≤ 9223372036854775807) (b1 : -9223372036854775808 ≤ b) (b2 : b ≤ 9223372036854775807) (xs ys : List Int) (hx : xs.length < 9000000000000000000) (hy : ys.length < 9000000000000000000) (hs : ys.sum = xs.sum) :
    Ev (fun k => lapidarylaw08_WideMany.j2 k a b (xs.map num) (ys.map num) (cmp3 a b) (hiw xs.sum) (low xs.sum) (hiw (a - b)) (low (a - b))) true := by
  have K : Ev (fun k => (lapidarylaw08_known.f k).bind fun t => some t) true := Ev.bind (f := fun _ t => some t) known_ev (Ev.now true)
  have A1 := wAdds_ev 0 xs hx
  have A2 := wAdds_ev 0 ys hy
  rw [Int.zero_add] at A1 A2
  rw [hs] at A2
  have C := wCmp_eq a b
  rw [show cmp3 (off a) (off b) = cmp3 a b by unfold cmp3 off; split <;> split <;> first | rfl | omega | (split <;> first | rfl | omega | (split <;> first | rfl | omega))] at C
  have S := wSign_eq (a - b)
  rw [sign_of (by omega) (by omega), show cmp3 (a - b) 0 = cmp3 a b by unfold cmp3; split <;> split <;> first | rfl | omega | (split <;> first | rfl | omega | (split <;> first | rfl | omega))] at S
  refine Ev.step (f := fun k => (wide_Of.f 0).bind fun bt356 => ((wide_Add.f k bt356.1 bt356.2 (xs.map num)).bind fun bt358 => (if (bt358.1 == hiw xs.sum && (bt358.2 == low xs.sum)) = true then ((wide_Of.f 0).bind fun bt360 => ((wide_Add.f k bt360.1 bt360.2 (ys.map num)).bind fun bt362 => (if (bt362.1 == hiw xs.sum && (bt362.2 == low xs.sum)) = true then ((wide_Sign.f (hiw (a - b)) (low (a - b))).bind fun t364 => (if t364 = cmp3 a b then ((wide_Of.f a).bind fun bt365 => ((wide_Of.f b).bind fun bt367 => ((wide_Cmp.f bt365.1 bt365.2 bt367.1 bt367.2).bind fun t369 => (if t369 = cmp3 a b then ((lapidarylaw08_known.f k).bind fun t370 => (some t370)) else (none))))) else (none))) else (none)))) else (none)))) (fun k => by simp only [lapidarylaw08_WideMany.j2]) ?_
  simp only [wOf_eq (a := 0) (by decide) (by decide), Option.bind_some]
  refine Ev.bind A1 ?_
  simp only [beq_self_eq_true, Bool.and_self, if_pos]
  refine Ev.bind A2 ?_
  simp only [beq_self_eq_true, Bool.and_self, if_pos, S, C, wOf_eq a1 a2, wOf_eq b1 b2, Option.bind_some]
  exact K
theorem many_l0 {a b : Int} (a1 : -9223372036854775808 ≤ a) (a2 : a ≤ 9223372036854775807) (b1 : -9223372036854775808 ≤ b) (b2 : b ≤ 9223372036854775807) (l : List Int) (hl : l.length ≤ 60) (hr : ∀ x ∈ l, -9223372036854775808 ≤ x ∧ x ≤ 9223372036854775807) :
    ∀ (n i : Nat), i + n = l.length → ∀ (p q : List Int), p = l.take i → q = l.reverse.take i →
    Ev (fun k => lapidarylaw08_WideMany.l0 k l a b ((p.map (· * a)).map num) ((q.map (· * a)).map num) (i : Int) (hiw (p.map (· * a)).sum) (low (p.map (· * a)).sum)) true := by
  intro n
  induction n with
  | zero =>
    intro i hi p q hp hq
    have hp' : p = l := by rw [hp, List.take_of_length_le (by omega)]
    have hq' : q = l.reverse := by rw [hq, List.take_of_length_le (by rw [List.length_reverse]; omega)]
    clear hp hq
    subst hp' hq'
    have J := many_j2 a1 a2 b1 b2 (p.map (· * a)) (p.reverse.map (· * a)) (by rw [List.length_map]; omega) (by rw [List.length_map, List.length_reverse]; omega) (by rw [List.map_reverse, List.sum_reverse])
    have N1 := wNeg_ev b
    have A1 := wAdd_ev a (-b)
    rw [show a + -b = a - b by omega] at A1
    generalize (p.map (· * a)) = xs at *
    generalize (p.reverse.map (· * a)) = ys at *
    refine Ev.step (f := fun k => (wide_Of.f a).bind fun bt344 => ((wide_Of.f b).bind fun bt346 => ((wide_Neg.f k bt346.1 bt346.2).bind fun bt348 => ((wide_Add.f k bt344.1 bt344.2 (([(⟨bt348.1, bt348.2⟩ : S25)] : List (S25)))).bind fun bt353 => (if a < b then (lapidarylaw08_WideMany.j1 k a b (xs.map num) (ys.map num) (-1) (hiw xs.sum) (low xs.sum) bt353.1 bt353.2) else (lapidarylaw08_WideMany.j1 k a b (xs.map num) (ys.map num) 0 (hiw xs.sum) (low xs.sum) bt353.1 bt353.2)))))) (fun k => by simp only [lapidarylaw08_WideMany.l0]; rw [if_neg (by omega)]) ?_
    simp only [wOf_eq a1 a2, wOf_eq b1 b2, Option.bind_some]
    refine Ev.bind N1 ?_
    refine Ev.bind A1 ?_
    by_cases h1 : a < b
    · simp only [if_pos h1]
      refine Ev.step (f := fun k => lapidarylaw08_WideMany.j2 k a b (xs.map num) (ys.map num) (-1) (hiw xs.sum) (low xs.sum) (hiw (a - b)) (low (a - b))) (fun k => by simp only [lapidarylaw08_WideMany.j1]; rw [if_neg (by omega)]) ?_
      rw [show cmp3 a b = -1 by unfold cmp3; rw [if_pos h1]] at J
      exact J
    · simp only [if_neg h1]
      by_cases h2 : a > b
      · refine Ev.step (f := fun k => lapidarylaw08_WideMany.j2 k a b (xs.map num) (ys.map num) 1 (hiw xs.sum) (low xs.sum) (hiw (a - b)) (low (a - b))) (fun k => by simp only [lapidarylaw08_WideMany.j1]; rw [if_pos h2]) ?_
        rw [show cmp3 a b = 1 by unfold cmp3; rw [if_neg h1, if_pos h2]] at J
        exact J
      · refine Ev.step (f := fun k => lapidarylaw08_WideMany.j2 k a b (xs.map num) (ys.map num) 0 (hiw xs.sum) (low xs.sum) (hiw (a - b)) (low (a - b))) (fun k => by simp only [lapidarylaw08_WideMany.j1]; rw [if_neg h2]) ?_
        rw [show cmp3 a b = 0 by unfold cmp3; rw [if_neg h1, if_neg (by omega)]] at J
        exact J
  | succ n ih =>
    intro i hi p q hp hq
    have hA : i < l.length := by omega
    have hR : i < l.reverse.length := by rw [List.length_reverse]; omega
    have hB : l.length - 1 - i < l.length := by omega
    have ra := hr _ (List.getElem_mem hA)
    have rb := hr _ (List.getElem_mem hB)
    have lp : p.length = i := by rw [hp, List.length_take]; omega
    have lq : q.length = i := by rw [hq, List.length_take, List.length_reverse]; omega
    have hj : wrap64 (wrap64 ((l.length : Int) - 1) - (i : Int)) = ((l.length - 1 - i : Nat) : Int) := by unfold wrap64; omega
    have ep : p ++ [l[i]] = l.take (i + 1) := by rw [hp, List.take_succ_eq_append_getElem hA]
    have eq' : q ++ [l[l.length - 1 - i]] = l.reverse.take (i + 1) := by
      rw [hq, List.take_succ_eq_append_getElem hR, List.getElem_reverse]
    have I := ih (i + 1) (by omega) _ _ ep eq'
    have A1 := wAdd_ev (p.map (· * a)).sum (l[i] * a)
    refine Ev.step (f := fun k => (wide_Add.f k (hiw (p.map (· * a)).sum) (low (p.map (· * a)).sum) ([num (l[i] * a)] : List S25)).bind fun bt342 => (lapidarylaw08_WideMany.l0 k l a b ((p.map (· * a)).map num ++ [num (l[i] * a)]) ((q.map (· * a)).map num ++ [num (l[l.length - 1 - i] * a)]) ((i + 1 : Nat) : Int) bt342.1 bt342.2)) (fun k => ?_) ?_
    · simp only [lapidarylaw08_WideMany.l0]
      have q1 : (i : Int) < (l.length : Int) := by omega
      have q2 : (0 : Int) ≤ (i : Int) := by omega
      have q3 : ((p.map (· * a)).map num).length < 8796093022208 := by simp only [List.length_map, lp]; omega
      have q4 : (0 : Int) ≤ ((l.length - 1 - i : Nat) : Int) := by omega
      have q5 : ((l.length - 1 - i : Nat) : Int) < (l.length : Int) := by omega
      have q6 : ((q.map (· * a)).map num).length < 8796093022208 := by simp only [List.length_map, lq]; omega
      simp only [hj, if_pos q1, if_pos q2, if_pos q3, if_pos q4, if_pos q5, if_pos q6, rd_nat l i hA, rd_nat l _ hB, wMul_eq ra.1 ra.2 a1 a2, wMul_eq rb.1 rb.2 a1 a2, Option.bind_some, w64_succ i (by omega)]
    · refine Ev.bind A1 ?_
      simpa only [List.map_append, List.map_cons, List.map_nil, List.sum_append, List.sum_cons, List.sum_nil, Int.add_zero] using I
theorem WideMany : lapidarylaw08_WideMany.Pure := by
  intro l a b hl hm hw wa wb
  have hr : ∀ x ∈ l, -9223372036854775808 ≤ x ∧ x ≤ 9223372036854775807 := fun x hx => b64 (hw x hx)
  obtain ⟨a1, a2⟩ := b64 wa
  obtain ⟨b1, b2⟩ := b64 wb
  refine Ev.rounds (g := fun k => lapidarylaw08_WideMany.f k l a b) ?_
  unfold lapidarylaw08_WideMany.f
  by_cases h : (l.length : Int) > 60
  · simp only [if_pos h]
    exact Ev.bind (f := fun _ t => some t) known_ev (Ev.now true)
  · simp only [if_neg h, wOf_eq (a := 0) (by decide) (by decide), Option.bind_some]
    exact many_l0 a1 a2 b1 b2 l (by omega) hr l.length 0 (by omega) [] [] rfl rfl

end Go.Proofs.Ytaaeaihmhdlpfaa.Pure
