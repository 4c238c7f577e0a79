/- The points of arcs that close, as the program lays them together. No condition. -/
import Derived.Test.YtfbkjgedaadlmaaPx6
import Derived.Test.YtfbkjgedaadlmaaRA
namespace Go.Proofs.Ytfbkjgedaadlmaa.G
set_option linter.unusedVariables false
set_option linter.unusedSimpArgs false
open Go.RowKit Go.Proofs.Ytfbkjgedaadlmaa.P Go.Proofs.YtfbkjgedaadlmaaW.PrintWords Go.Proofs.YtfbkjgedaadlmaaW.PrintLast Go.Proofs.YtfbkjgedaadlmaaW.PrintMore

def lastP (a : List Pt) : Pt := rd_T42 a ((a.length : Int) - 1)
def headP (a : List Pt) : Pt := rd_T42 a 0
def eqP (p q : Pt) : Bool := p.f0 == q.f0 && (p.f1 == q.f1 && (p.f2 == q.f2))
/-- The i-th arc begins where the one ahead of it ends. -/
def okAt (l : List (List Pt)) (i : Nat) : Bool := eqP (lastP (rd_L2 l (((i + l.length - 1) % l.length : Nat) : Int))) (headP (rd_L2 l (i : Int)))
def okFrom (l : List (List Pt)) (i n : Nat) : Bool := (List.range' i n).all (okAt l)
def flatL (l : List (List Pt)) : List Pt := (l.map List.dropLast).flatten
theorem flat_len (l : List (List Pt)) : (flatL l).length ≤ (l.map List.length).sum := by
  unfold flatL
  induction l with
  | nil => simp
  | cons a l ih => simp only [List.map_cons, List.flatten_cons, List.length_append, List.length_dropLast, List.sum_cons]; omega
theorem pts_l1 (l : List (List Pt)) (hl : l.length ≤ 1000000000000) (hne : ∀ a ∈ l, 0 < a.length ∧ a.length < 5864062014805) (hs : (l.map List.length).sum < 5864062014805) : ∀ (n i : Nat), i + n = l.length → 0 < l.length →
    Ev (fun k => ring_Points.l1 k l (flatL (l.take i)) true l (l.length : Int) (i : Int)) (if okFrom l i n then (flatL l, 0) else ([], 90)) := by
  intro n
  induction n with
  | zero =>
    intro i hi h0
    refine Ev.step (fun k => ring_Points.l1.eq_2 _ _ _ _ _ _ _) ?_
    simp only [if_neg (show ¬ ((i : Int) < (l.length : Int)) by omega), if_true]
    rw [show i = l.length by omega, List.take_length]
    simp only [okFrom, List.range'_zero, List.all_nil, if_true]
    exact Ev.now _
  | succ n ih =>
    intro i hi h0
    have h1 : i < l.length := by omega
    have I := ih (i + 1) (by omega) h0
    have hp : (i + l.length - 1) % l.length < l.length := Nat.mod_lt _ h0
    have e : Int.tmod (wrap64 (wrap64 ((i : Int) + (l.length : Int)) - 1)) (l.length : Int) = (((i + l.length - 1) % l.length : Nat) : Int) := by
      rw [w64_id (x := (i : Int) + (l.length : Int)) (by omega) (by omega), w64_id (by omega) (by omega), Int.tmod_eq_emod_of_nonneg (by omega), show (i : Int) + (l.length : Int) - 1 = ((i + l.length - 1 : Nat) : Int) by omega, Int.natCast_emod]
    have hok : okAt l i = eqP (lastP l[(i + l.length - 1) % l.length]) (headP l[i]) := by unfold okAt; rw [rdl l _ hp, rdl l i h1]
    have hq := hne _ (List.getElem_mem hp)
    have hi' := hne _ (List.getElem_mem h1)
    have hsp : okFrom l i (n + 1) = (okAt l i && okFrom l (i + 1) n) := by unfold okFrom; rw [List.range'_succ, List.all_cons]
    have hfl : flatL (l.take (i + 1)) = flatL (l.take i) ++ l[i].dropLast := by
      unfold flatL; rw [List.take_succ_eq_append_getElem h1, List.map_append, List.flatten_append]; simp
    have hlen : (flatL (l.take (i + 1))).length < 5864062014805 := by
      have h2 := flat_len (l.take (i + 1))
      have h3 : ((l.take (i + 1)).map List.length).sum ≤ (l.map List.length).sum := by
        rw [List.map_take]
        conv => rhs; rw [← List.take_append_drop (i + 1) (l.map List.length), List.sum_append]
        omega
      omega
    rw [hfl, List.length_append, List.length_dropLast] at hlen
    refine Ev.step (fun k => ring_Points.l1.eq_2 _ _ _ _ _ _ _) ?_
    generalize hj : (i + l.length - 1) % l.length = j at *
    simp only [e, rdl l j hp, rdl l i h1, w64_id (x := (l[j].length : Int) - 1) (by omega) (by omega), w64_id (x := (l[i].length : Int) - 1) (by omega) (by omega), w64_id (x := (i : Int) + 1) (by omega) (by omega),
      if_pos (show (i : Int) < (l.length : Int) by omega), if_pos (show (0 : Int) ≤ (i : Int) by omega), if_neg (show ¬ ((l.length : Int) = 0) by omega), if_pos (show (0 : Int) ≤ (j : Int) by omega), if_pos (show (j : Int) < (l.length : Int) by omega),
      if_pos (show (0 : Int) ≤ (l[j].length : Int) - 1 by omega), if_pos (show (l[j].length : Int) - 1 < (l[j].length : Int) by omega), if_pos (show (0 : Int) < (l[i].length : Int) by omega), if_pos (show (0 : Int) ≤ (l[i].length : Int) - 1 by omega), if_pos (show (l[i].length : Int) - 1 ≤ (l[i].length : Int) by omega)]
    rw [hsp, hok]
    by_cases hc : eqP (lastP l[j]) (headP l[i]) = true
    · have hc' := hc
      unfold eqP lastP headP at hc'
      simp only [hc', if_true, hc, Bool.true_and, Option.bind_some, show ((l[i].length : Int) - 1).toNat = l[i].length - 1 by omega, ← List.dropLast_eq_take, List.length_dropLast, if_pos hlen]
      rw [hfl] at I
      exact I
    · have hc' := hc
      unfold eqP lastP headP at hc'
      rw [Bool.not_eq_true] at hc hc'
      simp only [hc', hc, Bool.false_and, Bool.false_eq_true, if_false]
      exact Ev.now _
end Go.Proofs.Ytfbkjgedaadlmaa.G
