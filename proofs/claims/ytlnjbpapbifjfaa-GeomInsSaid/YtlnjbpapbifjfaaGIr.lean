/- Rings: whether a point lies in one, as the document's function answers. -/
import Derived.Test.YtlnjbpapbifjfaaPx44
import Derived.Test.YtlnjbpapbifjfaaGI
import Derived.Test.YtlnjbpapbifjfaaGAr
namespace Go.Proofs.Ytlnjbpapbifjfaa.G
set_option linter.unusedVariables false
set_option linter.unusedSimpArgs false
open Go.RowKit Go.Proofs.Ytlnjbpapbifjfaa.P Go.Proofs.Ytlnjbpapbifjfaa.X Go.Proofs.Ytlnjbpapbifjfaa.WL Go.Proofs.YtlnjbpapbifjfaaW.PrintWords Go.Proofs.YtlnjbpapbifjfaaW.PrintLast Go.Proofs.YtlnjbpapbifjfaaW.PrintMore
theorem rIn_l0 (p : Pt) (hp : rt p = true) (l : List Pt) (hl : l.length < 4000000000000000000) (hr : l.all rt = true) : ∀ (n i : Nat) (c : Nat), i + n = l.length → c ≤ i →
    Ev (fun k => lapidaryref09_In.l0 k l (c : Int) (i : Int) p.f0 p.f1 p.f2) (tell p ((edg l).drop i) (if c % 2 = 1 then 1 else -1)) := by
  intro n
  induction n with
  | zero =>
    intro i c hi hc
    rw [List.drop_of_length_le (by rw [edg_len]; omega), tell_nil]
    have ht : Int.tmod (c : Int) 2 = ((c % 2 : Nat) : Int) := by rw [Int.tmod_eq_emod_of_nonneg (by omega)]; rfl
    refine Ev.step (f := fun _ => some (if c % 2 = 1 then 1 else -1)) (fun k => ?_) (Ev.now _)
    simp only [lapidaryref09_In.l0]; rw [if_neg (by omega), ht]
    by_cases hm : c % 2 = 1
    · rw [if_pos hm, if_pos (by omega)]
    · rw [if_neg hm, if_neg (by omega)]
  | succ n ih =>
    intro i c hi hc
    have hA : i < l.length := by omega
    have hM : (i + 1) % l.length < l.length := Nat.mod_lt _ (by omega)
    have hE : i < (edg l).length := by rw [edg_len]; exact hA
    have q1 : (i : Int) < (l.length : Int) := by omega
    have ws : wrap64 ((i : Int) + 1) = ((i + 1 : Nat) : Int) := w64_succ i (by omega)
    have wc : wrap64 ((c : Int) + 1) = ((c + 1 : Nat) : Int) := w64_succ c (by omega)
    rw [List.drop_eq_getElem_cons hE, edg_get l i hA]
    have ra := all_get hr i hA
    have rb := all_get hr _ hM
    have hrd1 : rd_T23 l (i : Int) = l[i] := rdp l i hA
    have hrd2 : rd_T23 l (((i + 1) % l.length : Nat) : Int) = l[(i + 1) % l.length] := rdp l _ hM
    have I1 := ih (i + 1) c (by omega) (by omega)
    have I2 := ih (i + 1) (c + 1) (by omega) (by omega)
    rw [show (if (c + 1) % 2 = 1 then (1 : Int) else -1) = -(if c % 2 = 1 then 1 else -1) by
      by_cases hm : c % 2 = 1
      · rw [if_pos hm, if_neg (by omega)]
      · rw [if_neg hm, if_pos (by omega)]; rfl] at I2
    generalize (if c % 2 = 1 then (1 : Int) else -1) = s at *
    have J : ∀ a b : Pt, rt a = true → rt b = true → Ev (fun k => lapidaryref09_In.j2 k l (c : Int) (i : Int) p.f0 p.f1 p.f2 a.f0 a.f1 a.f2 b.f0 b.f1 b.f2) (tell p ((a, b) :: (edg l).drop (i + 1)) s) := by
      intro a b ra rb
      have T := rTurn_ev a b p
      rw [ra, rb, hp] at T
      simp only [Bool.and_self, if_true] at T
      refine Ev.step (f := fun k => (lapidaryref09_On.f k p.f0 p.f1 p.f2 a.f0 a.f1 a.f2 b.f0 b.f1 b.f2).bind fun t554 => (if t554 = true then (some 0) else (lapidaryref09_In.j3 k l (c : Int) (i : Int) (decide (a.f1 ≤ p.f1 ∧ p.f1 < b.f1)) p.f0 p.f1 p.f2 a.f0 a.f1 a.f2 b.f0 b.f1 b.f2))) (fun k => ?_) ?_
      · simp only [lapidaryref09_In.j2]
        congr 1; funext t
        by_cases h1 : a.f1 ≤ p.f1 <;> simp [h1]
      · refine Ev.bind (rOn_ev p a b) ?_
        by_cases ho : onB p a b = true
        · simp only [if_pos ho]
          rw [tell_on (show onE p (a, b) = true from ho)]
          exact Ev.now _
        · simp only [if_neg ho]
          have ho' : onE p (a, b) = false := Bool.eq_false_iff.2 ho
          refine Ev.step (f := fun k => lapidaryref09_In.j4 k l (c : Int) (i : Int) (decide (a.f1 ≤ p.f1 ∧ p.f1 < b.f1)) (decide (b.f1 ≤ p.f1 ∧ p.f1 < a.f1)) p.f0 p.f1 p.f2 a.f0 a.f1 a.f2 b.f0 b.f1 b.f2) (fun k => by
            simp only [lapidaryref09_In.j3]
            by_cases h1 : b.f1 ≤ p.f1 <;> simp [h1]) ?_
          by_cases hu : a.f1 ≤ p.f1 ∧ p.f1 < b.f1
          · have hd : ¬ (b.f1 ≤ p.f1 ∧ p.f1 < a.f1) := by omega
            refine Ev.step (f := fun k => (lapidaryref09_Turn.f k a.f0 a.f1 a.f2 b.f0 b.f1 b.f2 p.f0 p.f1 p.f2).bind fun t555 => (if t555 > 0 then (lapidaryref09_In.l0 k l ((c + 1 : Nat) : Int) ((i + 1 : Nat) : Int) p.f0 p.f1 p.f2) else (lapidaryref09_In.l0 k l (c : Int) ((i + 1 : Nat) : Int) p.f0 p.f1 p.f2))) (fun k => by
              simp only [lapidaryref09_In.j4, hu, hd, and_self, decide_true, decide_false, if_true, Bool.false_eq_true, if_false, ws, wc]) ?_
            refine Ev.bind T ?_
            by_cases ht : side a b p > 0
            · simp only [if_pos ht]
              rw [tell_cr ho' (by unfold cr; simp only [Bool.or_eq_true, decide_eq_true_eq]; omega)]
              exact I2
            · simp only [if_neg ht]
              rw [tell_no ho' (by unfold cr; simp only [Bool.or_eq_false_iff, decide_eq_false_iff_not]; omega)]
              exact I1
          · by_cases hd : b.f1 ≤ p.f1 ∧ p.f1 < a.f1
            · refine Ev.step (f := fun k => (lapidaryref09_Turn.f k a.f0 a.f1 a.f2 b.f0 b.f1 b.f2 p.f0 p.f1 p.f2).bind fun t557 => (if t557 < 0 then (lapidaryref09_In.l0 k l ((c + 1 : Nat) : Int) ((i + 1 : Nat) : Int) p.f0 p.f1 p.f2) else (lapidaryref09_In.l0 k l (c : Int) ((i + 1 : Nat) : Int) p.f0 p.f1 p.f2))) (fun k => by
                simp only [lapidaryref09_In.j4, hu, hd, and_self, decide_true, decide_false, if_true, Bool.false_eq_true, if_false, ws, wc]) ?_
              refine Ev.bind T ?_
              by_cases ht : side a b p < 0
              · simp only [if_pos ht]
                rw [tell_cr ho' (by unfold cr; simp only [Bool.or_eq_true, decide_eq_true_eq]; omega)]
                exact I2
              · simp only [if_neg ht]
                rw [tell_no ho' (by unfold cr; simp only [Bool.or_eq_false_iff, decide_eq_false_iff_not]; omega)]
                exact I1
            · refine Ev.step (f := fun k => lapidaryref09_In.l0 k l (c : Int) ((i + 1 : Nat) : Int) p.f0 p.f1 p.f2) (fun k => by
                simp only [lapidaryref09_In.j4, hu, hd, decide_false, Bool.false_eq_true, if_false, ws]) ?_
              rw [tell_no ho' (by unfold cr; simp only [Bool.or_eq_false_iff, decide_eq_false_iff_not]; omega)]
              exact I1
    have J' := J _ _ ra rb
    refine Ev.step (fun k => ?_) J'
    simp only [lapidaryref09_In.l0]
    rw [if_pos q1, if_pos (by omega), if_pos (by omega), ws, hrd1]
    by_cases hlast : i + 1 < l.length
    · have e : (i + 1) % l.length = i + 1 := Nat.mod_eq_of_lt hlast
      simp only [e] at hrd2 ⊢
      rw [if_pos (by omega), if_pos (by omega), hrd2]
    · have e : (i + 1) % l.length = 0 := by rw [show i + 1 = l.length by omega, Nat.mod_self]
      simp only [e] at hrd2 ⊢
      rw [if_neg (by omega)]
      rw [show rd_T23 l 0 = rd_T23 l ((0 : Nat) : Int) from rfl, hrd2]
theorem rIn_ev (p : Pt) (l : List Pt) (hl : l.length < 4000000000000000000) : Ev (fun k => lapidaryref09_In.f k p.f0 p.f1 p.f2 l) (inV p l) := by
  unfold lapidaryref09_In.f
  refine Ev.bind (rRight_ev [p] (by simp)) ?_
  simp only [List.all_cons, List.all_nil, Bool.and_true]
  have jt : Ev (fun k => lapidaryref09_In.j0 k l true p.f0 p.f1 p.f2) 0 := Ev.step (f := fun _ => some 0) (fun k => by simp only [lapidaryref09_In.j0, if_true]) (Ev.now _)
  unfold inV
  by_cases h : rt p = true
  · simp only [if_pos h, h, Bool.true_and]
    refine Ev.bind (rRight_ev l (by omega)) ?_
    by_cases h2 : l.all rt = true
    · simp only [h2, Bool.not_true, if_true]
      have := rIn_l0 p h l hl h2 l.length 0 0 (by omega) (by omega)
      rw [List.drop_zero] at this
      refine Ev.step (fun k => ?_) this
      simp only [lapidaryref09_In.j0, Bool.false_eq_true, if_false]; rfl
    · simp only [h2, Bool.not_false, Bool.false_eq_true, if_false]; exact jt
  · simp only [if_neg h, h, Bool.false_and, Bool.false_eq_true, if_false]; exact jt

end Go.Proofs.Ytlnjbpapbifjfaa.G
