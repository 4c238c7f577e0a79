/- Rings: whether a point lies in one, as the program's function answers. -/
import Derived.Test.YtlnjbpapbifjfaaPx43
import Derived.Test.YtlnjbpapbifjfaaGE
namespace Go.Proofs.Ytlnjbpapbifjfaa.G
set_option linter.unusedVariables false
set_option linter.unusedSimpArgs false
open Go.RowKit Go.Proofs.Ytlnjbpapbifjfaa.P Go.Proofs.Ytlnjbpapbifjfaa.X Go.Proofs.Ytlnjbpapbifjfaa.WL Go.Proofs.YtlnjbpapbifjfaaW.PrintWords Go.Proofs.YtlnjbpapbifjfaaW.PrintLast Go.Proofs.YtlnjbpapbifjfaaW.PrintMore
theorem cross_swapG (a b c : Pt) : cross b a c = -cross a b c := cross_swap a b c
theorem side_swapG (a b c : Pt) : side b a c = -side a b c := by
  unfold side; rw [cross_swap]; unfold cmp3; split <;> split <;> first | rfl | omega | (split <;> first | rfl | omega | (split <;> first | rfl | omega))
/-- Is a side met by what runs from the point to the right? -/
def cr (p : Pt) (e : Pt × Pt) : Bool := decide (e.1.f1 ≤ p.f1 ∧ p.f1 < e.2.f1 ∧ side e.1 e.2 p > 0) || decide (e.2.f1 ≤ p.f1 ∧ p.f1 < e.1.f1 ∧ side e.1 e.2 p < 0)
def onE (p : Pt) (e : Pt × Pt) : Bool := onB p e.1 e.2
theorem cr_swap (p : Pt) (e : Pt × Pt) : cr p (e.2, e.1) = cr p e := by
  unfold cr
  have := side_swapG e.1 e.2 p
  rw [Bool.eq_iff_iff]
  simp only [Bool.or_eq_true, decide_eq_true_eq, this]
  omega
theorem onE_swap (p : Pt) (e : Pt × Pt) : onE p (e.2, e.1) = onE p e := onB_swap p e.2 e.1
/-- What is told of the sides from one on, where so many were met. -/
def tell (p : Pt) (l : List (Pt × Pt)) (s : Int) : Int := if l.any (onE p) then 0 else if (l.countP (cr p)) % 2 = 1 then -s else s
def inV (p : Pt) (l : List Pt) : Int := if rt p && l.all rt then tell p (edg l) (-1) else 0
theorem tell_nil (p : Pt) (s : Int) : tell p [] s = s := by simp [tell]
theorem tell_on {p : Pt} {e : Pt × Pt} {l : List (Pt × Pt)} {s : Int} (h : onE p e = true) : tell p (e :: l) s = 0 := by simp [tell, h]
theorem tell_cr {p : Pt} {e : Pt × Pt} {l : List (Pt × Pt)} {s : Int} (h : onE p e = false) (hc : cr p e = true) : tell p (e :: l) s = tell p l (-s) := by
  unfold tell
  rw [List.any_cons, h, Bool.false_or, List.countP_cons_of_pos hc]
  by_cases ha : l.any (onE p) = true
  · rw [if_pos ha, if_pos ha]
  · rw [if_neg ha, if_neg ha]
    by_cases hm : l.countP (cr p) % 2 = 1
    · rw [if_neg (by omega), if_pos hm]; omega
    · rw [if_pos (by omega), if_neg hm]
theorem tell_no {p : Pt} {e : Pt × Pt} {l : List (Pt × Pt)} {s : Int} (h : onE p e = false) (hc : cr p e = false) : tell p (e :: l) s = tell p l s := by
  unfold tell
  rw [List.any_cons, h, Bool.false_or, List.countP_cons_of_neg (by simp [hc])]
theorem any_perm {α : Type} {u v : List α} (f : α → Bool) (h : u.Perm v) : u.any f = v.any f := by
  rw [Bool.eq_iff_iff, List.any_eq_true, List.any_eq_true]
  constructor
  · rintro ⟨x, hx, hf⟩; exact ⟨x, h.mem_iff.1 hx, hf⟩
  · rintro ⟨x, hx, hf⟩; exact ⟨x, h.mem_iff.2 hx, hf⟩
theorem tell_perm {p : Pt} {u v : List (Pt × Pt)} (h : u.Perm v) (s : Int) : tell p u s = tell p v s := by
  unfold tell
  rw [any_perm _ h, h.countP_eq]
theorem tell_swap (p : Pt) (l : List (Pt × Pt)) (s : Int) : tell p (l.map fun e => (e.2, e.1)) s = tell p l s := by
  unfold tell
  rw [List.any_map, List.countP_map]
  have h1 : (onE p ∘ fun e : Pt × Pt => (e.2, e.1)) = onE p := funext fun e => onE_swap p e
  have h2 : (cr p ∘ fun e : Pt × Pt => (e.2, e.1)) = cr p := funext fun e => cr_swap p e
  rw [h1, h2]
theorem inV_turned (p : Pt) (l : List Pt) (k : Nat) (h : k ≤ l.length) : inV p (l.drop k ++ l.take k) = inV p l := by
  unfold inV
  rw [tell_perm (edg_turned l k h), List.all_append, Bool.and_comm (List.all (List.drop k l) rt), ← List.all_append, List.take_append_drop]
theorem inV_rev (p : Pt) (l : List Pt) : inV p l.reverse = inV p l := by
  unfold inV
  rw [tell_perm (edg_rev l), tell_swap, List.all_reverse]

theorem gIn_l0 (p : Pt) (hp : rt p = true) (l : List Pt) (hl : l.length < 4000000000000000000) (hr : l.all rt = true) : ∀ (n i : Nat) (s : Int), i + n = l.length → (s = 1 ∨ s = -1) →
    Ev (fun k => geom_In.l0 k l s l (l.length : Int) (i : Int) p.f0 p.f1 p.f2) (tell p ((edg l).drop i) s) := by
  intro n
  induction n with
  | zero =>
    intro i s hi hs
    rw [List.drop_of_length_le (by rw [edg_len]; omega), tell_nil]
    exact Ev.step (f := fun _ => some s) (fun k => by simp only [geom_In.l0]; rw [if_neg (by omega)]) (Ev.now _)
  | succ n ih =>
    intro i s hi hs
    have hA : i < l.length := by omega
    have hM : (i + 1) % l.length < l.length := Nat.mod_lt _ (by omega)
    have hE : i < (edg l).length := by rw [edg_len]; exact hA
    have q1 : (i : Int) < (l.length : Int) := by omega
    have wm : Int.tmod (wrap64 ((i : Int) + 1)) (l.length : Int) = (((i + 1) % l.length : Nat) : Int) := by
      rw [w64_succ i (by omega), Int.tmod_eq_emod_of_nonneg (by omega), Int.natCast_emod]
    rw [List.drop_eq_getElem_cons hE, edg_get l i hA]
    have ra := all_get hr i hA
    have rb := all_get hr _ hM
    have hrd1 : rd_T23 l (i : Int) = l[i] := rdp l i hA
    have hrd2 : rd_T23 l (((i + 1) % l.length : Nat) : Int) = l[(i + 1) % l.length] := rdp l _ hM
    generalize l[i] = a at *
    generalize l[(i + 1) % l.length] = b at *
    have I1 := ih (i + 1) s (by omega) hs
    have I2 := ih (i + 1) (-s) (by omega) (by omega)
    have wn : wrap64 (-s) = -s := w64_id (by omega) (by omega)
    have ws : wrap64 ((i : Int) + 1) = ((i + 1 : Nat) : Int) := w64_succ i (by omega)
    refine Ev.step (f := fun k => (geom_On.f k p.f0 p.f1 p.f2 a.f0 a.f1 a.f2 b.f0 b.f1 b.f2).bind fun t540 => (if t540 = true then (some 0) else (if ((decide (a.f1 > p.f1)) == (decide (b.f1 > p.f1))) = true then (geom_In.l0 k l s l (l.length : Int) ((i + 1 : Nat) : Int) p.f0 p.f1 p.f2) else (if b.f1 < a.f1 then ((geom_turn.f k b.f0 b.f1 b.f2 a.f0 a.f1 a.f2 p.f0 p.f1 p.f2).bind fun t541 => (if t541 > 0 then (geom_In.l0 k l (-s) l (l.length : Int) ((i + 1 : Nat) : Int) p.f0 p.f1 p.f2) else (geom_In.l0 k l s l (l.length : Int) ((i + 1 : Nat) : Int) p.f0 p.f1 p.f2))) else ((geom_turn.f k a.f0 a.f1 a.f2 b.f0 b.f1 b.f2 p.f0 p.f1 p.f2).bind fun t542 => (if t542 > 0 then (geom_In.l0 k l (-s) l (l.length : Int) ((i + 1 : Nat) : Int) p.f0 p.f1 p.f2) else (geom_In.l0 k l s l (l.length : Int) ((i + 1 : Nat) : Int) p.f0 p.f1 p.f2))))))) (fun k => ?_) ?_
    · simp only [geom_In.l0]
      rw [wm, if_pos q1, if_pos (by omega), if_pos q1, if_neg (by omega), if_pos (by omega), if_pos (by omega), hrd1, hrd2, wn, ws]
    · refine Ev.bind (gOn_ev p a b) ?_
      by_cases ho : onB p a b = true
      · simp only [if_pos ho]
        rw [tell_on (show onE p (a, b) = true from ho)]
        exact Ev.now _
      · simp only [if_neg ho]
        have ho' : onE p (a, b) = false := Bool.eq_false_iff.2 ho
        by_cases he : (decide (a.f1 > p.f1) == decide (b.f1 > p.f1)) = true
        · simp only [if_pos he]
          rw [beq_iff_eq, decide_eq_decide] at he
          rw [tell_no ho' (by unfold cr; simp only [Bool.or_eq_false_iff, decide_eq_false_iff_not]; omega)]
          exact I1
        · simp only [if_neg he]
          rw [beq_iff_eq, decide_eq_decide] at he
          by_cases hb : b.f1 < a.f1
          · simp only [if_pos hb]
            refine Ev.bind (gturn_ev rb ra hp) ?_
            have hs' := side_swapG a b p
            by_cases ht : side b a p > 0
            · simp only [if_pos ht]
              rw [tell_cr ho' (by unfold cr; simp only [Bool.or_eq_true, decide_eq_true_eq]; omega)]
              exact I2
            · simp only [if_neg ht]
              rw [tell_no ho' (by unfold cr; simp only [Bool.or_eq_false_iff, decide_eq_false_iff_not]; omega)]
              exact I1
          · simp only [if_neg hb]
            refine Ev.bind (gturn_ev ra rb hp) ?_
            by_cases ht : side a b p > 0
            · simp only [if_pos ht]
              rw [tell_cr ho' (by unfold cr; simp only [Bool.or_eq_true, decide_eq_true_eq]; omega)]
              exact I2
            · simp only [if_neg ht]
              rw [tell_no ho' (by unfold cr; simp only [Bool.or_eq_false_iff, decide_eq_false_iff_not]; omega)]
              exact I1
theorem gIn_ev (p : Pt) (l : List Pt) (hl : l.length < 4000000000000000000) : Ev (fun k => geom_In.f k p.f0 p.f1 p.f2 l) (inV p l) := by
  unfold geom_In.f
  refine Ev.bind (gRight_ev [p] (by simp)) ?_
  simp only [List.all_cons, List.all_nil, Bool.and_true]
  have jt : Ev (fun k => geom_In.j0 k l true p.f0 p.f1 p.f2) 0 := Ev.step (f := fun _ => some 0) (fun k => by simp only [geom_In.j0, if_true]) (Ev.now _)
  unfold inV
  by_cases h : rt p = true
  · simp only [if_pos h, h, Bool.true_and]
    refine Ev.bind (gRight_ev l (by omega)) ?_
    by_cases h2 : l.all rt = true
    · simp only [h2, Bool.not_true, if_true]
      have := gIn_l0 p h l hl h2 l.length 0 (-1) (by omega) (.inr rfl)
      rw [List.drop_zero] at this
      refine Ev.step (fun k => ?_) this
      simp only [geom_In.j0, Bool.false_eq_true, if_false]; rfl
    · simp only [h2, Bool.not_false, Bool.false_eq_true, if_false]; exact jt
  · simp only [if_neg h, h, Bool.false_and, Bool.false_eq_true, if_false]; exact jt

end Go.Proofs.Ytlnjbpapbifjfaa.G
