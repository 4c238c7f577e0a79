/- The document's machine is what the document's code does. No condition. -/
import Derived.Test.YtimdikfllbbdoaaPx31
import Derived.Test.YtimdikfllbbdoaaPx29
import Derived.Test.YtimdikfllbbdoaaPx30
import Derived.Test.YtimdikfllbbdoaaPx21
import Derived.Test.YtimdikfllbbdoaaFM
namespace Go.Proofs.Ytimdikfllbbdoaa.Fv
set_option linter.unusedVariables false
set_option linter.unusedSimpArgs false
open Go.RowKit Go.Proofs.Ytimdikfllbbdoaa.P Go.Proofs.Ytimdikfllbbdoaa.C Go.Proofs.YtimdikfllbbdoaaW.PrintWords Go.Proofs.YtimdikfllbbdoaaW.PrintLast Go.Proofs.YtimdikfllbbdoaaW.PrintMore

def toT (s : M) : List Int × Int × Bool × Int × List S33 × Int := (s.took, s.last, s.fin, (s.all : Int), s.L, s.e)
/-- What holds of the machine at any time: what was taken are bytes, and no more than came. -/
def okM (s : M) : Prop := (∀ c ∈ s.took, 0 ≤ c ∧ c ≤ 255) ∧ s.took.length ≤ s.all ∧ s.L.length ≤ s.all
theorem okM_next (q : Int) (L : List S33) (a : Nat) (t : List Int) (h : ∀ c ∈ t, 0 ≤ c ∧ c ≤ 255) (ht : t.length ≤ a) (hL : L.length + 1 ≤ a) : okM (nextM q L a t) := by
  have h1 : ∀ z : Int, okM ⟨t, q, false, a, L, z⟩ := fun z => ⟨h, ht, by show L.length ≤ a; omega⟩
  unfold nextM
  split
  · exact h1 _
  · split
    · exact h1 _
    · split
      · exact h1 _
      · split
        · exact h1 _
        · split
          · exact ⟨by simp, Nat.zero_le _, by show (L ++ [_]).length ≤ a; rw [List.length_append]; exact hL⟩
          · exact h1 _
theorem okM_step (s : M) (c : Int) (h : okM s) (hc : 0 ≤ c ∧ c ≤ 255) : okM (stepM s c) := by
  obtain ⟨h1, h2, h3⟩ := h
  have hone : ∀ x ∈ [c], 0 ≤ x ∧ x ≤ 255 := fun x hx => by simp at hx; subst hx; exact hc
  have ha : ∀ z f, okM ⟨s.took, s.last, f, s.all + 1, s.L, z⟩ := fun z f => ⟨h1, Nat.le_succ_of_le h2, Nat.le_succ_of_le h3⟩
  have hb : ∀ z f, okM ⟨[c], s.last, f, s.all + 1, s.L, z⟩ := fun z f => ⟨hone, by show 1 ≤ s.all + 1; omega, Nat.le_succ_of_le h3⟩
  unfold stepM
  split
  · split
    · exact ha _ _
    · split
      · split
        · exact ha _ _
        · exact ha _ _
      · split
        · split
          · exact hb _ _
          · split
            · exact hb _ _
            · exact hb _ _
        · refine okM_next _ _ _ _ (fun x hx => ?_) (by rw [List.length_append, one_len]; omega) (by omega)
          rcases List.mem_append.1 hx with hx | hx
          · exact h1 x hx
          · exact hone x hx
  · exact ⟨h1, h2, h3⟩
theorem step_all (s : M) (c : Int) : (stepM s c).all ≤ s.all + 1 := by
  unfold stepM nextM
  repeat' split
  all_goals first | exact Nat.le_refl _ | exact Nat.le_succ _

theorem next_ev (q : Int) (L : List S33) (a : Nat) (t : List Int) (ht : ∀ c ∈ t, 0 ≤ c ∧ c ≤ 255) (htl : t.length ≤ 1300) (h2 : 2 ≤ t.length) (hL : L.length ≤ 1300) :
    Ev (fun k => (lapidaryref01_Get.f k t 1).bind fun bt337 => if bt337.2.2 = 10 then some (t, q, false, (a : Int), L, (0 : Int)) else if bt337.2.2 = 0 then (if bt337.1 > 1048576 then some (t, q, false, (a : Int), L, (3 : Int)) else if (t.length : Int) < wrap64 (wrap64 (bt337.2.1 + wrap64 bt337.1) + 4) then some (t, q, false, (a : Int), L, (0 : Int)) else
      (lapidaryref02_Check.f k t).bind fun bt340 => if bt340.2 = 0 then (if L.length < 4398046511104 then (if 0 < (t.length : Int) then (if 0 ≤ bt337.2.1 then (if bt337.2.1 ≤ (bt340.1.length : Int) then (lapidaryref00_Copy.f (bt340.1.drop bt337.2.1.toNat)).bind fun t353 => (if L.length < 4398046511104 then some (([] : List Int), wrap64 (rd t 0), false, (a : Int), L ++ [(⟨wrap64 (rd t 0), t353⟩ : S33)], (0 : Int)) else none) else none) else none) else none) else none) else some (t, q, false, (a : Int), L, bt340.2)) else some (t, q, false, (a : Int), L, bt337.2.2))
      (toT (nextM q L a t)) := by
  have hg := rget_ev t ht (by omega) 1 (by omega)
  have hgl := gv_len (t.drop 1) 0 0
  have hr0 : rd t 0 = t.getD 0 0 := rfl
  have ht0 : 0 ≤ t.getD 0 0 ∧ t.getD 0 0 ≤ 255 := by
    have := ht _ (List.getElem_mem (show 0 < t.length by omega))
    simpa [List.getD, List.getElem?_eq_getElem (show 0 < t.length by omega)] using this
  unfold nextM
  rw [List.length_drop] at hgl
  generalize gv (t.drop 1) 0 0 = g at *
  obtain ⟨n, m, e⟩ := g
  by_cases he : e = 0
  · subst he
    have hm := hgl (by show (0 : Int) ≠ 10; omega)
    simp only at hm
    clear hgl
    rw [gR_ok] at hg
    refine Ev.bind hg ?_
    clear hg
    simp only [if_neg (show ¬ ((0 : Int) = 10) by omega), if_true, ne_eq, not_true_eq_false, if_false]
    by_cases hn : n > 1048576
    · simp only [if_pos (show (n : Int) > 1048576 by omega), if_pos hn]
      exact Ev.now _
    · have hb1 : 1 + m + n ≤ 100000000 := by omega
      have hck := rcheck_ev t ht (by omega)
      simp only [if_neg (show ¬ ((n : Int) > 1048576) by omega), if_neg hn, w64 (x := (n : Int)) (by omega) (by omega), wp2 (1 + m) n hb1, wp4 (1 + m + n) hb1]
      by_cases hl : t.length < 1 + m + n + 4
      · simp only [if_pos (show (t.length : Int) < ((1 + m + n + 4 : Nat) : Int) by omega), if_pos hl]
        exact Ev.now _
      · simp only [if_neg (show ¬ ((t.length : Int) < ((1 + m + n + 4 : Nat) : Int)) by omega), if_neg hl]
        refine Ev.bind hck ?_
        clear hck
        by_cases hc : (chkV t).2 = 0
        · have hfst : (chkV t).1.length = t.length - 4 := by
            rw [chkV_fst t (t.length - 4) (by omega) hc, List.length_take]
            omega
          simp only [if_pos hc, if_pos (show L.length < 4398046511104 by omega), if_pos (show (0 : Int) < (t.length : Int) by omega), if_pos (show (0 : Int) ≤ ((1 + m : Nat) : Int) by omega), hfst, if_pos (show ((1 + m : Nat) : Int) ≤ ((t.length - 4 : Nat) : Int) by omega), Int.toNat_natCast, hr0, w64 (x := t.getD 0 0) (by omega) (by omega)]
          have hcp : lapidaryref00_Copy.f ((chkV t).1.drop (1 + m)) = some ((chkV t).1.drop (1 + m)) := by
            unfold lapidaryref00_Copy.f
            rw [if_pos (by rw [List.length_nil, List.length_drop]; omega), List.nil_append]
          simp only [hcp, Option.bind_some]
          exact Ev.now _
        · simp only [if_neg hc]
          exact Ev.now _
  · rw [gR_err _ _ _ _ he] at hg
    refine Ev.bind hg ?_
    by_cases h10 : e = 10
    · simp only [if_pos h10]
      exact Ev.now _
    · simp only [if_neg h10, if_neg he, ne_eq, he, not_false_eq_true, if_true]
      exact Ev.now _

theorem step_ev (s : M) (c : Int) (h : okM s) (hc : 0 ≤ c ∧ c ≤ 255) (ha : s.all ≤ 1250) : Ev (fun k => lapidaryref03_Step.f k s.took s.last s.fin (s.all : Int) s.L s.e c) (toT (stepM s c)) := by
  obtain ⟨took, last, fin, all, L, e⟩ := s
  obtain ⟨h1, h2, h3⟩ := h
  simp only at h1 h2 h3 ha ⊢
  unfold lapidaryref03_Step.f stepM
  by_cases he : e = 0
  · simp only [if_pos he, nx all (by omega)]
    by_cases hf : fin = true
    · simp only [if_pos hf]
      exact Ev.now _
    · have hff : fin = false := by simpa using hf
      subst hff
      subst he
      simp only [Bool.false_eq_true, if_false]
      by_cases h5 : all < 5
      · have hr : rd [76, 80, 68, 89, 1] (all : Int) = hdB.getD all 0 := rfl
        simp only [if_pos (show ((all + 1 : Nat) : Int) ≤ 5 by omega), Option.bind_some, pv all (by omega), if_pos (show (0 : Int) ≤ (all : Int) by omega), hr, if_pos h5]
        rw [if_pos (show (all : Int) < (([76, 80, 68, 89, 1] : List Int).length : Int) by show (all : Int) < 5; omega)]
        by_cases hx : c = hdB.getD all 0
        · simp only [if_pos hx]
          exact Ev.now _
        · simp only [if_neg hx]
          exact Ev.now _
      · simp only [if_neg (show ¬ (((all + 1 : Nat) : Int) ≤ 5) by omega), if_neg h5, List.length_nil, Nat.zero_add, List.nil_append, if_pos (show took.length < 140737488355328 by omega), Option.bind_some]
        cases took with
        | nil =>
          simp only [List.nil_append, one_len, if_pos (show ((1 : Nat) : Int) = 1 by omega), if_true, w64 (x := c) (by omega) (by omega)]
          by_cases h0 : c = 0
          · simp only [if_pos h0]
            exact Ev.now _
          · simp only [if_neg h0]
            by_cases hq : c ≤ last
            · simp only [if_pos hq, if_pos (show c ≤ last ∨ c > 9 from .inl hq)]
              exact Ev.now _
            · simp only [if_neg hq]
              by_cases h9 : c > 9
              · simp only [if_pos h9, if_pos (show c ≤ last ∨ c > 9 from .inr h9)]
                exact Ev.now _
              · simp only [if_neg h9, if_neg (show ¬ (c ≤ last ∨ c > 9) by omega)]
                exact Ev.now _
        | cons x u =>
          have hl : ((x :: u) ++ [c]).length = (x :: u).length + 1 := by rw [List.length_append, one_len]
          have hl1 : (x :: u).length = u.length + 1 := List.length_cons
          simp only [if_neg (show ¬ ((((x :: u) ++ [c]).length : Int) = 1) by omega), if_neg (show ¬ ((x :: u) = []) by simp)]
          exact next_ev last L (all + 1) ((x :: u) ++ [c]) (fun y hy => by
            rcases List.mem_append.1 hy with hy | hy
            · exact h1 y hy
            · simp at hy; subst hy; exact hc) (by omega) (by omega) (by omega)
  · simp only [if_neg he]
    exact Ev.now _

theorem rdec_l0 (b : List Int) (h : ∀ c ∈ b, 0 ≤ c ∧ c ≤ 255) (hl : b.length ≤ 1200) : ∀ (m i : Nat) (s : M), i + m = b.length → okM s → s.all ≤ i →
    Ev (fun k => lapidaryref03_Decode.l0 k b (i : Int) s.took s.last s.fin (s.all : Int) s.L s.e) (closeV ((b.drop i).foldl stepM s)) := by
  intro m
  induction m with
  | zero =>
    intro i s hm ho ha
    refine Ev.step (fun k => lapidaryref03_Decode.l0.eq_2 _ _ _ _ _ _ _ _ _) ?_
    rw [List.drop_eq_nil_of_le (by omega), List.foldl_nil]
    simp only [if_neg (show ¬ ((i : Int) < (b.length : Int)) by omega)]
    unfold lapidaryref03_Close.f closeV
    by_cases he : s.e = 0
    · simp only [if_pos he]
      by_cases hf : s.fin = true
      · simp only [if_pos hf, if_neg (show ¬ ((s.all : Int) > 1048576) by omega), Option.bind_some]
        exact Ev.now _
      · simp only [if_neg hf, Option.bind_some]
        exact Ev.now _
    · simp only [if_neg he, Option.bind_some]
      exact Ev.now _
  | succ m ih =>
    intro i s hm ho ha
    have hil : i < b.length := by omega
    have hc := h _ (List.getElem_mem hil)
    have hr : rd b (i : Int) = b[i] := by simp [rd, List.getD, List.getElem?_eq_getElem hil]
    refine Ev.step (fun k => lapidaryref03_Decode.l0.eq_2 _ _ _ _ _ _ _ _ _) ?_
    rw [List.drop_eq_getElem_cons hil, List.foldl_cons]
    simp only [if_pos (show (i : Int) < (b.length : Int) by omega), if_pos (show (0 : Int) ≤ (i : Int) by omega), hr, nx i (by omega)]
    refine Ev.bind (step_ev s b[i] ho hc (by omega)) ?_
    have := ih (i + 1) (stepM s b[i]) (by omega) (okM_step s _ ho hc) (by have := step_all s b[i]; omega)
    exact this
theorem rdec_ev (b : List Int) (h : ∀ c ∈ b, 0 ≤ c ∧ c ≤ 255) (hl : b.length ≤ 1200) : Ev (fun k => lapidaryref03_Decode.f k b) (decW b) := by
  rw [← machine b]
  exact rdec_l0 b h hl b.length 0 ⟨[], 0, false, 0, [], 0⟩ (by omega) ⟨by simp, Nat.zero_le _, Nat.zero_le _⟩ (Nat.zero_le _)
end Go.Proofs.Ytimdikfllbbdoaa.Fv
