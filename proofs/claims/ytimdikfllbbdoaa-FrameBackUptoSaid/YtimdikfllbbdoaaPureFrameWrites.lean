/- Any sections have the bytes that the chapter says, or none; each of them, too. No condition. -/
import Derived.Test.YtimdikfllbbdoaaStFrameWrites
import Derived.Test.YtimdikfllbbdoaaFD
namespace Go.Proofs.Ytimdikfllbbdoaa.Pure
set_option linter.unusedVariables false
open Go.RowKit Go.Proofs.Ytimdikfllbbdoaa.P Go.Proofs.Ytimdikfllbbdoaa.C Go.Proofs.Ytimdikfllbbdoaa.Fv Go.Proofs.YtimdikfllbbdoaaW.PrintWords Go.Proofs.YtimdikfllbbdoaaW.PrintLast

theorem sum_ones : ∀ l : List Int, (l.map (fun _ => 1)).sum = l.length
  | [] => rfl
  | _ :: l => by
    have := sum_ones l
    simp only [List.map_cons, List.sum_cons, List.length_cons, this]
    omega
theorem lenL_mu : ∀ l : List S33, lenL l ≤ (l.map mu33).sum
  | [] => Nat.le_refl _
  | s :: l => by
    have := lenL_mu l
    have e := sum_ones s.f1
    simp only [lenL, List.map_cons, List.sum_cons, mu33, e]
    omega
theorem ok_bytes (s : S33) (h : ok33 s) : ∀ c ∈ s.f1, 0 ≤ c ∧ c ≤ 255 := fun c hc => by simpa [Lit.wf, IntKind.min, IntKind.max, IntKind.signed, IntKind.bits] using h.2.2 c hc
theorem lenL_one : ∀ (l : List S33) (s : S33), s ∈ l → s.f1.length + 1 ≤ lenL l
  | [], s, h => by simp at h
  | t :: l, s, h => by
    rcases List.mem_cons.1 h with rfl | h
    · simp only [lenL]; omega
    · have := lenL_one l s h
      simp only [lenL]; omega
theorem FrameWrites : lapidarylaw03_FrameWrites.Pure := by
  intro l hl hb
  have hlen := lenL_mu l
  refine Ev.rounds (g := fun k => lapidarylaw03_FrameWrites.f k l) ?_
  unfold lapidarylaw03_FrameWrites.f
  refine Ev.bind (long_ev l (by omega)) ?_
  by_cases h2 : (lenL l : Int) > 1500
  · simp only [decide_eq_true h2, if_true]
    exact Ev.bind known_ev (Ev.now _)
  · simp only [decide_eq_false h2, Bool.false_eq_true, if_false]
    have hw : ∀ s ∈ l, wfS s := fun s hs => ⟨ok_bytes s (hl.2 s hs), by have := lenL_one l s hs; omega⟩
    have hsz := sz_len l
    refine Ev.bind (enc_ev l hw (by omega)) ?_
    refine Ev.bind (renc_ev l hw (by omega)) ?_
    generalize encV l = r
    have hll : l.length ≤ lenL l := by
      have : ∀ l : List S33, l.length ≤ lenL l := by
        intro l
        induction l with
        | nil => exact Nat.le_refl _
        | cons s l ih => simp only [List.length_cons, lenL]; omega
      exact this l
    have : ∀ m i : Nat, i + m = l.length → Ev (fun k => lapidarylaw03_FrameWrites.l0 k l r.1 r.2 r.1 r.2 (i : Int)) true := by
      intro m
      induction m with
      | zero =>
        intro i hm
        refine Ev.step (fun k => lapidarylaw03_FrameWrites.l0.eq_2 _ _ _ _ _ _ _) ?_
        simp only [if_neg (show ¬ ((i : Int) < (l.length : Int)) by omega), same_self, Option.bind_some, if_true]
        exact Ev.bind known_ev (Ev.now _)
      | succ m ih =>
        intro i hm
        have hil : i < l.length := by omega
        have hs := hw _ (List.getElem_mem hil)
        refine Ev.step (fun k => lapidarylaw03_FrameWrites.l0.eq_2 _ _ _ _ _ _ _) ?_
        simp only [if_pos (show (i : Int) < (l.length : Int) by omega), if_pos (show (0 : Int) ≤ (i : Int) by omega), rdS l i hil, nx i (by omega)]
        refine Ev.bind (one_ev _ _ hs.1 hs.2) ?_
        refine Ev.bind (rone_ev _ _ hs.1 hs.2) ?_
        simp only [same_self, Option.bind_some, if_true]
        exact ih (i + 1) (by omega)
    exact this l.length 0 (by omega)
end Go.Proofs.Ytimdikfllbbdoaa.Pure
