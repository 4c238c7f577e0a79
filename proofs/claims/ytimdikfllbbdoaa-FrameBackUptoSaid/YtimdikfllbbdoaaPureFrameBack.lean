/- Sections are read as they were; bytes that are some are their bytes; cut short they are missing some; with any behind they are none. No condition. -/
import Derived.Test.YtimdikfllbbdoaaStFrameBack
import Derived.Test.YtimdikfllbbdoaaFB
import Derived.Test.YtimdikfllbbdoaaPureFrameWrites
namespace Go.Proofs.Ytimdikfllbbdoaa.Pure
set_option linter.unusedVariables false
set_option linter.unusedSimpArgs false
open Go.RowKit Go.Proofs.Ytimdikfllbbdoaa.P Go.Proofs.Ytimdikfllbbdoaa.C Go.Proofs.Ytimdikfllbbdoaa.Fv Go.Proofs.YtimdikfllbbdoaaW.PrintWords Go.Proofs.YtimdikfllbbdoaaW.PrintLast

theorem hdB_wf : ∀ c ∈ hdB, 0 ≤ c ∧ c ≤ 255 := by decide
theorem back_j1 (b : List Int) (h : ∀ c ∈ b, 0 ≤ c ∧ c ≤ 255) (hl : b.length ≤ 1200) : Ev (fun k => lapidarylaw03_FrameBack.j1 k b) true := by
  refine Ev.step (fun k => lapidarylaw03_FrameBack.j1.eq_2 _ _) ?_
  refine Ev.bind (dec_ev b h (by omega)) ?_
  by_cases he : (decW b).2 = 0
  · obtain ⟨r, hr⟩ : ∃ r, decW b = (r, 0) := ⟨(decW b).1, by rw [← he]⟩
    obtain ⟨ho, hw, hb⟩ := decW_inv b h (by omega) r hr
    have hsz : ∀ l : List S33, szL l ≤ 7 * (bodyL l).length := by
      intro l
      induction l with
      | nil => exact Nat.le_refl _
      | cons s l ih =>
        have := secB_len s.f0 s.f1
        simp only [szL, bodyL, List.length_append]
        omega
    have h1 := hsz r
    have h2 : (bodyL r).length ≤ b.length := by rw [hb]; unfold encB; simp only [List.length_append]; omega
    simp only [hr, if_true]
    refine Ev.bind (enc_ev r hw (by omega)) ?_
    have e : encV r = (b, 0) := by unfold encV; rw [if_pos ho, hb]; rfl
    simp only [e, if_true, same_self, Option.bind_some]
    exact Ev.bind known_ev (Ev.now _)
  · have hn := decW_nil b he
    simp only [if_neg he, hn, List.length_nil]
    exact Ev.bind known_ev (Ev.now _)
theorem back_j0 (l : List S33) (b : List Int) (a2 a3 : Int) (hw : ∀ s ∈ l, wfS s) (hb : ∀ c ∈ b, 0 ≤ c ∧ c ≤ 255) (h2 : 0 ≤ a2 ∧ a2 ≤ 65535) (h3 : 0 ≤ a3 ∧ a3 ≤ 255) (hlen : lenL l ≤ 1500) (hbl : b.length ≤ 1200) :
    Ev (fun k => lapidarylaw03_FrameBack.j0 k l b a2 a3 false) true := by
  refine Ev.step (fun k => lapidarylaw03_FrameBack.j0.eq_2 _ _ _ _ _ _) ?_
  have hsz := sz_len l
  have hbd := body_len l
  simp only [Bool.false_eq_true, if_false]
  refine Ev.bind (enc_ev l hw (by omega)) ?_
  by_cases ho : okL 0 l = true
  · have e : encV l = (encB l, 0) := by unfold encV; rw [if_pos ho]; rfl
    have hxl : (encB l).length = 5 + (bodyL l).length + 1 := by unfold encB; rw [List.length_append, List.length_append, hdB_len, one_len]
    have hll : l.length ≤ lenL l := by
      have : ∀ l : List S33, l.length ≤ lenL l := by
        intro l
        induction l with
        | nil => exact Nat.le_refl _
        | cons s l ih => simp only [List.length_cons, lenL]; omega
      exact this l
    have hbw : ∀ l : List S33, (∀ s ∈ l, wfS s) → ∀ q, okL q l = true → ∀ c ∈ bodyL l, 0 ≤ c ∧ c ≤ 255 := by
      intro l
      induction l with
      | nil => intro _ _ _ c hc; simp [bodyL] at hc
      | cons s l ih =>
        intro hw q ho c hc
        simp only [okL, Bool.and_eq_true, decide_eq_true_eq] at ho
        have hs := hw s (List.mem_cons_self)
        rw [bodyL] at hc
        rcases List.mem_append.1 hc with hc | hc
        · unfold secB at hc
          rcases List.mem_append.1 hc with hc | hc
          · exact pre_wf s.f0 s.f1 (by omega) hs.1 (by have := hs.2; omega) c hc
          · exact bytes4_wf _ c hc
        · exact ih (fun x hx => hw x (List.mem_cons_of_mem _ hx)) _ ho.2 c hc
    have hxw : ∀ c ∈ encB l, 0 ≤ c ∧ c ≤ 255 := by
      intro c hc
      unfold encB at hc
      rcases List.mem_append.1 hc with hc | hc
      · rcases List.mem_append.1 hc with hc | hc
        · exact hdB_wf c hc
        · exact hbw l hw 0 ho c hc
      · simp at hc
        omega
    have d1 := dec_enc l ho hw
    have d2 := dec_less l ho hw
    have d3 := dec_more l ho hw a3
    have ev1 := dec_ev (encB l) hxw (by omega)
    have ev3 := dec_ev (encB l ++ [a3]) (fun c hc => by
      rcases List.mem_append.1 hc with hc | hc
      · exact hxw c hc
      · simp at hc; omega) (by rw [List.length_append, one_len]; omega)
    have ev2 := fun m => dec_ev ((encB l).take m) (fun c hc => hxw c (List.mem_of_mem_take hc)) (by rw [List.length_take]; omega)
    rw [d1] at ev1
    rw [d3] at ev3
    simp only [e, if_true]
    generalize encB l = x at *
    have hpos : (0 : Int) < (x.length : Int) := by omega
    have ht : Int.tmod (wrap64 a2) (x.length : Int) = a2 % (x.length : Int) := by
      rw [w64 (by omega) (by omega)]
      exact Int.tmod_eq_emod_of_nonneg h2.1
    have t0 := Int.emod_nonneg a2 (show (x.length : Int) ≠ 0 by omega)
    have t1 := Int.emod_lt_of_pos a2 hpos
    simp only [ht, if_neg (show ¬ ((x.length : Int) = 0) by omega)]
    refine Ev.bind ev1 ?_
    generalize a2 % (x.length : Int) = t at *
    simp only [if_pos t0, if_pos (Int.le_of_lt t1)]
    have dl := d2 t.toNat (by omega)
    refine Ev.bind (ev2 t.toNat) ?_
    have hcp : lapidaryref00_Copy.f x = some x := by
      unfold lapidaryref00_Copy.f
      rw [if_pos (by rw [List.length_nil]; omega), List.nil_append]
    simp only [hcp, Option.bind_some, if_pos (show x.length < 140737488355328 by omega)]
    refine Ev.bind ev3 ?_
    simp only [if_true]
    refine Ev.bind (rsame_self l (by omega)) ?_
    simp only [dl, if_true]
    exact back_j1 b hb hbl
  · have e : encV l = ([], 2) := by unfold encV; rw [if_neg ho]
    simp only [e, if_neg (show ¬ ((2 : Int) = 0) by omega)]
    exact back_j1 b hb hbl
theorem FrameBack : lapidarylaw03_FrameBack.Pure := by
  intro l b a2 a3 hl hb h2 h3 hbound
  have hlen := lenL_mu l
  have h2' : 0 ≤ a2 ∧ a2 ≤ 65535 := by simpa [Lit.wf, IntKind.min, IntKind.max, IntKind.signed, IntKind.bits] using h2
  have h3' : 0 ≤ a3 ∧ a3 ≤ 255 := by simpa [Lit.wf, IntKind.min, IntKind.max, IntKind.signed, IntKind.bits] using h3
  have hbw : ∀ c ∈ b, 0 ≤ c ∧ c ≤ 255 := fun c hc => by simpa [Lit.wf, IntKind.min, IntKind.max, IntKind.signed, IntKind.bits] using hb.2 c hc
  refine Ev.rounds (g := fun k => lapidarylaw03_FrameBack.f k l b a2 a3) ?_
  unfold lapidarylaw03_FrameBack.f
  refine Ev.bind (long_ev l (by omega)) ?_
  have long : Ev (fun k => lapidarylaw03_FrameBack.j0 k l b a2 a3 true) true := by
    refine Ev.step (fun k => lapidarylaw03_FrameBack.j0.eq_2 _ _ _ _ _ _) ?_
    simp only [if_true]
    exact Ev.bind known_ev (Ev.now _)
  by_cases hlong : (lenL l : Int) > 1500
  · simp only [decide_eq_true hlong, if_true]
    exact long
  · simp only [decide_eq_false hlong, Bool.false_eq_true, if_false]
    by_cases hb2 : (b.length : Int) > 1200
    · simp only [decide_eq_true hb2]
      exact long
    · simp only [decide_eq_false hb2]
      exact back_j0 l b a2 a3 (fun s hs => ⟨ok_bytes s (hl.2 s hs), by have := lenL_one l s hs; omega⟩) hbw h2' h3' (by omega) (by omega)
end Go.Proofs.Ytimdikfllbbdoaa.Pure
