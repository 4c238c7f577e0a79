/- crc.Check, and the document's, come to one. No condition. -/
import Derived.Test.YtimdikfllbbdoaaCF
namespace Go.Proofs.Ytimdikfllbbdoaa.C
set_option linter.unusedVariables false
set_option linter.unusedSimpArgs false
open Go.RowKit Go.Proofs.Ytimdikfllbbdoaa.P Go.Proofs.YtimdikfllbbdoaaW.PrintWords Go.Proofs.YtimdikfllbbdoaaW.PrintLast Go.Proofs.YtimdikfllbbdoaaW.PrintMore

theorem check_ev (b : List Int) (h : ∀ c ∈ b, 0 ≤ c ∧ c ≤ 255) (hl : b.length ≤ 140737488351232) : Ev (fun k => crc_Check.f k b) (chkV b) := by
  unfold crc_Check.f chkV
  by_cases h4 : b.length < 4
  · simp only [w64 (x := (b.length : Int) - 4) (by omega) (by omega), if_pos (show (b.length : Int) - 4 < 0 by omega), if_pos h4]
    exact Ev.now _
  · obtain ⟨i, hi⟩ : ∃ i, i + 4 = b.length := ⟨b.length - 4, by omega⟩
    have e : (b.length : Int) - 4 = (i : Int) := by omega
    have hF := field_ev b h hl i (by omega)
    have hx : ((le4 b i : Nat) : Int) % 4294967296 = (le4 b i : Int) := by
      have hc := cN_lt b h
      have c0 := hc i; have c1 := hc (i + 1); have c2 := hc (i + 2); have c3 := hc (i + 3)
      unfold le4; omega
    have ho : crc_Of.f [b.take i] = some (ofV [b.take i]) := rfl
    rw [show b.length - 4 = i by omega]
    generalize ((le4 b i : Nat) : Int) = F at *
    generalize ofV [b.take i] = T at *
    simp only [e, w64 (x := (i : Int)) (by omega) (by omega), if_neg (show ¬ ((i : Int) < 0) by omega), if_neg h4]
    refine Ev.bind hF ?_
    simp only [if_pos (show (0 : Int) ≤ (i : Int) by omega), if_pos (show (i : Int) ≤ (b.length : Int) by omega), Int.toNat_natCast]
    refine Ev.bind (a := T) (by rw [ho]; exact Ev.now _) ?_
    clear ho
    simp only [hx, Option.bind_some, List.nil_append, List.length_nil]
    by_cases hq : F = T
    · simp only [if_pos hq, if_pos (show 0 + (b.take i).length < 140737488355328 by rw [List.length_take]; omega)]
      exact Ev.now _
    · simp only [if_neg hq]
      exact Ev.now _
theorem bytes4_wf (T : Int) : ∀ c ∈ bytes4 T, 0 ≤ c ∧ c ≤ 255 := by
  intro c hc
  unfold bytes4 at hc
  simp only [List.mem_cons, List.not_mem_nil, or_false] at hc
  rcases hc with rfl | rfl | rfl | rfl <;> omega
theorem rseal_ev (b : List Int) (h : ∀ c ∈ b, 0 ≤ c ∧ c ≤ 255) (hl : b.length ≤ 2000) : Ev (fun k => lapidaryref02_Seal.f k b) (b ++ bytes4 (ofV [b])) := by
  unfold lapidaryref02_Seal.f
  refine Ev.bind (rof_ev b h hl) ?_
  unfold lapidaryref00_Copy.f
  generalize ofV [b] = T
  have e : [(Int.tmod T 256) % 256, ((Int.tdiv T 256) % 4294967296) % 256, ((Int.tdiv T 65536) % 4294967296) % 256, ((Int.tdiv T 16777216) % 4294967296) % 256] = bytes4 T := rfl
  have l4 : (bytes4 T).length = 4 := rfl
  simp only [e, List.length_nil, List.nil_append, if_pos (show 0 + b.length < 140737488355328 by omega), Option.bind_some, l4, if_pos (show b.length + 4 < 140737488355328 by omega)]
  exact Ev.now _
theorem rcheck_ev (b : List Int) (h : ∀ c ∈ b, 0 ≤ c ∧ c ≤ 255) (hl : b.length ≤ 2004) : Ev (fun k => lapidaryref02_Check.f k b) (chkV b) := by
  unfold lapidaryref02_Check.f chkV
  by_cases h4 : b.length < 4
  · simp only [if_pos (show (b.length : Int) < 4 by omega), if_pos h4]
    exact Ev.now _
  · obtain ⟨i, hi⟩ : ∃ i, i + 4 = b.length := ⟨b.length - 4, by omega⟩
    have e : (b.length : Int) - 4 = (i : Int) := by omega
    have ht : ∀ c ∈ b.take i, 0 ≤ c ∧ c ≤ 255 := fun c hc => h c (List.mem_of_mem_take hc)
    have hr := ofV_range (b.take i) ht
    simp only [if_neg (show ¬ ((b.length : Int) < 4) by omega), if_neg h4, e, w64 (x := (i : Int)) (by omega) (by omega), if_pos (show (0 : Int) ≤ (i : Int) by omega), if_pos (show (i : Int) ≤ (b.length : Int) by omega), show b.length - 4 = i by omega, Int.toNat_natCast]
    refine Ev.bind (rseal_ev (b.take i) ht (by rw [List.length_take]; omega)) ?_
    rw [same_dec _ b (fun c hc => by
      rcases List.mem_append.1 hc with hc | hc
      · exact ht c hc
      · exact bytes4_wf _ c hc) h]
    simp only [Option.bind_some]
    by_cases hq : (le4 b i : Int) = ofV [b.take i]
    · have hs := (seal_iff b h i hi _ hr.1 hr.2).2 hq
      unfold lapidaryref00_Copy.f
      simp only [decide_eq_true hs, if_true, if_pos hq, List.length_nil, List.nil_append, if_pos (show 0 + (b.take i).length < 140737488355328 by rw [List.length_take]; omega), Option.bind_some]
      exact Ev.now _
    · have hs : ¬ (b.take i ++ bytes4 (ofV [b.take i]) = b) := fun hh => hq ((seal_iff b h i hi _ hr.1 hr.2).1 hh)
      simp only [decide_eq_false hs, Bool.false_eq_true, if_false, if_neg hq]
      exact Ev.now _
end Go.Proofs.Ytimdikfllbbdoaa.C
