/- Each end of a segment lies on it, and what lies between two lies on the way back; a ring's corners are neither in it nor out. No condition. -/
import Derived.Test.YtlnjbpapbifjfaaStGeomEnds
import Derived.Test.YtlnjbpapbifjfaaGK
import Derived.Test.YtlnjbpapbifjfaaGN
import Derived.Test.YtlnjbpapbifjfaaGI
namespace Go.Proofs.Ytlnjbpapbifjfaa.Pure
set_option linter.unusedVariables false
set_option linter.unusedSimpArgs false
open Go.RowKit Go.Proofs.Ytlnjbpapbifjfaa.P Go.Proofs.Ytlnjbpapbifjfaa.X Go.Proofs.Ytlnjbpapbifjfaa.WL Go.Proofs.Ytlnjbpapbifjfaa.G Go.Proofs.YtlnjbpapbifjfaaW.PrintWords Go.Proofs.YtlnjbpapbifjfaaW.PrintLast Go.Proofs.YtlnjbpapbifjfaaW.PrintMore

theorem meet_end {a b : Pt} (ha : rt a = true) (hb : rt b = true) : meetV a b a a = 1 := by
  have hone : one_ a b a a := ⟨a, by simp, by unfold both; rw [onB_left ha hb, onB_left ha ha]; rfl⟩
  have htwo : ¬ two_ a b a a := by
    rintro ⟨x, y, _, _, hx, hy, hne⟩
    have key : ∀ z : Pt, both z a b a a = true → z = a := fun z hz => by
      unfold both at hz
      simp only [Bool.and_eq_true] at hz
      obtain ⟨rz, _, _, _, z1, z2⟩ := onB_iff.1 hz.2
      obtain ⟨z3, _⟩ := rt_iff.1 rz
      obtain ⟨a3, _⟩ := rt_iff.1 ha
      rcases z with ⟨u, v, w⟩
      rcases a with ⟨u', v', w'⟩
      simp only at *
      congr 1 <;> omega
    exact hne ((key x hx).trans (key y hy).symm)
  unfold meetV meetM
  rw [ha, hb, if_neg htwo, if_pos hone]; rfl
theorem meet_back {a b : Pt} (ha : rt a = true) (hb : rt b = true) : (meetV a b b a == 3) = (!(a.f0 == b.f0) || (!(a.f1 == b.f1) || (!(a.f2 == b.f2)))) := by
  have hone : one_ a b b a := ⟨a, by simp, by unfold both; rw [onB_left ha hb, onB_right hb ha]; rfl⟩
  rw [Bool.eq_iff_iff, ne_iff, beq_iff_eq]
  unfold meetV meetM
  rw [ha, hb]
  constructor
  · intro h e
    subst e
    have htwo : ¬ two_ a a a a := by
      rintro ⟨x, y, hx, hy, _, _, hne⟩
      simp only [List.mem_cons, List.not_mem_nil, or_false, or_self] at hx hy
      exact hne (hx.trans hy.symm)
    rw [if_neg htwo, if_pos hone] at h
    simp at h
  · intro hne
    have htwo : two_ a b b a := ⟨a, b, by simp, by simp, by unfold both; rw [onB_left ha hb, onB_right hb ha]; rfl, by unfold both; rw [onB_right ha hb, onB_left hb ha]; rfl, hne⟩
    rw [if_pos htwo]; rfl
theorem ends_l0 {a b : Pt} (ha : rt a = true) (hb : rt b = true) (l : List Pt) (hl : l.length ≤ 60) (hr : l.all rt = true) : ∀ (n i : Nat), i + n = l.length →
    Ev (fun k => lapidarylaw09_GeomEnds.l0 k l (i : Int) a.f0 a.f1 a.f2 b.f0 b.f1 b.f2) true := by
  intro n
  induction n with
  | zero =>
    intro i hi
    have M1 := gMeet_ev a b a a
    have M2 := gMeet_ev a b b a
    rw [meet_end ha hb] at M1
    have O1 := gOn_ev a a b
    have O2 := gOn_ev b a b
    rw [onB_left ha hb] at O1
    rw [onB_right ha hb] at O2
    refine Ev.step (f := fun k => (geom_On.f k a.f0 a.f1 a.f2 a.f0 a.f1 a.f2 b.f0 b.f1 b.f2).bind fun t584 => (if t584 = true then ((geom_On.f k b.f0 b.f1 b.f2 a.f0 a.f1 a.f2 b.f0 b.f1 b.f2).bind fun t585 => (if t585 = true then ((geom_Meet.f k a.f0 a.f1 a.f2 b.f0 b.f1 b.f2 a.f0 a.f1 a.f2 a.f0 a.f1 a.f2).bind fun t586 => (if t586 = 1 then ((geom_Meet.f k a.f0 a.f1 a.f2 b.f0 b.f1 b.f2 b.f0 b.f1 b.f2 a.f0 a.f1 a.f2).bind fun t587 => (if ((t587 == 3) == (!(a.f0 == b.f0) || (!(a.f1 == b.f1) || (!(a.f2 == b.f2))))) = true then ((lapidarylaw09_known.f k).bind fun t588 => (some t588)) else (none))) else (none))) else (none))) else (none))) (fun k => by simp only [lapidarylaw09_GeomEnds.l0]; rw [if_neg (by omega)]) ?_
    refine Ev.bind O1 ?_
    simp only [if_true]
    refine Ev.bind O2 ?_
    simp only [if_true]
    refine Ev.bind M1 ?_
    simp only [if_true]
    refine Ev.bind M2 ?_
    rw [meet_back ha hb]
    simp only [beq_self_eq_true, if_true]
    exact known_ev'
  | succ n ih =>
    intro i hi
    have hA : i < l.length := by omega
    have rx := all_get hr i hA
    have hin : inV l[i] l = 0 := by
      unfold inV
      rw [rx, hr]
      have : (edg l).any (onE l[i]) = true := by
        rw [List.any_eq_true]
        refine ⟨(edg l)[i]'(by rw [edg_len]; exact hA), List.getElem_mem _, ?_⟩
        rw [edg_get l i hA]
        exact onB_left rx (all_get hr _ (Nat.mod_lt _ (by omega)))
      unfold tell
      rw [if_pos this]; rfl
    have G := gIn_ev l[i] l (by omega)
    rw [hin] at G
    have O1 := gOn_ev l[i] a b
    have O2 := gOn_ev l[i] b a
    rw [onB_swap l[i] b a] at O2
    have hrd : rd_T23 l (i : Int) = l[i] := rdp l i hA
    have I := ih (i + 1) (by omega)
    generalize l[i] = x at *
    refine Ev.step (f := fun k => (geom_In.f k x.f0 x.f1 x.f2 l).bind fun t579 => (if t579 = 0 then ((geom_On.f k x.f0 x.f1 x.f2 a.f0 a.f1 a.f2 b.f0 b.f1 b.f2).bind fun t581 => ((geom_On.f k x.f0 x.f1 x.f2 b.f0 b.f1 b.f2 a.f0 a.f1 a.f2).bind fun t583 => (if (t581 != t583) = true then (none) else (lapidarylaw09_GeomEnds.l0 k l ((i + 1 : Nat) : Int) a.f0 a.f1 a.f2 b.f0 b.f1 b.f2)))) else (none))) (fun k => ?_) ?_
    · simp only [lapidarylaw09_GeomEnds.l0]
      rw [if_pos (by omega), if_pos (by omega), hrd, w64_succ i (by omega)]
    · refine Ev.bind G ?_
      simp only [if_true]
      refine Ev.bind O1 ?_
      refine Ev.bind O2 ?_
      simp only [bne_self_eq_false, Bool.false_eq_true, if_false]
      exact I
theorem GeomEnds : lapidarylaw09_GeomEnds.Pure := by
  intro a0 a1 a2 b0 b1 b2 l _ _ _ _ _ _ wl
  refine Ev.rounds (g := fun k => lapidarylaw09_GeomEnds.f k a0 a1 a2 b0 b1 b2 l) ?_
  have jt : Ev (fun k => lapidarylaw09_GeomEnds.j0 k l true a0 a1 a2 b0 b1 b2) true := Ev.step (f := fun k => (lapidarylaw09_known.f k).bind fun t => some t) (fun k => by simp only [lapidarylaw09_GeomEnds.j0, if_true]) known_ev'
  have hml : l.length ≤ 9223372036854775807 := by have := wl.1; unfold maxLen at this; omega
  unfold lapidarylaw09_GeomEnds.f
  refine Ev.bind (gRight_ev [⟨a0, a1, a2⟩, ⟨b0, b1, b2⟩] (by simp)) ?_
  simp only [List.all_cons, List.all_nil, Bool.and_true]
  by_cases h : (rt ⟨a0, a1, a2⟩ && rt ⟨b0, b1, b2⟩) = true
  · simp only [if_pos h]
    simp only [Bool.and_eq_true] at h
    refine Ev.bind (gRight_ev l hml) ?_
    by_cases h2 : l.all rt = true
    · simp only [if_pos h2]
      by_cases h3 : (l.length : Int) > 60
      · simp only [h3, decide_true]; exact jt
      · simp only [h3, decide_false]
        refine Ev.step (fun k => ?_) (ends_l0 h.1 h.2 l (by omega) h2 l.length 0 (by omega))
        simp only [lapidarylaw09_GeomEnds.j0, Bool.false_eq_true, if_false]; rfl
    · simp only [if_neg h2]; exact jt
  · simp only [if_neg h]; exact jt

end Go.Proofs.Ytlnjbpapbifjfaa.Pure
