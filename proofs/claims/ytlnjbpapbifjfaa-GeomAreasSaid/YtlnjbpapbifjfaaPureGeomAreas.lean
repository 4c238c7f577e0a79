/- Of any ring twice the area is what the document says; begun elsewhere it is the same, backwards the opposite. No condition. -/
import Derived.Test.YtlnjbpapbifjfaaStGeomAreas
import Derived.Test.YtlnjbpapbifjfaaGK
import Derived.Test.YtlnjbpapbifjfaaGEr
namespace Go.Proofs.Ytlnjbpapbifjfaa.Pure
set_option linter.unusedVariables false
set_option linter.unusedSimpArgs false
open Go.RowKit Go.Proofs.Ytlnjbpapbifjfaa.P Go.Proofs.Ytlnjbpapbifjfaa.X Go.Proofs.Ytlnjbpapbifjfaa.WL Go.Proofs.Ytlnjbpapbifjfaa.G Go.Proofs.YtlnjbpapbifjfaaW.PrintWords Go.Proofs.YtlnjbpapbifjfaaW.PrintLast Go.Proofs.YtlnjbpapbifjfaaW.PrintMore

theorem areas_l0 (l r : List Pt) (hl : l.length ≤ 60) (hr : areaV r = areaV l) (hrl : r.length ≤ 60) : ∀ (n : Nat) (b : List Pt), n ≤ l.length → b = (l.drop n).reverse →
    Ev (fun k => lapidarylaw09_GeomAreas.l0 k l r b ((n : Int) - 1) (hiw (areaV l)) (low (areaV l))) true := by
  intro n
  induction n with
  | zero =>
    intro b _ hb
    rw [List.drop_zero] at hb
    have A1 := gArea_val r (by omega)
    have A2 := gArea_val b (by rw [hb, List.length_reverse]; omega)
    have hbv : areaV b = -areaV l := by rw [hb, areaV_rev]
    rw [hr] at A1
    rw [hbv] at A2
    refine Ev.step (f := fun k => (lapidaryref09_Area.f k l).bind fun t456 => ((lapidaryref08_Is.f k t456 (hiw (areaV l)) (low (areaV l))).bind fun t459 => (if t459 = true then ((geom_Area.f k r).bind fun bt460 => (if (bt460.1 == hiw (areaV l) && (bt460.2 == low (areaV l))) = true then ((geom_Area.f k b).bind fun bt462 => ((wide_Neg.f k (hiw (areaV l)) (low (areaV l))).bind fun bt464 => (if (bt462.1 == bt464.1 && (bt462.2 == bt464.2)) = true then ((lapidarylaw09_known.f k).bind fun t466 => (some t466)) else (none)))) else (none))) else (none)))) (fun k => by simp only [lapidarylaw09_GeomAreas.l0]; rw [if_neg (by omega)]) ?_
    refine Ev.bind (rArea_val l (by omega)) ?_
    refine Ev.bind (isnum_ev _) ?_
    simp only [if_true]
    refine Ev.bind A1 ?_
    simp only [beq_self_eq_true, Bool.and_self, if_true]
    refine Ev.bind A2 ?_
    refine Ev.bind (wNeg_ev _) ?_
    simp only [beq_self_eq_true, Bool.and_self, if_true]
    exact known_ev'
  | succ n ih =>
    intro b hn hb
    have hA : n < l.length := by omega
    have hbl : b.length < 5864062014805 := by rw [hb, List.length_reverse, List.length_drop]; omega
    have I := ih (b ++ [l[n]]) (by omega) (by rw [hb, List.drop_eq_getElem_cons hA, List.reverse_cons])
    have hrd : rd_T23 l ((n : Nat) : Int) = l[n] := rdp l n hA
    refine Ev.step (fun k => ?_) I
    simp only [lapidarylaw09_GeomAreas.l0]
    rw [show ((n + 1 : Nat) : Int) - 1 = (n : Int) by omega, if_pos (by omega), if_pos (by omega), if_pos (by omega), if_pos hbl, hrd, show wrap64 ((n : Int) - 1) = (n : Int) - 1 by unfold wrap64; omega]
theorem areas_j0 (l : List Pt) (hl : l.length ≤ 60) (k : Nat) (hk : k ≤ l.length) : Ev (fun n => lapidarylaw09_GeomAreas.j0 n l (k : Int) (hiw (areaV l)) (low (areaV l))) true := by
  have L := areas_l0 l (l.drop k ++ l.take k) hl (areaV_turned l k hk) (by rw [List.length_append, List.length_drop, List.length_take]; omega) l.length [] (Nat.le_refl _) (by rw [List.drop_of_length_le (Nat.le_refl _)]; rfl)
  refine Ev.step (fun n => ?_) L
  simp only [lapidarylaw09_GeomAreas.j0, Option.bind_some, List.nil_append, List.length_nil, Nat.zero_add, Int.toNat_natCast]
  rw [if_pos (by omega), if_pos (by omega), if_pos (by rw [List.length_drop]; omega), if_pos (by rw [List.length_drop, List.length_take]; omega), show wrap64 ((l.length : Int) - 1) = (l.length : Int) - 1 by unfold wrap64; omega]
theorem GeomAreas : lapidarylaw09_GeomAreas.Pure := by
  intro l a _ wa
  have ha : 0 ≤ a ∧ a ≤ 255 := by simpa [Lit.wf, IntKind.min, IntKind.max, IntKind.signed, IntKind.bits] using wa
  refine Ev.rounds (g := fun k => lapidarylaw09_GeomAreas.f k l a) ?_
  unfold lapidarylaw09_GeomAreas.f
  by_cases h : (l.length : Int) > 60
  · simp only [if_pos h]; exact known_ev'
  · simp only [if_neg h]
    refine Ev.bind (gArea_val l (by omega)) ?_
    by_cases h0 : (l.length : Int) > 0
    · simp only [if_pos h0]
      have hz : ¬ (l.length : Int) = 0 := by omega
      simp only [if_neg hz]
      obtain ⟨n, rfl⟩ := Int.eq_ofNat_of_zero_le ha.1
      have e : Int.tmod (wrap64 (n : Int)) (l.length : Int) = ((n % l.length : Nat) : Int) := by
        rw [w64_id (by omega) (by omega), Int.tmod_eq_emod_of_nonneg (by omega), Int.natCast_emod]
      rw [e]
      exact areas_j0 l (by omega) (n % l.length) (Nat.le_of_lt (Nat.mod_lt _ (by omega)))
    · simp only [if_neg h0]
      exact areas_j0 l (by omega) 0 (by omega)

end Go.Proofs.Ytlnjbpapbifjfaa.Pure
