/- Of any point whether it lies in any ring is what the document says; however that is begun, and from whichever side it is told. No condition. -/
import Derived.Test.YtlnjbpapbifjfaaStGeomIns
import Derived.Test.YtlnjbpapbifjfaaGK
import Derived.Test.YtlnjbpapbifjfaaGIr
namespace Go.Proofs.Ytlnjbpapbifjfaa.Pure
set_option linter.unusedVariables false
set_option linter.unusedSimpArgs false
open Go.RowKit Go.Proofs.Ytlnjbpapbifjfaa.P Go.Proofs.Ytlnjbpapbifjfaa.X Go.Proofs.Ytlnjbpapbifjfaa.WL Go.Proofs.Ytlnjbpapbifjfaa.G Go.Proofs.YtlnjbpapbifjfaaW.PrintWords Go.Proofs.YtlnjbpapbifjfaaW.PrintLast Go.Proofs.YtlnjbpapbifjfaaW.PrintMore

theorem turned_get (l : List Pt) (k : Nat) (hk : k < l.length) (j : Nat) (hj : j < l.length) : (l.drop k ++ l.take k)[j]'(by rw [List.length_append, List.length_drop, List.length_take]; omega) = l[(j + k) % l.length]'(Nat.mod_lt _ (by omega)) := by
  by_cases h : j + k < l.length
  · rw [List.getElem_append_left (by rw [List.length_drop]; omega), List.getElem_drop]
    have e : (j + k) % l.length = k + j := by rw [Nat.mod_eq_of_lt h]; omega
    simp only [e]
  · rw [List.getElem_append_right (by rw [List.length_drop]; omega), List.getElem_take]
    congr 1
    rw [List.length_drop, Nat.mod_eq_sub_mod (by omega), Nat.mod_eq_of_lt (by omega)]; omega
theorem ins_l0 (p : Pt) (l : List Pt) (hl : l.length ≤ 60) (k : Nat) (hk : k ≤ l.length) (hk' : l.length = 0 ∨ k < l.length) : ∀ (n i : Nat) (r : List Pt), i + n = l.length → r = ((l.drop k ++ l.take k).reverse).take i →
    Ev (fun m => lapidarylaw09_GeomIns.l0 m l (inV p l) (k : Int) r (i : Int) p.f0 p.f1 p.f2) true := by
  intro n
  induction n with
  | zero =>
    intro i r hi hr
    have hlen : (l.drop k ++ l.take k).reverse.length = l.length := by rw [List.length_reverse, List.length_append, List.length_drop, List.length_take]; omega
    rw [List.take_of_length_le (by omega)] at hr
    have hv : inV p r = inV p l := by rw [hr, inV_rev, inV_turned p l k hk]
    have G := gIn_ev p r (by rw [hr, hlen]; omega)
    rw [hv] at G
    refine Ev.step (f := fun m => (lapidaryref09_In.f m p.f0 p.f1 p.f2 l).bind fun t596 => (if inV p l = t596 then ((geom_In.f m p.f0 p.f1 p.f2 r).bind fun t597 => (if t597 = inV p l then ((lapidarylaw09_known.f m).bind fun t598 => (some t598)) else (none))) else (none))) (fun m => by simp only [lapidarylaw09_GeomIns.l0]; rw [if_neg (by omega)]) ?_
    refine Ev.bind (rIn_ev p l (by omega)) ?_
    simp only [if_true]
    refine Ev.bind G ?_
    simp only [if_true]
    exact known_ev'
  | succ n ih =>
    intro i r hi hr
    have hA : i < l.length := by omega
    have hk2 : k < l.length := by omega
    have hlen : (l.drop k ++ l.take k).length = l.length := by rw [List.length_append, List.length_drop, List.length_take]; omega
    have hrl : r.length < 5864062014805 := by rw [hr, List.length_take, List.length_reverse, hlen]; omega
    have hj : (l.length - 1 - i + k) % l.length < l.length := Nat.mod_lt _ (by omega)
    have e2 : (2 * l.length - 1 - i + k) % l.length = (l.length - 1 - i + k) % l.length := by
      rw [show 2 * l.length - 1 - i + k = (l.length - 1 - i + k) + l.length by omega, Nat.add_mod_right]
    have ex : (l.drop k ++ l.take k).reverse[i]'(by rw [List.length_reverse, hlen]; exact hA) = l[(l.length - 1 - i + k) % l.length] := by
      rw [List.getElem_reverse, turned_get l k hk2 _ (by rw [hlen]; omega)]
      simp only [hlen]
    have I := ih (i + 1) (r ++ [l[(l.length - 1 - i + k) % l.length]]) (by omega) (by
      rw [List.take_succ_eq_append_getElem (by rw [List.length_reverse, hlen]; exact hA), ← hr, ex])
    have w : Int.tmod (wrap64 ((wrap64 ((wrap64 ((wrap64 (2 * (l.length : Int))) - 1)) - (i : Int))) + (k : Int))) (l.length : Int) = (((l.length - 1 - i + k) % l.length : Nat) : Int) := by
      rw [w64_id (x := 2 * (l.length : Int)) (by omega) (by omega), w64_id (x := 2 * (l.length : Int) - 1) (by omega) (by omega), w64_id (x := 2 * (l.length : Int) - 1 - (i : Int)) (by omega) (by omega), w64_id (by omega) (by omega),
        show 2 * (l.length : Int) - 1 - (i : Int) + (k : Int) = ((2 * l.length - 1 - i + k : Nat) : Int) by omega, Int.tmod_eq_emod_of_nonneg (by omega), ← Int.natCast_emod, e2]
    have hrd : rd_T23 l (((l.length - 1 - i + k) % l.length : Nat) : Int) = l[(l.length - 1 - i + k) % l.length] := rdp l _ hj
    refine Ev.step (fun m => ?_) I
    simp only [lapidarylaw09_GeomIns.l0, w]
    rw [if_pos (by omega), if_neg (by omega), if_pos (by omega), if_pos (by omega), if_pos hrl, hrd, w64_succ i (by omega)]
theorem GeomIns : lapidarylaw09_GeomIns.Pure := by
  intro p0 p1 p2 l a _ _ _ _ wa
  have ha : 0 ≤ a ∧ a ≤ 255 := by simpa [Lit.wf, IntKind.min, IntKind.max, IntKind.signed, IntKind.bits] using wa
  refine Ev.rounds (g := fun k => lapidarylaw09_GeomIns.f k p0 p1 p2 l a) ?_
  unfold lapidarylaw09_GeomIns.f
  by_cases h : (l.length : Int) > 60
  · simp only [if_pos h]; exact known_ev'
  · simp only [if_neg h]
    refine Ev.bind (gIn_ev ⟨p0, p1, p2⟩ l (by omega)) ?_
    have J : ∀ k : Nat, k ≤ l.length → (l.length = 0 ∨ k < l.length) → Ev (fun m => lapidarylaw09_GeomIns.j0 m l (inV ⟨p0, p1, p2⟩ l) (k : Int) p0 p1 p2) true := fun k hk hk' =>
      Ev.step (fun m => by simp only [lapidarylaw09_GeomIns.j0]; rfl) (ins_l0 ⟨p0, p1, p2⟩ l (by omega) k hk hk' l.length 0 [] (by omega) (by simp))
    by_cases h0 : (l.length : Int) > 0
    · simp only [if_pos h0]
      have hz : ¬ (l.length : Int) = 0 := by omega
      simp only [if_neg hz]
      obtain ⟨n, rfl⟩ := Int.eq_ofNat_of_zero_le ha.1
      have e : Int.tmod (wrap64 (n : Int)) (l.length : Int) = ((n % l.length : Nat) : Int) := by
        rw [w64_id (by omega) (by omega), Int.tmod_eq_emod_of_nonneg (by omega), Int.natCast_emod]
      rw [e]
      have := Nat.mod_lt n (show 0 < l.length by omega)
      exact J _ (by omega) (.inr this)
    · simp only [if_neg h0]
      exact J 0 (by omega) (.inl (by omega))

end Go.Proofs.Ytlnjbpapbifjfaa.Pure
