/- Rings: twice the area, as the document's function answers. -/
import Derived.Test.YtlnjbpapbifjfaaPx37
import Derived.Test.YtlnjbpapbifjfaaGE
import Derived.Test.YtlnjbpapbifjfaaGAr
namespace Go.Proofs.Ytlnjbpapbifjfaa.G
set_option linter.unusedVariables false
set_option linter.unusedSimpArgs false
open Go.RowKit Go.Proofs.Ytlnjbpapbifjfaa.P Go.Proofs.Ytlnjbpapbifjfaa.X Go.Proofs.Ytlnjbpapbifjfaa.WL Go.Proofs.YtlnjbpapbifjfaaW.PrintWords Go.Proofs.YtlnjbpapbifjfaaW.PrintLast Go.Proofs.YtlnjbpapbifjfaaW.PrintMore
theorem rArea_l0 (l : List Pt) (hl : l.length < 4000000000000000000) (hr : l.all rt = true) : ∀ (n i : Nat) (x : Int), i + n = l.length →
    Ev (fun k => lapidaryref09_Area.l0 k l (i : Int) (dig x)) (dig (x + (((edg l).drop i).map E).sum)) := by
  intro n
  induction n with
  | zero =>
    intro i x hi
    rw [List.drop_of_length_le (by rw [edg_len]; omega)]
    simp only [List.map_nil, List.sum_nil, Int.add_zero]
    exact Ev.step (f := fun _ => some (dig x)) (fun k => by simp only [lapidaryref09_Area.l0]; rw [if_neg (by omega)]) (Ev.now _)
  | succ n ih =>
    intro i x hi
    have hA : i < l.length := by omega
    have hM : (i + 1) % l.length < l.length := Nat.mod_lt _ (by omega)
    have hE : i < (edg l).length := by rw [edg_len]; exact hA
    have q1 : (i : Int) < (l.length : Int) := by omega
    obtain ⟨_, p1, p2, p3, p4⟩ := rt_iff.1 (all_get hr i hA)
    obtain ⟨_, r1, r2, r3, r4⟩ := rt_iff.1 (all_get hr _ hM)
    have J : Ev (fun k => lapidaryref09_Area.j1 k l (i : Int) (((i + 1) % l.length : Nat) : Int) (dig x)) (dig (x + (((edg l).drop i).map E).sum)) := by
      refine Ev.step (f := fun k => (lapidaryref09_product.f k l[i].f0 l[(i + 1) % l.length].f1).bind fun t408 => ((lapidaryref08_Add.f k (dig x) t408).bind fun t411 => ((lapidaryref09_product.f k l[i].f1 l[(i + 1) % l.length].f0).bind fun t416 => ((lapidaryref08_Neg.f k t416).bind fun t419 => ((lapidaryref08_Add.f k t411 t419).bind fun t422 => (lapidaryref09_Area.l0 k l ((i + 1 : Nat) : Int) t422)))))) (fun k => ?_) ?_
      · simp only [lapidaryref09_Area.j1]
        rw [if_pos (by omega), if_pos q1, if_pos (by omega), if_pos (by omega), rdp l i hA, rdp l _ hM, w64_succ i (by omega)]
      · refine Ev.bind (rprod_ev (by omega) (by omega) (by omega) (by omega)) ?_
        refine Ev.bind (Add_ev _ _) ?_
        refine Ev.bind (rprod_ev (by omega) (by omega) (by omega) (by omega)) ?_
        refine Ev.bind (Neg_ev _) ?_
        refine Ev.bind (Add_ev _ _) ?_
        have := ih (i + 1) (x + E (edg l)[i]) (by omega)
        rw [List.drop_eq_getElem_cons hE, List.map_cons, List.sum_cons, ← Int.add_assoc]
        rw [show x + l[i].f0 * l[(i + 1) % l.length].f1 + -(l[i].f1 * l[(i + 1) % l.length].f0) = x + E (edg l)[i] by rw [edg_get l i hA]; simp only [E]; omega]
        exact this
    by_cases hlast : i + 1 = l.length
    · refine Ev.step (fun k => ?_) J
      simp only [lapidaryref09_Area.l0]
      rw [if_pos q1, w64_succ i (by omega), if_pos (by omega)]
      rw [show (i + 1) % l.length = 0 by rw [hlast, Nat.mod_self]]; rfl
    · refine Ev.step (fun k => ?_) J
      simp only [lapidaryref09_Area.l0]
      rw [if_pos q1, w64_succ i (by omega), if_neg (by omega)]
      rw [show (i + 1) % l.length = i + 1 from Nat.mod_eq_of_lt (by omega)]
theorem rArea_ev (l : List Pt) (hl : l.length < 4000000000000000000) : Ev (fun k => lapidaryref09_Area.f k l) (if l.all rt then dig (areaS l) else dig 0) := by
  unfold lapidaryref09_Area.f
  refine Ev.bind (Of_ev (x := 0) (by decide) (by decide)) ?_
  refine Ev.bind (rRight_ev l (by omega)) ?_
  by_cases h : l.all rt = true
  · simp only [if_pos h]
    have := rArea_l0 l hl h l.length 0 0 (by omega)
    rw [List.drop_zero, Int.zero_add] at this
    exact this
  · simp only [if_neg h]; exact Ev.now _
theorem rArea_val (l : List Pt) (hl : l.length < 4000000000000000000) : Ev (fun k => lapidaryref09_Area.f k l) (dig (areaV l)) := by
  have := rArea_ev l hl
  unfold areaV
  split at this
  · rename_i h; rw [if_pos h]; exact this
  · rename_i h; rw [if_neg h]; exact this
theorem isnum_ev (x : Int) : Ev (fun k => lapidaryref08_Is.f k (dig x) (hiw x) (low x)) true := Is_ev (hiw_range x).1 (hiw_range x).2 (low_range x).1 (low_range x).2 (val_mod x)
end Go.Proofs.Ytlnjbpapbifjfaa.G
