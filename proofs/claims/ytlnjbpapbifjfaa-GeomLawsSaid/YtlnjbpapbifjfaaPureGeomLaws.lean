/- Who turns left by three points does from any of them on, and right the other way round; a ring told backwards has the opposite area; moved all along it has the same. No condition. -/
import Derived.Test.YtlnjbpapbifjfaaStGeomLaws
import Derived.Test.YtlnjbpapbifjfaaGK
import Derived.Test.YtlnjbpapbifjfaaGT
import Derived.Test.YtlnjbpapbifjfaaGE
namespace Go.Proofs.Ytlnjbpapbifjfaa.Pure
set_option linter.unusedVariables false
set_option linter.unusedSimpArgs false
open Go.RowKit Go.Proofs.Ytlnjbpapbifjfaa.P Go.Proofs.Ytlnjbpapbifjfaa.X Go.Proofs.Ytlnjbpapbifjfaa.WL Go.Proofs.Ytlnjbpapbifjfaa.G Go.Proofs.YtlnjbpapbifjfaaW.PrintWords Go.Proofs.YtlnjbpapbifjfaaW.PrintLast Go.Proofs.YtlnjbpapbifjfaaW.PrintMore

def turnV (a b c : Pt) : Int := if rt a && (rt b && rt c) then side a b c else 0
theorem cross_next (a b c : Pt) : cross b c a = cross a b c := by unfold cross; grind
theorem turn_next (a b c : Pt) : turnV b c a = turnV a b c := by
  unfold turnV side; rw [cross_next]
  cases rt a <;> cases rt b <;> cases rt c <;> simp
theorem cmp3_neg (x : Int) : cmp3 (-x) 0 = -cmp3 x 0 := by
  unfold cmp3; split <;> (try split) <;> (try split) <;> omega
theorem turn_swap (a b c : Pt) : turnV b a c = -turnV a b c := by
  unfold turnV side; rw [cross_swap, cmp3_neg]
  cases rt a <;> cases rt b <;> cases rt c <;> simp
theorem turn_range (a b c : Pt) : -1 ≤ turnV a b c ∧ turnV a b c ≤ 1 := by
  unfold turnV side cmp3; split <;> (try split) <;> (try split) <;> omega
theorem area3 (a b c : Pt) : areaS [a, b, c] = cross a b c := by
  unfold areaS edg cross
  simp only [rot1, List.cons_append, List.nil_append, List.zip_cons_cons, List.zip_nil_left, List.zip_nil_right, List.map_cons, List.map_nil, List.sum_cons, List.sum_nil, E]
  grind
theorem area3V (a b c : Pt) : areaV [a, b, c] = if rt a && (rt b && rt c) then cross a b c else 0 := by
  unfold areaV; rw [area3]; simp only [List.all_cons, List.all_nil, Bool.and_true]
theorem cross_small {a b c : Pt} (ha : rt a = true) (hb : rt b = true) (hc : rt c = true) : -170141183460469231731687303715884105728 ≤ cross a b c ∧ cross a b c < 170141183460469231731687303715884105728 := by
  have h := cross_two ha hb hc
  unfold cross
  generalize (b.f0 - a.f0) * (c.f1 - a.f1) = u at *
  generalize (b.f1 - a.f1) * (c.f0 - a.f0) = v at *
  clear ha hb hc
  omega
theorem area_sign (a b c : Pt) : cmp3 (off (areaV [a, b, c])) (off 0) = turnV a b c := by
  rw [area3V]; unfold turnV
  by_cases h : (rt a && (rt b && rt c)) = true
  · rw [if_pos h, if_pos h]
    have h' := h
    simp only [Bool.and_eq_true] at h'
    have hb : -170141183460469231731687303715884105728 ≤ cross a b c ∧ cross a b c < 170141183460469231731687303715884105728 := cross_small h'.1 h'.2.1 h'.2.2
    rw [sign_of hb.1 hb.2]; rfl
  · rw [if_neg h, if_neg h]; unfold cmp3; simp
theorem area_back (a b c : Pt) : areaV [c, b, a] = -areaV [a, b, c] := by
  have h := areaV_rev [a, b, c]
  simpa using h
theorem rt_mk {x y z : Int} : rt ⟨x, y, z⟩ = true ↔ z = 0 ∧ -2147483648 ≤ x ∧ x ≤ 2147483647 ∧ -2147483648 ≤ y ∧ y ≤ 2147483647 := rt_iff
theorem cross_moved (a b c : Pt) (x y : Int) : cross ⟨a.f0 + x, a.f1 + y, a.f2⟩ ⟨b.f0 + x, b.f1 + y, b.f2⟩ ⟨c.f0 + x, c.f1 + y, c.f2⟩ = cross a b c := by unfold cross; simp only; grind

theorem laws_j1 (s X : Int) (q : Bool) (a b c : Pt) (h : q = false → turnV a b c = s ∧ areaV [a, b, c] = X) :
    Ev (fun k => lapidarylaw09_GeomLaws.j1 k s q (hiw X) (low X) a.f0 a.f1 a.f2 b.f0 b.f1 b.f2 c.f0 c.f1 c.f2) true := by
  refine Ev.step (fun k => lapidarylaw09_GeomLaws.j1.eq_2 _ _ _ _ _ _ _ _ _ _ _ _ _ _) ?_
  cases q with
  | true => simp only [if_true]; exact known_ev'
  | false =>
    obtain ⟨h1, h2⟩ := h rfl
    subst h1; subst h2
    simp only [Bool.false_eq_true, if_false]
    refine Ev.bind (gTurn_ev a b c) ?_
    have e : (if rt a && (rt b && rt c) then side a b c else 0) = turnV a b c := rfl
    rw [e]
    simp only [if_true]
    refine Ev.bind (gArea_val [a, b, c] (by simp)) ?_
    simp only [beq_self_eq_true, Bool.and_self, if_true]
    exact known_ev'

theorem laws_j0 (x y s X : Int) (hx : -32768 ≤ x ∧ x ≤ 32767) (hy : -32768 ≤ y ∧ y ≤ 32767) (a b c : Pt) (h1 : turnV a b c = s) (h2 : areaV [a, b, c] = X) :
    Ev (fun k => lapidarylaw09_GeomLaws.j0 k x y s false a.f0 a.f1 a.f2 b.f0 b.f1 b.f2 c.f0 c.f1 c.f2 (hiw X) (low X)) true := by
  refine Ev.step (fun k => lapidarylaw09_GeomLaws.j0.eq_2 _ _ _ _ _ _ _ _ _ _ _ _ _ _ _ _) ?_
  simp only [Bool.false_eq_true, if_false]
  refine Ev.bind (gRight_ev [a, b, c] (by simp)) ?_
  have hxw : wrap64 x = x := w64_id (by omega) (by omega)
  have hyw : wrap64 y = y := w64_id (by omega) (by omega)
  rw [hxw, hyw]
  by_cases h : ([a, b, c] : List Pt).all rt = true
  · simp only [if_pos h]
    have h' := h
    simp only [List.all_cons, List.all_nil, Bool.and_true, Bool.and_eq_true] at h'
    obtain ⟨ha, hb, hc⟩ := h'
    have ka := rt_iff.1 ha
    have kb := rt_iff.1 hb
    have kc := rt_iff.1 hc
    have w1 : wrap64 (a.f0 + x) = a.f0 + x := w64_id (by omega) (by omega)
    have w2 : wrap64 (a.f1 + y) = a.f1 + y := w64_id (by omega) (by omega)
    have w3 : wrap64 (b.f0 + x) = b.f0 + x := w64_id (by omega) (by omega)
    have w4 : wrap64 (b.f1 + y) = b.f1 + y := w64_id (by omega) (by omega)
    have w5 : wrap64 (c.f0 + x) = c.f0 + x := w64_id (by omega) (by omega)
    have w6 : wrap64 (c.f1 + y) = c.f1 + y := w64_id (by omega) (by omega)
    rw [w1, w2, w3, w4, w5, w6]
    refine Ev.bind (gRight_ev [⟨a.f0 + x, a.f1 + y, a.f2⟩, ⟨b.f0 + x, b.f1 + y, b.f2⟩, ⟨c.f0 + x, c.f1 + y, c.f2⟩] (by simp)) ?_
    refine laws_j1 s X _ ⟨a.f0 + x, a.f1 + y, a.f2⟩ ⟨b.f0 + x, b.f1 + y, b.f2⟩ ⟨c.f0 + x, c.f1 + y, c.f2⟩ ?_
    intro hq
    have hm : (rt ⟨a.f0 + x, a.f1 + y, a.f2⟩ && (rt ⟨b.f0 + x, b.f1 + y, b.f2⟩ && rt ⟨c.f0 + x, c.f1 + y, c.f2⟩)) = true := by
      simpa using hq
    have hn : (rt a && (rt b && rt c)) = true := by simp [ha, hb, hc]
    rw [area3V, if_pos hn] at h2
    unfold turnV at h1; rw [if_pos hn] at h1
    rw [area3V, if_pos hm, cross_moved]
    unfold turnV; rw [if_pos hm]
    refine ⟨?_, h2⟩
    unfold side; rw [cross_moved]; exact h1
  · simp only [if_neg h]
    exact laws_j1 s X true ⟨wrap64 (a.f0 + x), wrap64 (a.f1 + y), a.f2⟩ ⟨wrap64 (b.f0 + x), wrap64 (b.f1 + y), b.f2⟩ ⟨wrap64 (c.f0 + x), wrap64 (c.f1 + y), c.f2⟩ (fun h => by simp at h)

theorem GeomLaws : lapidarylaw09_GeomLaws.Pure := by
  intro a0 a1 a2 b0 b1 b2 c0 c1 c2 x y _ _ _ _ _ _ _ _ _ wx wy
  have hx : -32768 ≤ x ∧ x ≤ 32767 := by simpa [Lit.wf, IntKind.min, IntKind.max, IntKind.signed, IntKind.bits] using wx
  have hy : -32768 ≤ y ∧ y ≤ 32767 := by simpa [Lit.wf, IntKind.min, IntKind.max, IntKind.signed, IntKind.bits] using wy
  refine Ev.rounds (g := fun k => lapidarylaw09_GeomLaws.f k a0 a1 a2 b0 b1 b2 c0 c1 c2 x y) ?_
  unfold lapidarylaw09_GeomLaws.f
  have T1 : Ev (fun k => geom_Turn.f k a0 a1 a2 b0 b1 b2 c0 c1 c2) (turnV ⟨a0, a1, a2⟩ ⟨b0, b1, b2⟩ ⟨c0, c1, c2⟩) := gTurn_ev ⟨a0, a1, a2⟩ ⟨b0, b1, b2⟩ ⟨c0, c1, c2⟩
  have T2 : Ev (fun k => geom_Turn.f k b0 b1 b2 c0 c1 c2 a0 a1 a2) (turnV ⟨b0, b1, b2⟩ ⟨c0, c1, c2⟩ ⟨a0, a1, a2⟩) := gTurn_ev ⟨b0, b1, b2⟩ ⟨c0, c1, c2⟩ ⟨a0, a1, a2⟩
  have T3 : Ev (fun k => geom_Turn.f k b0 b1 b2 a0 a1 a2 c0 c1 c2) (turnV ⟨b0, b1, b2⟩ ⟨a0, a1, a2⟩ ⟨c0, c1, c2⟩) := gTurn_ev ⟨b0, b1, b2⟩ ⟨a0, a1, a2⟩ ⟨c0, c1, c2⟩
  have A1 := gArea_val [⟨a0, a1, a2⟩, ⟨b0, b1, b2⟩, ⟨c0, c1, c2⟩] (by simp)
  have A2 := gArea_val [⟨c0, c1, c2⟩, ⟨b0, b1, b2⟩, ⟨a0, a1, a2⟩] (by simp)
  rw [turn_next] at T2
  rw [turn_swap] at T3
  rw [area_back] at A2
  have hr := turn_range ⟨a0, a1, a2⟩ ⟨b0, b1, b2⟩ ⟨c0, c1, c2⟩
  have hs := area_sign ⟨a0, a1, a2⟩ ⟨b0, b1, b2⟩ ⟨c0, c1, c2⟩
  have J := laws_j0 x y _ _ hx hy ⟨a0, a1, a2⟩ ⟨b0, b1, b2⟩ ⟨c0, c1, c2⟩ rfl rfl
  generalize turnV ⟨a0, a1, a2⟩ ⟨b0, b1, b2⟩ ⟨c0, c1, c2⟩ = s at *
  generalize areaV [⟨a0, a1, a2⟩, ⟨b0, b1, b2⟩, ⟨c0, c1, c2⟩] = X at *
  refine Ev.bind T1 ?_
  refine Ev.bind A1 ?_
  refine Ev.bind T2 ?_
  simp only [if_true]
  refine Ev.bind T3 ?_
  simp only [if_pos (show s = wrap64 (-(-s)) by rw [w64_id (by omega) (by omega)]; omega)]
  have hS : Ev (fun k => wide_Sign.f (hiw X) (low X)) s := by rw [wSign_eq, hs]; exact Ev.now s
  refine Ev.bind hS ?_
  simp only [if_true]
  refine Ev.bind A2 ?_
  refine Ev.bind (wNeg_ev X) ?_
  simp only [beq_self_eq_true, Bool.not_true, Bool.or_self, Bool.false_eq_true]
  exact J

end Go.Proofs.Ytlnjbpapbifjfaa.Pure
