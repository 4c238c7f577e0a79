/- Rings: their sides, turned and told backwards; twice the area, as the program's function answers. -/
import Derived.Test.YtlnjbpapbifjfaaPx27
import Derived.Test.YtlnjbpapbifjfaaGA
namespace Go.Proofs.Ytlnjbpapbifjfaa.G
set_option linter.unusedVariables false
set_option linter.unusedSimpArgs false
open Go.RowKit Go.Proofs.Ytlnjbpapbifjfaa.P Go.Proofs.Ytlnjbpapbifjfaa.X Go.Proofs.Ytlnjbpapbifjfaa.WL Go.Proofs.YtlnjbpapbifjfaaW.PrintWords Go.Proofs.YtlnjbpapbifjfaaW.PrintLast Go.Proofs.YtlnjbpapbifjfaaW.PrintMore
def rot1 {α : Type} : List α → List α
  | [] => []
  | a :: t => t ++ [a]
def edg {α : Type} (l : List α) : List (α × α) := List.zip l (rot1 l)
section
variable {α : Type}
theorem rot1_len (l : List α) : (rot1 l).length = l.length := by cases l <;> simp [rot1]
theorem edg_len (l : List α) : (edg l).length = l.length := by simp [edg, rot1_len]
theorem rot1_perm (l : List α) : (rot1 l).Perm l := by
  cases l with
  | nil => exact List.Perm.refl _
  | cons a t => exact List.perm_append_comm (l₁ := t) (l₂ := [a])
theorem edg_rot1 (l : List α) : edg (rot1 l) = rot1 (edg l) := by
  unfold edg
  cases l with
  | nil => rfl
  | cons a t =>
    have hl : (rot1 (a :: t)).length = (a :: t).length := rot1_len _
    have hm : rot1 (a :: t) = t ++ [a] := rfl
    generalize rot1 (a :: t) = m at *
    cases m with
    | nil => simp at hl
    | cons b u =>
      simp only [List.zip_cons_cons, rot1]
      rw [hm, List.zip_append (by simpa using hl.symm)]
      rfl
theorem turned_step (l : List α) (k : Nat) (hk : k < l.length) : l.drop (k + 1) ++ l.take (k + 1) = rot1 (l.drop k ++ l.take k) := by
  rw [List.drop_eq_getElem_cons hk, List.cons_append]
  simp only [rot1]
  rw [List.append_assoc, ← List.take_succ_eq_append_getElem hk]
theorem edg_turned (l : List α) : ∀ k, k ≤ l.length → (edg (l.drop k ++ l.take k)).Perm (edg l)
  | 0, _ => by simp
  | k + 1, h => by
    rw [turned_step l k (by omega), edg_rot1]
    exact (rot1_perm _).trans (edg_turned l k (by omega))
theorem zip_rev : ∀ (u v : List α), u.length = v.length → (List.zip u v).reverse = List.zip u.reverse v.reverse
  | [], [], _ => rfl
  | a :: u, b :: v, h => by
    have h' : u.length = v.length := by simpa using h
    rw [List.zip_cons_cons, List.reverse_cons, List.reverse_cons, List.reverse_cons, zip_rev u v h', List.zip_append (by simpa using h')]
    rfl
  | [], _ :: _, h => by simp at h
  | _ :: _, [], h => by simp at h
theorem zip_swap : ∀ (u v : List α), List.zip u v = (List.zip v u).map fun e => (e.2, e.1)
  | [], [] => rfl
  | a :: u, b :: v => by simp [zip_swap u v]
  | [], _ :: _ => by simp
  | _ :: _, [] => by simp
theorem edg_rev (l : List α) : (edg l.reverse).Perm ((edg l).map fun e => (e.2, e.1)) := by
  obtain ⟨r, rfl⟩ : ∃ r, l = r.reverse := ⟨l.reverse, by simp⟩
  rw [List.reverse_reverse]
  cases r with
  | nil => exact List.Perm.refl _
  | cons a t =>
    have e1 : (edg (a :: t)).reverse = (edg (a :: t.reverse)).map fun e => (e.2, e.1) := by
      unfold edg
      rw [zip_rev _ _ (rot1_len _).symm, zip_swap]
      congr 1
      simp [rot1]
    have e2 : edg (a :: t).reverse = rot1 (edg (a :: t.reverse)) := by
      rw [← edg_rot1]; congr 1; simp [rot1]
    rw [e2]
    refine (List.reverse_perm _).symm.trans ?_
    rw [e1]
    exact (rot1_perm _).symm.map _
theorem edg_get (l : List α) (i : Nat) (h : i < l.length) : (edg l)[i]'(by rw [edg_len]; exact h) = (l[i], l[(i + 1) % l.length]'(Nat.mod_lt _ (by omega))) := by
  unfold edg
  rw [List.getElem_zip]
  congr 1
  cases l with
  | nil => simp at h
  | cons a t =>
    simp only [rot1]
    by_cases hi : i < t.length
    · rw [List.getElem_append_left hi]
      have e : (i + 1) % (a :: t).length = i + 1 := Nat.mod_eq_of_lt (by simp; omega)
      simp only [e]
      rfl
    · have hi' : i = t.length := by simp at h; omega
      subst hi'
      rw [List.getElem_append_right (Nat.le_refl _)]
      have e : (t.length + 1) % (a :: t).length = 0 := by simp
      simp only [e, Nat.sub_self]
      rfl
theorem perm_sum {β : Type} {u v : List β} (f : β → Int) (h : u.Perm v) : (u.map f).sum = (v.map f).sum := by
  induction h with
  | nil => rfl
  | cons x _ ih => simp [ih]
  | swap x y l => simp only [List.map_cons, List.sum_cons]; omega
  | trans _ _ h1 h2 => exact h1.trans h2
end

def E (e : Pt × Pt) : Int := e.1.f0 * e.2.f1 - e.1.f1 * e.2.f0
def areaS (l : List Pt) : Int := ((edg l).map E).sum
theorem areaS_turned (l : List Pt) (k : Nat) (h : k ≤ l.length) : areaS (l.drop k ++ l.take k) = areaS l := perm_sum E (edg_turned l k h)
theorem areaS_rev (l : List Pt) : areaS l.reverse = -areaS l := by
  unfold areaS
  rw [perm_sum E (edg_rev l), List.map_map]
  generalize edg l = m
  induction m with
  | nil => rfl
  | cons e m ih =>
    simp only [List.map_cons, List.sum_cons, ih, Function.comp]
    have : E (e.2, e.1) = -E e := by unfold E; grind
    rw [this]; omega
theorem all_get {l : List Pt} (h : l.all rt = true) (i : Nat) (hi : i < l.length) : rt l[i] = true := List.all_eq_true.1 h _ (List.getElem_mem hi)
theorem gArea_l0 (l : List Pt) (hl : l.length < 4000000000000000000) (hr : l.all rt = true) : ∀ (n i : Nat) (x : Int), i + n = l.length →
    Ev (fun k => geom_Area.l0 k l l (l.length : Int) (i : Int) (hiw x) (low x)) (hiw (x + (((edg l).drop i).map E).sum), low (x + (((edg l).drop i).map E).sum)) := by
  intro n
  induction n with
  | zero =>
    intro i x hi
    rw [List.drop_of_length_le (by rw [edg_len]; omega)]
    simp only [List.map_nil, List.sum_nil, Int.add_zero]
    exact Ev.step (f := fun _ => some (hiw x, low x)) (fun k => by simp only [geom_Area.l0]; rw [if_neg (by omega)]) (Ev.now _)
  | succ n ih =>
    intro i x hi
    have hA : i < l.length := by omega
    have hM : (i + 1) % l.length < l.length := Nat.mod_lt _ (by omega)
    have hE : i < (edg l).length := by rw [edg_len]; exact hA
    have q1 : (i : Int) < (l.length : Int) := by omega
    have wm : Int.tmod (wrap64 ((i : Int) + 1)) (l.length : Int) = (((i + 1) % l.length : Nat) : Int) := by
      rw [w64_succ i (by omega), Int.tmod_eq_emod_of_nonneg (by omega), Int.natCast_emod]
    obtain ⟨_, p1, p2, p3, p4⟩ := rt_iff.1 (all_get hr i hA)
    obtain ⟨_, r1, r2, r3, r4⟩ := rt_iff.1 (all_get hr _ hM)
    have D := wDot_ev (l := [l[i].f0, l[(i + 1) % l.length].f1, -l[i].f1, l[(i + 1) % l.length].f0]) (by simp) (by
      intro x hx
      simp only [List.mem_cons, List.not_mem_nil, or_false] at hx
      rcases hx with rfl | rfl | rfl | rfl <;> omega) (by simp)
    have eD : dotS [l[i].f0, l[(i + 1) % l.length].f1, -l[i].f1, l[(i + 1) % l.length].f0] = E (edg l)[i] := by
      rw [edg_get l i hA]; simp only [dotS, E]; rw [Int.neg_mul]; omega
    rw [eD] at D
    have wn : wrap64 (-l[i].f1) = -l[i].f1 := w64_id (by omega) (by omega)
    refine Ev.step (f := fun k => (wide_Dot.f k (([l[i].f0, l[(i + 1) % l.length].f1, -l[i].f1, l[(i + 1) % l.length].f0] : List Int))).bind fun bt290 => ((wide_Add.f k (hiw x) (low x) (([(⟨bt290.1, bt290.2.1⟩ : S31)] : List (S31)))).bind fun bt297 => (geom_Area.l0 k l l (l.length : Int) ((i + 1 : Nat) : Int) bt297.1 bt297.2))) (fun k => ?_) ?_
    · simp only [geom_Area.l0]
      rw [wm, if_pos q1, if_pos (by omega), if_pos q1, if_neg (by omega), if_pos (by omega), if_pos (by omega), rdp l i hA, rdp l _ hM, wn, w64_succ i (by omega)]
    · refine Ev.bind D ?_
      refine Ev.bind (wAdd_ev x _) ?_
      have := ih (i + 1) (x + E (edg l)[i]) (by omega)
      rw [List.drop_eq_getElem_cons hE, List.map_cons, List.sum_cons, ← Int.add_assoc]
      exact this
theorem gArea_ev (l : List Pt) (hl : l.length < 4000000000000000000) : Ev (fun k => geom_Area.f k l) (if l.all rt then (hiw (areaS l), low (areaS l)) else (0, 0)) := by
  unfold geom_Area.f
  refine Ev.bind (gRight_ev l (by omega)) ?_
  by_cases h : l.all rt = true
  · simp only [if_pos h]
    have := gArea_l0 l hl h l.length 0 0 (by omega)
    rw [List.drop_zero, Int.zero_add] at this
    exact this
  · simp only [if_neg h]; exact Ev.now _
/-- The area's number: 0 of what are no points of the plane. -/
def areaV (l : List Pt) : Int := if l.all rt then areaS l else 0
theorem gArea_val (l : List Pt) (hl : l.length < 4000000000000000000) : Ev (fun k => geom_Area.f k l) (hiw (areaV l), low (areaV l)) := by
  have := gArea_ev l hl
  unfold areaV
  split at this
  · rename_i h; rw [if_pos h]; exact this
  · rename_i h; rw [if_neg h]; exact this
theorem areaV_turned (l : List Pt) (k : Nat) (h : k ≤ l.length) : areaV (l.drop k ++ l.take k) = areaV l := by
  unfold areaV
  rw [areaS_turned l k h, List.all_append, Bool.and_comm, ← List.all_append, List.take_append_drop]
theorem areaV_rev (l : List Pt) : areaV l.reverse = -areaV l := by
  unfold areaV
  rw [areaS_rev, List.all_reverse]
  split <;> rfl

end Go.Proofs.Ytlnjbpapbifjfaa.G
