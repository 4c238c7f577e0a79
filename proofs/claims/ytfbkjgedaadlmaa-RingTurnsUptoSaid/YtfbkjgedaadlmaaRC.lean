/- How long a map is; what its size bounds; how long the points are; rings. No condition. -/
import Derived.Test.YtfbkjgedaadlmaaPx7
import Derived.Test.YtfbkjgedaadlmaaRS
import Derived.Test.YtfbkjgedaadlmaaPxK
namespace Go.Proofs.Ytfbkjgedaadlmaa.G
set_option linter.unusedVariables false
set_option linter.unusedSimpArgs false
open Go.RowKit Go.Proofs.Ytfbkjgedaadlmaa.P Go.Proofs.YtfbkjgedaadlmaaW.PrintWords Go.Proofs.YtfbkjgedaadlmaaW.PrintLast Go.Proofs.YtfbkjgedaadlmaaW.PrintMore

theorem long_l2 (m : List (List Pt)) (r p : List (List Int)) (hp : p.length ≤ 9223372036854775807) : ∀ (n i : Nat) (x : Int), i + n = p.length → ∃ b, Ev (fun k => lapidarylaw16_long.l2 k x (i : Int) m r p) b := by
  intro n
  induction n with
  | zero =>
    intro i x hi
    refine ⟨decide (x > 200), Ev.step (fun k => lapidarylaw16_long.l2.eq_2 _ _ _ _ _ _) ?_⟩
    simp only [if_neg (show ¬ ((i : Int) < (p.length : Int)) by omega)]
    exact Ev.now _
  | succ n ih =>
    intro i x hi
    obtain ⟨b, I⟩ := ih (i + 1) (wrap64 (wrap64 (x + 1) + ((rd_L3 p i).length : Int))) (by omega)
    refine ⟨b, Ev.step (fun k => lapidarylaw16_long.l2.eq_2 _ _ _ _ _ _) ?_⟩
    simp only [if_pos (show (i : Int) < (p.length : Int) by omega), if_pos (show (0 : Int) ≤ (i : Int) by omega), w64_id (x := (i : Int) + 1) (by omega) (by omega)]
    exact I
theorem long_l1 (m : List (List Pt)) (r p : List (List Int)) (hr : r.length ≤ 9223372036854775807) (hp : p.length ≤ 9223372036854775807) : ∀ (n i : Nat) (x : Int), i + n = r.length → ∃ b, Ev (fun k => lapidarylaw16_long.l1 k x (i : Int) m r p) b := by
  intro n
  induction n with
  | zero =>
    intro i x hi
    obtain ⟨b, I⟩ := long_l2 m r p hp p.length 0 x (by omega)
    refine ⟨b, Ev.step (fun k => lapidarylaw16_long.l1.eq_2 _ _ _ _ _ _) ?_⟩
    simp only [if_neg (show ¬ ((i : Int) < (r.length : Int)) by omega)]
    exact I
  | succ n ih =>
    intro i x hi
    obtain ⟨b, I⟩ := ih (i + 1) (wrap64 (wrap64 (x + 1) + ((rd_L3 r i).length : Int))) (by omega)
    refine ⟨b, Ev.step (fun k => lapidarylaw16_long.l1.eq_2 _ _ _ _ _ _) ?_⟩
    simp only [if_pos (show (i : Int) < (r.length : Int) by omega), if_pos (show (0 : Int) ≤ (i : Int) by omega), w64_id (x := (i : Int) + 1) (by omega) (by omega)]
    exact I
theorem long_l0 (m : List (List Pt)) (r p : List (List Int)) (hm : m.length ≤ 9223372036854775807) (hr : r.length ≤ 9223372036854775807) (hp : p.length ≤ 9223372036854775807) : ∀ (n i : Nat) (x : Int), i + n = m.length → ∃ b, Ev (fun k => lapidarylaw16_long.l0 k x (i : Int) m r p) b := by
  intro n
  induction n with
  | zero =>
    intro i x hi
    obtain ⟨b, I⟩ := long_l1 m r p hr hp r.length 0 x (by omega)
    refine ⟨b, Ev.step (fun k => lapidarylaw16_long.l0.eq_2 _ _ _ _ _ _) ?_⟩
    simp only [if_neg (show ¬ ((i : Int) < (m.length : Int)) by omega)]
    exact I
  | succ n ih =>
    intro i x hi
    obtain ⟨b, I⟩ := ih (i + 1) (wrap64 (wrap64 (x + 1) + ((rd_L2 m i).length : Int))) (by omega)
    refine ⟨b, Ev.step (fun k => lapidarylaw16_long.l0.eq_2 _ _ _ _ _ _) ?_⟩
    simp only [if_pos (show (i : Int) < (m.length : Int) by omega), if_pos (show (0 : Int) ≤ (i : Int) by omega), w64_id (x := (i : Int) + 1) (by omega) (by omega)]
    exact I
theorem sum_le {α : Type} (f : α → Nat) : ∀ (l : List α) (x : α), x ∈ l → f x ≤ (l.map f).sum := by
  intro l
  induction l with
  | nil => intro x h; simp at h
  | cons y l ih =>
    intro x h
    rw [List.map_cons, List.sum_cons]
    rcases List.mem_cons.1 h with rfl | h
    · omega
    · have := ih x h; omega
theorem len_le {α : Type} (f : α → Nat) (hf : ∀ x, 1 ≤ f x) : ∀ l : List α, l.length ≤ (l.map f).sum := by
  intro l
  induction l with
  | nil => simp
  | cons y l ih => rw [List.map_cons, List.sum_cons, List.length_cons]; have := hf y; omega
theorem bulkA (m : List (List Pt)) (h : (List.map (fun l : List S42 => 1 + (l.map mu42).sum) m).sum ≤ 1048576) : ∀ x ∈ m, x.length ≤ 1048576 := by
  intro x hx
  have h1 : 1 + (x.map mu42).sum ≤ (List.map (fun l : List S42 => 1 + (l.map mu42).sum) m).sum := sum_le (fun l : List S42 => 1 + (l.map mu42).sum) m x hx
  have h2 := len_le mu42 (fun y => by unfold mu42; omega) x
  omega
theorem bulkR (r : List (List Int)) (h : (r.map (fun l => 1 + (l.map (fun _ => 1)).sum)).sum ≤ 1048576) : ∀ x ∈ r, x.length ≤ 1048576 := by
  intro x hx
  have h1 : 1 + (x.map (fun _ => 1)).sum ≤ (r.map (fun l : List Int => 1 + (l.map (fun _ => 1)).sum)).sum := sum_le (fun l : List Int => 1 + (l.map (fun _ => 1)).sum) r x hx
  have h2 := len_le (fun _ : Int => 1) (fun _ => by omega) x
  omega
theorem mul_small {a b : Nat} (h : a ≤ 1048576) (h' : b ≤ 1048576) : a * b < 5864062014805 := Nat.lt_of_le_of_lt (Nat.mul_le_mul h h') (by decide)
theorem ptsV_len (m : List (List Pt)) (B : Nat) (hm : ∀ x ∈ m, x.length ≤ B) (refs : List Int) (hs : refs.length * B < 5864062014805) : (ptsV m [] refs).1.length < 5864062014805 := by
  unfold ptsV
  cases hL : arcsOf m refs with
  | none => show 0 < 5864062014805; decide
  | some L =>
    obtain ⟨hn, hg⟩ := arcsOf_get m refs L hL
    have h1 := sum_bound B L (by
      intro a ha
      obtain ⟨j, hj, rfl⟩ := List.mem_iff_getElem.1 ha
      obtain ⟨x, hx, e⟩ := arcB_mem (hg j (by omega) hj).1
      have := hm x hx; omega)
    have h2 := flat_len L
    rw [hn] at h1
    unfold ringV
    simp only [List.nil_append]
    split
    · split
      · show (flatL L).length < _; omega
      · show 0 < 5864062014805; decide
    · show 0 < 5864062014805; decide
theorem wf64 {n : Int} (h : (Lit.int .i64 n).wf = true) : -9223372036854775808 ≤ n ∧ n ≤ 9223372036854775807 := by simpa [Lit.wf, IntKind.min, IntKind.max, IntKind.signed, IntKind.bits] using h
theorem rdl3 (m : List (List Int)) (i : Nat) (h : i < m.length) : rd_L3 m (i : Int) = m[i] := by
  unfold rd_L3
  simp [h]
theorem ring_ev (m : List (List Pt)) (r p : List (List Int)) (B : Nat) (hb : B < 5864062014805) (hm : ∀ x ∈ m, x.length ≤ B) (i : Nat) (hi : i < r.length) (hr : r[i].length ≤ 1000000000000) (hw : ∀ x ∈ r[i], -9223372036854775808 ≤ x ∧ x ≤ 9223372036854775807) (hs : r[i].length * B < 5864062014805) :
    Ev (fun k => ring_Ring.f k m r p (i : Int)) (ptsV m [] r[i]) := by
  unfold ring_Ring.f
  simp only [if_neg (show ¬ ((i : Int) < 0) by omega), if_neg (show ¬ ((i : Int) ≥ (r.length : Int)) by omega), if_pos (show 0 ≤ (i : Int) by omega), if_pos (show (i : Int) < (r.length : Int) by omega), rdl3 r i hi]
  exact Ev.bind (points_ev m r p B hb hm r[i] hr hw hs) (Ev.now _)
end Go.Proofs.Ytfbkjgedaadlmaa.G
