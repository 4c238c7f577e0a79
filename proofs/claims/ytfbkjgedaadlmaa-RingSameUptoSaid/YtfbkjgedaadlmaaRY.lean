/- A map's copy in memory: whose rows may be stored into. No condition. -/
import Derived.Test.YtfbkjgedaadlmaaRX
namespace Go.Proofs.Ytfbkjgedaadlmaa.Rw
set_option linter.unusedVariables false
set_option linter.unusedSimpArgs false
open Go Go.RowKit Go.Proofs.Ytfbkjgedaadlmaa.P Go.Proofs.YtfbkjgedaadlmaaW.PrintWords Go.Proofs.YtfbkjgedaadlmaaW.PrintLast Go.Proofs.YtfbkjgedaadlmaaW.PrintMore

/-- What stands in memory, but for the cells of type T: these may be others. -/
def Shp (T : Nat) (W0 W : World) : Prop := ∀ (g : Nat) (cur : Array Value) (t : TypeId), W0.heap[g]? = some (.cells cur t (0, 0)) → ∃ cur' : Array Value, W.heap[g]? = some (.cells cur' t (0, 0)) ∧ cur'.size = cur.size ∧ (t ≠ T → cur' = cur)
theorem Shp.refl (T : Nat) (W : World) : Shp T W W := fun g cur t h => ⟨cur, h, rfl, fun _ => rfl⟩
theorem Shp.set {T : Nat} {W0 W : World} (h : Shp T W0 W) {b i : Nat} {cb : Array Value} (hb : W.heap[b]? = some (.cells cb T (0, 0))) (u : Value) : Shp T W0 (W.setCell ⟨b, i, none⟩ u) := by
  intro g cur t hg
  obtain ⟨cur', h1, h2, h3⟩ := h g cur t hg
  by_cases e : g = b
  · subst e
    rw [hb] at h1
    injection h1 with h1
    injection h1 with e1 e2
    subst e1
    subst e2
    exact ⟨_, blk_set hb i u, by simpa using h2, fun hne => absurd rfl hne⟩
  · exact ⟨cur', (Below.heap_setCell W ⟨b, i, none⟩ u g e).trans h1, h2, h3⟩
theorem set_block {W : World} {b i : Nat} {cb : Array Value} {T : Nat} (hb : W.heap[b]? = some (.cells cb T (0, 0))) (u : Value) : ∃ cb' : Array Value, (W.setCell ⟨b, i, none⟩ u).heap[b]? = some (.cells cb' T (0, 0)) ∧ cb'.size = cb.size := ⟨_, blk_set hb i u, by simp⟩

/-- A row of rows of a call's own: where each row lies. -/
theorem inner_at {α : Type} (d : Kd α) (T E : Nat) (w : World) (base : Nat) (ok : Nat → Prop) (v : Value) (l : List (List α)) (h : Kd.R (Kd.slice T d) E w base ok v l) :
    ∃ Ao co, v = .slice Ao l.length co ∧ ∀ (i : Nat) (hi : i < l.length), ∃ (go : Nat) (cur : Array Value), Ao = some ⟨go, 0, none⟩ ∧ base ≤ go ∧ w.heap[go]? = some (.cells cur E (0, 0)) ∧ ∃ Ai ci, cur[i]? = some (.slice Ai l[i].length ci) ∧
      (0 < l[i].length → ∃ (gi : Nat) (ci' : Array Value), Ai = some ⟨gi, 0, none⟩ ∧ base ≤ gi ∧ w.heap[gi]? = some (.cells ci' T (0, 0)) ∧ l[i].length * d.sz ≤ ci'.size) := by
  obtain ⟨hok, inner, hown, hlen, hrep⟩ := h
  have hs1 : (Kd.slice T d).sz = 1 := rfl
  rw [hs1] at hown hrep hlen
  rcases hown.2 with ⟨rfl, hn⟩ | ⟨go, cap, cur, rfl, hb, hg, hnc, hcm, hcs, htake⟩
  · refine ⟨none, 0, by rw [hn], fun i hi => ?_⟩
    omega
  · refine ⟨some ⟨go, 0, none⟩, cap, rfl, fun i hi => ?_⟩
    obtain ⟨vi, hv, hR⟩ := hrep i _ (List.getElem?_eq_getElem hi)
    rw [Nat.mul_one] at hv
    have hvi : inner[i]? = some vi := by
      have := congrArg (fun l => l[0]?) hv
      simpa using this
    have hcur : cur[i]? = some vi := by
      rw [← htake, List.getElem?_take] at hvi
      split at hvi
      · simpa using hvi
      · cases hvi
    obtain ⟨hok2, inner2, hown2, hlen2, hrep2⟩ := hR
    rcases hown2.2 with ⟨rfl, hn2⟩ | ⟨gi, capi, curi, rfl, hbi, hgi, hnci, hcmi, hcsi, htakei⟩
    · exact ⟨go, cur, rfl, hb, hg, none, 0, by rw [hcur, hn2], fun h0 => by omega⟩
    · refine ⟨go, cur, rfl, hb, hg, some ⟨gi, 0, none⟩, capi, hcur, fun _ => ⟨gi, curi, rfl, hbi, hgi, ?_⟩⟩
      rw [hcsi]
      exact Nat.mul_le_mul_right _ hnci
theorem inner_at' {α : Type} (d : Kd α) (T E : Nat) (w : World) (base : Nat) (ok : Nat → Prop) (A : Option Addr) (c : Nat) (l : List (List α)) (h : Kd.R (Kd.slice T d) E w base ok (.slice A l.length c) l) :
    ∀ (i : Nat) (hi : i < l.length), ∃ (go : Nat) (cur : Array Value), A = some ⟨go, 0, none⟩ ∧ base ≤ go ∧ w.heap[go]? = some (.cells cur E (0, 0)) ∧ ∃ Ai ci, cur[i]? = some (.slice Ai l[i].length ci) ∧
      (0 < l[i].length → ∃ (gi : Nat) (ci' : Array Value), Ai = some ⟨gi, 0, none⟩ ∧ base ≤ gi ∧ w.heap[gi]? = some (.cells ci' T (0, 0)) ∧ l[i].length * d.sz ≤ ci'.size) := by
  obtain ⟨Ao, co, hv, h⟩ := inner_at d T E w base ok _ l h
  injection hv with h1 _ h3
  subst h1
  exact h
end Go.Proofs.Ytfbkjgedaadlmaa.Rw
