/- Arguments that are structs, slices of structs, slices of slices: what their reading as data says of them, kind by kind, whatever the type. -/
import Derived.Test.YtfbkjgedaadlmaaRows
import Derived.Test.YtfbkjgedaadlmaaV0
import Derived.Deep.Slices
import Derived.Deep.Fields
import Derived.ChangeSame
import Derived.ProofKit
namespace Go.Proofs.Ytfbkjgedaadlmaa.O
set_option linter.unusedVariables false
set_option linter.unusedSimpArgs false
open Go.RowKit Go.Deep Go.ChangeShapes Go.WideShapes Go.Proofs.YtfbkjgedaadlmaaW.PrintWords

/-- Whatever is read at type t is of the kind d, and fine; 'mu': how much it holds. -/
def Opens {α : Type} (P : Program) (t : TypeId) (d : Kd α) (ok : α → Prop) (mu : α → Nat) : Prop :=
  ∀ (H : Type) (enc : TypeId × Value → H) (w : World) (fuel : Nat) (cs : List Value) (x : DataW H × List MemPlace),
    DataW.trod enc P w 0 (fun _ => true) true fuel t cs = some x → ∃ y : α, d.K w y cs ∧ ok y ∧ mu y ≤ Rows.uptoBulk x.1

theorem bulk_one {H : Type} (d : DataW H) : 1 ≤ Rows.uptoBulk d := by
  cases d with
  | lit l => cases l <;> simp [Rows.uptoBulk]
  | _ => simp [Rows.uptoBulk]
theorem opens_int {P : Program} {t : TypeId} {k : IntKind} (ht : P.underlying t = some (.int k)) : Opens P t (Kd.int k) (fun n => (Lit.int k n).wf = true) (fun _ => 1) := by
  intro H enc w fuel cs x h
  obtain ⟨n, rfl, rfl, hw⟩ := DataW.trod_int ht h
  exact ⟨n, rfl, hw, bulk_one _⟩
theorem bulk_range {H : Type} (D : Nat → DataW H) (m : Nat → Nat) : ∀ n, (∀ i, i < n → m i ≤ Rows.uptoBulk (D i)) → ((List.range n).map m).sum ≤ Rows.uptoBulkAll ((List.range n).map D) := by
  have app : ∀ l r : List (DataW H), Rows.uptoBulkAll (l ++ r) = Rows.uptoBulkAll l + Rows.uptoBulkAll r := by
    intro l r
    induction l with
    | nil => simp [Rows.uptoBulkAll]
    | cons x l ih => simp only [List.cons_append, Rows.uptoBulkAll, ih]; omega
  intro n
  induction n with
  | zero => intro _; simp
  | succ n ih =>
    intro h
    have h1 := ih fun i hi => h i (by omega)
    have h2 := h n (by omega)
    rw [List.range_succ, List.map_append, List.map_append, app, List.sum_append]
    simp only [List.map_cons, List.map_nil, List.sum_cons, List.sum_nil, Rows.uptoBulkAll]
    omega
theorem opens_slice {α : Type} [Inhabited α] {P : Program} {t e : TypeId} {d : Kd α} {ok : α → Prop} {mu : α → Nat} (ht : P.underlying t = some (.slice e)) (hs : d.sz = P.cellsOf e) (h : Opens P e d ok mu) :
    Opens P t (Kd.slice e d) (fun l => l.length ≤ maxLen ∧ ∀ x ∈ l, ok x) (fun l => 1 + (l.map mu).sum) := by
  intro H enc w fuel cs x hx
  rcases open_slice ht hx with ⟨rfl, rfl⟩ | ⟨a, len, cap, m, n, D, Pl, rfl, hb, hl, hm, hmm, rfl, hi⟩
  · exact ⟨[], ⟨none, 0, rfl, Nat.le_refl _, rfl, by simp, fun h0 => absurd h0 (by simp)⟩, ⟨by simp, by simp⟩, by simpa using bulk_one _⟩
  · have hle : len ≤ m := by simp at hmm; omega
    obtain ⟨f, hf⟩ := choose_lt (α := α) (n := len) (p := fun i y => ∃ cs', w.cells? 0 (a.add (i * P.cellsOf e)) (P.cellsOf e) = some cs' ∧ d.K w y cs' ∧ ok y ∧ mu y ≤ Rows.uptoBulk (D i)) (fun i hil => by
      obtain ⟨cs', hc, hy⟩ := hi i (by omega)
      obtain ⟨y, hK, ho, hmu⟩ := h H enc w n cs' _ hy
      exact ⟨y, cs', hc, hK, ho, hmu⟩)
    refine ⟨(List.range len).map f, ⟨some a, cap, by simp, by simpa using hl, by simp, by have : maxLen ≤ 9223372036854775807 := by unfold maxLen; omega
                                                                                          simp; omega, fun h0 => ⟨a, rfl, fun j p hj => ?_⟩⟩, ⟨by simp; omega, fun x hx => ?_⟩, ?_⟩
    · rw [List.getElem?_map] at hj
      have hjl : j < len := by
        by_cases hjl : j < len
        · exact hjl
        · rw [List.getElem?_eq_none (by simp; omega)] at hj; simp at hj
      rw [List.getElem?_range hjl] at hj
      simp only [Option.map_some, Option.some.injEq] at hj
      subst hj
      obtain ⟨cs', hc, hK, ho, hmu⟩ := hf j hjl
      obtain ⟨_, hlen, hat⟩ := World.cells?_some hc
      refine ⟨cs', by rw [hs]; exact hlen, hK, fun i u hu => ?_⟩
      have hil : i < P.cellsOf e := by
        have := (List.getElem?_eq_some_iff.1 hu).1; omega
      rw [hs, ← Go.Deep.add_add, hat i hil, hu]
    · simp only [List.mem_map, List.mem_range] at hx
      obtain ⟨i, hil, rfl⟩ := hx
      obtain ⟨_, _, _, ho, _⟩ := hf i hil
      exact ho
    · have := bulk_range D (fun i => mu (f i)) len fun i hil => (hf i hil).choose_spec.2.2.2
      simp only [List.map_map, Rows.uptoBulk]
      have e1 : (List.range len).map (mu ∘ f) = (List.range len).map fun i => mu (f i) := rfl
      rw [e1]
      omega
theorem opens_struct3 {α β γ δ : Type} {P : Program} {t : TypeId} {f0 f1 f2 : Field} {d0 : Kd α} {d1 : Kd β} {d2 : Kd γ} {ok0 : α → Prop} {ok1 : β → Prop} {ok2 : γ → Prop} {mu0 : α → Nat} {mu1 : β → Nat} {mu2 : γ → Nat}
    (hs : P.underlying t = some (.struct #[f0, f1, f2])) (hone : oneCellFields P #[f0, f1, f2] = true) (hC : P.cellsOf t = 3) (h0 : Opens P f0.type d0 ok0 mu0) (h1 : Opens P f1.type d1 ok1 mu1) (h2 : Opens P f2.type d2 ok2 mu2)
    (mk : α → β → γ → δ) (d : Kd δ) (hd : ∀ w y0 y1 y2 c0 c1 c2, d0.K w y0 [c0] → d1.K w y1 [c1] → d2.K w y2 [c2] → d.K w (mk y0 y1 y2) [c0, c1, c2])
    (ok : δ → Prop) (hok : ∀ y0 y1 y2, ok0 y0 → ok1 y1 → ok2 y2 → ok (mk y0 y1 y2)) (mu : δ → Nat) (hmu : ∀ y0 y1 y2, mu (mk y0 y1 y2) ≤ 1 + mu0 y0 + mu1 y1 + mu2 y2) : Opens P t d ok mu := by
  intro H enc w fuel cs x hx
  obtain ⟨xs, n, _, rfl, hcl, hlen, hg⟩ := DataW.trod_struct hs hx
  rw [hC] at hcl
  match cs, hcl with
  | [c0, c1, c2], _ =>
    obtain ⟨o0, k0⟩ := hone_of hone 0 f0 rfl
    obtain ⟨o1, k1⟩ := hone_of hone 1 f1 rfl
    obtain ⟨o2, k2⟩ := hone_of hone 2 f2 rfl
    match xs, hlen with
    | [y0, y1, y2], _ =>
      have g0 : DataW.trod enc P w 0 (fun _ => true) true n f0.type [c0] = some y0 := by simpa [o0, k0] using hg 0 f0 rfl
      have g1 : DataW.trod enc P w 0 (fun _ => true) true n f1.type [c1] = some y1 := by simpa [o1, k1] using hg 1 f1 rfl
      have g2 : DataW.trod enc P w 0 (fun _ => true) true n f2.type [c2] = some y2 := by simpa [o2, k2] using hg 2 f2 rfl
      obtain ⟨z0, K0, O0, M0⟩ := h0 H enc w n _ _ g0
      obtain ⟨z1, K1, O1, M1⟩ := h1 H enc w n _ _ g1
      obtain ⟨z2, K2, O2, M2⟩ := h2 H enc w n _ _ g2
      refine ⟨mk z0 z1 z2, hd w _ _ _ _ _ _ K0 K1 K2, hok _ _ _ O0 O1 O2, Nat.le_trans (hmu _ _ _) ?_⟩
      simp only [List.map_cons, List.map_nil, Rows.uptoBulk, Rows.uptoBulkAll]
      omega
theorem opens_struct2 {α β δ : Type} {P : Program} {t : TypeId} {f0 f1 : Field} {d0 : Kd α} {d1 : Kd β} {ok0 : α → Prop} {ok1 : β → Prop} {mu0 : α → Nat} {mu1 : β → Nat}
    (hs : P.underlying t = some (.struct #[f0, f1])) (hone : oneCellFields P #[f0, f1] = true) (hC : P.cellsOf t = 2) (h0 : Opens P f0.type d0 ok0 mu0) (h1 : Opens P f1.type d1 ok1 mu1)
    (mk : α → β → δ) (d : Kd δ) (hd : ∀ w y0 y1 c0 c1, d0.K w y0 [c0] → d1.K w y1 [c1] → d.K w (mk y0 y1) [c0, c1])
    (ok : δ → Prop) (hok : ∀ y0 y1, ok0 y0 → ok1 y1 → ok (mk y0 y1)) (mu : δ → Nat) (hmu : ∀ y0 y1, mu (mk y0 y1) ≤ 1 + mu0 y0 + mu1 y1) : Opens P t d ok mu := by
  intro H enc w fuel cs x hx
  obtain ⟨xs, n, _, rfl, hcl, hlen, hg⟩ := DataW.trod_struct hs hx
  rw [hC] at hcl
  match cs, hcl with
  | [c0, c1], _ =>
    obtain ⟨o0, k0⟩ := hone_of hone 0 f0 rfl
    obtain ⟨o1, k1⟩ := hone_of hone 1 f1 rfl
    match xs, hlen with
    | [y0, y1], _ =>
      have g0 : DataW.trod enc P w 0 (fun _ => true) true n f0.type [c0] = some y0 := by simpa [o0, k0] using hg 0 f0 rfl
      have g1 : DataW.trod enc P w 0 (fun _ => true) true n f1.type [c1] = some y1 := by simpa [o1, k1] using hg 1 f1 rfl
      obtain ⟨z0, K0, O0, M0⟩ := h0 H enc w n _ _ g0
      obtain ⟨z1, K1, O1, M1⟩ := h1 H enc w n _ _ g1
      refine ⟨mk z0 z1, hd w _ _ _ _ K0 K1, hok _ _ O0 O1, Nat.le_trans (hmu _ _) ?_⟩
      simp only [List.map_cons, List.map_nil, Rows.uptoBulk, Rows.uptoBulkAll]
      omega
end Go.Proofs.Ytfbkjgedaadlmaa.O
