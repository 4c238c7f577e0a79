/- Arguments that are structs, slices of structs, slices of slices: what their reading as data says of them, kind by kind, whatever the type. Written for this claim by a program of this session (a turned copy of the print): Go functions as Lean functions, and that the Go code comes to just these answers; or a statement proved out of them. No condition. The document's Unwrap and Split, as they have been printed, are those told as functions. No condition. What is wrapped are bytes. No condition. Plain facts of many rows of bytes; how much a reading's bulk allows. No condition. -/
import Derived.Test.YtbdbobjdlomjnaaGreatDoorRows
import Derived.Test.YtbdbobjdlomjnaaGreatDoorZ1
import Derived.Deep.Slices
import Derived.Deep.Fields
import Derived.ChangeSame
import Derived.ProofKit
import Derived.Test.YtbdbobjdlomjnaaGreatDoorZ2
import Derived.KernelRfl
import Derived.Test.YtbdbobjdlomjnaaGreatDoorZ23
import Derived.Test.YtbdbobjdlomjnaaGreatDoorZ24
import Derived.Test.YtbdbobjdlomjnaaGreatDoorZ22
import Derived.Test.YtbdbobjdlomjnaaGreatDoorZ20
import Derived.Test.YtbdbobjdlomjnaaGreatDoorZ19

namespace Go.Proofs.YtbdbobjdlomjnaaGreatDoor.O
set_option linter.unusedVariables false
set_option linter.unusedSimpArgs false
open Go.RowKit Go.Deep Go.ChangeShapes Go.WideShapes Go.Proofs.YtbdbobjdlomjnaaGreatDoorW.PrintWords
def Opens {α : Type} (P : Program) (t : TypeId) (d : Kd α) (ok : α → Prop) (mu : α → Nat) : Prop :=
 ∀ (H : Type) (enc : TypeId × Value → H) (w : World) (fuel : Nat) (cs : List Value) (x : DataW H × List MemPlace),
  DataW.trod enc P w 0 (fun _ => true) true fuel t cs = some x → ∃ y : α, d.K w y cs ∧ ok y ∧ mu y ≤ Rows.uptoBulk x.1
theorem bulk_one {H : Type} (d : DataW H) : 1 ≤ Rows.uptoBulk d := by
 cases d with
 | lit l => cases l <;> simp [Rows.uptoBulk]
 | _ => simp [Rows.uptoBulk]
theorem opens_int {P : Program} {t : TypeId} {k : IntKind} (ht : P.underlying t = some (.int k)) : Opens P t (Kd.int k) (fun n => (Lit.int k n).wf = true) (fun _ => 1) := by
 intro H enc w fuel cs x h
 obtain ⟨n, rfl, rfl, hw⟩ := DataW.trod_int ht h
 exact ⟨n, rfl, hw, bulk_one _⟩
theorem bulk_range {H : Type} (D : Nat → DataW H) (m : Nat → Nat) : ∀ n, (∀ i, i < n → m i ≤ Rows.uptoBulk (D i)) → ((List.range n).map m).sum ≤ Rows.uptoBulkAll ((List.range n).map D) := by
 have app : ∀ l r : List (DataW H), Rows.uptoBulkAll (l ++ r) = Rows.uptoBulkAll l + Rows.uptoBulkAll r := by
  intro l r
  induction l with
  | nil => simp [Rows.uptoBulkAll]
  | cons x l ih => simp only [List.cons_append, Rows.uptoBulkAll, ih]; omega
 intro n
 induction n with
 | zero => intro _; simp
 | succ n ih =>
  intro h
  have h1 := ih fun i hi => h i (by omega)
  have h2 := h n (by omega)
  rw [List.range_succ, List.map_append, List.map_append, app, List.sum_append]
  simp only [List.map_cons, List.map_nil, List.sum_cons, List.sum_nil, Rows.uptoBulkAll]
  omega
theorem opens_slice {α : Type} [Inhabited α] {P : Program} {t e : TypeId} {d : Kd α} {ok : α → Prop} {mu : α → Nat} (ht : P.underlying t = some (.slice e)) (hs : d.sz = P.cellsOf e) (h : Opens P e d ok mu) :
  Opens P t (Kd.slice e d) (fun l => l.length ≤ maxLen ∧ ∀ x ∈ l, ok x) (fun l => 1 + (l.map mu).sum) := by
 intro H enc w fuel cs x hx
 rcases open_slice ht hx with ⟨rfl, rfl⟩ | ⟨a, len, cap, m, n, D, Pl, rfl, hb, hl, hm, hmm, rfl, hi⟩
 ·exact ⟨[], ⟨none, 0, rfl, Nat.le_refl _, rfl, by simp, fun h0 => absurd h0 (by simp)⟩, ⟨by simp, by simp⟩, by simpa using bulk_one _⟩
 ·have hle : len ≤ m := by simp at hmm; omega
  obtain ⟨f, hf⟩ := choose_lt (α := α) (n := len) (p := fun i y => ∃ cs', w.cells? 0 (a.add (i * P.cellsOf e)) (P.cellsOf e) = some cs' ∧ d.K w y cs' ∧ ok y ∧ mu y ≤ Rows.uptoBulk (D i)) (fun i hil => by
   obtain ⟨cs', hc, hy⟩ := hi i (by omega)
   obtain ⟨y, hK, ho, hmu⟩ := h H enc w n cs' _ hy
   exact ⟨y, cs', hc, hK, ho, hmu⟩)
  refine ⟨(List.range len).map f, ⟨some a, cap, by simp, by simpa using hl, by simp, by (have : maxLen ≤ 9223372036854775807 := by (unfold maxLen; omega)); (simp; omega), fun h0 => ⟨a, rfl, fun j p hj => ?_⟩⟩, ⟨by simp; omega, fun x hx => ?_⟩, ?_⟩
  ·rw [List.getElem?_map] at hj
   have hjl : j < len := by
    by_cases hjl : j < len
    ·exact hjl
    ·rw [List.getElem?_eq_none (by simp; omega)] at hj; simp at hj
   rw [List.getElem?_range hjl] at hj
   simp only [Option.map_some, Option.some.injEq] at hj
   subst hj
   obtain ⟨cs', hc, hK, ho, hmu⟩ := hf j hjl
   obtain ⟨_, hlen, hat⟩ := World.cells?_some hc
   refine ⟨cs', by rw [hs]; exact hlen, hK, fun i u hu => ?_⟩
   have hil : i < P.cellsOf e := by
    have := (List.getElem?_eq_some_iff.1 hu).1; omega
   rw [hs, ← Go.Deep.add_add, hat i hil, hu]
  ·simp only [List.mem_map, List.mem_range] at hx
   obtain ⟨i, hil, rfl⟩ := hx
   obtain ⟨_, _, _, ho, _⟩ := hf i hil
   exact ho
  ·have := bulk_range D (fun i => mu (f i)) len fun i hil => (hf i hil).choose_spec.2.2.2
   simp only [List.map_map, Rows.uptoBulk]
   have e1 : (List.range len).map (mu ∘ f) = (List.range len).map fun i => mu (f i) := rfl
   rw [e1]
   omega
theorem opens_struct3 {α β γ δ : Type} {P : Program} {t : TypeId} {f0 f1 f2 : Field} {d0 : Kd α} {d1 : Kd β} {d2 : Kd γ} {ok0 : α → Prop} {ok1 : β → Prop} {ok2 : γ → Prop} {mu0 : α → Nat} {mu1 : β → Nat} {mu2 : γ → Nat}
  (hs : P.underlying t = some (.struct #[f0, f1, f2])) (hone : oneCellFields P #[f0, f1, f2] = true) (hC : P.cellsOf t = 3) (h0 : Opens P f0.type d0 ok0 mu0) (h1 : Opens P f1.type d1 ok1 mu1) (h2 : Opens P f2.type d2 ok2 mu2)
  (mk : α → β → γ → δ) (d : Kd δ) (hd : ∀ w y0 y1 y2 c0 c1 c2, d0.K w y0 [c0] → d1.K w y1 [c1] → d2.K w y2 [c2] → d.K w (mk y0 y1 y2) [c0, c1, c2])
  (ok : δ → Prop) (hok : ∀ y0 y1 y2, ok0 y0 → ok1 y1 → ok2 y2 → ok (mk y0 y1 y2)) (mu : δ → Nat) (hmu : ∀ y0 y1 y2, mu (mk y0 y1 y2) ≤ 1 + mu0 y0 + mu1 y1 + mu2 y2) : Opens P t d ok mu := by
 intro H enc w fuel cs x hx
 obtain ⟨xs, n, _, rfl, hcl, hlen, hg⟩ := DataW.trod_struct hs hx
 rw [hC] at hcl
 match cs, hcl with
 | [c0, c1, c2], _ =>
  obtain ⟨o0, k0⟩ := hone_of hone 0 f0 rfl
  obtain ⟨o1, k1⟩ := hone_of hone 1 f1 rfl
  obtain ⟨o2, k2⟩ := hone_of hone 2 f2 rfl
  match xs, hlen with
  | [y0, y1, y2], _ =>
   have g0 : DataW.trod enc P w 0 (fun _ => true) true n f0.type [c0] = some y0 := by simpa [o0, k0] using hg 0 f0 rfl
   have g1 : DataW.trod enc P w 0 (fun _ => true) true n f1.type [c1] = some y1 := by simpa [o1, k1] using hg 1 f1 rfl
   have g2 : DataW.trod enc P w 0 (fun _ => true) true n f2.type [c2] = some y2 := by simpa [o2, k2] using hg 2 f2 rfl
   obtain ⟨z0, K0, O0, M0⟩ := h0 H enc w n _ _ g0
   obtain ⟨z1, K1, O1, M1⟩ := h1 H enc w n _ _ g1
   obtain ⟨z2, K2, O2, M2⟩ := h2 H enc w n _ _ g2
   refine ⟨mk z0 z1 z2, hd w _ _ _ _ _ _ K0 K1 K2, hok _ _ _ O0 O1 O2, Nat.le_trans (hmu _ _ _) ?_⟩
   simp only [List.map_cons, List.map_nil, Rows.uptoBulk, Rows.uptoBulkAll]
   omega
theorem opens_struct2 {α β δ : Type} {P : Program} {t : TypeId} {f0 f1 : Field} {d0 : Kd α} {d1 : Kd β} {ok0 : α → Prop} {ok1 : β → Prop} {mu0 : α → Nat} {mu1 : β → Nat}
  (hs : P.underlying t = some (.struct #[f0, f1])) (hone : oneCellFields P #[f0, f1] = true) (hC : P.cellsOf t = 2) (h0 : Opens P f0.type d0 ok0 mu0) (h1 : Opens P f1.type d1 ok1 mu1)
  (mk : α → β → δ) (d : Kd δ) (hd : ∀ w y0 y1 c0 c1, d0.K w y0 [c0] → d1.K w y1 [c1] → d.K w (mk y0 y1) [c0, c1])
  (ok : δ → Prop) (hok : ∀ y0 y1, ok0 y0 → ok1 y1 → ok (mk y0 y1)) (mu : δ → Nat) (hmu : ∀ y0 y1, mu (mk y0 y1) ≤ 1 + mu0 y0 + mu1 y1) : Opens P t d ok mu := by
 intro H enc w fuel cs x hx
 obtain ⟨xs, n, _, rfl, hcl, hlen, hg⟩ := DataW.trod_struct hs hx
 rw [hC] at hcl
 match cs, hcl with
 | [c0, c1], _ =>
  obtain ⟨o0, k0⟩ := hone_of hone 0 f0 rfl
  obtain ⟨o1, k1⟩ := hone_of hone 1 f1 rfl
  match xs, hlen with
  | [y0, y1], _ =>
   have g0 : DataW.trod enc P w 0 (fun _ => true) true n f0.type [c0] = some y0 := by simpa [o0, k0] using hg 0 f0 rfl
   have g1 : DataW.trod enc P w 0 (fun _ => true) true n f1.type [c1] = some y1 := by simpa [o1, k1] using hg 1 f1 rfl
   obtain ⟨z0, K0, O0, M0⟩ := h0 H enc w n _ _ g0
   obtain ⟨z1, K1, O1, M1⟩ := h1 H enc w n _ _ g1
   refine ⟨mk z0 z1, hd w _ _ _ _ K0 K1, hok _ _ O0 O1, Nat.le_trans (hmu _ _) ?_⟩
   simp only [List.map_cons, List.map_nil, Rows.uptoBulk, Rows.uptoBulkAll]
   omega
end Go.Proofs.YtbdbobjdlomjnaaGreatDoor.O

namespace Go.Proofs.YtbdbobjdlomjnaaGreatDoor.P
open Go.RowKit Go.Proofs.YtbdbobjdlomjnaaGreatDoor.O Go.Proofs.YtbdbobjdlomjnaaGreatDoorW.PrintWords Go.Proofs.YtbdbobjdlomjnaaGreatDoorW.PrintLast
end Go.Proofs.YtbdbobjdlomjnaaGreatDoor.P

namespace Go.Proofs.YtbdbobjdlomjnaaGreatDoor.Ec
set_option linter.unusedVariables false
set_option linter.unusedSimpArgs false
open Go Go.RowKit Go.Proofs.YtbdbobjdlomjnaaGreatDoor.P Go.Proofs.YtbdbobjdlomjnaaGreatDoor.C Go.Proofs.YtbdbobjdlomjnaaGreatDoor.Fv Go.Proofs.YtbdbobjdlomjnaaGreatDoorW.PrintWords Go.Proofs.YtbdbobjdlomjnaaGreatDoorW.PrintLast Go.Proofs.YtbdbobjdlomjnaaGreatDoorW.PrintMore
theorem runw_l0 (l : List Int) (hl : ∀ x ∈ l, In x) (hn : l.length ≤ 1099511627776) (c a : Int) : ∀ m i : Nat, i + m = l.length → Ev (fun k => rf18_Unwrap.l0 k c a (codesOf l) (l.take i) (i : Int)) (l, wrap64 (a + wrap64 c), 0) := by
 intro m
 induction m with
 | zero =>
  intro i hm
  refine Ev.step (fun k => rf18_Unwrap.l0.eq_2 _ _ _ _ _ _) ?_
  simp only [codesOf_len, if_neg (show ¬ ((i : Int) < (l.length : Int)) by omega)]
  rw [List.take_of_length_le (by omega)]
  exact Ev.now _
 | succ m ih =>
  intro i hm
  have hi : i < l.length := by omega
  obtain ⟨x0, x1⟩ := hl _ (List.getElem_mem hi)
  refine Ev.step (fun k => rf18_Unwrap.l0.eq_2 _ _ _ _ _ _) ?_
  simp only [codesOf_len, if_pos (show (i : Int) < (l.length : Int) by omega), if_pos (show (0 : Int) ≤ (i : Int) by omega), if_pos (show (l.take i).length < 140737488355328 by rw [List.length_take]; omega), codesOf_rd l i hi, nx (show i < 4611686018427387904 by omega)]
  rw [show l[i] % 256 = l[i] by omega, ← take_snoc l i hi]
  exact ih (i + 1) (by omega)
theorem runw_j2 (b : List Int) (hb : Dg b) (hbl : b.length ≤ 1048576) (n a k : Nat) (hn : n ≤ 65536) (ha : a + k ≤ b.length) : Ev (fun q => rf18_Unwrap.j2 q b (n : Int) (k : Int) (a : Int) false) (match unpackV n ((b.drop a).take k) with
  | some l => (l, ((a + k : Nat) : Int), 0)
  | none => ([], 0, 11)) := by
 have hd : Dg ((b.drop a).take k) := Dg_take (Dg_drop hb _) _
 have hP : (b.take (a + k)).drop a = (b.drop a).take k := by rw [List.drop_take, Nat.add_sub_cancel_left]
 refine Ev.step (fun q => rf18_Unwrap.j2.eq_2 _ _ _ _ _ _) ?_
 have e1 : wrap64 (n : Int) = (n : Int) := w64 (by omega) (by omega)
 have e2 : wrap64 (k : Int) = (k : Int) := w64 (by omega) (by omega)
 have e3 : wrap64 ((a : Int) + (k : Int)) = ((a + k : Nat) : Int) := by rw [w64 (by omega) (by omega)]; omega
 simp only [Bool.false_eq_true, if_false, e1, e2, e3, Int.toNat_natCast, if_pos (show (0 : Int) ≤ (n : Int) by omega), if_pos (show n ≤ 35184372088832 by omega), if_pos (show (0 : Int) ≤ (a : Int) by omega), if_pos (show (a : Int) ≤ ((a + k : Nat) : Int) by omega), if_pos (show ((a + k : Nat) : Int) ≤ (b.length : Int) by omega), hP]
 have hdec : rf06_Decode.f [256] (List.replicate n 0) ((b.drop a).take k) = some (decF n ((b.drop a).take k)) := by
  unfold rf06_Decode.f
  rw [if_pos ⟨⟨rfl, by rw [List.length_replicate], by rw [List.length_replicate]; exact hn, by rw [List.length_take, List.length_drop]; omega⟩, hd⟩, List.length_replicate]
 rw [hdec]
 unfold decF
 rw [unpack_eq hd]
 cases hu : unpackV n ((b.drop a).take k) with
 | none =>
  simp only [Option.bind_some, if_neg (show ¬ ((11 : Int) = 0) by decide)]
  exact Ev.now _
 | some l =>
  obtain ⟨hll, hli, _⟩ := (unpackV_iff hd).1 hu
  simp only [Option.bind_some, if_true]
  have := runw_l0 l hli (by omega) (k : Int) (a : Int) l.length 0 (by omega)
  rw [e2, e3] at this
  exact this
theorem runw_ev (b : List Int) (a : Int) (hb : Dg b) (hbl : b.length ≤ 1048576) : Ev (fun k => rf18_Unwrap.f k b a) (unwF b a) := by
 unfold rf18_Unwrap.f unwF
 by_cases h0 : a < 0
 ·simp only [if_pos h0, if_pos (show a < 0 ∨ (b.length : Int) < a from .inl h0)]
  refine Ev.step (fun k => rf18_Unwrap.j0.eq_2 _ _ _ _) ?_
  simp only [if_true]
  exact Ev.now _
 ·by_cases h1 : (b.length : Int) < a
  ·simp only [if_neg h0, if_pos (show a < 0 ∨ (b.length : Int) < a from .inr h1), decide_eq_true (show a > (b.length : Int) from h1)]
   refine Ev.step (fun k => rf18_Unwrap.j0.eq_2 _ _ _ _) ?_
   simp only [if_true]
   exact Ev.now _
  ·simp only [if_neg h0, if_neg (show ¬ (a < 0 ∨ (b.length : Int) < a) by omega), decide_eq_false (show ¬ a > (b.length : Int) by omega)]
   obtain ⟨n, rfl⟩ : ∃ n : Nat, a = (n : Int) := ⟨a.toNat, by omega⟩
   rw [Int.toNat_natCast]
   have hn : n ≤ b.length := by omega
   refine Ev.step (fun k => rf18_Unwrap.j0.eq_2 _ _ _ _) ?_
   simp only [Bool.false_eq_true, if_false]
   refine Ev.bind (rget_ev b hb (by omega) n hn) ?_
   unfold unwV
   have hg1 := gv_len (b.drop n) 0 0
   rw [List.length_drop] at hg1
   generalize hG : gv (b.drop n) 0 0 = g at *
   obtain ⟨v1, n1, e1⟩ := g
   simp only at hg1 ⊢
   unfold gR
   by_cases c1 : e1 = 0
   ·subst c1
    have hg1 := hg1 (by decide)
    simp only [if_true, true_and]
    by_cases c2 : 65536 < v1
    ·rw [if_neg (fun h => absurd h.1 (by omega)), decide_eq_true (show (v1 : Int) > 65536 by omega)]
     refine Ev.step (fun k => rf18_Unwrap.j1.eq_2 _ _ _ _ _) ?_
     simp only [if_true]
     exact Ev.now _
    ·simp only [decide_eq_false (show ¬ (v1 : Int) > 65536 by omega)]
     refine Ev.step (fun k => rf18_Unwrap.j1.eq_2 _ _ _ _ _) ?_
     simp only [Bool.false_eq_true, if_false]
     refine Ev.bind (rget_ev b hb (by omega) (n + n1) (by omega)) ?_
     have hg2 := gv_len (b.drop (n + n1)) 0 0
     rw [List.length_drop] at hg2
     generalize hG2 : gv (b.drop (n + n1)) 0 0 = g at *
     obtain ⟨v2, n2, e2⟩ := g
     simp only at hg2 ⊢
     unfold gR
     by_cases c3 : e2 = 0
     ·subst c3
      have hg2 := hg2 (by decide)
      simp only [if_true]
      have hw : IntKind.u64.wrap (wrap64 ((b.length : Int) - ((n + n1 + n2 : Nat) : Int))) = ((b.length - (n + n1 + n2) : Nat) : Int) := by
       rw [w64 (by omega) (by omega), show (b.length : Int) - ((n + n1 + n2 : Nat) : Int) = ((b.length - (n + n1 + n2) : Nat) : Int) by omega]
       exact u64_small _ (by omega)
      rw [hw]
      by_cases c4 : v2 ≤ b.length - (n + n1 + n2)
      ·rw [decide_eq_false (show ¬ (v2 : Int) > ((b.length - (n + n1 + n2) : Nat) : Int) by omega)]
       rw [if_pos ⟨by omega, trivial, c4⟩]
       exact runw_j2 b hb hbl v1 (n + n1 + n2) v2 (by omega) (by omega)
      ·rw [decide_eq_true (show (v2 : Int) > ((b.length - (n + n1 + n2) : Nat) : Int) by omega)]
       rw [if_neg (fun h => c4 h.2.2)]
       refine Ev.step (fun k => rf18_Unwrap.j2.eq_2 _ _ _ _ _ _) ?_
       simp only [if_true]
       exact Ev.now _
     ·simp only [if_neg c3]
      rw [if_neg (fun h => c3 h.2.1)]
      refine Ev.step (fun k => rf18_Unwrap.j2.eq_2 _ _ _ _ _ _) ?_
      simp only [if_true]
      exact Ev.now _
   ·simp only [if_neg c1]
    rw [if_neg (fun h => c1 h.1)]
    refine Ev.step (fun k => rf18_Unwrap.j1.eq_2 _ _ _ _ _) ?_
    simp only [if_true]
    exact Ev.now _
theorem rsplit_l0 (b : List Int) (hb : Dg b) (hbl : b.length ≤ 1048576) (n : Nat) (hn : n ≤ 50) : ∀ (m i a : Nat) (pre : List (List Int)), i + m = n → a ≤ b.length → pre.length = i → Ev (fun k => rf18_Split.l0 k b (n : Int) (a : Int) pre (i : Int)) (match rowsV b m a with
  | some t => if t.2 = b.length then (pre ++ t.1, 0) else ([], 11)
  | none => ([], 11)) := by
 have e1 : wrap64 (n : Int) = (n : Int) := w64 (by omega) (by omega)
 intro m
 induction m with
 | zero =>
  intro i a pre hm ha hp
  refine Ev.step (fun k => rf18_Split.l0.eq_2 _ _ _ _ _ _) ?_
  simp only [e1, if_neg (show ¬ ((i : Int) < (n : Int)) by omega), rowsV]
  by_cases hq : a = b.length
  ·simp only [if_pos hq, if_pos (show (a : Int) = (b.length : Int) by omega), List.append_nil]
   exact Ev.now _
  ·simp only [if_neg hq, if_neg (show ¬ ((a : Int) = (b.length : Int)) by omega)]
   exact Ev.now _
 | succ m ih =>
  intro i a pre hm ha hp
  have hr := runw_ev b (a : Int) hb hbl
  rw [unwF_nat b a ha] at hr
  refine Ev.step (fun k => rf18_Split.l0.eq_2 _ _ _ _ _ _) ?_
  simp only [e1, if_pos (show (i : Int) < (n : Int) by omega)]
  refine Ev.bind hr ?_
  rcases unwV_le b a hbl ha with ⟨he, k, hk, hke⟩ | he
  ·simp only [he, hke, if_true, if_pos (show pre.length < 5864062014805 by omega), nx (show i < 4611686018427387904 by omega), rowsV, Int.toNat_natCast]
   have ih := ih (i + 1) k (pre ++ [(unwV b a).1]) (by omega) hk (by rw [List.length_append, hp]; rfl)
   cases hrw : rowsV b m k with
   | none =>
    rw [hrw] at ih
    exact ih
   | some t =>
    rw [hrw] at ih
    simp only [Option.map_some]
    simp only [List.append_assoc, List.singleton_append] at ih
    exact ih
  ·simp only [he, if_neg (show ¬ ((11 : Int) = 0) by decide), rowsV]
   exact Ev.now _
theorem rsplit_ev (b : List Int) (hb : Dg b) (hbl : b.length ≤ 1048576) : Ev (fun k => rf18_Split.f k b) (splitV b) := by
 unfold rf18_Split.f splitV
 refine Ev.bind (rget_ev b hb (by omega) 0 (by omega)) ?_
 rw [List.drop_zero]
 have hg1 := gv_len b 0 0
 generalize hG : gv b 0 0 = g at *
 obtain ⟨v1, n1, e1⟩ := g
 simp only at hg1 ⊢
 unfold gR
 by_cases c1 : e1 = 0
 ·subst c1
  have hg1 := hg1 (by decide)
  simp only [if_true, true_and, Nat.zero_add]
  by_cases c2 : v1 ≤ 50
  ·simp only [if_pos c2, decide_eq_false (show ¬ (v1 : Int) > 50 by omega)]
   refine Ev.step (fun k => rf18_Split.j0.eq_2 _ _ _ _ _) ?_
   simp only [Bool.false_eq_true, if_false]
   have := rsplit_l0 b hb hbl v1 c2 v1 0 n1 [] (by omega) (by omega) rfl
   simp only [List.nil_append] at this
   exact this
  ·simp only [if_neg c2, decide_eq_true (show (v1 : Int) > 50 by omega)]
   refine Ev.step (fun k => rf18_Split.j0.eq_2 _ _ _ _ _) ?_
   simp only [if_true]
   exact Ev.now _
 ·simp only [if_neg c1]
  rw [if_neg (fun h => c1 h.1)]
  refine Ev.step (fun k => rf18_Split.j0.eq_2 _ _ _ _ _) ?_
  simp only [if_true]
  exact Ev.now _

theorem wrapV_dg {l : List Int} (hd : Dg l) (hl : l.length ≤ 8000) : Dg (wrapV l) := by
 have hi := In_dg.2 hd
 have he := encV_len hi
 unfold wrapV
 exact Dg_append (putN_wf _ (by omega)) (Dg_append (putN_wf _ (by omega)) (encV_of hi).1)
theorem w8 {x : Int} (h : (Lit.int .u8 x).wf = true) : 0 ≤ x ∧ x ≤ 255 := by simpa [Lit.wf, IntKind.min, IntKind.max, IntKind.signed, IntKind.bits] using h

theorem manyB_dg : ∀ (l : List (List Int)), (∀ b ∈ l, Dg b ∧ b.length ≤ 8000) → Dg (manyB l)
 | [], _ => fun _ h => absurd h List.not_mem_nil
 | a :: l, h => by
  have h0 := h a (List.mem_cons_self ..)
  exact Dg_append (wrapV_dg h0.1 h0.2) (manyB_dg l (fun b hb => h b (List.mem_cons_of_mem _ hb)))
theorem rowsV_dg (b : List Int) (hb : Dg b) : ∀ (n a : Nat) (t : List (List Int) × Nat), rowsV b n a = some t → ∀ x ∈ t.1, Dg x
 | 0, a, t, h => by
  simp only [rowsV, Option.some.injEq] at h
  subst h
  exact fun _ h => absurd h List.not_mem_nil
 | n + 1, a, t, h => by
  unfold rowsV at h
  split at h
  ·obtain ⟨t1, h1, h2⟩ := Option.map_eq_some_iff.1 h
   subst h2
   intro x hx
   rcases List.mem_cons.1 hx with rfl | hx
   ·exact unwV_dg b a hb
   ·exact rowsV_dg b hb n _ t1 h1 x hx
  ·cases h
theorem splitV_dg (b : List Int) (hb : Dg b) : ∀ x ∈ (splitV b).1, Dg x := by
 unfold splitV
 split
 ·split
  ·rename_i t h
   split
   ·exact rowsV_dg b hb _ _ t h
   ·exact fun _ h => absurd h List.not_mem_nil
  ·exact fun _ h => absurd h List.not_mem_nil
 ·exact fun _ h => absurd h List.not_mem_nil
theorem rowsV_len (b : List Int) : ∀ (n a : Nat) (t : List (List Int) × Nat), rowsV b n a = some t → t.1.length = n
 | 0, a, t, h => by
  simp only [rowsV, Option.some.injEq] at h
  subst h
  rfl
 | n + 1, a, t, h => by
  unfold rowsV at h
  split at h
  ·obtain ⟨t1, h1, h2⟩ := Option.map_eq_some_iff.1 h
   subst h2
   rw [List.length_cons, rowsV_len b n _ t1 h1]
  ·cases h
theorem splitV_len (b : List Int) : (splitV b).1.length ≤ 50 := by
 unfold splitV
 split
 ·rename_i hc
  split
  ·rename_i t h
   split
   ·rw [rowsV_len b _ _ t h]; exact hc.2
   ·simp
  ·simp
 ·simp
theorem rsame_ev {a b : List (List Int)} (ha : ∀ x ∈ a, Dg x) (hb : ∀ x ∈ b, Dg x) (hn : a.length ≤ 1099511627776) (he : a = b) : rf18_Same.f a b = some true := by
 unfold rf18_Same.f rf00_SameLists.f
 rw [if_pos ⟨ha, hb, hn⟩, decide_eq_true he]
 rfl
def cnt (l : List (List Int)) : Nat := (l.map fun b => 1 + b.length).sum
theorem cnt_snoc (l : List (List Int)) (b : List Int) : cnt (l ++ [b]) = cnt l + (1 + b.length) := by unfold cnt; simp
theorem cnt_len (l : List (List Int)) : l.length ≤ cnt l := by
 unfold cnt
 induction l with
 | nil => simp
 | cons a l ih => simp only [List.map_cons, List.sum_cons, List.length_cons]; omega
theorem cnt_mem (l : List (List Int)) (b : List Int) (h : b ∈ l) : b.length ≤ cnt l := by
 unfold cnt
 induction l with
 | nil => simp at h
 | cons a l ih =>
  simp only [List.map_cons, List.sum_cons]
  rcases List.mem_cons.1 h with rfl | h
  ·omega
  ·have := ih h; omega
theorem cnt_take (l : List (List Int)) (i : Nat) : cnt (l.take i) ≤ cnt l := by
 conv => rhs; rw [← List.take_append_drop i l]
 unfold cnt
 rw [List.map_append, List.sum_append]
 omega
theorem len1 {α : Type} : ∀ l : List α, (l.map fun _ => 1).sum = l.length
 | [] => rfl
 | a :: l => by rw [List.map_cons, List.sum_cons, len1 l, List.length_cons]; omega
theorem bulk_cnt (l : List (List Int)) : (l.map (fun l => 1 + (l.map (fun _ => 1)).sum)).sum = cnt l := by
 unfold cnt
 congr 1
 exact List.map_congr_left (fun b _ => by rw [len1])
end Go.Proofs.YtbdbobjdlomjnaaGreatDoor.Ec
