/- Rings: whether a point lies in one, as the program's function answers. Written for this claim by a program of this session (a turned copy of the print): Go functions as Lean functions, and that the Go code comes to just these answers; or a statement proved out of them. No condition. -/
import Derived.Test.YtbonkedecfjmdaaZ12
import Derived.Test.YtbonkedecfjmdaaZ11
import Derived.Test.YtbonkedecfjmdaaZ13
import Derived.Test.YtbonkedecfjmdaaZ2

namespace Go.Proofs.Ytbonkedecfjmdaa.G
set_option linter.unusedVariables false
set_option linter.unusedSimpArgs false
open Go.RowKit Go.Proofs.Ytbonkedecfjmdaa.P Go.Proofs.Ytbonkedecfjmdaa.X Go.Proofs.Ytbonkedecfjmdaa.WL Go.Proofs.YtbonkedecfjmdaaW.PrintWords Go.Proofs.YtbonkedecfjmdaaW.PrintLast Go.Proofs.YtbonkedecfjmdaaW.PrintMore
theorem gOn_ev (p a b : Pt) : Ev (fun _ => geom_On.f p.f0 p.f1 p.f2 a.f0 a.f1 a.f2 b.f0 b.f1 b.f2) (onB p a b) := Ev.now _
theorem cross_swapG (a b c : Pt) : cross b a c = -cross a b c := cross_swap a b c
theorem side_swapG (a b c : Pt) : side b a c = -side a b c := by
  unfold side; rw [cross_swap]; unfold cmp3; split <;> split <;> first | rfl | omega | (split <;> first | rfl | omega | (split <;> first | rfl | omega))
/-- Is a side met by what runs from the point to the right? -/
def cr (p : Pt) (e : Pt × Pt) : Bool := decide (e.1.f1 ≤ p.f1 ∧ p.f1 < e.2.f1 ∧ side e.1 e.2 p > 0) || decide (e.2.f1 ≤ p.f1 ∧ p.f1 < e.1.f1 ∧ side e.1 e.2 p < 0)
def onE (p : Pt) (e : Pt × Pt) : Bool := onB p e.1 e.2
theorem cr_swap (p : Pt) (e : Pt × Pt) : cr p (e.2, e.1) = cr p e := by
  unfold cr
  have := side_swapG e.1 e.2 p
  rw [Bool.eq_iff_iff]
  simp only [Bool.or_eq_true, decide_eq_true_eq, this]
  omega
theorem onE_swap (p : Pt) (e : Pt × Pt) : onE p (e.2, e.1) = onE p e := onB_swap p e.2 e.1
/-- What is told of the sides from one on, where so many were met. -/
def tell (p : Pt) (l : List (Pt × Pt)) (s : Int) : Int := if l.any (onE p) then 0 else if (l.countP (cr p)) % 2 = 1 then -s else s
def inV (p : Pt) (l : List Pt) : Int := if rt p && l.all rt then tell p (edg l) (-1) else 0
theorem tell_nil (p : Pt) (s : Int) : tell p [] s = s := by simp [tell]
theorem tell_on {p : Pt} {e : Pt × Pt} {l : List (Pt × Pt)} {s : Int} (h : onE p e = true) : tell p (e :: l) s = 0 := by simp [tell, h]
theorem tell_cr {p : Pt} {e : Pt × Pt} {l : List (Pt × Pt)} {s : Int} (h : onE p e = false) (hc : cr p e = true) : tell p (e :: l) s = tell p l (-s) := by
  unfold tell
  rw [List.any_cons, h, Bool.false_or, List.countP_cons_of_pos hc]
  by_cases ha : l.any (onE p) = true
  · rw [if_pos ha, if_pos ha]
  · rw [if_neg ha, if_neg ha]
    by_cases hm : l.countP (cr p) % 2 = 1
    · rw [if_neg (by omega), if_pos hm]; omega
    · rw [if_pos (by omega), if_neg hm]
theorem tell_no {p : Pt} {e : Pt × Pt} {l : List (Pt × Pt)} {s : Int} (h : onE p e = false) (hc : cr p e = false) : tell p (e :: l) s = tell p l s := by
  unfold tell
  rw [List.any_cons, h, Bool.false_or, List.countP_cons_of_neg (by simp [hc])]
theorem any_perm {α : Type} {u v : List α} (f : α → Bool) (h : u.Perm v) : u.any f = v.any f := by
  rw [Bool.eq_iff_iff, List.any_eq_true, List.any_eq_true]
  constructor
  · rintro ⟨x, hx, hf⟩; exact ⟨x, h.mem_iff.1 hx, hf⟩
  · rintro ⟨x, hx, hf⟩; exact ⟨x, h.mem_iff.2 hx, hf⟩
theorem tell_perm {p : Pt} {u v : List (Pt × Pt)} (h : u.Perm v) (s : Int) : tell p u s = tell p v s := by
  unfold tell
  rw [any_perm _ h, h.countP_eq]
theorem tell_swap (p : Pt) (l : List (Pt × Pt)) (s : Int) : tell p (l.map fun e => (e.2, e.1)) s = tell p l s := by
  unfold tell
  rw [List.any_map, List.countP_map]
  have h1 : (onE p ∘ fun e : Pt × Pt => (e.2, e.1)) = onE p := funext fun e => onE_swap p e
  have h2 : (cr p ∘ fun e : Pt × Pt => (e.2, e.1)) = cr p := funext fun e => cr_swap p e
  rw [h1, h2]
theorem inV_turned (p : Pt) (l : List Pt) (k : Nat) (h : k ≤ l.length) : inV p (l.drop k ++ l.take k) = inV p l := by
  unfold inV
  rw [tell_perm (edg_turned l k h), List.all_append, Bool.and_comm (List.all (List.drop k l) rt), ← List.all_append, List.take_append_drop]
theorem inV_rev (p : Pt) (l : List Pt) : inV p l.reverse = inV p l := by
  unfold inV
  rw [tell_perm (edg_rev l), tell_swap, List.all_reverse]

theorem gIn_l0 (p : Pt) (hp : rt p = true) (l : List Pt) (hl : l.length < 4000000000000000000) (hr : l.all rt = true) : ∀ (n i : Nat) (s : Int), i + n = l.length → (s = 1 ∨ s = -1) →
    Ev (fun k => geom_In.l0 k l s l (l.length : Int) (i : Int) p.f0 p.f1 p.f2) (tell p ((edg l).drop i) s) := by
  intro n
  induction n with
  | zero =>
    intro i s hi hs
    rw [List.drop_of_length_le (by rw [edg_len]; omega), tell_nil]
    exact Ev.step (f := fun _ => some s) (fun k => by simp only [geom_In.l0]; rw [if_neg (by omega)]) (Ev.now _)
  | succ n ih =>
    intro i s hi hs
    have hA : i < l.length := by omega
    have hM : (i + 1) % l.length < l.length := Nat.mod_lt _ (by omega)
    have hE : i < (edg l).length := by rw [edg_len]; exact hA
    have q1 : (i : Int) < (l.length : Int) := by omega
    have wm : Int.tmod (wrap64 ((i : Int) + 1)) (l.length : Int) = (((i + 1) % l.length : Nat) : Int) := by
      rw [w64_succ i (by omega), Int.tmod_eq_emod_of_nonneg (by omega), Int.natCast_emod]
    rw [List.drop_eq_getElem_cons hE, edg_get l i hA]
    have ra := all_get hr i hA
    have rb := all_get hr _ hM
    have hrd1 : rd_T27 l (i : Int) = l[i] := rdp l i hA
    have hrd2 : rd_T27 l (((i + 1) % l.length : Nat) : Int) = l[(i + 1) % l.length] := rdp l _ hM
    generalize l[i] = a at *
    generalize l[(i + 1) % l.length] = b at *
    have I1 := ih (i + 1) s (by omega) hs
    have I2 := ih (i + 1) (-s) (by omega) (by omega)
    have wn : wrap64 (-s) = -s := w64_id (by omega) (by omega)
    have ws : wrap64 ((i : Int) + 1) = ((i + 1 : Nat) : Int) := w64_succ i (by omega)
    refine Ev.step (f := fun k => (geom_On.f p.f0 p.f1 p.f2 a.f0 a.f1 a.f2 b.f0 b.f1 b.f2).bind fun t540 => (if t540 = true then (some 0) else (if ((decide (a.f1 > p.f1)) == (decide (b.f1 > p.f1))) = true then (geom_In.l0 k l s l (l.length : Int) ((i + 1 : Nat) : Int) p.f0 p.f1 p.f2) else (if b.f1 < a.f1 then ((geom_turn.f k b.f0 b.f1 b.f2 a.f0 a.f1 a.f2 p.f0 p.f1 p.f2).bind fun t541 => (if t541 > 0 then (geom_In.l0 k l (-s) l (l.length : Int) ((i + 1 : Nat) : Int) p.f0 p.f1 p.f2) else (geom_In.l0 k l s l (l.length : Int) ((i + 1 : Nat) : Int) p.f0 p.f1 p.f2))) else ((geom_turn.f k a.f0 a.f1 a.f2 b.f0 b.f1 b.f2 p.f0 p.f1 p.f2).bind fun t542 => (if t542 > 0 then (geom_In.l0 k l (-s) l (l.length : Int) ((i + 1 : Nat) : Int) p.f0 p.f1 p.f2) else (geom_In.l0 k l s l (l.length : Int) ((i + 1 : Nat) : Int) p.f0 p.f1 p.f2))))))) (fun k => ?_) ?_
    · simp only [geom_In.l0]
      rw [wm, if_pos q1, if_pos (by omega), if_pos q1, if_neg (by omega), if_pos (by omega), if_pos (by omega), hrd1, hrd2, wn, ws]
    · refine Ev.bind (gOn_ev p a b) ?_
      by_cases ho : onB p a b = true
      · simp only [if_pos ho]
        rw [tell_on (show onE p (a, b) = true from ho)]
        exact Ev.now _
      · simp only [if_neg ho]
        have ho' : onE p (a, b) = false := Bool.eq_false_iff.2 ho
        by_cases he : (decide (a.f1 > p.f1) == decide (b.f1 > p.f1)) = true
        · simp only [if_pos he]
          rw [beq_iff_eq, decide_eq_decide] at he
          rw [tell_no ho' (by unfold cr; simp only [Bool.or_eq_false_iff, decide_eq_false_iff_not]; omega)]
          exact I1
        · simp only [if_neg he]
          rw [beq_iff_eq, decide_eq_decide] at he
          by_cases hb : b.f1 < a.f1
          · simp only [if_pos hb]
            refine Ev.bind (gturn_ev rb ra hp) ?_
            have hs' := side_swapG a b p
            by_cases ht : side b a p > 0
            · simp only [if_pos ht]
              rw [tell_cr ho' (by unfold cr; simp only [Bool.or_eq_true, decide_eq_true_eq]; omega)]
              exact I2
            · simp only [if_neg ht]
              rw [tell_no ho' (by unfold cr; simp only [Bool.or_eq_false_iff, decide_eq_false_iff_not]; omega)]
              exact I1
          · simp only [if_neg hb]
            refine Ev.bind (gturn_ev ra rb hp) ?_
            by_cases ht : side a b p > 0
            · simp only [if_pos ht]
              rw [tell_cr ho' (by unfold cr; simp only [Bool.or_eq_true, decide_eq_true_eq]; omega)]
              exact I2
            · simp only [if_neg ht]
              rw [tell_no ho' (by unfold cr; simp only [Bool.or_eq_false_iff, decide_eq_false_iff_not]; omega)]
              exact I1
theorem gIn_ev (p : Pt) (l : List Pt) (hl : l.length < 4000000000000000000) : Ev (fun k => geom_In.f k p.f0 p.f1 p.f2 l) (inV p l) := by
  unfold geom_In.f
  refine Ev.bind (gRight_ev [p] (by simp)) ?_
  simp only [List.all_cons, List.all_nil, Bool.and_true]
  have jt : Ev (fun k => geom_In.j0 k l true p.f0 p.f1 p.f2) 0 := Ev.step (f := fun _ => some 0) (fun k => by simp only [geom_In.j0, if_true]) (Ev.now _)
  unfold inV
  by_cases h : rt p = true
  · simp only [if_pos h, h, Bool.true_and]
    refine Ev.bind (gRight_ev l (by omega)) ?_
    by_cases h2 : l.all rt = true
    · simp only [h2, Bool.not_true, if_true]
      have := gIn_l0 p h l hl h2 l.length 0 (-1) (by omega) (.inr rfl)
      rw [List.drop_zero] at this
      refine Ev.step (fun k => ?_) this
      simp only [geom_In.j0, Bool.false_eq_true, if_false]; rfl
    · simp only [h2, Bool.not_false, Bool.false_eq_true, if_false]; exact jt
  · simp only [if_neg h, h, Bool.false_and, Bool.false_eq_true, if_false]; exact jt

end Go.Proofs.Ytbonkedecfjmdaa.G

namespace Go.Proofs.Ytbonkedecfjmdaa.P
open Go.RowKit Go.Proofs.YtbonkedecfjmdaaW.PrintWords Go.Proofs.YtbonkedecfjmdaaW.PrintLast Go.Proofs.YtbonkedecfjmdaaW.PrintMore Go.Proofs.Ytbonkedecfjmdaa.X
attribute [local go_sem] max2_int min2_int max_two min_two max_three min_three max_four min_four add64_0 add64_1 add64   -- for this text's walks alone
set_option linter.unusedVariables false
set_option linter.unusedSimpArgs false

/-! ### api_Point_72: function 72 -/
def api_Point_72.f (l0 : List (S27)) : Option ((List (S27))) := if l0.length < 5864062014805 then (some l0) else (none)
theorem api_Point_72.eqnil (w : World) (A : Option Addr) (n c : Nat) : (binOp .eql 31 (.slice A n c) (.slice none 0 0)).run Try.prog w = .ok (.bool A.isNone) w := run_eql_slice_nil w 31 27 A n c Try.underlying31
attribute [local go_sem] api_Point_72.eqnil
set_option maxHeartbeats 8000000 in
set_option maxRecDepth 100000 in
theorem api_Point_72.calls (A0 : Option Addr) (c0 : Nat) (l0 : List (S27)) (r : List (S27)) (w : World) (hr0 : Kd.C k27 w A0 l0.length l0) (hc0 : l0.length ≤ c0) (h : api_Point_72.f l0 = some r) :
  Calls Try.prog 72 #[.slice A0 l0.length c0] w fun e w' => ∃ v0_ : Value, e = .returned (v0_) ∧ Kd.R k27 27 w' w.heap.size (fun _ => True) v0_ r ∧ Below w.heap.size w w' := by
 unfold api_Point_72.f at h
 by_cases hl : l0.length < 5864062014805
 ·rw [if_pos hl] at h
  obtain rfl := Option.some.inj h
  cases A0 with
  | none =>
   have hl0 : l0 = [] := by
    cases l0 with
    | nil => rfl
    | cons x l =>
     obtain ⟨ad, e, _⟩ := hr0.2.2 (by simp)
     cases e
   subst hl0
   go_enter Try.func72, Try.ntmps72
   go_wp2
   go_ret
   exact ⟨_, by first | rfl | (simp; done) | (simp <;> rfl), Kd.R_nil _ _ _ _ _, Below.refl _ _⟩
  | some ad =>
   go_enter Try.func72, Try.ntmps72
   go_wp2_with (first | ((with_reducible refine gate_dst (N := 5) rfl ?_); refine Kd.R_lit k27 (w0 := w) w.heap.size 27 ?hg (N := 5) ?hd (xs := ([] : List (S27))) (inner := []) (ok := fun _ => True) (okp := fun _ => True) ?hr ?hp (fun _ hk => hk) trivial (Below.refl _ _) (Nat.le_refl _) (by simp) ?_; (case hd => rfl); (case hg => rfl); (case hr => first | (go_simp; done) | (go_simp; rfl)); (case hp => exact (Reps.none _ _)); intro v1 w1 ho1 hb1 hg_ hnew_; clear hg_ hnew_) | ((with_reducible refine gate_builtin (b := .append) (xs := #[.tmp 5, .tmp 6]) rfl ?_); at_builtin; refine Kd.R_append_rows k27 (w0 := w) w.heap.size rfl (.tmp 5) (.tmp 6) 31 27 ((.agg #[(.int .i64 0), (.int .i64 0), (.int .i64 0)])) 24 rfl Try.underlying31 info27 rfl (by decide) (by omega) v1 [] l0 _ _ _ (fun _ => True) (fun _ => False) rfl rfl ?aO ?aR (fun _ _ h => h) (fun _ h => h.elim) ?aF ?aB ?aS ?aL ?_; (case aR => exact Kd.C_below hr0 hb1); (case aB => exact hb1); (case aF => exact (fun _ _ => trivial)); (case aO => exact ho1); (case aS => exact below_size hb1); (case aL => simp only [List.length_nil]; omega); intro v2 w2 ho2 hb2 hg2 hat2))
   go_ret
   exact ⟨_, by first | rfl | (simp; done) | (simp <;> rfl), ho2, hb2⟩
 ·rw [if_neg hl] at h; cases h

end Go.Proofs.Ytbonkedecfjmdaa.P

namespace Go.Proofs.Ytbonkedecfjmdaa.P
open Go.RowKit Go.Proofs.YtbonkedecfjmdaaW.PrintWords Go.Proofs.YtbonkedecfjmdaaW.PrintLast Go.Proofs.YtbonkedecfjmdaaW.PrintMore Go.Proofs.Ytbonkedecfjmdaa.X
attribute [local go_sem] max2_int min2_int max_two min_two max_three min_three max_four min_four add64_0 add64_1 add64   -- for this text's walks alone
set_option linter.unusedVariables false
set_option linter.unusedSimpArgs false

/-! ### arc_Back: function 85 -/
def arc_Back.l0 : Nat → List (S27) → List (S27) → Int → Option ((List (S27)))
 | 0, _, _, _ => none
 | k + 1, x0, x3, x4 => if x4 ≥ 0 then (if 0 ≤ x4 then (if x4 < (x0.length : Int) then (if x3.length < 5864062014805 then (arc_Back.l0 k x0 (x3 ++ [(⟨(rd_T27 x0 x4).f0, (rd_T27 x0 x4).f1, (rd_T27 x0 x4).f2⟩ : S27)]) (wrap64 (x4 - 1))) else (none)) else (none)) else (none)) else (some x3)
def arc_Back.f (k : Nat) (l0 : List (S27)) : Option ((List (S27))) := arc_Back.l0 k l0 ([] : List (S27)) (wrap64 ((l0.length : Int) - 1))
theorem arc_Back.mono_l : ∀ k, (∀ y0 y1 y2, LeO (arc_Back.l0 k y0 y1 y2) (arc_Back.l0 (k + 1) y0 y1 y2))
 | 0 => fun _ _ _ r h => by simp [arc_Back.l0] at h
 | k + 1 => by
  have ih0 := arc_Back.mono_l k
  ·intro y0 y1 y2
   unfold arc_Back.l0
   repeat' first
   | (with_reducible exact ih0 _ _ _)
   | (with_reducible exact LeO.refl _)
   | (with_reducible exact LeO.none _)
   | (with_reducible refine LeO.ite ?_ ?_)
   | (with_reducible refine LeO.bind ?_ (fun _ => ?_))
   | exact ih0 _ _ _
   | exact LeO.none _
   | refine LeO.ite ?_ ?_
   | refine LeO.bind ?_ (fun _ => ?_)
theorem arc_Back.mono : ∀ a0 k, LeO (arc_Back.f k a0) (arc_Back.f (k + 1) a0) := by
 intro a0 k
 have ih0 := arc_Back.mono_l k
 unfold arc_Back.f
 repeat' first
   | (with_reducible exact ih0 _ _ _)
   | (with_reducible exact LeO.refl _)
   | (with_reducible exact LeO.none _)
   | (with_reducible refine LeO.ite ?_ ?_)
   | (with_reducible refine LeO.bind ?_ (fun _ => ?_))
   | exact ih0 _ _ _
   | exact LeO.none _
   | refine LeO.ite ?_ ?_
   | refine LeO.bind ?_ (fun _ => ?_)
set_option maxHeartbeats 8000000 in
set_option maxRecDepth 100000 in
theorem arc_Back.calls (k : Nat) (A0 : Option Addr) (c0 : Nat) (l0 : List (S27)) (r : List (S27)) (w : World) (hr0 : Kd.C k27 w A0 l0.length l0) (hc0 : l0.length ≤ c0) (h : arc_Back.f k l0 = some r) :
  Calls Try.prog 85 #[.slice A0 l0.length c0] w fun e w' => ∃ v0_ : Value, e = .returned (v0_) ∧ Kd.R k27 27 w' w.heap.size (fun _ => True) v0_ r ∧ Below w.heap.size w w' := by
 have hu27 := Try.underlying27
 have HR0 := Aside0.mk hr0
 have HC0 := Aside0.mk hc0
 clear hr0 hc0
 have HB := Aside0.mk (Below.refl w.heap.size w)
 have H : (arc_Back.l0 k l0 ([] : List (S27)) (wrap64 ((l0.length : Int) - 1))) = some r := h
 clear h
 have H' := Aside0.mk H
 clear H
 go_enter Try.func85, Try.ntmps85
 go_wp2
 go_loopg [3, 4] k (fun kq v3 v4 w' => ∃ (x3_1 : List (S27)) (x4_1 : Int), v4 = .int .i64 x4_1 ∧ Aside0 (arc_Back.l0 kq l0 x3_1 x4_1 = some r) ∧ Aside0 (kq ≤ k) ∧ Aside0 (Kd.R k27 27 w' w.heap.size (fun _ => True) v3 x3_1) ∧ Aside0 (Below w.heap.size w w'))
 case atStart => exact ⟨(([] : List (S27))), (wrap64 ((l0.length : Int) - 1)), (by first | rfl | (simp; done) | (simp [*]; done)), H', ⟨Nat.le_refl _⟩, ⟨by first | exact Kd.R_nil _ _ _ _ _ | exact Kd.N_nil _ _ _ _ _ | exact Kd.V_nil _ _ _ _ _ | exact Kd.Q_nil _ _ _ _ _ | exact Kd.S_nil _ _ _ _ _⟩, ⟨ bH HB⟩⟩
 case round =>
  clear H'
  obtain ⟨x3_1, x4_1, rfl, HA, HK1, HO_3, HB⟩ := hrel
  cases gk with
  | zero => exact absurd HA.out (by simp [arc_Back.l0])
  | succ k1 =>
   have H := HA.out
   clear HA
   simp only [arc_Back.l0] at H
   by_cases c2 : x4_1 ≥ 0
   ·rw [if_pos c2] at H
    have c2b0 : decide (0 ≤ x4_1) = true := decide_eq_true c2
    clear c2
    by_cases c3 : 0 ≤ x4_1
    ·rw [if_pos c3] at H
     have c3b0 : decide (0 ≤ x4_1) = true := decide_eq_true c3
     clear c3
     by_cases c4 : x4_1 < (l0.length : Int)
     ·rw [if_pos c4] at H
      have c4b0 : decide (x4_1 < (l0.length : Int)) = true := decide_eq_true c4
      clear c4
      by_cases c5 : x3_1.length < 5864062014805
      ·rw [if_pos c5] at H
       have LMc5 := Aside0.mk c5
       clear c5
       obtain ⟨y483, hy483⟩ : ∃ y_ : List (S27), y_ = (x3_1 ++ [(⟨(rd_T27 l0 x4_1).f0, (rd_T27 l0 x4_1).f1, (rd_T27 l0 x4_1).f2⟩ : S27)]) := ⟨_, rfl⟩
       replace H : (arc_Back.l0 k1 l0 y483 (wrap64 (x4_1 - 1))) = some r := by first | (rw [hy483]; with_reducible exact H) | (have H2_ := (Option.bind_some _ _).symm.trans H; rw [hy483]; with_reducible exact H2_) | (have H2_ := (Option.bind_some _ _).symm.trans H; with_reducible exact H2_) | with_reducible exact H | (rw [hy483]; exact H) | exact H
       have Ny483 := Aside0.mk hy483
       clear hy483
       have H' := Aside0.mk H
       clear H
       have p482 : 0 ≤ (x4_1 : Int) := of_decide_eq_true (by first | (with_reducible assumption) | assumption)
       have q482 : x4_1 < (l0.length : Int) := of_decide_eq_true (by first | (with_reducible assumption) | assumption)
       obtain ⟨ad482, e482, hx482_0, hx482_1, hx482_2⟩ := at_T27 HR0.out x4_1 p482 q482
       cases e482
       replace hx482_0 := (HB.out.cell (World.block_lt_of_cell? w _ hx482_0)).trans hx482_0
       replace hx482_1 := (HB.out.cell (World.block_lt_of_cell? w _ hx482_1)).trans hx482_1
       replace hx482_2 := (HB.out.cell (World.block_lt_of_cell? w _ hx482_2)).trans hx482_2
       replace p482 := eq_true p482
       replace q482 := eq_true q482
       go_wp2_with (first | ((with_reducible refine gate_builtin (b := .append) (xs := #[.tmp 12, .tmp 17]) rfl ?_); at_builtin; refine Kd.R_append k27 (w0 := w) w.heap.size rfl (.tmp 12) (.tmp 17) 31 27 (.agg #[(.int .i64 0), (.int .i64 0), (.int .i64 0)]) 24 rfl Try.underlying31 info27 rfl (by decide) (by omega) u3 x3_1 (⟨(rd_T27 l0 x4_1).f0, (rd_T27 l0 x4_1).f1, (rd_T27 l0 x4_1).f2⟩ : S27) [.int .i64 ((rd_T27 l0 x4_1).f0), .int .i64 ((rd_T27 l0 x4_1).f1), .int .i64 ((rd_T27 l0 x4_1).f2)] (fun _ => True) (fun _ => False) rfl rfl ?aP (fun _ hk => hk.elim) ?aF ?aO ?aB ?aS ?aL ?_; (case aP => exact k27_mkM _ _ _ (⟨(rd_T27 l0 x4_1).f0, (rd_T27 l0 x4_1).f1, (rd_T27 l0 x4_1).f2⟩ : S27)); (case aB => exact (bH HB)); (case aF => exact (fun _ _ => trivial)); (case aO => exact (rK HO_3)); (case aS => exact (below_size (bH HB))); (case aL => have := LMc5.out; omega); intro v484 w6 ho hb hg hat; rw [← Ny483.out] at ho; have n0_ := Aside0.mk (hb); have n1_ := Aside0.mk (ho); clear HB; clear HO_3; have HB := n0_; have HO485 := n1_; clear n0_ n1_; clear ho hb hg hat))
       go_roundg k1
       case measure => have := HK1.out; omega
       case rel => exact ⟨(y483), (wrap64 (x4_1 - 1)), (by first | rfl | (simp; done) | (simp [*]; done)), H', ⟨by have := HK1.out; omega⟩, ⟨by (with_reducible repeat (first | apply Kd.R_alloc | apply Kd.R_drewN | apply Kd.R_drew)); exact HO485.out⟩, ⟨ bH HB⟩⟩
      ·rw [if_neg c5] at H
       exact absurd H (by simp)
     ·rw [if_neg c4] at H
      exact absurd H (by simp)
    ·rw [if_neg c3] at H
     exact absurd H (by simp)
   ·rw [if_neg c2] at H
    have c2b0 : decide (0 ≤ x4_1) = false := decide_eq_false c2
    clear c2
    obtain rfl := Option.some.inj H
    go_wp2
    go_ret
    exact ⟨_, by first | rfl | (simp [errW_none, errW_some] <;> rfl) | (simp [*, errW_none, errW_some] <;> rfl), by (with_reducible repeat (first | apply Kd.R_alloc | apply Kd.R_drewN | apply Kd.R_drew)); exact HO_3.out, bH HB⟩

end Go.Proofs.Ytbonkedecfjmdaa.P

namespace Go.Proofs.Ytbonkedecfjmdaa.P
open Go.RowKit Go.Proofs.YtbonkedecfjmdaaW.PrintWords Go.Proofs.YtbonkedecfjmdaaW.PrintLast Go.Proofs.YtbonkedecfjmdaaW.PrintMore Go.Proofs.Ytbonkedecfjmdaa.X
attribute [local go_sem] max2_int min2_int max_two min_two max_three min_three max_four min_four add64_0 add64_1 add64   -- for this text's walks alone
set_option linter.unusedVariables false
set_option linter.unusedSimpArgs false

/-! ### ring_Arc: function 78 -/
def ring_Arc.j0 : Nat → Int → Bool → List (List (S27)) → List (List Int) → List (List Int) → Option ((List (S27)) × Int)
 | 0, _, _, _, _, _ => none
 | k + 1, x1, x6, x487000, x487001, x487002 => if x1 ≥ (x487000.length : Int) then (some (([] : List (S27)), 2)) else (if x6 = true then (if 0 ≤ x1 then (if x1 < (x487000.length : Int) then ((arc_Back.f k (rd_L2 x487000 x1)).bind fun t488 => (some (t488, 0))) else (none)) else (none)) else (if 0 ≤ x1 then (if x1 < (x487000.length : Int) then ((api_Point_72.f (rd_L2 x487000 x1)).bind fun t492 => (some (t492, 0))) else (none)) else (none)))
def ring_Arc.f (k : Nat) (l0_0 : List (List (S27))) (l0_1 : List (List Int)) (l0_2 : List (List Int)) (a1 : Int) : Option ((List (S27)) × Int) := if a1 < 0 then (ring_Arc.j0 k (Go.bits .xor .i64 (-1) a1) (decide (a1 < 0)) l0_0 l0_1 l0_2) else (ring_Arc.j0 k a1 (decide (a1 < 0)) l0_0 l0_1 l0_2)
theorem ring_Arc.mono_l : ∀ k, (∀ y0 y1 y2 y3 y4, LeO (ring_Arc.j0 k y0 y1 y2 y3 y4) (ring_Arc.j0 (k + 1) y0 y1 y2 y3 y4))
 | 0 => fun _ _ _ _ _ r h => by simp [ring_Arc.j0] at h
 | k + 1 => by
  have ih0 := ring_Arc.mono_l k
  ·intro y0 y1 y2 y3 y4
   unfold ring_Arc.j0
   repeat' first
   | (with_reducible exact ih0 _ _ _ _ _)
   | (with_reducible exact arc_Back.mono _ _)
   | (with_reducible exact LeO.refl _)
   | (with_reducible exact LeO.none _)
   | (with_reducible refine LeO.ite ?_ ?_)
   | (with_reducible refine LeO.bind ?_ (fun _ => ?_))
   | exact ih0 _ _ _ _ _
   | exact arc_Back.mono _ _
   | exact LeO.none _
   | refine LeO.ite ?_ ?_
   | refine LeO.bind ?_ (fun _ => ?_)
theorem ring_Arc.mono : ∀ a0 a1 a2 a3 k, LeO (ring_Arc.f k a0 a1 a2 a3) (ring_Arc.f (k + 1) a0 a1 a2 a3) := by
 intro a0 a1 a2 a3 k
 have ih0 := ring_Arc.mono_l k
 unfold ring_Arc.f
 repeat' first
   | (with_reducible exact ih0 _ _ _ _ _)
   | (with_reducible exact arc_Back.mono _ _)
   | (with_reducible exact LeO.refl _)
   | (with_reducible exact LeO.none _)
   | (with_reducible refine LeO.ite ?_ ?_)
   | (with_reducible refine LeO.bind ?_ (fun _ => ?_))
   | exact ih0 _ _ _ _ _
   | exact arc_Back.mono _ _
   | exact LeO.none _
   | refine LeO.ite ?_ ?_
   | refine LeO.bind ?_ (fun _ => ?_)
set_option maxHeartbeats 8000000 in
set_option maxRecDepth 100000 in
theorem ring_Arc.calls (k : Nat) (A0_0 : Option Addr) (c0_0 : Nat) (l0_0 : List (List (S27))) (A0_1 : Option Addr) (c0_1 : Nat) (l0_1 : List (List Int)) (A0_2 : Option Addr) (c0_2 : Nat) (l0_2 : List (List Int)) (a1 : Int) (r1 : List (S27)) (r2 : Int) (w : World) (hr0_0 : Kd.C (Kd.slice 27 k27) w A0_0 l0_0.length l0_0) (hc0_0 : l0_0.length ≤ c0_0) (hr0_1 : Kd.C (Kd.slice 3 (Kd.int .i64)) w A0_1 l0_1.length l0_1) (hc0_1 : l0_1.length ≤ c0_1) (hr0_2 : Kd.C (Kd.slice 3 (Kd.int .i64)) w A0_2 l0_2.length l0_2) (hc0_2 : l0_2.length ≤ c0_2) (h : ring_Arc.f k l0_0 l0_1 l0_2 a1 = some (r1, r2)) :
  Calls Try.prog 78 #[.agg #[.slice A0_0 l0_0.length c0_0, .slice A0_1 l0_1.length c0_1, .slice A0_2 l0_2.length c0_2], .int .i64 a1] w fun e w' => ∃ v0_ : Value, e = .returned (.tuple #[v0_, .int .i64 r2]) ∧ Kd.R k27 27 w' w.heap.size (fun _ => True) v0_ r1 ∧ Below w.heap.size w w' := by
 have hu25 := Try.underlying25
 have HR0_0 := Aside0.mk hr0_0
 have HC0_0 := Aside0.mk hc0_0
 clear hr0_0 hc0_0
 have HR0_1 := Aside0.mk hr0_1
 have HC0_1 := Aside0.mk hc0_1
 clear hr0_1 hc0_1
 have HR0_2 := Aside0.mk hr0_2
 have HC0_2 := Aside0.mk hc0_2
 clear hr0_2 hc0_2
 have HB := Aside0.mk (Below.refl w.heap.size w)
 have H : (if a1 < 0 then (ring_Arc.j0 k (Go.bits .xor .i64 (-1) a1) (decide (a1 < 0)) l0_0 l0_1 l0_2) else (ring_Arc.j0 k a1 (decide (a1 < 0)) l0_0 l0_1 l0_2)) = some (r1, r2) := h
 clear h
 have HC3 := Aside0.mk H
 clear H
 go_enter Try.func78, Try.ntmps78
 go_upto_if 9 with (first | ((with_reducible refine gate_dst (N := 2) rfl ?_); refine box_event ?hg (N := 2) ?hd (cs := #[.slice A0_0 l0_0.length c0_0, .slice A0_1 l0_1.length c0_1, .slice A0_2 l0_2.length c0_2]) (t := 25) ?hr ?_; (case hd => rfl); (case hg => rfl); (case hr => first | (go_simp; done) | (go_simp; rfl)); intro gb486 hg w4 hbox hb; have n0_ := Aside0.mk (below_step (bH HB) hb); have n1_ := Aside0.mk (hbox); have n2_ := Aside0.mk ((by rw [hg]; exact (below_size (bH HB)) : w.heap.size ≤ gb486)); have n3_ := n2_; clear HB; have HB := n0_; have BK486 := n1_; have GW486 := n2_; have GE486 := n3_; clear n0_ n1_ n2_ n3_; clear hb hbox hg))
 (try simp only [Act.put, List.setIfInBounds_toArray, List.set_cons_zero, List.set_cons_succ])
 go_cut [1] (fun v1 wc => ∃ (kq : Nat) (x1_2 : Int), v1 = .int .i64 x1_2 ∧ Aside0 (ring_Arc.j0 kq x1_2 (decide (a1 < 0)) l0_0 l0_1 l0_2 = some (r1, r2)) ∧ Aside0 (kq ≤ k) ∧ Aside0 (wc.heap[gb486]? = some (.cells #[(.slice A0_0 l0_0.length c0_0), (.slice A0_1 l0_1.length c0_1), (.slice A0_2 l0_2.length c0_2)] 25 (0, 0))) ∧ Aside0 (Below w.heap.size w wc))
 case first =>
  have H := HC3.out
  clear HC3
  by_cases c5 : a1 < 0
  ·rw [if_pos c5] at H
   have c5b0 : decide (a1 < 0) = true := decide_eq_true c5
   clear c5
   (first | rw [c5b0] | (simp only [i64_w, i32_w]; rw [c5b0]) | skip)
   have H' := Aside0.mk H
   clear H
   go_wp2
   (try rw [← c5b0])
   go_meet
   case rel => exact ⟨_, (Go.bits .xor .i64 (-1) a1), (by first | rfl | (simp; done) | (simp [*]; done)), H', ⟨by first | omega | exact Nat.le_refl _⟩, ⟨bK BK486⟩, ⟨ bH HB⟩⟩
  ·rw [if_neg c5] at H
   have c5b0 : decide (a1 < 0) = false := decide_eq_false c5
   clear c5
   (first | rw [c5b0] | (simp only [i64_w, i32_w]; rw [c5b0]) | skip)
   have H' := Aside0.mk H
   clear H
   go_wp2
   (try rw [← c5b0])
   go_meet
   case rel => exact ⟨_, (a1), (by first | rfl | (simp; done) | (simp [*]; done)), H', ⟨by first | omega | exact Nat.le_refl _⟩, ⟨bK BK486⟩, ⟨ bH HB⟩⟩
 case rest =>
  clear HC3
  try clear p2
  try clear c5
  try clear c5b0
  obtain ⟨kq, x1_2, rfl, HA, HJ2, BK486, HB⟩ := hcut
  cases kq with
  | zero => exact absurd HA.out (by simp [ring_Arc.j0])
  | succ kj2 =>
   have H := HA.out
   clear HA
   simp only [ring_Arc.j0] at H
   by_cases c6 : x1_2 ≥ (l0_0.length : Int)
   ·rw [if_pos c6] at H
    have c6b0 : decide ((l0_0.length : Int) ≤ x1_2) = true := decide_eq_true c6
    clear c6
    simp only [Option.some.injEq, Prod.mk.injEq] at H
    obtain ⟨rfl, rfl⟩ := H
    have hcz7_0 : wc.cell? ⟨gb486, 0, none⟩ = some (.slice A0_0 l0_0.length c0_0) := (blk_cell BK486.out 0).trans rfl
    have hcz7_1 : wc.cell? ⟨gb486, 1, none⟩ = some (.slice A0_1 l0_1.length c0_1) := (blk_cell BK486.out 1).trans rfl
    have hcz7_2 : wc.cell? ⟨gb486, 2, none⟩ = some (.slice A0_2 l0_2.length c0_2) := (blk_cell BK486.out 2).trans rfl
    have hfz7_0 := blk_frozen BK486.out 0
    have hfz7_1 := blk_frozen BK486.out 1
    have hfz7_2 := blk_frozen BK486.out 2
    go_wp2
    go_ret2
    exact ⟨_, by first | rfl | (simp [errW_none, errW_some] <;> rfl) | (simp [*, errW_none, errW_some] <;> rfl), by first | exact Kd.R_nil _ _ _ _ _ | exact Kd.N_nil _ _ _ _ _ | exact Kd.V_nil _ _ _ _ _ | exact Kd.Q_nil _ _ _ _ _ | exact Kd.S_nil _ _ _ _ _, bH HB⟩
   ·rw [if_neg c6] at H
    have c6b0 : decide ((l0_0.length : Int) ≤ x1_2) = false := decide_eq_false c6
    clear c6
    by_cases c8 : (decide (a1 < 0)) = true
    ·rw [if_pos c8] at H
     have c8b0 : (decide (a1 < 0)) = true := c8
     (try rw [c8b0])
     clear c8
     by_cases c9 : 0 ≤ x1_2
     ·rw [if_pos c9] at H
      have c9b0 : decide (0 ≤ x1_2) = true := decide_eq_true c9
      clear c9
      by_cases c10 : x1_2 < (l0_0.length : Int)
      ·rw [if_pos c10] at H
       have c10b0 : decide (x1_2 < (l0_0.length : Int)) = true := decide_eq_true c10
       clear c10
       replace H := Option.bind_eq_some_iff.mp H
       obtain ⟨t488, A110, H⟩ := H
       replace H : (some (t488, 0)) = some (r1, r2) := H
       have A11 := Aside0.mk A110
       clear A110
       simp only [Option.some.injEq, Prod.mk.injEq] at H
       obtain ⟨rfl, rfl⟩ := H
       have hcz12_0 : wc.cell? ⟨gb486, 0, none⟩ = some (.slice A0_0 l0_0.length c0_0) := (blk_cell BK486.out 0).trans rfl
       have hcz12_1 : wc.cell? ⟨gb486, 1, none⟩ = some (.slice A0_1 l0_1.length c0_1) := (blk_cell BK486.out 1).trans rfl
       have hcz12_2 : wc.cell? ⟨gb486, 2, none⟩ = some (.slice A0_2 l0_2.length c0_2) := (blk_cell BK486.out 2).trans rfl
       have hfz12_0 := blk_frozen BK486.out 0
       have hfz12_1 := blk_frozen BK486.out 1
       have hfz12_2 := blk_frozen BK486.out 2
       have p487 : 0 ≤ (x1_2 : Int) := of_decide_eq_true (by first | (with_reducible assumption) | assumption)
       have q487 : x1_2 < (l0_0.length : Int) := of_decide_eq_true (by first | (with_reducible assumption) | assumption)
       obtain ⟨ad487, A487_0, c487_0, e487, hx487_0, hl487_0, hi487_0⟩ := at_L2 HR0_0.out x1_2 p487 q487
       cases e487
       replace hx487_0 := (HB.out.cell (World.block_lt_of_cell? w _ hx487_0)).trans hx487_0
       have HR487_0 := Aside0.mk hi487_0
       have HC487_0 := Aside0.mk hl487_0
       clear hi487_0 hl487_0
       replace p487 := eq_true p487
       replace q487 := eq_true q487
       go_wp2_with (first | ((with_reducible refine gate_callee (f := 85) rfl ?_); refine goesL_ (some 23) rfl rfl Try.func85 (by kernel_rfl) rfl #[.slice A487_0 (rd_L2 l0_0 x1_2).length c487_0] rfl (by (try simp only [List.map_toArray, List.map_cons, List.map_nil]); first | done | rfl | (simp only [List.length_drop, List.length_take]; rfl)) ?_; (with_reducible refine (arc_Back.calls kj2 _ _ (rd_L2 l0_0 x1_2) t488 _ ?side1 ?side2 A11.out).mono ?_); (case side1 => repeat (first | exact (Kd.C_below HR487_0.out HB.out) | (with_reducible refine Kd.C_alloc ?_ _) | (with_reducible refine Kd.C_drewN ?_ _) | (with_reducible refine Kd.C_drew ?_))); (case side2 => exact HC487_0.out); rintro e w13 ⟨v489, rfl, ho0, hb⟩; refine ⟨_, rfl, ?_⟩; have n0_ := Aside0.mk (Kd.R_lower ho0 (below_size (bH HB))); have n1_ := Aside0.mk (blk_below (g := gb486) (o := .cells #[.slice (some ad487) l0_0.length c0_0, .slice A0_1 l0_1.length c0_1, .slice A0_2 l0_2.length c0_2] 25 (0, 0)) (bK BK486) hb); have n2_ := Aside0.mk (below_step (bH HB) hb); clear BK486; clear HB; have HO490 := n0_; have BK486 := n1_; have HB := n2_; clear n0_ n1_ n2_; (try clear hb); (try clear hb2); (try clear hk); (try clear hi); (try clear ho0)))
       go_ret2
       exact ⟨_, by first | rfl | (simp [errW_none, errW_some] <;> rfl) | (simp [*, errW_none, errW_some] <;> rfl), by (with_reducible repeat (first | apply Kd.R_alloc | apply Kd.R_drewN | apply Kd.R_drew)); exact HO490.out, bH HB⟩
      ·rw [if_neg c10] at H
       exact absurd H (by simp)
     ·rw [if_neg c9] at H
      exact absurd H (by simp)
    ·rw [if_neg c8] at H
     have c8b0 : (decide (a1 < 0)) = false := by simpa using c8
     (try rw [c8b0])
     clear c8
     by_cases c14 : 0 ≤ x1_2
     ·rw [if_pos c14] at H
      have c14b0 : decide (0 ≤ x1_2) = true := decide_eq_true c14
      clear c14
      by_cases c15 : x1_2 < (l0_0.length : Int)
      ·rw [if_pos c15] at H
       have c15b0 : decide (x1_2 < (l0_0.length : Int)) = true := decide_eq_true c15
       clear c15
       replace H := Option.bind_eq_some_iff.mp H
       obtain ⟨t492, A160, H⟩ := H
       replace H : (some (t492, 0)) = some (r1, r2) := H
       have A16 := Aside0.mk A160
       clear A160
       simp only [Option.some.injEq, Prod.mk.injEq] at H
       obtain ⟨rfl, rfl⟩ := H
       have hcz17_0 : wc.cell? ⟨gb486, 0, none⟩ = some (.slice A0_0 l0_0.length c0_0) := (blk_cell BK486.out 0).trans rfl
       have hcz17_1 : wc.cell? ⟨gb486, 1, none⟩ = some (.slice A0_1 l0_1.length c0_1) := (blk_cell BK486.out 1).trans rfl
       have hcz17_2 : wc.cell? ⟨gb486, 2, none⟩ = some (.slice A0_2 l0_2.length c0_2) := (blk_cell BK486.out 2).trans rfl
       have hfz17_0 := blk_frozen BK486.out 0
       have hfz17_1 := blk_frozen BK486.out 1
       have hfz17_2 := blk_frozen BK486.out 2
       have p491 : 0 ≤ (x1_2 : Int) := of_decide_eq_true (by first | (with_reducible assumption) | assumption)
       have q491 : x1_2 < (l0_0.length : Int) := of_decide_eq_true (by first | (with_reducible assumption) | assumption)
       obtain ⟨ad491, A491_0, c491_0, e491, hx491_0, hl491_0, hi491_0⟩ := at_L2 HR0_0.out x1_2 p491 q491
       cases e491
       replace hx491_0 := (HB.out.cell (World.block_lt_of_cell? w _ hx491_0)).trans hx491_0
       have HR491_0 := Aside0.mk hi491_0
       have HC491_0 := Aside0.mk hl491_0
       clear hi491_0 hl491_0
       replace p491 := eq_true p491
       replace q491 := eq_true q491
       go_wp2_with (first | ((with_reducible refine gate_callee (f := 72) rfl ?_); refine goesL_ (some 29) rfl rfl Try.func72 (by kernel_rfl) rfl #[.slice A491_0 (rd_L2 l0_0 x1_2).length c491_0] rfl (by (try simp only [List.map_toArray, List.map_cons, List.map_nil]); first | done | rfl | (simp only [List.length_drop, List.length_take]; rfl)) ?_; (with_reducible refine (api_Point_72.calls _ _ (rd_L2 l0_0 x1_2) t492 _ ?side1 ?side2 A16.out).mono ?_); (case side1 => repeat (first | exact (Kd.C_below HR491_0.out HB.out) | (with_reducible refine Kd.C_alloc ?_ _) | (with_reducible refine Kd.C_drewN ?_ _) | (with_reducible refine Kd.C_drew ?_))); (case side2 => exact HC491_0.out); rintro e w18 ⟨v493, rfl, ho0, hb⟩; refine ⟨_, rfl, ?_⟩; have n0_ := Aside0.mk (Kd.R_lower ho0 (below_size (bH HB))); have n1_ := Aside0.mk (blk_below (g := gb486) (o := .cells #[.slice (some ad491) l0_0.length c0_0, .slice A0_1 l0_1.length c0_1, .slice A0_2 l0_2.length c0_2] 25 (0, 0)) (bK BK486) hb); have n2_ := Aside0.mk (below_step (bH HB) hb); clear BK486; clear HB; have HO494 := n0_; have BK486 := n1_; have HB := n2_; clear n0_ n1_ n2_; (try clear hb); (try clear hb2); (try clear hk); (try clear hi); (try clear ho0)))
       go_ret2
       exact ⟨_, by first | rfl | (simp [errW_none, errW_some] <;> rfl) | (simp [*, errW_none, errW_some] <;> rfl), by (with_reducible repeat (first | apply Kd.R_alloc | apply Kd.R_drewN | apply Kd.R_drew)); exact HO494.out, bH HB⟩
      ·rw [if_neg c15] at H
       exact absurd H (by simp)
     ·rw [if_neg c14] at H
      exact absurd H (by simp)

end Go.Proofs.Ytbonkedecfjmdaa.P
