/- geom.On walked. No condition. Written for this claim by a program of this session (a turned copy of the print): Go functions as Lean functions, and that the Go code comes to just these answers; or a statement proved out of them. No condition. -/
import Derived.Test.YtbonkedecfjmdaaZ10
import Derived.Test.YtbonkedecfjmdaaZ2

namespace Go.Proofs.Ytbonkedecfjmdaa.Pl
set_option linter.unusedVariables false
set_option linter.unusedSimpArgs false
open Go Go.RowKit Go.Proofs.Ytbonkedecfjmdaa.P Go.Proofs.Ytbonkedecfjmdaa.G Go.Proofs.Ytbonkedecfjmdaa.WL Go.Proofs.YtbonkedecfjmdaaW.PrintWords Go.Proofs.YtbonkedecfjmdaaW.PrintLast Go.Proofs.YtbonkedecfjmdaaW.PrintMore

abbrev ptO (a : Pt) : Obj := .cells #[.int .i64 a.f0, .int .i64 a.f1, .int .i64 a.f2] 27
abbrev ptA (a : Pt) : Value := .agg #[.int .i64 a.f0, .int .i64 a.f1, .int .i64 a.f2]
/-- A point in its own block. -/
def At (w : World) (g : Nat) (a : Pt) : Prop := w.heap[g]? = some (.cells #[.int .i64 a.f0, .int .i64 a.f1, .int .i64 a.f2] 27 (0, 0))
theorem At.c0 {w g a} (h : At w g a) : w.cell? ⟨g, 0, none⟩ = some (.int .i64 a.f0) := (blk_cell h 0).trans rfl
theorem At.c1 {w g a} (h : At w g a) : w.cell? ⟨g, 1, none⟩ = some (.int .i64 a.f1) := (blk_cell h 1).trans rfl
theorem At.c2 {w g a} (h : At w g a) : w.cell? ⟨g, 2, none⟩ = some (.int .i64 a.f2) := (blk_cell h 2).trans rfl
theorem At.below {w w' : World} {g : Nat} {a : Pt} (h : At w g a) (hb : Below w.heap.size w w') : At w' g a := blk_below h hb
theorem At.old {w : World} {g a} (h : At w g a) (x : Obj) : At (w.alloc x) g a := (heap_alloc_old _ _ (blk_lt h)).trans h
theorem At.new (w : World) (a : Pt) : At (w.alloc (ptO a)) w.heap.size a := heap_alloc_new _ _
theorem box3 (w : World) (a b c : Pt) : ∃ W, W = ((w.alloc (ptO a)).alloc (ptO b)).alloc (ptO c) ∧ W.heap.size = w.heap.size + 3 ∧ At W w.heap.size a ∧ At W (w.heap.size + 1) b ∧ At W (w.heap.size + 1 + 1) c ∧ Below w.heap.size w W := by
  have s1 : (w.alloc (ptO a)).heap.size = w.heap.size + 1 := by simp
  have s2 : ((w.alloc (ptO a)).alloc (ptO b)).heap.size = w.heap.size + 1 + 1 := by simp
  have h2 := At.new (w.alloc (ptO a)) b
  have h3 := At.new ((w.alloc (ptO a)).alloc (ptO b)) c
  rw [s1] at h2
  rw [s2] at h3
  exact ⟨_, rfl, by simp, ((At.new w a).old _).old _, h2.old _, h3, (((Below.refl _ w).alloc (Nat.le_refl _) _).alloc (by rw [s1]; omega) _).alloc (by rw [s2]; omega) _⟩
/-- Three points in one block. -/
def Li (w : World) (g : Nat) (p q r : Pt) : Prop := w.heap[g]? = some (.cells #[.int .i64 p.f0, .int .i64 p.f1, .int .i64 p.f2, .int .i64 q.f0, .int .i64 q.f1, .int .i64 q.f2, .int .i64 r.f0, .int .i64 r.f1, .int .i64 r.f2] 27 (0, 0))
theorem Li.C {w : World} {g : Nat} {p q r : Pt} (hg : Li w g p q r) : Kd.C k27 w (some ⟨g, 0, none⟩) 3 [p, q, r] := by
  refine ⟨rfl, by simp, fun _ => ⟨⟨g, 0, none⟩, rfl, fun j x hx => ?_⟩⟩
  have c := fun i => cell_of_row w g i _ _ _ hg
  have ad : ∀ i : Nat, (Addr.add ⟨g, 0, none⟩ i) = ⟨g, i, none⟩ := fun i => by rw [Addr.add_mid]; simp
  have hk : ∀ x : Pt, k27.K w x [.int .i64 x.f0, .int .i64 x.f1, .int .i64 x.f2] := fun x => ⟨_, _, rfl, rfl, ⟨_, _, rfl, rfl, rfl⟩⟩
  have hj : j < 3 := by
    rcases Nat.lt_or_ge j 3 with h | h
    · exact h
    · rw [List.getElem?_eq_none (by simpa using h)] at hx; cases hx
  refine ⟨_, rfl, hk x, fun i u hu => ?_⟩
  have hi : i < 3 := by
    rcases Nat.lt_or_ge i 3 with h | h
    · exact h
    · rw [List.getElem?_eq_none (by simpa using h)] at hu; cases hu
  rw [show j * k27.sz + i = j * 3 + i from rfl, ad, c]
  rcases j with _ | _ | _ | j <;> rcases i with _ | _ | _ | i <;> first | omega | (simp at hx hu; subst hx; subst hu; rfl)
theorem lit3b {ops : Array Oper} {rest : List Oper} {o : Oper} {a : Act} {Q : Exit → Act → World → Prop} {W : World} (hgd : o.guard = none) {N : Tmp} (hd : o.dst = some N) (p q r : Pt)
    (hrun : (execOp a.eval o).run Try.prog W = .ok (.value (.slice (some ⟨W.heap.size, 0, none⟩) 3 3)) (W.alloc (.cells #[.int .i64 p.f0, .int .i64 p.f1, .int .i64 p.f2, .int .i64 q.f0, .int .i64 q.f1, .int .i64 q.f2, .int .i64 r.f0, .int .i64 r.f1, .int .i64 r.f2] 27)))
    (h : ∀ w1, Li w1 W.heap.size p q r → Below W.heap.size W w1 → wpList Try.prog ops Q rest (a.put o.dst (.slice (some ⟨W.heap.size, 0, none⟩) 3 3)) w1) : wpList Try.prog ops Q (o :: rest) a W :=
  Kd.event_run hgd hrun (h _ (heap_alloc_new W _) ((Below.refl _ W).alloc (Nat.le_refl _) _))
theorem lit3 {ops : Array Oper} {rest : List Oper} {o : Oper} {a : Act} {Q : Exit → Act → World → Prop} {W : World} (hgd : o.guard = none) {N : Tmp} (hd : o.dst = some N) (p q r : Pt)
    (hrun : (execOp a.eval o).run Try.prog W = .ok (.value (.slice (some ⟨W.heap.size, 0, none⟩) 3 3)) (W.alloc (.cells #[.int .i64 p.f0, .int .i64 p.f1, .int .i64 p.f2, .int .i64 q.f0, .int .i64 q.f1, .int .i64 q.f2, .int .i64 r.f0, .int .i64 r.f1, .int .i64 r.f2] 27)))
    (h : ∀ w1, Kd.C k27 w1 (some ⟨W.heap.size, 0, none⟩) 3 [p, q, r] → Below W.heap.size W w1 → wpList Try.prog ops Q rest (a.put o.dst (.slice (some ⟨W.heap.size, 0, none⟩) 3 3)) w1) : wpList Try.prog ops Q (o :: rest) a W :=
  lit3b hgd hd p q r hrun fun w1 hl hb => h w1 hl.C hb
theorem rt_all3 (p a b : Pt) : [p, a, b].all rt = (rt p && (rt a && rt b)) := by simp
set_option maxHeartbeats 8000000 in
set_option maxRecDepth 100000 in
theorem on_calls (p a b : Pt) (w : World) : Calls Try.prog 59 #[ptA p, ptA a, ptA b] w fun e w' => e = .returned (.bool (onB p a b)) ∧ Below w.heap.size w w' := by
  have hu27 := Try.underlying27
  obtain ⟨K, hK⟩ := gRight_ev [p, a, b] (by simp)
  have hright : ∀ W A, Kd.C k27 W A 3 [p, a, b] → Calls Try.prog 32 #[.slice A 3 3] W fun e w' => e = .returned (.bool (rt p && (rt a && rt b))) ∧ Below W.heap.size W w' := fun W A hC => by
    have := geom_Right.calls K A 3 [p, a, b] _ W hC (Nat.le_refl _) (hK K (Nat.le_refl _))
    rw [rt_all3] at this
    exact this
  have hon : onB p a b = (rt p && (rt a && (rt b && decide (cross a b p = 0 ∧ (min a.f0 b.f0 ≤ p.f0 ∧ p.f0 ≤ max a.f0 b.f0) ∧ (min a.f1 b.f1 ≤ p.f1 ∧ p.f1 ≤ max a.f1 b.f1))))) := rfl
  have hturn : (rt p && (rt a && rt b)) = true → ∀ W, Calls Try.prog 60 #[ptA a, ptA b, ptA p] W fun e w' => e = .returned (.int .i64 (side a b p)) ∧ Below W.heap.size W w' := fun h W => by
    simp only [Bool.and_eq_true] at h
    obtain ⟨K2, hK2⟩ := gturn_ev h.2.1 h.2.2 h.1
    exact geom_turn.calls K2 _ _ _ _ _ _ _ _ _ _ W (hK2 K2 (Nat.le_refl _))
  obtain ⟨W, hW, hsz, gp, ga, gb, hB⟩ := box3 w p a b
  have HT := Aside0.mk hturn
  have HON := Aside0.mk hon
  clear hK hturn hon
  generalize onB p a b = R at *
  go_enter Try.func59, Try.ntmps59
  go_upto_region 1 with (go_step3)
  rw [← hW]
  clear hW hsz
  have x0 := gp.c0
  have x1 := gp.c1
  have x2 := gp.c2
  have y0 := ga.c0
  have y1 := ga.c1
  have y2 := ga.c2
  have z0 := gb.c0
  have z1 := gb.c1
  have z2 := gb.c2
  by_cases h : (rt p && (rt a && rt b)) = true
  · have hr := hright
    rw [h] at hr
    have ht := HT.out h
    simp only [Bool.and_eq_true] at h
    have HON2 := Aside0.mk (show R = decide (cross a b p = 0 ∧ (min a.f0 b.f0 ≤ p.f0 ∧ p.f0 ≤ max a.f0 b.f0) ∧ (min a.f1 b.f1 ≤ p.f1 ∧ p.f1 ≤ max a.f1 b.f1)) by rw [HON.out, h.1, h.2.1, h.2.2]; rfl)
    have hs0 : side a b p = 0 ↔ cross a b p = 0 := side0
    clear hright HON HT h
    generalize side a b p = s at *
    generalize cross a b p = c at *
    obtain ⟨a0, a1, a2⟩ := a
    obtain ⟨b0, b1, b2⟩ := b
    obtain ⟨p0, p1, p2⟩ := p
    simp only at *
    have hmin : ∀ u v : Int, (if v < u then v else u) = min u v := fun u v => by omega
    have hmax : ∀ u v : Int, (if u < v then v else u) = max u v := fun u v => by omega
    by_cases hs : s = 0
    · have hc := hs0.1 hs
      subst hs
      generalize hm1 : min a0 b0 = m1 at *
      generalize hm2 : max a0 b0 = m2 at *
      generalize hm3 : min a1 b1 = m3 at *
      generalize hm4 : max a1 b1 = m4 at *
      have e1 : (if b0 < a0 then b0 else a0) = m1 := (hmin _ _).trans hm1
      have e2 : (if a0 < b0 then b0 else a0) = m2 := (hmax _ _).trans hm2
      have e3 : (if b1 < a1 then b1 else a1) = m3 := (hmin _ _).trans hm3
      have e4 : (if a1 < b1 then b1 else a1) = m4 := (hmax _ _).trans hm4
      clear hm1 hm2 hm3 hm4 hmin hmax hs0
      have HC := Aside0.mk hc
      clear hc
      by_cases g1 : m1 ≤ p0
      rotate_left
      · have HRF := Aside0.mk (show R = false by rw [HON2.out]; exact decide_eq_false (fun h => g1 h.2.1.1))
        have gb_ : decide (m1 ≤ p0) = false := decide_eq_false g1
        clear HON2 HC
        go_wp2_with (first | ((with_reducible refine gate_dst (N := 10) rfl ?_); refine lit3 ?hg (N := 10) ?hd ⟨p0, p1, p2⟩ ⟨a0, a1, a2⟩ ⟨b0, b1, b2⟩ ?hr ?_; (case hd => rfl); (case hg => rfl); (case hr => first | (go_simp; done) | (go_simp; rfl)); intro w3 hC hb3; have hrr := hr _ _ hC; have gp := gp.below hb3; have ga := ga.below hb3; have gb := gb.below hb3) | (go_at_call 32; refine hrr.mono ?_; rintro e w4 ⟨rfl, hb4⟩; have gp := gp.below hb4; have ga := ga.below hb4; have gb := gb.below hb4; have x0 := gp.c0; have x1 := gp.c1; have x2 := gp.c2; have y0 := ga.c0; have y1 := ga.c1; have y2 := ga.c2; have z0 := gb.c0; have z1 := gb.c1; have z2 := gb.c2) | (go_at_call 60; refine (ht _).mono ?_; rintro e w5 ⟨rfl, hb5⟩; have gp := gp.below hb5; have ga := ga.below hb5; have gb := gb.below hb5; have x0 := gp.c0; have x1 := gp.c1; have x2 := gp.c2; have y0 := ga.c0; have y1 := ga.c1; have y2 := ga.c2; have z0 := gb.c0; have z1 := gb.c1; have z2 := gb.c2) | go_step3)
        go_ret
        exact ⟨by rw [HRF.out]; first | rfl | simp, below_step (below_step (below_step hB hb3) hb4) hb5⟩
      have gt1 : decide (m1 ≤ p0) = true := decide_eq_true g1
      by_cases g2 : p0 ≤ m2
      rotate_left
      · have HRF := Aside0.mk (show R = false by rw [HON2.out]; exact decide_eq_false (fun h => g2 h.2.1.2))
        have gb_ : decide (p0 ≤ m2) = false := decide_eq_false g2
        clear HON2 HC
        go_wp2_with (first | ((with_reducible refine gate_dst (N := 10) rfl ?_); refine lit3 ?hg (N := 10) ?hd ⟨p0, p1, p2⟩ ⟨a0, a1, a2⟩ ⟨b0, b1, b2⟩ ?hr ?_; (case hd => rfl); (case hg => rfl); (case hr => first | (go_simp; done) | (go_simp; rfl)); intro w3 hC hb3; have hrr := hr _ _ hC; have gp := gp.below hb3; have ga := ga.below hb3; have gb := gb.below hb3) | (go_at_call 32; refine hrr.mono ?_; rintro e w4 ⟨rfl, hb4⟩; have gp := gp.below hb4; have ga := ga.below hb4; have gb := gb.below hb4; have x0 := gp.c0; have x1 := gp.c1; have x2 := gp.c2; have y0 := ga.c0; have y1 := ga.c1; have y2 := ga.c2; have z0 := gb.c0; have z1 := gb.c1; have z2 := gb.c2) | (go_at_call 60; refine (ht _).mono ?_; rintro e w5 ⟨rfl, hb5⟩; have gp := gp.below hb5; have ga := ga.below hb5; have gb := gb.below hb5; have x0 := gp.c0; have x1 := gp.c1; have x2 := gp.c2; have y0 := ga.c0; have y1 := ga.c1; have y2 := ga.c2; have z0 := gb.c0; have z1 := gb.c1; have z2 := gb.c2) | go_step3)
        go_ret
        exact ⟨by rw [HRF.out]; first | rfl | simp, below_step (below_step (below_step hB hb3) hb4) hb5⟩
      have gt2 : decide (p0 ≤ m2) = true := decide_eq_true g2
      by_cases g3 : m3 ≤ p1
      rotate_left
      · have HRF := Aside0.mk (show R = false by rw [HON2.out]; exact decide_eq_false (fun h => g3 h.2.2.1))
        have gb_ : decide (m3 ≤ p1) = false := decide_eq_false g3
        clear HON2 HC
        go_wp2_with (first | ((with_reducible refine gate_dst (N := 10) rfl ?_); refine lit3 ?hg (N := 10) ?hd ⟨p0, p1, p2⟩ ⟨a0, a1, a2⟩ ⟨b0, b1, b2⟩ ?hr ?_; (case hd => rfl); (case hg => rfl); (case hr => first | (go_simp; done) | (go_simp; rfl)); intro w3 hC hb3; have hrr := hr _ _ hC; have gp := gp.below hb3; have ga := ga.below hb3; have gb := gb.below hb3) | (go_at_call 32; refine hrr.mono ?_; rintro e w4 ⟨rfl, hb4⟩; have gp := gp.below hb4; have ga := ga.below hb4; have gb := gb.below hb4; have x0 := gp.c0; have x1 := gp.c1; have x2 := gp.c2; have y0 := ga.c0; have y1 := ga.c1; have y2 := ga.c2; have z0 := gb.c0; have z1 := gb.c1; have z2 := gb.c2) | (go_at_call 60; refine (ht _).mono ?_; rintro e w5 ⟨rfl, hb5⟩; have gp := gp.below hb5; have ga := ga.below hb5; have gb := gb.below hb5; have x0 := gp.c0; have x1 := gp.c1; have x2 := gp.c2; have y0 := ga.c0; have y1 := ga.c1; have y2 := ga.c2; have z0 := gb.c0; have z1 := gb.c1; have z2 := gb.c2) | go_step3)
        go_ret
        exact ⟨by rw [HRF.out]; first | rfl | simp, below_step (below_step (below_step hB hb3) hb4) hb5⟩
      have gt3 : decide (m3 ≤ p1) = true := decide_eq_true g3
      have HRF := Aside0.mk (show R = decide (p1 ≤ m4) by rw [HON2.out]; simp [HC.out, g1, g2, g3])
      clear HON2 HC
      go_wp2_with (first | ((with_reducible refine gate_dst (N := 10) rfl ?_); refine lit3 ?hg (N := 10) ?hd ⟨p0, p1, p2⟩ ⟨a0, a1, a2⟩ ⟨b0, b1, b2⟩ ?hr ?_; (case hd => rfl); (case hg => rfl); (case hr => first | (go_simp; done) | (go_simp; rfl)); intro w3 hC hb3; have hrr := hr _ _ hC; have gp := gp.below hb3; have ga := ga.below hb3; have gb := gb.below hb3) | (go_at_call 32; refine hrr.mono ?_; rintro e w4 ⟨rfl, hb4⟩; have gp := gp.below hb4; have ga := ga.below hb4; have gb := gb.below hb4; have x0 := gp.c0; have x1 := gp.c1; have x2 := gp.c2; have y0 := ga.c0; have y1 := ga.c1; have y2 := ga.c2; have z0 := gb.c0; have z1 := gb.c1; have z2 := gb.c2) | (go_at_call 60; refine (ht _).mono ?_; rintro e w5 ⟨rfl, hb5⟩; have gp := gp.below hb5; have ga := ga.below hb5; have gb := gb.below hb5; have x0 := gp.c0; have x1 := gp.c1; have x2 := gp.c2; have y0 := ga.c0; have y1 := ga.c1; have y2 := ga.c2; have z0 := gb.c0; have z1 := gb.c1; have z2 := gb.c2) | go_step3)
      go_ret
      exact ⟨by rw [HRF.out]; first | rfl | simp, below_step (below_step (below_step hB hb3) hb4) hb5⟩
    · have HRF := Aside0.mk (show R = false by rw [HON2.out]; exact decide_eq_false (fun h => hs (hs0.2 h.1)))
      have hsb : (s == 0) = false := by simpa using hs
      clear HON2 hs0 hmin hmax hs
      go_wp2_with (first | ((with_reducible refine gate_dst (N := 10) rfl ?_); refine lit3 ?hg (N := 10) ?hd ⟨p0, p1, p2⟩ ⟨a0, a1, a2⟩ ⟨b0, b1, b2⟩ ?hr ?_; (case hd => rfl); (case hg => rfl); (case hr => first | (go_simp; done) | (go_simp; rfl)); intro w3 hC hb3; have hrr := hr _ _ hC; have gp := gp.below hb3; have ga := ga.below hb3; have gb := gb.below hb3) | (go_at_call 32; refine hrr.mono ?_; rintro e w4 ⟨rfl, hb4⟩; have gp := gp.below hb4; have ga := ga.below hb4; have gb := gb.below hb4; have x0 := gp.c0; have x1 := gp.c1; have x2 := gp.c2; have y0 := ga.c0; have y1 := ga.c1; have y2 := ga.c2; have z0 := gb.c0; have z1 := gb.c1; have z2 := gb.c2) | (go_at_call 60; refine (ht _).mono ?_; rintro e w5 ⟨rfl, hb5⟩; have gp := gp.below hb5; have ga := ga.below hb5; have gb := gb.below hb5; have x0 := gp.c0; have x1 := gp.c1; have x2 := gp.c2; have y0 := ga.c0; have y1 := ga.c1; have y2 := ga.c2; have z0 := gb.c0; have z1 := gb.c1; have z2 := gb.c2) | go_step3)
      go_ret
      exact ⟨by rw [HRF.out]; rfl, below_step (below_step (below_step hB hb3) hb4) hb5⟩
  · have HRF := Aside0.mk (show R = false by rw [HON.out]; cases hp : rt p <;> cases ha : rt a <;> cases hb : rt b <;> simp_all)
    rw [Bool.eq_false_iff.2 h] at hright
    clear HT HON h
    go_wp2_with (first | ((with_reducible refine gate_dst (N := 10) rfl ?_); refine lit3 ?hg (N := 10) ?hd p a b ?hr ?_; (case hd => rfl); (case hg => rfl); (case hr => first | (go_simp; done) | (go_simp; rfl)); intro w3 hC hb3; have hrr := hright _ _ hC) | (go_at_call 32; refine hrr.mono ?_; rintro e w4 ⟨rfl, hb4⟩) | go_step3)
    go_ret
    exact ⟨by rw [HRF.out]; rfl, below_step (below_step hB hb3) hb4⟩
end Go.Proofs.Ytbonkedecfjmdaa.Pl

namespace Go.Proofs.Ytbonkedecfjmdaa.P
open Go.RowKit Go.Proofs.YtbonkedecfjmdaaW.PrintWords Go.Proofs.YtbonkedecfjmdaaW.PrintLast Go.Proofs.YtbonkedecfjmdaaW.PrintMore Go.Proofs.Ytbonkedecfjmdaa.X
attribute [local go_sem] max2_int min2_int max_two min_two max_three min_three max_four min_four add64_0 add64_1 add64   -- for this text's walks alone
set_option linter.unusedVariables false
set_option linter.unusedSimpArgs false

/-! ### geom_On: function 59 -/
def geom_On.f (a0_0 : Int) (a0_1 : Int) (a0_2 : Int) (a1_0 : Int) (a1_1 : Int) (a1_2 : Int) (a2_0 : Int) (a2_1 : Int) (a2_2 : Int) : Option (Bool) := some (G.onB ⟨a0_0, a0_1, a0_2⟩ ⟨a1_0, a1_1, a1_2⟩ ⟨a2_0, a2_1, a2_2⟩)

set_option maxHeartbeats 8000000 in
set_option maxRecDepth 100000 in
theorem geom_On.calls (a0_0 : Int) (a0_1 : Int) (a0_2 : Int) (a1_0 : Int) (a1_1 : Int) (a1_2 : Int) (a2_0 : Int) (a2_1 : Int) (a2_2 : Int) (r : Bool) (w : World) (h : geom_On.f a0_0 a0_1 a0_2 a1_0 a1_1 a1_2 a2_0 a2_1 a2_2 = some r) :
  Calls Try.prog 59 #[.agg #[.int .i64 a0_0, .int .i64 a0_1, .int .i64 a0_2], .agg #[.int .i64 a1_0, .int .i64 a1_1, .int .i64 a1_2], .agg #[.int .i64 a2_0, .int .i64 a2_1, .int .i64 a2_2]] w fun e w' => e = .returned (.bool r) ∧ Below w.heap.size w w' := by
 unfold geom_On.f at h
 obtain rfl := Option.some.inj h
 exact Pl.on_calls ⟨a0_0, a0_1, a0_2⟩ ⟨a1_0, a1_1, a1_2⟩ ⟨a2_0, a2_1, a2_2⟩ w

end Go.Proofs.Ytbonkedecfjmdaa.P
