/- geom.Meet walked (printed by gen_kp.py). No condition. plan.may walked. No condition. plan.Meets: the walk. No condition. -/
import Derived.Test.YtbonkedecfjmdaaZ2
import Derived.Test.YtbonkedecfjmdaaZ17
import Derived.Test.YtbonkedecfjmdaaZ22
import Derived.WalkMore

namespace Go.Proofs.Ytbonkedecfjmdaa.Pl
set_option linter.unusedVariables false
set_option linter.unusedSimpArgs false
open Go Go.RowKit Go.Proofs.Ytbonkedecfjmdaa.X Go.Proofs.Ytbonkedecfjmdaa.P Go.Proofs.Ytbonkedecfjmdaa.G Go.Proofs.Ytbonkedecfjmdaa.WL Go.Proofs.YtbonkedecfjmdaaW.PrintWords Go.Proofs.YtbonkedecfjmdaaW.PrintLast Go.Proofs.YtbonkedecfjmdaaW.PrintMore
theorem meet_cross {a b c d : Pt} (ha : rt a = true) (hb : rt b = true) (hc : rt c = true) (hd : rt d = true) (hc' : crs a b c d) : meetM a b c d = 2 := by
 have g1 := hc'.1
 have g2 := hc'.2
 have n1 : ¬ one_ a b c d := fun h => by
  rcases (one_any ha hb hc hd).1 h with h | h | h | h
  ·have : side c d a = 0 := side0.2 (onB_iff.1 h).2.2.2.1
   rw [this] at g2; omega
  ·have : side c d b = 0 := side0.2 (onB_iff.1 h).2.2.2.1
   rw [this] at g2; omega
  ·have : side a b c = 0 := side0.2 (onB_iff.1 h).2.2.2.1
   rw [this] at g1; omega
  ·have : side a b d = 0 := side0.2 (onB_iff.1 h).2.2.2.1
   rw [this] at g1; omega
 have n2 : ¬ two_ a b c d := fun ⟨x, y, hx, _, bx, _⟩ => n1 ⟨x, hx, bx⟩
 unfold meetM crsV
 rw [if_neg n2, if_neg n1, if_pos hc']
theorem meet_rest {a b c d : Pt} (ha : rt a = true) (hb : rt b = true) (hc : rt c = true) (hd : rt d = true) (hz : ¬ (side a b c = 0 ∧ side a b d = 0 ∧ side c d a = 0 ∧ side c d b = 0)) (hn : ¬ crs a b c d) : meetM a b c d = if (onB a c d || (onB b c d || (onB c a b || onB d a b))) = true then 1 else 0 := by
 have t2 : ¬ two_ a b c d := fun h => hz ⟨side0.2 (two_line h).1, side0.2 (two_line h).2.1, side0.2 (two_line h).2.2.1, side0.2 (two_line h).2.2.2⟩
 have o := one_any ha hb hc hd
 unfold meetM crsV
 rw [if_neg t2, if_neg hn]
 by_cases h : one_ a b c d
 ·rw [if_pos h, if_pos]
  have := o.1 h
  simpa [Bool.or_eq_true] using this
 ·rw [if_neg h, if_neg]
  intro h2
  apply h
  apply o.2
  simpa [Bool.or_eq_true] using h2
theorem At.drew {w : World} {g : Nat} {a : Pt} (h : At w g a) : At w.drew g a := blk_drew h
theorem hold4 {w' : World} {g1 g2 g3 g4 : Nat} {a b c d : Pt} (h1 : At w' g1 a) (h2 : At w' g2 b) (h3 : At w' g3 c) (h4 : At w' g4 d) : w'.cell? ⟨g1, 0, none⟩ = some (.int .i64 a.f0) ∧ w'.cell? ⟨g1, 1, none⟩ = some (.int .i64 a.f1) ∧ w'.cell? ⟨g1, 2, none⟩ = some (.int .i64 a.f2) ∧ w'.cell? ⟨g2, 0, none⟩ = some (.int .i64 b.f0) ∧ w'.cell? ⟨g2, 1, none⟩ = some (.int .i64 b.f1) ∧ w'.cell? ⟨g2, 2, none⟩ = some (.int .i64 b.f2) ∧ w'.cell? ⟨g3, 0, none⟩ = some (.int .i64 c.f0) ∧ w'.cell? ⟨g3, 1, none⟩ = some (.int .i64 c.f1) ∧ w'.cell? ⟨g3, 2, none⟩ = some (.int .i64 c.f2) ∧ w'.cell? ⟨g4, 0, none⟩ = some (.int .i64 d.f0) ∧ w'.cell? ⟨g4, 1, none⟩ = some (.int .i64 d.f1) ∧ w'.cell? ⟨g4, 2, none⟩ = some (.int .i64 d.f2) := ⟨h1.c0, h1.c1, h1.c2, h2.c0, h2.c1, h2.c2, h3.c0, h3.c1, h3.c2, h4.c0, h4.c1, h4.c2⟩
theorem box4 (w : World) (a b c d : Pt) : ∃ W, W = (((w.alloc (ptO a)).alloc (ptO b)).alloc (ptO c)).alloc (ptO d) ∧ At W w.heap.size a ∧ At W (w.heap.size + 1) b ∧ At W (w.heap.size + 1 + 1) c ∧ At W (w.heap.size + 1 + 1 + 1) d ∧ Below w.heap.size w W := by
 obtain ⟨W, e, hs, h1, h2, h3, hB⟩ := box3 w a b c
 have h4 := At.new W d
 rw [hs] at h4
 refine ⟨_, rfl, ?_⟩
 rw [← e]
 exact ⟨h1.old _, h2.old _, h3.old _, h4, hB.alloc (by omega) _⟩
theorem lit4 {ops : Array Oper} {rest : List Oper} {o : Oper} {a : Act} {Q : Exit → Act → World → Prop} {W : World} (hgd : o.guard = none) {N : Tmp} (hd : o.dst = some N) (p q r s : Pt)
  (hrun : (execOp a.eval o).run Try.prog W = .ok (.value (.slice (some ⟨W.heap.size, 0, none⟩) 4 4)) (W.alloc (.cells #[.int .i64 p.f0, .int .i64 p.f1, .int .i64 p.f2, .int .i64 q.f0, .int .i64 q.f1, .int .i64 q.f2, .int .i64 r.f0, .int .i64 r.f1, .int .i64 r.f2, .int .i64 s.f0, .int .i64 s.f1, .int .i64 s.f2] 27)))
  (h : ∀ w1, Kd.C k27 w1 (some ⟨W.heap.size, 0, none⟩) 4 [p, q, r, s] → Below W.heap.size W w1 → wpList Try.prog ops Q rest (a.put o.dst (.slice (some ⟨W.heap.size, 0, none⟩) 4 4)) w1) : wpList Try.prog ops Q (o :: rest) a W := by
 refine Kd.event_run hgd hrun (h _ ?_ ((Below.refl _ W).alloc (Nat.le_refl _) _))
 have hg := heap_alloc_new W (.cells #[.int .i64 p.f0, .int .i64 p.f1, .int .i64 p.f2, .int .i64 q.f0, .int .i64 q.f1, .int .i64 q.f2, .int .i64 r.f0, .int .i64 r.f1, .int .i64 r.f2, .int .i64 s.f0, .int .i64 s.f1, .int .i64 s.f2] 27)
 generalize W.alloc _ = W1 at hg ⊢
 refine ⟨rfl, by simp, fun _ => ⟨⟨W.heap.size, 0, none⟩, rfl, fun j x hx => ?_⟩⟩
 have c := fun i => cell_of_row W1 W.heap.size i _ _ _ hg
 have ad : ∀ i : Nat, (Addr.add ⟨W.heap.size, 0, none⟩ i) = ⟨W.heap.size, i, none⟩ := fun i => by rw [Addr.add_mid]; simp
 have hk : ∀ x : Pt, k27.K W1 x [.int .i64 x.f0, .int .i64 x.f1, .int .i64 x.f2] := fun x => ⟨_, _, rfl, rfl, ⟨_, _, rfl, rfl, rfl⟩⟩
 have hj : j < 4 := by
  rcases Nat.lt_or_ge j 4 with h | h
  ·exact h
  ·rw [List.getElem?_eq_none (by simpa using h)] at hx; cases hx
 refine ⟨_, rfl, hk x, fun i u hu => ?_⟩
 have hi : i < 3 := by
  rcases Nat.lt_or_ge i 3 with h | h
  ·exact h
  ·rw [List.getElem?_eq_none (by simpa using h)] at hu; cases hu
 rw [show j * k27.sz + i = j * 3 + i from rfl, ad, c]
 rcases j with _ | _ | _ | _ | j <;> rcases i with _ | _ | _ | i <;> first | omega | (simp at hx hu; subst hx; subst hu; rfl)
theorem turn_calls {a b c : Pt} (ha : rt a = true) (hb : rt b = true) (hc : rt c = true) (W : World) : Calls Try.prog 60 #[ptA a, ptA b, ptA c] W fun e w' => e = .returned (.int .i64 (side a b c)) ∧ Below W.heap.size W w' := by
 obtain ⟨K2, hK2⟩ := gturn_ev ha hb hc
 exact geom_turn.calls K2 _ _ _ _ _ _ _ _ _ _ W (hK2 K2 (Nat.le_refl _))
def meetT3 : Bool × List (List Nat × List Nat) := (true, [([], []), ([], []), ([], []), ([0, 1, 2], [0, 1, 2]), ([], []), ([], []), ([], []), ([4, 5, 6, 3], [4, 5, 6]), ([3, 7, 0, 1, 2, 3], [3]), ([7, 8, 0, 1, 2, 3, 4, 5, 6, 7, 8], [7])])
def meetB3 : List Nat := [0, 0, 0, 7, 0, 0, 0, 127, 255, 511]
theorem meetTab3 : rtab .any (opsOf Try.f83 3) = meetT3 := by kernel_rfl
theorem meetBits3 : waitsOk meetT3.2 meetB3 = true := by kernel_rfl
theorem meetTab4 : rtab .any (opsOf Try.f83 4) = meetT3 := by kernel_rfl
theorem meetBits4 : waitsOk meetT3.2 meetB3 = true := by kernel_rfl
set_option maxHeartbeats 16000000 in
set_option maxRecDepth 100000 in
theorem meet_calls (a b c d : Pt) (w : World) : Calls Try.prog 83 #[ptA a, ptA b, ptA c, ptA d] w fun e w' => e = .returned (.int .i64 (meetV a b c d)) ∧ Below w.heap.size w w' := by
 have hu27 := Try.underlying27
 obtain ⟨K, hK⟩ := gRight_ev [a, b, c, d] (by simp)
 have hright : ∀ W A, Kd.C k27 W A 4 [a, b, c, d] → Calls Try.prog 32 #[.slice A 4 4] W fun e w' => e = .returned (.bool (rt a && (rt b && (rt c && rt d)))) ∧ Below W.heap.size W w' := fun W A hC => by
  have := geom_Right.calls K A 4 [a, b, c, d] _ W hC (Nat.le_refl _) (hK K (Nat.le_refl _))
  rw [show [a, b, c, d].all rt = (rt a && (rt b && (rt c && rt d))) by simp] at this
  exact this
 have HMV := AM (show meetV a b c d = if (rt a && (rt b && (rt c && rt d))) = true then meetM a b c d else 0 by unfold meetV; rfl)
 obtain ⟨W, hW, ga, gb, gc, gd, hB⟩ := box4 w a b c d
 clear hK
 generalize meetV a b c d = R at *
 go_enter Try.func83, Try.ntmps83
 go_upto_region 1 with (go_step3)
 rw [← hW]
 clear hW
 by_cases h : (rt a && (rt b && (rt c && rt d))) = true
 ·rw [h] at hright
  have HR := AM (show R = meetM a b c d by rw [HMV.out, if_pos h])
  simp only [Bool.and_eq_true] at h
  obtain ⟨ha, hb, hc, hd⟩ := h
  have T1 := turn_calls ha hb hc
  have T2 := turn_calls ha hb hd
  have T3 := turn_calls hc hd ha
  have T4 := turn_calls hc hd hb
  have O1 := fun W => on_calls a c d W
  have O2 := fun W => on_calls b c d W
  have O3 := fun W => on_calls c a b W
  have O4 := fun W => on_calls d a b W
  obtain ⟨K2, hK2⟩ := along_ev ha hb hc hd
  have hal := fun W => geom_along.calls K2 _ _ _ _ _ _ _ _ _ _ _ _ _ W (hK2 K2 (Nat.le_refl _))
  have HZ := AM (show side a b c = 0 → side a b d = 0 → side c d a = 0 → side c d b = 0 → R = touch (max (min (key a) (key b)) (min (key c) (key d))) (min (max (key a) (key b)) (max (key c) (key d))) from fun z1 z2 z3 z4 => by rw [HR.out, ← along_val ha hb hc hd (side0.1 z1) (side0.1 z2) (side0.1 z3) (side0.1 z4)])
  have HX := AM (show ¬ (side a b c = 0 ∧ side a b d = 0 ∧ side c d a = 0 ∧ side c d b = 0) → side a b c * side a b d < 0 → side c d a * side c d b < 0 → R = 2 from fun _ g1 g2 => by rw [HR.out, meet_cross ha hb hc hd ⟨g1, g2⟩])
  have HN := AM (show ¬ (side a b c = 0 ∧ side a b d = 0 ∧ side c d a = 0 ∧ side c d b = 0) → ¬ (side a b c * side a b d < 0 ∧ side c d a * side c d b < 0) → R = if (onB a c d || (onB b c d || (onB c a b || onB d a b))) = true then 1 else 0 from fun hz hn => by rw [HR.out, meet_rest ha hb hc hd hz hn])
  have r1 := side_mul a b c a b d
  have r2 := side_mul c d a c d b
  clear hK2 HMV HR ha hb hc hd
  generalize touch (max (min (key a) (key b)) (min (key c) (key d))) (min (max (key a) (key b)) (max (key c) (key d))) = z at *
  generalize side a b c = p at *
  generalize side a b d = q at *
  generalize side c d a = r at *
  generalize side c d b = s at *
  generalize onB a c d = o1 at *
  generalize onB b c d = o2 at *
  generalize onB c a b = o3 at *
  generalize onB d a b = o4 at *
  have R1 := AM r1
  have R2 := AM r2
  clear r1 r2
  have a0 := ga.c0
  have a1 := ga.c1
  have a2 := ga.c2
  have b0 := gb.c0
  have b1 := gb.c1
  have b2 := gb.c2
  have c0 := gc.c0
  have c1 := gc.c1
  have c2 := gc.c2
  have d0 := gd.c0
  have d1 := gd.c1
  have d2 := gd.c2
  go_upto_region 3 with (first | ((with_reducible refine gate_dst (N := 17) rfl ?_); refine lit4 ?hg (N := 17) ?hd a b c d ?hr ?_; (case hd => rfl); (case hg => rfl); (case hr => first | (go_simp; done) | (go_simp; rfl)); intro w3 hC hb3; have hrr := hright _ _ hC; have ga := ga.below hb3; have gb := gb.below hb3; have gc := gc.below hb3; have gd := gd.below hb3; have hB := below_step hB hb3) | (go_at_call 32; refine hrr.mono ?_; rintro e w4 ⟨rfl, hb4⟩; have ga := ga.below hb4; have gb := gb.below hb4; have gc := gc.below hb4; have gd := gd.below hb4; have hB := below_step hB hb4) | go_step3)
  clear a0 a1 a2 b0 b1 b2 c0 c1 c2 d0 d1 d2; clear hrr hC hright hb3 hb4
  have ga := ga.drew
  have gb := gb.drew
  have gc := gc.drew
  have gd := gd.drew
  have hB := below_drew1 hB
  refine start_ (n := 10) (S := fun w' => w'.cell? ⟨w.heap.size, 0, none⟩ = some (.int .i64 a.f0) ∧ w'.cell? ⟨w.heap.size, 1, none⟩ = some (.int .i64 a.f1) ∧ w'.cell? ⟨w.heap.size, 2, none⟩ = some (.int .i64 a.f2) ∧ w'.cell? ⟨w.heap.size + 1, 0, none⟩ = some (.int .i64 b.f0) ∧ w'.cell? ⟨w.heap.size + 1, 1, none⟩ = some (.int .i64 b.f1) ∧ w'.cell? ⟨w.heap.size + 1, 2, none⟩ = some (.int .i64 b.f2) ∧ w'.cell? ⟨w.heap.size + 1 + 1, 0, none⟩ = some (.int .i64 c.f0) ∧ w'.cell? ⟨w.heap.size + 1 + 1, 1, none⟩ = some (.int .i64 c.f1) ∧ w'.cell? ⟨w.heap.size + 1 + 1, 2, none⟩ = some (.int .i64 c.f2) ∧ w'.cell? ⟨w.heap.size + 1 + 1 + 1, 0, none⟩ = some (.int .i64 d.f0) ∧ w'.cell? ⟨w.heap.size + 1 + 1 + 1, 1, none⟩ = some (.int .i64 d.f1) ∧ w'.cell? ⟨w.heap.size + 1 + 1 + 1, 2, none⟩ = some (.int .i64 d.f2)) (ds := []) #[false, false, false, false, false, false, false, false, false, false] (by kernel_rfl) (by rfl) (by rfl) (by exact hold4 ga gb gc gd) (fun hHeld => ?_); refine with_tabW meetTab3 meetBits3 (fun HT_ HW_ => ?_)
  generalize World.drew _ = W3 at ga gb gc gd hB hHeld ⊢
  refine tQ 0 (some 20) HT_ HW_ hHeld ?_; refine tQ 1 (some 21) HT_ HW_ hHeld ?_; refine tQ 2 (some 22) HT_ HW_ hHeld ?_; refine tQ 4 (some 24) HT_ HW_ hHeld ?_; refine tQ 5 (some 25) HT_ HW_ hHeld ?_; refine tQ 6 (some 26) HT_ HW_ hHeld ?_
  refine oQ 3 (some 23) HT_ rfl fun K hK => ?_
  refine goes_ Try.func60 (by kernel_rfl) rfl #[.agg #[.int .i64 a.f0, .int .i64 a.f1, .int .i64 a.f2], .agg #[.int .i64 b.f0, .int .i64 b.f1, .int .i64 b.f2], .agg #[.int .i64 c.f0, .int .i64 c.f1, .int .i64 c.f2]] (by rfl) rfl rfl (by (try simp only [List.map_toArray, List.map_cons, List.map_nil]); first | done | rfl) ?_
  refine (T1 _).mono ?_
  rintro e w7 ⟨rfl, hb⟩
  refine ⟨_, rfl, ?_⟩
  have ga := ga.below hb
  have gb := gb.below hb
  have gc := gc.below hb
  have gd := gd.below hb
  have hB := below_step hB hb
  refine hK.out _ _ (by exact hold4 ga gb gc gd) (fun hHeld => ?_)
  clear hK K hb; refine nP (some 23) ?_
  refine oQ 7 (some 27) HT_ rfl fun K hK => ?_
  refine goes_ Try.func60 (by kernel_rfl) rfl #[.agg #[.int .i64 a.f0, .int .i64 a.f1, .int .i64 a.f2], .agg #[.int .i64 b.f0, .int .i64 b.f1, .int .i64 b.f2], .agg #[.int .i64 d.f0, .int .i64 d.f1, .int .i64 d.f2]] (by rfl) rfl rfl (by (try simp only [List.map_toArray, List.map_cons, List.map_nil]); first | done | rfl) ?_
  refine (T2 _).mono ?_
  rintro e w7 ⟨rfl, hb⟩
  refine ⟨_, rfl, ?_⟩
  have ga := ga.below hb
  have gb := gb.below hb
  have gc := gc.below hb
  have gd := gd.below hb
  have hB := below_step hB hb
  refine hK.out _ _ (by exact hold4 ga gb gc gd) (fun hHeld => ?_)
  clear hK K hb; refine nP (some 27) ?_; refine pQ 8 (some 9) HT_ ?_; refine pQ 9 (some 10) HT_ ?_
  refine done_ (done_of HT_.out (by kernel_rfl)) ?_
  clear hHeld HT_ HW_
  go_upto_region 4 with (fail)
  have ga := ga.drew
  have gb := gb.drew
  have gc := gc.drew
  have gd := gd.drew
  have hB := below_drew1 hB
  refine start_ (n := 10) (S := fun w' => w'.cell? ⟨w.heap.size, 0, none⟩ = some (.int .i64 a.f0) ∧ w'.cell? ⟨w.heap.size, 1, none⟩ = some (.int .i64 a.f1) ∧ w'.cell? ⟨w.heap.size, 2, none⟩ = some (.int .i64 a.f2) ∧ w'.cell? ⟨w.heap.size + 1, 0, none⟩ = some (.int .i64 b.f0) ∧ w'.cell? ⟨w.heap.size + 1, 1, none⟩ = some (.int .i64 b.f1) ∧ w'.cell? ⟨w.heap.size + 1, 2, none⟩ = some (.int .i64 b.f2) ∧ w'.cell? ⟨w.heap.size + 1 + 1, 0, none⟩ = some (.int .i64 c.f0) ∧ w'.cell? ⟨w.heap.size + 1 + 1, 1, none⟩ = some (.int .i64 c.f1) ∧ w'.cell? ⟨w.heap.size + 1 + 1, 2, none⟩ = some (.int .i64 c.f2) ∧ w'.cell? ⟨w.heap.size + 1 + 1 + 1, 0, none⟩ = some (.int .i64 d.f0) ∧ w'.cell? ⟨w.heap.size + 1 + 1 + 1, 1, none⟩ = some (.int .i64 d.f1) ∧ w'.cell? ⟨w.heap.size + 1 + 1 + 1, 2, none⟩ = some (.int .i64 d.f2)) (ds := []) #[false, false, false, false, false, false, false, false, false, false] (by kernel_rfl) (by rfl) (by rfl) (by exact hold4 ga gb gc gd) (fun hHeld => ?_); refine with_tabW meetTab4 meetBits4 (fun HT_ HW_ => ?_)
  generalize World.drew _ = W4 at ga gb gc gd hB hHeld ⊢
  refine tQ 0 (some 28) HT_ HW_ hHeld ?_; refine tQ 1 (some 29) HT_ HW_ hHeld ?_; refine tQ 2 (some 30) HT_ HW_ hHeld ?_; refine tQ 4 (some 32) HT_ HW_ hHeld ?_; refine tQ 5 (some 33) HT_ HW_ hHeld ?_; refine tQ 6 (some 34) HT_ HW_ hHeld ?_
  refine oQ 3 (some 31) HT_ rfl fun K hK => ?_
  refine goes_ Try.func60 (by kernel_rfl) rfl #[.agg #[.int .i64 c.f0, .int .i64 c.f1, .int .i64 c.f2], .agg #[.int .i64 d.f0, .int .i64 d.f1, .int .i64 d.f2], .agg #[.int .i64 a.f0, .int .i64 a.f1, .int .i64 a.f2]] (by rfl) rfl rfl (by (try simp only [List.map_toArray, List.map_cons, List.map_nil]); first | done | rfl) ?_
  refine (T3 _).mono ?_
  rintro e w7 ⟨rfl, hb⟩
  refine ⟨_, rfl, ?_⟩
  have ga := ga.below hb
  have gb := gb.below hb
  have gc := gc.below hb
  have gd := gd.below hb
  have hB := below_step hB hb
  refine hK.out _ _ (by exact hold4 ga gb gc gd) (fun hHeld => ?_)
  clear hK K hb; refine nP (some 31) ?_
  refine oQ 7 (some 35) HT_ rfl fun K hK => ?_
  refine goes_ Try.func60 (by kernel_rfl) rfl #[.agg #[.int .i64 c.f0, .int .i64 c.f1, .int .i64 c.f2], .agg #[.int .i64 d.f0, .int .i64 d.f1, .int .i64 d.f2], .agg #[.int .i64 b.f0, .int .i64 b.f1, .int .i64 b.f2]] (by rfl) rfl rfl (by (try simp only [List.map_toArray, List.map_cons, List.map_nil]); first | done | rfl) ?_
  refine (T4 _).mono ?_
  rintro e w7 ⟨rfl, hb⟩
  refine ⟨_, rfl, ?_⟩
  have ga := ga.below hb
  have gb := gb.below hb
  have gc := gc.below hb
  have gd := gd.below hb
  have hB := below_step hB hb
  refine hK.out _ _ (by exact hold4 ga gb gc gd) (fun hHeld => ?_)
  clear hK K hb; refine nP (some 35) ?_; refine pQ 8 (some 11) HT_ ?_; refine pQ 9 (some 12) HT_ ?_
  refine done_ (done_of HT_.out (by kernel_rfl)) ?_
  clear hHeld HT_ HW_
  go_upto_region 5 with (fail)
  have a0 := ga.c0
  have a1 := ga.c1
  have a2 := ga.c2
  have b0 := gb.c0
  have b1 := gb.c1
  have b2 := gb.c2
  have c0 := gc.c0
  have c1 := gc.c1
  have c2 := gc.c2
  have d0 := gd.c0
  have d1 := gd.c1
  have d2 := gd.c2
  by_cases hz : p = 0 ∧ q = 0 ∧ r = 0 ∧ s = 0
  ·obtain ⟨rfl, rfl, rfl, rfl⟩ := hz
   have HRF := AM (HZ.out rfl rfl rfl rfl)
   clear HZ HX HN R1 R2
   go_wp2_with (first | (go_at_call 87; refine (hal _).mono ?_; rintro e w8 ⟨rfl, hb8⟩) | go_step3)
   go_ret
   exact ⟨by rw [HRF.out]; rfl, below_step hB hb8⟩
  ·have HX2 := AM (HX.out hz)
   have HN2 := AM (HN.out hz)
   have HF : (p == 0) = false ∨ (p == 0) = true ∧ (q == 0) = false ∨ (p == 0) = true ∧ (q == 0) = true ∧ (r == 0) = false ∨ (p == 0) = true ∧ (q == 0) = true ∧ (r == 0) = true ∧ (s == 0) = false := by
    simp only [beq_eq_false_iff_ne, beq_iff_eq, ne_eq]
    omega
   clear HZ HX HN hz hal T1 T2 T3 T4
   by_cases g1 : p * q < 0
   ·by_cases g2 : r * s < 0
    ·have HRF := AM (HX2.out g1 g2)
     have e1 : wrap64 (p * q) = p * q := R1.out
     have e2 : wrap64 (r * s) = r * s := R2.out
     have e3 : decide (p * q < 0) = true := decide_eq_true g1
     have e4 : decide (r * s < 0) = true := decide_eq_true g2
     clear HX2 HN2 R1 R2
     rcases HF with h | ⟨h, h'⟩ | ⟨h, h', h''⟩ | ⟨h, h', h'', h4⟩ <;> (
      go_wp2_with (go_step3)
      go_ret
      exact ⟨by rw [HRF.out]; rfl, hB⟩)
    ·have HRF := AM (HN2.out (fun h => g2 h.2))
     have e1 : wrap64 (p * q) = p * q := R1.out
     have e2 : wrap64 (r * s) = r * s := R2.out
     have e3 : decide (p * q < 0) = true := decide_eq_true g1
     have e4 : decide (r * s < 0) = false := decide_eq_false g2
     clear HX2 HN2 R1 R2
     rcases HF with h | ⟨h, h'⟩ | ⟨h, h', h''⟩ | ⟨h, h', h'', h4⟩ <;> (
      go_upto_region 9 with (go_step3)
      cases o1
      rotate_left
      ·go_wp2_with (first | (go_at_call 59; (with_reducible first | refine (O1 _).mono ?_ | refine (O2 _).mono ?_ | refine (O3 _).mono ?_ | refine (O4 _).mono ?_); rintro e w8 ⟨rfl, hb8⟩; have ga := ga.below hb8; have gb := gb.below hb8; have gc := gc.below hb8; have gd := gd.below hb8; have hB := below_step hB hb8; clear hb8; have a0 := ga.c0; have a1 := ga.c1; have a2 := ga.c2; have b0 := gb.c0; have b1 := gb.c1; have b2 := gb.c2; have c0 := gc.c0; have c1 := gc.c1; have c2 := gc.c2; have d0 := gd.c0; have d1 := gd.c1; have d2 := gd.c2) | go_step3)
       go_ret
       exact ⟨by rw [HRF.out]; rfl, hB⟩
      cases o2
      rotate_left
      ·go_wp2_with (first | (go_at_call 59; (with_reducible first | refine (O1 _).mono ?_ | refine (O2 _).mono ?_ | refine (O3 _).mono ?_ | refine (O4 _).mono ?_); rintro e w8 ⟨rfl, hb8⟩; have ga := ga.below hb8; have gb := gb.below hb8; have gc := gc.below hb8; have gd := gd.below hb8; have hB := below_step hB hb8; clear hb8; have a0 := ga.c0; have a1 := ga.c1; have a2 := ga.c2; have b0 := gb.c0; have b1 := gb.c1; have b2 := gb.c2; have c0 := gc.c0; have c1 := gc.c1; have c2 := gc.c2; have d0 := gd.c0; have d1 := gd.c1; have d2 := gd.c2) | go_step3)
       go_ret
       exact ⟨by rw [HRF.out]; rfl, hB⟩
      cases o3
      rotate_left
      ·go_wp2_with (first | (go_at_call 59; (with_reducible first | refine (O1 _).mono ?_ | refine (O2 _).mono ?_ | refine (O3 _).mono ?_ | refine (O4 _).mono ?_); rintro e w8 ⟨rfl, hb8⟩; have ga := ga.below hb8; have gb := gb.below hb8; have gc := gc.below hb8; have gd := gd.below hb8; have hB := below_step hB hb8; clear hb8; have a0 := ga.c0; have a1 := ga.c1; have a2 := ga.c2; have b0 := gb.c0; have b1 := gb.c1; have b2 := gb.c2; have c0 := gc.c0; have c1 := gc.c1; have c2 := gc.c2; have d0 := gd.c0; have d1 := gd.c1; have d2 := gd.c2) | go_step3)
       go_ret
       exact ⟨by rw [HRF.out]; rfl, hB⟩
      cases o4
      rotate_left
      ·go_wp2_with (first | (go_at_call 59; (with_reducible first | refine (O1 _).mono ?_ | refine (O2 _).mono ?_ | refine (O3 _).mono ?_ | refine (O4 _).mono ?_); rintro e w8 ⟨rfl, hb8⟩; have ga := ga.below hb8; have gb := gb.below hb8; have gc := gc.below hb8; have gd := gd.below hb8; have hB := below_step hB hb8; clear hb8; have a0 := ga.c0; have a1 := ga.c1; have a2 := ga.c2; have b0 := gb.c0; have b1 := gb.c1; have b2 := gb.c2; have c0 := gc.c0; have c1 := gc.c1; have c2 := gc.c2; have d0 := gd.c0; have d1 := gd.c1; have d2 := gd.c2) | go_step3)
       go_ret
       exact ⟨by rw [HRF.out]; rfl, hB⟩
      go_wp2_with (first | (go_at_call 59; (with_reducible first | refine (O1 _).mono ?_ | refine (O2 _).mono ?_ | refine (O3 _).mono ?_ | refine (O4 _).mono ?_); rintro e w8 ⟨rfl, hb8⟩; have ga := ga.below hb8; have gb := gb.below hb8; have gc := gc.below hb8; have gd := gd.below hb8; have hB := below_step hB hb8; clear hb8; have a0 := ga.c0; have a1 := ga.c1; have a2 := ga.c2; have b0 := gb.c0; have b1 := gb.c1; have b2 := gb.c2; have c0 := gc.c0; have c1 := gc.c1; have c2 := gc.c2; have d0 := gd.c0; have d1 := gd.c1; have d2 := gd.c2) | go_step3)
      go_ret
      exact ⟨by rw [HRF.out]; rfl, hB⟩)
   ·have HRF := AM (HN2.out (fun h => g1 h.1))
    have e1 : wrap64 (p * q) = p * q := R1.out
    have e3 : decide (p * q < 0) = false := decide_eq_false g1
    clear HX2 HN2 R1 R2
    rcases HF with h | ⟨h, h'⟩ | ⟨h, h', h''⟩ | ⟨h, h', h'', h4⟩ <;> (
     go_upto_region 9 with (go_step3)
     cases o1
     rotate_left
     ·go_wp2_with (first | (go_at_call 59; (with_reducible first | refine (O1 _).mono ?_ | refine (O2 _).mono ?_ | refine (O3 _).mono ?_ | refine (O4 _).mono ?_); rintro e w8 ⟨rfl, hb8⟩; have ga := ga.below hb8; have gb := gb.below hb8; have gc := gc.below hb8; have gd := gd.below hb8; have hB := below_step hB hb8; clear hb8; have a0 := ga.c0; have a1 := ga.c1; have a2 := ga.c2; have b0 := gb.c0; have b1 := gb.c1; have b2 := gb.c2; have c0 := gc.c0; have c1 := gc.c1; have c2 := gc.c2; have d0 := gd.c0; have d1 := gd.c1; have d2 := gd.c2) | go_step3)
      go_ret
      exact ⟨by rw [HRF.out]; rfl, hB⟩
     cases o2
     rotate_left
     ·go_wp2_with (first | (go_at_call 59; (with_reducible first | refine (O1 _).mono ?_ | refine (O2 _).mono ?_ | refine (O3 _).mono ?_ | refine (O4 _).mono ?_); rintro e w8 ⟨rfl, hb8⟩; have ga := ga.below hb8; have gb := gb.below hb8; have gc := gc.below hb8; have gd := gd.below hb8; have hB := below_step hB hb8; clear hb8; have a0 := ga.c0; have a1 := ga.c1; have a2 := ga.c2; have b0 := gb.c0; have b1 := gb.c1; have b2 := gb.c2; have c0 := gc.c0; have c1 := gc.c1; have c2 := gc.c2; have d0 := gd.c0; have d1 := gd.c1; have d2 := gd.c2) | go_step3)
      go_ret
      exact ⟨by rw [HRF.out]; rfl, hB⟩
     cases o3
     rotate_left
     ·go_wp2_with (first | (go_at_call 59; (with_reducible first | refine (O1 _).mono ?_ | refine (O2 _).mono ?_ | refine (O3 _).mono ?_ | refine (O4 _).mono ?_); rintro e w8 ⟨rfl, hb8⟩; have ga := ga.below hb8; have gb := gb.below hb8; have gc := gc.below hb8; have gd := gd.below hb8; have hB := below_step hB hb8; clear hb8; have a0 := ga.c0; have a1 := ga.c1; have a2 := ga.c2; have b0 := gb.c0; have b1 := gb.c1; have b2 := gb.c2; have c0 := gc.c0; have c1 := gc.c1; have c2 := gc.c2; have d0 := gd.c0; have d1 := gd.c1; have d2 := gd.c2) | go_step3)
      go_ret
      exact ⟨by rw [HRF.out]; rfl, hB⟩
     cases o4
     rotate_left
     ·go_wp2_with (first | (go_at_call 59; (with_reducible first | refine (O1 _).mono ?_ | refine (O2 _).mono ?_ | refine (O3 _).mono ?_ | refine (O4 _).mono ?_); rintro e w8 ⟨rfl, hb8⟩; have ga := ga.below hb8; have gb := gb.below hb8; have gc := gc.below hb8; have gd := gd.below hb8; have hB := below_step hB hb8; clear hb8; have a0 := ga.c0; have a1 := ga.c1; have a2 := ga.c2; have b0 := gb.c0; have b1 := gb.c1; have b2 := gb.c2; have c0 := gc.c0; have c1 := gc.c1; have c2 := gc.c2; have d0 := gd.c0; have d1 := gd.c1; have d2 := gd.c2) | go_step3)
      go_ret
      exact ⟨by rw [HRF.out]; rfl, hB⟩
     go_wp2_with (first | (go_at_call 59; (with_reducible first | refine (O1 _).mono ?_ | refine (O2 _).mono ?_ | refine (O3 _).mono ?_ | refine (O4 _).mono ?_); rintro e w8 ⟨rfl, hb8⟩; have ga := ga.below hb8; have gb := gb.below hb8; have gc := gc.below hb8; have gd := gd.below hb8; have hB := below_step hB hb8; clear hb8; have a0 := ga.c0; have a1 := ga.c1; have a2 := ga.c2; have b0 := gb.c0; have b1 := gb.c1; have b2 := gb.c2; have c0 := gc.c0; have c1 := gc.c1; have c2 := gc.c2; have d0 := gd.c0; have d1 := gd.c1; have d2 := gd.c2) | go_step3)
     go_ret
     exact ⟨by rw [HRF.out]; rfl, hB⟩)
 ·have HRF := AM (show R = 0 by rw [HMV.out, if_neg h])
  rw [Bool.eq_false_iff.2 h] at hright
  have a0 := ga.c0
  have a1 := ga.c1
  have a2 := ga.c2
  have b0 := gb.c0
  have b1 := gb.c1
  have b2 := gb.c2
  have c0 := gc.c0
  have c1 := gc.c1
  have c2 := gc.c2
  have d0 := gd.c0
  have d1 := gd.c1
  have d2 := gd.c2
  clear HMV h
  go_wp2_with (first | ((with_reducible refine gate_dst (N := 17) rfl ?_); refine lit4 ?hg (N := 17) ?hd a b c d ?hr ?_; (case hd => rfl); (case hg => rfl); (case hr => first | (go_simp; done) | (go_simp; rfl)); intro w3 hC hb3; have hrr := hright _ _ hC) | (go_at_call 32; refine hrr.mono ?_; rintro e w4 ⟨rfl, hb4⟩) | go_step3)
  go_ret
  exact ⟨by rw [HRF.out]; rfl, below_step (below_step hB hb3) hb4⟩
end Go.Proofs.Ytbonkedecfjmdaa.Pl

namespace Go.Proofs.Ytbonkedecfjmdaa.Pl
set_option linter.unusedVariables false
set_option linter.unusedSimpArgs false
open Go Go.RowKit Go.Proofs.Ytbonkedecfjmdaa.P Go.Proofs.Ytbonkedecfjmdaa.G Go.Proofs.Ytbonkedecfjmdaa.WL Go.Proofs.YtbonkedecfjmdaaW.PrintWords Go.Proofs.YtbonkedecfjmdaaW.PrintLast Go.Proofs.YtbonkedecfjmdaaW.PrintMore
theorem wrap64_in' (n : Int) (h : -9223372036854775808 ≤ n ∧ n ≤ 9223372036854775807) : wrap64 n = n := by unfold wrap64; omega
abbrev sdC (s : Sd) : Array Value := #[.int .i64 s.f0.f0, .int .i64 s.f0.f1, .int .i64 s.f0.f2, .int .i64 s.f1.f0, .int .i64 s.f1.f1, .int .i64 s.f1.f2, .int .i64 s.f2, .int .i64 s.f3, .bool s.f4, .bool s.f5]
abbrev sdA (s : Sd) : Value := .agg (sdC s)
def AtS (w : World) (g : Nat) (s : Sd) : Prop := w.heap[g]? = some (.cells (sdC s) 109 (0, 0))
theorem AtS.c {w g s} (h : AtS w g s) : w.cell? ⟨g, 0, none⟩ = some (.int .i64 s.f0.f0) ∧ w.cell? ⟨g, 1, none⟩ = some (.int .i64 s.f0.f1) ∧ w.cell? ⟨g, 2, none⟩ = some (.int .i64 s.f0.f2) ∧ w.cell? ⟨g, 3, none⟩ = some (.int .i64 s.f1.f0) ∧ w.cell? ⟨g, 4, none⟩ = some (.int .i64 s.f1.f1) ∧ w.cell? ⟨g, 5, none⟩ = some (.int .i64 s.f1.f2) ∧ w.cell? ⟨g, 6, none⟩ = some (.int .i64 s.f2) ∧ w.cell? ⟨g, 7, none⟩ = some (.int .i64 s.f3) ∧ w.cell? ⟨g, 8, none⟩ = some (.bool s.f4) ∧ w.cell? ⟨g, 9, none⟩ = some (.bool s.f5) :=
 ⟨(blk_cell h 0).trans rfl, (blk_cell h 1).trans rfl, (blk_cell h 2).trans rfl, (blk_cell h 3).trans rfl, (blk_cell h 4).trans rfl, (blk_cell h 5).trans rfl, (blk_cell h 6).trans rfl, (blk_cell h 7).trans rfl, (blk_cell h 8).trans rfl, (blk_cell h 9).trans rfl⟩
theorem AtS.below {w w' : World} {g : Nat} {s : Sd} (h : AtS w g s) (hb : Below w.heap.size w w') : AtS w' g s := blk_below h hb
theorem AtS.old {w : World} {g : Nat} {s : Sd} (h : AtS w g s) (x : Obj) : AtS (w.alloc x) g s := (heap_alloc_old _ _ (blk_lt h)).trans h
theorem Li.old {w : World} {g : Nat} {p q r : Pt} (h : Li w g p q r) (x : Obj) : Li (w.alloc x) g p q r := (heap_alloc_old _ _ (blk_lt h)).trans h
theorem Li.below {w w' : World} {g : Nat} {p q r : Pt} (h : Li w g p q r) (hb : Below w.heap.size w w') : Li w' g p q r := blk_below h hb
theorem blk_lt' {w w' : World} {a b : Nat} (_ : Below a w w') (h : b < w'.heap.size) (h2 : a < b) : a < w'.heap.size := by omega
abbrev put3 (w : World) (g : Nat) (x : Pt) : World := ((w.setCell ⟨g, 0, none⟩ (.int .i64 x.f0)).setCell ⟨g, 1, none⟩ (.int .i64 x.f1)).setCell ⟨g, 2, none⟩ (.int .i64 x.f2)
theorem At.put {w : World} {g : Nat} {p : Pt} (h : At w g p) (x : Pt) : At (put3 w g x) g x := blk_set (blk_set (blk_set h 0 _) 1 _) 2 _
theorem AtS.far {w : World} {g g6 : Nat} {s : Sd} (h : AtS w g s) (hne : g ≠ g6) (x : Pt) : AtS (put3 w g6 x) g s := blk_far (blk_far (blk_far h hne _) hne _) hne _
theorem Li.far {w : World} {g g6 : Nat} {p q r : Pt} (h : Li w g p q r) (hne : g ≠ g6) (x : Pt) : Li (put3 w g6 x) g p q r := blk_far (blk_far (blk_far h hne _) hne _) hne _
theorem below_put {w w' : World} {g6 : Nat} (h : Below w.heap.size w w') (hge : w.heap.size ≤ g6) (x : Pt) : Below w.heap.size w (put3 w' g6 x) := below_set (below_set (below_set h hge) hge) hge
theorem boxS (w : World) (s t : Sd) : ∃ W, W = (w.alloc (.cells (sdC s) 109)).alloc (.cells (sdC t) 109) ∧ AtS W w.heap.size s ∧ AtS W (w.heap.size + 1) t ∧ Below w.heap.size w W := by
 have s1 : (w.alloc (.cells (sdC s) 109)).heap.size = w.heap.size + 1 := by simp
 have h2 : AtS ((w.alloc (.cells (sdC s) 109)).alloc (.cells (sdC t) 109)) (w.alloc (.cells (sdC s) 109)).heap.size t := heap_alloc_new _ _
 rw [s1] at h2
 have h1 : AtS (w.alloc (.cells (sdC s) 109)) w.heap.size s := heap_alloc_new _ _
 exact ⟨_, rfl, h1.old _, h2, ((Below.refl _ w).alloc (Nat.le_refl _) _).alloc (by rw [s1]; omega) _⟩
theorem meetC_calls (a b c d : Pt) (w : World) : Calls Try.prog 83 #[ptA a, ptA b, ptA c, ptA d] w fun e w' => e = .returned (.int .i64 (meetC a b c d)) ∧ Below w.heap.size w w' := by
 rw [meetC_eq]
 exact meet_calls a b c d w
theorem end_calls (s : Sd) (p : Pt) (w : World) : Calls Try.prog 84 #[sdA s, ptA p] w fun e w' => e = .returned (.bool (endV s p)) ∧ Below w.heap.size w w' := plan_side_end.calls _ _ _ _ _ _ _ _ _ _ _ _ _ _ w (end_eq s p)
set_option maxHeartbeats 16000000 in
set_option maxRecDepth 100000 in
theorem may_calls (s t : Sd) (w : World) (hs : 0 ≤ s.f3 ∧ s.f3 ≤ 100000000) : Calls Try.prog 77 #[sdA s, sdA t] w fun e w' => e = .returned (.bool (mayV s t)) ∧ Below w.heap.size w w' := by
 have hu27 := Try.underlying27
 have hu109 := Try.underlying109
 have hm := fun W => meetC_calls s.f0 s.f1 t.f0 t.f1 W
 have HR := Aside0.mk (show mayV s t = if meetC s.f0 s.f1 t.f0 t.f1 = 1 then finV s t (pickV s t) else meetC s.f0 s.f1 t.f0 t.f1 == 0 from rfl)
 obtain ⟨W, hW, gs, gt, hB⟩ := boxS w s t
 generalize mayV s t = R at *
 generalize meetC s.f0 s.f1 t.f0 t.f1 = n at *
 go_enter Try.func77, Try.ntmps77
 go_upto_region 1 with (go_step3)
 rw [← hW]
 clear hW
 obtain ⟨a0, a1, a2, a3, a4, a5, a6, a7, a8, a9⟩ := gs.c
 obtain ⟨b0, b1, b2, b3, b4, b5, b6, b7, b8, b9⟩ := gt.c
 by_cases hn : n = 1
 ·subst hn
  have HR2 := Aside0.mk (show R = finV s t (pickV s t) by rw [HR.out, if_pos rfl])
  clear HR
  go_upto_region 4 with (first | (go_at_call 83; with_reducible refine (hm _).mono ?_; rintro e w2 ⟨rfl, hb2⟩) | go_step3)
  have gs := gs.below hb2
  have gt := gt.below hb2
  have hB := below_step hB hb2
  obtain ⟨a0, a1, a2, a3, a4, a5, a6, a7, a8, a9⟩ := gs.c
  obtain ⟨b0, b1, b2, b3, b4, b5, b6, b7, b8, b9⟩ := gt.c
  go_upto_region 5 with (go_step3)
  have hl1 := blk_lt gs
  have hl2 := blk_lt gt
  have gp := At.new w2 s.f0
  have gs := gs.old (ptO s.f0)
  have gt := gt.old (ptO s.f0)
  have hB := hB.alloc (by omega) (ptO s.f0)
  generalize w2.alloc (ptO s.f0) = W3 at gp gs gt hB ⊢
  clear hb2
  generalize w2.heap.size = g6 at *
  obtain ⟨a0, a1, a2, a3, a4, a5, a6, a7, a8, a9⟩ := gs.c
  obtain ⟨b0, b1, b2, b3, b4, b5, b6, b7, b8, b9⟩ := gt.c
  go_upto_block 0 with (first | ((with_reducible refine gate_dst (N := 30) rfl ?_); refine lit3b ?hg (N := 30) ?hd s.f1 t.f0 t.f1 ?hr ?_; (case hd => rfl); (case hg => rfl); (case hr => first | (go_simp; done) | (go_simp; rfl)); intro w3 hL hb3) | go_step3)
  have hl3 := blk_lt gp
  have gs := gs.below hb3
  have gt := gt.below hb3
  have gp := gp.below hb3
  have hB := below_step hB hb3
  clear hb3 hm
  generalize W3.heap.size = gl at *
  generalize hAd : (⟨gl, 0, none⟩ : Addr) = ad0 at *
  have HAD := Aside0.mk hAd
  clear hAd
  go_wp2_with (go_step3)
  go_loopw [32] (fun v wr => ∃ (i : Nat) (p : Pt), i ≤ 3 ∧ v = .int .i64 i ∧ AtS wr w.heap.size s ∧ AtS wr (w.heap.size + 1) t ∧ At wr g6 p ∧ Li wr gl s.f1 t.f0 t.f1 ∧ Aside0 (([s.f1, t.f0, t.f1].drop i).foldl (pk s t) p = pickV s t) ∧ Below w.heap.size w wr) (fun v _ => 3 - (intV v).toNat)
  case atStart => exact ⟨0, s.f0, by omega, rfl, gs, gt, gp, hL, ⟨rfl⟩, hB⟩
  case round =>
   clear a0 a1 a2 a3 a4 a5 a6 a7 a8 a9 b0 b1 b2 b3 b4 b5 b6 b7 b8 b9 gs gt gp hL hB
   obtain ⟨i, p, hi, rfl, gs, gt, gp, hL, HP, hB⟩ := hrel
   obtain ⟨a0, a1, a2, a3, a4, a5, a6, a7, a8, a9⟩ := gs.c
   obtain ⟨b0, b1, b2, b3, b4, b5, b6, b7, b8, b9⟩ := gt.c
   have p0 := gp.c0
   have p1 := gp.c1
   have p2 := gp.c2
   rcases Nat.lt_or_ge i 3 with hlt | hge
   ·have hii : (i : Int) < 3 := by omega
    have hib : decide ((i : Int) < 3) = true := decide_eq_true hii
    have hLC := hL.C
    rw [HAD.out] at hLC
    obtain ⟨ad, eA, y0, y1, y2⟩ := at_T27 hLC (i : Int) (by omega) hii
    obtain rfl := Option.some.inj eA
    rw [show rd_T27 [s.f1, t.f0, t.f1] (i : Int) = [s.f1, t.f0, t.f1][i] from rdp [s.f1, t.f0, t.f1] i hlt] at y0 y1 y2
    rw [Int.toNat_natCast] at y0 y1 y2
    have hdr : ([s.f1, t.f0, t.f1].drop i).foldl (pk s t) p = ([s.f1, t.f0, t.f1].drop (i + 1)).foldl (pk s t) (pk s t p [s.f1, t.f0, t.f1][i]) := by rw [List.drop_eq_getElem_cons hlt]; rfl
    have HD := Aside0.mk (hdr.symm.trans HP.out)
    have HPK := Aside0.mk (show ∀ x, pk s t p x = if (onB p s.f0 s.f1 && onB p t.f0 t.f1) = true then p else x from fun _ => rfl)
    have hO1 := fun W => on_calls p s.f0 s.f1 W
    have hO2 := fun W => on_calls p t.f0 t.f1 W
    clear hdr HP hLC
    generalize [s.f1, t.f0, t.f1][i] = x at *
    generalize onB p s.f0 s.f1 = o1 at *
    generalize onB p t.f0 t.f1 = o2 at *
    go_upto_region 8 with (go_step3)
    have gx := At.new wr x
    have hll := blk_lt gp
    have gs := gs.old (ptO x)
    have gt := gt.old (ptO x)
    have gp := gp.old (ptO x)
    have hL := hL.old (ptO x)
    have hB := hB.alloc (Nat.le_of_lt (blk_lt' hB hll hl1)) (ptO x)
    clear y0 y1 y2 a0 a1 a2 a3 a4 a5 a6 a7 a8 a9 b0 b1 b2 b3 b4 b5 b6 b7 b8 b9 p0 p1 p2
    generalize wr.alloc (ptO x) = W8 at *
    generalize wr.heap.size = g8 at *
    obtain ⟨a0, a1, a2, a3, a4, a5, a6, a7, a8, a9⟩ := gs.c
    obtain ⟨b0, b1, b2, b3, b4, b5, b6, b7, b8, b9⟩ := gt.c
    have p0 := gp.c0
    have p1 := gp.c1
    have p2 := gp.c2
    have hn1 : w.heap.size ≠ g6 := by omega
    have hn2 : w.heap.size + 1 ≠ g6 := by omega
    have hn3 : gl ≠ g6 := by omega
    have hn4 : w.heap.size ≤ g6 := by omega
    have hi1 : 3 - (intV (Value.int IntKind.i64 ((i : Int) + 1))).toNat < 3 - (intV (Value.int IntKind.i64 (i : Int))).toNat := by simp [intV]; omega
    have HW := Aside0.mk hi1
    clear hi1 HAD
    cases o1
    ·have HN := Aside0.mk (show ([s.f1, t.f0, t.f1].drop (i + 1)).foldl (pk s t) x = pickV s t by have := HD.out; rw [HPK.out] at this; simpa using this)
     clear HD HPK
     go_wp2_with (first | (go_at_call 59; (with_reducible first | refine (hO1 _).mono ?_ | refine (hO2 _).mono ?_); rintro e w5 ⟨rfl, hb5⟩; have gs := gs.below hb5; have gt := gt.below hb5; have gp := gp.below hb5; have gx := gx.below hb5; have hL := hL.below hb5; have hB := below_step hB hb5; clear hb5; obtain ⟨a0, a1, a2, a3, a4, a5, a6, a7, a8, a9⟩ := gs.c; obtain ⟨b0, b1, b2, b3, b4, b5, b6, b7, b8, b9⟩ := gt.c; have p0 := gp.c0; have p1 := gp.c1; have p2 := gp.c2; have q0 := gx.c0; have q1 := gx.c1; have q2 := gx.c2; have f0 := blk_frozen gp 0; have f1 := blk_frozen gp 1; have f2 := blk_frozen gp 2) | go_step3)
     go_roundw
     case rel => exact ⟨i + 1, x, by omega, rfl, gs.far hn1 x, gt.far hn2 x, gp.put x, hL.far hn3 x, HN, below_put hB hn4 x⟩
     case measure => exact HW.out
    ·cases o2
     ·have HN := Aside0.mk (show ([s.f1, t.f0, t.f1].drop (i + 1)).foldl (pk s t) x = pickV s t by have := HD.out; rw [HPK.out] at this; simpa using this)
      clear HD HPK
      go_wp2_with (first | (go_at_call 59; (with_reducible first | refine (hO1 _).mono ?_ | refine (hO2 _).mono ?_); rintro e w5 ⟨rfl, hb5⟩; have gs := gs.below hb5; have gt := gt.below hb5; have gp := gp.below hb5; have gx := gx.below hb5; have hL := hL.below hb5; have hB := below_step hB hb5; clear hb5; obtain ⟨a0, a1, a2, a3, a4, a5, a6, a7, a8, a9⟩ := gs.c; obtain ⟨b0, b1, b2, b3, b4, b5, b6, b7, b8, b9⟩ := gt.c; have p0 := gp.c0; have p1 := gp.c1; have p2 := gp.c2; have q0 := gx.c0; have q1 := gx.c1; have q2 := gx.c2; have f0 := blk_frozen gp 0; have f1 := blk_frozen gp 1; have f2 := blk_frozen gp 2) | go_step3)
      go_roundw
      case rel => exact ⟨i + 1, x, by omega, rfl, gs.far hn1 x, gt.far hn2 x, gp.put x, hL.far hn3 x, HN, below_put hB hn4 x⟩
      case measure => exact HW.out
     ·have HN := Aside0.mk (show ([s.f1, t.f0, t.f1].drop (i + 1)).foldl (pk s t) p = pickV s t by have := HD.out; rw [HPK.out] at this; simpa using this)
      clear HD HPK
      go_wp2_with (first | (go_at_call 59; (with_reducible first | refine (hO1 _).mono ?_ | refine (hO2 _).mono ?_); rintro e w5 ⟨rfl, hb5⟩; have gs := gs.below hb5; have gt := gt.below hb5; have gp := gp.below hb5; have gx := gx.below hb5; have hL := hL.below hb5; have hB := below_step hB hb5; clear hb5; obtain ⟨a0, a1, a2, a3, a4, a5, a6, a7, a8, a9⟩ := gs.c; obtain ⟨b0, b1, b2, b3, b4, b5, b6, b7, b8, b9⟩ := gt.c; have p0 := gp.c0; have p1 := gp.c1; have p2 := gp.c2; have q0 := gx.c0; have q1 := gx.c1; have q2 := gx.c2; have f0 := blk_frozen gp 0; have f1 := blk_frozen gp 1; have f2 := blk_frozen gp 2) | go_step3)
      go_roundw
      case rel => exact ⟨i + 1, p, by omega, rfl, gs, gt, gp, hL, HN, hB⟩
      case measure => exact HW.out
   ·have hib : decide ((i : Int) < 3) = false := decide_eq_false (by omega)
    have hii : ¬ (i : Int) < 3 := by omega
    have hp : p = pickV s t := by
     have := HP.out
     rw [List.drop_of_length_le (by show 3 ≤ i; omega)] at this
     exact this
    have HF := Aside0.mk (show R = ((s.f2 == t.f2 && (s.f3 + 1 == t.f3 && Gr.eqP p s.f1)) || (endV s p && endV t p)) by rw [HR2.out, ← hp]; rfl)
    have hE1 := fun W => end_calls s p W
    have hE2 := fun W => end_calls t p W
    have heq : Gr.eqP p s.f1 = (p.f0 == s.f1.f0 && (p.f1 == s.f1.f1 && (p.f2 == s.f1.f2))) := rfl
    have hw : wrap64 (s.f3 + 1) = s.f3 + 1 := wrap64_in' _ (by omega)
    rw [heq] at HF
    clear HP hp HR2 HAD hL heq
    generalize endV s p = e1 at *
    generalize endV t p = e2 at *
    have HW := Aside0.mk hw
    clear hw
    cases hc1 : (s.f2 == t.f2)
    ·rw [hc1, Bool.false_and, Bool.false_or] at HF
     cases e1 <;> cases e2 <;> (
      go_wp2_with (first | (go_at_call 84; (with_reducible first | refine (hE1 _).mono ?_ | refine (hE2 _).mono ?_); rintro e w5 ⟨rfl, hb5⟩; have gs := gs.below hb5; have gt := gt.below hb5; have gp := gp.below hb5; have hB := below_step hB hb5; clear hb5; obtain ⟨a0, a1, a2, a3, a4, a5, a6, a7, a8, a9⟩ := gs.c; obtain ⟨b0, b1, b2, b3, b4, b5, b6, b7, b8, b9⟩ := gt.c; have p0 := gp.c0; have p1 := gp.c1; have p2 := gp.c2) | go_step3)
      go_ret
      exact ⟨by rw [HF.out]; rfl, hB⟩)
    ·rw [hc1, Bool.true_and] at HF
     have hw := HW.out
     cases hc2 : (s.f3 + 1 == t.f3)
     ·rw [hc2, Bool.false_and, Bool.false_or] at HF
      cases e1 <;> cases e2 <;> (
       go_wp2_with (first | (go_at_call 84; (with_reducible first | refine (hE1 _).mono ?_ | refine (hE2 _).mono ?_); rintro e w5 ⟨rfl, hb5⟩; have gs := gs.below hb5; have gt := gt.below hb5; have gp := gp.below hb5; have hB := below_step hB hb5; clear hb5; obtain ⟨a0, a1, a2, a3, a4, a5, a6, a7, a8, a9⟩ := gs.c; obtain ⟨b0, b1, b2, b3, b4, b5, b6, b7, b8, b9⟩ := gt.c; have p0 := gp.c0; have p1 := gp.c1; have p2 := gp.c2) | go_step3)
       go_ret
       exact ⟨by rw [HF.out]; rfl, hB⟩)
     ·rw [hc2, Bool.true_and] at HF
      have HQ : (p.f0 == s.f1.f0) = false ∨ (p.f0 == s.f1.f0) = true ∧ (p.f1 == s.f1.f1) = false ∨ (p.f0 == s.f1.f0) = true ∧ (p.f1 == s.f1.f1) = true ∧ (p.f2 == s.f1.f2) = false ∨ (p.f0 == s.f1.f0) = true ∧ (p.f1 == s.f1.f1) = true ∧ (p.f2 == s.f1.f2) = true := by
       cases (p.f0 == s.f1.f0) <;> cases (p.f1 == s.f1.f1) <;> cases (p.f2 == s.f1.f2) <;> simp
      rcases HQ with h | ⟨h, h'⟩ | ⟨h, h', h''⟩ | ⟨h, h', h''⟩
      ·rw [h, Bool.false_and, Bool.false_or] at HF
       cases e1 <;> cases e2 <;> (
        go_wp2_with (first | (go_at_call 84; (with_reducible first | refine (hE1 _).mono ?_ | refine (hE2 _).mono ?_); rintro e w5 ⟨rfl, hb5⟩; have gs := gs.below hb5; have gt := gt.below hb5; have gp := gp.below hb5; have hB := below_step hB hb5; clear hb5; obtain ⟨a0, a1, a2, a3, a4, a5, a6, a7, a8, a9⟩ := gs.c; obtain ⟨b0, b1, b2, b3, b4, b5, b6, b7, b8, b9⟩ := gt.c; have p0 := gp.c0; have p1 := gp.c1; have p2 := gp.c2) | go_step3)
        go_ret
        exact ⟨by rw [HF.out]; rfl, hB⟩)
      ·rw [h, h', Bool.true_and, Bool.false_and, Bool.false_or] at HF
       cases e1 <;> cases e2 <;> (
        go_wp2_with (first | (go_at_call 84; (with_reducible first | refine (hE1 _).mono ?_ | refine (hE2 _).mono ?_); rintro e w5 ⟨rfl, hb5⟩; have gs := gs.below hb5; have gt := gt.below hb5; have gp := gp.below hb5; have hB := below_step hB hb5; clear hb5; obtain ⟨a0, a1, a2, a3, a4, a5, a6, a7, a8, a9⟩ := gs.c; obtain ⟨b0, b1, b2, b3, b4, b5, b6, b7, b8, b9⟩ := gt.c; have p0 := gp.c0; have p1 := gp.c1; have p2 := gp.c2) | go_step3)
        go_ret
        exact ⟨by rw [HF.out]; rfl, hB⟩)
      ·rw [h, h', h'', Bool.true_and, Bool.true_and, Bool.false_or] at HF
       cases e1 <;> cases e2 <;> (
        go_wp2_with (first | (go_at_call 84; (with_reducible first | refine (hE1 _).mono ?_ | refine (hE2 _).mono ?_); rintro e w5 ⟨rfl, hb5⟩; have gs := gs.below hb5; have gt := gt.below hb5; have gp := gp.below hb5; have hB := below_step hB hb5; clear hb5; obtain ⟨a0, a1, a2, a3, a4, a5, a6, a7, a8, a9⟩ := gs.c; obtain ⟨b0, b1, b2, b3, b4, b5, b6, b7, b8, b9⟩ := gt.c; have p0 := gp.c0; have p1 := gp.c1; have p2 := gp.c2) | go_step3)
        go_ret
        exact ⟨by rw [HF.out]; rfl, hB⟩)
      ·rw [h, h', h'', Bool.true_and, Bool.true_and, Bool.true_or] at HF
       go_wp2_with (first | (go_at_call 84; (with_reducible first | refine (hE1 _).mono ?_ | refine (hE2 _).mono ?_); rintro e w5 ⟨rfl, hb5⟩; have gs := gs.below hb5; have gt := gt.below hb5; have gp := gp.below hb5; have hB := below_step hB hb5; clear hb5; obtain ⟨a0, a1, a2, a3, a4, a5, a6, a7, a8, a9⟩ := gs.c; obtain ⟨b0, b1, b2, b3, b4, b5, b6, b7, b8, b9⟩ := gt.c; have p0 := gp.c0; have p1 := gp.c1; have p2 := gp.c2) | go_step3)
       go_ret
       exact ⟨by rw [HF.out]; rfl, hB⟩
 ·have HRF := Aside0.mk (show R = (n == 0) by rw [HR.out, if_neg hn])
  have hnb : (n != 1) = true := by simpa using hn
  clear HR hn
  go_wp2_with (first | (go_at_call 83; with_reducible refine (hm _).mono ?_; rintro e w2 ⟨rfl, hb2⟩) | go_step3)
  go_ret
  exact ⟨by rw [HRF.out]; rfl, below_step hB hb2⟩
end Go.Proofs.Ytbonkedecfjmdaa.Pl

namespace Go.Proofs.Ytbonkedecfjmdaa.Pl
set_option linter.unusedVariables false
set_option linter.unusedSimpArgs false
open Go Go.RowKit Go.Proofs.Ytbonkedecfjmdaa.P Go.Proofs.Ytbonkedecfjmdaa.G Go.Proofs.YtbonkedecfjmdaaW.PrintWords Go.Proofs.YtbonkedecfjmdaaW.PrintLast Go.Proofs.YtbonkedecfjmdaaW.PrintMore
def badV : List Sd → Bool
 | [] => false
 | s :: t => t.any (fun x => !mayV s x) || badV t
def meetsV (m : List (List Pt)) : Bool := decide (arcsV m = 0) && badV (sidesV 0 m)
theorem rd_sd (L : List Sd) (i : Nat) (h : i < L.length) : rd_T109 L (i : Int) = L[i] := by simp [rd_T109, List.getD, List.getElem?_eq_getElem h]
theorem sd_small : ∀ (m : List (List Pt)) (k : Nat), (∀ a ∈ m, a.length ≤ 1048576) → ∀ s ∈ sidesV k m, 0 ≤ s.f3 ∧ s.f3 ≤ 100000000
 | [], _, _, s, h => by simp [sidesV] at h
 | a :: m, k, hx, s, h => by
  rcases List.mem_append.1 h with h | h
  ·unfold sidesA at h
   obtain ⟨i, hi, rfl⟩ := List.mem_map.1 h
   have := hx a (List.mem_cons_self ..)
   rw [List.mem_range'] at hi
   obtain ⟨j, hj, rfl⟩ := hi
   unfold sideAt
   show (0 : Int) ≤ ((0 + 1 * j + 1 : Nat) : Int) ∧ ((0 + 1 * j + 1 : Nat) : Int) ≤ 100000000
   omega
  ·exact sd_small m (k + 1) (fun b hb => hx b (List.mem_cons_of_mem _ hb)) s h
theorem sides_len : ∀ (m : List (List Pt)) (k : Nat), (sidesV k m).length ≤ (m.map List.length).sum
 | [], _ => by simp [sidesV]
 | a :: m, k => by
  have := sides_len m (k + 1)
  rw [sidesV, List.length_append, List.map_cons, List.sum_cons]
  unfold sidesA
  rw [List.length_map, List.length_range']
  omega
set_option maxHeartbeats 8000000 in
set_option maxRecDepth 100000 in
theorem meets_calls (A0 A1 A2 : Option Addr) (c0 c1 c2 : Nat) (m : List (List Pt)) (r p : List (List Int)) (w : World) (hr0 : Kd.C (Kd.slice 27 k27) w A0 m.length m) (hc0 : m.length ≤ c0) (hr1 : Kd.C (Kd.slice 3 (Kd.int .i64)) w A1 r.length r) (hc1 : r.length ≤ c1) (hr2 : Kd.C (Kd.slice 3 (Kd.int .i64)) w A2 p.length p) (hc2 : p.length ≤ c2)
  (hm : m.length ≤ 1048576) (hx : ∀ a ∈ m, a.length ≤ 1048576) :
  Calls Try.prog 57 #[.agg #[.slice A0 m.length c0, .slice A1 r.length c1, .slice A2 p.length c2]] w fun e w' => e = .returned (.bool (meetsV m)) ∧ Below w.heap.size w w' := by
 have hu25 := Try.underlying25
 have hu109 := Try.underlying109
 obtain ⟨K, hK⟩ := arcs_ev m hm hx
 have harc := fun W h => arc_Check.calls K A0 c0 m (arcsV m) W (Kd.C_below hr0 h) hc0 (hK K (Nat.le_refl _))
 clear hK
 obtain ⟨K2, hK2⟩ := sides_ev m r p hm hx
 have hsides := fun W (h : Below w.heap.size w W) => plan_sides.calls K2 A0 c0 m A1 c1 r A2 c2 p (sidesV 0 m) W (Kd.C_below hr0 h) hc0 (Kd.C_below hr1 h) hc1 (Kd.C_below hr2 h) hc2 (hK2 K2 (Nat.le_refl _))
 clear hK2
 have hsm := sd_small m 0 hx
 have hsl := sides_len m 0
 have hmv : meetsV m = (decide (arcsV m = 0) && badV (sidesV 0 m)) := rfl
 have hlong : arcsV m = 0 → (m.map List.length).sum ≤ 20000 := by
  intro h
  unfold arcsV at h
  split at h
  ·simp at h
  ·omega
 generalize sidesV 0 m = L at *
 generalize meetsV m = R at *
 by_cases he : arcsV m = 0
 ·have hL := hlong he
  rw [decide_eq_true he, Bool.true_and] at hmv
  rw [he] at harc
  have HMV := Aside0.mk hmv
  clear hmv hlong he
  have hLn : L.length ≤ 20000 := by omega
  clear hsl hL
  go_enter Try.func57, Try.ntmps57
  go_upto_region 3 with (first | (go_at_call 56; refine (harc _ ((Below.refl _ w).alloc (Nat.le_refl _) _)).mono ?_; rintro e w2 ⟨rfl, hb2⟩) | go_step3)
  have hB1 : Below w.heap.size w (w.alloc (.cells #[.slice A0 m.length c0, .slice A1 r.length c1, .slice A2 p.length c2] 25)) := (Below.refl _ w).alloc (Nat.le_refl _) _
  have hB2 := below_step hB1 hb2
  have hg := blk_below (heap_alloc_new w (.cells #[.slice A0 m.length c0, .slice A1 r.length c1, .slice A2 p.length c2] 25)) hb2
  have x0 : w2.cell? ⟨w.heap.size, 0, none⟩ = some (.slice A0 m.length c0) := (blk_cell hg 0).trans rfl
  have x1 : w2.cell? ⟨w.heap.size, 1, none⟩ = some (.slice A1 r.length c1) := (blk_cell hg 1).trans rfl
  have x2 : w2.cell? ⟨w.heap.size, 2, none⟩ = some (.slice A2 p.length c2) := (blk_cell hg 2).trans rfl
  have hs2 := hsides w2 hB2
  clear harc hsides hb2 hB1 hg
  go_upto_region 4 with (first | (go_at_call 76; refine hs2.mono ?_; rintro e w3 ⟨v3, rfl, ho3, hb3⟩) | go_step3)
  obtain ⟨A3, c3, e3⟩ := Kd.R_slice ho3
  subst e3
  have hr3 := Kd.R_reads' ho3
  have hB3 := below_step hB2 hb3
  clear x0 x1 x2 hs2 ho3 hb3 hB2
  go_wp2_with (go_step3)
  go_loopw [4, 17] (fun bv v wr => ∃ i : Nat, i ≤ L.length ∧ v = .int .i64 i ∧ bv = .bool false ∧ Aside0 (R = badV (L.drop i)) ∧ Below w3.heap.size w3 wr) (fun _ v _ => L.length - (intV v).toNat)
  case atStart => exact ⟨0, by omega, rfl, rfl, ⟨HMV.out⟩, Below.refl _ _⟩
  case round =>
   obtain ⟨i, hi, rfl, rfl, HR, hB⟩ := hrel
   rcases Nat.lt_or_ge i L.length with hlt | hge
   ·have hii : (i : Int) < (L.length : Int) := by omega
    have hib : decide ((i : Int) < (L.length : Int)) = true := decide_eq_true hii
    have hCr := Kd.C_below hr3.2.2 hB
    obtain ⟨ad, eA, y0, y1, y2, y3, y4, y5, y6, y7, y8, y9⟩ := at_T109 hCr (i : Int) (by omega) hii
    subst eA
    rw [rd_sd L i hlt, Int.toNat_natCast] at y0 y1 y2 y3 y4 y5 y6 y7 y8 y9
    have hsi := hsm _ (List.getElem_mem hlt)
    have hdrop : L.drop i = L[i] :: L.drop (i + 1) := List.drop_eq_getElem_cons hlt
    have HD := Aside0.mk hdrop
    clear hdrop
    generalize L[i] = s at *
    obtain ⟨i0, hi0, hzz⟩ := Option.map_eq_some_iff.1 info109
    have hsz : i0.size = 10 := by simp only [Prod.mk.injEq] at hzz; exact hzz.2.1
    have ec : ((i : Int) + 1).toNat = i + 1 := by omega
    obtain ⟨A9, hcut, hC9⟩ : ∃ A9, (∀ W : World, (Instr.slice 106 (.slice (some ad) L.length c3) (some (.int .i64 ((i : Int) + 1))) none none).run Try.prog W = .ok (.slice A9 (L.length - (i + 1)) (c3 - (i + 1))) W) ∧ (∀ W : World, Kd.C k109 W (some ad) L.length L → Kd.C k109 W A9 (L.drop (i + 1)).length (L.drop (i + 1))) := by
     have h := cut_from (P := Try.prog) 106 109 .i64 Try.underlying106 hi0 10 hsz (some ad) L.length c3 ((i : Int) + 1) (by omega) (by omega)
     rw [ec] at h
     exact ⟨_, h, fun W hW => Kd.C_drop hW (by omega) hr3.2.1⟩
    have hT := hC9 wr hCr
    have hTl : (L.drop (i + 1)).length = L.length - (i + 1) := List.length_drop
    have hsub : ∀ x ∈ L.drop (i + 1), 0 ≤ x.f3 ∧ x.f3 ≤ 100000000 := fun x hx => hsm x (List.mem_of_mem_drop hx)
    rw [← hTl] at hcut
    have hRT : R = ((L.drop (i + 1)).any (fun x => !mayV s x) || badV (L.drop (i + 1))) := by rw [HR.out, HD.out]; rfl
    have HRT := Aside0.mk hRT
    have hTs : (L.drop (i + 1)).length ≤ 20000 := by omega
    clear hzz ec hi0 hsz hC9 hTl hRT HR HD hsub
    generalize hTD : L.drop (i + 1) = T at *
    have HTD := Aside0.mk hTD
    clear hTD
    go_upto_block 2 with (go_step3)
    clear y0 y1 y2 y3 y4 y5 y6 y7 y8 y9 hcut
    have hgs := heap_alloc_new wr (.cells #[.int .i64 s.f0.f0, .int .i64 s.f0.f1, .int .i64 s.f0.f2, .int .i64 s.f1.f0, .int .i64 s.f1.f1, .int .i64 s.f1.f2, .int .i64 s.f2, .int .i64 s.f3, .bool s.f4, .bool s.f5] 109)
    have hba : Below wr.heap.size wr (wr.alloc (.cells #[.int .i64 s.f0.f0, .int .i64 s.f0.f1, .int .i64 s.f0.f2, .int .i64 s.f1.f0, .int .i64 s.f1.f1, .int .i64 s.f1.f2, .int .i64 s.f2, .int .i64 s.f3, .bool s.f4, .bool s.f5] 109)) := (Below.refl _ wr).alloc (Nat.le_refl _) _
    generalize wr.alloc (.cells #[.int .i64 s.f0.f0, .int .i64 s.f0.f1, .int .i64 s.f0.f2, .int .i64 s.f1.f0, .int .i64 s.f1.f1, .int .i64 s.f1.f2, .int .i64 s.f2, .int .i64 s.f3, .bool s.f4, .bool s.f5] 109) = w4 at hgs hba ⊢
    have hT4 := Kd.C_below hT hba
    have hB4 := below_step hB hba
    clear hT hCr hB hba
    generalize wr.heap.size = gs at hgs ⊢
    clear wr
    go_wp2_with (go_step3)
    go_loopw [4, 27] (fun bv v wq => ∃ j : Nat, j ≤ T.length ∧ v = .int .i64 j ∧ bv = .bool false ∧ Aside0 (R = ((T.drop j).any (fun x => !mayV s x) || badV T)) ∧ Below w4.heap.size w4 wq) (fun _ v _ => T.length - (intV v).toNat)
    case atStart => exact ⟨0, by omega, rfl, rfl, ⟨HRT.out⟩, Below.refl _ _⟩
    case round =>
     obtain ⟨j, hj, rfl, rfl, HR2, hBq⟩ := hrel
     rcases Nat.lt_or_ge j T.length with hjt | hje
     ·have hji : (j : Int) < (T.length : Int) := by omega
      have hjb : decide ((j : Int) < (T.length : Int)) = true := decide_eq_true hji
      obtain ⟨ad2, eA2, y0, y1, y2, y3, y4, y5, y6, y7, y8, y9⟩ := at_T109 (Kd.C_below hT4 hBq) (j : Int) (by omega) hji
      subst eA2
      rw [rd_sd T j hjt, Int.toNat_natCast] at y0 y1 y2 y3 y4 y5 y6 y7 y8 y9
      have hmay := fun W => may_calls s T[j] W hsi
      have hdrop : T.drop j = T[j] :: T.drop (j + 1) := List.drop_eq_getElem_cons hjt
      have hRj := HR2.out
      rw [hdrop, List.any_cons] at hRj
      have HRJ := Aside0.mk hRj
      have hgq := blk_below hgs hBq
      have z0 : wr.cell? ⟨gs, 0, none⟩ = some (.int .i64 s.f0.f0) := (blk_cell hgq 0).trans rfl
      have z1 : wr.cell? ⟨gs, 1, none⟩ = some (.int .i64 s.f0.f1) := (blk_cell hgq 1).trans rfl
      have z2 : wr.cell? ⟨gs, 2, none⟩ = some (.int .i64 s.f0.f2) := (blk_cell hgq 2).trans rfl
      have z3 : wr.cell? ⟨gs, 3, none⟩ = some (.int .i64 s.f1.f0) := (blk_cell hgq 3).trans rfl
      have z4 : wr.cell? ⟨gs, 4, none⟩ = some (.int .i64 s.f1.f1) := (blk_cell hgq 4).trans rfl
      have z5 : wr.cell? ⟨gs, 5, none⟩ = some (.int .i64 s.f1.f2) := (blk_cell hgq 5).trans rfl
      have z6 : wr.cell? ⟨gs, 6, none⟩ = some (.int .i64 s.f2) := (blk_cell hgq 6).trans rfl
      have z7 : wr.cell? ⟨gs, 7, none⟩ = some (.int .i64 s.f3) := (blk_cell hgq 7).trans rfl
      have z8 : wr.cell? ⟨gs, 8, none⟩ = some (.bool s.f4) := (blk_cell hgq 8).trans rfl
      have z9 : wr.cell? ⟨gs, 9, none⟩ = some (.bool s.f5) := (blk_cell hgq 9).trans rfl
      clear hdrop hRj HR2
      generalize T[j] = x at *
      have hlt := blk_lt hgq
      have hne : gs ≠ wr.heap.size := by omega
      have hne2 : wr.heap.size ≠ gs := by omega
      clear hgq
      go_upto_region 11 with (go_step3)
      clear y0 y1 y2 y3 y4 y5 y6 y7 y8 y9
      have hgs5 : (wr.alloc (.cells #[.int .i64 x.f0.f0, .int .i64 x.f0.f1, .int .i64 x.f0.f2, .int .i64 x.f1.f0, .int .i64 x.f1.f1, .int .i64 x.f1.f2, .int .i64 x.f2, .int .i64 x.f3, .bool x.f4, .bool x.f5] 109)).heap.size = wr.heap.size + 1 := by simp
      have hB5 := below_alloc hBq (.cells #[.int .i64 x.f0.f0, .int .i64 x.f0.f1, .int .i64 x.f0.f2, .int .i64 x.f1.f0, .int .i64 x.f1.f1, .int .i64 x.f1.f2, .int .i64 x.f2, .int .i64 x.f3, .bool x.f4, .bool x.f5] 109)
      cases hmv : mayV s x with
      | true =>
       rw [hmv] at hmay HRJ
       clear hmv
       go_wp2_with (first | (go_at_call 77; refine (hmay _).mono ?_; rintro e w6 ⟨rfl, hb6⟩) | go_step3)
       go_roundw
       case rel => exact ⟨j + 1, by omega, rfl, rfl, ⟨by rw [HRJ.out]; rfl⟩, below_step hB5 hb6⟩
       case measure => simp [intV]; omega
      | false =>
       rw [hmv] at hmay HRJ
       clear hmv
       go_wp2_with (first | (go_at_call 77; refine (hmay _).mono ?_; rintro e w6 ⟨rfl, hb6⟩) | go_step3)
       rw [Exit.noGoto_ret]
       go_ret
       exact ⟨by rw [HRJ.out]; rfl, below_step hB3 (below_step hB4 (below_step hB5 hb6))⟩
     ·have hji : ¬ (j : Int) < (T.length : Int) := by omega
      have hjb : decide ((j : Int) < (T.length : Int)) = false := decide_eq_false hji
      have hRe : R = badV T := by rw [HR2.out, List.drop_of_length_le hje]; rfl
      have HRE := Aside0.mk hRe
      clear hRe HR2
      go_wp2_with (go_step3)
      go_roundw
      case rel => exact ⟨i + 1, by omega, rfl, rfl, ⟨by rw [HTD.out]; exact HRE.out⟩, below_step hB4 hBq⟩
      case measure => simp [intV]; omega
   ·have hii : ¬ (i : Int) < (L.length : Int) := by omega
    have hib : decide ((i : Int) < (L.length : Int)) = false := decide_eq_false hii
    have hRe : R = false := by rw [HR.out, List.drop_of_length_le hge]; rfl
    have HRE := Aside0.mk hRe
    clear hRe HR
    go_wp2_with (go_step3)
    go_ret
    exact ⟨by rw [HRE.out]; rfl, below_step hB3 hB⟩
 ·rw [decide_eq_false he, Bool.false_and] at hmv
  have heb : (arcsV m != 0) = true := bne_iff_ne.mpr he
  clear hlong he
  subst hmv
  go_enter Try.func57, Try.ntmps57
  go_wp2_with (first | (go_at_call 56; refine (harc _ ((Below.refl _ w).alloc (Nat.le_refl _) _)).mono ?_; rintro e w2 ⟨rfl, hb2⟩) | go_step3)
  rw [Exit.noGoto_ret]
  go_ret
  exact ⟨rfl, below_step ((Below.refl _ w).alloc (Nat.le_refl _) _) hb2⟩
end Go.Proofs.Ytbonkedecfjmdaa.Pl
