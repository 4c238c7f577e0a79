/- geom.Meet walked (printed by gen_kp.py). No condition. plan.may walked. No condition. -/
import Derived.Test.YtbonkedecfjmdaaZ11
import Derived.Test.YtbonkedecfjmdaaZ10
import Derived.Test.YtbonkedecfjmdaaZ16

namespace Go.Proofs.Ytbonkedecfjmdaa.Pl
set_option linter.unusedVariables false
set_option linter.unusedSimpArgs false
open Go Go.RowKit Go.Proofs.Ytbonkedecfjmdaa.P Go.Proofs.Ytbonkedecfjmdaa.G Go.Proofs.Ytbonkedecfjmdaa.WL Go.Proofs.YtbonkedecfjmdaaW.PrintWords Go.Proofs.YtbonkedecfjmdaaW.PrintLast Go.Proofs.YtbonkedecfjmdaaW.PrintMore

theorem meet_cross {a b c d : Pt} (ha : rt a = true) (hb : rt b = true) (hc : rt c = true) (hd : rt d = true) (hc' : crs a b c d) : meetM a b c d = 2 := by
  have g1 := hc'.1
  have g2 := hc'.2
  have n1 : ¬ one_ a b c d := fun h => by
    rcases (one_any ha hb hc hd).1 h with h | h | h | h
    · have : side c d a = 0 := side0.2 (onB_iff.1 h).2.2.2.1
      rw [this] at g2; omega
    · have : side c d b = 0 := side0.2 (onB_iff.1 h).2.2.2.1
      rw [this] at g2; omega
    · have : side a b c = 0 := side0.2 (onB_iff.1 h).2.2.2.1
      rw [this] at g1; omega
    · have : side a b d = 0 := side0.2 (onB_iff.1 h).2.2.2.1
      rw [this] at g1; omega
  have n2 : ¬ two_ a b c d := fun ⟨x, y, hx, _, bx, _⟩ => n1 ⟨x, hx, bx⟩
  unfold meetM crsV
  rw [if_neg n2, if_neg n1, if_pos hc']
theorem meet_rest {a b c d : Pt} (ha : rt a = true) (hb : rt b = true) (hc : rt c = true) (hd : rt d = true) (hz : ¬ (side a b c = 0 ∧ side a b d = 0 ∧ side c d a = 0 ∧ side c d b = 0)) (hn : ¬ crs a b c d) : meetM a b c d = if (onB a c d || (onB b c d || (onB c a b || onB d a b))) = true then 1 else 0 := by
  have t2 : ¬ two_ a b c d := fun h => hz ⟨side0.2 (two_line h).1, side0.2 (two_line h).2.1, side0.2 (two_line h).2.2.1, side0.2 (two_line h).2.2.2⟩
  have o := one_any ha hb hc hd
  unfold meetM crsV
  rw [if_neg t2, if_neg hn]
  by_cases h : one_ a b c d
  · rw [if_pos h, if_pos]
    have := o.1 h
    simpa [Bool.or_eq_true] using this
  · rw [if_neg h, if_neg]
    intro h2
    apply h
    apply o.2
    simpa [Bool.or_eq_true] using h2
theorem At.drew {w : World} {g : Nat} {a : Pt} (h : At w g a) : At w.drew g a := blk_drew h
theorem hold4 {w' : World} {g1 g2 g3 g4 : Nat} {a b c d : Pt} (h1 : At w' g1 a) (h2 : At w' g2 b) (h3 : At w' g3 c) (h4 : At w' g4 d) : w'.cell? ⟨g1, 0, none⟩ = some (.int .i64 a.f0) ∧ w'.cell? ⟨g1, 1, none⟩ = some (.int .i64 a.f1) ∧ w'.cell? ⟨g1, 2, none⟩ = some (.int .i64 a.f2) ∧ w'.cell? ⟨g2, 0, none⟩ = some (.int .i64 b.f0) ∧ w'.cell? ⟨g2, 1, none⟩ = some (.int .i64 b.f1) ∧ w'.cell? ⟨g2, 2, none⟩ = some (.int .i64 b.f2) ∧ w'.cell? ⟨g3, 0, none⟩ = some (.int .i64 c.f0) ∧ w'.cell? ⟨g3, 1, none⟩ = some (.int .i64 c.f1) ∧ w'.cell? ⟨g3, 2, none⟩ = some (.int .i64 c.f2) ∧ w'.cell? ⟨g4, 0, none⟩ = some (.int .i64 d.f0) ∧ w'.cell? ⟨g4, 1, none⟩ = some (.int .i64 d.f1) ∧ w'.cell? ⟨g4, 2, none⟩ = some (.int .i64 d.f2) := ⟨h1.c0, h1.c1, h1.c2, h2.c0, h2.c1, h2.c2, h3.c0, h3.c1, h3.c2, h4.c0, h4.c1, h4.c2⟩
theorem box4 (w : World) (a b c d : Pt) : ∃ W, W = (((w.alloc (ptO a)).alloc (ptO b)).alloc (ptO c)).alloc (ptO d) ∧ At W w.heap.size a ∧ At W (w.heap.size + 1) b ∧ At W (w.heap.size + 1 + 1) c ∧ At W (w.heap.size + 1 + 1 + 1) d ∧ Below w.heap.size w W := by
  obtain ⟨W, e, hs, h1, h2, h3, hB⟩ := box3 w a b c
  have h4 := At.new W d
  rw [hs] at h4
  refine ⟨_, rfl, ?_⟩
  rw [← e]
  exact ⟨h1.old _, h2.old _, h3.old _, h4, hB.alloc (by omega) _⟩
theorem lit4 {ops : Array Oper} {rest : List Oper} {o : Oper} {a : Act} {Q : Exit → Act → World → Prop} {W : World} (hgd : o.guard = none) {N : Tmp} (hd : o.dst = some N) (p q r s : Pt)
    (hrun : (execOp a.eval o).run Try.prog W = .ok (.value (.slice (some ⟨W.heap.size, 0, none⟩) 4 4)) (W.alloc (.cells #[.int .i64 p.f0, .int .i64 p.f1, .int .i64 p.f2, .int .i64 q.f0, .int .i64 q.f1, .int .i64 q.f2, .int .i64 r.f0, .int .i64 r.f1, .int .i64 r.f2, .int .i64 s.f0, .int .i64 s.f1, .int .i64 s.f2] 27)))
    (h : ∀ w1, Kd.C k27 w1 (some ⟨W.heap.size, 0, none⟩) 4 [p, q, r, s] → Below W.heap.size W w1 → wpList Try.prog ops Q rest (a.put o.dst (.slice (some ⟨W.heap.size, 0, none⟩) 4 4)) w1) : wpList Try.prog ops Q (o :: rest) a W := by
  refine Kd.event_run hgd hrun (h _ ?_ ((Below.refl _ W).alloc (Nat.le_refl _) _))
  have hg := heap_alloc_new W (.cells #[.int .i64 p.f0, .int .i64 p.f1, .int .i64 p.f2, .int .i64 q.f0, .int .i64 q.f1, .int .i64 q.f2, .int .i64 r.f0, .int .i64 r.f1, .int .i64 r.f2, .int .i64 s.f0, .int .i64 s.f1, .int .i64 s.f2] 27)
  generalize W.alloc _ = W1 at hg ⊢
  refine ⟨rfl, by simp, fun _ => ⟨⟨W.heap.size, 0, none⟩, rfl, fun j x hx => ?_⟩⟩
  have c := fun i => cell_of_row W1 W.heap.size i _ _ _ hg
  have ad : ∀ i : Nat, (Addr.add ⟨W.heap.size, 0, none⟩ i) = ⟨W.heap.size, i, none⟩ := fun i => by rw [Addr.add_mid]; simp
  have hk : ∀ x : Pt, k27.K W1 x [.int .i64 x.f0, .int .i64 x.f1, .int .i64 x.f2] := fun x => ⟨_, _, rfl, rfl, ⟨_, _, rfl, rfl, rfl⟩⟩
  have hj : j < 4 := by
    rcases Nat.lt_or_ge j 4 with h | h
    · exact h
    · rw [List.getElem?_eq_none (by simpa using h)] at hx; cases hx
  refine ⟨_, rfl, hk x, fun i u hu => ?_⟩
  have hi : i < 3 := by
    rcases Nat.lt_or_ge i 3 with h | h
    · exact h
    · rw [List.getElem?_eq_none (by simpa using h)] at hu; cases hu
  rw [show j * k27.sz + i = j * 3 + i from rfl, ad, c]
  rcases j with _ | _ | _ | _ | j <;> rcases i with _ | _ | _ | i <;> first | omega | (simp at hx hu; subst hx; subst hu; rfl)
theorem turn_calls {a b c : Pt} (ha : rt a = true) (hb : rt b = true) (hc : rt c = true) (W : World) : Calls Try.prog 60 #[ptA a, ptA b, ptA c] W fun e w' => e = .returned (.int .i64 (side a b c)) ∧ Below W.heap.size W w' := by
  obtain ⟨K2, hK2⟩ := gturn_ev ha hb hc
  exact geom_turn.calls K2 _ _ _ _ _ _ _ _ _ _ W (hK2 K2 (Nat.le_refl _))
def meetT3 : Bool × List (List Nat × List Nat) := (true, [([], []), ([], []), ([], []), ([0, 1, 2], [0, 1, 2]), ([], []), ([], []), ([], []), ([4, 5, 6, 3], [4, 5, 6]), ([3, 7, 0, 1, 2, 3], [3]), ([7, 8, 0, 1, 2, 3, 4, 5, 6, 7, 8], [7])])
def meetB3 : List Nat := [0, 0, 0, 7, 0, 0, 0, 127, 255, 511]
theorem meetTab3 : rtab .any (opsOf Try.f83 3) = meetT3 := by kernel_rfl
theorem meetBits3 : waitsOk meetT3.2 meetB3 = true := by kernel_rfl
theorem meetTab4 : rtab .any (opsOf Try.f83 4) = meetT3 := by kernel_rfl
theorem meetBits4 : waitsOk meetT3.2 meetB3 = true := by kernel_rfl
set_option maxHeartbeats 16000000 in
set_option maxRecDepth 100000 in
theorem meet_calls (a b c d : Pt) (w : World) : Calls Try.prog 83 #[ptA a, ptA b, ptA c, ptA d] w fun e w' => e = .returned (.int .i64 (meetV a b c d)) ∧ Below w.heap.size w w' := by
  have hu27 := Try.underlying27
  obtain ⟨K, hK⟩ := gRight_ev [a, b, c, d] (by simp)
  have hright : ∀ W A, Kd.C k27 W A 4 [a, b, c, d] → Calls Try.prog 32 #[.slice A 4 4] W fun e w' => e = .returned (.bool (rt a && (rt b && (rt c && rt d)))) ∧ Below W.heap.size W w' := fun W A hC => by
    have := geom_Right.calls K A 4 [a, b, c, d] _ W hC (Nat.le_refl _) (hK K (Nat.le_refl _))
    rw [show [a, b, c, d].all rt = (rt a && (rt b && (rt c && rt d))) by simp] at this
    exact this
  have HMV := Aside0.mk (show meetV a b c d = if (rt a && (rt b && (rt c && rt d))) = true then meetM a b c d else 0 by unfold meetV; rfl)
  obtain ⟨W, hW, ga, gb, gc, gd, hB⟩ := box4 w a b c d
  clear hK
  generalize meetV a b c d = R at *
  go_enter Try.func83, Try.ntmps83
  go_upto_region 1 with (go_step3)
  rw [← hW]
  clear hW
  by_cases h : (rt a && (rt b && (rt c && rt d))) = true
  · rw [h] at hright
    have HR := Aside0.mk (show R = meetM a b c d by rw [HMV.out, if_pos h])
    simp only [Bool.and_eq_true] at h
    obtain ⟨ha, hb, hc, hd⟩ := h
    have T1 := turn_calls ha hb hc
    have T2 := turn_calls ha hb hd
    have T3 := turn_calls hc hd ha
    have T4 := turn_calls hc hd hb
    have O1 := fun W => on_calls a c d W
    have O2 := fun W => on_calls b c d W
    have O3 := fun W => on_calls c a b W
    have O4 := fun W => on_calls d a b W
    obtain ⟨K2, hK2⟩ := along_ev ha hb hc hd
    have hal := fun W => geom_along.calls K2 _ _ _ _ _ _ _ _ _ _ _ _ _ W (hK2 K2 (Nat.le_refl _))
    have HZ := Aside0.mk (show side a b c = 0 → side a b d = 0 → side c d a = 0 → side c d b = 0 → R = touch (max (min (key a) (key b)) (min (key c) (key d))) (min (max (key a) (key b)) (max (key c) (key d))) from fun z1 z2 z3 z4 => by rw [HR.out, ← along_val ha hb hc hd (side0.1 z1) (side0.1 z2) (side0.1 z3) (side0.1 z4)])
    have HX := Aside0.mk (show ¬ (side a b c = 0 ∧ side a b d = 0 ∧ side c d a = 0 ∧ side c d b = 0) → side a b c * side a b d < 0 → side c d a * side c d b < 0 → R = 2 from fun _ g1 g2 => by rw [HR.out, meet_cross ha hb hc hd ⟨g1, g2⟩])
    have HN := Aside0.mk (show ¬ (side a b c = 0 ∧ side a b d = 0 ∧ side c d a = 0 ∧ side c d b = 0) → ¬ (side a b c * side a b d < 0 ∧ side c d a * side c d b < 0) → R = if (onB a c d || (onB b c d || (onB c a b || onB d a b))) = true then 1 else 0 from fun hz hn => by rw [HR.out, meet_rest ha hb hc hd hz hn])
    have r1 := side_mul a b c a b d
    have r2 := side_mul c d a c d b
    clear hK2 HMV HR ha hb hc hd
    generalize touch (max (min (key a) (key b)) (min (key c) (key d))) (min (max (key a) (key b)) (max (key c) (key d))) = z at *
    generalize side a b c = p at *
    generalize side a b d = q at *
    generalize side c d a = r at *
    generalize side c d b = s at *
    generalize onB a c d = o1 at *
    generalize onB b c d = o2 at *
    generalize onB c a b = o3 at *
    generalize onB d a b = o4 at *
    have R1 := Aside0.mk r1
    have R2 := Aside0.mk r2
    clear r1 r2
    have a0 := ga.c0
    have a1 := ga.c1
    have a2 := ga.c2
    have b0 := gb.c0
    have b1 := gb.c1
    have b2 := gb.c2
    have c0 := gc.c0
    have c1 := gc.c1
    have c2 := gc.c2
    have d0 := gd.c0
    have d1 := gd.c1
    have d2 := gd.c2
    go_upto_region 3 with (first | ((with_reducible refine gate_dst (N := 17) rfl ?_); refine lit4 ?hg (N := 17) ?hd a b c d ?hr ?_; (case hd => rfl); (case hg => rfl); (case hr => first | (go_simp; done) | (go_simp; rfl)); intro w3 hC hb3; have hrr := hright _ _ hC; have ga := ga.below hb3; have gb := gb.below hb3; have gc := gc.below hb3; have gd := gd.below hb3; have hB := below_step hB hb3) | (go_at_call 32; refine hrr.mono ?_; rintro e w4 ⟨rfl, hb4⟩; have ga := ga.below hb4; have gb := gb.below hb4; have gc := gc.below hb4; have gd := gd.below hb4; have hB := below_step hB hb4) | go_step3)
    clear a0 a1 a2 b0 b1 b2 c0 c1 c2 d0 d1 d2
    clear hrr hC hright hb3 hb4
    have ga := ga.drew
    have gb := gb.drew
    have gc := gc.drew
    have gd := gd.drew
    have hB := below_drew1 hB
    refine start_ (n := 10) (S := fun w' => w'.cell? ⟨w.heap.size, 0, none⟩ = some (.int .i64 a.f0) ∧ w'.cell? ⟨w.heap.size, 1, none⟩ = some (.int .i64 a.f1) ∧ w'.cell? ⟨w.heap.size, 2, none⟩ = some (.int .i64 a.f2) ∧ w'.cell? ⟨w.heap.size + 1, 0, none⟩ = some (.int .i64 b.f0) ∧ w'.cell? ⟨w.heap.size + 1, 1, none⟩ = some (.int .i64 b.f1) ∧ w'.cell? ⟨w.heap.size + 1, 2, none⟩ = some (.int .i64 b.f2) ∧ w'.cell? ⟨w.heap.size + 1 + 1, 0, none⟩ = some (.int .i64 c.f0) ∧ w'.cell? ⟨w.heap.size + 1 + 1, 1, none⟩ = some (.int .i64 c.f1) ∧ w'.cell? ⟨w.heap.size + 1 + 1, 2, none⟩ = some (.int .i64 c.f2) ∧ w'.cell? ⟨w.heap.size + 1 + 1 + 1, 0, none⟩ = some (.int .i64 d.f0) ∧ w'.cell? ⟨w.heap.size + 1 + 1 + 1, 1, none⟩ = some (.int .i64 d.f1) ∧ w'.cell? ⟨w.heap.size + 1 + 1 + 1, 2, none⟩ = some (.int .i64 d.f2)) (ds := []) #[false, false, false, false, false, false, false, false, false, false] (by kernel_rfl) (by rfl) (by rfl) (by exact hold4 ga gb gc gd) (fun hHeld => ?_); refine with_tabW meetTab3 meetBits3 (fun HT_ HW_ => ?_)
    generalize World.drew _ = W3 at ga gb gc gd hB hHeld ⊢
    refine take_ (i := 0) (N := some 20) (v := ?_) (a' := ?_) #[true, false, false, false, false, false, false, false, false, false] rfl rfl (take_ofW HT_.out HW_.out (by kernel_rfl)) (fun _ _ _ h => h) (Or.inl ⟨by rfl, ?_⟩) hHeld ?_ ?_
    rotate_left
    · rintro w' ⟨s0, s1, s2, s3, s4, s5, s6, s7, s8, s9, s10, s11⟩
      go_simp
      with_reducible rfl
    rotate_left
    · simp only [Act.put, List.setIfInBounds_toArray, List.set_cons_zero, List.set_cons_succ, i64_w, i32_w]
      rfl
    refine take_ (i := 1) (N := some 21) (v := ?_) (a' := ?_) #[true, true, false, false, false, false, false, false, false, false] rfl rfl (take_ofW HT_.out HW_.out (by kernel_rfl)) (fun _ _ _ h => h) (Or.inl ⟨by rfl, ?_⟩) hHeld ?_ ?_
    rotate_left
    · rintro w' ⟨s0, s1, s2, s3, s4, s5, s6, s7, s8, s9, s10, s11⟩
      go_simp
      with_reducible rfl
    rotate_left
    · simp only [Act.put, List.setIfInBounds_toArray, List.set_cons_zero, List.set_cons_succ, i64_w, i32_w]
      rfl
    refine take_ (i := 2) (N := some 22) (v := ?_) (a' := ?_) #[true, true, true, false, false, false, false, false, false, false] rfl rfl (take_ofW HT_.out HW_.out (by kernel_rfl)) (fun _ _ _ h => h) (Or.inl ⟨by rfl, ?_⟩) hHeld ?_ ?_
    rotate_left
    · rintro w' ⟨s0, s1, s2, s3, s4, s5, s6, s7, s8, s9, s10, s11⟩
      go_simp
      with_reducible rfl
    rotate_left
    · simp only [Act.put, List.setIfInBounds_toArray, List.set_cons_zero, List.set_cons_succ, i64_w, i32_w]
      rfl
    refine take_ (i := 4) (N := some 24) (v := ?_) (a' := ?_) #[true, true, true, false, true, false, false, false, false, false] rfl rfl (take_ofW HT_.out HW_.out (by kernel_rfl)) (fun _ _ _ h => h) (Or.inl ⟨by rfl, ?_⟩) hHeld ?_ ?_
    rotate_left
    · rintro w' ⟨s0, s1, s2, s3, s4, s5, s6, s7, s8, s9, s10, s11⟩
      go_simp
      with_reducible rfl
    rotate_left
    · simp only [Act.put, List.setIfInBounds_toArray, List.set_cons_zero, List.set_cons_succ, i64_w, i32_w]
      rfl
    refine take_ (i := 5) (N := some 25) (v := ?_) (a' := ?_) #[true, true, true, false, true, true, false, false, false, false] rfl rfl (take_ofW HT_.out HW_.out (by kernel_rfl)) (fun _ _ _ h => h) (Or.inl ⟨by rfl, ?_⟩) hHeld ?_ ?_
    rotate_left
    · rintro w' ⟨s0, s1, s2, s3, s4, s5, s6, s7, s8, s9, s10, s11⟩
      go_simp
      with_reducible rfl
    rotate_left
    · simp only [Act.put, List.setIfInBounds_toArray, List.set_cons_zero, List.set_cons_succ, i64_w, i32_w]
      rfl
    refine take_ (i := 6) (N := some 26) (v := ?_) (a' := ?_) #[true, true, true, false, true, true, true, false, false, false] rfl rfl (take_ofW HT_.out HW_.out (by kernel_rfl)) (fun _ _ _ h => h) (Or.inl ⟨by rfl, ?_⟩) hHeld ?_ ?_
    rotate_left
    · rintro w' ⟨s0, s1, s2, s3, s4, s5, s6, s7, s8, s9, s10, s11⟩
      go_simp
      with_reducible rfl
    rotate_left
    · simp only [Act.put, List.setIfInBounds_toArray, List.set_cons_zero, List.set_cons_succ, i64_w, i32_w]
      rfl
    refine one_ (i := 3) (N := some 23) #[true, true, true, true, true, true, true, false, false, false] rfl rfl (one_of HT_.out (by kernel_rfl)) (by decide) (fun K hK => ?_)
    refine goes_ Try.func60 (by kernel_rfl) rfl #[.agg #[.int .i64 a.f0, .int .i64 a.f1, .int .i64 a.f2], .agg #[.int .i64 b.f0, .int .i64 b.f1, .int .i64 b.f2], .agg #[.int .i64 c.f0, .int .i64 c.f1, .int .i64 c.f2]] (by rfl) rfl rfl (by (try simp only [List.map_toArray, List.map_cons, List.map_nil]); first | done | rfl) ?_
    refine (T1 _).mono ?_
    rintro e w7 ⟨rfl, hb⟩
    refine ⟨_, rfl, ?_⟩
    have ga := ga.below hb
    have gb := gb.below hb
    have gc := gc.below hb
    have gd := gd.below hb
    have hB := below_step hB hb
    refine hK.out _ _ (by exact hold4 ga gb gc gd) (fun hHeld => ?_)
    clear hK K hb
    refine norm_ (a' := ?_) ?_ ?_
    rotate_left
    · show Act.put _ (some 23) _ = _
      simp only [Act.put, List.setIfInBounds_toArray, List.set_cons_zero, List.set_cons_succ, i64_w, i32_w]
      rfl
    refine one_ (i := 7) (N := some 27) #[true, true, true, true, true, true, true, true, false, false] rfl rfl (one_of HT_.out (by kernel_rfl)) (by decide) (fun K hK => ?_)
    refine goes_ Try.func60 (by kernel_rfl) rfl #[.agg #[.int .i64 a.f0, .int .i64 a.f1, .int .i64 a.f2], .agg #[.int .i64 b.f0, .int .i64 b.f1, .int .i64 b.f2], .agg #[.int .i64 d.f0, .int .i64 d.f1, .int .i64 d.f2]] (by rfl) rfl rfl (by (try simp only [List.map_toArray, List.map_cons, List.map_nil]); first | done | rfl) ?_
    refine (T2 _).mono ?_
    rintro e w7 ⟨rfl, hb⟩
    refine ⟨_, rfl, ?_⟩
    have ga := ga.below hb
    have gb := gb.below hb
    have gc := gc.below hb
    have gd := gd.below hb
    have hB := below_step hB hb
    refine hK.out _ _ (by exact hold4 ga gb gc gd) (fun hHeld => ?_)
    clear hK K hb
    refine norm_ (a' := ?_) ?_ ?_
    rotate_left
    · show Act.put _ (some 27) _ = _
      simp only [Act.put, List.setIfInBounds_toArray, List.set_cons_zero, List.set_cons_succ, i64_w, i32_w]
      rfl
    refine pure_ (i := 8) (N := some 9) (v := ?_) (a' := ?_) #[true, true, true, true, true, true, true, true, true, false] rfl rfl (any_of HT_.out (by kernel_rfl)) (fun _ _ _ h => h) (Or.inl ⟨by rfl, ?_⟩) ?_ ?_
    rotate_left
    · intro w'
      go_simp
      with_reducible rfl
    rotate_left
    · simp only [Act.put, List.setIfInBounds_toArray, List.set_cons_zero, List.set_cons_succ, i64_w, i32_w]
      rfl
    refine pure_ (i := 9) (N := some 10) (v := ?_) (a' := ?_) #[true, true, true, true, true, true, true, true, true, true] rfl rfl (any_of HT_.out (by kernel_rfl)) (fun _ _ _ h => h) (Or.inl ⟨by rfl, ?_⟩) ?_ ?_
    rotate_left
    · intro w'
      go_simp
      with_reducible rfl
    rotate_left
    · simp only [Act.put, List.setIfInBounds_toArray, List.set_cons_zero, List.set_cons_succ, i64_w, i32_w]
      rfl
    refine done_ (done_of HT_.out (by kernel_rfl)) ?_
    clear hHeld HT_ HW_
    go_upto_region 4 with (fail)
    have ga := ga.drew
    have gb := gb.drew
    have gc := gc.drew
    have gd := gd.drew
    have hB := below_drew1 hB
    refine start_ (n := 10) (S := fun w' => w'.cell? ⟨w.heap.size, 0, none⟩ = some (.int .i64 a.f0) ∧ w'.cell? ⟨w.heap.size, 1, none⟩ = some (.int .i64 a.f1) ∧ w'.cell? ⟨w.heap.size, 2, none⟩ = some (.int .i64 a.f2) ∧ w'.cell? ⟨w.heap.size + 1, 0, none⟩ = some (.int .i64 b.f0) ∧ w'.cell? ⟨w.heap.size + 1, 1, none⟩ = some (.int .i64 b.f1) ∧ w'.cell? ⟨w.heap.size + 1, 2, none⟩ = some (.int .i64 b.f2) ∧ w'.cell? ⟨w.heap.size + 1 + 1, 0, none⟩ = some (.int .i64 c.f0) ∧ w'.cell? ⟨w.heap.size + 1 + 1, 1, none⟩ = some (.int .i64 c.f1) ∧ w'.cell? ⟨w.heap.size + 1 + 1, 2, none⟩ = some (.int .i64 c.f2) ∧ w'.cell? ⟨w.heap.size + 1 + 1 + 1, 0, none⟩ = some (.int .i64 d.f0) ∧ w'.cell? ⟨w.heap.size + 1 + 1 + 1, 1, none⟩ = some (.int .i64 d.f1) ∧ w'.cell? ⟨w.heap.size + 1 + 1 + 1, 2, none⟩ = some (.int .i64 d.f2)) (ds := []) #[false, false, false, false, false, false, false, false, false, false] (by kernel_rfl) (by rfl) (by rfl) (by exact hold4 ga gb gc gd) (fun hHeld => ?_); refine with_tabW meetTab4 meetBits4 (fun HT_ HW_ => ?_)
    generalize World.drew _ = W4 at ga gb gc gd hB hHeld ⊢
    refine take_ (i := 0) (N := some 28) (v := ?_) (a' := ?_) #[true, false, false, false, false, false, false, false, false, false] rfl rfl (take_ofW HT_.out HW_.out (by kernel_rfl)) (fun _ _ _ h => h) (Or.inl ⟨by rfl, ?_⟩) hHeld ?_ ?_
    rotate_left
    · rintro w' ⟨s0, s1, s2, s3, s4, s5, s6, s7, s8, s9, s10, s11⟩
      go_simp
      with_reducible rfl
    rotate_left
    · simp only [Act.put, List.setIfInBounds_toArray, List.set_cons_zero, List.set_cons_succ, i64_w, i32_w]
      rfl
    refine take_ (i := 1) (N := some 29) (v := ?_) (a' := ?_) #[true, true, false, false, false, false, false, false, false, false] rfl rfl (take_ofW HT_.out HW_.out (by kernel_rfl)) (fun _ _ _ h => h) (Or.inl ⟨by rfl, ?_⟩) hHeld ?_ ?_
    rotate_left
    · rintro w' ⟨s0, s1, s2, s3, s4, s5, s6, s7, s8, s9, s10, s11⟩
      go_simp
      with_reducible rfl
    rotate_left
    · simp only [Act.put, List.setIfInBounds_toArray, List.set_cons_zero, List.set_cons_succ, i64_w, i32_w]
      rfl
    refine take_ (i := 2) (N := some 30) (v := ?_) (a' := ?_) #[true, true, true, false, false, false, false, false, false, false] rfl rfl (take_ofW HT_.out HW_.out (by kernel_rfl)) (fun _ _ _ h => h) (Or.inl ⟨by rfl, ?_⟩) hHeld ?_ ?_
    rotate_left
    · rintro w' ⟨s0, s1, s2, s3, s4, s5, s6, s7, s8, s9, s10, s11⟩
      go_simp
      with_reducible rfl
    rotate_left
    · simp only [Act.put, List.setIfInBounds_toArray, List.set_cons_zero, List.set_cons_succ, i64_w, i32_w]
      rfl
    refine take_ (i := 4) (N := some 32) (v := ?_) (a' := ?_) #[true, true, true, false, true, false, false, false, false, false] rfl rfl (take_ofW HT_.out HW_.out (by kernel_rfl)) (fun _ _ _ h => h) (Or.inl ⟨by rfl, ?_⟩) hHeld ?_ ?_
    rotate_left
    · rintro w' ⟨s0, s1, s2, s3, s4, s5, s6, s7, s8, s9, s10, s11⟩
      go_simp
      with_reducible rfl
    rotate_left
    · simp only [Act.put, List.setIfInBounds_toArray, List.set_cons_zero, List.set_cons_succ, i64_w, i32_w]
      rfl
    refine take_ (i := 5) (N := some 33) (v := ?_) (a' := ?_) #[true, true, true, false, true, true, false, false, false, false] rfl rfl (take_ofW HT_.out HW_.out (by kernel_rfl)) (fun _ _ _ h => h) (Or.inl ⟨by rfl, ?_⟩) hHeld ?_ ?_
    rotate_left
    · rintro w' ⟨s0, s1, s2, s3, s4, s5, s6, s7, s8, s9, s10, s11⟩
      go_simp
      with_reducible rfl
    rotate_left
    · simp only [Act.put, List.setIfInBounds_toArray, List.set_cons_zero, List.set_cons_succ, i64_w, i32_w]
      rfl
    refine take_ (i := 6) (N := some 34) (v := ?_) (a' := ?_) #[true, true, true, false, true, true, true, false, false, false] rfl rfl (take_ofW HT_.out HW_.out (by kernel_rfl)) (fun _ _ _ h => h) (Or.inl ⟨by rfl, ?_⟩) hHeld ?_ ?_
    rotate_left
    · rintro w' ⟨s0, s1, s2, s3, s4, s5, s6, s7, s8, s9, s10, s11⟩
      go_simp
      with_reducible rfl
    rotate_left
    · simp only [Act.put, List.setIfInBounds_toArray, List.set_cons_zero, List.set_cons_succ, i64_w, i32_w]
      rfl
    refine one_ (i := 3) (N := some 31) #[true, true, true, true, true, true, true, false, false, false] rfl rfl (one_of HT_.out (by kernel_rfl)) (by decide) (fun K hK => ?_)
    refine goes_ Try.func60 (by kernel_rfl) rfl #[.agg #[.int .i64 c.f0, .int .i64 c.f1, .int .i64 c.f2], .agg #[.int .i64 d.f0, .int .i64 d.f1, .int .i64 d.f2], .agg #[.int .i64 a.f0, .int .i64 a.f1, .int .i64 a.f2]] (by rfl) rfl rfl (by (try simp only [List.map_toArray, List.map_cons, List.map_nil]); first | done | rfl) ?_
    refine (T3 _).mono ?_
    rintro e w7 ⟨rfl, hb⟩
    refine ⟨_, rfl, ?_⟩
    have ga := ga.below hb
    have gb := gb.below hb
    have gc := gc.below hb
    have gd := gd.below hb
    have hB := below_step hB hb
    refine hK.out _ _ (by exact hold4 ga gb gc gd) (fun hHeld => ?_)
    clear hK K hb
    refine norm_ (a' := ?_) ?_ ?_
    rotate_left
    · show Act.put _ (some 31) _ = _
      simp only [Act.put, List.setIfInBounds_toArray, List.set_cons_zero, List.set_cons_succ, i64_w, i32_w]
      rfl
    refine one_ (i := 7) (N := some 35) #[true, true, true, true, true, true, true, true, false, false] rfl rfl (one_of HT_.out (by kernel_rfl)) (by decide) (fun K hK => ?_)
    refine goes_ Try.func60 (by kernel_rfl) rfl #[.agg #[.int .i64 c.f0, .int .i64 c.f1, .int .i64 c.f2], .agg #[.int .i64 d.f0, .int .i64 d.f1, .int .i64 d.f2], .agg #[.int .i64 b.f0, .int .i64 b.f1, .int .i64 b.f2]] (by rfl) rfl rfl (by (try simp only [List.map_toArray, List.map_cons, List.map_nil]); first | done | rfl) ?_
    refine (T4 _).mono ?_
    rintro e w7 ⟨rfl, hb⟩
    refine ⟨_, rfl, ?_⟩
    have ga := ga.below hb
    have gb := gb.below hb
    have gc := gc.below hb
    have gd := gd.below hb
    have hB := below_step hB hb
    refine hK.out _ _ (by exact hold4 ga gb gc gd) (fun hHeld => ?_)
    clear hK K hb
    refine norm_ (a' := ?_) ?_ ?_
    rotate_left
    · show Act.put _ (some 35) _ = _
      simp only [Act.put, List.setIfInBounds_toArray, List.set_cons_zero, List.set_cons_succ, i64_w, i32_w]
      rfl
    refine pure_ (i := 8) (N := some 11) (v := ?_) (a' := ?_) #[true, true, true, true, true, true, true, true, true, false] rfl rfl (any_of HT_.out (by kernel_rfl)) (fun _ _ _ h => h) (Or.inl ⟨by rfl, ?_⟩) ?_ ?_
    rotate_left
    · intro w'
      go_simp
      with_reducible rfl
    rotate_left
    · simp only [Act.put, List.setIfInBounds_toArray, List.set_cons_zero, List.set_cons_succ, i64_w, i32_w]
      rfl
    refine pure_ (i := 9) (N := some 12) (v := ?_) (a' := ?_) #[true, true, true, true, true, true, true, true, true, true] rfl rfl (any_of HT_.out (by kernel_rfl)) (fun _ _ _ h => h) (Or.inl ⟨by rfl, ?_⟩) ?_ ?_
    rotate_left
    · intro w'
      go_simp
      with_reducible rfl
    rotate_left
    · simp only [Act.put, List.setIfInBounds_toArray, List.set_cons_zero, List.set_cons_succ, i64_w, i32_w]
      rfl
    refine done_ (done_of HT_.out (by kernel_rfl)) ?_
    clear hHeld HT_ HW_
    go_upto_region 5 with (fail)
    have a0 := ga.c0
    have a1 := ga.c1
    have a2 := ga.c2
    have b0 := gb.c0
    have b1 := gb.c1
    have b2 := gb.c2
    have c0 := gc.c0
    have c1 := gc.c1
    have c2 := gc.c2
    have d0 := gd.c0
    have d1 := gd.c1
    have d2 := gd.c2
    by_cases hz : p = 0 ∧ q = 0 ∧ r = 0 ∧ s = 0
    · obtain ⟨rfl, rfl, rfl, rfl⟩ := hz
      have HRF := Aside0.mk (HZ.out rfl rfl rfl rfl)
      clear HZ HX HN R1 R2
      go_wp2_with (first | (go_at_call 87; refine (hal _).mono ?_; rintro e w8 ⟨rfl, hb8⟩) | go_step3)
      go_ret
      exact ⟨by rw [HRF.out]; rfl, below_step hB hb8⟩
    · have HX2 := Aside0.mk (HX.out hz)
      have HN2 := Aside0.mk (HN.out hz)
      have HF : (p == 0) = false ∨ (p == 0) = true ∧ (q == 0) = false ∨ (p == 0) = true ∧ (q == 0) = true ∧ (r == 0) = false ∨ (p == 0) = true ∧ (q == 0) = true ∧ (r == 0) = true ∧ (s == 0) = false := by
        simp only [beq_eq_false_iff_ne, beq_iff_eq, ne_eq]
        omega
      clear HZ HX HN hz hal T1 T2 T3 T4
      by_cases g1 : p * q < 0
      · by_cases g2 : r * s < 0
        · have HRF := Aside0.mk (HX2.out g1 g2)
          have e1 : wrap64 (p * q) = p * q := R1.out
          have e2 : wrap64 (r * s) = r * s := R2.out
          have e3 : decide (p * q < 0) = true := decide_eq_true g1
          have e4 : decide (r * s < 0) = true := decide_eq_true g2
          clear HX2 HN2 R1 R2
          rcases HF with h | ⟨h, h'⟩ | ⟨h, h', h''⟩ | ⟨h, h', h'', h4⟩ <;> (
            go_wp2_with (go_step3)
            go_ret
            exact ⟨by rw [HRF.out]; rfl, hB⟩)
        · have HRF := Aside0.mk (HN2.out (fun h => g2 h.2))
          have e1 : wrap64 (p * q) = p * q := R1.out
          have e2 : wrap64 (r * s) = r * s := R2.out
          have e3 : decide (p * q < 0) = true := decide_eq_true g1
          have e4 : decide (r * s < 0) = false := decide_eq_false g2
          clear HX2 HN2 R1 R2
          rcases HF with h | ⟨h, h'⟩ | ⟨h, h', h''⟩ | ⟨h, h', h'', h4⟩ <;> (
            go_upto_region 9 with (go_step3)
            cases o1
            rotate_left
            · go_wp2_with (first | (go_at_call 59; (with_reducible first | refine (O1 _).mono ?_ | refine (O2 _).mono ?_ | refine (O3 _).mono ?_ | refine (O4 _).mono ?_); rintro e w8 ⟨rfl, hb8⟩; have ga := ga.below hb8; have gb := gb.below hb8; have gc := gc.below hb8; have gd := gd.below hb8; have hB := below_step hB hb8; clear hb8; have a0 := ga.c0; have a1 := ga.c1; have a2 := ga.c2; have b0 := gb.c0; have b1 := gb.c1; have b2 := gb.c2; have c0 := gc.c0; have c1 := gc.c1; have c2 := gc.c2; have d0 := gd.c0; have d1 := gd.c1; have d2 := gd.c2) | go_step3)
              go_ret
              exact ⟨by rw [HRF.out]; rfl, hB⟩
            cases o2
            rotate_left
            · go_wp2_with (first | (go_at_call 59; (with_reducible first | refine (O1 _).mono ?_ | refine (O2 _).mono ?_ | refine (O3 _).mono ?_ | refine (O4 _).mono ?_); rintro e w8 ⟨rfl, hb8⟩; have ga := ga.below hb8; have gb := gb.below hb8; have gc := gc.below hb8; have gd := gd.below hb8; have hB := below_step hB hb8; clear hb8; have a0 := ga.c0; have a1 := ga.c1; have a2 := ga.c2; have b0 := gb.c0; have b1 := gb.c1; have b2 := gb.c2; have c0 := gc.c0; have c1 := gc.c1; have c2 := gc.c2; have d0 := gd.c0; have d1 := gd.c1; have d2 := gd.c2) | go_step3)
              go_ret
              exact ⟨by rw [HRF.out]; rfl, hB⟩
            cases o3
            rotate_left
            · go_wp2_with (first | (go_at_call 59; (with_reducible first | refine (O1 _).mono ?_ | refine (O2 _).mono ?_ | refine (O3 _).mono ?_ | refine (O4 _).mono ?_); rintro e w8 ⟨rfl, hb8⟩; have ga := ga.below hb8; have gb := gb.below hb8; have gc := gc.below hb8; have gd := gd.below hb8; have hB := below_step hB hb8; clear hb8; have a0 := ga.c0; have a1 := ga.c1; have a2 := ga.c2; have b0 := gb.c0; have b1 := gb.c1; have b2 := gb.c2; have c0 := gc.c0; have c1 := gc.c1; have c2 := gc.c2; have d0 := gd.c0; have d1 := gd.c1; have d2 := gd.c2) | go_step3)
              go_ret
              exact ⟨by rw [HRF.out]; rfl, hB⟩
            cases o4
            rotate_left
            · go_wp2_with (first | (go_at_call 59; (with_reducible first | refine (O1 _).mono ?_ | refine (O2 _).mono ?_ | refine (O3 _).mono ?_ | refine (O4 _).mono ?_); rintro e w8 ⟨rfl, hb8⟩; have ga := ga.below hb8; have gb := gb.below hb8; have gc := gc.below hb8; have gd := gd.below hb8; have hB := below_step hB hb8; clear hb8; have a0 := ga.c0; have a1 := ga.c1; have a2 := ga.c2; have b0 := gb.c0; have b1 := gb.c1; have b2 := gb.c2; have c0 := gc.c0; have c1 := gc.c1; have c2 := gc.c2; have d0 := gd.c0; have d1 := gd.c1; have d2 := gd.c2) | go_step3)
              go_ret
              exact ⟨by rw [HRF.out]; rfl, hB⟩
            go_wp2_with (first | (go_at_call 59; (with_reducible first | refine (O1 _).mono ?_ | refine (O2 _).mono ?_ | refine (O3 _).mono ?_ | refine (O4 _).mono ?_); rintro e w8 ⟨rfl, hb8⟩; have ga := ga.below hb8; have gb := gb.below hb8; have gc := gc.below hb8; have gd := gd.below hb8; have hB := below_step hB hb8; clear hb8; have a0 := ga.c0; have a1 := ga.c1; have a2 := ga.c2; have b0 := gb.c0; have b1 := gb.c1; have b2 := gb.c2; have c0 := gc.c0; have c1 := gc.c1; have c2 := gc.c2; have d0 := gd.c0; have d1 := gd.c1; have d2 := gd.c2) | go_step3)
            go_ret
            exact ⟨by rw [HRF.out]; rfl, hB⟩)
      · have HRF := Aside0.mk (HN2.out (fun h => g1 h.1))
        have e1 : wrap64 (p * q) = p * q := R1.out
        have e3 : decide (p * q < 0) = false := decide_eq_false g1
        clear HX2 HN2 R1 R2
        rcases HF with h | ⟨h, h'⟩ | ⟨h, h', h''⟩ | ⟨h, h', h'', h4⟩ <;> (
          go_upto_region 9 with (go_step3)
          cases o1
          rotate_left
          · go_wp2_with (first | (go_at_call 59; (with_reducible first | refine (O1 _).mono ?_ | refine (O2 _).mono ?_ | refine (O3 _).mono ?_ | refine (O4 _).mono ?_); rintro e w8 ⟨rfl, hb8⟩; have ga := ga.below hb8; have gb := gb.below hb8; have gc := gc.below hb8; have gd := gd.below hb8; have hB := below_step hB hb8; clear hb8; have a0 := ga.c0; have a1 := ga.c1; have a2 := ga.c2; have b0 := gb.c0; have b1 := gb.c1; have b2 := gb.c2; have c0 := gc.c0; have c1 := gc.c1; have c2 := gc.c2; have d0 := gd.c0; have d1 := gd.c1; have d2 := gd.c2) | go_step3)
            go_ret
            exact ⟨by rw [HRF.out]; rfl, hB⟩
          cases o2
          rotate_left
          · go_wp2_with (first | (go_at_call 59; (with_reducible first | refine (O1 _).mono ?_ | refine (O2 _).mono ?_ | refine (O3 _).mono ?_ | refine (O4 _).mono ?_); rintro e w8 ⟨rfl, hb8⟩; have ga := ga.below hb8; have gb := gb.below hb8; have gc := gc.below hb8; have gd := gd.below hb8; have hB := below_step hB hb8; clear hb8; have a0 := ga.c0; have a1 := ga.c1; have a2 := ga.c2; have b0 := gb.c0; have b1 := gb.c1; have b2 := gb.c2; have c0 := gc.c0; have c1 := gc.c1; have c2 := gc.c2; have d0 := gd.c0; have d1 := gd.c1; have d2 := gd.c2) | go_step3)
            go_ret
            exact ⟨by rw [HRF.out]; rfl, hB⟩
          cases o3
          rotate_left
          · go_wp2_with (first | (go_at_call 59; (with_reducible first | refine (O1 _).mono ?_ | refine (O2 _).mono ?_ | refine (O3 _).mono ?_ | refine (O4 _).mono ?_); rintro e w8 ⟨rfl, hb8⟩; have ga := ga.below hb8; have gb := gb.below hb8; have gc := gc.below hb8; have gd := gd.below hb8; have hB := below_step hB hb8; clear hb8; have a0 := ga.c0; have a1 := ga.c1; have a2 := ga.c2; have b0 := gb.c0; have b1 := gb.c1; have b2 := gb.c2; have c0 := gc.c0; have c1 := gc.c1; have c2 := gc.c2; have d0 := gd.c0; have d1 := gd.c1; have d2 := gd.c2) | go_step3)
            go_ret
            exact ⟨by rw [HRF.out]; rfl, hB⟩
          cases o4
          rotate_left
          · go_wp2_with (first | (go_at_call 59; (with_reducible first | refine (O1 _).mono ?_ | refine (O2 _).mono ?_ | refine (O3 _).mono ?_ | refine (O4 _).mono ?_); rintro e w8 ⟨rfl, hb8⟩; have ga := ga.below hb8; have gb := gb.below hb8; have gc := gc.below hb8; have gd := gd.below hb8; have hB := below_step hB hb8; clear hb8; have a0 := ga.c0; have a1 := ga.c1; have a2 := ga.c2; have b0 := gb.c0; have b1 := gb.c1; have b2 := gb.c2; have c0 := gc.c0; have c1 := gc.c1; have c2 := gc.c2; have d0 := gd.c0; have d1 := gd.c1; have d2 := gd.c2) | go_step3)
            go_ret
            exact ⟨by rw [HRF.out]; rfl, hB⟩
          go_wp2_with (first | (go_at_call 59; (with_reducible first | refine (O1 _).mono ?_ | refine (O2 _).mono ?_ | refine (O3 _).mono ?_ | refine (O4 _).mono ?_); rintro e w8 ⟨rfl, hb8⟩; have ga := ga.below hb8; have gb := gb.below hb8; have gc := gc.below hb8; have gd := gd.below hb8; have hB := below_step hB hb8; clear hb8; have a0 := ga.c0; have a1 := ga.c1; have a2 := ga.c2; have b0 := gb.c0; have b1 := gb.c1; have b2 := gb.c2; have c0 := gc.c0; have c1 := gc.c1; have c2 := gc.c2; have d0 := gd.c0; have d1 := gd.c1; have d2 := gd.c2) | go_step3)
          go_ret
          exact ⟨by rw [HRF.out]; rfl, hB⟩)
  · have HRF := Aside0.mk (show R = 0 by rw [HMV.out, if_neg h])
    rw [Bool.eq_false_iff.2 h] at hright
    have a0 := ga.c0
    have a1 := ga.c1
    have a2 := ga.c2
    have b0 := gb.c0
    have b1 := gb.c1
    have b2 := gb.c2
    have c0 := gc.c0
    have c1 := gc.c1
    have c2 := gc.c2
    have d0 := gd.c0
    have d1 := gd.c1
    have d2 := gd.c2
    clear HMV h
    go_wp2_with (first | ((with_reducible refine gate_dst (N := 17) rfl ?_); refine lit4 ?hg (N := 17) ?hd a b c d ?hr ?_; (case hd => rfl); (case hg => rfl); (case hr => first | (go_simp; done) | (go_simp; rfl)); intro w3 hC hb3; have hrr := hright _ _ hC) | (go_at_call 32; refine hrr.mono ?_; rintro e w4 ⟨rfl, hb4⟩) | go_step3)
    go_ret
    exact ⟨by rw [HRF.out]; rfl, below_step (below_step hB hb3) hb4⟩
end Go.Proofs.Ytbonkedecfjmdaa.Pl

namespace Go.Proofs.Ytbonkedecfjmdaa.Pl
set_option linter.unusedVariables false
set_option linter.unusedSimpArgs false
open Go Go.RowKit Go.Proofs.Ytbonkedecfjmdaa.P Go.Proofs.Ytbonkedecfjmdaa.G Go.Proofs.Ytbonkedecfjmdaa.WL Go.Proofs.YtbonkedecfjmdaaW.PrintWords Go.Proofs.YtbonkedecfjmdaaW.PrintLast Go.Proofs.YtbonkedecfjmdaaW.PrintMore

theorem wrap64_in' (n : Int) (h : -9223372036854775808 ≤ n ∧ n ≤ 9223372036854775807) : wrap64 n = n := by unfold wrap64; omega
abbrev sdC (s : Sd) : Array Value := #[.int .i64 s.f0.f0, .int .i64 s.f0.f1, .int .i64 s.f0.f2, .int .i64 s.f1.f0, .int .i64 s.f1.f1, .int .i64 s.f1.f2, .int .i64 s.f2, .int .i64 s.f3, .bool s.f4, .bool s.f5]
abbrev sdA (s : Sd) : Value := .agg (sdC s)
/-- A side in its own block. -/
def AtS (w : World) (g : Nat) (s : Sd) : Prop := w.heap[g]? = some (.cells (sdC s) 109 (0, 0))
theorem AtS.c {w g s} (h : AtS w g s) : w.cell? ⟨g, 0, none⟩ = some (.int .i64 s.f0.f0) ∧ w.cell? ⟨g, 1, none⟩ = some (.int .i64 s.f0.f1) ∧ w.cell? ⟨g, 2, none⟩ = some (.int .i64 s.f0.f2) ∧ w.cell? ⟨g, 3, none⟩ = some (.int .i64 s.f1.f0) ∧ w.cell? ⟨g, 4, none⟩ = some (.int .i64 s.f1.f1) ∧ w.cell? ⟨g, 5, none⟩ = some (.int .i64 s.f1.f2) ∧ w.cell? ⟨g, 6, none⟩ = some (.int .i64 s.f2) ∧ w.cell? ⟨g, 7, none⟩ = some (.int .i64 s.f3) ∧ w.cell? ⟨g, 8, none⟩ = some (.bool s.f4) ∧ w.cell? ⟨g, 9, none⟩ = some (.bool s.f5) :=
  ⟨(blk_cell h 0).trans rfl, (blk_cell h 1).trans rfl, (blk_cell h 2).trans rfl, (blk_cell h 3).trans rfl, (blk_cell h 4).trans rfl, (blk_cell h 5).trans rfl, (blk_cell h 6).trans rfl, (blk_cell h 7).trans rfl, (blk_cell h 8).trans rfl, (blk_cell h 9).trans rfl⟩
theorem AtS.below {w w' : World} {g : Nat} {s : Sd} (h : AtS w g s) (hb : Below w.heap.size w w') : AtS w' g s := blk_below h hb
theorem AtS.old {w : World} {g : Nat} {s : Sd} (h : AtS w g s) (x : Obj) : AtS (w.alloc x) g s := (heap_alloc_old _ _ (blk_lt h)).trans h
theorem Li.old {w : World} {g : Nat} {p q r : Pt} (h : Li w g p q r) (x : Obj) : Li (w.alloc x) g p q r := (heap_alloc_old _ _ (blk_lt h)).trans h
theorem Li.below {w w' : World} {g : Nat} {p q r : Pt} (h : Li w g p q r) (hb : Below w.heap.size w w') : Li w' g p q r := blk_below h hb
theorem blk_lt' {w w' : World} {a b : Nat} (_ : Below a w w') (h : b < w'.heap.size) (h2 : a < b) : a < w'.heap.size := by omega
abbrev put3 (w : World) (g : Nat) (x : Pt) : World := ((w.setCell ⟨g, 0, none⟩ (.int .i64 x.f0)).setCell ⟨g, 1, none⟩ (.int .i64 x.f1)).setCell ⟨g, 2, none⟩ (.int .i64 x.f2)
theorem At.put {w : World} {g : Nat} {p : Pt} (h : At w g p) (x : Pt) : At (put3 w g x) g x := blk_set (blk_set (blk_set h 0 _) 1 _) 2 _
theorem AtS.far {w : World} {g g6 : Nat} {s : Sd} (h : AtS w g s) (hne : g ≠ g6) (x : Pt) : AtS (put3 w g6 x) g s := blk_far (blk_far (blk_far h hne _) hne _) hne _
theorem Li.far {w : World} {g g6 : Nat} {p q r : Pt} (h : Li w g p q r) (hne : g ≠ g6) (x : Pt) : Li (put3 w g6 x) g p q r := blk_far (blk_far (blk_far h hne _) hne _) hne _
theorem below_put {w w' : World} {g6 : Nat} (h : Below w.heap.size w w') (hge : w.heap.size ≤ g6) (x : Pt) : Below w.heap.size w (put3 w' g6 x) := below_set (below_set (below_set h hge) hge) hge
theorem boxS (w : World) (s t : Sd) : ∃ W, W = (w.alloc (.cells (sdC s) 109)).alloc (.cells (sdC t) 109) ∧ AtS W w.heap.size s ∧ AtS W (w.heap.size + 1) t ∧ Below w.heap.size w W := by
  have s1 : (w.alloc (.cells (sdC s) 109)).heap.size = w.heap.size + 1 := by simp
  have h2 : AtS ((w.alloc (.cells (sdC s) 109)).alloc (.cells (sdC t) 109)) (w.alloc (.cells (sdC s) 109)).heap.size t := heap_alloc_new _ _
  rw [s1] at h2
  have h1 : AtS (w.alloc (.cells (sdC s) 109)) w.heap.size s := heap_alloc_new _ _
  exact ⟨_, rfl, h1.old _, h2, ((Below.refl _ w).alloc (Nat.le_refl _) _).alloc (by rw [s1]; omega) _⟩
theorem meetC_calls (a b c d : Pt) (w : World) : Calls Try.prog 83 #[ptA a, ptA b, ptA c, ptA d] w fun e w' => e = .returned (.int .i64 (meetC a b c d)) ∧ Below w.heap.size w w' := by
  rw [meetC_eq]
  exact meet_calls a b c d w
theorem end_calls (s : Sd) (p : Pt) (w : World) : Calls Try.prog 84 #[sdA s, ptA p] w fun e w' => e = .returned (.bool (endV s p)) ∧ Below w.heap.size w w' := plan_side_end.calls _ _ _ _ _ _ _ _ _ _ _ _ _ _ w (end_eq s p)
set_option maxHeartbeats 16000000 in
set_option maxRecDepth 100000 in
theorem may_calls (s t : Sd) (w : World) (hs : 0 ≤ s.f3 ∧ s.f3 ≤ 100000000) : Calls Try.prog 77 #[sdA s, sdA t] w fun e w' => e = .returned (.bool (mayV s t)) ∧ Below w.heap.size w w' := by
  have hu27 := Try.underlying27
  have hu109 := Try.underlying109
  have hm := fun W => meetC_calls s.f0 s.f1 t.f0 t.f1 W
  have HR := Aside0.mk (show mayV s t = if meetC s.f0 s.f1 t.f0 t.f1 = 1 then finV s t (pickV s t) else meetC s.f0 s.f1 t.f0 t.f1 == 0 from rfl)
  obtain ⟨W, hW, gs, gt, hB⟩ := boxS w s t
  generalize mayV s t = R at *
  generalize meetC s.f0 s.f1 t.f0 t.f1 = n at *
  go_enter Try.func77, Try.ntmps77
  go_upto_region 1 with (go_step3)
  rw [← hW]
  clear hW
  obtain ⟨a0, a1, a2, a3, a4, a5, a6, a7, a8, a9⟩ := gs.c
  obtain ⟨b0, b1, b2, b3, b4, b5, b6, b7, b8, b9⟩ := gt.c
  by_cases hn : n = 1
  · subst hn
    have HR2 := Aside0.mk (show R = finV s t (pickV s t) by rw [HR.out, if_pos rfl])
    clear HR
    go_upto_region 4 with (first | (go_at_call 83; with_reducible refine (hm _).mono ?_; rintro e w2 ⟨rfl, hb2⟩) | go_step3)
    have gs := gs.below hb2
    have gt := gt.below hb2
    have hB := below_step hB hb2
    obtain ⟨a0, a1, a2, a3, a4, a5, a6, a7, a8, a9⟩ := gs.c
    obtain ⟨b0, b1, b2, b3, b4, b5, b6, b7, b8, b9⟩ := gt.c
    go_upto_region 5 with (go_step3)
    have hl1 := blk_lt gs
    have hl2 := blk_lt gt
    have gp := At.new w2 s.f0
    have gs := gs.old (ptO s.f0)
    have gt := gt.old (ptO s.f0)
    have hB := hB.alloc (by omega) (ptO s.f0)
    generalize w2.alloc (ptO s.f0) = W3 at gp gs gt hB ⊢
    clear hb2
    generalize w2.heap.size = g6 at *
    obtain ⟨a0, a1, a2, a3, a4, a5, a6, a7, a8, a9⟩ := gs.c
    obtain ⟨b0, b1, b2, b3, b4, b5, b6, b7, b8, b9⟩ := gt.c
    go_upto_block 0 with (first | ((with_reducible refine gate_dst (N := 30) rfl ?_); refine lit3b ?hg (N := 30) ?hd s.f1 t.f0 t.f1 ?hr ?_; (case hd => rfl); (case hg => rfl); (case hr => first | (go_simp; done) | (go_simp; rfl)); intro w3 hL hb3) | go_step3)
    have hl3 := blk_lt gp
    have gs := gs.below hb3
    have gt := gt.below hb3
    have gp := gp.below hb3
    have hB := below_step hB hb3
    clear hb3 hm
    generalize W3.heap.size = gl at *
    generalize hAd : (⟨gl, 0, none⟩ : Addr) = ad0 at *
    have HAD := Aside0.mk hAd
    clear hAd
    go_wp2_with (go_step3)
    go_loopw [32] (fun v wr => ∃ (i : Nat) (p : Pt), i ≤ 3 ∧ v = .int .i64 i ∧ AtS wr w.heap.size s ∧ AtS wr (w.heap.size + 1) t ∧ At wr g6 p ∧ Li wr gl s.f1 t.f0 t.f1 ∧ Aside0 (([s.f1, t.f0, t.f1].drop i).foldl (pk s t) p = pickV s t) ∧ Below w.heap.size w wr) (fun v _ => 3 - (intV v).toNat)
    case atStart => exact ⟨0, s.f0, by omega, rfl, gs, gt, gp, hL, ⟨rfl⟩, hB⟩
    case round =>
      clear a0 a1 a2 a3 a4 a5 a6 a7 a8 a9 b0 b1 b2 b3 b4 b5 b6 b7 b8 b9 gs gt gp hL hB
      obtain ⟨i, p, hi, rfl, gs, gt, gp, hL, HP, hB⟩ := hrel
      obtain ⟨a0, a1, a2, a3, a4, a5, a6, a7, a8, a9⟩ := gs.c
      obtain ⟨b0, b1, b2, b3, b4, b5, b6, b7, b8, b9⟩ := gt.c
      have p0 := gp.c0
      have p1 := gp.c1
      have p2 := gp.c2
      rcases Nat.lt_or_ge i 3 with hlt | hge
      · have hii : (i : Int) < 3 := by omega
        have hib : decide ((i : Int) < 3) = true := decide_eq_true hii
        have hLC := hL.C
        rw [HAD.out] at hLC
        obtain ⟨ad, eA, y0, y1, y2⟩ := at_T27 hLC (i : Int) (by omega) hii
        obtain rfl := Option.some.inj eA
        rw [show rd_T27 [s.f1, t.f0, t.f1] (i : Int) = [s.f1, t.f0, t.f1][i] from rdp [s.f1, t.f0, t.f1] i hlt] at y0 y1 y2
        rw [Int.toNat_natCast] at y0 y1 y2
        have hdr : ([s.f1, t.f0, t.f1].drop i).foldl (pk s t) p = ([s.f1, t.f0, t.f1].drop (i + 1)).foldl (pk s t) (pk s t p [s.f1, t.f0, t.f1][i]) := by rw [List.drop_eq_getElem_cons hlt]; rfl
        have HD := Aside0.mk (hdr.symm.trans HP.out)
        have HPK := Aside0.mk (show ∀ x, pk s t p x = if (onB p s.f0 s.f1 && onB p t.f0 t.f1) = true then p else x from fun _ => rfl)
        have hO1 := fun W => on_calls p s.f0 s.f1 W
        have hO2 := fun W => on_calls p t.f0 t.f1 W
        clear hdr HP hLC
        generalize [s.f1, t.f0, t.f1][i] = x at *
        generalize onB p s.f0 s.f1 = o1 at *
        generalize onB p t.f0 t.f1 = o2 at *
        go_upto_region 8 with (go_step3)
        have gx := At.new wr x
        have hll := blk_lt gp
        have gs := gs.old (ptO x)
        have gt := gt.old (ptO x)
        have gp := gp.old (ptO x)
        have hL := hL.old (ptO x)
        have hB := hB.alloc (Nat.le_of_lt (blk_lt' hB hll hl1)) (ptO x)
        clear y0 y1 y2 a0 a1 a2 a3 a4 a5 a6 a7 a8 a9 b0 b1 b2 b3 b4 b5 b6 b7 b8 b9 p0 p1 p2
        generalize wr.alloc (ptO x) = W8 at *
        generalize wr.heap.size = g8 at *
        obtain ⟨a0, a1, a2, a3, a4, a5, a6, a7, a8, a9⟩ := gs.c
        obtain ⟨b0, b1, b2, b3, b4, b5, b6, b7, b8, b9⟩ := gt.c
        have p0 := gp.c0
        have p1 := gp.c1
        have p2 := gp.c2
        have hn1 : w.heap.size ≠ g6 := by omega
        have hn2 : w.heap.size + 1 ≠ g6 := by omega
        have hn3 : gl ≠ g6 := by omega
        have hn4 : w.heap.size ≤ g6 := by omega
        have hi1 : 3 - (intV (Value.int IntKind.i64 ((i : Int) + 1))).toNat < 3 - (intV (Value.int IntKind.i64 (i : Int))).toNat := by simp [intV]; omega
        have HW := Aside0.mk hi1
        clear hi1 HAD
        cases o1
        · have HN := Aside0.mk (show ([s.f1, t.f0, t.f1].drop (i + 1)).foldl (pk s t) x = pickV s t by have := HD.out; rw [HPK.out] at this; simpa using this)
          clear HD HPK
          go_wp2_with (first | (go_at_call 59; (with_reducible first | refine (hO1 _).mono ?_ | refine (hO2 _).mono ?_); rintro e w5 ⟨rfl, hb5⟩; have gs := gs.below hb5; have gt := gt.below hb5; have gp := gp.below hb5; have gx := gx.below hb5; have hL := hL.below hb5; have hB := below_step hB hb5; clear hb5; obtain ⟨a0, a1, a2, a3, a4, a5, a6, a7, a8, a9⟩ := gs.c; obtain ⟨b0, b1, b2, b3, b4, b5, b6, b7, b8, b9⟩ := gt.c; have p0 := gp.c0; have p1 := gp.c1; have p2 := gp.c2; have q0 := gx.c0; have q1 := gx.c1; have q2 := gx.c2; have f0 := blk_frozen gp 0; have f1 := blk_frozen gp 1; have f2 := blk_frozen gp 2) | go_step3)
          go_roundw
          case rel => exact ⟨i + 1, x, by omega, rfl, gs.far hn1 x, gt.far hn2 x, gp.put x, hL.far hn3 x, HN, below_put hB hn4 x⟩
          case measure => exact HW.out
        · cases o2
          · have HN := Aside0.mk (show ([s.f1, t.f0, t.f1].drop (i + 1)).foldl (pk s t) x = pickV s t by have := HD.out; rw [HPK.out] at this; simpa using this)
            clear HD HPK
            go_wp2_with (first | (go_at_call 59; (with_reducible first | refine (hO1 _).mono ?_ | refine (hO2 _).mono ?_); rintro e w5 ⟨rfl, hb5⟩; have gs := gs.below hb5; have gt := gt.below hb5; have gp := gp.below hb5; have gx := gx.below hb5; have hL := hL.below hb5; have hB := below_step hB hb5; clear hb5; obtain ⟨a0, a1, a2, a3, a4, a5, a6, a7, a8, a9⟩ := gs.c; obtain ⟨b0, b1, b2, b3, b4, b5, b6, b7, b8, b9⟩ := gt.c; have p0 := gp.c0; have p1 := gp.c1; have p2 := gp.c2; have q0 := gx.c0; have q1 := gx.c1; have q2 := gx.c2; have f0 := blk_frozen gp 0; have f1 := blk_frozen gp 1; have f2 := blk_frozen gp 2) | go_step3)
            go_roundw
            case rel => exact ⟨i + 1, x, by omega, rfl, gs.far hn1 x, gt.far hn2 x, gp.put x, hL.far hn3 x, HN, below_put hB hn4 x⟩
            case measure => exact HW.out
          · have HN := Aside0.mk (show ([s.f1, t.f0, t.f1].drop (i + 1)).foldl (pk s t) p = pickV s t by have := HD.out; rw [HPK.out] at this; simpa using this)
            clear HD HPK
            go_wp2_with (first | (go_at_call 59; (with_reducible first | refine (hO1 _).mono ?_ | refine (hO2 _).mono ?_); rintro e w5 ⟨rfl, hb5⟩; have gs := gs.below hb5; have gt := gt.below hb5; have gp := gp.below hb5; have gx := gx.below hb5; have hL := hL.below hb5; have hB := below_step hB hb5; clear hb5; obtain ⟨a0, a1, a2, a3, a4, a5, a6, a7, a8, a9⟩ := gs.c; obtain ⟨b0, b1, b2, b3, b4, b5, b6, b7, b8, b9⟩ := gt.c; have p0 := gp.c0; have p1 := gp.c1; have p2 := gp.c2; have q0 := gx.c0; have q1 := gx.c1; have q2 := gx.c2; have f0 := blk_frozen gp 0; have f1 := blk_frozen gp 1; have f2 := blk_frozen gp 2) | go_step3)
            go_roundw
            case rel => exact ⟨i + 1, p, by omega, rfl, gs, gt, gp, hL, HN, hB⟩
            case measure => exact HW.out
      · have hib : decide ((i : Int) < 3) = false := decide_eq_false (by omega)
        have hii : ¬ (i : Int) < 3 := by omega
        have hp : p = pickV s t := by
          have := HP.out
          rw [List.drop_of_length_le (by show 3 ≤ i; omega)] at this
          exact this
        have HF := Aside0.mk (show R = ((s.f2 == t.f2 && (s.f3 + 1 == t.f3 && Gr.eqP p s.f1)) || (endV s p && endV t p)) by rw [HR2.out, ← hp]; rfl)
        have hE1 := fun W => end_calls s p W
        have hE2 := fun W => end_calls t p W
        have heq : Gr.eqP p s.f1 = (p.f0 == s.f1.f0 && (p.f1 == s.f1.f1 && (p.f2 == s.f1.f2))) := rfl
        have hw : wrap64 (s.f3 + 1) = s.f3 + 1 := wrap64_in' _ (by omega)
        rw [heq] at HF
        clear HP hp HR2 HAD hL heq
        generalize endV s p = e1 at *
        generalize endV t p = e2 at *
        have HW := Aside0.mk hw
        clear hw
        cases hc1 : (s.f2 == t.f2)
        · rw [hc1, Bool.false_and, Bool.false_or] at HF
          cases e1 <;> cases e2 <;> (
            go_wp2_with (first | (go_at_call 84; (with_reducible first | refine (hE1 _).mono ?_ | refine (hE2 _).mono ?_); rintro e w5 ⟨rfl, hb5⟩; have gs := gs.below hb5; have gt := gt.below hb5; have gp := gp.below hb5; have hB := below_step hB hb5; clear hb5; obtain ⟨a0, a1, a2, a3, a4, a5, a6, a7, a8, a9⟩ := gs.c; obtain ⟨b0, b1, b2, b3, b4, b5, b6, b7, b8, b9⟩ := gt.c; have p0 := gp.c0; have p1 := gp.c1; have p2 := gp.c2) | go_step3)
            go_ret
            exact ⟨by rw [HF.out]; rfl, hB⟩)
        · rw [hc1, Bool.true_and] at HF
          have hw := HW.out
          cases hc2 : (s.f3 + 1 == t.f3)
          · rw [hc2, Bool.false_and, Bool.false_or] at HF
            cases e1 <;> cases e2 <;> (
              go_wp2_with (first | (go_at_call 84; (with_reducible first | refine (hE1 _).mono ?_ | refine (hE2 _).mono ?_); rintro e w5 ⟨rfl, hb5⟩; have gs := gs.below hb5; have gt := gt.below hb5; have gp := gp.below hb5; have hB := below_step hB hb5; clear hb5; obtain ⟨a0, a1, a2, a3, a4, a5, a6, a7, a8, a9⟩ := gs.c; obtain ⟨b0, b1, b2, b3, b4, b5, b6, b7, b8, b9⟩ := gt.c; have p0 := gp.c0; have p1 := gp.c1; have p2 := gp.c2) | go_step3)
              go_ret
              exact ⟨by rw [HF.out]; rfl, hB⟩)
          · rw [hc2, Bool.true_and] at HF
            have HQ : (p.f0 == s.f1.f0) = false ∨ (p.f0 == s.f1.f0) = true ∧ (p.f1 == s.f1.f1) = false ∨ (p.f0 == s.f1.f0) = true ∧ (p.f1 == s.f1.f1) = true ∧ (p.f2 == s.f1.f2) = false ∨ (p.f0 == s.f1.f0) = true ∧ (p.f1 == s.f1.f1) = true ∧ (p.f2 == s.f1.f2) = true := by
              cases (p.f0 == s.f1.f0) <;> cases (p.f1 == s.f1.f1) <;> cases (p.f2 == s.f1.f2) <;> simp
            rcases HQ with h | ⟨h, h'⟩ | ⟨h, h', h''⟩ | ⟨h, h', h''⟩
            · rw [h, Bool.false_and, Bool.false_or] at HF
              cases e1 <;> cases e2 <;> (
                go_wp2_with (first | (go_at_call 84; (with_reducible first | refine (hE1 _).mono ?_ | refine (hE2 _).mono ?_); rintro e w5 ⟨rfl, hb5⟩; have gs := gs.below hb5; have gt := gt.below hb5; have gp := gp.below hb5; have hB := below_step hB hb5; clear hb5; obtain ⟨a0, a1, a2, a3, a4, a5, a6, a7, a8, a9⟩ := gs.c; obtain ⟨b0, b1, b2, b3, b4, b5, b6, b7, b8, b9⟩ := gt.c; have p0 := gp.c0; have p1 := gp.c1; have p2 := gp.c2) | go_step3)
                go_ret
                exact ⟨by rw [HF.out]; rfl, hB⟩)
            · rw [h, h', Bool.true_and, Bool.false_and, Bool.false_or] at HF
              cases e1 <;> cases e2 <;> (
                go_wp2_with (first | (go_at_call 84; (with_reducible first | refine (hE1 _).mono ?_ | refine (hE2 _).mono ?_); rintro e w5 ⟨rfl, hb5⟩; have gs := gs.below hb5; have gt := gt.below hb5; have gp := gp.below hb5; have hB := below_step hB hb5; clear hb5; obtain ⟨a0, a1, a2, a3, a4, a5, a6, a7, a8, a9⟩ := gs.c; obtain ⟨b0, b1, b2, b3, b4, b5, b6, b7, b8, b9⟩ := gt.c; have p0 := gp.c0; have p1 := gp.c1; have p2 := gp.c2) | go_step3)
                go_ret
                exact ⟨by rw [HF.out]; rfl, hB⟩)
            · rw [h, h', h'', Bool.true_and, Bool.true_and, Bool.false_or] at HF
              cases e1 <;> cases e2 <;> (
                go_wp2_with (first | (go_at_call 84; (with_reducible first | refine (hE1 _).mono ?_ | refine (hE2 _).mono ?_); rintro e w5 ⟨rfl, hb5⟩; have gs := gs.below hb5; have gt := gt.below hb5; have gp := gp.below hb5; have hB := below_step hB hb5; clear hb5; obtain ⟨a0, a1, a2, a3, a4, a5, a6, a7, a8, a9⟩ := gs.c; obtain ⟨b0, b1, b2, b3, b4, b5, b6, b7, b8, b9⟩ := gt.c; have p0 := gp.c0; have p1 := gp.c1; have p2 := gp.c2) | go_step3)
                go_ret
                exact ⟨by rw [HF.out]; rfl, hB⟩)
            · rw [h, h', h'', Bool.true_and, Bool.true_and, Bool.true_or] at HF
              go_wp2_with (first | (go_at_call 84; (with_reducible first | refine (hE1 _).mono ?_ | refine (hE2 _).mono ?_); rintro e w5 ⟨rfl, hb5⟩; have gs := gs.below hb5; have gt := gt.below hb5; have gp := gp.below hb5; have hB := below_step hB hb5; clear hb5; obtain ⟨a0, a1, a2, a3, a4, a5, a6, a7, a8, a9⟩ := gs.c; obtain ⟨b0, b1, b2, b3, b4, b5, b6, b7, b8, b9⟩ := gt.c; have p0 := gp.c0; have p1 := gp.c1; have p2 := gp.c2) | go_step3)
              go_ret
              exact ⟨by rw [HF.out]; rfl, hB⟩
  · have HRF := Aside0.mk (show R = (n == 0) by rw [HR.out, if_neg hn])
    have hnb : (n != 1) = true := by simpa using hn
    clear HR hn
    go_wp2_with (first | (go_at_call 83; with_reducible refine (hm _).mono ?_; rintro e w2 ⟨rfl, hb2⟩) | go_step3)
    go_ret
    exact ⟨by rw [HRF.out]; rfl, below_step hB hb2⟩
end Go.Proofs.Ytbonkedecfjmdaa.Pl
