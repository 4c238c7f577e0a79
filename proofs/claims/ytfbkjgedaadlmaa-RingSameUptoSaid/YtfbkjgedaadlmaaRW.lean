/- ring.Same: the walk. No condition. -/
import Derived.Test.YtfbkjgedaadlmaaRV
namespace Go.Proofs.Ytfbkjgedaadlmaa.Rw
set_option linter.unusedVariables false
set_option linter.unusedSimpArgs false
open Go Go.RowKit Go.Proofs.Ytfbkjgedaadlmaa.P Go.Proofs.YtfbkjgedaadlmaaW.PrintWords Go.Proofs.YtfbkjgedaadlmaaW.PrintLast Go.Proofs.YtfbkjgedaadlmaaW.PrintMore

def lenB {α : Type} (x : List (List α)) : Prop := x.length ≤ 4611686018427387903 ∧ ∀ a ∈ x, a.length ≤ 4611686018427387903
/-- A map that lies in memory. -/
def MapC (w : World) (v : Value) (a0 : List (List Pt)) (a1 a2 : List (List Int)) : Prop :=
  ∃ A0 A1 A2 c0 c1 c2, v = .agg #[.slice A0 a0.length c0, .slice A1 a1.length c1, .slice A2 a2.length c2] ∧ Kd.C (Kd.slice 42 k42) w A0 a0.length a0 ∧ a0.length ≤ c0 ∧ Kd.C (Kd.slice 3 (Kd.int .i64)) w A1 a1.length a1 ∧ a1.length ≤ c1 ∧ Kd.C (Kd.slice 3 (Kd.int .i64)) w A2 a2.length a2 ∧ a2.length ≤ c2
theorem MapC_below {w w' : World} {v : Value} {a0 : List (List Pt)} {a1 a2 : List (List Int)} (h : MapC w v a0 a1 a2) (hb : Below w.heap.size w w') : MapC w' v a0 a1 a2 := by
  obtain ⟨A0, A1, A2, c0, c1, c2, hv, h0, g0, h1, g1, h2, g2⟩ := h
  exact ⟨A0, A1, A2, c0, c1, c2, hv, Kd.C_below h0 hb, g0, Kd.C_below h1 hb, g1, Kd.C_below h2 hb, g2⟩

set_option maxHeartbeats 8000000 in
set_option maxRecDepth 100000 in
theorem same_calls (va vb : Value) (a0 : List (List Pt)) (a1 a2 : List (List Int)) (b0 : List (List Pt)) (b1 b2 : List (List Int)) (w : World) (ha : MapC w va a0 a1 a2) (hb : MapC w vb b0 b1 b2) (h0 : lenB a0) (h1 : lenB a1) (h2 : lenB a2) :
    Calls Try.prog 18 #[va, vb] w fun e w' => e = .returned (.bool (eqM a0 a1 a2 b0 b1 b2)) ∧ Below w.heap.size w w' := by
  obtain ⟨A0, A1, A2, c0, c1, c2, rfl, ha0, ga0, ha1, ga1, ha2, ga2⟩ := ha
  obtain ⟨B0, B1, B2, d0, d1, d2, rfl, hb0, gb0, hb1, gb1, hb2, gb2⟩ := hb
  obtain ⟨K, hK⟩ := arc_ev a0 b0 h0.1 h0.2
  have hK := hK K (Nat.le_refl _)
  have hu25 := Try.underlying25
  go_enter Try.func18, Try.ntmps18
  go_upto_region 1 with (first | ((with_reducible refine gate_dst (N := 2) rfl ?_); refine box_event ?hg (N := 2) ?hd (cs := #[.slice A0 a0.length c0, .slice A1 a1.length c1, .slice A2 a2.length c2]) (t := 25) ?hr ?_; (case hd => rfl); (case hg => rfl); (case hr => first | (go_simp; done) | (go_simp; rfl)); intro g1 hg w1 hbox1 hbw1; have hge1 : w.heap.size ≤ g1 := Nat.le_of_eq hg.symm; clear hg) | ((with_reducible refine gate_dst (N := 3) rfl ?_); refine box_event ?hg (N := 3) ?hd (cs := #[.slice B0 b0.length d0, .slice B1 b1.length d1, .slice B2 b2.length d2]) (t := 25) ?hr ?_; (case hd => rfl); (case hg => rfl); (case hr => first | (go_simp; done) | (go_simp; rfl)); intro g2 hg w2 hbox2 hbw2; clear hg))
  have hH1 := blk_below hbox1 hbw2
  have hB2 := below_step hbw1 hbw2
  have x0 : w2.cell? ⟨g1, 0, none⟩ = some (.slice A0 a0.length c0) := (blk_cell hH1 0).trans rfl
  have x1 : w2.cell? ⟨g1, 1, none⟩ = some (.slice A1 a1.length c1) := (blk_cell hH1 1).trans rfl
  have x2 : w2.cell? ⟨g1, 2, none⟩ = some (.slice A2 a2.length c2) := (blk_cell hH1 2).trans rfl
  have y0 : w2.cell? ⟨g2, 0, none⟩ = some (.slice B0 b0.length d0) := (blk_cell hbox2 0).trans rfl
  have y1 : w2.cell? ⟨g2, 1, none⟩ = some (.slice B1 b1.length d1) := (blk_cell hbox2 1).trans rfl
  have y2 : w2.cell? ⟨g2, 2, none⟩ = some (.slice B2 b2.length d2) := (blk_cell hbox2 2).trans rfl
  have hcells : ∀ W : World, Below w2.heap.size w2 W → W.cell? ⟨g1, 1, none⟩ = some (.slice A1 a1.length c1) ∧ W.cell? ⟨g1, 2, none⟩ = some (.slice A2 a2.length c2) ∧ W.cell? ⟨g2, 1, none⟩ = some (.slice B1 b1.length d1) ∧ W.cell? ⟨g2, 2, none⟩ = some (.slice B2 b2.length d2) := fun W hW =>
    ⟨(hW.cell (World.block_lt_of_cell? w2 _ x1)).trans x1, (hW.cell (World.block_lt_of_cell? w2 _ x2)).trans x2, (hW.cell (World.block_lt_of_cell? w2 _ y1)).trans y1, (hW.cell (World.block_lt_of_cell? w2 _ y2)).trans y2⟩
  have hcall0 := arc_Same.calls K A0 c0 a0 B0 d0 b0 _ w2 (Kd.C_below ha0 hB2) ga0 (Kd.C_below hb0 hB2) gb0 hK
  clear hK hbox1 hbox2 hbw1 hbw2 hH1 x1 x2 y1 y2
  have hcall1 : ∀ W, Below w2.heap.size w2 W → Calls Try.prog 25 #[.slice A1 a1.length c1, .slice B1 b1.length d1, .func (.func 26) #[] #[]] W fun e w' => e = .returned (.bool (decide (a1 = b1))) ∧ Drawn0 W w' := fun W hW => eqf_calls A1 B1 c1 d1 a1 b1 W (Kd.C_below ha1 (below_step hB2 hW)) (Kd.C_below hb1 (below_step hB2 hW)) h1.1 h1.2
  have hcall2 : ∀ W, Below w2.heap.size w2 W → Calls Try.prog 25 #[.slice A2 a2.length c2, .slice B2 b2.length d2, .func (.func 26) #[] #[]] W fun e w' => e = .returned (.bool (decide (a2 = b2))) ∧ Drawn0 W w' := fun W hW => eqf_calls A2 B2 c2 d2 a2 b2 W (Kd.C_below ha2 (below_step hB2 hW)) (Kd.C_below hb2 (below_step hB2 hW)) h2.1 h2.2
  have hEQ : Aside0 (eqM a0 a1 a2 b0 b1 b2 = (decide (a0 = b0) && (decide (a1 = b1) && decide (a2 = b2)))) := ⟨rfl⟩
  clear ha0 ha1 ha2 hb0 hb1 hb2 h0 h1 h2
  generalize decide (a0 = b0) = r0 at *
  generalize decide (a1 = b1) = r1 at *
  generalize decide (a2 = b2) = r2 at *
  cases r0 with
  | false =>
    go_wp2_with (go_at_call 24; refine hcall0.mono ?_; rintro e w3 ⟨rfl, hb3⟩)
    go_ret
    exact ⟨by rw [hEQ.out]; rfl, below_step hB2 hb3⟩
  | true =>
    cases r1 with
    | false =>
      go_wp2_with (first | (go_at_call 24; refine hcall0.mono ?_; rintro e w3 ⟨rfl, hb3⟩; obtain ⟨z1, z2, z3, z4⟩ := hcells w3 hb3; clear hcells) | (go_at_call 25; refine (hcall1 _ hb3).mono ?_; rintro e w4 ⟨rfl, ⟨nd, rfl⟩⟩; have hb4 := pw_below_drewN hb3 nd))
      go_ret
      exact ⟨by rw [hEQ.out]; rfl, below_step hB2 hb4⟩
    | true =>
      go_wp2_with (first | (go_at_call 24; refine hcall0.mono ?_; rintro e w3 ⟨rfl, hb3⟩; obtain ⟨z1, z2, z3, z4⟩ := hcells w3 hb3; clear hcells) | (go_at_call 25; refine (hcall2 _ hb4).mono ?_; rintro e w5 ⟨rfl, ⟨nd2, rfl⟩⟩; have hb5 := pw_below_drewN hb4 nd2) | (go_at_call 25; refine (hcall1 _ hb3).mono ?_; rintro e w4 ⟨rfl, ⟨nd, rfl⟩⟩; have hb4 := pw_below_drewN hb3 nd))
      go_ret
      exact ⟨by rw [hEQ.out]; rfl, below_step hB2 (pw_below_drewN hb3 _)⟩
end Go.Proofs.Ytfbkjgedaadlmaa.Rw
