/- Whether any two maps are the same, and their copies; a copy is its owner's: the walk over the law. No condition. -/
import Derived.Test.YtfbkjgedaadlmaaRY
namespace Go.Proofs.Ytfbkjgedaadlmaa.Rw
set_option linter.unusedVariables false
set_option linter.unusedSimpArgs false
open Go Go.RowKit Go.Proofs.Ytfbkjgedaadlmaa.P Go.Proofs.YtfbkjgedaadlmaaW.PrintWords Go.Proofs.YtfbkjgedaadlmaaW.PrintLast Go.Proofs.YtfbkjgedaadlmaaW.PrintMore

theorem put3 {w : World} {g : Nat} {a b c d e f : Value} (h : w.heap[g]? = some (.cells #[a, b, c] 25 (0, 0))) : (((w.setCell ⟨g, 0, none⟩ d).setCell ⟨g, 1, none⟩ e).setCell ⟨g, 2, none⟩ f).heap[g]? = some (.cells #[d, e, f] 25 (0, 0)) := by
  have h1 := blk_set h 0 d
  have h2 := blk_set h1 1 e
  have h3 := blk_set h2 2 f
  simpa using h3
theorem put3_below {w0 w : World} {g : Nat} {d e f : Value} (h : Below w0.heap.size w0 w) (hg : w0.heap.size ≤ g) : Below w0.heap.size w0 (((w.setCell ⟨g, 0, none⟩ d).setCell ⟨g, 1, none⟩ e).setCell ⟨g, 2, none⟩ f) := below_set (below_set (below_set h hg) hg) hg
theorem eqM_self (a0 : List (List Pt)) (a1 a2 : List (List Int)) : eqM a0 a1 a2 a0 a1 a2 = true := by unfold eqM; simp
def lenM {α : Type} (x : List (List α)) : Prop := x.length ≤ 1048576 ∧ ∀ a ∈ x, a.length ≤ 1048576
theorem lenM_B {α : Type} {x : List (List α)} (h : lenM x) : lenB x := ⟨Nat.le_trans h.1 (by decide), fun a ha => Nat.le_trans (h.2 a ha) (by decide)⟩
set_option maxHeartbeats 8000000 in
set_option maxRecDepth 100000 in
theorem samelaw_calls (A0 A1 A2 B0 B1 B2 : Option Addr) (c0 c1 c2 d0 d1 d2 : Nat) (a0 : List (List Pt)) (a1 a2 : List (List Int)) (b0 : List (List Pt)) (b1 b2 : List (List Int)) (w : World)
    (hMA : MapC w (.agg #[.slice A0 a0.length c0, .slice A1 a1.length c1, .slice A2 a2.length c2]) a0 a1 a2) (hMB : MapC w (.agg #[.slice B0 b0.length d0, .slice B1 b1.length d1, .slice B2 b2.length d2]) b0 b1 b2)
    (ha0 : lenM a0) (ha1 : lenM a1) (ha2 : lenM a2) (hb0 : lenM b0) (hb1 : lenM b1) (hb2 : lenM b2) :
    Calls Try.prog 7 #[.agg #[.slice A0 a0.length c0, .slice A1 a1.length c1, .slice A2 a2.length c2], .agg #[.slice B0 b0.length d0, .slice B1 b1.length d1, .slice B2 b2.length d2]] w fun e w' => e = .returned (.bool true) ∧ Below w.heap.size w w' := by
  have hu25 := Try.underlying25
  -- what is called
  obtain ⟨K, hK⟩ := known_ev
  have hkn : ∀ W : World, Calls Try.prog 9 #[] W fun e w' => e = .returned (.bool true) ∧ Below W.heap.size W w' := fun W => lapidarylaw16_known.calls K true W (hK K (Nat.le_refl _))
  have hlong : ∀ (v : Value) (x0 : List (List Pt)) (x1 x2 : List (List Int)), MapC w v x0 x1 x2 → lenM x0 → lenM x1 → lenM x2 → ∃ r : Bool, ∀ W : World, Below w.heap.size w W → Calls Try.prog 8 #[v] W fun e w' => e = .returned (.bool r) ∧ Below W.heap.size W w' := by
    intro v x0 x1 x2 hM h0 h1 h2
    obtain ⟨r, K2, hK2⟩ := long_ev x0 x1 x2 h0.1 h1.1 h2.1
    refine ⟨r, fun W hW => ?_⟩
    obtain ⟨A0, A1, A2, c0, c1, c2, rfl, q0, g0, q1, g1, q2, g2⟩ := MapC_below hM hW
    exact lapidarylaw16_long.calls K2 A0 c0 x0 A1 c1 x1 A2 c2 x2 r W q0 g0 q1 g1 q2 g2 (hK2 K2 (Nat.le_refl _))
  have hsame : ∀ (v u : Value) (x0 : List (List Pt)) (x1 x2 : List (List Int)) (y0 : List (List Pt)) (y1 y2 : List (List Int)), MapC w v x0 x1 x2 → MapC w u y0 y1 y2 → lenM x0 → lenM x1 → lenM x2 → ∀ W : World, Below w.heap.size w W → Calls Try.prog 18 #[v, u] W fun e w' => e = .returned (.bool (eqM x0 x1 x2 y0 y1 y2)) ∧ Below W.heap.size W w' :=
    fun v u x0 x1 x2 y0 y1 y2 hx hy h0 h1 h2 W hW => same_calls v u x0 x1 x2 y0 y1 y2 W (MapC_below hx hW) (MapC_below hy hW) (lenM_B h0) (lenM_B h1) (lenM_B h2)
  have href : ∀ (W : World) (v u : Value) (x0 : List (List Pt)) (x1 x2 : List (List Int)) (y0 : List (List Pt)) (y1 y2 : List (List Int)), MapC W v x0 x1 x2 → MapC W u y0 y1 y2 → lenM x0 → lenM x1 → lenM x2 → Calls Try.prog 20 #[v, u] W fun e w' => e = .returned (.bool (eqM x0 x1 x2 y0 y1 y2)) ∧ Below W.heap.size W w' := by
    intro W v u x0 x1 x2 y0 y1 y2 hx hy h0 h1 h2
    obtain ⟨K2, hK2⟩ := rsame_ev x0 x1 x2 y0 y1 y2 (lenM_B h0) (lenM_B h1) (lenM_B h2)
    obtain ⟨A0, A1, A2, c0, c1, c2, rfl, q0, g0, q1, g1, q2, g2⟩ := hx
    obtain ⟨B0, B1, B2, d0, d1, d2, rfl, r0, e0, r1, e1, r2, e2⟩ := hy
    exact lapidaryref16_Same.calls K2 A0 c0 x0 A1 c1 x1 A2 c2 x2 B0 d0 y0 B1 d1 y1 B2 d2 y2 _ W q0 g0 q1 g1 q2 g2 r0 e0 r1 e1 r2 e2 (hK2 K2 (Nat.le_refl _))
  obtain ⟨ra, hla⟩ := hlong _ _ _ _ hMA ha0 ha1 ha2
  obtain ⟨rb, hlb⟩ := hlong _ _ _ _ hMB hb0 hb1 hb2
  have hsab := hsame _ _ _ _ _ _ _ _ hMA hMB ha0 ha1 ha2
  have hsaa := hsame _ _ _ _ _ _ _ _ hMA hMA ha0 ha1 ha2
  rw [eqM_self] at hsaa
  have hrab := fun (W : World) (hW : Below w.heap.size w W) => href W _ _ _ _ _ _ _ _ (MapC_below hMA hW) (MapC_below hMB hW) ha0 ha1 ha2
  obtain ⟨K3, hK3⟩ := copy_ev a0 a1 a2 ha0 ha1 ha2
  have hK3 := hK3 K3 (Nat.le_refl _)
  have hcopy : ∀ W : World, Below w.heap.size w W → Calls Try.prog 19 #[.agg #[.slice A0 a0.length c0, .slice A1 a1.length c1, .slice A2 a2.length c2]] W fun e w' => ∃ v0_ v1_ v2_ : Value, e = .returned (.agg #[v0_, v1_, v2_]) ∧ Kd.S (Kd.slice 42 k42) 29 w' W.heap.size (fun _ => True) v0_ a0 ∧ Kd.S (Kd.slice 3 (Kd.int .i64)) 26 w' W.heap.size (fun k_ => some k_ ≠ (v2_ : Value).ownBlock) v1_ a1 ∧ Kd.S (Kd.slice 3 (Kd.int .i64)) 26 w' W.heap.size (fun k_ => some k_ ≠ (v1_ : Value).ownBlock) v2_ a2 ∧ Below W.heap.size W w' := by
    intro W hW
    obtain ⟨E0, E1, E2, f0, f1, f2, hv, q0, g0, q1, g1, q2, g2⟩ := MapC_below hMA hW
    simp only [Value.agg.injEq, Array.mk.injEq, List.cons.injEq, Value.slice.injEq, and_true, true_and] at hv
    obtain ⟨⟨rfl, rfl⟩, ⟨rfl, rfl⟩, rfl, rfl⟩ := hv
    exact ring_Copy.calls K3 A0 c0 a0 A1 c1 a1 A2 c2 a2 a0 a1 a2 W q0 g0 q1 g1 q2 g2 hK3
  clear hsame hlong hK3 hK
  generalize hn : eqM a0 a1 a2 b0 b1 b2 = n at *
  clear hn
  go_enter Try.func7, Try.ntmps7
  go_upto_region 1 with (first | ((with_reducible refine gate_dst (N := 2) rfl ?_); refine box_event ?hg (N := 2) ?hd (cs := #[.slice A0 a0.length c0, .slice A1 a1.length c1, .slice A2 a2.length c2]) (t := 25) ?hr ?_; (case hd => rfl); (case hg => rfl); (case hr => first | (go_simp; done) | (go_simp; rfl)); intro g1 hg w1 hbox1 hbw1; have hge1 : w.heap.size ≤ g1 := Nat.le_of_eq hg.symm; clear hg) | ((with_reducible refine gate_dst (N := 3) rfl ?_); refine box_event ?hg (N := 3) ?hd (cs := #[.slice B0 b0.length d0, .slice B1 b1.length d1, .slice B2 b2.length d2]) (t := 25) ?hr ?_; (case hd => rfl); (case hg => rfl); (case hr => first | (go_simp; done) | (go_simp; rfl)); intro g2 hg w2 hbox2 hbw2; clear hg))
  have hH1 := blk_below hbox1 hbw2
  have hB2 := below_step hbw1 hbw2
  have hcells : ∀ W : World, Below w2.heap.size w2 W → (W.cell? ⟨g1, 0, none⟩ = some (.slice A0 a0.length c0) ∧ W.cell? ⟨g1, 1, none⟩ = some (.slice A1 a1.length c1) ∧ W.cell? ⟨g1, 2, none⟩ = some (.slice A2 a2.length c2)) ∧ W.cell? ⟨g2, 0, none⟩ = some (.slice B0 b0.length d0) ∧ W.cell? ⟨g2, 1, none⟩ = some (.slice B1 b1.length d1) ∧ W.cell? ⟨g2, 2, none⟩ = some (.slice B2 b2.length d2) := fun W hW =>
    ⟨⟨(blk_cell (blk_below hH1 hW) 0).trans rfl, (blk_cell (blk_below hH1 hW) 1).trans rfl, (blk_cell (blk_below hH1 hW) 2).trans rfl⟩, (blk_cell (blk_below hbox2 hW) 0).trans rfl, (blk_cell (blk_below hbox2 hW) 1).trans rfl, (blk_cell (blk_below hbox2 hW) 2).trans rfl⟩
  clear hbox1 hbw1 hbw2
  obtain ⟨⟨x0, x1, x2⟩, y0, y1, y2⟩ := hcells w2 (Below.refl _ _)
  cases ra with
  | true =>
    go_wp2_with (first | (go_at_call 9; refine (hkn _).mono ?_; rintro e w4 ⟨rfl, hb4⟩) | (go_at_call 8; refine (hla _ hB2).mono ?_; rintro e w3 ⟨rfl, hb3⟩))
    go_ret
    exact ⟨rfl, below_step (below_step hB2 hb3) hb4⟩
  | false =>
    cases rb with
    | true =>
      go_wp2_with (first | (go_at_call 9; refine (hkn _).mono ?_; rintro e w5 ⟨rfl, hb5⟩) | (go_at_call 8; refine (hlb _ (below_step hB2 hb3)).mono ?_; rintro e w4 ⟨rfl, hb4⟩) | (go_at_call 8; refine (hla _ hB2).mono ?_; rintro e w3 ⟨rfl, hb3⟩; obtain ⟨⟨xx0, xx1, xx2⟩, yy0, yy1, yy2⟩ := hcells w3 hb3))
      go_ret
      exact ⟨rfl, below_step (below_step (below_step hB2 hb3) hb4) hb5⟩
    | false =>
      go_upto_region 3 with (first | (go_at_call 8; refine (hlb _ (below_step hB2 hb3)).mono ?_; rintro e w4 ⟨rfl, hb4⟩) | (go_at_call 8; refine (hla _ hB2).mono ?_; rintro e w3 ⟨rfl, hb3⟩; obtain ⟨⟨xx0, xx1, xx2⟩, yy0, yy1, yy2⟩ := hcells w3 hb3))
      have hB4 := below_step hb3 hb4
      have hW4 := below_step hB2 hB4
      clear x0 x1 x2 y0 y1 y2 xx0 xx1 xx2 yy0 yy1 yy2 hb3 hb4 hla hlb
      obtain ⟨⟨x0, x1, x2⟩, y0, y1, y2⟩ := hcells w4 hB4
      go_upto_region 4 with (go_at_call 18; refine (hsab _ hW4).mono ?_; rintro e w5 ⟨rfl, hb5⟩)
      have hB5 := below_step hB4 hb5
      have hW5 := below_step hB2 hB5
      clear x0 x1 x2 y0 y1 y2 hb5 hB4 hW4
      obtain ⟨⟨x0, x1, x2⟩, y0, y1, y2⟩ := hcells w5 hB5
      go_upto_region 5 with (first | (go_at_call 19; refine (hcopy _ hW5).mono ?_; rintro e w6 ⟨v0, v1, v2, rfl, hS0, hS1, hS2, hb6⟩; have hB6 := below_step hB5 hb6; obtain ⟨E0, f0, e0⟩ := Kd.S_slice hS0; subst e0; obtain ⟨E1, f1, e1⟩ := Kd.S_slice hS1; subst e1; obtain ⟨E2, f2, e2⟩ := Kd.S_slice hS2; subst e2) | ((with_reducible refine gate_dst (N := 6) rfl ?_); refine box_event ?hg (N := 6) ?hd (cs := #[.slice none 0 0, .slice none 0 0, .slice none 0 0]) (t := 25) ?hr ?_; (case hd => rfl); (case hg => rfl); (case hr => first | (go_simp; done) | (go_simp; rfl)); intro g3 hg w7 hbox3 hbw7; have hge3 : w6.heap.size ≤ g3 := Nat.le_of_eq hg.symm; clear hg; have hcz0 : w7.cell? ⟨g3, 0, none⟩ = some (.slice none 0 0) := (blk_cell hbox3 0).trans rfl; have hcz1 : w7.cell? ⟨g3, 1, none⟩ = some (.slice none 0 0) := (blk_cell hbox3 1).trans rfl; have hcz2 : w7.cell? ⟨g3, 2, none⟩ = some (.slice none 0 0) := (blk_cell hbox3 2).trans rfl; have hfz0 := blk_frozen hbox3 0; have hfz1 := blk_frozen hbox3 1; have hfz2 := blk_frozen hbox3 2))
      clear hcz0 hcz1 hcz2 hfz0 hfz1 hfz2 x0 x1 x2 y0 y1 y2
      have hH3 := put3 (d := .slice E0 a0.length f0) (e := .slice E1 a1.length f1) (f := .slice E2 a2.length f2) hbox3
      have hB7 := put3_below (d := .slice E0 a0.length f0) (e := .slice E1 a1.length f1) (f := .slice E2 a2.length f2) hbw7 hge3
      clear hbox3 hbw7
      generalize ((w7.setCell ⟨g3, 0, none⟩ (.slice E0 a0.length f0)).setCell ⟨g3, 1, none⟩ (.slice E1 a1.length f1)).setCell ⟨g3, 2, none⟩ (.slice E2 a2.length f2) = w8 at hH3 hB7 ⊢
      have hs0 := Kd.S_R hS0
      have hs1 := Kd.S_R hS1
      have hs2 := Kd.S_R hS2
      have hMC : MapC w6 (.agg #[.slice E0 a0.length f0, .slice E1 a1.length f1, .slice E2 a2.length f2]) a0 a1 a2 := ⟨E0, E1, E2, f0, f1, f2, rfl, (Kd.R_reads' hs0).2.2, (Kd.R_reads' hs0).2.1, (Kd.R_reads' hs1).2.2, (Kd.R_reads' hs1).2.1, (Kd.R_reads' hs2).2.2, (Kd.R_reads' hs2).2.1⟩
      clear hS0 hS1 hS2
      have hB8 := below_step hB6 hB7
      have hW8 := below_step hB2 hB8
      have hbase : w.heap.size ≤ w5.heap.size := hW5.size
      have z0 : w8.cell? ⟨g3, 0, none⟩ = some (.slice E0 a0.length f0) := (blk_cell hH3 0).trans rfl
      have z1 : w8.cell? ⟨g3, 1, none⟩ = some (.slice E1 a1.length f1) := (blk_cell hH3 1).trans rfl
      have z2 : w8.cell? ⟨g3, 2, none⟩ = some (.slice E2 a2.length f2) := (blk_cell hH3 2).trans rfl
      obtain ⟨⟨x0, x1, x2⟩, y0, y1, y2⟩ := hcells w8 hB8
      go_upto_region 7 with (first | (go_at_call 20; refine (hrca _ hb9).mono ?_; rintro e w10 ⟨rfl, hb10⟩) | (go_at_call 20; refine (hrab _ hW8).mono ?_; rintro e w9 ⟨rfl, hb9⟩; obtain ⟨⟨xx0, xx1, xx2⟩, yy0, yy1, yy2⟩ := hcells w9 (below_step hB8 hb9); have zz0 : w9.cell? ⟨g3, 0, none⟩ = some (.slice E0 a0.length f0) := (blk_cell (blk_below hH3 hb9) 0).trans rfl; have zz1 : w9.cell? ⟨g3, 1, none⟩ = some (.slice E1 a1.length f1) := (blk_cell (blk_below hH3 hb9) 1).trans rfl; have zz2 : w9.cell? ⟨g3, 2, none⟩ = some (.slice E2 a2.length f2) := (blk_cell (blk_below hH3 hb9) 2).trans rfl; have hrca : ∀ W : World, Below w8.heap.size w8 W → Calls Try.prog 20 #[.agg #[.slice E0 a0.length f0, .slice E1 a1.length f1, .slice E2 a2.length f2], .agg #[.slice A0 a0.length c0, .slice A1 a1.length c1, .slice A2 a2.length c2]] W fun e w' => e = .returned (.bool true) ∧ Below W.heap.size W w' := fun W hW => by have h_ := href W _ _ _ _ _ _ _ _ (MapC_below hMC (below_step hB7 hW)) (MapC_below hMA (below_step hW8 hW)) ha0 ha1 ha2; rw [eqM_self] at h_; exact h_))
      have hB10 := below_step hb9 hb10
      have hH10 := blk_below hH3 hB10
      have hV10 := below_step hB8 hB10
      have in0 := inner_at' k42 42 29 w10 w5.heap.size _ E0 f0 a0 (Kd.R_below hs0 (below_step hB7 hB10))
      have in1 := inner_at' (Kd.int .i64) 3 26 w10 w5.heap.size _ E1 f1 a1 (Kd.R_below hs1 (below_step hB7 hB10))
      have hb25 := hB5.size
      clear z0 z1 z2 x0 x1 x2 y0 y1 y2 xx0 xx1 xx2 yy0 yy1 yy2 zz0 zz1 zz2 hrca hb9 hb10 hB7 hH3 hB8 hW8 hMC hs0 hs1 hs2 hB6 hb6 hrab href hcopy hB10
      go_wp2
      go_loopw [7] (fun v wr => ∃ k : Nat, k ≤ a0.length ∧ v = .int .i64 k ∧ Shp 42 w10 wr ∧ Below w2.heap.size w2 wr) (fun v _ => a0.length - (intV v).toNat)
      case atStart => exact ⟨0, by omega, rfl, Shp.refl _ _, hV10⟩
      case round =>
        obtain ⟨k, hk, rfl, hS, hBw⟩ := hrel
        obtain ⟨_, hg3, _, he3⟩ := hS g3 _ 25 hH10
        obtain rfl := he3 (by decide)
        have z0 : wr.cell? ⟨g3, 0, none⟩ = some (.slice E0 a0.length f0) := (blk_cell hg3 0).trans rfl
        have z1 : wr.cell? ⟨g3, 1, none⟩ = some (.slice E1 a1.length f1) := (blk_cell hg3 1).trans rfl
        rcases Nat.lt_or_ge k a0.length with hlt | hge
        · have hki : (k : Int) < (a0.length : Int) := by omega
          have hkb : decide ((k : Int) < (a0.length : Int)) = true := decide_eq_true hki
          obtain ⟨go, cur, e0, hgo, hcur, Ai, ci, hci, hin⟩ := in0 k hlt
          have hlen := ha0.2 _ (List.getElem_mem hlt)
          have hal := ha0.1
          have hkl : k < 4611686018427387904 := by omega
          generalize hrow : a0[k].length = len at hci hin hlen
          clear hrow
          subst e0
          go_wp2
          clear z0 z1 hg3
          go_loopw [8] (fun v wq => ∃ q : Nat, q ≤ len ∧ v = .int .i64 q ∧ Shp 42 w10 wq ∧ Below w2.heap.size w2 wq) (fun v _ => len - (intV v).toNat)
          case atStart => exact ⟨0, by omega, rfl, hS, hBw⟩
          case round =>
            clear hS hBw
            obtain ⟨q, hq, rfl, hS, hBw⟩ := hrel
            obtain ⟨_, hg3, _, he3⟩ := hS g3 _ 25 hH10
            obtain rfl := he3 (by decide)
            have z0 : wr.cell? ⟨g3, 0, none⟩ = some (.slice (some ⟨go, 0, none⟩) a0.length f0) := (blk_cell hg3 0).trans rfl
            obtain ⟨_, hcq, _, heq⟩ := hS go cur 29 hcur
            obtain rfl := heq (by decide)
            have zi : wr.cell? ⟨go, k, none⟩ = some (.slice Ai len ci) := by rw [cell_of_row wr go k _ 29 (0, 0) hcq]; exact hci
            have hql : q < 4611686018427387904 := by omega
            rcases Nat.lt_or_ge q len with hqt | hqe
            · have hqi : (q : Int) < (len : Int) := by omega
              have hqb : decide ((q : Int) < (len : Int)) = true := decide_eq_true hqi
              obtain ⟨gi, cc, e1, hgi, hcc, hsz⟩ := hin (by omega)
              subst e1
              have hs3 : k42.sz = 3 := rfl
              rw [hs3] at hsz
              obtain ⟨cb, hcb, hcs, _⟩ := hS gi cc 42 hcc
              have hw0 : wr.cell? ⟨gi, q * 3, none⟩ = some (cb[q * 3]'(by omega)) := by rw [cell_of_row wr gi _ cb _ (0, 0) hcb]; exact Array.getElem?_eq_getElem (by omega)
              have hw1 : wr.cell? ⟨gi, q * 3 + 1, none⟩ = some (cb[q * 3 + 1]'(by omega)) := by rw [cell_of_row wr gi _ cb _ (0, 0) hcb]; exact Array.getElem?_eq_getElem (by omega)
              have hw2 : wr.cell? ⟨gi, q * 3 + 2, none⟩ = some (cb[q * 3 + 2]'(by omega)) := by rw [cell_of_row wr gi _ cb _ (0, 0) hcb]; exact Array.getElem?_eq_getElem (by omega)
              have hf0 := blk_frozen hcb (q * 3)
              have hf1 := blk_frozen hcb (q * 3 + 1)
              have hf2 := blk_frozen hcb (q * 3 + 2)
              have hgi2 : w2.heap.size ≤ gi := Nat.le_trans hb25 hgi
              have hS3 : ∀ u0 u1 u2 : Value, Shp 42 w10 (((wr.setCell ⟨gi, q * 3, none⟩ u0).setCell ⟨gi, q * 3 + 1, none⟩ u1).setCell ⟨gi, q * 3 + 2, none⟩ u2) := fun u0 u1 u2 => by
                obtain ⟨x1, hx1, _⟩ := set_block (i := q * 3) hcb u0
                obtain ⟨x2, hx2, _⟩ := set_block (i := q * 3 + 1) hx1 u1
                exact ((hS.set hcb u0).set hx1 u1).set hx2 u2
              have hB3 : ∀ u0 u1 u2 : Value, Below w2.heap.size w2 (((wr.setCell ⟨gi, q * 3, none⟩ u0).setCell ⟨gi, q * 3 + 1, none⟩ u1).setCell ⟨gi, q * 3 + 2, none⟩ u2) := fun u0 u1 u2 => below_set (below_set (below_set hBw hgi2) hgi2) hgi2
              generalize cb[q * 3]'(by omega) = o0 at hw0
              generalize cb[q * 3 + 1]'(by omega) = o1 at hw1
              generalize cb[q * 3 + 2]'(by omega) = o2 at hw2
              go_wp2
              go_roundw
              case rel => exact ⟨q + 1, by omega, rfl, hS3 _ _ _, hB3 _ _ _⟩
              case measure => simp [intV]; omega
            · have hqi : ¬ (q : Int) < (len : Int) := by omega
              have hqb : decide ((q : Int) < (len : Int)) = false := decide_eq_false hqi
              go_wp2
              go_roundw
              case rel => exact ⟨k + 1, by omega, rfl, hS, hBw⟩
              case measure => simp [intV]; omega
        · have hki : ¬ (k : Int) < (a0.length : Int) := by omega
          have hkb : decide ((k : Int) < (a0.length : Int)) = false := decide_eq_false hki
          go_wp2
          clear z0 z1 hki hkb hk
          obtain ⟨X, hXe⟩ : ∃ X : World, X = wr := ⟨wr, rfl⟩
          subst hXe
          have hal1 := ha1.1
          have in2 : ∀ (i : Nat) (hi : i < a1.length), ∃ (go : Nat) (cur : Array Value), E1 = some ⟨go, 0, none⟩ ∧ w5.heap.size ≤ go ∧ X.heap[go]? = some (.cells cur 26 (0, 0)) ∧ ∃ Ai ci, cur[i]? = some (.slice Ai a1[i].length ci) ∧ (0 < a1[i].length → ∃ (gi : Nat) (ci' : Array Value), Ai = some ⟨gi, 0, none⟩ ∧ w5.heap.size ≤ gi ∧ X.heap[gi]? = some (.cells ci' 3 (0, 0)) ∧ a1[i].length ≤ ci'.size) := by
            intro i hi
            obtain ⟨go, cur, e0, hgo, hcur, Ai, ci, hci, hin⟩ := in1 i hi
            obtain ⟨_, hc2, _, he⟩ := hS go cur 26 hcur
            obtain rfl := he (by decide)
            refine ⟨go, _, e0, hgo, hc2, Ai, ci, hci, fun h0 => ?_⟩
            obtain ⟨gi, cc, e1, hgi, hcc, hsz⟩ := hin h0
            obtain ⟨_, hc3, _, he3⟩ := hS gi cc 3 hcc
            obtain rfl := he3 (by decide)
            have hs1 : (Kd.int IntKind.i64).sz = 1 := rfl
            rw [hs1, Nat.mul_one] at hsz
            exact ⟨gi, _, e1, hgi, hc3, hsz⟩
          clear in0 in1 hS hH10
          go_loopw [9] (fun v wx => ∃ k : Nat, k ≤ a1.length ∧ v = .int .i64 k ∧ Shp 3 X wx ∧ Below w2.heap.size w2 wx) (fun v _ => a1.length - (intV v).toNat)
          case atStart => exact ⟨0, by omega, rfl, Shp.refl _ _, hBw⟩
          case round =>
            clear hBw
            obtain ⟨k, hk, rfl, hS, hBw⟩ := hrel
            obtain ⟨_, hg4, _, he3⟩ := hS g3 _ 25 hg3
            obtain rfl := he3 (by decide)
            have z1 : wr.cell? ⟨g3, 1, none⟩ = some (.slice E1 a1.length f1) := (blk_cell hg4 1).trans rfl
            rcases Nat.lt_or_ge k a1.length with hlt | hge
            · have hki : (k : Int) < (a1.length : Int) := by omega
              have hkb : decide ((k : Int) < (a1.length : Int)) = true := decide_eq_true hki
              obtain ⟨go, cur, e0, hgo, hcur, Ai, ci, hci, hin⟩ := in2 k hlt
              have hlen := ha1.2 _ (List.getElem_mem hlt)
              generalize hrow : a1[k].length = len at hci hin hlen
              clear hrow
              subst e0
              go_wp2
              clear z1 hg4
              go_loopw [10] (fun v wq => ∃ q : Nat, q ≤ len ∧ v = .int .i64 q ∧ Shp 3 X wq ∧ Below w2.heap.size w2 wq) (fun v _ => len - (intV v).toNat)
              case atStart => exact ⟨0, by omega, rfl, hS, hBw⟩
              case round =>
                clear hS hBw
                obtain ⟨q, hq, rfl, hS, hBw⟩ := hrel
                obtain ⟨_, hg4, _, he3⟩ := hS g3 _ 25 hg3
                obtain rfl := he3 (by decide)
                have z1 : wr.cell? ⟨g3, 1, none⟩ = some (.slice (some ⟨go, 0, none⟩) a1.length f1) := (blk_cell hg4 1).trans rfl
                obtain ⟨_, hcq, _, heq⟩ := hS go cur 26 hcur
                obtain rfl := heq (by decide)
                have zi : wr.cell? ⟨go, k, none⟩ = some (.slice Ai len ci) := by rw [cell_of_row wr go k _ 26 (0, 0) hcq]; exact hci
                rcases Nat.lt_or_ge q len with hqt | hqe
                · have hqi : (q : Int) < (len : Int) := by omega
                  have hqb : decide ((q : Int) < (len : Int)) = true := decide_eq_true hqi
                  obtain ⟨gi, cc, e1, hgi, hcc, hsz⟩ := hin (by omega)
                  subst e1
                  obtain ⟨cb, hcb, hcs, _⟩ := hS gi cc 3 hcc
                  have hw0 : wr.cell? ⟨gi, q, none⟩ = some (cb[q]'(by omega)) := by rw [cell_of_row wr gi _ cb _ (0, 0) hcb]; exact Array.getElem?_eq_getElem (by omega)
                  have hf0 := blk_frozen hcb q
                  have hgi2 : w2.heap.size ≤ gi := Nat.le_trans hb25 hgi
                  have hS3 : ∀ u0 : Value, Shp 3 X (wr.setCell ⟨gi, q, none⟩ u0) := fun u0 => hS.set hcb u0
                  have hB3 : ∀ u0 : Value, Below w2.heap.size w2 (wr.setCell ⟨gi, q, none⟩ u0) := fun u0 => below_set hBw hgi2
                  generalize cb[q]'(by omega) = o0 at hw0
                  go_wp2
                  go_roundw
                  case rel => exact ⟨q + 1, by omega, rfl, hS3 _, hB3 _⟩
                  case measure => simp [intV]; omega
                · have hqi : ¬ (q : Int) < (len : Int) := by omega
                  have hqb : decide ((q : Int) < (len : Int)) = false := decide_eq_false hqi
                  go_wp2
                  go_roundw
                  case rel => exact ⟨k + 1, by omega, rfl, hS, hBw⟩
                  case measure => simp [intV]; omega
            · have hki : ¬ (k : Int) < (a1.length : Int) := by omega
              have hkb : decide ((k : Int) < (a1.length : Int)) = false := decide_eq_false hki
              have hWw := below_step hB2 hBw
              obtain ⟨⟨x0, x1, x2⟩, y0, y1, y2⟩ := hcells wr hBw
              go_wp2_with (first | (go_at_call 9; refine (hkn _).mono ?_; rintro e w14 ⟨rfl, hb14⟩) | (go_at_call 18; refine (hsaa _ hW12).mono ?_; rintro e w13 ⟨rfl, hb13⟩) | (go_at_call 18; refine (hsab _ hWw).mono ?_; rintro e w12 ⟨rfl, hb12⟩; have hW12 := below_step hWw hb12; obtain ⟨⟨xx0, xx1, xx2⟩, yy0, yy1, yy2⟩ := hcells w12 (below_step hBw hb12)))
              go_ret
              exact ⟨rfl, below_step (below_step hW12 hb13) hb14⟩
end Go.Proofs.Ytfbkjgedaadlmaa.Rw
