/- Written for this claim by a program of this session (a turned copy of the print): Go functions as Lean functions, and that the Go code comes to just these answers; or a statement proved out of them. No condition. The document's machine is what the document's code does. No condition. -/
import Derived.Test.YtglmfnaofpbpfaaZ2
import Derived.Test.YtglmfnaofpbpfaaZ16
import Derived.Test.YtglmfnaofpbpfaaZ9
import Derived.Test.YtglmfnaofpbpfaaZ13

namespace Go.Proofs.Ytglmfnaofpbpfaa.P
open Go.RowKit Go.Proofs.YtglmfnaofpbpfaaW.PrintWords Go.Proofs.YtglmfnaofpbpfaaW.PrintLast Go.Proofs.YtglmfnaofpbpfaaW.PrintMore Go.Proofs.Ytglmfnaofpbpfaa.X
attribute [local go_sem] max2_int min2_int max_two min_two max_three min_three max_four min_four   -- for this text's walks alone
set_option linter.unusedVariables false
set_option linter.unusedSimpArgs false

/-! ### lapidaryref03_Close: function 16 -/
def lapidaryref03_Close.f (l0_0 : List Int) (a0_1 : Int) (a0_2 : Bool) (a0_3 : Int) (l0_4 : List (S48)) (a0_5 : Int) : Option ((List (S48)) × Int) := if a0_5 = 0 then (if a0_2 = true then (if a0_3 > 1048576 then (some (([] : List (S48)), 3)) else (some (l0_4, 0))) else (some (([] : List (S48)), 10))) else (some (([] : List (S48)), a0_5))
set_option maxHeartbeats 8000000 in
set_option maxRecDepth 100000 in
theorem lapidaryref03_Close.calls (A0_0 : Option Addr) (c0_0 : Nat) (l0_0 : List Int) (a0_1 : Int) (a0_2 : Bool) (a0_3 : Int) (P0_4_ : Nat → Prop) (A0_4 : Option Addr) (c0_4 : Nat) (l0_4 : List (S48)) (a0_5 : Int) (r1 : List (S48)) (r2 : Int) (w : World) (hr0_0 : Kd.C (Kd.int .u8) w A0_0 l0_0.length l0_0) (hc0_0 : l0_0.length ≤ c0_0) (hs0_4 : Kd.V k48 48 w w.heap.size (fun k_ => P0_4_ k_) (.slice A0_4 l0_4.length c0_4) l0_4) (h : lapidaryref03_Close.f l0_0 a0_1 a0_2 a0_3 l0_4 a0_5 = some (r1, r2)) :
  Calls Try.prog 16 #[.agg #[.slice A0_0 l0_0.length c0_0, .int .i64 a0_1, .bool a0_2, .int .i64 a0_3, .slice A0_4 l0_4.length c0_4, .int .i64 a0_5]] w fun e w' => ∃ v0_ : Value, e = .returned (.tuple #[v0_, .int .i64 r2]) ∧ Kd.V k48 48 w' w.heap.size (fun k_ => (P0_4_ k_ ∨ w.heap.size ≤ k_)) v0_ r1 ∧ Below w.heap.size w w' := by
 have hu28 := Try.underlying28
 have HR0_0 := Aside0.mk hr0_0
 have HC0_0 := Aside0.mk hc0_0
 clear hr0_0 hc0_0
 have HO0_4 := Aside0.mk (show Kd.V k48 48 w w.heap.size (fun k_ => (P0_4_ k_ ∨ w.heap.size ≤ k_)) (.slice A0_4 l0_4.length c0_4) l0_4 from Kd.V_mono hs0_4 (fun k_ hk => .inl hk))
 have HB := Aside0.mk (Below.refl w.heap.size w)
 have H : (if a0_5 = 0 then (if a0_2 = true then (if a0_3 > 1048576 then (some (([] : List (S48)), 3)) else (some (l0_4, 0))) else (some (([] : List (S48)), 10))) else (some (([] : List (S48)), a0_5))) = some (r1, r2) := h
 clear h
 by_cases c2 : a0_5 = 0
 ·rw [if_pos c2] at H
  have c2b0 : (a0_5 == 0) = true := beq_iff_eq.mpr c2
  have c2b1 : (a0_5 != 0) = false := bne_eq_false_iff_eq.mpr c2
  clear c2
  by_cases c3 : a0_2 = true
  ·subst c3
   have H1 : (if a0_3 > 1048576 then (some (([] : List (S48)), 3)) else (some (l0_4, 0))) = some (r1, r2) := by rw [if_pos rfl] at H; exact H
   clear H
   have H := H1
   clear H1
   by_cases c4 : a0_3 > 1048576
   ·rw [if_pos c4] at H
    have c4b0 : decide (1048576 < a0_3) = true := decide_eq_true c4
    clear c4
    simp only [Option.some.injEq, Prod.mk.injEq] at H
    obtain ⟨rfl, rfl⟩ := H
    go_enter Try.func16, Try.ntmps16
    go_wp2_with (first | ((with_reducible refine gate_dst (N := 1) rfl ?_); refine box_event ?hg (N := 1) ?hd (cs := #[.slice A0_0 l0_0.length c0_0, .int .i64 a0_1, .bool true, .int .i64 a0_3, .slice A0_4 l0_4.length c0_4, .int .i64 a0_5]) (t := 28) ?hr ?_; (case hd => rfl); (case hg => rfl); (case hr => first | (go_simp; done) | (go_simp; rfl)); intro gb246 hg w5 hbox hb; have n0_ := Aside0.mk (Kd.V_below (Kd.V_elderB (by (with_reducible repeat (first | apply Kd.V_alloc | apply Kd.V_drewN | apply Kd.V_drew)); exact HO0_4.out) gb246 (Nat.le_of_eq hg.symm)) hb); have n1_ := Aside0.mk (below_step (bH HB) hb); have n2_ := Aside0.mk (hbox); have n3_ := Aside0.mk ((by rw [hg]; exact (below_size (bH HB)) : w.heap.size ≤ gb246)); have n4_ := n3_; clear HO0_4; clear HB; have HO0_4 := n0_; have HB := n1_; have BK246 := n2_; have GW246 := n3_; have GE246 := n4_; clear n0_ n1_ n2_ n3_ n4_; clear hb hbox hg; have hcz6_0 : w5.cell? ⟨gb246, 0, none⟩ = some (.slice A0_0 l0_0.length c0_0) := (blk_cell BK246.out 0).trans rfl; have hcz6_1 : w5.cell? ⟨gb246, 1, none⟩ = some (.int .i64 a0_1) := (blk_cell BK246.out 1).trans rfl; have hcz6_2 : w5.cell? ⟨gb246, 2, none⟩ = some (.bool true) := (blk_cell BK246.out 2).trans rfl; have hcz6_3 : w5.cell? ⟨gb246, 3, none⟩ = some (.int .i64 a0_3) := (blk_cell BK246.out 3).trans rfl; have hcz6_4 : w5.cell? ⟨gb246, 4, none⟩ = some (.slice A0_4 l0_4.length c0_4) := (blk_cell BK246.out 4).trans rfl; have hcz6_5 : w5.cell? ⟨gb246, 5, none⟩ = some (.int .i64 a0_5) := (blk_cell BK246.out 5).trans rfl; have hfz6_0 := blk_frozen BK246.out 0; have hfz6_1 := blk_frozen BK246.out 1; have hfz6_2 := blk_frozen BK246.out 2; have hfz6_3 := blk_frozen BK246.out 3; have hfz6_4 := blk_frozen BK246.out 4; have hfz6_5 := blk_frozen BK246.out 5))
    repeat (go_quiet (first | ((with_reducible refine gate_dst (N := 1) rfl ?_); refine box_event ?hg (N := 1) ?hd (cs := #[.slice A0_0 l0_0.length c0_0, .int .i64 a0_1, .bool true, .int .i64 a0_3, .slice A0_4 l0_4.length c0_4, .int .i64 a0_5]) (t := 28) ?hr ?_; (case hd => rfl); (case hg => rfl); (case hr => first | (go_simp; done) | (go_simp; rfl)); intro gb246 hg w5 hbox hb; have n0_ := Aside0.mk (Kd.V_below (Kd.V_elderB (by (with_reducible repeat (first | apply Kd.V_alloc | apply Kd.V_drewN | apply Kd.V_drew)); exact HO0_4.out) gb246 (Nat.le_of_eq hg.symm)) hb); have n1_ := Aside0.mk (below_step (bH HB) hb); have n2_ := Aside0.mk (hbox); have n3_ := Aside0.mk ((by rw [hg]; exact (below_size (bH HB)) : w.heap.size ≤ gb246)); have n4_ := n3_; clear HO0_4; clear HB; have HO0_4 := n0_; have HB := n1_; have BK246 := n2_; have GW246 := n3_; have GE246 := n4_; clear n0_ n1_ n2_ n3_ n4_; clear hb hbox hg; have hcz6_0 : w5.cell? ⟨gb246, 0, none⟩ = some (.slice A0_0 l0_0.length c0_0) := (blk_cell BK246.out 0).trans rfl; have hcz6_1 : w5.cell? ⟨gb246, 1, none⟩ = some (.int .i64 a0_1) := (blk_cell BK246.out 1).trans rfl; have hcz6_2 : w5.cell? ⟨gb246, 2, none⟩ = some (.bool true) := (blk_cell BK246.out 2).trans rfl; have hcz6_3 : w5.cell? ⟨gb246, 3, none⟩ = some (.int .i64 a0_3) := (blk_cell BK246.out 3).trans rfl; have hcz6_4 : w5.cell? ⟨gb246, 4, none⟩ = some (.slice A0_4 l0_4.length c0_4) := (blk_cell BK246.out 4).trans rfl; have hcz6_5 : w5.cell? ⟨gb246, 5, none⟩ = some (.int .i64 a0_5) := (blk_cell BK246.out 5).trans rfl; have hfz6_0 := blk_frozen BK246.out 0; have hfz6_1 := blk_frozen BK246.out 1; have hfz6_2 := blk_frozen BK246.out 2; have hfz6_3 := blk_frozen BK246.out 3; have hfz6_4 := blk_frozen BK246.out 4; have hfz6_5 := blk_frozen BK246.out 5)); try go_wp2_with (first | ((with_reducible refine gate_dst (N := 1) rfl ?_); refine box_event ?hg (N := 1) ?hd (cs := #[.slice A0_0 l0_0.length c0_0, .int .i64 a0_1, .bool true, .int .i64 a0_3, .slice A0_4 l0_4.length c0_4, .int .i64 a0_5]) (t := 28) ?hr ?_; (case hd => rfl); (case hg => rfl); (case hr => first | (go_simp; done) | (go_simp; rfl)); intro gb246 hg w5 hbox hb; have n0_ := Aside0.mk (Kd.V_below (Kd.V_elderB (by (with_reducible repeat (first | apply Kd.V_alloc | apply Kd.V_drewN | apply Kd.V_drew)); exact HO0_4.out) gb246 (Nat.le_of_eq hg.symm)) hb); have n1_ := Aside0.mk (below_step (bH HB) hb); have n2_ := Aside0.mk (hbox); have n3_ := Aside0.mk ((by rw [hg]; exact (below_size (bH HB)) : w.heap.size ≤ gb246)); have n4_ := n3_; clear HO0_4; clear HB; have HO0_4 := n0_; have HB := n1_; have BK246 := n2_; have GW246 := n3_; have GE246 := n4_; clear n0_ n1_ n2_ n3_ n4_; clear hb hbox hg; have hcz6_0 : w5.cell? ⟨gb246, 0, none⟩ = some (.slice A0_0 l0_0.length c0_0) := (blk_cell BK246.out 0).trans rfl; have hcz6_1 : w5.cell? ⟨gb246, 1, none⟩ = some (.int .i64 a0_1) := (blk_cell BK246.out 1).trans rfl; have hcz6_2 : w5.cell? ⟨gb246, 2, none⟩ = some (.bool true) := (blk_cell BK246.out 2).trans rfl; have hcz6_3 : w5.cell? ⟨gb246, 3, none⟩ = some (.int .i64 a0_3) := (blk_cell BK246.out 3).trans rfl; have hcz6_4 : w5.cell? ⟨gb246, 4, none⟩ = some (.slice A0_4 l0_4.length c0_4) := (blk_cell BK246.out 4).trans rfl; have hcz6_5 : w5.cell? ⟨gb246, 5, none⟩ = some (.int .i64 a0_5) := (blk_cell BK246.out 5).trans rfl; have hfz6_0 := blk_frozen BK246.out 0; have hfz6_1 := blk_frozen BK246.out 1; have hfz6_2 := blk_frozen BK246.out 2; have hfz6_3 := blk_frozen BK246.out 3; have hfz6_4 := blk_frozen BK246.out 4; have hfz6_5 := blk_frozen BK246.out 5)))
    go_ret2
    exact ⟨_, by first | rfl | (simp [errW_none, errW_some] <;> rfl) | (simp [*, errW_none, errW_some] <;> rfl), Kd.V_nil _ _ _ _ _, bH HB⟩
   ·rw [if_neg c4] at H
    have c4b0 : decide (1048576 < a0_3) = false := decide_eq_false c4
    clear c4
    simp only [Option.some.injEq, Prod.mk.injEq] at H
    obtain ⟨rfl, rfl⟩ := H
    go_enter Try.func16, Try.ntmps16
    go_wp2_with (first | ((with_reducible refine gate_dst (N := 1) rfl ?_); refine box_event ?hg (N := 1) ?hd (cs := #[.slice A0_0 l0_0.length c0_0, .int .i64 a0_1, .bool true, .int .i64 a0_3, .slice A0_4 l0_4.length c0_4, .int .i64 a0_5]) (t := 28) ?hr ?_; (case hd => rfl); (case hg => rfl); (case hr => first | (go_simp; done) | (go_simp; rfl)); intro gb246 hg w7 hbox hb; have n0_ := Aside0.mk (Kd.V_below (Kd.V_elderB (by (with_reducible repeat (first | apply Kd.V_alloc | apply Kd.V_drewN | apply Kd.V_drew)); exact HO0_4.out) gb246 (Nat.le_of_eq hg.symm)) hb); have n1_ := Aside0.mk (below_step (bH HB) hb); have n2_ := Aside0.mk (hbox); have n3_ := Aside0.mk ((by rw [hg]; exact (below_size (bH HB)) : w.heap.size ≤ gb246)); have n4_ := n3_; clear HO0_4; clear HB; have HO0_4 := n0_; have HB := n1_; have BK246 := n2_; have GW246 := n3_; have GE246 := n4_; clear n0_ n1_ n2_ n3_ n4_; clear hb hbox hg; have hcz8_0 : w7.cell? ⟨gb246, 0, none⟩ = some (.slice A0_0 l0_0.length c0_0) := (blk_cell BK246.out 0).trans rfl; have hcz8_1 : w7.cell? ⟨gb246, 1, none⟩ = some (.int .i64 a0_1) := (blk_cell BK246.out 1).trans rfl; have hcz8_2 : w7.cell? ⟨gb246, 2, none⟩ = some (.bool true) := (blk_cell BK246.out 2).trans rfl; have hcz8_3 : w7.cell? ⟨gb246, 3, none⟩ = some (.int .i64 a0_3) := (blk_cell BK246.out 3).trans rfl; have hcz8_4 : w7.cell? ⟨gb246, 4, none⟩ = some (.slice A0_4 l0_4.length c0_4) := (blk_cell BK246.out 4).trans rfl; have hcz8_5 : w7.cell? ⟨gb246, 5, none⟩ = some (.int .i64 a0_5) := (blk_cell BK246.out 5).trans rfl; have hfz8_0 := blk_frozen BK246.out 0; have hfz8_1 := blk_frozen BK246.out 1; have hfz8_2 := blk_frozen BK246.out 2; have hfz8_3 := blk_frozen BK246.out 3; have hfz8_4 := blk_frozen BK246.out 4; have hfz8_5 := blk_frozen BK246.out 5))
    repeat (go_quiet (first | ((with_reducible refine gate_dst (N := 1) rfl ?_); refine box_event ?hg (N := 1) ?hd (cs := #[.slice A0_0 l0_0.length c0_0, .int .i64 a0_1, .bool true, .int .i64 a0_3, .slice A0_4 l0_4.length c0_4, .int .i64 a0_5]) (t := 28) ?hr ?_; (case hd => rfl); (case hg => rfl); (case hr => first | (go_simp; done) | (go_simp; rfl)); intro gb246 hg w7 hbox hb; have n0_ := Aside0.mk (Kd.V_below (Kd.V_elderB (by (with_reducible repeat (first | apply Kd.V_alloc | apply Kd.V_drewN | apply Kd.V_drew)); exact HO0_4.out) gb246 (Nat.le_of_eq hg.symm)) hb); have n1_ := Aside0.mk (below_step (bH HB) hb); have n2_ := Aside0.mk (hbox); have n3_ := Aside0.mk ((by rw [hg]; exact (below_size (bH HB)) : w.heap.size ≤ gb246)); have n4_ := n3_; clear HO0_4; clear HB; have HO0_4 := n0_; have HB := n1_; have BK246 := n2_; have GW246 := n3_; have GE246 := n4_; clear n0_ n1_ n2_ n3_ n4_; clear hb hbox hg; have hcz8_0 : w7.cell? ⟨gb246, 0, none⟩ = some (.slice A0_0 l0_0.length c0_0) := (blk_cell BK246.out 0).trans rfl; have hcz8_1 : w7.cell? ⟨gb246, 1, none⟩ = some (.int .i64 a0_1) := (blk_cell BK246.out 1).trans rfl; have hcz8_2 : w7.cell? ⟨gb246, 2, none⟩ = some (.bool true) := (blk_cell BK246.out 2).trans rfl; have hcz8_3 : w7.cell? ⟨gb246, 3, none⟩ = some (.int .i64 a0_3) := (blk_cell BK246.out 3).trans rfl; have hcz8_4 : w7.cell? ⟨gb246, 4, none⟩ = some (.slice A0_4 l0_4.length c0_4) := (blk_cell BK246.out 4).trans rfl; have hcz8_5 : w7.cell? ⟨gb246, 5, none⟩ = some (.int .i64 a0_5) := (blk_cell BK246.out 5).trans rfl; have hfz8_0 := blk_frozen BK246.out 0; have hfz8_1 := blk_frozen BK246.out 1; have hfz8_2 := blk_frozen BK246.out 2; have hfz8_3 := blk_frozen BK246.out 3; have hfz8_4 := blk_frozen BK246.out 4; have hfz8_5 := blk_frozen BK246.out 5)); try go_wp2_with (first | ((with_reducible refine gate_dst (N := 1) rfl ?_); refine box_event ?hg (N := 1) ?hd (cs := #[.slice A0_0 l0_0.length c0_0, .int .i64 a0_1, .bool true, .int .i64 a0_3, .slice A0_4 l0_4.length c0_4, .int .i64 a0_5]) (t := 28) ?hr ?_; (case hd => rfl); (case hg => rfl); (case hr => first | (go_simp; done) | (go_simp; rfl)); intro gb246 hg w7 hbox hb; have n0_ := Aside0.mk (Kd.V_below (Kd.V_elderB (by (with_reducible repeat (first | apply Kd.V_alloc | apply Kd.V_drewN | apply Kd.V_drew)); exact HO0_4.out) gb246 (Nat.le_of_eq hg.symm)) hb); have n1_ := Aside0.mk (below_step (bH HB) hb); have n2_ := Aside0.mk (hbox); have n3_ := Aside0.mk ((by rw [hg]; exact (below_size (bH HB)) : w.heap.size ≤ gb246)); have n4_ := n3_; clear HO0_4; clear HB; have HO0_4 := n0_; have HB := n1_; have BK246 := n2_; have GW246 := n3_; have GE246 := n4_; clear n0_ n1_ n2_ n3_ n4_; clear hb hbox hg; have hcz8_0 : w7.cell? ⟨gb246, 0, none⟩ = some (.slice A0_0 l0_0.length c0_0) := (blk_cell BK246.out 0).trans rfl; have hcz8_1 : w7.cell? ⟨gb246, 1, none⟩ = some (.int .i64 a0_1) := (blk_cell BK246.out 1).trans rfl; have hcz8_2 : w7.cell? ⟨gb246, 2, none⟩ = some (.bool true) := (blk_cell BK246.out 2).trans rfl; have hcz8_3 : w7.cell? ⟨gb246, 3, none⟩ = some (.int .i64 a0_3) := (blk_cell BK246.out 3).trans rfl; have hcz8_4 : w7.cell? ⟨gb246, 4, none⟩ = some (.slice A0_4 l0_4.length c0_4) := (blk_cell BK246.out 4).trans rfl; have hcz8_5 : w7.cell? ⟨gb246, 5, none⟩ = some (.int .i64 a0_5) := (blk_cell BK246.out 5).trans rfl; have hfz8_0 := blk_frozen BK246.out 0; have hfz8_1 := blk_frozen BK246.out 1; have hfz8_2 := blk_frozen BK246.out 2; have hfz8_3 := blk_frozen BK246.out 3; have hfz8_4 := blk_frozen BK246.out 4; have hfz8_5 := blk_frozen BK246.out 5)))
    go_ret2
    exact ⟨_, by first | rfl | (simp [errW_none, errW_some] <;> rfl) | (simp [*, errW_none, errW_some] <;> rfl), by (with_reducible repeat (first | apply Kd.V_alloc | apply Kd.V_drewN | apply Kd.V_drew)); exact Kd.V_mono HO0_4.out (fun _ hk => hk.1), bH HB⟩
  ·replace c3 := Bool.eq_false_iff.mpr c3
   subst c3
   have H1 : (some (([] : List (S48)), 10)) = some (r1, r2) := by rw [if_neg (show ¬ (false = true) by decide)] at H; exact H
   clear H
   have H := H1
   clear H1
   simp only [Option.some.injEq, Prod.mk.injEq] at H
   obtain ⟨rfl, rfl⟩ := H
   go_enter Try.func16, Try.ntmps16
   go_wp2_with (first | ((with_reducible refine gate_dst (N := 1) rfl ?_); refine box_event ?hg (N := 1) ?hd (cs := #[.slice A0_0 l0_0.length c0_0, .int .i64 a0_1, .bool false, .int .i64 a0_3, .slice A0_4 l0_4.length c0_4, .int .i64 a0_5]) (t := 28) ?hr ?_; (case hd => rfl); (case hg => rfl); (case hr => first | (go_simp; done) | (go_simp; rfl)); intro gb246 hg w9 hbox hb; have n0_ := Aside0.mk (Kd.V_below (Kd.V_elderB (by (with_reducible repeat (first | apply Kd.V_alloc | apply Kd.V_drewN | apply Kd.V_drew)); exact HO0_4.out) gb246 (Nat.le_of_eq hg.symm)) hb); have n1_ := Aside0.mk (below_step (bH HB) hb); have n2_ := Aside0.mk (hbox); have n3_ := Aside0.mk ((by rw [hg]; exact (below_size (bH HB)) : w.heap.size ≤ gb246)); have n4_ := n3_; clear HO0_4; clear HB; have HO0_4 := n0_; have HB := n1_; have BK246 := n2_; have GW246 := n3_; have GE246 := n4_; clear n0_ n1_ n2_ n3_ n4_; clear hb hbox hg; have hcz10_0 : w9.cell? ⟨gb246, 0, none⟩ = some (.slice A0_0 l0_0.length c0_0) := (blk_cell BK246.out 0).trans rfl; have hcz10_1 : w9.cell? ⟨gb246, 1, none⟩ = some (.int .i64 a0_1) := (blk_cell BK246.out 1).trans rfl; have hcz10_2 : w9.cell? ⟨gb246, 2, none⟩ = some (.bool false) := (blk_cell BK246.out 2).trans rfl; have hcz10_3 : w9.cell? ⟨gb246, 3, none⟩ = some (.int .i64 a0_3) := (blk_cell BK246.out 3).trans rfl; have hcz10_4 : w9.cell? ⟨gb246, 4, none⟩ = some (.slice A0_4 l0_4.length c0_4) := (blk_cell BK246.out 4).trans rfl; have hcz10_5 : w9.cell? ⟨gb246, 5, none⟩ = some (.int .i64 a0_5) := (blk_cell BK246.out 5).trans rfl; have hfz10_0 := blk_frozen BK246.out 0; have hfz10_1 := blk_frozen BK246.out 1; have hfz10_2 := blk_frozen BK246.out 2; have hfz10_3 := blk_frozen BK246.out 3; have hfz10_4 := blk_frozen BK246.out 4; have hfz10_5 := blk_frozen BK246.out 5))
   repeat (go_quiet (first | ((with_reducible refine gate_dst (N := 1) rfl ?_); refine box_event ?hg (N := 1) ?hd (cs := #[.slice A0_0 l0_0.length c0_0, .int .i64 a0_1, .bool false, .int .i64 a0_3, .slice A0_4 l0_4.length c0_4, .int .i64 a0_5]) (t := 28) ?hr ?_; (case hd => rfl); (case hg => rfl); (case hr => first | (go_simp; done) | (go_simp; rfl)); intro gb246 hg w9 hbox hb; have n0_ := Aside0.mk (Kd.V_below (Kd.V_elderB (by (with_reducible repeat (first | apply Kd.V_alloc | apply Kd.V_drewN | apply Kd.V_drew)); exact HO0_4.out) gb246 (Nat.le_of_eq hg.symm)) hb); have n1_ := Aside0.mk (below_step (bH HB) hb); have n2_ := Aside0.mk (hbox); have n3_ := Aside0.mk ((by rw [hg]; exact (below_size (bH HB)) : w.heap.size ≤ gb246)); have n4_ := n3_; clear HO0_4; clear HB; have HO0_4 := n0_; have HB := n1_; have BK246 := n2_; have GW246 := n3_; have GE246 := n4_; clear n0_ n1_ n2_ n3_ n4_; clear hb hbox hg; have hcz10_0 : w9.cell? ⟨gb246, 0, none⟩ = some (.slice A0_0 l0_0.length c0_0) := (blk_cell BK246.out 0).trans rfl; have hcz10_1 : w9.cell? ⟨gb246, 1, none⟩ = some (.int .i64 a0_1) := (blk_cell BK246.out 1).trans rfl; have hcz10_2 : w9.cell? ⟨gb246, 2, none⟩ = some (.bool false) := (blk_cell BK246.out 2).trans rfl; have hcz10_3 : w9.cell? ⟨gb246, 3, none⟩ = some (.int .i64 a0_3) := (blk_cell BK246.out 3).trans rfl; have hcz10_4 : w9.cell? ⟨gb246, 4, none⟩ = some (.slice A0_4 l0_4.length c0_4) := (blk_cell BK246.out 4).trans rfl; have hcz10_5 : w9.cell? ⟨gb246, 5, none⟩ = some (.int .i64 a0_5) := (blk_cell BK246.out 5).trans rfl; have hfz10_0 := blk_frozen BK246.out 0; have hfz10_1 := blk_frozen BK246.out 1; have hfz10_2 := blk_frozen BK246.out 2; have hfz10_3 := blk_frozen BK246.out 3; have hfz10_4 := blk_frozen BK246.out 4; have hfz10_5 := blk_frozen BK246.out 5)); try go_wp2_with (first | ((with_reducible refine gate_dst (N := 1) rfl ?_); refine box_event ?hg (N := 1) ?hd (cs := #[.slice A0_0 l0_0.length c0_0, .int .i64 a0_1, .bool false, .int .i64 a0_3, .slice A0_4 l0_4.length c0_4, .int .i64 a0_5]) (t := 28) ?hr ?_; (case hd => rfl); (case hg => rfl); (case hr => first | (go_simp; done) | (go_simp; rfl)); intro gb246 hg w9 hbox hb; have n0_ := Aside0.mk (Kd.V_below (Kd.V_elderB (by (with_reducible repeat (first | apply Kd.V_alloc | apply Kd.V_drewN | apply Kd.V_drew)); exact HO0_4.out) gb246 (Nat.le_of_eq hg.symm)) hb); have n1_ := Aside0.mk (below_step (bH HB) hb); have n2_ := Aside0.mk (hbox); have n3_ := Aside0.mk ((by rw [hg]; exact (below_size (bH HB)) : w.heap.size ≤ gb246)); have n4_ := n3_; clear HO0_4; clear HB; have HO0_4 := n0_; have HB := n1_; have BK246 := n2_; have GW246 := n3_; have GE246 := n4_; clear n0_ n1_ n2_ n3_ n4_; clear hb hbox hg; have hcz10_0 : w9.cell? ⟨gb246, 0, none⟩ = some (.slice A0_0 l0_0.length c0_0) := (blk_cell BK246.out 0).trans rfl; have hcz10_1 : w9.cell? ⟨gb246, 1, none⟩ = some (.int .i64 a0_1) := (blk_cell BK246.out 1).trans rfl; have hcz10_2 : w9.cell? ⟨gb246, 2, none⟩ = some (.bool false) := (blk_cell BK246.out 2).trans rfl; have hcz10_3 : w9.cell? ⟨gb246, 3, none⟩ = some (.int .i64 a0_3) := (blk_cell BK246.out 3).trans rfl; have hcz10_4 : w9.cell? ⟨gb246, 4, none⟩ = some (.slice A0_4 l0_4.length c0_4) := (blk_cell BK246.out 4).trans rfl; have hcz10_5 : w9.cell? ⟨gb246, 5, none⟩ = some (.int .i64 a0_5) := (blk_cell BK246.out 5).trans rfl; have hfz10_0 := blk_frozen BK246.out 0; have hfz10_1 := blk_frozen BK246.out 1; have hfz10_2 := blk_frozen BK246.out 2; have hfz10_3 := blk_frozen BK246.out 3; have hfz10_4 := blk_frozen BK246.out 4; have hfz10_5 := blk_frozen BK246.out 5)))
   go_ret2
   exact ⟨_, by first | rfl | (simp [errW_none, errW_some] <;> rfl) | (simp [*, errW_none, errW_some] <;> rfl), Kd.V_nil _ _ _ _ _, bH HB⟩
 ·rw [if_neg c2] at H
  have c2b0 : (a0_5 == 0) = false := beq_eq_false_iff_ne.mpr c2
  have c2b1 : (a0_5 != 0) = true := bne_iff_ne.mpr c2
  simp only [Option.some.injEq, Prod.mk.injEq] at H
  obtain ⟨rfl, rfl⟩ := H
  go_enter Try.func16, Try.ntmps16
  go_wp2_with (first | ((with_reducible refine gate_dst (N := 1) rfl ?_); refine box_event ?hg (N := 1) ?hd (cs := #[.slice A0_0 l0_0.length c0_0, .int .i64 a0_1, .bool a0_2, .int .i64 a0_3, .slice A0_4 l0_4.length c0_4, .int .i64 a0_5]) (t := 28) ?hr ?_; (case hd => rfl); (case hg => rfl); (case hr => first | (go_simp; done) | (go_simp; rfl)); intro gb246 hg w11 hbox hb; have n0_ := Aside0.mk (Kd.V_below (Kd.V_elderB (by (with_reducible repeat (first | apply Kd.V_alloc | apply Kd.V_drewN | apply Kd.V_drew)); exact HO0_4.out) gb246 (Nat.le_of_eq hg.symm)) hb); have n1_ := Aside0.mk (below_step (bH HB) hb); have n2_ := Aside0.mk (hbox); have n3_ := Aside0.mk ((by rw [hg]; exact (below_size (bH HB)) : w.heap.size ≤ gb246)); have n4_ := n3_; clear HO0_4; clear HB; have HO0_4 := n0_; have HB := n1_; have BK246 := n2_; have GW246 := n3_; have GE246 := n4_; clear n0_ n1_ n2_ n3_ n4_; clear hb hbox hg; have hcz12_0 : w11.cell? ⟨gb246, 0, none⟩ = some (.slice A0_0 l0_0.length c0_0) := (blk_cell BK246.out 0).trans rfl; have hcz12_1 : w11.cell? ⟨gb246, 1, none⟩ = some (.int .i64 a0_1) := (blk_cell BK246.out 1).trans rfl; have hcz12_2 : w11.cell? ⟨gb246, 2, none⟩ = some (.bool a0_2) := (blk_cell BK246.out 2).trans rfl; have hcz12_3 : w11.cell? ⟨gb246, 3, none⟩ = some (.int .i64 a0_3) := (blk_cell BK246.out 3).trans rfl; have hcz12_4 : w11.cell? ⟨gb246, 4, none⟩ = some (.slice A0_4 l0_4.length c0_4) := (blk_cell BK246.out 4).trans rfl; have hcz12_5 : w11.cell? ⟨gb246, 5, none⟩ = some (.int .i64 a0_5) := (blk_cell BK246.out 5).trans rfl; have hfz12_0 := blk_frozen BK246.out 0; have hfz12_1 := blk_frozen BK246.out 1; have hfz12_2 := blk_frozen BK246.out 2; have hfz12_3 := blk_frozen BK246.out 3; have hfz12_4 := blk_frozen BK246.out 4; have hfz12_5 := blk_frozen BK246.out 5))
  repeat (go_quiet (first | ((with_reducible refine gate_dst (N := 1) rfl ?_); refine box_event ?hg (N := 1) ?hd (cs := #[.slice A0_0 l0_0.length c0_0, .int .i64 a0_1, .bool a0_2, .int .i64 a0_3, .slice A0_4 l0_4.length c0_4, .int .i64 a0_5]) (t := 28) ?hr ?_; (case hd => rfl); (case hg => rfl); (case hr => first | (go_simp; done) | (go_simp; rfl)); intro gb246 hg w11 hbox hb; have n0_ := Aside0.mk (Kd.V_below (Kd.V_elderB (by (with_reducible repeat (first | apply Kd.V_alloc | apply Kd.V_drewN | apply Kd.V_drew)); exact HO0_4.out) gb246 (Nat.le_of_eq hg.symm)) hb); have n1_ := Aside0.mk (below_step (bH HB) hb); have n2_ := Aside0.mk (hbox); have n3_ := Aside0.mk ((by rw [hg]; exact (below_size (bH HB)) : w.heap.size ≤ gb246)); have n4_ := n3_; clear HO0_4; clear HB; have HO0_4 := n0_; have HB := n1_; have BK246 := n2_; have GW246 := n3_; have GE246 := n4_; clear n0_ n1_ n2_ n3_ n4_; clear hb hbox hg; have hcz12_0 : w11.cell? ⟨gb246, 0, none⟩ = some (.slice A0_0 l0_0.length c0_0) := (blk_cell BK246.out 0).trans rfl; have hcz12_1 : w11.cell? ⟨gb246, 1, none⟩ = some (.int .i64 a0_1) := (blk_cell BK246.out 1).trans rfl; have hcz12_2 : w11.cell? ⟨gb246, 2, none⟩ = some (.bool a0_2) := (blk_cell BK246.out 2).trans rfl; have hcz12_3 : w11.cell? ⟨gb246, 3, none⟩ = some (.int .i64 a0_3) := (blk_cell BK246.out 3).trans rfl; have hcz12_4 : w11.cell? ⟨gb246, 4, none⟩ = some (.slice A0_4 l0_4.length c0_4) := (blk_cell BK246.out 4).trans rfl; have hcz12_5 : w11.cell? ⟨gb246, 5, none⟩ = some (.int .i64 a0_5) := (blk_cell BK246.out 5).trans rfl; have hfz12_0 := blk_frozen BK246.out 0; have hfz12_1 := blk_frozen BK246.out 1; have hfz12_2 := blk_frozen BK246.out 2; have hfz12_3 := blk_frozen BK246.out 3; have hfz12_4 := blk_frozen BK246.out 4; have hfz12_5 := blk_frozen BK246.out 5)); try go_wp2_with (first | ((with_reducible refine gate_dst (N := 1) rfl ?_); refine box_event ?hg (N := 1) ?hd (cs := #[.slice A0_0 l0_0.length c0_0, .int .i64 a0_1, .bool a0_2, .int .i64 a0_3, .slice A0_4 l0_4.length c0_4, .int .i64 a0_5]) (t := 28) ?hr ?_; (case hd => rfl); (case hg => rfl); (case hr => first | (go_simp; done) | (go_simp; rfl)); intro gb246 hg w11 hbox hb; have n0_ := Aside0.mk (Kd.V_below (Kd.V_elderB (by (with_reducible repeat (first | apply Kd.V_alloc | apply Kd.V_drewN | apply Kd.V_drew)); exact HO0_4.out) gb246 (Nat.le_of_eq hg.symm)) hb); have n1_ := Aside0.mk (below_step (bH HB) hb); have n2_ := Aside0.mk (hbox); have n3_ := Aside0.mk ((by rw [hg]; exact (below_size (bH HB)) : w.heap.size ≤ gb246)); have n4_ := n3_; clear HO0_4; clear HB; have HO0_4 := n0_; have HB := n1_; have BK246 := n2_; have GW246 := n3_; have GE246 := n4_; clear n0_ n1_ n2_ n3_ n4_; clear hb hbox hg; have hcz12_0 : w11.cell? ⟨gb246, 0, none⟩ = some (.slice A0_0 l0_0.length c0_0) := (blk_cell BK246.out 0).trans rfl; have hcz12_1 : w11.cell? ⟨gb246, 1, none⟩ = some (.int .i64 a0_1) := (blk_cell BK246.out 1).trans rfl; have hcz12_2 : w11.cell? ⟨gb246, 2, none⟩ = some (.bool a0_2) := (blk_cell BK246.out 2).trans rfl; have hcz12_3 : w11.cell? ⟨gb246, 3, none⟩ = some (.int .i64 a0_3) := (blk_cell BK246.out 3).trans rfl; have hcz12_4 : w11.cell? ⟨gb246, 4, none⟩ = some (.slice A0_4 l0_4.length c0_4) := (blk_cell BK246.out 4).trans rfl; have hcz12_5 : w11.cell? ⟨gb246, 5, none⟩ = some (.int .i64 a0_5) := (blk_cell BK246.out 5).trans rfl; have hfz12_0 := blk_frozen BK246.out 0; have hfz12_1 := blk_frozen BK246.out 1; have hfz12_2 := blk_frozen BK246.out 2; have hfz12_3 := blk_frozen BK246.out 3; have hfz12_4 := blk_frozen BK246.out 4; have hfz12_5 := blk_frozen BK246.out 5)))
  go_ret2
  exact ⟨_, by first | rfl | (simp [errW_none, errW_some] <;> rfl) | (simp [*, errW_none, errW_some] <;> rfl), Kd.V_nil _ _ _ _ _, bH HB⟩

end Go.Proofs.Ytglmfnaofpbpfaa.P

namespace Go.Proofs.Ytglmfnaofpbpfaa.Fv
set_option linter.unusedVariables false
set_option linter.unusedSimpArgs false
open Go.RowKit Go.Proofs.Ytglmfnaofpbpfaa.P Go.Proofs.Ytglmfnaofpbpfaa.C Go.Proofs.YtglmfnaofpbpfaaW.PrintWords Go.Proofs.YtglmfnaofpbpfaaW.PrintLast Go.Proofs.YtglmfnaofpbpfaaW.PrintMore

def toT (s : M) : List Int × Int × Bool × Int × List S48 × Int := (s.took, s.last, s.fin, (s.all : Int), s.L, s.e)
/-- What holds of the machine at any time: what was taken are bytes, and no more than came. -/
def okM (s : M) : Prop := (∀ c ∈ s.took, 0 ≤ c ∧ c ≤ 255) ∧ s.took.length ≤ s.all ∧ s.L.length ≤ s.all
theorem okM_next (q : Int) (L : List S48) (a : Nat) (t : List Int) (h : ∀ c ∈ t, 0 ≤ c ∧ c ≤ 255) (ht : t.length ≤ a) (hL : L.length + 1 ≤ a) : okM (nextM q L a t) := by
  have h1 : ∀ z : Int, okM ⟨t, q, false, a, L, z⟩ := fun z => ⟨h, ht, by show L.length ≤ a; omega⟩
  unfold nextM
  split
  · exact h1 _
  · split
    · exact h1 _
    · split
      · exact h1 _
      · split
        · exact h1 _
        · split
          · exact ⟨by simp, Nat.zero_le _, by show (L ++ [_]).length ≤ a; rw [List.length_append]; exact hL⟩
          · exact h1 _
theorem okM_step (s : M) (c : Int) (h : okM s) (hc : 0 ≤ c ∧ c ≤ 255) : okM (stepM s c) := by
  obtain ⟨h1, h2, h3⟩ := h
  have hone : ∀ x ∈ [c], 0 ≤ x ∧ x ≤ 255 := fun x hx => by simp at hx; subst hx; exact hc
  have ha : ∀ z f, okM ⟨s.took, s.last, f, s.all + 1, s.L, z⟩ := fun z f => ⟨h1, Nat.le_succ_of_le h2, Nat.le_succ_of_le h3⟩
  have hb : ∀ z f, okM ⟨[c], s.last, f, s.all + 1, s.L, z⟩ := fun z f => ⟨hone, by show 1 ≤ s.all + 1; omega, Nat.le_succ_of_le h3⟩
  unfold stepM
  split
  · split
    · exact ha _ _
    · split
      · split
        · exact ha _ _
        · exact ha _ _
      · split
        · split
          · exact hb _ _
          · split
            · exact hb _ _
            · exact hb _ _
        · refine okM_next _ _ _ _ (fun x hx => ?_) (by rw [List.length_append, one_len]; omega) (by omega)
          rcases List.mem_append.1 hx with hx | hx
          · exact h1 x hx
          · exact hone x hx
  · exact ⟨h1, h2, h3⟩
theorem step_all (s : M) (c : Int) : (stepM s c).all ≤ s.all + 1 := by
  unfold stepM nextM
  repeat' split
  all_goals first | exact Nat.le_refl _ | exact Nat.le_succ _

theorem next_ev (q : Int) (L : List S48) (a : Nat) (t : List Int) (ht : ∀ c ∈ t, 0 ≤ c ∧ c ≤ 255) (htl : t.length ≤ 1300) (h2 : 2 ≤ t.length) (hL : L.length ≤ 1300) :
    Ev (fun k => (lapidaryref01_Get.f k t 1).bind fun bt337 => if bt337.2.2 = 10 then some (t, q, false, (a : Int), L, (0 : Int)) else if bt337.2.2 = 0 then (if bt337.1 > 1048576 then some (t, q, false, (a : Int), L, (3 : Int)) else if (t.length : Int) < wrap64 (wrap64 (bt337.2.1 + wrap64 bt337.1) + 4) then some (t, q, false, (a : Int), L, (0 : Int)) else
      (lapidaryref02_Check.f k t).bind fun bt340 => if bt340.2 = 0 then (if L.length < 4398046511104 then (if 0 < (t.length : Int) then (if 0 ≤ bt337.2.1 then (if bt337.2.1 ≤ (bt340.1.length : Int) then (lapidaryref00_Copy.f (bt340.1.drop bt337.2.1.toNat)).bind fun t353 => (if L.length < 4398046511104 then some (([] : List Int), wrap64 (rd t 0), false, (a : Int), L ++ [(⟨wrap64 (rd t 0), t353⟩ : S48)], (0 : Int)) else none) else none) else none) else none) else none) else some (t, q, false, (a : Int), L, bt340.2)) else some (t, q, false, (a : Int), L, bt337.2.2))
      (toT (nextM q L a t)) := by
  have hg := rget_ev t ht (by omega) 1 (by omega)
  have hgl := gv_len (t.drop 1) 0 0
  have hr0 : rd t 0 = t.getD 0 0 := rfl
  have ht0 : 0 ≤ t.getD 0 0 ∧ t.getD 0 0 ≤ 255 := by
    have := ht _ (List.getElem_mem (show 0 < t.length by omega))
    simpa [List.getD, List.getElem?_eq_getElem (show 0 < t.length by omega)] using this
  unfold nextM
  rw [List.length_drop] at hgl
  generalize gv (t.drop 1) 0 0 = g at *
  obtain ⟨n, m, e⟩ := g
  by_cases he : e = 0
  · subst he
    have hm := hgl (by show (0 : Int) ≠ 10; omega)
    simp only at hm
    clear hgl
    rw [gR_ok] at hg
    refine Ev.bind hg ?_
    clear hg
    simp only [if_neg (show ¬ ((0 : Int) = 10) by omega), if_true, ne_eq, not_true_eq_false, if_false]
    by_cases hn : n > 1048576
    · simp only [if_pos (show (n : Int) > 1048576 by omega), if_pos hn]
      exact Ev.now _
    · have hb1 : 1 + m + n ≤ 100000000 := by omega
      have hck := rcheck_ev t ht (by omega)
      simp only [if_neg (show ¬ ((n : Int) > 1048576) by omega), if_neg hn, w64 (x := (n : Int)) (by omega) (by omega), wp2 (1 + m) n hb1, wp4 (1 + m + n) hb1]
      by_cases hl : t.length < 1 + m + n + 4
      · simp only [if_pos (show (t.length : Int) < ((1 + m + n + 4 : Nat) : Int) by omega), if_pos hl]
        exact Ev.now _
      · simp only [if_neg (show ¬ ((t.length : Int) < ((1 + m + n + 4 : Nat) : Int)) by omega), if_neg hl]
        refine Ev.bind hck ?_
        clear hck
        by_cases hc : (chkV t).2 = 0
        · have hfst : (chkV t).1.length = t.length - 4 := by
            rw [chkV_fst t (t.length - 4) (by omega) hc, List.length_take]
            omega
          simp only [if_pos hc, if_pos (show L.length < 4398046511104 by omega), if_pos (show (0 : Int) < (t.length : Int) by omega), if_pos (show (0 : Int) ≤ ((1 + m : Nat) : Int) by omega), hfst, if_pos (show ((1 + m : Nat) : Int) ≤ ((t.length - 4 : Nat) : Int) by omega), Int.toNat_natCast, hr0, w64 (x := t.getD 0 0) (by omega) (by omega)]
          have hcp : lapidaryref00_Copy.f ((chkV t).1.drop (1 + m)) = some ((chkV t).1.drop (1 + m)) := by
            unfold lapidaryref00_Copy.f
            rw [if_pos (by rw [List.length_nil, List.length_drop]; omega), List.nil_append]
          simp only [hcp, Option.bind_some]
          exact Ev.now _
        · simp only [if_neg hc]
          exact Ev.now _
  · rw [gR_err _ _ _ _ he] at hg
    refine Ev.bind hg ?_
    by_cases h10 : e = 10
    · simp only [if_pos h10]
      exact Ev.now _
    · simp only [if_neg h10, if_neg he, ne_eq, he, not_false_eq_true, if_true]
      exact Ev.now _

theorem step_ev (s : M) (c : Int) (h : okM s) (hc : 0 ≤ c ∧ c ≤ 255) (ha : s.all ≤ 1250) : Ev (fun k => lapidaryref03_Step.f k s.took s.last s.fin (s.all : Int) s.L s.e c) (toT (stepM s c)) := by
  obtain ⟨took, last, fin, all, L, e⟩ := s
  obtain ⟨h1, h2, h3⟩ := h
  simp only at h1 h2 h3 ha ⊢
  unfold lapidaryref03_Step.f stepM
  by_cases he : e = 0
  · simp only [if_pos he, nx all (by omega)]
    by_cases hf : fin = true
    · simp only [if_pos hf]
      exact Ev.now _
    · have hff : fin = false := by simpa using hf
      subst hff
      subst he
      simp only [Bool.false_eq_true, if_false]
      by_cases h5 : all < 5
      · have hr : rd [76, 80, 68, 89, 1] (all : Int) = hdB.getD all 0 := rfl
        simp only [if_pos (show ((all + 1 : Nat) : Int) ≤ 5 by omega), Option.bind_some, pv all (by omega), if_pos (show (0 : Int) ≤ (all : Int) by omega), hr, if_pos h5]
        rw [if_pos (show (all : Int) < (([76, 80, 68, 89, 1] : List Int).length : Int) by show (all : Int) < 5; omega)]
        by_cases hx : c = hdB.getD all 0
        · simp only [if_pos hx]
          exact Ev.now _
        · simp only [if_neg hx]
          exact Ev.now _
      · simp only [if_neg (show ¬ (((all + 1 : Nat) : Int) ≤ 5) by omega), if_neg h5, List.length_nil, Nat.zero_add, List.nil_append, if_pos (show took.length < 140737488355328 by omega), Option.bind_some]
        cases took with
        | nil =>
          simp only [List.nil_append, one_len, if_pos (show ((1 : Nat) : Int) = 1 by omega), if_true, w64 (x := c) (by omega) (by omega)]
          by_cases h0 : c = 0
          · simp only [if_pos h0]
            exact Ev.now _
          · simp only [if_neg h0]
            by_cases hq : c ≤ last
            · simp only [if_pos hq, if_pos (show c ≤ last ∨ c > 9 from .inl hq)]
              exact Ev.now _
            · simp only [if_neg hq]
              by_cases h9 : c > 9
              · simp only [if_pos h9, if_pos (show c ≤ last ∨ c > 9 from .inr h9)]
                exact Ev.now _
              · simp only [if_neg h9, if_neg (show ¬ (c ≤ last ∨ c > 9) by omega)]
                exact Ev.now _
        | cons x u =>
          have hl : ((x :: u) ++ [c]).length = (x :: u).length + 1 := by rw [List.length_append, one_len]
          have hl1 : (x :: u).length = u.length + 1 := List.length_cons
          simp only [if_neg (show ¬ ((((x :: u) ++ [c]).length : Int) = 1) by omega), if_neg (show ¬ ((x :: u) = []) by simp)]
          exact next_ev last L (all + 1) ((x :: u) ++ [c]) (fun y hy => by
            rcases List.mem_append.1 hy with hy | hy
            · exact h1 y hy
            · simp at hy; subst hy; exact hc) (by omega) (by omega) (by omega)
  · simp only [if_neg he]
    exact Ev.now _

end Go.Proofs.Ytglmfnaofpbpfaa.Fv

namespace Go.Proofs.Ytglmfnaofpbpfaa.P
open Go.RowKit Go.Proofs.YtglmfnaofpbpfaaW.PrintWords Go.Proofs.YtglmfnaofpbpfaaW.PrintLast Go.Proofs.YtglmfnaofpbpfaaW.PrintMore Go.Proofs.Ytglmfnaofpbpfaa.X
attribute [local go_sem] max2_int min2_int max_two min_two max_three min_three max_four min_four   -- for this text's walks alone
set_option linter.unusedVariables false
set_option linter.unusedSimpArgs false

/-! ### lapidaryref04_Cut: function 9 -/
def lapidaryref04_Cut.l0 : Nat → List Int → List Int → List (List Int) → Int → Option ((List (List Int)))
 | 0, _, _, _, _ => none
 | k + 1, x0, x1, x5, x6 => if x6 < (x1.length : Int) then (if 0 ≤ x6 then (if 0 ≤ (mn (wrap64 (rd x1 x6)) (x0.length : Int)) then (if (mn (wrap64 (rd x1 x6)) (x0.length : Int)) ≤ (x0.length : Int) then (if x5.length < 5864062014805 then (lapidaryref04_Cut.l0 k (x0.drop ((mn (wrap64 (rd x1 x6)) (x0.length : Int)) : Int).toNat) x1 (x5 ++ [(x0.take ((mn (wrap64 (rd x1 x6)) (x0.length : Int)) : Int).toNat)]) (wrap64 (x6 + 1))) else (none)) else (none)) else (none)) else (none)) else (if x5.length < 5864062014805 then (some (x5 ++ [x0])) else (none))
def lapidaryref04_Cut.f (k : Nat) (l0 : List Int) (l1 : List Int) : Option ((List (List Int))) := lapidaryref04_Cut.l0 k l0 l1 ([] : List (List Int)) 0
theorem lapidaryref04_Cut.mono_l : ∀ k, (∀ y0 y1 y2 y3, LeO (lapidaryref04_Cut.l0 k y0 y1 y2 y3) (lapidaryref04_Cut.l0 (k + 1) y0 y1 y2 y3))
 | 0 => fun _ _ _ _ r h => by simp [lapidaryref04_Cut.l0] at h
 | k + 1 => by
  have ih0 := lapidaryref04_Cut.mono_l k
  ·intro y0 y1 y2 y3
   unfold lapidaryref04_Cut.l0
   repeat' first
   | (with_reducible exact ih0 _ _ _ _)
   | (with_reducible exact LeO.refl _)
   | (with_reducible exact LeO.none _)
   | (with_reducible refine LeO.ite ?_ ?_)
   | (with_reducible refine LeO.bind ?_ (fun _ => ?_))
   | exact ih0 _ _ _ _
   | exact LeO.none _
   | refine LeO.ite ?_ ?_
   | refine LeO.bind ?_ (fun _ => ?_)
theorem lapidaryref04_Cut.mono : ∀ a0 a1 k, LeO (lapidaryref04_Cut.f k a0 a1) (lapidaryref04_Cut.f (k + 1) a0 a1) := by
 intro a0 a1 k
 have ih0 := lapidaryref04_Cut.mono_l k
 unfold lapidaryref04_Cut.f
 repeat' first
   | (with_reducible exact ih0 _ _ _ _)
   | (with_reducible exact LeO.refl _)
   | (with_reducible exact LeO.none _)
   | (with_reducible refine LeO.ite ?_ ?_)
   | (with_reducible refine LeO.bind ?_ (fun _ => ?_))
   | exact ih0 _ _ _ _
   | exact LeO.none _
   | refine LeO.ite ?_ ?_
   | refine LeO.bind ?_ (fun _ => ?_)
set_option maxHeartbeats 8000000 in
set_option maxRecDepth 100000 in
theorem lapidaryref04_Cut.calls (k : Nat) (P0_ : Nat → Prop) (A0 : Option Addr) (c0 : Nat) (l0 : List Int) (A1 : Option Addr) (c1 : Nat) (l1 : List Int) (r : List (List Int)) (w : World) (hs0 : Kd.V (Kd.int .u8) 5 w w.heap.size (fun k_ => P0_ k_) (.slice A0 l0.length c0) l0) (hr1 : Kd.C (Kd.int .u8) w A1 l1.length l1) (hc1 : l1.length ≤ c1) (h : lapidaryref04_Cut.f k l0 l1 = some r) :
  Calls Try.prog 9 #[.slice A0 l0.length c0, .slice A1 l1.length c1] w fun e w' => ∃ v0_ : Value, e = .returned (v0_) ∧ Kd.N (Kd.slice 5 (Kd.int .u8)) 22 w' w.heap.size (fun k_ => (P0_ k_ ∨ w.heap.size ≤ k_)) v0_ r ∧ Below w.heap.size w w' := by
 have HO0 := Aside0.mk (show Kd.V (Kd.int .u8) 5 w w.heap.size (fun k_ => (P0_ k_ ∨ w.heap.size ≤ k_)) (.slice A0 l0.length c0) l0 from Kd.V_mono hs0 (fun k_ hk => .inl hk))
 have HR1 := Aside0.mk hr1
 have HC1 := Aside0.mk hc1
 clear hr1 hc1
 have HB := Aside0.mk (Below.refl w.heap.size w)
 have H : (lapidaryref04_Cut.l0 k l0 l1 ([] : List (List Int)) 0) = some r := h
 clear h
 have H' := Aside0.mk H
 clear H
 go_enter Try.func9, Try.ntmps9
 go_wp2
 go_loopg [0, 5, 6] k (fun kq v0 v5 v6 w' => ∃ (x0_1 : List Int) (x5_1 : List (List Int)) (x6_1 : Int), v6 = .int .i64 x6_1 ∧ Aside0 (lapidaryref04_Cut.l0 kq x0_1 l1 x5_1 x6_1 = some r) ∧ Aside0 (kq ≤ k) ∧ Aside0 (Kd.V (Kd.int .u8) 5 w' w.heap.size (fun k_ => (P0_ k_ ∨ w.heap.size ≤ k_) ∧ some k_ ≠ (v5 : Value).ownBlock) v0 x0_1) ∧ Aside0 (Kd.N (Kd.slice 5 (Kd.int .u8)) 22 w' w.heap.size (fun k_ => (P0_ k_ ∨ w.heap.size ≤ k_)) v5 x5_1) ∧ Aside0 (Below w.heap.size w w'))
 case atStart => exact ⟨(l0), (([] : List (List Int))), (0), (by first | rfl | (simp; done) | (simp [*]; done)), H', ⟨Nat.le_refl _⟩, ⟨by (with_reducible repeat (first | apply Kd.V_alloc | apply Kd.V_drewN | apply Kd.V_drew)); exact Kd.V_mono HO0.out (fun _ hk => ⟨hk, (by simp [Value.ownBlock])⟩)⟩, ⟨by first | exact Kd.S_nil _ _ _ _ _ | exact Kd.N_nil _ _ _ _ _ | exact Kd.V_nil _ _ _ _ _ | exact Kd.Q_nil _ _ _ _ _ | exact Kd.R_nil _ _ _ _ _⟩, ⟨ bH HB⟩⟩
 case round =>
  clear H'
  try clear c1
  try clear p2
  obtain ⟨x0_1, x5_1, x6_1, rfl, HA, HK1, HO_0, HO_5, HB⟩ := hrel
  cases gk with
  | zero => exact absurd HA.out (by simp [lapidaryref04_Cut.l0])
  | succ k1 =>
   have H := HA.out
   clear HA
   simp only [lapidaryref04_Cut.l0] at H
   by_cases c3 : x6_1 < (l1.length : Int)
   ·rw [if_pos c3] at H
    have c3b0 : decide (x6_1 < (l1.length : Int)) = true := decide_eq_true c3
    clear c3
    by_cases c4 : 0 ≤ x6_1
    ·rw [if_pos c4] at H
     have c4b0 : decide (0 ≤ x6_1) = true := decide_eq_true c4
     clear c4
     obtain ⟨ji5, hji5⟩ : ∃ j_ : Int, (mn (wrap64 (rd l1 x6_1)) (x0_1.length : Int)) = j_ := ⟨_, rfl⟩
     replace H : (if 0 ≤ (ji5) then (if (ji5) ≤ (x0_1.length : Int) then (if x5_1.length < 5864062014805 then (lapidaryref04_Cut.l0 k1 (x0_1.drop ((ji5) : Int).toNat) l1 (x5_1 ++ [(x0_1.take ((ji5) : Int).toNat)]) (wrap64 (x6_1 + 1))) else (none)) else (none)) else (none)) = some r := by first | (rw [hji5] at H; exact H) | (simp only [hji5] at H ⊢; exact H)
     have hji5_ : (if (x0_1.length : Int) < (wrap64 (rd l1 x6_1)) then (x0_1.length : Int) else (wrap64 (rd l1 x6_1))) = ji5 := hji5
     by_cases c6 : 0 ≤ (ji5)
     ·rw [if_pos c6] at H
      have c6b0 := eq_true c6
      have c6b1 : decide (0 ≤ (ji5)) = true := decide_eq_true c6
      clear c6
      by_cases c7 : (ji5) ≤ (x0_1.length : Int)
      ·rw [if_pos c7] at H
       have c7b0 := eq_true c7
       have c7b1 : decide ((ji5) ≤ (x0_1.length : Int)) = true := decide_eq_true c7
       clear c7
       obtain ⟨y140, hy140⟩ : ∃ y_ : List Int, y_ = (x0_1.take ((ji5) : Int).toNat) := ⟨_, rfl⟩
       replace H : (if x5_1.length < 5864062014805 then (lapidaryref04_Cut.l0 k1 (x0_1.drop ((ji5) : Int).toNat) l1 (x5_1 ++ [y140]) (wrap64 (x6_1 + 1))) else (none)) = some r := by first | (rw [hy140]; with_reducible exact H) | (have H2_ := (Option.bind_some _ _).symm.trans H; rw [hy140]; with_reducible exact H2_) | (have H2_ := (Option.bind_some _ _).symm.trans H; with_reducible exact H2_) | with_reducible exact H | (rw [hy140]; exact H) | exact H
       have Ny140 := Aside0.mk hy140
       clear hy140
       by_cases c8 : x5_1.length < 5864062014805
       ·rw [if_pos c8] at H
        have LMc8 := Aside0.mk c8
        clear c8
        obtain ⟨y145, hy145⟩ : ∃ y_ : List (List Int), y_ = (x5_1 ++ [y140]) := ⟨_, rfl⟩
        replace H : (lapidaryref04_Cut.l0 k1 (x0_1.drop ((ji5) : Int).toNat) l1 y145 (wrap64 (x6_1 + 1))) = some r := by first | (rw [hy145]; with_reducible exact H) | (have H2_ := (Option.bind_some _ _).symm.trans H; rw [hy145]; with_reducible exact H2_) | (have H2_ := (Option.bind_some _ _).symm.trans H; with_reducible exact H2_) | with_reducible exact H | (rw [hy145]; exact H) | exact H
        have Ny145 := Aside0.mk hy145
        clear hy145
        have c9b0 := eq_true (of_decide_eq_true (by first | (with_reducible assumption) | assumption) : 0 ≤ (ji5))
        have c10b0 := eq_true (of_decide_eq_true (by first | (with_reducible assumption) | assumption) : (ji5) ≤ (x0_1.length : Int))
        obtain ⟨y148, hy148⟩ : ∃ y_ : List Int, y_ = (x0_1.drop ((ji5) : Int).toNat) := ⟨_, rfl⟩
        replace H : (lapidaryref04_Cut.l0 k1 y148 l1 y145 (wrap64 (x6_1 + 1))) = some r := by first | (rw [hy148]; with_reducible exact H) | (have H2_ := (Option.bind_some _ _).symm.trans H; rw [hy148]; with_reducible exact H2_) | (have H2_ := (Option.bind_some _ _).symm.trans H; with_reducible exact H2_) | with_reducible exact H | (rw [hy148]; exact H) | exact H
        have Ny148 := Aside0.mk hy148
        clear hy148
        have H' := Aside0.mk H
        clear H
        have p139 : 0 ≤ (x6_1 : Int) := of_decide_eq_true (by first | (with_reducible assumption) | assumption)
        have q139 : x6_1 < (l1.length : Int) := of_decide_eq_true (by first | (with_reducible assumption) | assumption)
        obtain ⟨ad139, e139, hx139_0⟩ := Kd.at_int HR1.out x6_1 p139 q139
        cases e139
        replace hx139_0 := (HB.out.cell (World.block_lt_of_cell? w _ hx139_0)).trans hx139_0
        replace p139 := eq_true p139
        replace q139 := eq_true q139
        obtain ⟨Ao11, co11, eo11⟩ := Kd.V_slice HO_0.out
        subst eo11
        have q12 : ((ji5) : Int) ≤ ((x0_1.length : Int) : Int) := of_decide_eq_true (by first | (with_reducible assumption) | assumption)
        obtain ⟨i012, hi012, _, hsz12, _⟩ := info_parts info5
        have hroom12 : x0_1.length ≤ co11 := (Kd.V_reads' HO_0.out).2.1
        have hC12 : Kd.F (Kd.int .u8) _ _ Ao11 x0_1.length x0_1 := (Kd.V_at (base := w.heap.size) HO_0.out).2.2
        have hcut12 := cut_to (P := Try.prog) 22 5 .i64 Try.underlying22 hi012 Ao11 x0_1.length co11 (ji5) (of_decide_eq_true (by first | (with_reducible assumption) | assumption)) q12 hroom12
        have hr12 := Kd.F_take (m := ((ji5) : Int).toNat) hC12 (by omega)
        have hy12 : y140.length = ((ji5) : Int).toNat := (by rw [Ny140.out, List.length_take]; omega)
        rw [← Ny140.out] at hr12
        rw [← hy12] at hcut12
        have HO144 := Aside0.mk (show Kd.V (Kd.int .u8) 5 _ w.heap.size _ (.slice Ao11 y140.length co11) y140 from Kd.V_mk (by omega) hr12)
        have HC144 := Aside0.mk (show y140.length ≤ co11 from by omega)
        clear hr12 hC12 hroom12 hi012 hsz12
        have KY12 := Aside0.mk hy12
        clear hy12
        replace q12 := eq_true q12
        go_wp2_with (first | ((with_reducible refine gate_builtin (b := .append) (xs := #[.tmp 22, .tmp 26]) rfl ?_); at_builtin; refine Kd.N_append (Kd.slice 5 (Kd.int .u8)) (w0 := w) w.heap.size rfl (.tmp 22) (.tmp 26) 29 22 (.slice none 0 0) 24 rfl Try.underlying29 info22 rfl (by decide) (by omega) u5 x5_1 y140 [.slice Ao11 y140.length co11] (fun k_ => (P0_ k_ ∨ w.heap.size ≤ k_)) (fun k_ => ((fun k_ => (P0_ k_ ∨ w.heap.size ≤ k_))) k_ ∧ some k_ ≠ (u5 : Value).ownBlock) rfl rfl ?aP (fun _ hk => hk) ?aF ?aO ?aB ?aS ?aL ?_; (case aP => exact (Kd.FK_slice_mk (Kd.V_reads' (Kd.V_mono (ok' := (fun k_ => ((fun k_ => (P0_ k_ ∨ w.heap.size ≤ k_))) k_ ∧ some k_ ≠ (u5 : Value).ownBlock)) (HO144.out) (fun k_ hk => ⟨hk.1, hk.2⟩))).2.1 (Kd.V_F (Kd.V_mono (ok' := (fun k_ => ((fun k_ => (P0_ k_ ∨ w.heap.size ≤ k_))) k_ ∧ some k_ ≠ (u5 : Value).ownBlock)) (HO144.out) (fun k_ hk => ⟨hk.1, hk.2⟩))))); (case aB => exact (bH HB)); (case aF => exact (fun k_ hk => (.inr (Nat.le_trans (below_size (bH HB)) hk)))); (case aO => exact (by (with_reducible repeat (first | apply Kd.N_alloc | apply Kd.N_drewN | apply Kd.N_drew)); exact HO_5.out)); (case aS => exact (below_size (bH HB))); (case aL => have := LMc8.out; omega); intro v146 w13 ho hb hg hat; rw [← Ny145.out] at ho; have n0_ := Aside0.mk (Kd.V_afterv (ok := (fun k_ => (P0_ k_ ∨ w.heap.size ≤ k_))) (by (with_reducible repeat (first | apply Kd.V_alloc | apply Kd.V_drewN | apply Kd.V_drew)); exact HO_0.out) hg hat); have n1_ := Aside0.mk (Kd.V_afterv (ok := (fun k_ => (P0_ k_ ∨ w.heap.size ≤ k_))) (by (with_reducible repeat (first | apply Kd.V_alloc | apply Kd.V_drewN | apply Kd.V_drew)); exact HO144.out) hg hat); have n2_ := Aside0.mk (hb); have n3_ := Aside0.mk (ho); clear HO_0; clear HO144; clear HB; clear HO_5; have HO_0 := n0_; have HO144 := n1_; have HB := n2_; have HO147 := n3_; clear n0_ n1_ n2_ n3_; clear ho hb hg hat; have q14 : ((ji5) : Int) ≤ ((x0_1.length : Int) : Int) := of_decide_eq_true (by first | (with_reducible assumption) | assumption); obtain ⟨i014, hi014, _, hsz14, _⟩ := info_parts info5; have hroom14 : x0_1.length ≤ co11 := (Kd.V_reads' HO_0.out).2.1; have hC14 : Kd.F (Kd.int .u8) _ _ Ao11 x0_1.length x0_1 := (Kd.V_at (base := w.heap.size) HO_0.out).2.2; have q014 : (0 : Int) ≤ ((ji5) : Int) := of_decide_eq_true (by first | (with_reducible assumption) | assumption); have hcut14 := cut_from (P := Try.prog) 22 5 .i64 Try.underlying22 hi014 1 hsz14 Ao11 x0_1.length co11 (ji5) q014 q14; have hr14 := Kd.F_cut (m := ((ji5) : Int).toNat) (c := co11) hC14 (by omega) hroom14; obtain ⟨A14, hA14⟩ : ∃ A1, A1 = (if co11 = ((ji5) : Int).toNat then Ao11 else (Ao11 : Option Addr).map (·.add (((ji5) : Int).toNat * 1))) := ⟨_, rfl⟩; obtain ⟨c14, hc14⟩ : ∃ c1, c1 = co11 - ((ji5) : Int).toNat := ⟨_, rfl⟩; have hy14 : y148.length = x0_1.length - ((ji5) : Int).toNat := (by rw [Ny148.out, List.length_drop] <;> omega); rw [show (x0_1).drop ((ji5) : Int).toNat = y148 from Ny148.out.symm] at hr14; replace hr14 : Kd.F (Kd.int .u8) _ _ A14 y148.length y148 := (by rw [hA14]; exact hr14); rw [← hy14, ← hA14, ← hc14] at hcut14; have HO152 := Aside0.mk (show Kd.V (Kd.int .u8) 5 _ w.heap.size _ (.slice A14 y148.length c14) y148 from Kd.V_mk (by rw [hy14, hc14]; exact Nat.sub_le_sub_right hroom14 _) hr14); have HC152 := Aside0.mk (show y148.length ≤ c14 from by rw [hy14, hc14]; exact Nat.sub_le_sub_right hroom14 _); clear hr14 hC14 hroom14 hi014 hsz14 hc14; have KY14 := Aside0.mk hy14; have KA14 := Aside0.mk hA14; clear hy14 hA14; replace q14 := eq_true q14))
        go_roundg k1
        case measure => have := HK1.out; omega
        case rel => exact ⟨(y148), (y145), (wrap64 (x6_1 + 1)), (by first | rfl | (simp; done) | (simp [*]; done)), H', ⟨by have := HK1.out; omega⟩, ⟨by (with_reducible repeat (first | apply Kd.V_alloc | apply Kd.V_drewN | apply Kd.V_drew)); exact HO152.out⟩, ⟨by (with_reducible repeat (first | apply Kd.N_alloc | apply Kd.N_drewN | apply Kd.N_drew)); exact HO147.out⟩, ⟨ bH HB⟩⟩
       ·rw [if_neg c8] at H
        exact absurd H (by simp)
      ·rw [if_neg c7] at H
       exact absurd H (by simp)
     ·rw [if_neg c6] at H
      exact absurd H (by simp)
    ·rw [if_neg c4] at H
     exact absurd H (by simp)
   ·rw [if_neg c3] at H
    have c3b0 : decide (x6_1 < (l1.length : Int)) = false := decide_eq_false c3
    clear c3
    by_cases c15 : x5_1.length < 5864062014805
    ·rw [if_pos c15] at H
     have LMc15 := Aside0.mk c15
     clear c15
     obtain ⟨y153, hy153⟩ : ∃ y_ : List (List Int), y_ = (x5_1 ++ [x0_1]) := ⟨_, rfl⟩
     replace H : (some y153) = some r := by first | (rw [hy153]; with_reducible exact H) | (have H2_ := (Option.bind_some _ _).symm.trans H; rw [hy153]; with_reducible exact H2_) | (have H2_ := (Option.bind_some _ _).symm.trans H; with_reducible exact H2_) | with_reducible exact H | (rw [hy153]; exact H) | exact H
     have Ny153 := Aside0.mk hy153
     clear hy153
     obtain rfl := Option.some.inj H
     obtain ⟨Ao17, co17, eo17⟩ := Kd.V_slice HO_0.out
     subst eo17
     go_wp2_with (first | ((with_reducible refine gate_builtin (b := .append) (xs := #[.tmp 31, .tmp 33]) rfl ?_); at_builtin; refine Kd.N_append (Kd.slice 5 (Kd.int .u8)) (w0 := w) w.heap.size rfl (.tmp 31) (.tmp 33) 29 22 (.slice none 0 0) 24 rfl Try.underlying29 info22 rfl (by decide) (by omega) u5 x5_1 x0_1 [.slice Ao17 x0_1.length co17] (fun k_ => (P0_ k_ ∨ w.heap.size ≤ k_)) (fun k_ => ((fun k_ => (P0_ k_ ∨ w.heap.size ≤ k_))) k_ ∧ some k_ ≠ (u5 : Value).ownBlock) rfl rfl ?aP (fun _ hk => hk) ?aF ?aO ?aB ?aS ?aL ?_; (case aP => exact (Kd.FK_slice_mk (Kd.V_reads' (Kd.V_mono (ok' := (fun k_ => ((fun k_ => (P0_ k_ ∨ w.heap.size ≤ k_))) k_ ∧ some k_ ≠ (u5 : Value).ownBlock)) (HO_0.out) (fun k_ hk => ⟨hk.1, hk.2⟩))).2.1 (Kd.V_F (Kd.V_mono (ok' := (fun k_ => ((fun k_ => (P0_ k_ ∨ w.heap.size ≤ k_))) k_ ∧ some k_ ≠ (u5 : Value).ownBlock)) (HO_0.out) (fun k_ hk => ⟨hk.1, hk.2⟩))))); (case aB => exact (bH HB)); (case aF => exact (fun k_ hk => (.inr (Nat.le_trans (below_size (bH HB)) hk)))); (case aO => exact (by (with_reducible repeat (first | apply Kd.N_alloc | apply Kd.N_drewN | apply Kd.N_drew)); exact HO_5.out)); (case aS => exact (below_size (bH HB))); (case aL => have := LMc15.out; omega); intro v154 w16 ho hb hg hat; rw [← Ny153.out] at ho; have n0_ := Aside0.mk (Kd.V_afterv (ok := (fun k_ => (P0_ k_ ∨ w.heap.size ≤ k_))) (by (with_reducible repeat (first | apply Kd.V_alloc | apply Kd.V_drewN | apply Kd.V_drew)); exact HO_0.out) hg hat); have n1_ := Aside0.mk (hb); have n2_ := Aside0.mk (ho); clear HO_0; clear HB; clear HO_5; have HO_0 := n0_; have HB := n1_; have HO155 := n2_; clear n0_ n1_ n2_; clear ho hb hg hat))
     go_ret
     exact ⟨_, by first | rfl | (simp [errW_none, errW_some] <;> rfl) | (simp [*, errW_none, errW_some] <;> rfl), by (with_reducible repeat (first | apply Kd.N_alloc | apply Kd.N_drewN | apply Kd.N_drew)); exact HO155.out, bH HB⟩
    ·rw [if_neg c15] at H
     exact absurd H (by simp)

end Go.Proofs.Ytglmfnaofpbpfaa.P
