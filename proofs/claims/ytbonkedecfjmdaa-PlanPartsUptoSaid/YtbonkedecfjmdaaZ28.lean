/- What the chapter's example fixes: the walk. No condition. Written for this claim by a program of this session (a turned copy of the print): Go functions as Lean functions, and that the Go code comes to just these answers; or a statement proved out of them. No condition. Arguments that are structs, slices of structs, slices of slices: what their reading as data says of them, kind by kind, whatever the type. The document's arcs; how long a map is. No condition. The document's points of arcs: the same. No condition. -/
import Derived.Test.YtbonkedecfjmdaaZ24
import Derived.Test.YtbonkedecfjmdaaZ27
import Derived.Test.YtbonkedecfjmdaaZ26
import Derived.Test.YtbonkedecfjmdaaZ23
import Derived.Test.YtbonkedecfjmdaaZ2
import Derived.Test.YtbonkedecfjmdaaZ3
import Derived.Test.YtbonkedecfjmdaaZ5
import Derived.Test.YtbonkedecfjmdaaZ11
import Derived.Test.YtbonkedecfjmdaaRows
import Derived.Test.YtbonkedecfjmdaaZ1
import Derived.Deep.Slices
import Derived.Deep.Fields
import Derived.ChangeSame
import Derived.ProofKit
import Derived.KernelRfl
import Derived.Test.YtbonkedecfjmdaaZ22
import Derived.Test.YtbonkedecfjmdaaZ4

namespace Go.Proofs.Ytbonkedecfjmdaa.Pl
set_option linter.unusedVariables false
set_option linter.unusedSimpArgs false
open Go Go.RowKit Go.Proofs.Ytbonkedecfjmdaa.P Go.Proofs.YtbonkedecfjmdaaW.PrintWords Go.Proofs.YtbonkedecfjmdaaW.PrintLast Go.Proofs.YtbonkedecfjmdaaW.PrintMore
def oneM : List (List S27) := [[⟨0, 0, 0⟩, ⟨1, 0, 0⟩, ⟨0, 1, 0⟩, ⟨0, 0, 0⟩]]
theorem one_row {w : World} {g : Nat} {A : Option Addr} {c : Nat} {l : List Int} (h : w.cell? ⟨g, 0, none⟩ = some (.slice A l.length c)) (hl : l.length ≤ c) (hC : Kd.C (Kd.int .i64) w A l.length l) : Kd.C (Kd.slice 3 (Kd.int .i64)) w (some ⟨g, 0, none⟩) [l].length [l] :=
 ⟨rfl, by show 1 ≤ 9223372036854775807; decide, fun _ => ⟨_, rfl, fun j p hj => by
  cases j with
  | zero =>
   injection hj with hj
   subst hj
   refine ⟨[.slice A l.length c], rfl, ⟨A, c, rfl, hl, hC⟩, fun i u hu => ?_⟩
   cases i with
   | zero =>
    injection hu with hu
    subst hu
    exact h
   | succ i => cases hu
  | succ j => cases hj⟩⟩
set_option maxHeartbeats 8000000 in
set_option maxRecDepth 100000 in
theorem known_calls (w : World) : Calls Try.prog 9 #[] w fun e w' => e = .returned (.bool true) ∧ Below w.heap.size w w' := by
 have hu25 := Try.underlying25
 have hone := fun W => lw_one.calls oneM [[0]] [[0]] W rfl
 obtain ⟨KW, hKW⟩ : Ev (fun k => plan_Where.f k oneM [[0]] [[0]] 0 0 0) ([0], 0) := Ev.of (fun k => plan_Where.mono _ _ _ _ _ _ k) (k := 60) (by decide +kernel)
 obtain ⟨K1, hK1⟩ : Ev (fun k => plan_Check.f k oneM [[0]] [[0]]) 0 := Ev.of (fun k => plan_Check.mono _ _ _ k) (k := 60) (by decide +kernel)
 obtain ⟨K2, hK2⟩ : Ev (fun k => plan_Check.f k oneM [[-1]] [[0]]) 92 := Ev.of (fun k => plan_Check.mono _ _ _ k) (k := 60) (by decide +kernel)
 obtain ⟨K3, hK3⟩ : Ev (fun k => rf00_SameInts.f k [0] [0]) true := Ev.of (fun k => rf00_SameInts.mono _ _ k) (k := 60) (by decide +kernel)
 have hwhere := fun W A0 A1 A2 c0 c1 c2 q0 g0 q1 g1 q2 g2 => plan_Where.calls KW A0 c0 oneM A1 c1 [[0]] A2 c2 [[0]] 0 0 0 [0] 0 W q0 g0 q1 g1 q2 g2 (hKW KW (Nat.le_refl _))
 have hcheck := fun W A0 A1 A2 c0 c1 c2 q0 g0 q1 g1 q2 g2 => plan_Check.calls K1 A0 c0 oneM A1 c1 [[0]] A2 c2 [[0]] 0 W q0 g0 q1 g1 q2 g2 (hK1 K1 (Nat.le_refl _))
 have hcheck2 := fun W A0 A1 A2 c0 c1 c2 q0 g0 q1 g1 q2 g2 => plan_Check.calls K2 A0 c0 oneM A1 c1 [[-1]] A2 c2 [[0]] 92 W q0 g0 q1 g1 q2 g2 (hK2 K2 (Nat.le_refl _))
 have hsame := fun W A0 A1 c0 c1 q0 g0 q1 g1 => rf00_SameInts.calls K3 A0 c0 [0] A1 c1 [0] true W q0 g0 q1 g1 (hK3 K3 (Nat.le_refl _))
 clear hKW hK1 hK2 hK3
 generalize oneM = M at *
 go_enter Try.func9, Try.ntmps9
 go_upto_region 2 with (first | (go_at_call 30; refine (hone _).mono ?_; rintro e w1 ⟨v0, v1, v2, rfl, h0, h1, h2, hb1⟩; obtain ⟨A0, c0, e0⟩ := Kd.N_slice h0; subst e0; obtain ⟨A1, c1, e1⟩ := Kd.N_slice h1; subst e1; obtain ⟨A2, c2, e2⟩ := Kd.N_slice h2; subst e2) | ((with_reducible refine gate_dst (N := 1) rfl ?_); refine box_event ?hg (N := 1) ?hd (cs := #[.slice none 0 0, .slice none 0 0, .slice none 0 0]) (t := 25) ?hr ?_; (case hd => rfl); (case hg => rfl); (case hr => first | (go_simp; done) | (go_simp; rfl)); intro g1 hg w2 hbox hb2; have hge : w1.heap.size ≤ g1 := Nat.le_of_eq hg.symm; clear hg; have x0 : w2.cell? ⟨g1, 0, none⟩ = some (.slice none 0 0) := (blk_cell hbox 0).trans rfl; have x1 : w2.cell? ⟨g1, 1, none⟩ = some (.slice none 0 0) := (blk_cell hbox 1).trans rfl; have x2 : w2.cell? ⟨g1, 2, none⟩ = some (.slice none 0 0) := (blk_cell hbox 2).trans rfl; have f0 := blk_frozen hbox 0; have f1 := blk_frozen hbox 1; have f2 := blk_frozen hbox 2))
 clear x0 x1 x2 f0 f1 f2
 have hb1' := hb1
 have r0 := (Kd.N_reads' h0).2
 have r1 := (Kd.N_reads' h1).2
 have r2 := (Kd.N_reads' h2).2
 clear h0 h1 h2
 have hg3 := blk_put (cs' := #[.slice A0 M.length c0, .slice A1 1 c1, .slice A2 1 c2]) (blk_put (blk_put hbox 0 (.slice A0 M.length c0) rfl) 1 (.slice A1 1 c1) rfl) 2 (.slice A2 1 c2) rfl
 have hb3 : Below w1.heap.size w1 (((w2.setCell ⟨g1, 0, none⟩ (.slice A0 M.length c0)).setCell ⟨g1, 1, none⟩ (.slice A1 1 c1)).setCell ⟨g1, 2, none⟩ (.slice A2 1 c2)) := below_set (below_set (below_set hb2 hge) hge) hge
 generalize ((w2.setCell ⟨g1, 0, none⟩ (.slice A0 M.length c0)).setCell ⟨g1, 1, none⟩ (.slice A1 1 c1)).setCell ⟨g1, 2, none⟩ (.slice A2 1 c2) = w3 at hg3 hb3 ⊢
 clear hbox hb2
 have x1 : w3.cell? ⟨g1, 1, none⟩ = some (.slice A1 1 c1) := (blk_cell hg3 1).trans rfl
 have f1 := blk_frozen hg3 1
 have hlt := blk_lt hg3
 have hne1 : g1 ≠ w3.heap.size := by omega
 have hne2 : g1 ≠ w3.heap.size + 1 := by omega
 go_upto_region 3 with (fail)
 clear x1 f1
 have hg4 := blk_put (cs' := #[.slice A0 M.length c0, .slice (some ⟨w3.heap.size + 1, 0, none⟩) 1 1, .slice A2 1 c2]) hg3 1 (.slice (some ⟨w3.heap.size + 1, 0, none⟩) 1 1) rfl
 have hb4 := below_set (v := .slice (some ⟨w3.heap.size + 1, 0, none⟩) 1 1) (j := 1) hb3 hge
 have s4 : (w3.setCell ⟨g1, 1, none⟩ (.slice (some ⟨w3.heap.size + 1, 0, none⟩) 1 1)).heap.size = w3.heap.size := by simp
 generalize w3.setCell ⟨g1, 1, none⟩ (.slice (some ⟨w3.heap.size + 1, 0, none⟩) 1 1) = w4 at hg4 hb4 s4 ⊢
 have hn4 := heap_alloc_new w4 (.cells #[.int .i64 (-1)] 3)
 have s5 : (w4.alloc (.cells #[.int .i64 (-1)] 3)).heap.size = w3.heap.size + 1 := by simp [s4]
 have hg5 := blk_alloc hg4 (.cells #[.int .i64 (-1)] 3)
 have hb5 := below_alloc hb4 (.cells #[.int .i64 (-1)] 3)
 rw [s4] at hn4
 generalize w4.alloc (.cells #[.int .i64 (-1)] 3) = w5 at hn4 s5 hg5 hb5 ⊢
 have hn5 := heap_alloc_new w5 (.cells #[.slice (some ⟨w3.heap.size, 0, none⟩) 1 1] 32)
 have hn4 := blk_alloc hn4 (.cells #[.slice (some ⟨w3.heap.size, 0, none⟩) 1 1] 32)
 have hg6 := blk_alloc hg5 (.cells #[.slice (some ⟨w3.heap.size, 0, none⟩) 1 1] 32)
 have hb6 := below_alloc hb5 (.cells #[.slice (some ⟨w3.heap.size, 0, none⟩) 1 1] 32)
 rw [s5] at hn5
 generalize w5.alloc (.cells #[.slice (some ⟨w3.heap.size, 0, none⟩) 1 1] 32) = w6 at hn4 hn5 hg6 hb6 ⊢
 have hi : Kd.C (Kd.int .i64) w6 (some ⟨w3.heap.size, 0, none⟩) [(-1 : Int)].length [-1] := C_ints w6 w3.heap.size [-1] 3 (0, 0) hn4 (by decide)
 have hr6 : Kd.C (Kd.slice 3 (Kd.int .i64)) w6 (some ⟨w3.heap.size + 1, 0, none⟩) [[(-1 : Int)]].length [[-1]] := one_row ((blk_cell hn5 0).trans rfl) (Nat.le_refl _) hi
 have hm6 := Kd.C_below r0.2 hb6
 have hp6 := Kd.C_below r2.2 hb6
 have hcheck2' := fun W (h : Below w6.heap.size w6 W) => hcheck2 W A0 (some ⟨w3.heap.size + 1, 0, none⟩) A2 c0 1 c2 (Kd.C_below hm6 h) r0.1 (Kd.C_below hr6 h) (Nat.le_refl _) (Kd.C_below hp6 h) r2.1
 have hcell := fun W (h : Below w6.heap.size w6 W) => (show W.cell? ⟨g1, 0, none⟩ = some (.slice A0 M.length c0) ∧ W.cell? ⟨g1, 1, none⟩ = some (.slice (some ⟨w3.heap.size + 1, 0, none⟩) 1 1) ∧ W.cell? ⟨g1, 2, none⟩ = some (.slice A2 1 c2) from ⟨(blk_cell (blk_below hg6 h) 0).trans rfl, (blk_cell (blk_below hg6 h) 1).trans rfl, (blk_cell (blk_below hg6 h) 2).trans rfl⟩)
 have hB6 := below_step hb1' hb6
 clear hcheck2 hn4 hn5 hi hr6 hm6 hp6 hg6 hb6 s4 s5 hg4 hb4 hg5 hb5 hg3 hb3 hlt hne1 hne2 hge r0 r1 r2 hb1 hb1'
 go_upto_region 4 with (first | (go_at_call 30; refine (hone _).mono ?_; rintro e w7 ⟨v0, v1, v2, rfl, h0, h1, h2, hb7⟩; obtain ⟨B0, d0, e0⟩ := Kd.N_slice h0; subst e0; obtain ⟨B1, d1, e1⟩ := Kd.N_slice h1; subst e1; obtain ⟨B2, d2, e2⟩ := Kd.N_slice h2; subst e2) | (go_at_call 10; refine (hwhere _ _ _ _ _ _ _ (Kd.N_reads' h0).2.2 (Kd.N_reads' h0).2.1 (Kd.N_reads' h1).2.2 (Kd.N_reads' h1).2.1 (Kd.N_reads' h2).2.2 (Kd.N_reads' h2).2.1).mono ?_; rintro e w8 ⟨v8, rfl, hR8, hb8⟩; obtain ⟨C8, f8, e8⟩ := Kd.R_slice hR8; subst e8))
 have hB8 := below_step hb7 hb8
 have hW8 := below_step hB6 hB8
 have hC8 := (Kd.R_reads' hR8).2
 clear h0 h1 h2 hb7 hb8 hR8
 have hsame' := fun (W : World) (h : Below w8.heap.size w8 W) (g : Nat) (hg : W.heap[g]? = some (.cells #[.int .i64 0] 3 (0, 0))) => hsame W C8 (some ⟨g, 0, none⟩) f8 1 (Kd.C_below hC8.2 h) hC8.1 (C_ints W g [0] 3 (0, 0) hg (by decide)) (Nat.le_refl _)
 clear hsame hwhere hC8
 go_wp2_with (first | (go_at_call 30; refine (hone _).mono ?_; rintro e w9 ⟨v0, v1, v2, rfl, h0, h1, h2, hb9⟩; obtain ⟨D0, d0', e0⟩ := Kd.N_slice h0; subst e0; obtain ⟨D1, d1', e1⟩ := Kd.N_slice h1; subst e1; obtain ⟨D2, d2', e2⟩ := Kd.N_slice h2; subst e2) | (go_at_call 31; refine (hcheck _ _ _ _ _ _ _ (Kd.N_reads' h0).2.2 (Kd.N_reads' h0).2.1 (Kd.N_reads' h1).2.2 (Kd.N_reads' h1).2.1 (Kd.N_reads' h2).2.2 (Kd.N_reads' h2).2.1).mono ?_; rintro e w10 ⟨rfl, hb10⟩; clear h0 h1 h2; have hB10 := below_step hb9 hb10; have hB10' := below_step hB8 hB10; obtain ⟨y0, y1, y2⟩ := hcell _ hB10') | (go_at_call 31; refine (hcheck2' _ hB10').mono ?_; rintro e w11 ⟨rfl, hb11⟩; clear y0 y1 y2; have hB11 := below_step hB10 hb11) | (go_at_call 11; refine (hsame' _ (below_alloc hB11 _) w11.heap.size (heap_alloc_new _ _)).mono ?_; rintro e w12 ⟨rfl, hd12⟩))
 go_ret
 exact ⟨rfl, below_step hW8 (below_step (below_alloc hB11 _) hd12.below)⟩
end Go.Proofs.Ytbonkedecfjmdaa.Pl

namespace Go.Proofs.Ytbonkedecfjmdaa.P
open Go.RowKit Go.Proofs.YtbonkedecfjmdaaW.PrintWords Go.Proofs.YtbonkedecfjmdaaW.PrintLast Go.Proofs.YtbonkedecfjmdaaW.PrintMore Go.Proofs.Ytbonkedecfjmdaa.X
attribute [local go_sem] max2_int min2_int max_two min_two max_three min_three max_four min_four add64_0 add64_1 add64
set_option linter.unusedVariables false
set_option linter.unusedSimpArgs false
def lw_known.f  : Option (Bool) := some true
set_option maxHeartbeats 8000000 in
set_option maxRecDepth 100000 in
theorem lw_known.calls  (r : Bool) (w : World) (h : lw_known.f  = some r) :
  Calls Try.prog 9 #[] w fun e w' => e = .returned (.bool r) ∧ Below w.heap.size w w' := by
 unfold lw_known.f at h
 obtain rfl := Option.some.inj h
 exact Pl.known_calls w

def lw_PlanParts.f (k : Nat) (l0_0 : List (List (S27))) (l0_1 : List (List Int)) (l0_2 : List (List Int)) : Option (Bool) := (lw_long.f k l0_0 l0_1 l0_2).bind fun t731 => (if t731 = true then ((lw_known.f).bind fun t732 => (some t732)) else ((plan_Closes.f l0_0 l0_1 l0_2).bind fun t733 => ((rf17_Closes.f k l0_0 l0_1 l0_2).bind fun t734 => (if (t733 == t734) = true then ((plan_Fills.f l0_0 l0_1 l0_2).bind fun t735 => ((rf17_Fills.f k l0_0 l0_1 l0_2).bind fun t736 => (if (t735 == t736) = true then ((lw_known.f).bind fun t737 => (some t737)) else (none)))) else (none)))))
theorem lw_PlanParts.mono : ∀ a0 a1 a2 k, LeO (lw_PlanParts.f k a0 a1 a2) (lw_PlanParts.f (k + 1) a0 a1 a2) := by
 intro a0 a1 a2 k
 unfold lw_PlanParts.f
 repeat' first
   | (with_reducible exact lw_long.mono _ _ _ _)
   | (with_reducible exact rf17_Closes.mono _ _ _ _)
   | (with_reducible exact rf17_Fills.mono _ _ _ _)
   | (with_reducible exact LeO.refl _)
   | (with_reducible exact LeO.none _)
   | (with_reducible refine LeO.ite ?_ ?_)
   | (with_reducible refine LeO.bind ?_ (fun _ => ?_))
   | exact lw_long.mono _ _ _ _
   | exact rf17_Closes.mono _ _ _ _
   | exact rf17_Fills.mono _ _ _ _
   | exact LeO.none _
   | refine LeO.ite ?_ ?_
   | refine LeO.bind ?_ (fun _ => ?_)
def lw_PlanParts.T3 : Bool × List (List Nat × List Nat) := (true, [([], []), ([0], [0]), ([], []), ([2, 1], [2]), ([1, 3], [1, 3]), ([4, 3], [4]), ([5], [5]), ([6, 5, 5], [5, 6]), ([5], [5]), ([8, 7, 5], [5, 8]), ([7, 9, 5], [5, 7, 9]), ([5, 10], [5, 10]), ([11, 9], [11]), ([12, 12], [12]), ([12, 13], [12, 13]), ([14, 13, 0, 1, 2, 3, 4, 5, 6, 7, 8, 9, 10, 11, 12, 13, 14], [14])])
def lw_PlanParts.B3 : List Nat := [0, 1, 0, 7, 15, 31, 63, 127, 63, 511, 1023, 2047, 4095, 8191, 16383, 32767]
theorem lw_PlanParts.tab3 : rtab .any (opsOf Try.f4 3) = lw_PlanParts.T3 := by kernel_rfl
theorem lw_PlanParts.bits3 : waitsOk lw_PlanParts.T3.2 lw_PlanParts.B3 = true := by kernel_rfl
set_option maxHeartbeats 8000000 in
set_option maxRecDepth 100000 in
theorem lw_PlanParts.calls (k : Nat) (A0_0 : Option Addr) (c0_0 : Nat) (l0_0 : List (List (S27))) (A0_1 : Option Addr) (c0_1 : Nat) (l0_1 : List (List Int)) (A0_2 : Option Addr) (c0_2 : Nat) (l0_2 : List (List Int)) (r : Bool) (w : World) (hr0_0 : Kd.C (Kd.slice 27 k27) w A0_0 l0_0.length l0_0) (hc0_0 : l0_0.length ≤ c0_0) (hr0_1 : Kd.C (Kd.slice 3 (Kd.int .i64)) w A0_1 l0_1.length l0_1) (hc0_1 : l0_1.length ≤ c0_1) (hr0_2 : Kd.C (Kd.slice 3 (Kd.int .i64)) w A0_2 l0_2.length l0_2) (hc0_2 : l0_2.length ≤ c0_2) (h : lw_PlanParts.f k l0_0 l0_1 l0_2 = some r) :
  Calls Try.prog 4 #[.agg #[.slice A0_0 l0_0.length c0_0, .slice A0_1 l0_1.length c0_1, .slice A0_2 l0_2.length c0_2]] w fun e w' => e = .returned (.bool r) ∧ Below w.heap.size w w' := by
 have hu25 := Try.underlying25
 have HR0_0 := AM hr0_0
 have HC0_0 := AM hc0_0
 clear hr0_0 hc0_0
 have HR0_1 := AM hr0_1
 have HC0_1 := AM hc0_1
 clear hr0_1 hc0_1
 have HR0_2 := AM hr0_2
 have HC0_2 := AM hc0_2
 clear hr0_2 hc0_2
 have HB := AM (Below.refl w.heap.size w)
 have H : ((lw_long.f k l0_0 l0_1 l0_2).bind fun t731 => (if t731 = true then ((lw_known.f).bind fun t732 => (some t732)) else ((plan_Closes.f l0_0 l0_1 l0_2).bind fun t733 => ((rf17_Closes.f k l0_0 l0_1 l0_2).bind fun t734 => (if (t733 == t734) = true then ((plan_Fills.f l0_0 l0_1 l0_2).bind fun t735 => ((rf17_Fills.f k l0_0 l0_1 l0_2).bind fun t736 => (if (t735 == t736) = true then ((lw_known.f).bind fun t737 => (some t737)) else (none)))) else (none)))))) = some r := h
 clear h
 obtain ⟨t731, A2, H⟩ := bS H
 have HC3 := AM H
 clear H
 go_enter Try.func4, Try.ntmps4
 go_upto_if 4 with (first | ((with_reducible refine gate_dst (N := 1) rfl ?_); refine bE 1 #[.slice A0_0 l0_0.length c0_0, .slice A0_1 l0_1.length c0_1, .slice A0_2 l0_2.length c0_2] 25 ?_; intro gb730 hg w4 hbox hb; have BK730 := AM hbox; have GW730 := kG HB hg; replace HB := kH HB hb; have GE730 := GW730; clear hb hbox hg; obtain ⟨hcz5_0, hcz5_1, hcz5_2, hfz5_0, hfz5_1, hfz5_2⟩ := c3 BK730) | ((with_reducible refine gate_callee (f := 7) rfl ?_); refine gL (some 4) Try.func7 #[.agg #[.slice A0_0 l0_0.length c0_0, .slice A0_1 l0_1.length c0_1, .slice A0_2 l0_2.length c0_2]] ?_; (with_reducible refine (lw_long.calls k _ _ l0_0 _ _ l0_1 _ _ l0_2 t731 _ ?side1 ?side2 ?side3 ?side4 ?side5 ?side6 A2.out).mono ?_); (case side1 => exact sC HR0_0 HB); (case side2 => exact HC0_0.out); (case side3 => exact sC HR0_1 HB); (case side4 => exact HC0_1.out); (case side5 => exact sC HR0_2 HB); (case side6 => exact HC0_2.out); rintro e w6 ⟨rfl, hb⟩; refine ⟨_, rfl, ?_⟩; replace BK730 := kB BK730 hb; replace HB := kH HB hb; (try clear hb); (try clear hb2); (try clear hk); (try clear hi)))
 (try simp only [Act.put, List.setIfInBounds_toArray, List.set_cons_zero, List.set_cons_succ])
 have H := HC3.out; clear HC3
 by_cases c7 : t731 = true
 ·subst c7
  have H1 : ((lw_known.f).bind fun t732 => (some t732)) = some r := by rw [if_pos rfl] at H; exact H
  clear H; have H := H1; clear H1
  obtain ⟨t732, A8, H⟩ := bS H
  obtain rfl := Option.some.inj H
  go_wp2_with (first | ((with_reducible refine gate_callee (f := 9) rfl ?_); refine gL (some 5) Try.func9 #[] ?_; (with_reducible refine (lw_known.calls  t732 _ A8.out).mono ?_); rintro e w9 ⟨rfl, hb⟩; refine ⟨_, rfl, ?_⟩; replace BK730 := kB BK730 hb; replace HB := kH HB hb; (try clear hb); (try clear hb2); (try clear hk); (try clear hi)))
  go_ret
  exact ⟨rE, bH HB⟩
 ·replace c7 := Bool.eq_false_iff.mpr c7
  subst c7
  have H1 : ((plan_Closes.f l0_0 l0_1 l0_2).bind fun t733 => ((rf17_Closes.f k l0_0 l0_1 l0_2).bind fun t734 => (if (t733 == t734) = true then ((plan_Fills.f l0_0 l0_1 l0_2).bind fun t735 => ((rf17_Fills.f k l0_0 l0_1 l0_2).bind fun t736 => (if (t735 == t736) = true then ((lw_known.f).bind fun t737 => (some t737)) else (none)))) else (none)))) = some r := by rw [if_neg (show ¬ (false = true) by decide)] at H; exact H
  clear H; have H := H1; clear H1
  obtain ⟨t733, A10, H⟩ := bS H
  obtain ⟨t734, A11, H⟩ := bS H
  by_cases c12 : (t733 == t734) = true
  ·rw [if_pos c12] at H
   have c12b0 : (t733 == t734) = true := c12
   (try (have c12b1 : decide (t733 = t734) = true := by simpa using c12))
   (try (have c12b2 : (t733 == t734) = true := by simpa using c12))
   clear c12
   (first | rw [c12b0] | (simp only [i64_w, i32_w]; rw [c12b0]) | skip)
   obtain ⟨t735, A13, H⟩ := bS H
   obtain ⟨t736, A14, H⟩ := bS H
   by_cases c15 : (t735 == t736) = true
   ·rw [if_pos c15] at H
    have c15b0 : (t735 == t736) = true := c15
    (try (have c15b1 : decide (t735 = t736) = true := by simpa using c15))
    (try (have c15b2 : (t735 == t736) = true := by simpa using c15))
    clear c15
    obtain ⟨t737, A16, H⟩ := bS H
    obtain rfl := Option.some.inj H
    try go_wp2
    replace BK730 := dB BK730; replace HB := dH HB
    refine sP 16 (S := fun w' => w'.cell? ⟨gb730, 0, none⟩ = some (.slice A0_0 l0_0.length c0_0) ∧ w'.cell? ⟨gb730, 1, none⟩ = some (.slice A0_1 l0_1.length c0_1) ∧ w'.cell? ⟨gb730, 2, none⟩ = some (.slice A0_2 l0_2.length c0_2)) (ds := []) ⟨bC BK730, bC BK730, bC BK730⟩ fun hHeld => ?_; refine with_tabW lw_PlanParts.tab3 lw_PlanParts.bits3 (fun HT_ HW_ => ?_)
    generalize w6.drew = w17 at BK730 HB hHeld ⊢
    refine tQ 0 (some 6) HT_ HW_ hHeld ?_; refine tQ 2 (some 8) HT_ HW_ hHeld ?_
    refine oQ 1 (some 7) HT_ rfl fun K hK => ?_
    refine gO Try.func13 #[.agg #[.slice A0_0 l0_0.length c0_0, .slice A0_1 l0_1.length c0_1, .slice A0_2 l0_2.length c0_2]] ?_
    with_reducible refine (plan_Closes.calls _ _ l0_0 _ _ l0_1 _ _ l0_2 t733 _ ?side1 ?side2 ?side3 ?side4 ?side5 ?side6 A10.out).mono ?_
    (case side1 => exact sC HR0_0 HB)
    (case side2 => exact HC0_0.out)
    (case side3 => exact sC HR0_1 HB)
    (case side4 => exact HC0_1.out)
    (case side5 => exact sC HR0_2 HB)
    (case side6 => exact HC0_2.out)
    rintro e w18 ⟨rfl, hb⟩
    refine ⟨_, rfl, ?_⟩
    replace BK730 := kB BK730 hb; replace HB := kH HB hb; (try clear hb); (try clear hb2); (try clear hk); (try clear hi)
    refine hK.out _ _ ⟨bC BK730, bC BK730, bC BK730⟩ (fun hHeld => ?_)
    clear hK K; refine nP (some 7) ?_
    refine oQ 3 (some 9) HT_ rfl fun K hK => ?_
    refine gO Try.func14 #[.agg #[.slice A0_0 l0_0.length c0_0, .slice A0_1 l0_1.length c0_1, .slice A0_2 l0_2.length c0_2]] ?_
    with_reducible refine (rf17_Closes.calls k _ _ l0_0 _ _ l0_1 _ _ l0_2 t734 _ ?side1 ?side2 ?side3 ?side4 ?side5 ?side6 A11.out).mono ?_
    (case side1 => exact sC HR0_0 HB)
    (case side2 => exact HC0_0.out)
    (case side3 => exact sC HR0_1 HB)
    (case side4 => exact HC0_1.out)
    (case side5 => exact sC HR0_2 HB)
    (case side6 => exact HC0_2.out)
    rintro e w19 ⟨rfl, hb⟩
    refine ⟨_, rfl, ?_⟩
    replace BK730 := kB BK730 hb; replace HB := kH HB hb; (try clear hb); (try clear hb2); (try clear hk); (try clear hi)
    refine hK.out _ _ ⟨bC BK730, bC BK730, bC BK730⟩ (fun hHeld => ?_)
    clear hK K; refine nP (some 9) ?_; refine pQ 4 (some 10) HT_ ?_; refine pQ 5 (some 11) HT_ ?_; refine tQ 6 (some 12) HT_ HW_ hHeld ?_; refine tQ 8 (some 14) HT_ HW_ hHeld ?_
    refine oQ 7 (some 13) HT_ rfl fun K hK => ?_
    refine gO Try.func15 #[.agg #[.slice A0_0 l0_0.length c0_0, .slice A0_1 l0_1.length c0_1, .slice A0_2 l0_2.length c0_2]] ?_
    with_reducible refine (plan_Fills.calls _ _ l0_0 _ _ l0_1 _ _ l0_2 t735 _ ?side1 ?side2 ?side3 ?side4 ?side5 ?side6 A13.out).mono ?_
    (case side1 => exact sC HR0_0 HB)
    (case side2 => exact HC0_0.out)
    (case side3 => exact sC HR0_1 HB)
    (case side4 => exact HC0_1.out)
    (case side5 => exact sC HR0_2 HB)
    (case side6 => exact HC0_2.out)
    rintro e w20 ⟨rfl, hb⟩
    refine ⟨_, rfl, ?_⟩
    replace BK730 := kB BK730 hb; replace HB := kH HB hb; (try clear hb); (try clear hb2); (try clear hk); (try clear hi)
    refine hK.out _ _ ⟨bC BK730, bC BK730, bC BK730⟩ (fun hHeld => ?_)
    clear hK K; refine nP (some 13) ?_
    refine oQ 9 (some 15) HT_ rfl fun K hK => ?_
    refine gO Try.func16 #[.agg #[.slice A0_0 l0_0.length c0_0, .slice A0_1 l0_1.length c0_1, .slice A0_2 l0_2.length c0_2]] ?_
    with_reducible refine (rf17_Fills.calls k _ _ l0_0 _ _ l0_1 _ _ l0_2 t736 _ ?side1 ?side2 ?side3 ?side4 ?side5 ?side6 A14.out).mono ?_
    (case side1 => exact sC HR0_0 HB)
    (case side2 => exact HC0_0.out)
    (case side3 => exact sC HR0_1 HB)
    (case side4 => exact HC0_1.out)
    (case side5 => exact sC HR0_2 HB)
    (case side6 => exact HC0_2.out)
    rintro e w21 ⟨rfl, hb⟩
    refine ⟨_, rfl, ?_⟩
    replace BK730 := kB BK730 hb; replace HB := kH HB hb; (try clear hb); (try clear hb2); (try clear hk); (try clear hi)
    refine hK.out _ _ ⟨bC BK730, bC BK730, bC BK730⟩ (fun hHeld => ?_)
    clear hK K; refine nP (some 15) ?_; refine pQ 10 (some 16) HT_ ?_; refine pQ 11 (some 17) HT_ ?_; refine pQ 12 (some 18) HT_ ?_
    refine oQ 13 (some 19) HT_ rfl fun K hK => ?_
    refine gO Try.func9 #[] ?_
    with_reducible refine (lw_known.calls  t737 _ A16.out).mono ?_
    rintro e w22 ⟨rfl, hb⟩
    refine ⟨_, rfl, ?_⟩
    replace BK730 := kB BK730 hb; replace HB := kH HB hb; (try clear hb); (try clear hb2); (try clear hk); (try clear hi)
    refine hK.out _ _ ⟨bC BK730, bC BK730, bC BK730⟩ (fun hHeld => ?_)
    clear hK K; refine nP (some 19) ?_; refine pQ 14 (some 20) HT_ ?_; refine pQ 15 (some 2) HT_ ?_
    refine done_ (done_of HT_.out (by kernel_rfl)) ?_
    try go_wp2
    go_ret
    exact ⟨rE, bH HB⟩
   ·rw [if_neg c15] at H
    exact absurd H (by simp)
  ·rw [if_neg c12] at H
   exact absurd H (by simp)
end Go.Proofs.Ytbonkedecfjmdaa.P

namespace Go.Proofs.Ytbonkedecfjmdaa.O
set_option linter.unusedVariables false
set_option linter.unusedSimpArgs false
open Go.RowKit Go.Deep Go.ChangeShapes Go.WideShapes Go.Proofs.YtbonkedecfjmdaaW.PrintWords
def Opens {α : Type} (P : Program) (t : TypeId) (d : Kd α) (ok : α → Prop) (mu : α → Nat) : Prop :=
 ∀ (H : Type) (enc : TypeId × Value → H) (w : World) (fuel : Nat) (cs : List Value) (x : DataW H × List MemPlace),
  DataW.trod enc P w 0 (fun _ => true) true fuel t cs = some x → ∃ y : α, d.K w y cs ∧ ok y ∧ mu y ≤ Rows.uptoBulk x.1
theorem bulk_one {H : Type} (d : DataW H) : 1 ≤ Rows.uptoBulk d := by
 cases d with
 | lit l => cases l <;> simp [Rows.uptoBulk]
 | _ => simp [Rows.uptoBulk]
theorem opens_int {P : Program} {t : TypeId} {k : IntKind} (ht : P.underlying t = some (.int k)) : Opens P t (Kd.int k) (fun n => (Lit.int k n).wf = true) (fun _ => 1) := by
 intro H enc w fuel cs x h
 obtain ⟨n, rfl, rfl, hw⟩ := DataW.trod_int ht h
 exact ⟨n, rfl, hw, bulk_one _⟩
theorem bulk_range {H : Type} (D : Nat → DataW H) (m : Nat → Nat) : ∀ n, (∀ i, i < n → m i ≤ Rows.uptoBulk (D i)) → ((List.range n).map m).sum ≤ Rows.uptoBulkAll ((List.range n).map D) := by
 have app : ∀ l r : List (DataW H), Rows.uptoBulkAll (l ++ r) = Rows.uptoBulkAll l + Rows.uptoBulkAll r := by
  intro l r
  induction l with
  | nil => simp [Rows.uptoBulkAll]
  | cons x l ih => simp only [List.cons_append, Rows.uptoBulkAll, ih]; omega
 intro n
 induction n with
 | zero => intro _; simp
 | succ n ih =>
  intro h
  have h1 := ih fun i hi => h i (by omega)
  have h2 := h n (by omega)
  rw [List.range_succ, List.map_append, List.map_append, app, List.sum_append]
  simp only [List.map_cons, List.map_nil, List.sum_cons, List.sum_nil, Rows.uptoBulkAll]
  omega
theorem opens_slice {α : Type} [Inhabited α] {P : Program} {t e : TypeId} {d : Kd α} {ok : α → Prop} {mu : α → Nat} (ht : P.underlying t = some (.slice e)) (hs : d.sz = P.cellsOf e) (h : Opens P e d ok mu) :
  Opens P t (Kd.slice e d) (fun l => l.length ≤ maxLen ∧ ∀ x ∈ l, ok x) (fun l => 1 + (l.map mu).sum) := by
 intro H enc w fuel cs x hx
 rcases open_slice ht hx with ⟨rfl, rfl⟩ | ⟨a, len, cap, m, n, D, Pl, rfl, hb, hl, hm, hmm, rfl, hi⟩
 ·exact ⟨[], ⟨none, 0, rfl, Nat.le_refl _, rfl, by simp, fun h0 => absurd h0 (by simp)⟩, ⟨by simp, by simp⟩, by simpa using bulk_one _⟩
 ·have hle : len ≤ m := by simp at hmm; omega
  obtain ⟨f, hf⟩ := choose_lt (α := α) (n := len) (p := fun i y => ∃ cs', w.cells? 0 (a.add (i * P.cellsOf e)) (P.cellsOf e) = some cs' ∧ d.K w y cs' ∧ ok y ∧ mu y ≤ Rows.uptoBulk (D i)) (fun i hil => by
   obtain ⟨cs', hc, hy⟩ := hi i (by omega)
   obtain ⟨y, hK, ho, hmu⟩ := h H enc w n cs' _ hy
   exact ⟨y, cs', hc, hK, ho, hmu⟩)
  refine ⟨(List.range len).map f, ⟨some a, cap, by simp, by simpa using hl, by simp, by (have : maxLen ≤ 9223372036854775807 := by (unfold maxLen; omega)); (simp; omega), fun h0 => ⟨a, rfl, fun j p hj => ?_⟩⟩, ⟨by simp; omega, fun x hx => ?_⟩, ?_⟩
  ·rw [List.getElem?_map] at hj
   have hjl : j < len := by
    by_cases hjl : j < len
    ·exact hjl
    ·rw [List.getElem?_eq_none (by simp; omega)] at hj; simp at hj
   rw [List.getElem?_range hjl] at hj
   simp only [Option.map_some, Option.some.injEq] at hj
   subst hj
   obtain ⟨cs', hc, hK, ho, hmu⟩ := hf j hjl
   obtain ⟨_, hlen, hat⟩ := World.cells?_some hc
   refine ⟨cs', by rw [hs]; exact hlen, hK, fun i u hu => ?_⟩
   have hil : i < P.cellsOf e := by
    have := (List.getElem?_eq_some_iff.1 hu).1; omega
   rw [hs, ← Go.Deep.add_add, hat i hil, hu]
  ·simp only [List.mem_map, List.mem_range] at hx
   obtain ⟨i, hil, rfl⟩ := hx
   obtain ⟨_, _, _, ho, _⟩ := hf i hil
   exact ho
  ·have := bulk_range D (fun i => mu (f i)) len fun i hil => (hf i hil).choose_spec.2.2.2
   simp only [List.map_map, Rows.uptoBulk]
   have e1 : (List.range len).map (mu ∘ f) = (List.range len).map fun i => mu (f i) := rfl
   rw [e1]
   omega
theorem opens_struct3 {α β γ δ : Type} {P : Program} {t : TypeId} {f0 f1 f2 : Field} {d0 : Kd α} {d1 : Kd β} {d2 : Kd γ} {ok0 : α → Prop} {ok1 : β → Prop} {ok2 : γ → Prop} {mu0 : α → Nat} {mu1 : β → Nat} {mu2 : γ → Nat}
  (hs : P.underlying t = some (.struct #[f0, f1, f2])) (hone : oneCellFields P #[f0, f1, f2] = true) (hC : P.cellsOf t = 3) (h0 : Opens P f0.type d0 ok0 mu0) (h1 : Opens P f1.type d1 ok1 mu1) (h2 : Opens P f2.type d2 ok2 mu2)
  (mk : α → β → γ → δ) (d : Kd δ) (hd : ∀ w y0 y1 y2 c0 c1 c2, d0.K w y0 [c0] → d1.K w y1 [c1] → d2.K w y2 [c2] → d.K w (mk y0 y1 y2) [c0, c1, c2])
  (ok : δ → Prop) (hok : ∀ y0 y1 y2, ok0 y0 → ok1 y1 → ok2 y2 → ok (mk y0 y1 y2)) (mu : δ → Nat) (hmu : ∀ y0 y1 y2, mu (mk y0 y1 y2) ≤ 1 + mu0 y0 + mu1 y1 + mu2 y2) : Opens P t d ok mu := by
 intro H enc w fuel cs x hx
 obtain ⟨xs, n, _, rfl, hcl, hlen, hg⟩ := DataW.trod_struct hs hx
 rw [hC] at hcl
 match cs, hcl with
 | [c0, c1, c2], _ =>
  obtain ⟨o0, k0⟩ := hone_of hone 0 f0 rfl
  obtain ⟨o1, k1⟩ := hone_of hone 1 f1 rfl
  obtain ⟨o2, k2⟩ := hone_of hone 2 f2 rfl
  match xs, hlen with
  | [y0, y1, y2], _ =>
   have g0 : DataW.trod enc P w 0 (fun _ => true) true n f0.type [c0] = some y0 := by simpa [o0, k0] using hg 0 f0 rfl
   have g1 : DataW.trod enc P w 0 (fun _ => true) true n f1.type [c1] = some y1 := by simpa [o1, k1] using hg 1 f1 rfl
   have g2 : DataW.trod enc P w 0 (fun _ => true) true n f2.type [c2] = some y2 := by simpa [o2, k2] using hg 2 f2 rfl
   obtain ⟨z0, K0, O0, M0⟩ := h0 H enc w n _ _ g0
   obtain ⟨z1, K1, O1, M1⟩ := h1 H enc w n _ _ g1
   obtain ⟨z2, K2, O2, M2⟩ := h2 H enc w n _ _ g2
   refine ⟨mk z0 z1 z2, hd w _ _ _ _ _ _ K0 K1 K2, hok _ _ _ O0 O1 O2, Nat.le_trans (hmu _ _ _) ?_⟩
   simp only [List.map_cons, List.map_nil, Rows.uptoBulk, Rows.uptoBulkAll]
   omega
theorem opens_struct2 {α β δ : Type} {P : Program} {t : TypeId} {f0 f1 : Field} {d0 : Kd α} {d1 : Kd β} {ok0 : α → Prop} {ok1 : β → Prop} {mu0 : α → Nat} {mu1 : β → Nat}
  (hs : P.underlying t = some (.struct #[f0, f1])) (hone : oneCellFields P #[f0, f1] = true) (hC : P.cellsOf t = 2) (h0 : Opens P f0.type d0 ok0 mu0) (h1 : Opens P f1.type d1 ok1 mu1)
  (mk : α → β → δ) (d : Kd δ) (hd : ∀ w y0 y1 c0 c1, d0.K w y0 [c0] → d1.K w y1 [c1] → d.K w (mk y0 y1) [c0, c1])
  (ok : δ → Prop) (hok : ∀ y0 y1, ok0 y0 → ok1 y1 → ok (mk y0 y1)) (mu : δ → Nat) (hmu : ∀ y0 y1, mu (mk y0 y1) ≤ 1 + mu0 y0 + mu1 y1) : Opens P t d ok mu := by
 intro H enc w fuel cs x hx
 obtain ⟨xs, n, _, rfl, hcl, hlen, hg⟩ := DataW.trod_struct hs hx
 rw [hC] at hcl
 match cs, hcl with
 | [c0, c1], _ =>
  obtain ⟨o0, k0⟩ := hone_of hone 0 f0 rfl
  obtain ⟨o1, k1⟩ := hone_of hone 1 f1 rfl
  match xs, hlen with
  | [y0, y1], _ =>
   have g0 : DataW.trod enc P w 0 (fun _ => true) true n f0.type [c0] = some y0 := by simpa [o0, k0] using hg 0 f0 rfl
   have g1 : DataW.trod enc P w 0 (fun _ => true) true n f1.type [c1] = some y1 := by simpa [o1, k1] using hg 1 f1 rfl
   obtain ⟨z0, K0, O0, M0⟩ := h0 H enc w n _ _ g0
   obtain ⟨z1, K1, O1, M1⟩ := h1 H enc w n _ _ g1
   refine ⟨mk z0 z1, hd w _ _ _ _ K0 K1, hok _ _ O0 O1, Nat.le_trans (hmu _ _) ?_⟩
   simp only [List.map_cons, List.map_nil, Rows.uptoBulk, Rows.uptoBulkAll]
   omega
end Go.Proofs.Ytbonkedecfjmdaa.O

namespace Go.Proofs.Ytbonkedecfjmdaa.P
open Go.RowKit Go.Proofs.Ytbonkedecfjmdaa.O Go.Proofs.YtbonkedecfjmdaaW.PrintWords Go.Proofs.YtbonkedecfjmdaaW.PrintLast
instance inh27 : Inhabited S27 := ⟨z27⟩
def ok27 (x : S27) : Prop := (fun n => (Lit.int .i64 n).wf = true) x.f0 ∧ (fun n => (Lit.int .i64 n).wf = true) x.f1 ∧ (fun n => (Lit.int .i64 n).wf = true) x.f2
def mu27 (x : S27) : Nat := 1 + (fun _ => 1) x.f0 + (fun _ => 1) x.f1 + (fun _ => 1) x.f2
theorem op27 : Opens Try.prog 27 k27 ok27 mu27 :=
 opens_struct3 Try.underlying27 (by kernel_rfl) (by kernel_rfl) (opens_int Try.underlying3) (opens_int Try.underlying3) (opens_int Try.underlying3) (fun a b c => ⟨a, b, c⟩) k27 (fun w y0 y1 y2 c0 c1 c2 h0 h1 h2 => ⟨[c0], [c1, c2], rfl, h0, ⟨[c1], [c2], rfl, h1, h2⟩⟩) ok27 (fun _ _ _ a b c => ⟨a, b, c⟩) mu27 (fun _ _ _ => Nat.le_refl _)
instance inh25 : Inhabited S25 := ⟨z25⟩
def ok25 (x : S25) : Prop := (fun l => l.length ≤ maxLen ∧ ∀ x ∈ l, (fun l => l.length ≤ maxLen ∧ ∀ x ∈ l, ok27 x) x) x.f0 ∧ (fun l => l.length ≤ maxLen ∧ ∀ x ∈ l, (fun l => l.length ≤ maxLen ∧ ∀ x ∈ l, (fun n => (Lit.int .i64 n).wf = true) x) x) x.f1 ∧ (fun l => l.length ≤ maxLen ∧ ∀ x ∈ l, (fun l => l.length ≤ maxLen ∧ ∀ x ∈ l, (fun n => (Lit.int .i64 n).wf = true) x) x) x.f2
def mu25 (x : S25) : Nat := 1 + (fun l => 1 + (l.map (fun l => 1 + (l.map mu27).sum)).sum) x.f0 + (fun l => 1 + (l.map (fun l => 1 + (l.map (fun _ => 1)).sum)).sum) x.f1 + (fun l => 1 + (l.map (fun l => 1 + (l.map (fun _ => 1)).sum)).sum) x.f2
theorem op25 : Opens Try.prog 25 k25 ok25 mu25 :=
 opens_struct3 Try.underlying25 (by kernel_rfl) (by kernel_rfl) (opens_slice (e := 31) Try.underlying22 (by kernel_rfl) (opens_slice (e := 27) Try.underlying31 (by kernel_rfl) op27)) (opens_slice (e := 32) Try.underlying23 (by kernel_rfl) (opens_slice (e := 3) Try.underlying32 (by kernel_rfl) (opens_int Try.underlying3))) (opens_slice (e := 32) Try.underlying23 (by kernel_rfl) (opens_slice (e := 3) Try.underlying32 (by kernel_rfl) (opens_int Try.underlying3))) (fun a b c => ⟨a, b, c⟩) k25 (fun w y0 y1 y2 c0 c1 c2 h0 h1 h2 => ⟨[c0], [c1, c2], rfl, h0, ⟨[c1], [c2], rfl, h1, h2⟩⟩) ok25 (fun _ _ _ a b c => ⟨a, b, c⟩) mu25 (fun _ _ _ => Nat.le_refl _)
end Go.Proofs.Ytbonkedecfjmdaa.P

namespace Go.Proofs.Ytbonkedecfjmdaa.Gr
set_option linter.unusedVariables false
set_option linter.unusedSimpArgs false
open Go.RowKit Go.Proofs.Ytbonkedecfjmdaa.P Go.Proofs.YtbonkedecfjmdaaW.PrintWords Go.Proofs.YtbonkedecfjmdaaW.PrintLast Go.Proofs.YtbonkedecfjmdaaW.PrintMore
theorem rarc_l0 (x : Int) (a : List Pt) (hl : a.length < 5864062014805) : ∀ (n i : Nat) (b : List Pt), i + n = a.length → b.length ≤ i →
  Ev (fun k => rf16_Arc.l0 k x b a (i : Int)) (b ++ (if x < 0 then a.reverse else a).drop i, 0) := by
 intro n
 induction n with
 | zero =>
  intro i b hi _
  refine Ev.step (fun k => rf16_Arc.l0.eq_2 _ _ _ _ _) ?_
  simp only [if_neg (show ¬ ((i : Int) < (a.length : Int)) by omega)]
  rw [List.drop_of_length_le (by split <;> (first | omega | (rw [List.length_reverse]; omega))), List.append_nil]
  exact Ev.now _
 | succ n ih =>
  intro i b hi hb
  have h1 : i < a.length := by omega
  refine Ev.step (fun k => rf16_Arc.l0.eq_2 _ _ _ _ _) ?_
  by_cases h : x < 0
  ·have I := ih (i + 1) (b ++ [a[a.length - 1 - i]]) (by omega) (by rw [List.length_append, List.length_singleton]; omega)
   have e : wrap64 (wrap64 ((a.length : Int) - 1) - (i : Int)) = ((a.length - 1 - i : Nat) : Int) := by
    rw [w64_id (x := (a.length : Int) - 1) (by omega) (by omega), w64_id (by omega) (by omega)]; omega
   simp only [if_pos h] at I ⊢
   simp only [if_pos (show (i : Int) < (a.length : Int) by omega), e, if_pos (show (0 : Int) ≤ ((a.length - 1 - i : Nat) : Int) by omega), if_pos (show ((a.length - 1 - i : Nat) : Int) < (a.length : Int) by omega), if_pos (show b.length < 5864062014805 by omega), rdp a (a.length - 1 - i) (by omega), w64_id (x := (i : Int) + 1) (by omega) (by omega)]
   have I' : (b ++ [a[a.length - 1 - i]]) ++ a.reverse.drop (i + 1) = b ++ a.reverse.drop i := by
    rw [List.drop_eq_getElem_cons (show i < a.reverse.length by simpa using h1), List.getElem_reverse, List.append_assoc]; rfl
   rw [I'] at I
   exact I
  ·have I := ih (i + 1) (b ++ [a[i]]) (by omega) (by rw [List.length_append, List.length_singleton]; omega)
   simp only [if_neg h] at I ⊢
   simp only [if_pos (show (i : Int) < (a.length : Int) by omega), if_pos (show (0 : Int) ≤ (i : Int) by omega), if_pos (show b.length < 5864062014805 by omega), rdp a i h1, w64_id (x := (i : Int) + 1) (by omega) (by omega)]
   have I' : (b ++ [a[i]]) ++ a.drop (i + 1) = b ++ a.drop i := by
    rw [List.drop_eq_getElem_cons h1, List.append_assoc]; rfl
   rw [I'] at I
   exact I
theorem rarc_ev (m : List (List Pt)) (r p : List (List Int)) (n : Int) (h1 : -9223372036854775808 ≤ n) (h2 : n ≤ 9223372036854775807) (hm : ∀ x ∈ m, x.length < 5864062014805) :
  Ev (fun k => rf16_Arc.f k m r p n) (match arcB m n with | some l => (l, 0) | none => ([], 2)) := by
 have key : ∀ i : Nat, (n = (i : Int) ∨ n = -1 - (i : Int)) → Ev (fun k => rf16_Arc.j0 k n [] (i : Int) m r p) (match m[i]? with | some l => ((if n < 0 then l.reverse else l), 0) | none => ([], 2)) := by
  intro i hi
  refine Ev.step (fun k => rf16_Arc.j0.eq_2 _ _ _ _ _ _ _) ?_
  simp only [if_neg (show ¬ ((i : Int) < 0) by omega)]
  refine Ev.step (fun k => rf16_Arc.j1.eq_2 _ _ _ _ _ _ _ _) ?_
  by_cases hl : i < m.length
  ·simp only [decide_eq_false (show ¬ ((i : Int) ≥ (m.length : Int)) by omega), Bool.false_eq_true, if_false, if_pos (show (0 : Int) ≤ (i : Int) by omega), if_pos (show (i : Int) < (m.length : Int) by omega), rdl m i hl, List.getElem?_eq_getElem hl]
   have h := rarc_l0 n m[i] (hm _ (List.getElem_mem hl)) m[i].length 0 [] (by omega) (by simp)
   simpa using h
  ·simp only [decide_eq_true (show ((i : Int) ≥ (m.length : Int)) by omega), if_true, List.getElem?_eq_none (show m.length ≤ i by omega)]
   exact Ev.now _
 unfold rf16_Arc.f arcB
 by_cases h : n < 0
 ·obtain ⟨i, hi⟩ := Int.eq_ofNat_of_zero_le (show 0 ≤ -1 - n by omega)
  have K := key i (.inr (by omega))
  simp only [if_pos h, if_neg (show ¬ 0 ≤ n by omega)] at K ⊢
  rw [w64_id (x := -1 - n) (by omega) (by omega), hi, Int.toNat_natCast]
  cases hh : m[i]? <;> simp only [hh, Option.map_some, Option.map_none] at K ⊢ <;> exact K
 ·obtain ⟨i, rfl⟩ := Int.eq_ofNat_of_zero_le (show 0 ≤ n by omega)
  have K := key i (.inl rfl)
  simp only [if_neg h, if_pos (show 0 ≤ (i : Int) by omega), Int.toNat_natCast] at K ⊢
  exact K

def okNext (L : List (List Pt)) (i : Nat) : Bool := eqP (lastP (rd_L2 L (i : Int))) (headP (rd_L2 L (((i + 1) % L.length : Nat) : Int)))
theorem ok_iff (L : List (List Pt)) : (∀ i, i < L.length → okAt L i = true) ↔ (∀ i, i < L.length → okNext L i = true) := by
 constructor
 ·intro h i hi
  have h1 := h ((i + 1) % L.length) (Nat.mod_lt _ (by omega))
  unfold okAt at h1
  have e : ((i + 1) % L.length + L.length - 1) % L.length = i := by
   by_cases hq : i + 1 = L.length
   ·rw [hq, Nat.mod_self, Nat.zero_add, Nat.mod_eq_of_lt (by omega)]; omega
   ·rw [Nat.mod_eq_of_lt (show i + 1 < L.length by omega), show i + 1 + L.length - 1 = i + L.length by omega, Nat.add_mod_right, Nat.mod_eq_of_lt hi]
  rw [e] at h1
  exact h1
 ·intro h i hi
  have h1 := h ((i + L.length - 1) % L.length) (Nat.mod_lt _ (by omega))
  unfold okNext at h1
  have e : ((i + L.length - 1) % L.length + 1) % L.length = i := by
   by_cases hq : i = 0
   ·rw [hq, Nat.zero_add, Nat.mod_eq_of_lt (show L.length - 1 < L.length by omega), show L.length - 1 + 1 = L.length by omega, Nat.mod_self]
   ·rw [show i + L.length - 1 = i - 1 + L.length by omega, Nat.add_mod_right, Nat.mod_eq_of_lt (show i - 1 < L.length by omega), show i - 1 + 1 = i by omega, Nat.mod_eq_of_lt hi]
  rw [e] at h1
  exact h1
def nextFrom (L : List (List Pt)) (i n : Nat) : Bool := (List.range' i n).all (okNext L)
theorem rpts_l1 (m : List (List Pt)) (r p : List (List Int)) (B : Nat) (hb : B < 5864062014805) (hm : ∀ x ∈ m, x.length ≤ B) (refs : List Int) (hr : refs.length ≤ 1000000000000) (hw : ∀ x ∈ refs, -9223372036854775808 ≤ x ∧ x ≤ 9223372036854775807) (hs : refs.length * B < 5864062014805)
  (L : List (List Pt)) (hL : arcsOf m refs = some L) : ∀ (n i : Nat), i + n = refs.length → Ev (fun k => rf16_Points.l1 k refs (flatL (L.take i)) (i : Int) m r p) (if nextFrom L i n then (flatL L, 0) else ([], 90)) := by
 obtain ⟨hn, hg⟩ := arcsOf_get m refs L hL
 have hlen : ∀ a ∈ L, a.length ≤ B := by
  intro a ha
  obtain ⟨j, hj, rfl⟩ := List.mem_iff_getElem.1 ha
  obtain ⟨x, hx, e⟩ := arcB_mem (hg j (by omega) hj).1
  have := hm x hx; omega
 intro n
 induction n with
 | zero =>
  intro i hi
  refine Ev.step (fun k => rf16_Points.l1.eq_2 _ _ _ _ _ _ _) ?_
  simp only [if_neg (show ¬ ((i : Int) < (refs.length : Int)) by omega)]
  rw [show i = L.length by omega, List.take_length]
  simp only [nextFrom, List.range'_zero, List.all_nil, if_true]
  exact Ev.now _
 | succ n ih =>
  intro i hi
  have h1 : i < refs.length := by omega
  have h2 : i < L.length := by omega
  have hk0 : (i + 1) % L.length < L.length := Nat.mod_lt _ (by omega)
  have I := ih (i + 1) (by omega)
  obtain ⟨j, hj⟩ : ∃ j, (i + 1) % L.length = j := ⟨_, rfl⟩
  have hk : j < L.length := by rw [← hj]; exact hk0
  have key : Ev (fun k => rf16_Points.j2 k refs (flatL (L.take i)) (i : Int) ((j : Nat) : Int) m r p) (if nextFrom L i (n + 1) then (flatL L, 0) else ([], 90)) := by
   have hA := rarc_ev m r p refs[i] (hw _ (List.getElem_mem h1)).1 (hw _ (List.getElem_mem h1)).2 (fun x hx => by have := hm x hx; omega)
   have hB := rarc_ev m r p (refs[j]'(by omega)) (hw _ (List.getElem_mem _)).1 (hw _ (List.getElem_mem _)).2 (fun x hx => by have := hm x hx; omega)
   rw [(hg i h1 h2).1] at hA
   rw [(hg j (by omega) hk).1] at hB
   have p1 := (hg i h1 h2).2
   have p2 := (hg j (by omega) hk).2
   have b1 := hlen _ (List.getElem_mem h2)
   have hsp : nextFrom L i (n + 1) = (okNext L i && nextFrom L (i + 1) n) := by unfold nextFrom; rw [List.range'_succ, List.all_cons]
   have hok : okNext L i = eqP (lastP L[i]) (headP L[j]) := by unfold okNext; rw [hj, rdl L i h2, rdl L j hk]
   have hfl : flatL (L.take (i + 1)) = flatL (L.take i) ++ L[i].dropLast := by
    unfold flatL; rw [List.take_succ_eq_append_getElem h2, List.map_append, List.flatten_append]; simp
   have hl2 : (flatL (L.take (i + 1))).length < 5864062014805 := by
    have q1 := flat_len (L.take (i + 1))
    have q2 := sum_bound B L hlen
    have q3 : ((L.take (i + 1)).map List.length).sum ≤ (L.map List.length).sum := by
     rw [List.map_take]
     conv => rhs; rw [← List.take_append_drop (i + 1) (L.map List.length), List.sum_append]
     omega
    rw [hn] at q2
    omega
   rw [hfl, List.length_append, List.length_dropLast] at hl2
   refine Ev.step (fun k => rf16_Points.j2.eq_2 _ _ _ _ _ _ _ _) ?_
   have hri : rd refs (i : Int) = refs[i] := by unfold rd; simp [h1]
   have hrj : rd refs (j : Int) = refs[j]'(by omega) := by unfold rd; simp [show j < refs.length by omega]
   simp only [if_pos (show (0 : Int) ≤ (i : Int) by omega), if_pos (show (i : Int) < (refs.length : Int) by omega), if_pos (show (0 : Int) ≤ (j : Int) by omega), if_pos (show (j : Int) < (refs.length : Int) by omega), hri, hrj]
   refine Ev.bind hA ?_
   refine Ev.bind hB ?_
   simp only [w64_id (x := (L[i].length : Int) - 1) (by omega) (by omega), w64_id (x := (i : Int) + 1) (by omega) (by omega), if_pos (show (0 : Int) ≤ (L[i].length : Int) - 1 by omega), if_pos (show (L[i].length : Int) - 1 < (L[i].length : Int) by omega), if_pos (show (0 : Int) < (L[j].length : Int) by omega), if_pos (show (L[i].length : Int) - 1 ≤ (L[i].length : Int) by omega)]
   rw [hsp, hok]
   by_cases hc : eqP (lastP L[i]) (headP L[j]) = true
   ·have hc' := hc
    unfold eqP lastP headP at hc'
    simp only [Bool.and_eq_true] at hc'
    simp only [hc'.1, hc'.2.1, hc'.2.2, Bool.not_true, Bool.or_self, Bool.false_eq_true, if_false, hc, Bool.true_and, Option.bind_some, show ((L[i].length : Int) - 1).toNat = L[i].length - 1 by omega, ← List.dropLast_eq_take, List.length_dropLast, if_pos hl2]
    rw [hfl] at I
    exact I
   ·have hc' := hc
    rw [Bool.not_eq_true] at hc
    have hd : (!((rd_T27 L[i] ((L[i].length : Int) - 1)).f0 == (rd_T27 L[j] 0).f0) || (!((rd_T27 L[i] ((L[i].length : Int) - 1)).f1 == (rd_T27 L[j] 0).f1) || (!((rd_T27 L[i] ((L[i].length : Int) - 1)).f2 == (rd_T27 L[j] 0).f2)))) = true := by
     unfold eqP lastP headP at hc
     rw [← Bool.not_and, ← Bool.not_and, hc]; rfl
    simp only [hd, hc, Bool.false_and, Bool.false_eq_true, if_false, if_true]
    exact Ev.now _
  refine Ev.step (fun k => rf16_Points.l1.eq_2 _ _ _ _ _ _ _) ?_
  simp only [if_pos (show (i : Int) < (refs.length : Int) by omega), w64_id (x := (i : Int) + 1) (by omega) (by omega)]
  by_cases hq : (i : Int) + 1 = (refs.length : Int)
  ·simp only [if_pos hq]
   rw [show j = 0 by rw [← hj, hn, show i + 1 = refs.length by omega, Nat.mod_self]] at key
   exact key
  ·simp only [if_neg hq]
   rw [Nat.mod_eq_of_lt (show i + 1 < L.length by omega)] at hj
   rw [← hj] at key
   exact key
theorem rpts_l0 (m : List (List Pt)) (r p : List (List Int)) (B : Nat) (hb : B < 5864062014805) (hm : ∀ x ∈ m, x.length ≤ B) (refs : List Int) (hr : refs.length ≤ 1000000000000) (hw : ∀ x ∈ refs, -9223372036854775808 ≤ x ∧ x ≤ 9223372036854775807) (hs : refs.length * B < 5864062014805) :
  ∀ (n i : Nat), i + n = refs.length → (arcsOf m (refs.drop i) = none ↔ arcsOf m refs = none) → Ev (fun k => rf16_Points.l0 k refs (i : Int) m r p) (ptsV m [] refs) := by
 intro n
 induction n with
 | zero =>
  intro i hi hn
  refine Ev.step (fun k => rf16_Points.l0.eq_2 _ _ _ _ _ _) ?_
  simp only [if_neg (show ¬ ((i : Int) < (refs.length : Int)) by omega)]
  rw [List.drop_of_length_le (by omega)] at hn
  cases hL : arcsOf m refs with
  | none => rw [hL] at hn; simp [arcsOf] at hn
  | some L =>
   have hl := (arcsOf_get m refs L hL).1
   have h := rpts_l1 m r p B hb hm refs hr hw hs L hL refs.length 0 (by omega)
   have e : (if nextFrom L 0 refs.length then (flatL L, (0 : Int)) else ([], 90)) = if okFrom L 0 L.length then (flatL L, (0 : Int)) else ([], 90) := by
    have e1 : nextFrom L 0 refs.length = okFrom L 0 L.length := by
     rw [← hl]
     rw [Bool.eq_iff_iff]
     unfold nextFrom okFrom
     simp only [List.all_eq_true, List.mem_range'_1, Nat.zero_le, true_and, Nat.zero_add]
     exact (ok_iff L).symm
    rw [e1]
   unfold ptsV ringV
   rw [hL]
   simp only [List.nil_append]
   by_cases h0 : refs.length = 0
   ·simp only [if_pos (show (refs.length : Int) = 0 by omega), if_neg (show ¬ 0 < L.length by omega)]
    exact Ev.now _
   ·simp only [if_neg (show ¬ (refs.length : Int) = 0 by omega), if_pos (show 0 < L.length by omega)]
    rw [e] at h
    exact h
 | succ n ih =>
  intro i hi hn
  have h1 : i < refs.length := by omega
  have hx := hw _ (List.getElem_mem h1)
  refine Ev.step (fun k => rf16_Points.l0.eq_2 _ _ _ _ _ _) ?_
  have hrd : rd refs (i : Int) = refs[i] := by unfold rd; simp [h1]
  simp only [if_pos (show (i : Int) < (refs.length : Int) by omega), if_pos (show (0 : Int) ≤ (i : Int) by omega), hrd, w64_id (x := (i : Int) + 1) (by omega) (by omega)]
  refine Ev.bind (rarc_ev m r p refs[i] hx.1 hx.2 (fun x hx => by have := hm x hx; omega)) ?_
  rw [List.drop_eq_getElem_cons h1] at hn
  unfold arcsOf at hn
  cases hq : arcB m refs[i] with
  | none =>
   rw [hq] at hn
   have h2 : arcsOf m refs = none := by
    have h3 := hn.1 rfl
    rw [← h3]; rw [arcsOf.eq_def]
   simp only [if_neg (show ¬ ((2 : Int) = 0) by decide)]
   unfold ptsV
   rw [h2]
   exact Ev.now _
  | some a =>
   rw [hq] at hn
   simp only [if_true]
   by_cases h0 : a.length = 0
   ·have h2 : arcsOf m refs = none := by
     have h3 := hn.1 (by simp only [if_pos h0])
     rw [← h3]; rw [arcsOf.eq_def]
    simp only [if_pos (show ((a.length : Int) = 0) by omega)]
    unfold ptsV
    rw [h2]
    exact Ev.now _
   ·simp only [if_neg (show ¬ ((a.length : Int) = 0) by omega)]
    have I := ih (i + 1) (by omega) (by
     simp only [if_neg h0, Option.map_eq_none_iff] at hn
     rw [hn]
     rw [← arcsOf.eq_def])
    exact I
theorem rpoints_ev (m : List (List Pt)) (r p : List (List Int)) (B : Nat) (hb : B < 5864062014805) (hm : ∀ x ∈ m, x.length ≤ B) (refs : List Int) (hr : refs.length ≤ 1000000000000) (hw : ∀ x ∈ refs, -9223372036854775808 ≤ x ∧ x ≤ 9223372036854775807) (hs : refs.length * B < 5864062014805) :
  Ev (fun k => rf16_Points.f k m r p refs) (ptsV m [] refs) := by
 unfold rf16_Points.f
 exact rpts_l0 m r p B hb hm refs hr hw hs refs.length 0 (by omega) (by rw [List.drop_zero])
end Go.Proofs.Ytbonkedecfjmdaa.Gr
