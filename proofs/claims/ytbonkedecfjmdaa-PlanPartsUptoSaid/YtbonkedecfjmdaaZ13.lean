/- Written for this claim by a program of this session (a turned copy of the print): Go functions as Lean functions, and that the Go code comes to just these answers; or a statement proved out of them. No condition. -/
import Derived.Test.YtbonkedecfjmdaaZ2
import Derived.Test.YtbonkedecfjmdaaZ3

namespace Go.Proofs.Ytbonkedecfjmdaa.P
open Go.RowKit Go.Proofs.YtbonkedecfjmdaaW.PrintWords Go.Proofs.YtbonkedecfjmdaaW.PrintLast Go.Proofs.YtbonkedecfjmdaaW.PrintMore Go.Proofs.Ytbonkedecfjmdaa.X
attribute [local go_sem] max2_int min2_int max_two min_two max_three min_three max_four min_four add64_0 add64_1 add64
set_option linter.unusedVariables false
set_option linter.unusedSimpArgs false
attribute [local go_sem high] eqA27
def plan_side_end.f (a0_0 : Int) (a0_1 : Int) (a0_2 : Int) (a0_3 : Int) (a0_4 : Int) (a0_5 : Int) (a0_6 : Int) (a0_7 : Int) (a0_8 : Bool) (a0_9 : Bool) (a1_0 : Int) (a1_1 : Int) (a1_2 : Int) : Option (Bool) := if a0_8 = true then (if (a1_0 == a0_0 && (a1_1 == a0_1 && (a1_2 == a0_2))) = true then (some true) else (if a0_9 = true then (some (a1_0 == a0_3 && (a1_1 == a0_4 && (a1_2 == a0_5)))) else (some false))) else (if a0_9 = true then (some (a1_0 == a0_3 && (a1_1 == a0_4 && (a1_2 == a0_5)))) else (some false))
set_option maxHeartbeats 8000000 in
set_option maxRecDepth 100000 in
theorem plan_side_end.calls (a0_0 : Int) (a0_1 : Int) (a0_2 : Int) (a0_3 : Int) (a0_4 : Int) (a0_5 : Int) (a0_6 : Int) (a0_7 : Int) (a0_8 : Bool) (a0_9 : Bool) (a1_0 : Int) (a1_1 : Int) (a1_2 : Int) (r : Bool) (w : World) (h : plan_side_end.f a0_0 a0_1 a0_2 a0_3 a0_4 a0_5 a0_6 a0_7 a0_8 a0_9 a1_0 a1_1 a1_2 = some r) :
  Calls Try.prog 84 #[.agg #[.int .i64 a0_0, .int .i64 a0_1, .int .i64 a0_2, .int .i64 a0_3, .int .i64 a0_4, .int .i64 a0_5, .int .i64 a0_6, .int .i64 a0_7, .bool a0_8, .bool a0_9], .agg #[.int .i64 a1_0, .int .i64 a1_1, .int .i64 a1_2]] w fun e w' => e = .returned (.bool r) ∧ Below w.heap.size w w' := by
 have hu109 := Try.underlying109
 have hu27 := Try.underlying27
 have HB := AM (Below.refl w.heap.size w)
 have H : (if a0_8 = true then (if (a1_0 == a0_0 && (a1_1 == a0_1 && (a1_2 == a0_2))) = true then (some true) else (if a0_9 = true then (some (a1_0 == a0_3 && (a1_1 == a0_4 && (a1_2 == a0_5)))) else (some false))) else (if a0_9 = true then (some (a1_0 == a0_3 && (a1_1 == a0_4 && (a1_2 == a0_5)))) else (some false))) = some r := h
 clear h
 by_cases c3 : a0_8 = true
 ·subst c3
  have H1 : (if (a1_0 == a0_0 && (a1_1 == a0_1 && (a1_2 == a0_2))) = true then (some true) else (if a0_9 = true then (some (a1_0 == a0_3 && (a1_1 == a0_4 && (a1_2 == a0_5)))) else (some false))) = some r := by rw [if_pos rfl] at H; exact H
  clear H; have H := H1; clear H1
  by_cases c4 : (a1_0 == a0_0 && (a1_1 == a0_1 && (a1_2 == a0_2))) = true
  ·rw [if_pos c4] at H
   have c4b0 : (a1_0 == a0_0 && (a1_1 == a0_1 && (a1_2 == a0_2))) = true := c4
   (try (have c4b1 : decide (a1_0 = a0_0 && (a1_1 == a0_1 && (a1_2 == a0_2))) = true := by simpa using c4))
   (try (have c4b2 : (a1_0 == a0_0 && (a1_1 == a0_1 && (a1_2 == a0_2))) = true := by simpa using c4))
   clear c4
   obtain rfl := Option.some.inj H
   go_enter Try.func84, Try.ntmps84
   go_wp2_with (first | ((with_reducible refine gate_dst (N := 2) rfl ?_); refine bE 2 #[.int .i64 a0_0, .int .i64 a0_1, .int .i64 a0_2, .int .i64 a0_3, .int .i64 a0_4, .int .i64 a0_5, .int .i64 a0_6, .int .i64 a0_7, .bool true, .bool a0_9] 109 ?_; intro gb632 hg w5 hbox hb; have BK632 := AM hbox; have GW632 := kG HB hg; replace HB := kH HB hb; have GE632 := GW632; clear hb hbox hg) | ((with_reducible refine gate_dst (N := 3) rfl ?_); refine bE 3 #[.int .i64 a1_0, .int .i64 a1_1, .int .i64 a1_2] 27 ?_; intro gb633 hg w6 hbox hb; have BK633 := AM hbox; have GW633 := kG HB hg; replace HB := kH HB hb; have GE633 := GW633; have NB632_633 := kN BK632 hg; have NB633_632 := kM BK632 hg; replace BK632 := kB BK632 hb; clear hb hbox hg; have hnb7 := NB632_633.out; have hnc7 := NB633_632.out; have hcz8_0 : w6.cell? ⟨gb632, 0, none⟩ = some (.int .i64 a0_0) := bC BK632; have hcz8_1 : w6.cell? ⟨gb632, 1, none⟩ = some (.int .i64 a0_1) := bC BK632; have hcz8_2 : w6.cell? ⟨gb632, 2, none⟩ = some (.int .i64 a0_2) := bC BK632; have hcz8_3 : w6.cell? ⟨gb632, 3, none⟩ = some (.int .i64 a0_3) := bC BK632; have hcz8_4 : w6.cell? ⟨gb632, 4, none⟩ = some (.int .i64 a0_4) := bC BK632; have hcz8_5 : w6.cell? ⟨gb632, 5, none⟩ = some (.int .i64 a0_5) := bC BK632; have hcz8_6 : w6.cell? ⟨gb632, 6, none⟩ = some (.int .i64 a0_6) := bC BK632; have hcz8_7 : w6.cell? ⟨gb632, 7, none⟩ = some (.int .i64 a0_7) := bC BK632; have hcz8_8 : w6.cell? ⟨gb632, 8, none⟩ = some (.bool true) := bC BK632; have hcz8_9 : w6.cell? ⟨gb632, 9, none⟩ = some (.bool a0_9) := bC BK632; have hfz8_0 := blk_frozen BK632.out 0; have hfz8_1 := blk_frozen BK632.out 1; have hfz8_2 := blk_frozen BK632.out 2; have hfz8_3 := blk_frozen BK632.out 3; have hfz8_4 := blk_frozen BK632.out 4; have hfz8_5 := blk_frozen BK632.out 5; have hfz8_6 := blk_frozen BK632.out 6; have hfz8_7 := blk_frozen BK632.out 7; have hfz8_8 := blk_frozen BK632.out 8; have hfz8_9 := blk_frozen BK632.out 9; obtain ⟨hcz9_0, hcz9_1, hcz9_2, hfz9_0, hfz9_1, hfz9_2⟩ := c3 BK633))
   go_ret
   exact ⟨rE, bH HB⟩
  ·rw [if_neg c4] at H
   have c4b0 : (a1_0 == a0_0 && (a1_1 == a0_1 && (a1_2 == a0_2))) = false := by simpa using c4
   (try (have c4b1 : decide (a1_0 = a0_0 && (a1_1 == a0_1 && (a1_2 == a0_2))) = false := by simpa using c4))
   (try (have c4b2 : (a1_0 == a0_0 && (a1_1 == a0_1 && (a1_2 == a0_2))) = false := by simpa using c4))
   (try (have c4b3 : ¬ (a1_0 = a0_0 && (a1_1 == a0_1 && (a1_2 == a0_2))) := by simpa using c4))
   clear c4
   by_cases c10 : a0_9 = true
   ·subst c10
    have H1 : (some (a1_0 == a0_3 && (a1_1 == a0_4 && (a1_2 == a0_5)))) = some r := by rw [if_pos rfl] at H; exact H
    clear H; have H := H1; clear H1
    obtain rfl := Option.some.inj H
    go_enter Try.func84, Try.ntmps84
    go_wp2_with (first | ((with_reducible refine gate_dst (N := 2) rfl ?_); refine bE 2 #[.int .i64 a0_0, .int .i64 a0_1, .int .i64 a0_2, .int .i64 a0_3, .int .i64 a0_4, .int .i64 a0_5, .int .i64 a0_6, .int .i64 a0_7, .bool true, .bool true] 109 ?_; intro gb632 hg w11 hbox hb; have BK632 := AM hbox; have GW632 := kG HB hg; replace HB := kH HB hb; have GE632 := GW632; clear hb hbox hg) | ((with_reducible refine gate_dst (N := 3) rfl ?_); refine bE 3 #[.int .i64 a1_0, .int .i64 a1_1, .int .i64 a1_2] 27 ?_; intro gb633 hg w12 hbox hb; have BK633 := AM hbox; have GW633 := kG HB hg; replace HB := kH HB hb; have GE633 := GW633; have NB632_633 := kN BK632 hg; have NB633_632 := kM BK632 hg; replace BK632 := kB BK632 hb; clear hb hbox hg; have hnb13 := NB632_633.out; have hnc13 := NB633_632.out; have hcz14_0 : w12.cell? ⟨gb632, 0, none⟩ = some (.int .i64 a0_0) := bC BK632; have hcz14_1 : w12.cell? ⟨gb632, 1, none⟩ = some (.int .i64 a0_1) := bC BK632; have hcz14_2 : w12.cell? ⟨gb632, 2, none⟩ = some (.int .i64 a0_2) := bC BK632; have hcz14_3 : w12.cell? ⟨gb632, 3, none⟩ = some (.int .i64 a0_3) := bC BK632; have hcz14_4 : w12.cell? ⟨gb632, 4, none⟩ = some (.int .i64 a0_4) := bC BK632; have hcz14_5 : w12.cell? ⟨gb632, 5, none⟩ = some (.int .i64 a0_5) := bC BK632; have hcz14_6 : w12.cell? ⟨gb632, 6, none⟩ = some (.int .i64 a0_6) := bC BK632; have hcz14_7 : w12.cell? ⟨gb632, 7, none⟩ = some (.int .i64 a0_7) := bC BK632; have hcz14_8 : w12.cell? ⟨gb632, 8, none⟩ = some (.bool true) := bC BK632; have hcz14_9 : w12.cell? ⟨gb632, 9, none⟩ = some (.bool true) := bC BK632; have hfz14_0 := blk_frozen BK632.out 0; have hfz14_1 := blk_frozen BK632.out 1; have hfz14_2 := blk_frozen BK632.out 2; have hfz14_3 := blk_frozen BK632.out 3; have hfz14_4 := blk_frozen BK632.out 4; have hfz14_5 := blk_frozen BK632.out 5; have hfz14_6 := blk_frozen BK632.out 6; have hfz14_7 := blk_frozen BK632.out 7; have hfz14_8 := blk_frozen BK632.out 8; have hfz14_9 := blk_frozen BK632.out 9; obtain ⟨hcz15_0, hcz15_1, hcz15_2, hfz15_0, hfz15_1, hfz15_2⟩ := c3 BK633))
    go_ret
    exact ⟨rE, bH HB⟩
   ·replace c10 := Bool.eq_false_iff.mpr c10
    subst c10
    have H1 : (some false) = some r := by rw [if_neg (show ¬ (false = true) by decide)] at H; exact H
    clear H; have H := H1; clear H1
    obtain rfl := Option.some.inj H
    go_enter Try.func84, Try.ntmps84
    go_wp2_with (first | ((with_reducible refine gate_dst (N := 2) rfl ?_); refine bE 2 #[.int .i64 a0_0, .int .i64 a0_1, .int .i64 a0_2, .int .i64 a0_3, .int .i64 a0_4, .int .i64 a0_5, .int .i64 a0_6, .int .i64 a0_7, .bool true, .bool false] 109 ?_; intro gb632 hg w16 hbox hb; have BK632 := AM hbox; have GW632 := kG HB hg; replace HB := kH HB hb; have GE632 := GW632; clear hb hbox hg) | ((with_reducible refine gate_dst (N := 3) rfl ?_); refine bE 3 #[.int .i64 a1_0, .int .i64 a1_1, .int .i64 a1_2] 27 ?_; intro gb633 hg w17 hbox hb; have BK633 := AM hbox; have GW633 := kG HB hg; replace HB := kH HB hb; have GE633 := GW633; have NB632_633 := kN BK632 hg; have NB633_632 := kM BK632 hg; replace BK632 := kB BK632 hb; clear hb hbox hg; have hnb18 := NB632_633.out; have hnc18 := NB633_632.out; have hcz19_0 : w17.cell? ⟨gb632, 0, none⟩ = some (.int .i64 a0_0) := bC BK632; have hcz19_1 : w17.cell? ⟨gb632, 1, none⟩ = some (.int .i64 a0_1) := bC BK632; have hcz19_2 : w17.cell? ⟨gb632, 2, none⟩ = some (.int .i64 a0_2) := bC BK632; have hcz19_3 : w17.cell? ⟨gb632, 3, none⟩ = some (.int .i64 a0_3) := bC BK632; have hcz19_4 : w17.cell? ⟨gb632, 4, none⟩ = some (.int .i64 a0_4) := bC BK632; have hcz19_5 : w17.cell? ⟨gb632, 5, none⟩ = some (.int .i64 a0_5) := bC BK632; have hcz19_6 : w17.cell? ⟨gb632, 6, none⟩ = some (.int .i64 a0_6) := bC BK632; have hcz19_7 : w17.cell? ⟨gb632, 7, none⟩ = some (.int .i64 a0_7) := bC BK632; have hcz19_8 : w17.cell? ⟨gb632, 8, none⟩ = some (.bool true) := bC BK632; have hcz19_9 : w17.cell? ⟨gb632, 9, none⟩ = some (.bool false) := bC BK632; have hfz19_0 := blk_frozen BK632.out 0; have hfz19_1 := blk_frozen BK632.out 1; have hfz19_2 := blk_frozen BK632.out 2; have hfz19_3 := blk_frozen BK632.out 3; have hfz19_4 := blk_frozen BK632.out 4; have hfz19_5 := blk_frozen BK632.out 5; have hfz19_6 := blk_frozen BK632.out 6; have hfz19_7 := blk_frozen BK632.out 7; have hfz19_8 := blk_frozen BK632.out 8; have hfz19_9 := blk_frozen BK632.out 9; obtain ⟨hcz20_0, hcz20_1, hcz20_2, hfz20_0, hfz20_1, hfz20_2⟩ := c3 BK633))
    go_ret
    exact ⟨rE, bH HB⟩
 ·replace c3 := Bool.eq_false_iff.mpr c3
  subst c3
  have H1 : (if a0_9 = true then (some (a1_0 == a0_3 && (a1_1 == a0_4 && (a1_2 == a0_5)))) else (some false)) = some r := by rw [if_neg (show ¬ (false = true) by decide)] at H; exact H
  clear H; have H := H1; clear H1
  by_cases c21 : a0_9 = true
  ·subst c21
   have H1 : (some (a1_0 == a0_3 && (a1_1 == a0_4 && (a1_2 == a0_5)))) = some r := by rw [if_pos rfl] at H; exact H
   clear H; have H := H1; clear H1
   obtain rfl := Option.some.inj H
   go_enter Try.func84, Try.ntmps84
   go_wp2_with (first | ((with_reducible refine gate_dst (N := 2) rfl ?_); refine bE 2 #[.int .i64 a0_0, .int .i64 a0_1, .int .i64 a0_2, .int .i64 a0_3, .int .i64 a0_4, .int .i64 a0_5, .int .i64 a0_6, .int .i64 a0_7, .bool false, .bool true] 109 ?_; intro gb632 hg w22 hbox hb; have BK632 := AM hbox; have GW632 := kG HB hg; replace HB := kH HB hb; have GE632 := GW632; clear hb hbox hg) | ((with_reducible refine gate_dst (N := 3) rfl ?_); refine bE 3 #[.int .i64 a1_0, .int .i64 a1_1, .int .i64 a1_2] 27 ?_; intro gb633 hg w23 hbox hb; have BK633 := AM hbox; have GW633 := kG HB hg; replace HB := kH HB hb; have GE633 := GW633; have NB632_633 := kN BK632 hg; have NB633_632 := kM BK632 hg; replace BK632 := kB BK632 hb; clear hb hbox hg; have hnb24 := NB632_633.out; have hnc24 := NB633_632.out; have hcz25_0 : w23.cell? ⟨gb632, 0, none⟩ = some (.int .i64 a0_0) := bC BK632; have hcz25_1 : w23.cell? ⟨gb632, 1, none⟩ = some (.int .i64 a0_1) := bC BK632; have hcz25_2 : w23.cell? ⟨gb632, 2, none⟩ = some (.int .i64 a0_2) := bC BK632; have hcz25_3 : w23.cell? ⟨gb632, 3, none⟩ = some (.int .i64 a0_3) := bC BK632; have hcz25_4 : w23.cell? ⟨gb632, 4, none⟩ = some (.int .i64 a0_4) := bC BK632; have hcz25_5 : w23.cell? ⟨gb632, 5, none⟩ = some (.int .i64 a0_5) := bC BK632; have hcz25_6 : w23.cell? ⟨gb632, 6, none⟩ = some (.int .i64 a0_6) := bC BK632; have hcz25_7 : w23.cell? ⟨gb632, 7, none⟩ = some (.int .i64 a0_7) := bC BK632; have hcz25_8 : w23.cell? ⟨gb632, 8, none⟩ = some (.bool false) := bC BK632; have hcz25_9 : w23.cell? ⟨gb632, 9, none⟩ = some (.bool true) := bC BK632; have hfz25_0 := blk_frozen BK632.out 0; have hfz25_1 := blk_frozen BK632.out 1; have hfz25_2 := blk_frozen BK632.out 2; have hfz25_3 := blk_frozen BK632.out 3; have hfz25_4 := blk_frozen BK632.out 4; have hfz25_5 := blk_frozen BK632.out 5; have hfz25_6 := blk_frozen BK632.out 6; have hfz25_7 := blk_frozen BK632.out 7; have hfz25_8 := blk_frozen BK632.out 8; have hfz25_9 := blk_frozen BK632.out 9; obtain ⟨hcz26_0, hcz26_1, hcz26_2, hfz26_0, hfz26_1, hfz26_2⟩ := c3 BK633))
   go_ret
   exact ⟨rE, bH HB⟩
  ·replace c21 := Bool.eq_false_iff.mpr c21
   subst c21
   have H1 : (some false) = some r := by rw [if_neg (show ¬ (false = true) by decide)] at H; exact H
   clear H; have H := H1; clear H1
   obtain rfl := Option.some.inj H
   go_enter Try.func84, Try.ntmps84
   go_wp2_with (first | ((with_reducible refine gate_dst (N := 2) rfl ?_); refine bE 2 #[.int .i64 a0_0, .int .i64 a0_1, .int .i64 a0_2, .int .i64 a0_3, .int .i64 a0_4, .int .i64 a0_5, .int .i64 a0_6, .int .i64 a0_7, .bool false, .bool false] 109 ?_; intro gb632 hg w27 hbox hb; have BK632 := AM hbox; have GW632 := kG HB hg; replace HB := kH HB hb; have GE632 := GW632; clear hb hbox hg) | ((with_reducible refine gate_dst (N := 3) rfl ?_); refine bE 3 #[.int .i64 a1_0, .int .i64 a1_1, .int .i64 a1_2] 27 ?_; intro gb633 hg w28 hbox hb; have BK633 := AM hbox; have GW633 := kG HB hg; replace HB := kH HB hb; have GE633 := GW633; have NB632_633 := kN BK632 hg; have NB633_632 := kM BK632 hg; replace BK632 := kB BK632 hb; clear hb hbox hg; have hnb29 := NB632_633.out; have hnc29 := NB633_632.out; have hcz30_0 : w28.cell? ⟨gb632, 0, none⟩ = some (.int .i64 a0_0) := bC BK632; have hcz30_1 : w28.cell? ⟨gb632, 1, none⟩ = some (.int .i64 a0_1) := bC BK632; have hcz30_2 : w28.cell? ⟨gb632, 2, none⟩ = some (.int .i64 a0_2) := bC BK632; have hcz30_3 : w28.cell? ⟨gb632, 3, none⟩ = some (.int .i64 a0_3) := bC BK632; have hcz30_4 : w28.cell? ⟨gb632, 4, none⟩ = some (.int .i64 a0_4) := bC BK632; have hcz30_5 : w28.cell? ⟨gb632, 5, none⟩ = some (.int .i64 a0_5) := bC BK632; have hcz30_6 : w28.cell? ⟨gb632, 6, none⟩ = some (.int .i64 a0_6) := bC BK632; have hcz30_7 : w28.cell? ⟨gb632, 7, none⟩ = some (.int .i64 a0_7) := bC BK632; have hcz30_8 : w28.cell? ⟨gb632, 8, none⟩ = some (.bool false) := bC BK632; have hcz30_9 : w28.cell? ⟨gb632, 9, none⟩ = some (.bool false) := bC BK632; have hfz30_0 := blk_frozen BK632.out 0; have hfz30_1 := blk_frozen BK632.out 1; have hfz30_2 := blk_frozen BK632.out 2; have hfz30_3 := blk_frozen BK632.out 3; have hfz30_4 := blk_frozen BK632.out 4; have hfz30_5 := blk_frozen BK632.out 5; have hfz30_6 := blk_frozen BK632.out 6; have hfz30_7 := blk_frozen BK632.out 7; have hfz30_8 := blk_frozen BK632.out 8; have hfz30_9 := blk_frozen BK632.out 9))
   go_ret
   exact ⟨rE, bH HB⟩
end Go.Proofs.Ytbonkedecfjmdaa.P

namespace Go.Proofs.Ytbonkedecfjmdaa.P
open Go.RowKit Go.Proofs.YtbonkedecfjmdaaW.PrintWords Go.Proofs.YtbonkedecfjmdaaW.PrintLast Go.Proofs.YtbonkedecfjmdaaW.PrintMore Go.Proofs.Ytbonkedecfjmdaa.X
attribute [local go_sem] max2_int min2_int max_two min_two max_three min_three max_four min_four add64_0 add64_1 add64
set_option linter.unusedVariables false
set_option linter.unusedSimpArgs false
def geom_less.f (a0_0 : Int) (a0_1 : Int) (a0_2 : Int) (a1_0 : Int) (a1_1 : Int) (a1_2 : Int) : Option (Bool) := if a0_0 < a1_0 then (some true) else (if a0_0 = a1_0 then (some (decide (a0_1 < a1_1))) else (some false))
set_option maxHeartbeats 8000000 in
set_option maxRecDepth 100000 in
theorem geom_less.calls (a0_0 : Int) (a0_1 : Int) (a0_2 : Int) (a1_0 : Int) (a1_1 : Int) (a1_2 : Int) (r : Bool) (w : World) (h : geom_less.f a0_0 a0_1 a0_2 a1_0 a1_1 a1_2 = some r) :
  Calls Try.prog 89 #[.agg #[.int .i64 a0_0, .int .i64 a0_1, .int .i64 a0_2], .agg #[.int .i64 a1_0, .int .i64 a1_1, .int .i64 a1_2]] w fun e w' => e = .returned (.bool r) ∧ Below w.heap.size w w' := by
 have hu27 := Try.underlying27
 have HB := AM (Below.refl w.heap.size w)
 have H : (if a0_0 < a1_0 then (some true) else (if a0_0 = a1_0 then (some (decide (a0_1 < a1_1))) else (some false))) = some r := h
 clear h
 by_cases c3 : a0_0 < a1_0
 ·rw [if_pos c3] at H
  have c3b0 := decide_eq_true c3; clear c3
  obtain rfl := Option.some.inj H
  go_enter Try.func89, Try.ntmps89
  go_wp2_with (first | ((with_reducible refine gate_dst (N := 2) rfl ?_); refine bE 2 #[.int .i64 a0_0, .int .i64 a0_1, .int .i64 a0_2] 27 ?_; intro gb587 hg w4 hbox hb; have BK587 := AM hbox; have GW587 := kG HB hg; replace HB := kH HB hb; have GE587 := GW587; clear hb hbox hg) | ((with_reducible refine gate_dst (N := 3) rfl ?_); refine bE 3 #[.int .i64 a1_0, .int .i64 a1_1, .int .i64 a1_2] 27 ?_; intro gb588 hg w5 hbox hb; have BK588 := AM hbox; have GW588 := kG HB hg; replace HB := kH HB hb; have GE588 := GW588; have NB587_588 := kN BK587 hg; have NB588_587 := kM BK587 hg; replace BK587 := kB BK587 hb; clear hb hbox hg; have hnb6 := NB587_588.out; have hnc6 := NB588_587.out; obtain ⟨hcz7_0, hcz7_1, hcz7_2, hfz7_0, hfz7_1, hfz7_2⟩ := c3 BK587; obtain ⟨hcz8_0, hcz8_1, hcz8_2, hfz8_0, hfz8_1, hfz8_2⟩ := c3 BK588))
  go_ret
  exact ⟨rE, bH HB⟩
 ·rw [if_neg c3] at H
  have c3b0 := decide_eq_false c3; clear c3
  by_cases c9 : a0_0 = a1_0
  ·rw [if_pos c9] at H
   have c9b0 : (a0_0 == a1_0) = true := beq_iff_eq.mpr c9
   have c9b1 : (a0_0 != a1_0) = false := bne_eq_false_iff_eq.mpr c9
   clear c9
   obtain rfl := Option.some.inj H
   go_enter Try.func89, Try.ntmps89
   go_wp2_with (first | ((with_reducible refine gate_dst (N := 2) rfl ?_); refine bE 2 #[.int .i64 a0_0, .int .i64 a0_1, .int .i64 a0_2] 27 ?_; intro gb587 hg w10 hbox hb; have BK587 := AM hbox; have GW587 := kG HB hg; replace HB := kH HB hb; have GE587 := GW587; clear hb hbox hg) | ((with_reducible refine gate_dst (N := 3) rfl ?_); refine bE 3 #[.int .i64 a1_0, .int .i64 a1_1, .int .i64 a1_2] 27 ?_; intro gb588 hg w11 hbox hb; have BK588 := AM hbox; have GW588 := kG HB hg; replace HB := kH HB hb; have GE588 := GW588; have NB587_588 := kN BK587 hg; have NB588_587 := kM BK587 hg; replace BK587 := kB BK587 hb; clear hb hbox hg; have hnb12 := NB587_588.out; have hnc12 := NB588_587.out; obtain ⟨hcz13_0, hcz13_1, hcz13_2, hfz13_0, hfz13_1, hfz13_2⟩ := c3 BK587; obtain ⟨hcz14_0, hcz14_1, hcz14_2, hfz14_0, hfz14_1, hfz14_2⟩ := c3 BK588))
   go_ret
   exact ⟨rE, bH HB⟩
  ·rw [if_neg c9] at H
   have c9b0 : (a0_0 == a1_0) = false := beq_eq_false_iff_ne.mpr c9
   have c9b1 : (a0_0 != a1_0) = true := bne_iff_ne.mpr c9
   obtain rfl := Option.some.inj H
   go_enter Try.func89, Try.ntmps89
   go_wp2_with (first | ((with_reducible refine gate_dst (N := 2) rfl ?_); refine bE 2 #[.int .i64 a0_0, .int .i64 a0_1, .int .i64 a0_2] 27 ?_; intro gb587 hg w15 hbox hb; have BK587 := AM hbox; have GW587 := kG HB hg; replace HB := kH HB hb; have GE587 := GW587; clear hb hbox hg) | ((with_reducible refine gate_dst (N := 3) rfl ?_); refine bE 3 #[.int .i64 a1_0, .int .i64 a1_1, .int .i64 a1_2] 27 ?_; intro gb588 hg w16 hbox hb; have BK588 := AM hbox; have GW588 := kG HB hg; replace HB := kH HB hb; have GE588 := GW588; have NB587_588 := kN BK587 hg; have NB588_587 := kM BK587 hg; replace BK587 := kB BK587 hb; clear hb hbox hg; have hnb17 := NB587_588.out; have hnc17 := NB588_587.out; obtain ⟨hcz18_0, hcz18_1, hcz18_2, hfz18_0, hfz18_1, hfz18_2⟩ := c3 BK587; obtain ⟨hcz19_0, hcz19_1, hcz19_2, hfz19_0, hfz19_1, hfz19_2⟩ := c3 BK588))
   go_ret
   exact ⟨rE, bH HB⟩

def geom_rising.f (a0_0 : Int) (a0_1 : Int) (a0_2 : Int) (a1_0 : Int) (a1_1 : Int) (a1_2 : Int) : Option (Int × Int × Int × Int × Int × Int) := (geom_less.f a1_0 a1_1 a1_2 a0_0 a0_1 a0_2).bind fun t593 => (if t593 = true then (some (a1_0, a1_1, a1_2, a0_0, a0_1, a0_2)) else (some (a0_0, a0_1, a0_2, a1_0, a1_1, a1_2)))
set_option maxHeartbeats 8000000 in
set_option maxRecDepth 100000 in
theorem geom_rising.calls (a0_0 : Int) (a0_1 : Int) (a0_2 : Int) (a1_0 : Int) (a1_1 : Int) (a1_2 : Int) (r1 : Int) (r2 : Int) (r3 : Int) (r4 : Int) (r5 : Int) (r6 : Int) (w : World) (h : geom_rising.f a0_0 a0_1 a0_2 a1_0 a1_1 a1_2 = some (r1, r2, r3, r4, r5, r6)) :
  Calls Try.prog 88 #[.agg #[.int .i64 a0_0, .int .i64 a0_1, .int .i64 a0_2], .agg #[.int .i64 a1_0, .int .i64 a1_1, .int .i64 a1_2]] w fun e w' => e = .returned (.tuple #[.agg #[.int .i64 r1, .int .i64 r2, .int .i64 r3], .agg #[.int .i64 r4, .int .i64 r5, .int .i64 r6]]) ∧ Below w.heap.size w w' := by
 have hu27 := Try.underlying27
 have HB := AM (Below.refl w.heap.size w)
 have H : ((geom_less.f a1_0 a1_1 a1_2 a0_0 a0_1 a0_2).bind fun t593 => (if t593 = true then (some (a1_0, a1_1, a1_2, a0_0, a0_1, a0_2)) else (some (a0_0, a0_1, a0_2, a1_0, a1_1, a1_2)))) = some (r1, r2, r3, r4, r5, r6) := h
 clear h
 obtain ⟨t593, A3, H⟩ := bS H
 have HC4 := AM H
 clear H
 go_enter Try.func88, Try.ntmps88
 go_upto_if 8 with (first | ((with_reducible refine gate_dst (N := 2) rfl ?_); refine bE 2 #[.int .i64 a0_0, .int .i64 a0_1, .int .i64 a0_2] 27 ?_; intro gb589 hg w5 hbox hb; have BK589 := AM hbox; have GW589 := kG HB hg; replace HB := kH HB hb; have GE589 := GW589; clear hb hbox hg) | ((with_reducible refine gate_dst (N := 3) rfl ?_); refine bE 3 #[.int .i64 a1_0, .int .i64 a1_1, .int .i64 a1_2] 27 ?_; intro gb590 hg w6 hbox hb; have BK590 := AM hbox; have GW590 := kG HB hg; replace HB := kH HB hb; have GE590 := GW590; have NB589_590 := kN BK589 hg; have NB590_589 := kM BK589 hg; replace BK589 := kB BK589 hb; clear hb hbox hg) | ((with_reducible refine gate_dst (N := 4) rfl ?_); refine bE 4 #[.int .i64 0, .int .i64 0, .int .i64 0] 27 ?_; intro gb591 hg w7 hbox hb; have BK591 := AM hbox; have GW591 := kG HB hg; replace HB := kH HB hb; have GE591 := GW591; have NB589_591 := kN BK589 hg; have NB591_589 := kM BK589 hg; replace BK589 := kB BK589 hb; have NB590_591 := kN BK590 hg; have NB591_590 := kM BK590 hg; replace BK590 := kB BK590 hb; clear hb hbox hg) | ((with_reducible refine gate_dst (N := 5) rfl ?_); refine bE 5 #[.int .i64 0, .int .i64 0, .int .i64 0] 27 ?_; intro gb592 hg w8 hbox hb; have BK592 := AM hbox; have GW592 := kG HB hg; replace HB := kH HB hb; have GE592 := GW592; have NB589_592 := kN BK589 hg; have NB592_589 := kM BK589 hg; replace BK589 := kB BK589 hb; have NB590_592 := kN BK590 hg; have NB592_590 := kM BK590 hg; replace BK590 := kB BK590 hb; have NB591_592 := kN BK591 hg; have NB592_591 := kM BK591 hg; replace BK591 := kB BK591 hb; clear hb hbox hg; have hnb9 := NB590_589.out; have hnc9 := NB589_590.out; have hnb10 := NB590_591.out; have hnc10 := NB591_590.out; have hnb11 := NB590_592.out; have hnc11 := NB592_590.out; obtain ⟨hcz12_0, hcz12_1, hcz12_2, hfz12_0, hfz12_1, hfz12_2⟩ := c3 BK590; have hnb13 := NB589_591.out; have hnc13 := NB591_589.out; have hnb14 := NB589_592.out; have hnc14 := NB592_589.out; obtain ⟨hcz15_0, hcz15_1, hcz15_2, hfz15_0, hfz15_1, hfz15_2⟩ := c3 BK589) | ((with_reducible refine gate_callee (f := 89) rfl ?_); refine gL (some 8) Try.func89 #[.agg #[.int .i64 a1_0, .int .i64 a1_1, .int .i64 a1_2], .agg #[.int .i64 a0_0, .int .i64 a0_1, .int .i64 a0_2]] ?_; (with_reducible refine (geom_less.calls a1_0 a1_1 a1_2 a0_0 a0_1 a0_2 t593 _ A3.out).mono ?_); rintro e w16 ⟨rfl, hb⟩; refine ⟨_, rfl, ?_⟩; replace BK589 := kB BK589 hb; replace BK590 := kB BK590 hb; replace BK591 := kB BK591 hb; replace BK592 := kB BK592 hb; replace HB := kH HB hb; (try clear hb); (try clear hb2); (try clear hk); (try clear hi)))
 (try simp only [Act.put, List.setIfInBounds_toArray, List.set_cons_zero, List.set_cons_succ])
 have H := HC4.out; clear HC4
 by_cases c17 : t593 = true
 ·subst c17
  have H1 : (some (a1_0, a1_1, a1_2, a0_0, a0_1, a0_2)) = some (r1, r2, r3, r4, r5, r6) := by rw [if_pos rfl] at H; exact H
  clear H; have H := H1; clear H1
  simp only [Option.some.injEq, Prod.mk.injEq] at H
  obtain ⟨rfl, rfl, rfl, rfl, rfl, rfl⟩ := H
  try go_wp2
  replace BK589 := dB BK589; replace BK590 := dB BK590; replace BK591 := dB BK591; replace BK592 := dB BK592; replace HB := dH HB
  refine sP 4 (S := fun w' => w'.cell? ⟨gb590, 0, none⟩ = some (.int .i64 a1_0) ∧ w'.cell? ⟨gb590, 1, none⟩ = some (.int .i64 a1_1) ∧ w'.cell? ⟨gb590, 2, none⟩ = some (.int .i64 a1_2) ∧ w'.cell? ⟨gb589, 0, none⟩ = some (.int .i64 a0_0) ∧ w'.cell? ⟨gb589, 1, none⟩ = some (.int .i64 a0_1) ∧ w'.cell? ⟨gb589, 2, none⟩ = some (.int .i64 a0_2)) (ds := []) ⟨bC BK590, bC BK590, bC BK590, bC BK589, bC BK589, bC BK589⟩ fun hHeld => ?_
  generalize w16.drew = w18 at BK589 BK590 BK591 BK592 HB hHeld ⊢
  refine tP 0 (some 9) hHeld ?_; refine tP 1 (some 10) hHeld ?_
  refine oP 2 none rfl fun K hK => ?_
  have hs19 : w18.cell? ⟨gb591, 0, none⟩ = some (.int .i64 0) := bC BK591
  have hfs19 := blk_frozen BK591.out 0
  have hns19_0 := NB589_591.out; have hns19_1 := NB590_591.out; have hns19_3 := NB592_591.out; have hms19_0 := NB591_589.out; have hms19_1 := NB591_590.out; have hms19_3 := NB591_592.out
  have hs20 : w18.cell? ⟨gb591, 1, none⟩ = some (.int .i64 0) := bC BK591
  have hfs20 := blk_frozen BK591.out 1
  have hns20_0 := NB589_591.out; have hns20_1 := NB590_591.out; have hns20_3 := NB592_591.out; have hms20_0 := NB591_589.out; have hms20_1 := NB591_590.out; have hms20_3 := NB591_592.out
  have hs21 : w18.cell? ⟨gb591, 2, none⟩ = some (.int .i64 0) := bC BK591
  have hfs21 := blk_frozen BK591.out 2
  have hns21_0 := NB589_591.out; have hns21_1 := NB590_591.out; have hns21_3 := NB592_591.out; have hms21_0 := NB591_589.out; have hms21_1 := NB591_590.out; have hms21_3 := NB591_592.out
  refine skip_ (w1 := ?_) (by rfl) rfl ?_ ?_
  rotate_left
  ·go_simp
   rfl
  refine hK.out _ _ ⟨((cell_far (p := ⟨gb591, _, none⟩) NB590_591.out _).trans (((cell_far (p := ⟨gb591, _, none⟩) NB590_591.out _).trans (((cell_far (p := ⟨gb591, _, none⟩) NB590_591.out _).trans (hHeld.1)))))), ((cell_far (p := ⟨gb591, _, none⟩) NB590_591.out _).trans (((cell_far (p := ⟨gb591, _, none⟩) NB590_591.out _).trans (((cell_far (p := ⟨gb591, _, none⟩) NB590_591.out _).trans (hHeld.2.1)))))), ((cell_far (p := ⟨gb591, _, none⟩) NB590_591.out _).trans (((cell_far (p := ⟨gb591, _, none⟩) NB590_591.out _).trans (((cell_far (p := ⟨gb591, _, none⟩) NB590_591.out _).trans (hHeld.2.2.1)))))), ((cell_far (p := ⟨gb591, _, none⟩) NB589_591.out _).trans (((cell_far (p := ⟨gb591, _, none⟩) NB589_591.out _).trans (((cell_far (p := ⟨gb591, _, none⟩) NB589_591.out _).trans (hHeld.2.2.2.1)))))), ((cell_far (p := ⟨gb591, _, none⟩) NB589_591.out _).trans (((cell_far (p := ⟨gb591, _, none⟩) NB589_591.out _).trans (((cell_far (p := ⟨gb591, _, none⟩) NB589_591.out _).trans (hHeld.2.2.2.2.1)))))), ((cell_far (p := ⟨gb591, _, none⟩) NB589_591.out _).trans (((cell_far (p := ⟨gb591, _, none⟩) NB589_591.out _).trans (((cell_far (p := ⟨gb591, _, none⟩) NB589_591.out _).trans (hHeld.2.2.2.2.2))))))⟩ (fun hHeld => ?_)
  clear hK K
  refine oP 3 none rfl fun K hK => ?_
  have hs22 : w18.cell? ⟨gb592, 0, none⟩ = some (.int .i64 0) := bC BK592
  have hfs22 := blk_frozen BK592.out 0
  have hns22_0 := NB589_592.out; have hns22_1 := NB590_592.out; have hns22_2 := NB591_592.out; have hms22_0 := NB592_589.out; have hms22_1 := NB592_590.out; have hms22_2 := NB592_591.out
  have hs23 : w18.cell? ⟨gb592, 1, none⟩ = some (.int .i64 0) := bC BK592
  have hfs23 := blk_frozen BK592.out 1
  have hns23_0 := NB589_592.out; have hns23_1 := NB590_592.out; have hns23_2 := NB591_592.out; have hms23_0 := NB592_589.out; have hms23_1 := NB592_590.out; have hms23_2 := NB592_591.out
  have hs24 : w18.cell? ⟨gb592, 2, none⟩ = some (.int .i64 0) := bC BK592
  have hfs24 := blk_frozen BK592.out 2
  have hns24_0 := NB589_592.out; have hns24_1 := NB590_592.out; have hns24_2 := NB591_592.out; have hms24_0 := NB592_589.out; have hms24_1 := NB592_590.out; have hms24_2 := NB592_591.out
  refine skip_ (w1 := ?_) (by rfl) rfl ?_ ?_
  rotate_left
  ·go_simp
   rfl
  refine hK.out _ _ ⟨((cell_far (p := ⟨gb592, _, none⟩) NB590_592.out _).trans (((cell_far (p := ⟨gb592, _, none⟩) NB590_592.out _).trans (((cell_far (p := ⟨gb592, _, none⟩) NB590_592.out _).trans (hHeld.1)))))), ((cell_far (p := ⟨gb592, _, none⟩) NB590_592.out _).trans (((cell_far (p := ⟨gb592, _, none⟩) NB590_592.out _).trans (((cell_far (p := ⟨gb592, _, none⟩) NB590_592.out _).trans (hHeld.2.1)))))), ((cell_far (p := ⟨gb592, _, none⟩) NB590_592.out _).trans (((cell_far (p := ⟨gb592, _, none⟩) NB590_592.out _).trans (((cell_far (p := ⟨gb592, _, none⟩) NB590_592.out _).trans (hHeld.2.2.1)))))), ((cell_far (p := ⟨gb592, _, none⟩) NB589_592.out _).trans (((cell_far (p := ⟨gb592, _, none⟩) NB589_592.out _).trans (((cell_far (p := ⟨gb592, _, none⟩) NB589_592.out _).trans (hHeld.2.2.2.1)))))), ((cell_far (p := ⟨gb592, _, none⟩) NB589_592.out _).trans (((cell_far (p := ⟨gb592, _, none⟩) NB589_592.out _).trans (((cell_far (p := ⟨gb592, _, none⟩) NB589_592.out _).trans (hHeld.2.2.2.2.1)))))), ((cell_far (p := ⟨gb592, _, none⟩) NB589_592.out _).trans (((cell_far (p := ⟨gb592, _, none⟩) NB589_592.out _).trans (((cell_far (p := ⟨gb592, _, none⟩) NB589_592.out _).trans (hHeld.2.2.2.2.2))))))⟩ (fun hHeld => ?_)
  clear hK K
  refine done_ (by kernel_rfl) ?_
  try go_wp2
  refine bodyPost_ret (results_cc rfl _ _ gb591 gb592 27 27 #[.int .i64 a1_0, .int .i64 a1_1, .int .i64 a1_2] #[.int .i64 a0_0, .int .i64 a0_1, .int .i64 a0_2] (0, 0) (0, 0) _ _ rfl (by (with_reducible repeat (first | refine blk_drewN ?_ _ | refine blk_drew ?_ | refine blk_alloc ?_ _)); refine blk_far ?_ NB591_592.out _; (with_reducible repeat (first | refine blk_drewN ?_ _ | refine blk_drew ?_ | refine blk_alloc ?_ _)); refine blk_far ?_ NB591_592.out _; (with_reducible repeat (first | refine blk_drewN ?_ _ | refine blk_drew ?_ | refine blk_alloc ?_ _)); refine blk_far ?_ NB591_592.out _; (with_reducible repeat (first | refine blk_drewN ?_ _ | refine blk_drew ?_ | refine blk_alloc ?_ _)); refine blk_put (cs := #[.int .i64 a1_0, .int .i64 a1_1, .int .i64 0]) ?_ 2 _ rfl; (with_reducible repeat (first | refine blk_drewN ?_ _ | refine blk_drew ?_ | refine blk_alloc ?_ _)); refine blk_put (cs := #[.int .i64 a1_0, .int .i64 0, .int .i64 0]) ?_ 1 _ rfl; (with_reducible repeat (first | refine blk_drewN ?_ _ | refine blk_drew ?_ | refine blk_alloc ?_ _)); refine blk_put (cs := #[.int .i64 0, .int .i64 0, .int .i64 0]) ?_ 0 _ rfl; (with_reducible repeat (first | refine blk_drewN ?_ _ | refine blk_drew ?_ | refine blk_alloc ?_ _)); exact BK591.out) Try.underlying27 rfl (by kernel_rfl) rfl (by (with_reducible repeat (first | refine blk_drewN ?_ _ | refine blk_drew ?_ | refine blk_alloc ?_ _)); refine blk_put (cs := #[.int .i64 a0_0, .int .i64 a0_1, .int .i64 0]) ?_ 2 _ rfl; (with_reducible repeat (first | refine blk_drewN ?_ _ | refine blk_drew ?_ | refine blk_alloc ?_ _)); refine blk_put (cs := #[.int .i64 a0_0, .int .i64 0, .int .i64 0]) ?_ 1 _ rfl; (with_reducible repeat (first | refine blk_drewN ?_ _ | refine blk_drew ?_ | refine blk_alloc ?_ _)); refine blk_put (cs := #[.int .i64 0, .int .i64 0, .int .i64 0]) ?_ 0 _ rfl; (with_reducible repeat (first | refine blk_drewN ?_ _ | refine blk_drew ?_ | refine blk_alloc ?_ _)); refine blk_far ?_ NB592_591.out _; (with_reducible repeat (first | refine blk_drewN ?_ _ | refine blk_drew ?_ | refine blk_alloc ?_ _)); refine blk_far ?_ NB592_591.out _; (with_reducible repeat (first | refine blk_drewN ?_ _ | refine blk_drew ?_ | refine blk_alloc ?_ _)); refine blk_far ?_ NB592_591.out _; (with_reducible repeat (first | refine blk_drewN ?_ _ | refine blk_drew ?_ | refine blk_alloc ?_ _)); exact BK592.out) Try.underlying27 rfl (by kernel_rfl)) rfl ?_
  exact ⟨rE, bH HB⟩
 ·replace c17 := Bool.eq_false_iff.mpr c17
  subst c17
  have H1 : (some (a0_0, a0_1, a0_2, a1_0, a1_1, a1_2)) = some (r1, r2, r3, r4, r5, r6) := by rw [if_neg (show ¬ (false = true) by decide)] at H; exact H
  clear H; have H := H1; clear H1
  simp only [Option.some.injEq, Prod.mk.injEq] at H
  obtain ⟨rfl, rfl, rfl, rfl, rfl, rfl⟩ := H
  try go_wp2
  replace BK589 := dB BK589; replace BK590 := dB BK590; replace BK591 := dB BK591; replace BK592 := dB BK592; replace HB := dH HB
  refine sP 4 (S := fun w' => w'.cell? ⟨gb589, 0, none⟩ = some (.int .i64 a0_0) ∧ w'.cell? ⟨gb589, 1, none⟩ = some (.int .i64 a0_1) ∧ w'.cell? ⟨gb589, 2, none⟩ = some (.int .i64 a0_2) ∧ w'.cell? ⟨gb590, 0, none⟩ = some (.int .i64 a1_0) ∧ w'.cell? ⟨gb590, 1, none⟩ = some (.int .i64 a1_1) ∧ w'.cell? ⟨gb590, 2, none⟩ = some (.int .i64 a1_2)) (ds := []) ⟨bC BK589, bC BK589, bC BK589, bC BK590, bC BK590, bC BK590⟩ fun hHeld => ?_
  generalize w16.drew = w25 at BK589 BK590 BK591 BK592 HB hHeld ⊢
  refine tP 0 (some 11) hHeld ?_; refine tP 1 (some 12) hHeld ?_
  refine oP 2 none rfl fun K hK => ?_
  have hs26 : w25.cell? ⟨gb591, 0, none⟩ = some (.int .i64 0) := bC BK591
  have hfs26 := blk_frozen BK591.out 0
  have hns26_0 := NB589_591.out; have hns26_1 := NB590_591.out; have hns26_3 := NB592_591.out; have hms26_0 := NB591_589.out; have hms26_1 := NB591_590.out; have hms26_3 := NB591_592.out
  have hs27 : w25.cell? ⟨gb591, 1, none⟩ = some (.int .i64 0) := bC BK591
  have hfs27 := blk_frozen BK591.out 1
  have hns27_0 := NB589_591.out; have hns27_1 := NB590_591.out; have hns27_3 := NB592_591.out; have hms27_0 := NB591_589.out; have hms27_1 := NB591_590.out; have hms27_3 := NB591_592.out
  have hs28 : w25.cell? ⟨gb591, 2, none⟩ = some (.int .i64 0) := bC BK591
  have hfs28 := blk_frozen BK591.out 2
  have hns28_0 := NB589_591.out; have hns28_1 := NB590_591.out; have hns28_3 := NB592_591.out; have hms28_0 := NB591_589.out; have hms28_1 := NB591_590.out; have hms28_3 := NB591_592.out
  refine skip_ (w1 := ?_) (by rfl) rfl ?_ ?_
  rotate_left
  ·go_simp
   rfl
  refine hK.out _ _ ⟨((cell_far (p := ⟨gb591, _, none⟩) NB589_591.out _).trans (((cell_far (p := ⟨gb591, _, none⟩) NB589_591.out _).trans (((cell_far (p := ⟨gb591, _, none⟩) NB589_591.out _).trans (hHeld.1)))))), ((cell_far (p := ⟨gb591, _, none⟩) NB589_591.out _).trans (((cell_far (p := ⟨gb591, _, none⟩) NB589_591.out _).trans (((cell_far (p := ⟨gb591, _, none⟩) NB589_591.out _).trans (hHeld.2.1)))))), ((cell_far (p := ⟨gb591, _, none⟩) NB589_591.out _).trans (((cell_far (p := ⟨gb591, _, none⟩) NB589_591.out _).trans (((cell_far (p := ⟨gb591, _, none⟩) NB589_591.out _).trans (hHeld.2.2.1)))))), ((cell_far (p := ⟨gb591, _, none⟩) NB590_591.out _).trans (((cell_far (p := ⟨gb591, _, none⟩) NB590_591.out _).trans (((cell_far (p := ⟨gb591, _, none⟩) NB590_591.out _).trans (hHeld.2.2.2.1)))))), ((cell_far (p := ⟨gb591, _, none⟩) NB590_591.out _).trans (((cell_far (p := ⟨gb591, _, none⟩) NB590_591.out _).trans (((cell_far (p := ⟨gb591, _, none⟩) NB590_591.out _).trans (hHeld.2.2.2.2.1)))))), ((cell_far (p := ⟨gb591, _, none⟩) NB590_591.out _).trans (((cell_far (p := ⟨gb591, _, none⟩) NB590_591.out _).trans (((cell_far (p := ⟨gb591, _, none⟩) NB590_591.out _).trans (hHeld.2.2.2.2.2))))))⟩ (fun hHeld => ?_)
  clear hK K
  refine oP 3 none rfl fun K hK => ?_
  have hs29 : w25.cell? ⟨gb592, 0, none⟩ = some (.int .i64 0) := bC BK592
  have hfs29 := blk_frozen BK592.out 0
  have hns29_0 := NB589_592.out; have hns29_1 := NB590_592.out; have hns29_2 := NB591_592.out; have hms29_0 := NB592_589.out; have hms29_1 := NB592_590.out; have hms29_2 := NB592_591.out
  have hs30 : w25.cell? ⟨gb592, 1, none⟩ = some (.int .i64 0) := bC BK592
  have hfs30 := blk_frozen BK592.out 1
  have hns30_0 := NB589_592.out; have hns30_1 := NB590_592.out; have hns30_2 := NB591_592.out; have hms30_0 := NB592_589.out; have hms30_1 := NB592_590.out; have hms30_2 := NB592_591.out
  have hs31 : w25.cell? ⟨gb592, 2, none⟩ = some (.int .i64 0) := bC BK592
  have hfs31 := blk_frozen BK592.out 2
  have hns31_0 := NB589_592.out; have hns31_1 := NB590_592.out; have hns31_2 := NB591_592.out; have hms31_0 := NB592_589.out; have hms31_1 := NB592_590.out; have hms31_2 := NB592_591.out
  refine skip_ (w1 := ?_) (by rfl) rfl ?_ ?_
  rotate_left
  ·go_simp
   rfl
  refine hK.out _ _ ⟨((cell_far (p := ⟨gb592, _, none⟩) NB589_592.out _).trans (((cell_far (p := ⟨gb592, _, none⟩) NB589_592.out _).trans (((cell_far (p := ⟨gb592, _, none⟩) NB589_592.out _).trans (hHeld.1)))))), ((cell_far (p := ⟨gb592, _, none⟩) NB589_592.out _).trans (((cell_far (p := ⟨gb592, _, none⟩) NB589_592.out _).trans (((cell_far (p := ⟨gb592, _, none⟩) NB589_592.out _).trans (hHeld.2.1)))))), ((cell_far (p := ⟨gb592, _, none⟩) NB589_592.out _).trans (((cell_far (p := ⟨gb592, _, none⟩) NB589_592.out _).trans (((cell_far (p := ⟨gb592, _, none⟩) NB589_592.out _).trans (hHeld.2.2.1)))))), ((cell_far (p := ⟨gb592, _, none⟩) NB590_592.out _).trans (((cell_far (p := ⟨gb592, _, none⟩) NB590_592.out _).trans (((cell_far (p := ⟨gb592, _, none⟩) NB590_592.out _).trans (hHeld.2.2.2.1)))))), ((cell_far (p := ⟨gb592, _, none⟩) NB590_592.out _).trans (((cell_far (p := ⟨gb592, _, none⟩) NB590_592.out _).trans (((cell_far (p := ⟨gb592, _, none⟩) NB590_592.out _).trans (hHeld.2.2.2.2.1)))))), ((cell_far (p := ⟨gb592, _, none⟩) NB590_592.out _).trans (((cell_far (p := ⟨gb592, _, none⟩) NB590_592.out _).trans (((cell_far (p := ⟨gb592, _, none⟩) NB590_592.out _).trans (hHeld.2.2.2.2.2))))))⟩ (fun hHeld => ?_)
  clear hK K
  refine done_ (by kernel_rfl) ?_
  try go_wp2
  refine bodyPost_ret (results_cc rfl _ _ gb591 gb592 27 27 #[.int .i64 a0_0, .int .i64 a0_1, .int .i64 a0_2] #[.int .i64 a1_0, .int .i64 a1_1, .int .i64 a1_2] (0, 0) (0, 0) _ _ rfl (by (with_reducible repeat (first | refine blk_drewN ?_ _ | refine blk_drew ?_ | refine blk_alloc ?_ _)); refine blk_far ?_ NB591_592.out _; (with_reducible repeat (first | refine blk_drewN ?_ _ | refine blk_drew ?_ | refine blk_alloc ?_ _)); refine blk_far ?_ NB591_592.out _; (with_reducible repeat (first | refine blk_drewN ?_ _ | refine blk_drew ?_ | refine blk_alloc ?_ _)); refine blk_far ?_ NB591_592.out _; (with_reducible repeat (first | refine blk_drewN ?_ _ | refine blk_drew ?_ | refine blk_alloc ?_ _)); refine blk_put (cs := #[.int .i64 a0_0, .int .i64 a0_1, .int .i64 0]) ?_ 2 _ rfl; (with_reducible repeat (first | refine blk_drewN ?_ _ | refine blk_drew ?_ | refine blk_alloc ?_ _)); refine blk_put (cs := #[.int .i64 a0_0, .int .i64 0, .int .i64 0]) ?_ 1 _ rfl; (with_reducible repeat (first | refine blk_drewN ?_ _ | refine blk_drew ?_ | refine blk_alloc ?_ _)); refine blk_put (cs := #[.int .i64 0, .int .i64 0, .int .i64 0]) ?_ 0 _ rfl; (with_reducible repeat (first | refine blk_drewN ?_ _ | refine blk_drew ?_ | refine blk_alloc ?_ _)); exact BK591.out) Try.underlying27 rfl (by kernel_rfl) rfl (by (with_reducible repeat (first | refine blk_drewN ?_ _ | refine blk_drew ?_ | refine blk_alloc ?_ _)); refine blk_put (cs := #[.int .i64 a1_0, .int .i64 a1_1, .int .i64 0]) ?_ 2 _ rfl; (with_reducible repeat (first | refine blk_drewN ?_ _ | refine blk_drew ?_ | refine blk_alloc ?_ _)); refine blk_put (cs := #[.int .i64 a1_0, .int .i64 0, .int .i64 0]) ?_ 1 _ rfl; (with_reducible repeat (first | refine blk_drewN ?_ _ | refine blk_drew ?_ | refine blk_alloc ?_ _)); refine blk_put (cs := #[.int .i64 0, .int .i64 0, .int .i64 0]) ?_ 0 _ rfl; (with_reducible repeat (first | refine blk_drewN ?_ _ | refine blk_drew ?_ | refine blk_alloc ?_ _)); refine blk_far ?_ NB592_591.out _; (with_reducible repeat (first | refine blk_drewN ?_ _ | refine blk_drew ?_ | refine blk_alloc ?_ _)); refine blk_far ?_ NB592_591.out _; (with_reducible repeat (first | refine blk_drewN ?_ _ | refine blk_drew ?_ | refine blk_alloc ?_ _)); refine blk_far ?_ NB592_591.out _; (with_reducible repeat (first | refine blk_drewN ?_ _ | refine blk_drew ?_ | refine blk_alloc ?_ _)); exact BK592.out) Try.underlying27 rfl (by kernel_rfl)) rfl ?_
  exact ⟨rE, bH HB⟩
end Go.Proofs.Ytbonkedecfjmdaa.P
