/- Written for this claim by a program of this session (a turned copy of the print): Go functions as Lean functions, and that the Go code comes to just these answers; or a statement proved out of them. No condition. -/
import Derived.Test.YtfbkjgedaadlmaaPx0
namespace Go.Proofs.Ytfbkjgedaadlmaa.P
open Go.RowKit Go.Proofs.YtfbkjgedaadlmaaW.PrintWords Go.Proofs.YtfbkjgedaadlmaaW.PrintLast Go.Proofs.YtfbkjgedaadlmaaW.PrintMore Go.Proofs.Ytfbkjgedaadlmaa.X
attribute [local go_sem] max2_int min2_int max_two min_two max_three min_three max_four min_four   -- for this text's walks alone
set_option linter.unusedVariables false
set_option linter.unusedSimpArgs false

/-! ### lapidaryref16_Arc: function 13 -/
mutual
def lapidaryref16_Arc.j0 : Nat → Int → List (S42) → Int → List (List (S42)) → List (List Int) → List (List Int) → Option ((List (S42)) × Int)
 | 0, _, _, _, _, _, _ => none
 | k + 1, x1, x6, x7, x169000, x169001, x169002 => if x7 < 0 then (lapidaryref16_Arc.j1 k x1 x6 x7 true x169000 x169001 x169002) else (lapidaryref16_Arc.j1 k x1 x6 x7 (decide (x7 ≥ (x169000.length : Int))) x169000 x169001 x169002)
def lapidaryref16_Arc.j1 : Nat → Int → List (S42) → Int → Bool → List (List (S42)) → List (List Int) → List (List Int) → Option ((List (S42)) × Int)
 | 0, _, _, _, _, _, _, _ => none
 | k + 1, x1, x6, x7, x23, x169000, x169001, x169002 => if x23 = true then (some (([] : List (S42)), 2)) else (if 0 ≤ x7 then (if x7 < (x169000.length : Int) then (lapidaryref16_Arc.l0 k x1 x6 (rd_L2 x169000 x7) 0) else (none)) else (none))
def lapidaryref16_Arc.l0 : Nat → Int → List (S42) → List (S42) → Int → Option ((List (S42)) × Int)
 | 0, _, _, _, _ => none
 | k + 1, x1, x6, x8, x9 => if x9 < (x8.length : Int) then (if x1 < 0 then (if 0 ≤ (wrap64 ((wrap64 ((x8.length : Int) - 1)) - x9)) then (if (wrap64 ((wrap64 ((x8.length : Int) - 1)) - x9)) < (x8.length : Int) then (if x6.length < 5864062014805 then (lapidaryref16_Arc.l0 k x1 (x6 ++ [(⟨(rd_T42 x8 (wrap64 ((wrap64 ((x8.length : Int) - 1)) - x9))).f0, (rd_T42 x8 (wrap64 ((wrap64 ((x8.length : Int) - 1)) - x9))).f1, (rd_T42 x8 (wrap64 ((wrap64 ((x8.length : Int) - 1)) - x9))).f2⟩ : S42)]) x8 (wrap64 (x9 + 1))) else (none)) else (none)) else (none)) else (if 0 ≤ x9 then (if x6.length < 5864062014805 then (lapidaryref16_Arc.l0 k x1 (x6 ++ [(⟨(rd_T42 x8 x9).f0, (rd_T42 x8 x9).f1, (rd_T42 x8 x9).f2⟩ : S42)]) x8 (wrap64 (x9 + 1))) else (none)) else (none))) else (some (x6, 0))
end
def lapidaryref16_Arc.f (k : Nat) (l0_0 : List (List (S42))) (l0_1 : List (List Int)) (l0_2 : List (List Int)) (a1 : Int) : Option ((List (S42)) × Int) := if a1 < 0 then (lapidaryref16_Arc.j0 k a1 ([] : List (S42)) (wrap64 ((-1) - a1)) l0_0 l0_1 l0_2) else (lapidaryref16_Arc.j0 k a1 ([] : List (S42)) a1 l0_0 l0_1 l0_2)
theorem lapidaryref16_Arc.mono_l : ∀ k, (∀ y0 y1 y2 y3 y4 y5, LeO (lapidaryref16_Arc.j0 k y0 y1 y2 y3 y4 y5) (lapidaryref16_Arc.j0 (k + 1) y0 y1 y2 y3 y4 y5)) ∧ (∀ y0 y1 y2 y3 y4 y5 y6, LeO (lapidaryref16_Arc.j1 k y0 y1 y2 y3 y4 y5 y6) (lapidaryref16_Arc.j1 (k + 1) y0 y1 y2 y3 y4 y5 y6)) ∧ (∀ y0 y1 y2 y3, LeO (lapidaryref16_Arc.l0 k y0 y1 y2 y3) (lapidaryref16_Arc.l0 (k + 1) y0 y1 y2 y3))
 | 0 => ⟨fun _ _ _ _ _ _ r h => by simp [lapidaryref16_Arc.j0] at h, fun _ _ _ _ _ _ _ r h => by simp [lapidaryref16_Arc.j1] at h, fun _ _ _ _ r h => by simp [lapidaryref16_Arc.l0] at h⟩
 | k + 1 => by
  obtain ⟨ih0, ih1, ih2⟩ := lapidaryref16_Arc.mono_l k
  refine ⟨?_, ?_, ?_⟩
  ·intro y0 y1 y2 y3 y4 y5
   unfold lapidaryref16_Arc.j0
   repeat' first
   | (with_reducible exact ih0 _ _ _ _ _ _)
   | (with_reducible exact ih1 _ _ _ _ _ _ _)
   | (with_reducible exact ih2 _ _ _ _)
   | (with_reducible exact LeO.refl _)
   | (with_reducible exact LeO.none _)
   | (with_reducible refine LeO.ite ?_ ?_)
   | (with_reducible refine LeO.bind ?_ (fun _ => ?_))
   | exact ih0 _ _ _ _ _ _
   | exact ih1 _ _ _ _ _ _ _
   | exact ih2 _ _ _ _
   | exact LeO.none _
   | refine LeO.ite ?_ ?_
   | refine LeO.bind ?_ (fun _ => ?_)
  ·intro y0 y1 y2 y3 y4 y5 y6
   unfold lapidaryref16_Arc.j1
   repeat' first
   | (with_reducible exact ih0 _ _ _ _ _ _)
   | (with_reducible exact ih1 _ _ _ _ _ _ _)
   | (with_reducible exact ih2 _ _ _ _)
   | (with_reducible exact LeO.refl _)
   | (with_reducible exact LeO.none _)
   | (with_reducible refine LeO.ite ?_ ?_)
   | (with_reducible refine LeO.bind ?_ (fun _ => ?_))
   | exact ih0 _ _ _ _ _ _
   | exact ih1 _ _ _ _ _ _ _
   | exact ih2 _ _ _ _
   | exact LeO.none _
   | refine LeO.ite ?_ ?_
   | refine LeO.bind ?_ (fun _ => ?_)
  ·intro y0 y1 y2 y3
   unfold lapidaryref16_Arc.l0
   repeat' first
   | (with_reducible exact ih0 _ _ _ _ _ _)
   | (with_reducible exact ih1 _ _ _ _ _ _ _)
   | (with_reducible exact ih2 _ _ _ _)
   | (with_reducible exact LeO.refl _)
   | (with_reducible exact LeO.none _)
   | (with_reducible refine LeO.ite ?_ ?_)
   | (with_reducible refine LeO.bind ?_ (fun _ => ?_))
   | exact ih0 _ _ _ _ _ _
   | exact ih1 _ _ _ _ _ _ _
   | exact ih2 _ _ _ _
   | exact LeO.none _
   | refine LeO.ite ?_ ?_
   | refine LeO.bind ?_ (fun _ => ?_)
theorem lapidaryref16_Arc.mono : ∀ a0 a1 a2 a3 k, LeO (lapidaryref16_Arc.f k a0 a1 a2 a3) (lapidaryref16_Arc.f (k + 1) a0 a1 a2 a3) := by
 intro a0 a1 a2 a3 k
 obtain ⟨ih0, ih1, ih2⟩ := lapidaryref16_Arc.mono_l k
 unfold lapidaryref16_Arc.f
 repeat' first
   | (with_reducible exact ih0 _ _ _ _ _ _)
   | (with_reducible exact ih1 _ _ _ _ _ _ _)
   | (with_reducible exact ih2 _ _ _ _)
   | (with_reducible exact LeO.refl _)
   | (with_reducible exact LeO.none _)
   | (with_reducible refine LeO.ite ?_ ?_)
   | (with_reducible refine LeO.bind ?_ (fun _ => ?_))
   | exact ih0 _ _ _ _ _ _
   | exact ih1 _ _ _ _ _ _ _
   | exact ih2 _ _ _ _
   | exact LeO.none _
   | refine LeO.ite ?_ ?_
   | refine LeO.bind ?_ (fun _ => ?_)
set_option maxHeartbeats 8000000 in
set_option maxRecDepth 100000 in
theorem lapidaryref16_Arc.calls (k : Nat) (A0_0 : Option Addr) (c0_0 : Nat) (l0_0 : List (List (S42))) (A0_1 : Option Addr) (c0_1 : Nat) (l0_1 : List (List Int)) (A0_2 : Option Addr) (c0_2 : Nat) (l0_2 : List (List Int)) (a1 : Int) (r1 : List (S42)) (r2 : Int) (w : World) (hr0_0 : Kd.C (Kd.slice 42 k42) w A0_0 l0_0.length l0_0) (hc0_0 : l0_0.length ≤ c0_0) (hr0_1 : Kd.C (Kd.slice 3 (Kd.int .i64)) w A0_1 l0_1.length l0_1) (hc0_1 : l0_1.length ≤ c0_1) (hr0_2 : Kd.C (Kd.slice 3 (Kd.int .i64)) w A0_2 l0_2.length l0_2) (hc0_2 : l0_2.length ≤ c0_2) (h : lapidaryref16_Arc.f k l0_0 l0_1 l0_2 a1 = some (r1, r2)) :
  Calls Try.prog 13 #[.agg #[.slice A0_0 l0_0.length c0_0, .slice A0_1 l0_1.length c0_1, .slice A0_2 l0_2.length c0_2], .int .i64 a1] w fun e w' => ∃ v0_ : Value, e = .returned (.tuple #[v0_, .int .i64 r2]) ∧ Kd.R k42 42 w' w.heap.size (fun _ => True) v0_ r1 ∧ Below w.heap.size w w' := by
 have hu25 := Try.underlying25
 have hu42 := Try.underlying42
 have HR0_0 := Aside0.mk hr0_0
 have HC0_0 := Aside0.mk hc0_0
 clear hr0_0 hc0_0
 have HR0_1 := Aside0.mk hr0_1
 have HC0_1 := Aside0.mk hc0_1
 clear hr0_1 hc0_1
 have HR0_2 := Aside0.mk hr0_2
 have HC0_2 := Aside0.mk hc0_2
 clear hr0_2 hc0_2
 have HB := Aside0.mk (Below.refl w.heap.size w)
 have H : (if a1 < 0 then (lapidaryref16_Arc.j0 k a1 ([] : List (S42)) (wrap64 ((-1) - a1)) l0_0 l0_1 l0_2) else (lapidaryref16_Arc.j0 k a1 ([] : List (S42)) a1 l0_0 l0_1 l0_2)) = some (r1, r2) := h
 clear h
 have HC3 := Aside0.mk H
 clear H
 go_enter Try.func13, Try.ntmps13
 go_upto_if 12 with (first | ((with_reducible refine gate_dst (N := 2) rfl ?_); (try (refine gate_guard (by rfl) ?_; dsimp only)); refine box_event ?hg (N := 2) ?hd (cs := #[.slice A0_0 l0_0.length c0_0, .slice A0_1 l0_1.length c0_1, .slice A0_2 l0_2.length c0_2]) (t := 25) ?hr ?_; (case hd => rfl); (case hg => rfl); (case hr => first | (go_simp; done) | (go_simp; rfl)); intro gb168 hg w4 hbox hb; have n0_ := Aside0.mk (below_step (bH HB) hb); have n1_ := Aside0.mk (hbox); have n2_ := Aside0.mk ((by rw [hg]; exact (below_size (bH HB)) : w.heap.size ≤ gb168)); have n3_ := n2_; clear HB; have HB := n0_; have BK168 := n1_; have GW168 := n2_; have GE168 := n3_; clear n0_ n1_ n2_ n3_; clear hb hbox hg))
 (try simp only [Act.put, List.setIfInBounds_toArray, List.set_cons_zero, List.set_cons_succ])
 go_cut [7] (fun v7 wc => ∃ (kq : Nat) (x7_2 : Int), v7 = .int .i64 x7_2 ∧ Aside0 (lapidaryref16_Arc.j0 kq a1 ([] : List (S42)) x7_2 l0_0 l0_1 l0_2 = some (r1, r2)) ∧ Aside0 (kq ≤ k) ∧ Aside0 (Kd.R k42 42 wc w.heap.size (fun _ => True) (.slice none 0 0) ([] : List (S42))) ∧ Aside0 (wc.heap[gb168]? = some (.cells #[(.slice A0_0 l0_0.length c0_0), (.slice A0_1 l0_1.length c0_1), (.slice A0_2 l0_2.length c0_2)] 25 (0, 0))) ∧ Aside0 (Below w.heap.size w wc))
 case first =>
  have H := HC3.out
  clear HC3
  by_cases c5 : a1 < 0
  ·rw [if_pos c5] at H
   have c5b0 : decide (a1 < 0) = true := decide_eq_true c5
   clear c5
   (first | rw [c5b0] | (simp only [i64_w, i32_w]; rw [c5b0]) | skip)
   have H' := Aside0.mk H
   clear H
   go_wp2
   go_meet
   case rel => exact ⟨_, (wrap64 ((-1) - a1)), (by first | rfl | (simp; done) | (simp [*]; done)), H', ⟨by first | omega | exact Nat.le_refl _⟩, ⟨by first | exact Kd.R_nil _ _ _ _ _ | exact Kd.N_nil _ _ _ _ _ | exact Kd.V_nil _ _ _ _ _ | exact Kd.Q_nil _ _ _ _ _ | exact Kd.S_nil _ _ _ _ _⟩, ⟨bK BK168⟩, ⟨ bH HB⟩⟩
  ·rw [if_neg c5] at H
   have c5b0 : decide (a1 < 0) = false := decide_eq_false c5
   clear c5
   (first | rw [c5b0] | (simp only [i64_w, i32_w]; rw [c5b0]) | skip)
   have H' := Aside0.mk H
   clear H
   go_wp2
   go_meet
   case rel => exact ⟨_, (a1), (by first | rfl | (simp; done) | (simp [*]; done)), H', ⟨by first | omega | exact Nat.le_refl _⟩, ⟨by first | exact Kd.R_nil _ _ _ _ _ | exact Kd.N_nil _ _ _ _ _ | exact Kd.V_nil _ _ _ _ _ | exact Kd.Q_nil _ _ _ _ _ | exact Kd.S_nil _ _ _ _ _⟩, ⟨bK BK168⟩, ⟨ bH HB⟩⟩
 case rest =>
  clear HC3
  try clear c1
  try clear p2
  try clear c5
  try clear c5b0
  obtain ⟨kq, x7_2, rfl, HA, HJ2, HO_6, BK168, HB⟩ := hcut
  cases kq with
  | zero => exact absurd HA.out (by simp [lapidaryref16_Arc.j0])
  | succ kj2 =>
   have H := HA.out
   clear HA
   simp only [lapidaryref16_Arc.j0] at H
   have HC6 := Aside0.mk H
   clear H
   go_upto_region 5 with (fail)
   go_cut [23] (fun v23 wc => ∃ (kq : Nat) (x23_5 : Bool), v23 = .bool x23_5 ∧ Aside0 (lapidaryref16_Arc.j1 kq a1 ([] : List (S42)) x7_2 x23_5 l0_0 l0_1 l0_2 = some (r1, r2)) ∧ Aside0 (kq ≤ kj2) ∧ Aside0 (Kd.R k42 42 wc w.heap.size (fun _ => True) (.slice none 0 0) ([] : List (S42))) ∧ Aside0 (wc.heap[gb168]? = some (.cells #[(.slice A0_0 l0_0.length c0_0), (.slice A0_1 l0_1.length c0_1), (.slice A0_2 l0_2.length c0_2)] 25 (0, 0))) ∧ Aside0 (Below w.heap.size w wc))
   case first =>
    have H := HC6.out
    clear HC6
    by_cases c7 : x7_2 < 0
    ·rw [if_pos c7] at H
     have c7b0 : decide (x7_2 < 0) = true := decide_eq_true c7
     clear c7
     (first | rw [c7b0] | (simp only [i64_w, i32_w]; rw [c7b0]) | skip)
     have H' := Aside0.mk H
     clear H
     go_wp2
     go_meet
     case rel => exact ⟨_, (true), (by first | rfl | (simp; done) | (simp [*]; done)), H', ⟨by have := HJ2.out; first | omega | exact Nat.le_refl _⟩, ⟨by (with_reducible repeat (first | apply Kd.R_alloc | apply Kd.R_drewN | apply Kd.R_drew)); exact HO_6.out⟩, ⟨bK BK168⟩, ⟨ bH HB⟩⟩
    ·rw [if_neg c7] at H
     have c7b0 : decide (x7_2 < 0) = false := decide_eq_false c7
     clear c7
     (first | rw [c7b0] | (simp only [i64_w, i32_w]; rw [c7b0]) | skip)
     have H' := Aside0.mk H
     clear H
     have hcz8_0 : wc.cell? ⟨gb168, 0, none⟩ = some (.slice A0_0 l0_0.length c0_0) := (blk_cell BK168.out 0).trans rfl
     have hcz8_1 : wc.cell? ⟨gb168, 1, none⟩ = some (.slice A0_1 l0_1.length c0_1) := (blk_cell BK168.out 1).trans rfl
     have hcz8_2 : wc.cell? ⟨gb168, 2, none⟩ = some (.slice A0_2 l0_2.length c0_2) := (blk_cell BK168.out 2).trans rfl
     have hfz8_0 := blk_frozen BK168.out 0
     have hfz8_1 := blk_frozen BK168.out 1
     have hfz8_2 := blk_frozen BK168.out 2
     go_wp2
     go_meet
     case rel => exact ⟨_, (decide (x7_2 ≥ (l0_0.length : Int))), (by first | rfl | (simp; done) | (simp [*]; done)), H', ⟨by have := HJ2.out; first | omega | exact Nat.le_refl _⟩, ⟨by (with_reducible repeat (first | apply Kd.R_alloc | apply Kd.R_drewN | apply Kd.R_drew)); exact HO_6.out⟩, ⟨bK BK168⟩, ⟨ bH HB⟩⟩
   case rest =>
    clear HC6
    try clear c1
    try clear p2
    try clear c5
    try clear c5b0
    try clear p6
    try clear c7
    try clear c7b0
    try clear hcz8_0
    try clear hcz8_1
    try clear hcz8_2
    try clear hfz8_0
    try clear hfz8_1
    try clear hfz8_2
    try clear p2
    obtain ⟨kq, x23_5, rfl, HA, HJ5, HO_6, BK168, HB⟩ := hcut
    cases kq with
    | zero => exact absurd HA.out (by simp [lapidaryref16_Arc.j1])
    | succ kj5 =>
     have H := HA.out
     clear HA
     simp only [lapidaryref16_Arc.j1] at H
     by_cases c9 : x23_5 = true
     ·subst c9
      have H1 : (some (([] : List (S42)), 2)) = some (r1, r2) := by rw [if_pos rfl] at H; exact H
      clear H
      have H := H1
      clear H1
      simp only [Option.some.injEq, Prod.mk.injEq] at H
      obtain ⟨rfl, rfl⟩ := H
      go_wp2
      go_ret2
      exact ⟨_, by first | rfl | (simp [errW_none, errW_some] <;> rfl) | (simp [*, errW_none, errW_some] <;> rfl), by first | exact Kd.R_nil _ _ _ _ _ | exact Kd.N_nil _ _ _ _ _ | exact Kd.V_nil _ _ _ _ _ | exact Kd.Q_nil _ _ _ _ _ | exact Kd.S_nil _ _ _ _ _, bH HB⟩
     ·replace c9 := Bool.eq_false_iff.mpr c9
      subst c9
      have H1 : (if 0 ≤ x7_2 then (if x7_2 < (l0_0.length : Int) then (lapidaryref16_Arc.l0 kj5 a1 ([] : List (S42)) (rd_L2 l0_0 x7_2) 0) else (none)) else (none)) = some (r1, r2) := by rw [if_neg (show ¬ (false = true) by decide)] at H; exact H
      clear H
      have H := H1
      clear H1
      by_cases c10 : 0 ≤ x7_2
      ·rw [if_pos c10] at H
       have c10b0 : decide (0 ≤ x7_2) = true := decide_eq_true c10
       clear c10
       by_cases c11 : x7_2 < (l0_0.length : Int)
       ·rw [if_pos c11] at H
        have c11b0 : decide (x7_2 < (l0_0.length : Int)) = true := decide_eq_true c11
        clear c11
        have H' := Aside0.mk H
        clear H
        have hcz12_0 : wc.cell? ⟨gb168, 0, none⟩ = some (.slice A0_0 l0_0.length c0_0) := (blk_cell BK168.out 0).trans rfl
        have hcz12_1 : wc.cell? ⟨gb168, 1, none⟩ = some (.slice A0_1 l0_1.length c0_1) := (blk_cell BK168.out 1).trans rfl
        have hcz12_2 : wc.cell? ⟨gb168, 2, none⟩ = some (.slice A0_2 l0_2.length c0_2) := (blk_cell BK168.out 2).trans rfl
        have hfz12_0 := blk_frozen BK168.out 0
        have hfz12_1 := blk_frozen BK168.out 1
        have hfz12_2 := blk_frozen BK168.out 2
        have p169 : 0 ≤ (x7_2 : Int) := of_decide_eq_true (by first | (with_reducible assumption) | assumption)
        have q169 : x7_2 < (l0_0.length : Int) := of_decide_eq_true (by first | (with_reducible assumption) | assumption)
        obtain ⟨ad169, A169_0, c169_0, e169, hx169_0, hl169_0, hi169_0⟩ := at_L2 HR0_0.out x7_2 p169 q169
        cases e169
        replace hx169_0 := (HB.out.cell (World.block_lt_of_cell? w _ hx169_0)).trans hx169_0
        have HR169_0 := Aside0.mk hi169_0
        have HC169_0 := Aside0.mk hl169_0
        clear hi169_0 hl169_0
        replace p169 := eq_true p169
        replace q169 := eq_true q169
        go_wp2
        go_loopg [6, 9] kj5 (fun kq v6 v9 w' => ∃ (x6_3 : List (S42)) (x9_3 : Int), v9 = .int .i64 x9_3 ∧ Aside0 (lapidaryref16_Arc.l0 kq a1 x6_3 (rd_L2 l0_0 x7_2) x9_3 = some (r1, r2)) ∧ Aside0 (kq ≤ kj5) ∧ Aside0 (Kd.R k42 42 w' w.heap.size (fun _ => True) v6 x6_3) ∧ Aside0 (w'.heap[gb168]? = some (.cells #[(.slice (some ad169) l0_0.length c0_0), (.slice A0_1 l0_1.length c0_1), (.slice A0_2 l0_2.length c0_2)] 25 (0, 0))) ∧ Aside0 (Below w.heap.size w w'))
        case atStart => exact ⟨(([] : List (S42))), (0), (by first | rfl | (simp; done) | (simp [*]; done)), H', ⟨Nat.le_refl _⟩, ⟨by (with_reducible repeat (first | apply Kd.R_alloc | apply Kd.R_drewN | apply Kd.R_drew)); exact HO_6.out⟩, ⟨bK BK168⟩, ⟨ bH HB⟩⟩
        case round =>
         clear H'
         try clear c1
         try clear p1
         try clear q1
         try clear hx1
         try clear p2
         try clear c5
         try clear c5b0
         try clear p6
         try clear c7
         try clear c7b0
         try clear c9
         try clear c10
         try clear c10b0
         try clear c11
         try clear c11b0
         try clear hcz12_0
         try clear hcz12_1
         try clear hcz12_2
         try clear hcz8_0
         try clear hcz8_1
         try clear hcz8_2
         try clear hfz12_0
         try clear hfz12_1
         try clear hfz12_2
         try clear hfz8_0
         try clear hfz8_1
         try clear hfz8_2
         try clear hx169_0
         try clear p169
         try clear p2
         try clear p6
         try clear q169
         obtain ⟨x6_3, x9_3, rfl, HA, HK3, HO_6, BK168, HB⟩ := hrel
         cases gk with
         | zero => exact absurd HA.out (by simp [lapidaryref16_Arc.l0])
         | succ k3 =>
          have H := HA.out
          clear HA
          simp only [lapidaryref16_Arc.l0] at H
          by_cases c13 : x9_3 < ((rd_L2 l0_0 x7_2).length : Int)
          ·rw [if_pos c13] at H
           have c13b0 : decide (x9_3 < ((rd_L2 l0_0 x7_2).length : Int)) = true := decide_eq_true c13
           clear c13
           by_cases c14 : a1 < 0
           ·rw [if_pos c14] at H
            have c14b0 : decide (a1 < 0) = true := decide_eq_true c14
            clear c14
            obtain ⟨ji15, hji15⟩ : ∃ j_ : Int, (wrap64 ((wrap64 (((rd_L2 l0_0 x7_2).length : Int) - 1)) - x9_3)) = j_ := ⟨_, rfl⟩
            replace H : (if 0 ≤ (ji15) then (if (ji15) < ((rd_L2 l0_0 x7_2).length : Int) then (if x6_3.length < 5864062014805 then (lapidaryref16_Arc.l0 k3 a1 (x6_3 ++ [(⟨(rd_T42 (rd_L2 l0_0 x7_2) (ji15)).f0, (rd_T42 (rd_L2 l0_0 x7_2) (ji15)).f1, (rd_T42 (rd_L2 l0_0 x7_2) (ji15)).f2⟩ : S42)]) (rd_L2 l0_0 x7_2) (wrap64 (x9_3 + 1))) else (none)) else (none)) else (none)) = some (r1, r2) := by first | (rw [hji15] at H; exact H) | (simp only [hji15] at H ⊢; exact H)
            have hji15w : (IntKind.i64.wrap ((wrap64 (((rd_L2 l0_0 x7_2).length : Int) - 1)) - x9_3)) = ji15 := (i64_w _).trans hji15
            by_cases c16 : 0 ≤ (ji15)
            ·rw [if_pos c16] at H
             have c16b0 : decide (0 ≤ (ji15)) = true := decide_eq_true c16
             clear c16
             by_cases c17 : (ji15) < ((rd_L2 l0_0 x7_2).length : Int)
             ·rw [if_pos c17] at H
              have c17b0 : decide ((ji15) < ((rd_L2 l0_0 x7_2).length : Int)) = true := decide_eq_true c17
              clear c17
              by_cases c18 : x6_3.length < 5864062014805
              ·rw [if_pos c18] at H
               have LMc18 := Aside0.mk c18
               clear c18
               obtain ⟨y171, hy171⟩ : ∃ y_ : List (S42), y_ = (x6_3 ++ [(⟨(rd_T42 (rd_L2 l0_0 x7_2) (ji15)).f0, (rd_T42 (rd_L2 l0_0 x7_2) (ji15)).f1, (rd_T42 (rd_L2 l0_0 x7_2) (ji15)).f2⟩ : S42)]) := ⟨_, rfl⟩
               replace H : (lapidaryref16_Arc.l0 k3 a1 y171 (rd_L2 l0_0 x7_2) (wrap64 (x9_3 + 1))) = some (r1, r2) := by first | (rw [hy171]; with_reducible exact H) | (have H2_ := (Option.bind_some _ _).symm.trans H; rw [hy171]; with_reducible exact H2_) | (have H2_ := (Option.bind_some _ _).symm.trans H; with_reducible exact H2_) | with_reducible exact H | (rw [hy171]; exact H) | exact H
               have Ny171 := Aside0.mk hy171
               clear hy171
               have H' := Aside0.mk H
               clear H
               have p170 : 0 ≤ ((ji15) : Int) := of_decide_eq_true (by first | (with_reducible assumption) | assumption)
               have q170 : (ji15) < ((rd_L2 l0_0 x7_2).length : Int) := of_decide_eq_true (by first | (with_reducible assumption) | assumption)
               obtain ⟨ad170, e170, hx170_0, hx170_1, hx170_2⟩ := at_T42 HR169_0.out (ji15) p170 q170
               cases e170
               replace hx170_0 := (HB.out.cell (World.block_lt_of_cell? w _ hx170_0)).trans hx170_0
               replace hx170_1 := (HB.out.cell (World.block_lt_of_cell? w _ hx170_1)).trans hx170_1
               replace hx170_2 := (HB.out.cell (World.block_lt_of_cell? w _ hx170_2)).trans hx170_2
               replace p170 := eq_true p170
               replace q170 := eq_true q170
               go_wp2_with (first | ((with_reducible refine gate_builtin (b := .append) (xs := #[.tmp 37, .tmp 46]) rfl ?_); (try (refine gate_guard (by rfl) ?_; dsimp only)); at_builtin; refine Kd.R_append k42 (w0 := w) w.heap.size rfl (.tmp 37) (.tmp 46) 29 42 (.agg #[(.int .i64 0), (.int .i64 0), (.int .i64 0)]) 24 rfl Try.underlying29 info42 rfl (by decide) (by omega) u6 x6_3 (⟨(rd_T42 (rd_L2 l0_0 x7_2) (ji15)).f0, (rd_T42 (rd_L2 l0_0 x7_2) (ji15)).f1, (rd_T42 (rd_L2 l0_0 x7_2) (ji15)).f2⟩ : S42) [.int .i64 ((rd_T42 (rd_L2 l0_0 x7_2) (ji15)).f0), .int .i64 ((rd_T42 (rd_L2 l0_0 x7_2) (ji15)).f1), .int .i64 ((rd_T42 (rd_L2 l0_0 x7_2) (ji15)).f2)] (fun _ => True) (fun _ => False) rfl rfl ?aP (fun _ hk => hk.elim) ?aF ?aO ?aB ?aS ?aL ?_; (case aP => exact k42_mkM _ _ _ (⟨(rd_T42 (rd_L2 l0_0 x7_2) (ji15)).f0, (rd_T42 (rd_L2 l0_0 x7_2) (ji15)).f1, (rd_T42 (rd_L2 l0_0 x7_2) (ji15)).f2⟩ : S42)); (case aB => exact (bH HB)); (case aF => exact (fun _ _ => trivial)); (case aO => exact (rK HO_6)); (case aS => exact (below_size (bH HB))); (case aL => have := LMc18.out; omega); intro v172 w19 ho hb hg hat; rw [← Ny171.out] at ho; have n0_ := Aside0.mk (blk_grown (g := gb168) (o := .cells #[.slice (some ad169) l0_0.length c0_0, .slice A0_1 l0_1.length c0_1, .slice A0_2 l0_2.length c0_2] 25 (0, 0)) (bK BK168) hg (Kd.R_ne HO_6.out BK168.out (by decide))); have n1_ := Aside0.mk (hb); have n2_ := Aside0.mk (ho); clear BK168; clear HB; clear HO_6; have BK168 := n0_; have HB := n1_; have HO173 := n2_; clear n0_ n1_ n2_; clear ho hb hg hat))
               go_roundg k3
               case measure => have := HJ2.out; have := HJ5.out; have := HK3.out; omega
               case rel => exact ⟨(y171), (wrap64 (x9_3 + 1)), (by first | rfl | (simp; done) | (simp [*]; done)), H', ⟨by have := HJ2.out; have := HJ5.out; have := HK3.out; omega⟩, ⟨by (with_reducible repeat (first | apply Kd.R_alloc | apply Kd.R_drewN | apply Kd.R_drew)); exact HO173.out⟩, ⟨bK BK168⟩, ⟨ bH HB⟩⟩
              ·rw [if_neg c18] at H
               exact absurd H (by simp)
             ·rw [if_neg c17] at H
              exact absurd H (by simp)
            ·rw [if_neg c16] at H
             exact absurd H (by simp)
           ·rw [if_neg c14] at H
            have c14b0 : decide (a1 < 0) = false := decide_eq_false c14
            clear c14
            by_cases c20 : 0 ≤ x9_3
            ·rw [if_pos c20] at H
             have c20b0 : decide (0 ≤ x9_3) = true := decide_eq_true c20
             clear c20
             by_cases c21 : x6_3.length < 5864062014805
             ·rw [if_pos c21] at H
              have LMc21 := Aside0.mk c21
              clear c21
              obtain ⟨y175, hy175⟩ : ∃ y_ : List (S42), y_ = (x6_3 ++ [(⟨(rd_T42 (rd_L2 l0_0 x7_2) x9_3).f0, (rd_T42 (rd_L2 l0_0 x7_2) x9_3).f1, (rd_T42 (rd_L2 l0_0 x7_2) x9_3).f2⟩ : S42)]) := ⟨_, rfl⟩
              replace H : (lapidaryref16_Arc.l0 k3 a1 y175 (rd_L2 l0_0 x7_2) (wrap64 (x9_3 + 1))) = some (r1, r2) := by first | (rw [hy175]; with_reducible exact H) | (have H2_ := (Option.bind_some _ _).symm.trans H; rw [hy175]; with_reducible exact H2_) | (have H2_ := (Option.bind_some _ _).symm.trans H; with_reducible exact H2_) | with_reducible exact H | (rw [hy175]; exact H) | exact H
              have Ny175 := Aside0.mk hy175
              clear hy175
              have H' := Aside0.mk H
              clear H
              have p174 : 0 ≤ (x9_3 : Int) := of_decide_eq_true (by first | (with_reducible assumption) | assumption)
              have q174 : x9_3 < ((rd_L2 l0_0 x7_2).length : Int) := of_decide_eq_true (by first | (with_reducible assumption) | assumption)
              obtain ⟨ad174, e174, hx174_0, hx174_1, hx174_2⟩ := at_T42 HR169_0.out x9_3 p174 q174
              cases e174
              replace hx174_0 := (HB.out.cell (World.block_lt_of_cell? w _ hx174_0)).trans hx174_0
              replace hx174_1 := (HB.out.cell (World.block_lt_of_cell? w _ hx174_1)).trans hx174_1
              replace hx174_2 := (HB.out.cell (World.block_lt_of_cell? w _ hx174_2)).trans hx174_2
              replace p174 := eq_true p174
              replace q174 := eq_true q174
              go_wp2_with (first | ((with_reducible refine gate_builtin (b := .append) (xs := #[.tmp 48, .tmp 53]) rfl ?_); (try (refine gate_guard (by rfl) ?_; dsimp only)); at_builtin; refine Kd.R_append k42 (w0 := w) w.heap.size rfl (.tmp 48) (.tmp 53) 29 42 (.agg #[(.int .i64 0), (.int .i64 0), (.int .i64 0)]) 24 rfl Try.underlying29 info42 rfl (by decide) (by omega) u6 x6_3 (⟨(rd_T42 (rd_L2 l0_0 x7_2) x9_3).f0, (rd_T42 (rd_L2 l0_0 x7_2) x9_3).f1, (rd_T42 (rd_L2 l0_0 x7_2) x9_3).f2⟩ : S42) [.int .i64 ((rd_T42 (rd_L2 l0_0 x7_2) x9_3).f0), .int .i64 ((rd_T42 (rd_L2 l0_0 x7_2) x9_3).f1), .int .i64 ((rd_T42 (rd_L2 l0_0 x7_2) x9_3).f2)] (fun _ => True) (fun _ => False) rfl rfl ?aP (fun _ hk => hk.elim) ?aF ?aO ?aB ?aS ?aL ?_; (case aP => exact k42_mkM _ _ _ (⟨(rd_T42 (rd_L2 l0_0 x7_2) x9_3).f0, (rd_T42 (rd_L2 l0_0 x7_2) x9_3).f1, (rd_T42 (rd_L2 l0_0 x7_2) x9_3).f2⟩ : S42)); (case aB => exact (bH HB)); (case aF => exact (fun _ _ => trivial)); (case aO => exact (rK HO_6)); (case aS => exact (below_size (bH HB))); (case aL => have := LMc21.out; omega); intro v176 w22 ho hb hg hat; rw [← Ny175.out] at ho; have n0_ := Aside0.mk (blk_grown (g := gb168) (o := .cells #[.slice (some ad169) l0_0.length c0_0, .slice A0_1 l0_1.length c0_1, .slice A0_2 l0_2.length c0_2] 25 (0, 0)) (bK BK168) hg (Kd.R_ne HO_6.out BK168.out (by decide))); have n1_ := Aside0.mk (hb); have n2_ := Aside0.mk (ho); clear BK168; clear HB; clear HO_6; have BK168 := n0_; have HB := n1_; have HO177 := n2_; clear n0_ n1_ n2_; clear ho hb hg hat))
              go_roundg k3
              case measure => have := HJ2.out; have := HJ5.out; have := HK3.out; omega
              case rel => exact ⟨(y175), (wrap64 (x9_3 + 1)), (by first | rfl | (simp; done) | (simp [*]; done)), H', ⟨by have := HJ2.out; have := HJ5.out; have := HK3.out; omega⟩, ⟨by (with_reducible repeat (first | apply Kd.R_alloc | apply Kd.R_drewN | apply Kd.R_drew)); exact HO177.out⟩, ⟨bK BK168⟩, ⟨ bH HB⟩⟩
             ·rw [if_neg c21] at H
              exact absurd H (by simp)
            ·rw [if_neg c20] at H
             exact absurd H (by simp)
          ·rw [if_neg c13] at H
           have c13b0 : decide (x9_3 < ((rd_L2 l0_0 x7_2).length : Int)) = false := decide_eq_false c13
           clear c13
           simp only [Option.some.injEq, Prod.mk.injEq] at H
           obtain ⟨rfl, rfl⟩ := H
           go_wp2
           go_ret2
           exact ⟨_, by first | rfl | (simp [errW_none, errW_some] <;> rfl) | (simp [*, errW_none, errW_some] <;> rfl), by (with_reducible repeat (first | apply Kd.R_alloc | apply Kd.R_drewN | apply Kd.R_drew)); exact HO_6.out, bH HB⟩
       ·rw [if_neg c11] at H
        exact absurd H (by simp)
      ·rw [if_neg c10] at H
       exact absurd H (by simp)

end Go.Proofs.Ytfbkjgedaadlmaa.P
