/- Written for this claim by a program of this session (a turned copy of the print): Go functions as Lean functions, and that the Go code comes to just these answers; or a statement proved out of them. No condition. -/
import Derived.Test.YtbonkedecfjmdaaZ2

namespace Go.Proofs.Ytbonkedecfjmdaa.P
open Go.RowKit Go.Proofs.YtbonkedecfjmdaaW.PrintWords Go.Proofs.YtbonkedecfjmdaaW.PrintLast Go.Proofs.YtbonkedecfjmdaaW.PrintMore Go.Proofs.Ytbonkedecfjmdaa.X
attribute [local go_sem] max2_int min2_int max_two min_two max_three min_three max_four min_four add64_0 add64_1 add64   -- for this text's walks alone
set_option linter.unusedVariables false
set_option linter.unusedSimpArgs false

/-! ### lapidaryref00_SameInts: function 11 -/
def lapidaryref00_SameInts.l0 : Nat → List Int → List Int → Int → Option (Bool)
 | 0, _, _, _ => none
 | k + 1, x0, x1, x5 => if x5 < (x0.length : Int) then (if 0 ≤ x5 then (if x5 < (x1.length : Int) then (if (rd x0 x5) = (rd x1 x5) then (lapidaryref00_SameInts.l0 k x0 x1 (wrap64 (x5 + 1))) else (some false)) else (none)) else (none)) else (some true)
def lapidaryref00_SameInts.f (k : Nat) (l0 : List Int) (l1 : List Int) : Option (Bool) := if (l0.length : Int) = (l1.length : Int) then (lapidaryref00_SameInts.l0 k l0 l1 0) else (some false)
theorem lapidaryref00_SameInts.mono_l : ∀ k, (∀ y0 y1 y2, LeO (lapidaryref00_SameInts.l0 k y0 y1 y2) (lapidaryref00_SameInts.l0 (k + 1) y0 y1 y2))
 | 0 => fun _ _ _ r h => by simp [lapidaryref00_SameInts.l0] at h
 | k + 1 => by
  have ih0 := lapidaryref00_SameInts.mono_l k
  ·intro y0 y1 y2
   unfold lapidaryref00_SameInts.l0
   repeat' first
   | (with_reducible exact ih0 _ _ _)
   | (with_reducible exact LeO.refl _)
   | (with_reducible exact LeO.none _)
   | (with_reducible refine LeO.ite ?_ ?_)
   | (with_reducible refine LeO.bind ?_ (fun _ => ?_))
   | exact ih0 _ _ _
   | exact LeO.none _
   | refine LeO.ite ?_ ?_
   | refine LeO.bind ?_ (fun _ => ?_)
theorem lapidaryref00_SameInts.mono : ∀ a0 a1 k, LeO (lapidaryref00_SameInts.f k a0 a1) (lapidaryref00_SameInts.f (k + 1) a0 a1) := by
 intro a0 a1 k
 have ih0 := lapidaryref00_SameInts.mono_l k
 unfold lapidaryref00_SameInts.f
 repeat' first
   | (with_reducible exact ih0 _ _ _)
   | (with_reducible exact LeO.refl _)
   | (with_reducible exact LeO.none _)
   | (with_reducible refine LeO.ite ?_ ?_)
   | (with_reducible refine LeO.bind ?_ (fun _ => ?_))
   | exact ih0 _ _ _
   | exact LeO.none _
   | refine LeO.ite ?_ ?_
   | refine LeO.bind ?_ (fun _ => ?_)
set_option maxHeartbeats 8000000 in
set_option maxRecDepth 100000 in
theorem lapidaryref00_SameInts.calls (k : Nat) (A0 : Option Addr) (c0 : Nat) (l0 : List Int) (A1 : Option Addr) (c1 : Nat) (l1 : List Int) (r : Bool) (w : World) (hr0 : Kd.C (Kd.int .i64) w A0 l0.length l0) (hc0 : l0.length ≤ c0) (hr1 : Kd.C (Kd.int .i64) w A1 l1.length l1) (hc1 : l1.length ≤ c1) (h : lapidaryref00_SameInts.f k l0 l1 = some r) :
  Calls Try.prog 11 #[.slice A0 l0.length c0, .slice A1 l1.length c1] w fun e w' => e = .returned (.bool r) ∧ Drawn0 w w' := by
 have HR0 := Aside0.mk hr0
 have HC0 := Aside0.mk hc0
 clear hr0 hc0
 have HR1 := Aside0.mk hr1
 have HC1 := Aside0.mk hc1
 clear hr1 hc1
 have H : (if (l0.length : Int) = (l1.length : Int) then (lapidaryref00_SameInts.l0 k l0 l1 0) else (some false)) = some r := h
 clear h
 by_cases c3 : (l0.length : Int) = (l1.length : Int)
 ·rw [if_pos c3] at H
  have c3b0 : ((l0.length : Int) == (l1.length : Int)) = true := beq_iff_eq.mpr c3
  have c3b1 : ((l0.length : Int) != (l1.length : Int)) = false := bne_eq_false_iff_eq.mpr c3
  have c3b2 : (l0.length == l1.length) = true := by first | simpa using c3 | (simp at c3 ⊢; omega)
  clear c3
  have H' := Aside0.mk H
  clear H
  go_enter Try.func11, Try.ntmps11
  go_wp2
  repeat (go_quiet (fail); try go_wp2)
  go_loopg [5] k (fun kq v5 w' => ∃ (x5_1 : Int), v5 = .int .i64 x5_1 ∧ Aside0 (lapidaryref00_SameInts.l0 kq l0 l1 x5_1 = some r) ∧ Aside0 (kq ≤ k) ∧ Drawn0 w w')
  case atStart => exact ⟨(0), (by first | rfl | (simp; done) | (simp [*]; done)), H', ⟨Nat.le_refl _⟩, by repeat (first | exact Drawn0.refl _ | apply Drawn0.step)⟩
  case round =>
   clear H'
   try clear c1
   try clear p2
   try clear c3
   try clear c3b0
   try clear c3b1
   try clear c3b2
   obtain ⟨x5_1, rfl, HA, HK1, ⟨m1, rfl⟩⟩ := hrel
   cases gk with
   | zero => exact absurd HA.out (by simp [lapidaryref00_SameInts.l0])
   | succ k1 =>
    have H := HA.out
    clear HA
    simp only [lapidaryref00_SameInts.l0] at H
    by_cases c4 : x5_1 < (l0.length : Int)
    ·rw [if_pos c4] at H
     have c4b0 : decide (x5_1 < (l0.length : Int)) = true := decide_eq_true c4
     clear c4
     by_cases c5 : 0 ≤ x5_1
     ·rw [if_pos c5] at H
      have c5b0 : decide (0 ≤ x5_1) = true := decide_eq_true c5
      clear c5
      by_cases c6 : x5_1 < (l1.length : Int)
      ·rw [if_pos c6] at H
       have c6b0 : decide (x5_1 < (l1.length : Int)) = true := decide_eq_true c6
       clear c6
       by_cases c7 : (rd l0 x5_1) = (rd l1 x5_1)
       ·rw [if_pos c7] at H
        have c7b0 : ((rd l0 x5_1) == (rd l1 x5_1)) = true := beq_iff_eq.mpr c7
        have c7b1 : ((rd l0 x5_1) != (rd l1 x5_1)) = false := bne_eq_false_iff_eq.mpr c7
        clear c7
        have H' := Aside0.mk H
        clear H
        have p692 : 0 ≤ (x5_1 : Int) := of_decide_eq_true (by first | (with_reducible assumption) | assumption)
        have q692 : x5_1 < (l0.length : Int) := of_decide_eq_true (by first | (with_reducible assumption) | assumption)
        obtain ⟨ad692, e692, hx692_0⟩ := Kd.at_int HR0.out x5_1 p692 q692
        cases e692
        replace p692 := eq_true p692
        replace q692 := eq_true q692
        have p693 : 0 ≤ (x5_1 : Int) := of_decide_eq_true (by first | (with_reducible assumption) | assumption)
        have q693 : x5_1 < (l1.length : Int) := of_decide_eq_true (by first | (with_reducible assumption) | assumption)
        obtain ⟨ad693, e693, hx693_0⟩ := Kd.at_int HR1.out x5_1 p693 q693
        cases e693
        replace p693 := eq_true p693
        replace q693 := eq_true q693
        go_wp2
        repeat (go_quiet (fail); try go_wp2)
        go_roundg k1
        case measure => have := HK1.out; omega
        case rel => exact ⟨(wrap64 (x5_1 + 1)), (by first | rfl | (simp; done) | (simp [*]; done)), H', ⟨by have := HK1.out; omega⟩, by repeat (first | exact Drawn0.refl _ | apply Drawn0.step)⟩
       ·rw [if_neg c7] at H
        have c7b0 : ((rd l0 x5_1) == (rd l1 x5_1)) = false := beq_eq_false_iff_ne.mpr c7
        have c7b1 : ((rd l0 x5_1) != (rd l1 x5_1)) = true := bne_iff_ne.mpr c7
        obtain rfl := Option.some.inj H
        have p692 : 0 ≤ (x5_1 : Int) := of_decide_eq_true (by first | (with_reducible assumption) | assumption)
        have q692 : x5_1 < (l0.length : Int) := of_decide_eq_true (by first | (with_reducible assumption) | assumption)
        obtain ⟨ad692, e692, hx692_0⟩ := Kd.at_int HR0.out x5_1 p692 q692
        cases e692
        replace p692 := eq_true p692
        replace q692 := eq_true q692
        have p693 : 0 ≤ (x5_1 : Int) := of_decide_eq_true (by first | (with_reducible assumption) | assumption)
        have q693 : x5_1 < (l1.length : Int) := of_decide_eq_true (by first | (with_reducible assumption) | assumption)
        obtain ⟨ad693, e693, hx693_0⟩ := Kd.at_int HR1.out x5_1 p693 q693
        cases e693
        replace p693 := eq_true p693
        replace q693 := eq_true q693
        go_wp2
        repeat (go_quiet (fail); try go_wp2)
        go_ret
        exact ⟨by first | rfl | (simp; done) | (simp [*]; done), by repeat (first | exact Drawn0.refl _ | apply Drawn0.step)⟩
      ·rw [if_neg c6] at H
       exact absurd H (by simp)
     ·rw [if_neg c5] at H
      exact absurd H (by simp)
    ·rw [if_neg c4] at H
     have c4b0 : decide (x5_1 < (l0.length : Int)) = false := decide_eq_false c4
     clear c4
     obtain rfl := Option.some.inj H
     go_wp2
     repeat (go_quiet (fail); try go_wp2)
     go_ret
     exact ⟨by first | rfl | (simp; done) | (simp [*]; done), by repeat (first | exact Drawn0.refl _ | apply Drawn0.step)⟩
 ·rw [if_neg c3] at H
  have c3b0 : ((l0.length : Int) == (l1.length : Int)) = false := beq_eq_false_iff_ne.mpr c3
  have c3b1 : ((l0.length : Int) != (l1.length : Int)) = true := bne_iff_ne.mpr c3
  have c3b2 : (l0.length == l1.length) = false := by first | simpa using c3 | (simp at c3 ⊢; omega)
  obtain rfl := Option.some.inj H
  go_enter Try.func11, Try.ntmps11
  go_wp2
  repeat (go_quiet (fail); try go_wp2)
  go_ret
  exact ⟨by first | rfl | (simp; done) | (simp [*]; done), by repeat (first | exact Drawn0.refl _ | apply Drawn0.step)⟩

end Go.Proofs.Ytbonkedecfjmdaa.P

namespace Go.Proofs.Ytbonkedecfjmdaa.P
open Go.RowKit Go.Proofs.YtbonkedecfjmdaaW.PrintWords Go.Proofs.YtbonkedecfjmdaaW.PrintLast Go.Proofs.YtbonkedecfjmdaaW.PrintMore Go.Proofs.Ytbonkedecfjmdaa.X
attribute [local go_sem] max2_int min2_int max_two min_two max_three min_three max_four min_four add64_0 add64_1 add64   -- for this text's walks alone
set_option linter.unusedVariables false
set_option linter.unusedSimpArgs false

/-! ### lapidarylaw17_one: function 30 -/
def lapidarylaw17_one.f  : Option ((List (List (S27))) × (List (List Int)) × (List (List Int))) := some ((([(([(⟨0, 0, 0⟩ : S27), (⟨1, 0, 0⟩ : S27), (⟨0, 1, 0⟩ : S27), (⟨0, 0, 0⟩ : S27)] : List (S27)))] : List (List (S27)))), (([(([0] : List Int))] : List (List Int))), (([(([0] : List Int))] : List (List Int))))
set_option maxHeartbeats 8000000 in
set_option maxRecDepth 100000 in
theorem lapidarylaw17_one.calls  (r1 : List (List (S27))) (r2 : List (List Int)) (r3 : List (List Int)) (w : World) (h : lapidarylaw17_one.f  = some (r1, r2, r3)) :
  Calls Try.prog 30 #[] w fun e w' => ∃ v0_ v1_ v2_ : Value, e = .returned (.agg #[v0_, v1_, v2_]) ∧ Kd.N (Kd.slice 27 k27) 31 w' w.heap.size (fun k_ => (w.heap.size ≤ k_) ∧ some k_ ≠ (v1_ : Value).ownBlock ∧ some k_ ≠ (v2_ : Value).ownBlock) v0_ r1 ∧ Kd.N (Kd.slice 3 (Kd.int .i64)) 32 w' w.heap.size (fun k_ => (w.heap.size ≤ k_) ∧ some k_ ≠ (v0_ : Value).ownBlock ∧ some k_ ≠ (v2_ : Value).ownBlock) v1_ r2 ∧ Kd.N (Kd.slice 3 (Kd.int .i64)) 32 w' w.heap.size (fun k_ => (w.heap.size ≤ k_) ∧ some k_ ≠ (v0_ : Value).ownBlock ∧ some k_ ≠ (v1_ : Value).ownBlock) v2_ r3 ∧ Below w.heap.size w w' := by
 have hu25 := Try.underlying25
 have hu27 := Try.underlying27
 have HB := Aside0.mk (Below.refl w.heap.size w)
 have H : (some ((([(([(⟨0, 0, 0⟩ : S27), (⟨1, 0, 0⟩ : S27), (⟨0, 1, 0⟩ : S27), (⟨0, 0, 0⟩ : S27)] : List (S27)))] : List (List (S27)))), (([(([0] : List Int))] : List (List Int))), (([(([0] : List Int))] : List (List Int))))) = some (r1, r2, r3) := h
 clear h
 obtain ⟨y695, hy695⟩ : ∃ y_ : List (S27), y_ = (([(⟨0, 0, 0⟩ : S27), (⟨1, 0, 0⟩ : S27), (⟨0, 1, 0⟩ : S27), (⟨0, 0, 0⟩ : S27)] : List (S27))) := ⟨_, rfl⟩
 replace H : (some ((([y695] : List (List (S27)))), (([(([0] : List Int))] : List (List Int))), (([(([0] : List Int))] : List (List Int))))) = some (r1, r2, r3) := by first | (rw [hy695]; with_reducible exact H) | (have H2_ := (Option.bind_some _ _).symm.trans H; rw [hy695]; with_reducible exact H2_) | (have H2_ := (Option.bind_some _ _).symm.trans H; with_reducible exact H2_) | with_reducible exact H | (rw [hy695]; exact H) | exact H
 have Ny695 := Aside0.mk hy695
 clear hy695
 obtain ⟨y698, hy698⟩ : ∃ y_ : List (List (S27)), y_ = (([y695] : List (List (S27)))) := ⟨_, rfl⟩
 replace H : (some (y698, (([(([0] : List Int))] : List (List Int))), (([(([0] : List Int))] : List (List Int))))) = some (r1, r2, r3) := by first | (rw [hy698]; with_reducible exact H) | (have H2_ := (Option.bind_some _ _).symm.trans H; rw [hy698]; with_reducible exact H2_) | (have H2_ := (Option.bind_some _ _).symm.trans H; with_reducible exact H2_) | with_reducible exact H | (rw [hy698]; exact H) | exact H
 have Ny698 := Aside0.mk hy698
 clear hy698
 obtain ⟨y701, hy701⟩ : ∃ y_ : List Int, y_ = (([0] : List Int)) := ⟨_, rfl⟩
 replace H : (some (y698, (([y701] : List (List Int))), (([(([0] : List Int))] : List (List Int))))) = some (r1, r2, r3) := by first | (rw [hy701]; with_reducible exact H) | (have H2_ := (Option.bind_some _ _).symm.trans H; rw [hy701]; with_reducible exact H2_) | (have H2_ := (Option.bind_some _ _).symm.trans H; with_reducible exact H2_) | with_reducible exact H | (rw [hy701]; exact H) | exact H
 have Ny701 := Aside0.mk hy701
 clear hy701
 obtain ⟨y704, hy704⟩ : ∃ y_ : List (List Int), y_ = (([y701] : List (List Int))) := ⟨_, rfl⟩
 replace H : (some (y698, y704, (([(([0] : List Int))] : List (List Int))))) = some (r1, r2, r3) := by first | (rw [hy704]; with_reducible exact H) | (have H2_ := (Option.bind_some _ _).symm.trans H; rw [hy704]; with_reducible exact H2_) | (have H2_ := (Option.bind_some _ _).symm.trans H; with_reducible exact H2_) | with_reducible exact H | (rw [hy704]; exact H) | exact H
 have Ny704 := Aside0.mk hy704
 clear hy704
 obtain ⟨y707, hy707⟩ : ∃ y_ : List Int, y_ = (([0] : List Int)) := ⟨_, rfl⟩
 replace H : (some (y698, y704, (([y707] : List (List Int))))) = some (r1, r2, r3) := by first | (rw [hy707]; with_reducible exact H) | (have H2_ := (Option.bind_some _ _).symm.trans H; rw [hy707]; with_reducible exact H2_) | (have H2_ := (Option.bind_some _ _).symm.trans H; with_reducible exact H2_) | with_reducible exact H | (rw [hy707]; exact H) | exact H
 have Ny707 := Aside0.mk hy707
 clear hy707
 obtain ⟨y710, hy710⟩ : ∃ y_ : List (List Int), y_ = (([y707] : List (List Int))) := ⟨_, rfl⟩
 replace H : (some (y698, y704, y710)) = some (r1, r2, r3) := by first | (rw [hy710]; with_reducible exact H) | (have H2_ := (Option.bind_some _ _).symm.trans H; rw [hy710]; with_reducible exact H2_) | (have H2_ := (Option.bind_some _ _).symm.trans H; with_reducible exact H2_) | with_reducible exact H | (rw [hy710]; exact H) | exact H
 have Ny710 := Aside0.mk hy710
 clear hy710
 simp only [Option.some.injEq, Prod.mk.injEq] at H
 obtain ⟨rfl, rfl, rfl⟩ := H
 go_enter Try.func30, Try.ntmps30
 go_wp2_with (first | ((with_reducible refine gate_dst (N := 0) rfl ?_); refine box_event ?hg (N := 0) ?hd (cs := #[.slice none 0 0, .slice none 0 0, .slice none 0 0]) (t := 25) ?hr ?_; (case hd => rfl); (case hg => rfl); (case hr => first | (go_simp; done) | (go_simp; rfl)); intro gb694 hg w1 hbox hb; have n0_ := Aside0.mk (below_step (bH HB) hb); have n1_ := Aside0.mk (hbox); have n2_ := Aside0.mk ((by rw [hg]; exact (below_size (bH HB)) : w.heap.size ≤ gb694)); have n3_ := n2_; clear HB; have HB := n0_; have BK694 := n1_; have GW694 := n2_; have GE694 := n3_; clear n0_ n1_ n2_ n3_; clear hb hbox hg) | ((with_reducible refine gate_dst (N := 5) rfl ?_); refine Kd.R_lit k27 _ 27 ?hg (N := 5) ?hd (xs := ([(⟨0, 0, 0⟩ : S27), (⟨1, 0, 0⟩ : S27), (⟨0, 1, 0⟩ : S27), (⟨0, 0, 0⟩ : S27)] : List (S27))) (inner := [.int .i64 0, .int .i64 0, .int .i64 0, .int .i64 1, .int .i64 0, .int .i64 0, .int .i64 0, .int .i64 1, .int .i64 0, .int .i64 0, .int .i64 0, .int .i64 0]) (ok := fun _ => True) (okp := fun _ => True) ?hr ?hp (fun _ hk => hk) trivial (Below.refl _ _) (Nat.le_refl _) (by simp) ?_; (case hd => rfl); (case hg => rfl); (case hr => first | (go_simp; done) | (go_simp; rfl)); (case hp => exact (Reps.c3 (show Kd.M k27 _ _ _ (⟨0, 0, 0⟩ : S27) [.int .i64 0, .int .i64 0, .int .i64 0] from (k27_mkM _ _ _ (⟨0, 0, 0⟩ : S27) )) (Reps.c3 (show Kd.M k27 _ _ _ (⟨1, 0, 0⟩ : S27) [.int .i64 1, .int .i64 0, .int .i64 0] from (k27_mkM _ _ _ (⟨1, 0, 0⟩ : S27) )) (Reps.c3 (show Kd.M k27 _ _ _ (⟨0, 1, 0⟩ : S27) [.int .i64 0, .int .i64 1, .int .i64 0] from (k27_mkM _ _ _ (⟨0, 1, 0⟩ : S27) )) (Reps.c3 (show Kd.M k27 _ _ _ (⟨0, 0, 0⟩ : S27) [.int .i64 0, .int .i64 0, .int .i64 0] from (k27_mkM _ _ _ (⟨0, 0, 0⟩ : S27) )) (Reps.none _ _)))))); intro v696 w2 ho3 hb hg_ hnew_; clear hg_ hnew_; (first | rw [← Ny695.out] at ho3 | (simp only [Int.reduceToNat] at ho3; rw [← Ny695.out] at ho3)); have n0_ := Aside0.mk (Kd.R_lower (Kd.R_newM (M := fun k_ => (w.heap.size ≤ k_)) ho3 (below_size (bH HB)) (fun k_ h_ => h_)) (below_size (bH HB))); have n1_ := Aside0.mk (blk_below (g := gb694) (o := .cells #[.slice none 0 0, .slice none 0 0, .slice none 0 0] 25 (0, 0)) (bK BK694) hb); have n2_ := Aside0.mk (below_step (bH HB) hb); clear BK694; clear HB; have HO697 := n0_; have BK694 := n1_; have HB := n2_; clear n0_ n1_ n2_; clear hb ho3; obtain ⟨Ao4, co4, eo4⟩ := Kd.R_slice HO697.out; subst eo4) | ((with_reducible refine gate_dst (N := 6) rfl ?_); refine Kd.N_lit (Kd.slice 27 k27) _ 31 ?hg (N' := 6) ?hd (xs := ([y695] : List (List (S27)))) (inner := [.slice Ao4 y695.length co4]) (ok := (fun k_ => (w.heap.size ≤ k_) ∧ k_ ≠ gb694)) (okp := (fun k_ => (w.heap.size ≤ k_) ∧ k_ ≠ gb694)) ?hr ?hp (fun _ hk => hk) ((show ∀ k_, w2.heap.size ≤ k_ → (fun k_ => (w.heap.size ≤ k_) ∧ k_ ≠ gb694) k_ from fun k_ hk => ⟨(Nat.le_trans (below_size (bH HB)) hk), Kd.freshB (g := gb694) (o := .cells #[.slice none 0 0, .slice none 0 0, .slice none 0 0] 25 (0, 0)) (bK BK694) k_ hk⟩) _ (Nat.le_refl _)) (Below.refl _ _) (Nat.le_refl _) (by simp) ?_; (case hd => rfl); (case hg => rfl); (case hr => first | (go_simp; done) | (go_simp; rfl)); (case hp => exact (Reps.one (show Kd.FK (Kd.slice 27 k27) _ _ y695 [.slice Ao4 y695.length co4] from (Kd.FK_slice_mk (Kd.R_reads' (Kd.R_mono (ok' := (fun k_ => (w.heap.size ≤ k_) ∧ k_ ≠ gb694)) (Kd.R_types (HO697.out) BK694.out (by decide)) (fun k_ hk => ⟨hk.1.1, hk.2⟩))).2.1 (Kd.R_F (Kd.R_mono (ok' := (fun k_ => (w.heap.size ≤ k_) ∧ k_ ≠ gb694)) (Kd.R_types (HO697.out) BK694.out (by decide)) (fun k_ hk => ⟨hk.1.1, hk.2⟩))))) (Reps.none _ _))); intro v699 w5 ho6 hb hg_ hnew_; clear hg_ hnew_; (first | rw [← Ny698.out] at ho6 | (simp only [Int.reduceToNat] at ho6; rw [← Ny698.out] at ho6)); have n0_ := Aside0.mk (Kd.N_lower ho6 (below_size (bH HB))); have n1_ := Aside0.mk (blk_below (g := gb694) (o := .cells #[.slice none 0 0, .slice none 0 0, .slice none 0 0] 25 (0, 0)) (bK BK694) hb); have n2_ := Aside0.mk (below_step (bH HB) hb); clear BK694; clear HB; clear HO697; have HO700 := n0_; have BK694 := n1_; have HB := n2_; clear n0_ n1_ n2_; clear hb ho6) | ((with_reducible refine gate_dst (N := 7) rfl ?_); refine Kd.R_lit (Kd.int .i64) _ 3 ?hg (N := 7) ?hd (xs := ([0] : List Int)) (inner := [.int .i64 0]) (ok := fun _ => True) (okp := fun _ => True) ?hr ?hp (fun _ hk => hk) trivial (Below.refl _ _) (Nat.le_refl _) (by simp) ?_; (case hd => rfl); (case hg => rfl); (case hr => first | (go_simp; done) | (go_simp; rfl)); (case hp => exact (Reps.one (show Kd.M (Kd.int .i64) _ _ _ 0 [.int .i64 0] from rfl) (Reps.none _ _))); intro v702 w7 ho8 hb hg_ hnew_; clear hg_ hnew_; (first | rw [← Ny701.out] at ho8 | (simp only [Int.reduceToNat] at ho8; rw [← Ny701.out] at ho8)); have n0_ := Aside0.mk (Kd.N_elder' (by (with_reducible repeat (first | apply Kd.N_alloc | apply Kd.N_drewN | apply Kd.N_drew)); exact HO700.out) (Kd.R_base ho8) hb); have n1_ := Aside0.mk (Kd.R_lower (Kd.R_newM (M := fun k_ => (w.heap.size ≤ k_)) ho8 (below_size (bH HB)) (fun k_ h_ => h_)) (below_size (bH HB))); have n2_ := Aside0.mk (blk_below (g := gb694) (o := .cells #[.slice none 0 0, .slice none 0 0, .slice none 0 0] 25 (0, 0)) (bK BK694) hb); have n3_ := Aside0.mk (below_step (bH HB) hb); clear HO700; clear BK694; clear HB; have HO700 := n0_; have HO703 := n1_; have BK694 := n2_; have HB := n3_; clear n0_ n1_ n2_ n3_; clear hb ho8; obtain ⟨Ao9, co9, eo9⟩ := Kd.R_slice HO703.out; subst eo9) | ((with_reducible refine gate_dst (N := 8) rfl ?_); refine Kd.N_lit (Kd.slice 3 (Kd.int .i64)) _ 32 ?hg (N' := 8) ?hd (xs := ([y701] : List (List Int))) (inner := [.slice Ao9 y701.length co9]) (ok := (fun k_ => (w.heap.size ≤ k_) ∧ some k_ ≠ (v699 : Value).ownBlock ∧ k_ ≠ gb694)) (okp := (fun k_ => (w.heap.size ≤ k_) ∧ some k_ ≠ (v699 : Value).ownBlock ∧ k_ ≠ gb694)) ?hr ?hp (fun _ hk => hk) ((show ∀ k_, w7.heap.size ≤ k_ → (fun k_ => (w.heap.size ≤ k_) ∧ some k_ ≠ (v699 : Value).ownBlock ∧ k_ ≠ gb694) k_ from fun k_ hk => ⟨(Nat.le_trans (below_size (bH HB)) hk), Kd.fresh' (Kd.N_lt (by (with_reducible repeat (first | apply Kd.N_alloc | apply Kd.N_drewN | apply Kd.N_drew)); exact HO700.out)) k_ hk, Kd.freshB (g := gb694) (o := .cells #[.slice none 0 0, .slice none 0 0, .slice none 0 0] 25 (0, 0)) (bK BK694) k_ hk⟩) _ (Nat.le_refl _)) (Below.refl _ _) (Nat.le_refl _) (by simp) ?_; (case hd => rfl); (case hg => rfl); (case hr => first | (go_simp; done) | (go_simp; rfl)); (case hp => exact (Reps.one (show Kd.FK (Kd.slice 3 (Kd.int .i64)) _ _ y701 [.slice Ao9 y701.length co9] from (Kd.FK_slice_mk (Kd.R_reads' (Kd.R_mono (ok' := (fun k_ => (w.heap.size ≤ k_) ∧ some k_ ≠ (v699 : Value).ownBlock ∧ k_ ≠ gb694)) (Kd.R_types (Kd.R_apart' (HO703.out) (Kd.N_typed HO700.out) (by decide)) BK694.out (by decide)) (fun k_ hk => ⟨hk.1.1.1, ⟨hk.1.2, hk.2⟩⟩))).2.1 (Kd.R_F (Kd.R_mono (ok' := (fun k_ => (w.heap.size ≤ k_) ∧ some k_ ≠ (v699 : Value).ownBlock ∧ k_ ≠ gb694)) (Kd.R_types (Kd.R_apart' (HO703.out) (Kd.N_typed HO700.out) (by decide)) BK694.out (by decide)) (fun k_ hk => ⟨hk.1.1.1, ⟨hk.1.2, hk.2⟩⟩))))) (Reps.none _ _))); intro v705 w10 ho11 hb hg_ hnew_; clear hg_ hnew_; (first | rw [← Ny704.out] at ho11 | (simp only [Int.reduceToNat] at ho11; rw [← Ny704.out] at ho11)); have n0_ := Aside0.mk (Kd.N_elder' (by (with_reducible repeat (first | apply Kd.N_alloc | apply Kd.N_drewN | apply Kd.N_drew)); exact HO700.out) (Kd.N_base ho11) hb); have n1_ := Aside0.mk (Kd.N_lower ho11 (below_size (bH HB))); have n2_ := Aside0.mk (blk_below (g := gb694) (o := .cells #[.slice none 0 0, .slice none 0 0, .slice none 0 0] 25 (0, 0)) (bK BK694) hb); have n3_ := Aside0.mk (below_step (bH HB) hb); clear HO700; clear BK694; clear HB; clear HO703; have HO700 := n0_; have HO706 := n1_; have BK694 := n2_; have HB := n3_; clear n0_ n1_ n2_ n3_; clear hb ho11) | ((with_reducible refine gate_dst (N := 9) rfl ?_); refine Kd.R_lit (Kd.int .i64) _ 3 ?hg (N := 9) ?hd (xs := ([0] : List Int)) (inner := [.int .i64 0]) (ok := fun _ => True) (okp := fun _ => True) ?hr ?hp (fun _ hk => hk) trivial (Below.refl _ _) (Nat.le_refl _) (by simp) ?_; (case hd => rfl); (case hg => rfl); (case hr => first | (go_simp; done) | (go_simp; rfl)); (case hp => exact (Reps.one (show Kd.M (Kd.int .i64) _ _ _ 0 [.int .i64 0] from rfl) (Reps.none _ _))); intro v708 w12 ho13 hb hg_ hnew_; clear hg_ hnew_; (first | rw [← Ny707.out] at ho13 | (simp only [Int.reduceToNat] at ho13; rw [← Ny707.out] at ho13)); have n0_ := Aside0.mk (Kd.N_elder' (by (with_reducible repeat (first | apply Kd.N_alloc | apply Kd.N_drewN | apply Kd.N_drew)); exact HO700.out) (Kd.R_base ho13) hb); have n1_ := Aside0.mk (Kd.N_elder' (by (with_reducible repeat (first | apply Kd.N_alloc | apply Kd.N_drewN | apply Kd.N_drew)); exact HO706.out) (Kd.R_base ho13) hb); have n2_ := Aside0.mk (Kd.R_lower (Kd.R_newM (M := fun k_ => (w.heap.size ≤ k_)) ho13 (below_size (bH HB)) (fun k_ h_ => h_)) (below_size (bH HB))); have n3_ := Aside0.mk (blk_below (g := gb694) (o := .cells #[.slice none 0 0, .slice none 0 0, .slice none 0 0] 25 (0, 0)) (bK BK694) hb); have n4_ := Aside0.mk (below_step (bH HB) hb); clear HO700; clear HO706; clear BK694; clear HB; have HO700 := n0_; have HO706 := n1_; have HO709 := n2_; have BK694 := n3_; have HB := n4_; clear n0_ n1_ n2_ n3_ n4_; clear hb ho13; obtain ⟨Ao14, co14, eo14⟩ := Kd.R_slice HO709.out; subst eo14) | ((with_reducible refine gate_dst (N := 10) rfl ?_); refine Kd.N_lit (Kd.slice 3 (Kd.int .i64)) _ 32 ?hg (N' := 10) ?hd (xs := ([y707] : List (List Int))) (inner := [.slice Ao14 y707.length co14]) (ok := (fun k_ => (w.heap.size ≤ k_) ∧ some k_ ≠ (v699 : Value).ownBlock ∧ some k_ ≠ (v705 : Value).ownBlock ∧ k_ ≠ gb694)) (okp := (fun k_ => (w.heap.size ≤ k_) ∧ some k_ ≠ (v699 : Value).ownBlock ∧ some k_ ≠ (v705 : Value).ownBlock ∧ k_ ≠ gb694)) ?hr ?hp (fun _ hk => hk) ((show ∀ k_, w12.heap.size ≤ k_ → (fun k_ => (w.heap.size ≤ k_) ∧ some k_ ≠ (v699 : Value).ownBlock ∧ some k_ ≠ (v705 : Value).ownBlock ∧ k_ ≠ gb694) k_ from fun k_ hk => ⟨(Nat.le_trans (below_size (bH HB)) hk), Kd.fresh' (Kd.N_lt (by (with_reducible repeat (first | apply Kd.N_alloc | apply Kd.N_drewN | apply Kd.N_drew)); exact HO700.out)) k_ hk, Kd.fresh' (Kd.N_lt (by (with_reducible repeat (first | apply Kd.N_alloc | apply Kd.N_drewN | apply Kd.N_drew)); exact HO706.out)) k_ hk, Kd.freshB (g := gb694) (o := .cells #[.slice none 0 0, .slice none 0 0, .slice none 0 0] 25 (0, 0)) (bK BK694) k_ hk⟩) _ (Nat.le_refl _)) (Below.refl _ _) (Nat.le_refl _) (by simp) ?_; (case hd => rfl); (case hg => rfl); (case hr => first | (go_simp; done) | (go_simp; rfl)); (case hp => exact (Reps.one (show Kd.FK (Kd.slice 3 (Kd.int .i64)) _ _ y707 [.slice Ao14 y707.length co14] from (Kd.FK_slice_mk (Kd.R_reads' (Kd.R_mono (ok' := (fun k_ => (w.heap.size ≤ k_) ∧ some k_ ≠ (v699 : Value).ownBlock ∧ some k_ ≠ (v705 : Value).ownBlock ∧ k_ ≠ gb694)) (Kd.R_types (Kd.R_apart' (Kd.R_apart' (HO709.out) (Kd.N_typed HO700.out) (by decide)) (Kd.N_typed HO706.out) (by decide)) BK694.out (by decide)) (fun k_ hk => ⟨hk.1.1.1.1, ⟨hk.1.1.2, ⟨hk.1.2, hk.2⟩⟩⟩))).2.1 (Kd.R_F (Kd.R_mono (ok' := (fun k_ => (w.heap.size ≤ k_) ∧ some k_ ≠ (v699 : Value).ownBlock ∧ some k_ ≠ (v705 : Value).ownBlock ∧ k_ ≠ gb694)) (Kd.R_types (Kd.R_apart' (Kd.R_apart' (HO709.out) (Kd.N_typed HO700.out) (by decide)) (Kd.N_typed HO706.out) (by decide)) BK694.out (by decide)) (fun k_ hk => ⟨hk.1.1.1.1, ⟨hk.1.1.2, ⟨hk.1.2, hk.2⟩⟩⟩))))) (Reps.none _ _))); intro v711 w15 ho16 hb hg_ hnew_; clear hg_ hnew_; (first | rw [← Ny710.out] at ho16 | (simp only [Int.reduceToNat] at ho16; rw [← Ny710.out] at ho16)); have n0_ := Aside0.mk (Kd.N_elder' (by (with_reducible repeat (first | apply Kd.N_alloc | apply Kd.N_drewN | apply Kd.N_drew)); exact HO700.out) (Kd.N_base ho16) hb); have n1_ := Aside0.mk (Kd.N_elder' (by (with_reducible repeat (first | apply Kd.N_alloc | apply Kd.N_drewN | apply Kd.N_drew)); exact HO706.out) (Kd.N_base ho16) hb); have n2_ := Aside0.mk (Kd.N_lower ho16 (below_size (bH HB))); have n3_ := Aside0.mk (blk_below (g := gb694) (o := .cells #[.slice none 0 0, .slice none 0 0, .slice none 0 0] 25 (0, 0)) (bK BK694) hb); have n4_ := Aside0.mk (below_step (bH HB) hb); clear HO700; clear HO706; clear BK694; clear HB; clear HO709; have HO700 := n0_; have HO706 := n1_; have HO712 := n2_; have BK694 := n3_; have HB := n4_; clear n0_ n1_ n2_ n3_ n4_; clear hb ho16; obtain ⟨Ao17, co17, eo17⟩ := Kd.N_slice HO712.out; subst eo17; obtain ⟨Ao18, co18, eo18⟩ := Kd.N_slice HO706.out; subst eo18; obtain ⟨Ao19, co19, eo19⟩ := Kd.N_slice HO700.out; subst eo19; have hcz20_0 : w15.cell? ⟨gb694, 0, none⟩ = some (.slice none 0 0) := (blk_cell BK694.out 0).trans rfl; have hcz20_1 : w15.cell? ⟨gb694, 1, none⟩ = some (.slice none 0 0) := (blk_cell BK694.out 1).trans rfl; have hcz20_2 : w15.cell? ⟨gb694, 2, none⟩ = some (.slice none 0 0) := (blk_cell BK694.out 2).trans rfl; have hfz20_0 := blk_frozen BK694.out 0; have hfz20_1 := blk_frozen BK694.out 1; have hfz20_2 := blk_frozen BK694.out 2))
 refine bodyPost_ret (results_cell_row rfl _ _ gb694 25 #[.slice Ao19 y698.length co19, .slice Ao18 y704.length co18, .slice Ao17 y710.length co17] (0, 0) _ rfl (by (with_reducible repeat (first | refine blk_drewN ?_ _ | refine blk_drew ?_ | refine blk_alloc ?_ _)); refine blk_put (cs := #[.slice Ao19 y698.length co19, .slice Ao18 y704.length co18, .slice none 0 0]) ?_ 2 _ rfl; (with_reducible repeat (first | refine blk_drewN ?_ _ | refine blk_drew ?_ | refine blk_alloc ?_ _)); refine blk_put (cs := #[.slice Ao19 y698.length co19, .slice none 0 0, .slice none 0 0]) ?_ 1 _ rfl; (with_reducible repeat (first | refine blk_drewN ?_ _ | refine blk_drew ?_ | refine blk_alloc ?_ _)); refine blk_put (cs := #[.slice none 0 0, .slice none 0 0, .slice none 0 0]) ?_ 0 _ rfl; (with_reducible repeat (first | refine blk_drewN ?_ _ | refine blk_drew ?_ | refine blk_alloc ?_ _)); exact BK694.out) Try.underlying25 rfl (by kernel_rfl)) rfl ?_
 exact ⟨_, _, _, by first | rfl | (simp [errW_none, errW_some] <;> rfl) | (simp [*, errW_none, errW_some] <;> rfl), by (with_reducible repeat (first | apply Kd.N_alloc | apply Kd.N_drewN | apply Kd.N_drew)); exact Kd.N_mono (Kd.N_far (p := ⟨gb694, 2, none⟩) (Kd.N_far (p := ⟨gb694, 1, none⟩) (Kd.N_far (p := ⟨gb694, 0, none⟩) (Kd.N_mono HO700.out (fun k_ hk => (⟨hk, hk.1.1.1.1.2⟩ : _ ∧ k_ ≠ gb694))) (fun _ hk => hk.2) (.slice Ao19 y698.length co19)) (fun _ hk => hk.2) (.slice Ao18 y704.length co18)) (fun _ hk => hk.2) (.slice Ao17 y710.length co17)) (fun _ hk => ⟨hk.1.1.1.1.1.1, ⟨hk.1.1.1.2, hk.1.2⟩⟩), by (with_reducible repeat (first | apply Kd.N_alloc | apply Kd.N_drewN | apply Kd.N_drew)); exact Kd.N_mono (Kd.N_far (p := ⟨gb694, 2, none⟩) (Kd.N_far (p := ⟨gb694, 1, none⟩) (Kd.N_far (p := ⟨gb694, 0, none⟩) (Kd.N_mono HO706.out (fun k_ hk => (⟨hk, hk.1.1.2.2⟩ : _ ∧ k_ ≠ gb694))) (fun _ hk => hk.2) (.slice Ao19 y698.length co19)) (fun _ hk => hk.2) (.slice Ao18 y704.length co18)) (fun _ hk => hk.2) (.slice Ao17 y710.length co17)) (fun _ hk => ⟨hk.1.1.1.1, ⟨hk.1.1.1.2.1, hk.1.2⟩⟩), by (with_reducible repeat (first | apply Kd.N_alloc | apply Kd.N_drewN | apply Kd.N_drew)); exact Kd.N_mono (Kd.N_far (p := ⟨gb694, 2, none⟩) (Kd.N_far (p := ⟨gb694, 1, none⟩) (Kd.N_far (p := ⟨gb694, 0, none⟩) (Kd.N_mono HO712.out (fun k_ hk => (⟨hk, hk.2.2.2⟩ : _ ∧ k_ ≠ gb694))) (fun _ hk => hk.2) (.slice Ao19 y698.length co19)) (fun _ hk => hk.2) (.slice Ao18 y704.length co18)) (fun _ hk => hk.2) (.slice Ao17 y710.length co17)) (fun _ hk => ⟨hk.1.1, ⟨hk.1.2.1, hk.1.2.2.1⟩⟩), bH HB⟩

end Go.Proofs.Ytbonkedecfjmdaa.P
