/- What the chapter's examples fix: known. No condition. What the chapter's examples fix stands: known. No condition. Written for this claim by a program of this session (a turned copy of the print): Go functions as Lean functions, and that the Go code comes to just these answers; or a statement proved out of them. No condition. What is wrapped are bytes. No condition. -/
import Derived.Test.YtbdbobjdlomjnaaGreatDoorZ12
import Derived.Test.YtbdbobjdlomjnaaGreatDoorZ21
import Derived.Test.YtbdbobjdlomjnaaGreatDoorZ2
import Derived.Test.YtbdbobjdlomjnaaGreatDoorZ11
import Derived.Test.YtbdbobjdlomjnaaGreatDoorZ20

namespace Go.Proofs.YtbdbobjdlomjnaaGreatDoor.Ec
set_option linter.unusedVariables false
set_option linter.unusedSimpArgs false
open Go Go.RowKit Go.Proofs.YtbdbobjdlomjnaaGreatDoor.P Go.Proofs.YtbdbobjdlomjnaaGreatDoor.X Go.Proofs.YtbdbobjdlomjnaaGreatDoor.Fv Go.Proofs.YtbdbobjdlomjnaaGreatDoorW.PrintWords Go.Proofs.YtbdbobjdlomjnaaGreatDoorW.PrintLast Go.Proofs.YtbdbobjdlomjnaaGreatDoorW.PrintMore
set_option maxHeartbeats 8000000
set_option maxRecDepth 100000
theorem numV_nil : numV [] 0 = none := by unfold numV; rw [if_neg (by decide)]
theorem splitV_nil : splitV [] = ([], 11) := by rw [splitV_by, numV_nil]
theorem manyV_nil : manyV [] = ([0], 0) := rfl
theorem mesh0_calls (w : World) :
  Calls Tryz.prog 12 #[.agg #[.slice none 0 0, .slice none 0 0]] w fun e w' => ∃ vo, e = .returned (.tuple #[vo, .int .i64 0]) ∧ Kd.R (Kd.int .u8) 5 w' w.heap.size (fun _ => True) vo [0] ∧ Below w.heap.size w w' := by
 have hu := Tryz.underlying25
 have hst := fun W => steps0_calls W
 have hca := fun W => canon0_calls W
 have hre := fun W => rests0_calls W
 have hby := fun W => bytes0_calls W
 obtain ⟨K, hK⟩ := put1_ev 0 (by decide)
 have hput := fun W A0 c0 h1 h2 => vint_Put.calls K A0 c0 [((0 : Nat) : Int)] (putN 0) W h1 h2 (hK K (Nat.le_refl _))
 clear hK
 have hp0 : putN 0 = [0] := rfl
 rw [hp0] at hput
 clear hp0
 go_enter Tryz.func12, Tryz.ntmps12
 go_upto_region 1 with (fail)
 have hb : Below w.heap.size w (w.alloc (.cells #[.slice none 0 0, .slice none 0 0] 25)) := below_alloc (Below.refl _ w) _
 have hg := heap_alloc_new w (.cells #[.slice none 0 0, .slice none 0 0] 25)
 generalize w.alloc (.cells #[.slice none 0 0, .slice none 0 0] 25) = w1 at hb hg ⊢
 have y0 : w1.cell? ⟨w.heap.size, 0, none⟩ = some (.slice none 0 0) := (blk_cell hg 0).trans rfl
 have y1 : w1.cell? ⟨w.heap.size, 1, none⟩ = some (.slice none 0 0) := (blk_cell hg 1).trans rfl
 go_upto_region 4 with (go_at_call 34; refine (hst _).mono ?_; rintro e w2 ⟨rfl, hb2⟩)
 have hB2 := below_step hb hb2
 have hg2 := blk_below hg hb2
 clear y0 y1 hb2 hg hb hst
 have y0 : w2.cell? ⟨w.heap.size, 0, none⟩ = some (.slice none 0 0) := (blk_cell hg2 0).trans rfl
 have y1 : w2.cell? ⟨w.heap.size, 1, none⟩ = some (.slice none 0 0) := (blk_cell hg2 1).trans rfl
 go_upto_region 5 with (go_at_call 35; refine (hca _).mono ?_; rintro e w3 ⟨rfl, hb3⟩)
 have hB3 := below_step hB2 hb3
 clear y0 y1 hca hg2 hb3 hB2
 have hb4 : Below w.heap.size w (w3.alloc (.cells #[.slice none 0 0, .slice none 0 0] 25)) := below_alloc hB3 _
 have hg4 := heap_alloc_new w3 (.cells #[.slice none 0 0, .slice none 0 0] 25)
 generalize w3.alloc (.cells #[.slice none 0 0, .slice none 0 0] 25) = w4 at hb4 hg4 ⊢
 generalize w3.heap.size = g4 at hg4 ⊢
 have hb5 : Below w4.heap.size w4 (w4.alloc (.cells #[.int .u64 (0 : Int)] 80)) := below_alloc (Below.refl _ w4) _
 have hg5 := heap_alloc_new w4 (.cells #[.int .u64 (0 : Int)] 80)
 have hput2 := hput _ _ 1 (C_lit .u64 _ _ [(0 : Int)] _ _ _ hg5 rfl (by simp)) (by simp)
 clear hput hg5
 go_upto_region 6 with (go_at_call 36; refine hput2.mono ?_; rintro e w6 ⟨vq, rfl, hRq, hb6⟩)
 have hB6 := below_step hb4 (below_step hb5 hb6)
 have hg6 := blk_below hg4 (below_step hb5 hb6)
 have hR6 := Kd.R_lower hRq (Nat.le_trans hb4.size hb5.size)
 clear hput2 hRq hb5 hb6 hg4 hb4 hB3
 have y0 : w6.cell? ⟨g4, 0, none⟩ = some (.slice none 0 0) := (blk_cell hg6 0).trans rfl
 have y1 : w6.cell? ⟨g4, 1, none⟩ = some (.slice none 0 0) := (blk_cell hg6 1).trans rfl
 go_wp2
 go_loopw [8, 32] (fun v8 v wr => v8 = vq ∧ v = .int .i64 0 ∧ w6 = wr) (fun _ _ _ => 0)
 case atStart => exact ⟨rfl, rfl, rfl⟩
 case round =>
  obtain ⟨rfl, rfl, rfl⟩ := hrel
  go_upto_region 16 with (go_at_call 37; refine (hre _).mono ?_; rintro e w7 ⟨rfl, hb7⟩)
  have hB7 := below_step hB6 hb7
  have hR7 := Kd.R_below hR6 hb7
  have hC7 := Kd.C_nil (Kd.int .u8) w7
  clear hre y0 y1 hg6 hB6 hR6 hb7
  go_wp2_with (first | (go_at_call 38; refine (hby _).mono ?_; rintro e w8 ⟨rfl, rfl⟩) | ((with_reducible refine gate_builtin (b := .append) (xs := #[.tmp 61, .tmp 63]) rfl ?_); at_builtin; refine Kd.R_append_rows (Kd.int .u8) (w0 := w) w.heap.size rfl (.tmp 61) (.tmp 63) 26 5 (.int .u8 0) 1 rfl Tryz.underlying26 infoU rfl (by decide) (by omega) _ [0] [] _ _ _ (fun _ => True) (fun _ => False) rfl rfl ?aO ?aR (fun _ _ h => h) (fun _ h => h.elim) ?aF ?aB ?aS ?aL ?_; (case aO => exact hR7); (case aR => exact hC7); (case aF => exact fun _ _ => trivial); (case aB => exact hB7); (case aS => exact hB7.size); (case aL => decide); intro v4 w4 hR4 hb4 hg4 hat4))
  go_ret2
  exact ⟨_, rfl, hR4, hb4⟩
theorem readmesh0_calls (w : World) :
  Calls Tryz.prog 14 #[.slice none 0 0] w fun e w' => e = .returned (.tuple #[.agg #[.slice none 0 0, .slice none 0 0], .int .i64 11]) ∧ Below w.heap.size w w' := by
 have hu := Tryz.underlying25
 have hu2 := Tryz.underlying100
 have hu3 := Tryz.underlying98
 have hb : Below w.heap.size w (w.alloc (.cells #[.slice none 0 0, .slice none 0 0] 25)) := below_alloc (Below.refl _ w) _
 have hg := heap_alloc_new w (.cells #[.slice none 0 0, .slice none 0 0] 25)
 have hb1 : Below w.heap.size w ((w.alloc (.cells #[.slice none 0 0, .slice none 0 0] 25)).alloc (.cells (pc false none 0 0 0) 100)) := below_alloc hb _
 have hg1 := heap_alloc_new (w.alloc (.cells #[.slice none 0 0, .slice none 0 0] 25)) (.cells (pc false none 0 0 0) 100)
 rw [show (w.alloc (.cells #[.slice none 0 0, .slice none 0 0] 25)).heap.size = w.heap.size + 1 by simp] at hg1
 have hgm := blk_alloc hg (.cells (pc false none 0 0 0) 100)
 have hn1 := num_calls w _ (w.heap.size + 1) none 0 0 [] (fun _ h => absurd h List.not_mem_nil) (by simp) (by simp) (by simp) (Kd.C_nil (Kd.int .u8) _) hg1 (Nat.le_succ _) hb1
 rw [numV_nil] at hn1
 simp only at hn1
 go_enter Tryz.func14, Tryz.ntmps14
 go_upto_region 3 with (go_at_call 43; refine hn1.mono ?_; rintro e w2 ⟨⟨rfl, hg2⟩, hp2⟩)
 have hB2 := hp2.b
 have hg3 := blk_kept hgm hp2.k (show ¬ (w.heap.size = w.heap.size + 1) by omega)
 have y0 : w2.cell? ⟨w.heap.size + 1, 0, none⟩ = some (.bool true) := (blk_cell hg2 0).trans rfl
 clear hn1 hp2 hgm hg1 hb1 hg hb
 have q0 : w2.cell? ⟨w.heap.size, 0, none⟩ = some (.slice none 0 0) := (blk_cell hg3 0).trans rfl
 have q1 : w2.cell? ⟨w.heap.size, 1, none⟩ = some (.slice none 0 0) := (blk_cell hg3 1).trans rfl
 have f0 := blk_frozen hg3 0
 have f1 := blk_frozen hg3 1
 have hle : w.heap.size ≤ w.heap.size := Nat.le_refl _
 go_wp2
 go_loopw [7] (fun v wr => v = .int .i64 0 ∧ w2 = wr) (fun _ _ => 0)
 case atStart => exact ⟨rfl, rfl⟩
 case round =>
  obtain ⟨rfl, rfl⟩ := hrel
  go_wp2
  refine bodyPost_ret (results_ct rfl _ _ w.heap.size 25 #[.slice none 0 0, .slice none 0 0] (0, 0) _ rfl (blk_put (cs := #[.slice none 0 0, .slice none 0 0]) (blk_put hg3 0 _ rfl) 1 _ rfl) Tryz.underlying25 rfl (by kernel_rfl)) rfl ?_
  exact ⟨rfl, below_set (below_set hB2 hle) hle⟩

theorem known18_calls (w : World) :
  Calls Tryz.prog 11 #[] w fun e w' => e = .returned (.bool true) ∧ Below w.heap.size w w' := by
 have hu := Tryz.underlying25
 have hma := fun W => many_calls W none 0 [] (fun _ h => absurd h List.not_mem_nil) (by simp) (Kd.C_nil _ _)
 have hme := fun W => mesh0_calls W
 have hrm := fun W => readmesh0_calls W
 have hsp := fun W => split_calls W none 0 [] (fun _ h => absurd h List.not_mem_nil) (by simp) (by simp) (Kd.C_nil _ _)
 simp only [manyV_nil, splitV_nil] at hma hsp
 have hsm := fun A c B d W h1 h2 h3 h4 => rf00_Same.calls A c [0] B d [0] true W h1 h2 h3 h4 (C.same_self [0])
 go_enter Tryz.func11, Tryz.ntmps11
 go_upto_region 2 with (go_at_call 18; refine (hma _).mono ?_; rintro e w1 ⟨va, rfl, hRa, hb1⟩)
 go_upto_region 3 with (go_at_call 12; refine (hme _).mono ?_; rintro e w2 ⟨vb, rfl, hRb, hb2⟩)
 have hB2 := below_step hb1 hb2
 have hRa2 := Kd.R_below hRa hb2
 have hRb2 := Kd.R_lower hRb hb1.size
 clear hRa hRb hb1 hb2 hma hme
 go_upto_region 4 with (go_at_call 14; refine (hrm _).mono ?_; rintro e w3 ⟨rfl, hb3⟩)
 have hb4 : Below w3.heap.size w3 (w3.alloc (.cells #[.slice none 0 0, .slice none 0 0] 25)) := below_alloc (Below.refl _ w3) _
 generalize w3.alloc (.cells #[.slice none 0 0, .slice none 0 0] 25) = w4 at hb4 ⊢
 have hB4 := below_step hB2 (below_step hb3 hb4)
 have hRa4 := Kd.R_below hRa2 (below_step hb3 hb4)
 have hRb4 := Kd.R_below hRb2 (below_step hb3 hb4)
 clear hrm hb3 hb4 hRa2 hRb2 hB2
 generalize w3.heap.size = g4
 go_upto_region 5 with (go_at_call 22; refine (hsp _).mono ?_; rintro e w5 ⟨vs, rfl, hS, hb5⟩)
 have hB5 := below_step hB4 hb5
 have hRa5 := Kd.R_below hRa4 hb5
 have hRb5 := Kd.R_below hRb4 hb5
 obtain ⟨Aa, ca, rfl⟩ := Kd.R_slice hRa5
 obtain ⟨Ab, cb, rfl⟩ := Kd.R_slice hRb5
 have hCa := (Kd.R_reads' hRa5).2
 have hCb := (Kd.R_reads' hRb5).2
 clear hsp hb5 hRa4 hRb4 hB4 hS hRa5 hRb5
 have hb6 : Below w5.heap.size w5 (w5.alloc (.cells #[.int .u8 (0 : Int)] 5)) := below_alloc (Below.refl _ w5) _
 have hlit := fun W : World => C_lit .u8 _ W.heap.size [(0 : Int)] _ _ _ (heap_alloc_new W (.cells #[.int .u8 (0 : Int)] 5)) rfl (by simp)
 have hs1 : Calls Tryz.prog 16 #[.slice Aa 1 ca, .slice (some ⟨w5.heap.size, 0, none⟩) 1 1] (w5.alloc (.cells #[.int .u8 (0 : Int)] 5)) (fun e w' => e = .returned (.bool true) ∧ Drawn0 (w5.alloc (.cells #[.int .u8 (0 : Int)] 5)) w') := hsm Aa ca _ 1 _ (Kd.C_below hCa.2 hb6) hCa.1 (hlit w5) (Nat.le_refl _)
 have hs2 : ∀ W : World, Below w5.heap.size w5 W → Calls Tryz.prog 16 #[.slice Ab 1 cb, .slice (some ⟨W.heap.size, 0, none⟩) 1 1] (W.alloc (.cells #[.int .u8 (0 : Int)] 5)) (fun e w' => e = .returned (.bool true) ∧ Drawn0 (W.alloc (.cells #[.int .u8 (0 : Int)] 5)) w') := fun W hW => hsm Ab cb _ 1 _ (Kd.C_below (Kd.C_below hCb.2 hW) (below_alloc (Below.refl _ W) _)) hCb.1 (hlit W) (Nat.le_refl _)
 clear hsm hlit hCa hCb
 go_wp2_with (first | (go_at_call 16; refine (hs2 _ hb7).mono ?_; rintro e w8 ⟨rfl, hd8⟩; have hb8 := below_step hb7 (below_step (below_alloc (Below.refl _ w7) _) hd8.below)) | (go_at_call 16; refine hs1.mono ?_; rintro e w7 ⟨rfl, hd7⟩; have hb7 := below_step hb6 hd7.below))
 go_ret
 exact ⟨rfl, below_step hB5 hb8⟩
end Go.Proofs.YtbdbobjdlomjnaaGreatDoor.Ec

namespace Go.Proofs.YtbdbobjdlomjnaaGreatDoor.P
open Go.RowKit Go.Proofs.YtbdbobjdlomjnaaGreatDoorW.PrintWords Go.Proofs.YtbdbobjdlomjnaaGreatDoorW.PrintLast Go.Proofs.YtbdbobjdlomjnaaGreatDoorW.PrintMore Go.Proofs.YtbdbobjdlomjnaaGreatDoor.X
attribute [local go_sem] max2_int min2_int max_two min_two max_three min_three max_four min_four add64_0 add64_1 add64
set_option linter.unusedVariables false
set_option linter.unusedSimpArgs false
def lw_known.f  : Option (Bool) := some true
set_option maxHeartbeats 8000000 in
set_option maxRecDepth 100000 in
theorem lw_known.calls  (r : Bool) (w : World) (h : lw_known.f  = some r) :
  Calls Tryz.prog 11 #[] w fun e w' => e = .returned (.bool r) ∧ Below w.heap.size w w' := by
 unfold lw_known.f at h
 obtain rfl := Option.some.inj h
 exact Ec.known18_calls w

def lw_PartsWraps.j0 : Nat → List Int → List Int → List Int → Bool → Option (Bool)
 | 0, _, _, _, _ => none
 | k + 1, x0, x1, x2, x25 => if x25 = true then ((lw_known.f).bind fun t394 => (some t394)) else ((parts_Wrap.f x0).bind fun bt395 => (if ([] : List Int).length + x1.length < 140737488355328 then ((some (([] : List Int) ++ x1 : List Int)).bind fun y399 => (if y399.length + bt395.1.length < 140737488355328 then ((some (y399 ++ bt395.1 : List Int)).bind fun y402 => (if y402.length + x2.length < 140737488355328 then ((parts_Unwrap.f (y402 ++ x2) (x1.length : Int)).bind fun bt408 => ((rf18_Wrap.f k x0).bind fun bt413 => (if bt395.2 = 0 then (if bt413.2 = 0 then ((rf00_Same.f bt395.1 bt413.1).bind fun t417 => (if t417 = true then (if bt408.2.2 = 0 then ((rf00_Same.f bt408.1 x0).bind fun t418 => (if t418 = true then (if bt408.2.1 = (wrap64 ((x1.length : Int) + (bt395.1.length : Int))) then ((lw_known.f).bind fun t419 => (some t419)) else (none)) else (none))) else (none)) else (none))) else (none)) else (none)))) else (none))) else (none))) else (none)))
def lw_PartsWraps.f (k : Nat) (l0 : List Int) (l1 : List Int) (l2 : List Int) : Option (Bool) := if (l0.length : Int) > 150 then (lw_PartsWraps.j0 k l0 l1 l2 true) else (lw_PartsWraps.j0 k l0 l1 l2 (decide ((wrap64 ((l1.length : Int) + (l2.length : Int))) > 200)))
theorem lw_PartsWraps.mono_l : ∀ k, (∀ y0 y1 y2 y3, LeO (lw_PartsWraps.j0 k y0 y1 y2 y3) (lw_PartsWraps.j0 (k + 1) y0 y1 y2 y3))
 | 0 => fun _ _ _ _ r h => by simp [lw_PartsWraps.j0] at h
 | k + 1 => by
  have ih0 := lw_PartsWraps.mono_l k
  ·intro y0 y1 y2 y3
   unfold lw_PartsWraps.j0
   repeat' first
   | (with_reducible exact ih0 _ _ _ _)
   | (with_reducible exact rf18_Wrap.mono _ _)
   | (with_reducible exact LeO.refl _)
   | (with_reducible exact LeO.none _)
   | (with_reducible refine LeO.ite ?_ ?_)
   | (with_reducible refine LeO.bind ?_ (fun _ => ?_))
   | exact ih0 _ _ _ _
   | exact rf18_Wrap.mono _ _
   | exact LeO.none _
   | refine LeO.ite ?_ ?_
   | refine LeO.bind ?_ (fun _ => ?_)
theorem lw_PartsWraps.mono : ∀ a0 a1 a2 k, LeO (lw_PartsWraps.f k a0 a1 a2) (lw_PartsWraps.f (k + 1) a0 a1 a2) := by
 intro a0 a1 a2 k
 have ih0 := lw_PartsWraps.mono_l k
 unfold lw_PartsWraps.f
 repeat' first
   | (with_reducible exact ih0 _ _ _ _)
   | (with_reducible exact rf18_Wrap.mono _ _)
   | (with_reducible exact LeO.refl _)
   | (with_reducible exact LeO.none _)
   | (with_reducible refine LeO.ite ?_ ?_)
   | (with_reducible refine LeO.bind ?_ (fun _ => ?_))
   | exact ih0 _ _ _ _
   | exact rf18_Wrap.mono _ _
   | exact LeO.none _
   | refine LeO.ite ?_ ?_
   | refine LeO.bind ?_ (fun _ => ?_)
set_option maxHeartbeats 8000000 in
set_option maxRecDepth 100000 in
theorem lw_PartsWraps.calls (k : Nat) (A0 : Option Addr) (c0 : Nat) (l0 : List Int) (A1 : Option Addr) (c1 : Nat) (l1 : List Int) (A2 : Option Addr) (c2 : Nat) (l2 : List Int) (r : Bool) (w : World) (hr0 : Kd.C (Kd.int .u8) w A0 l0.length l0) (hc0 : l0.length ≤ c0) (hr1 : Kd.C (Kd.int .u8) w A1 l1.length l1) (hc1 : l1.length ≤ c1) (hr2 : Kd.C (Kd.int .u8) w A2 l2.length l2) (hc2 : l2.length ≤ c2) (h : lw_PartsWraps.f k l0 l1 l2 = some r) :
  Calls Tryz.prog 5 #[.slice A0 l0.length c0, .slice A1 l1.length c1, .slice A2 l2.length c2] w fun e w' => e = .returned (.bool r) ∧ Below w.heap.size w w' := by
 have HR0 := Aside0.mk hr0
 have HC0 := Aside0.mk hc0
 clear hr0 hc0
 have HR1 := Aside0.mk hr1
 have HC1 := Aside0.mk hc1
 clear hr1 hc1
 have HR2 := Aside0.mk hr2
 have HC2 := Aside0.mk hc2
 clear hr2 hc2
 have HB := Aside0.mk (Below.refl w.heap.size w)
 have H : (if (l0.length : Int) > 150 then (lw_PartsWraps.j0 k l0 l1 l2 true) else (lw_PartsWraps.j0 k l0 l1 l2 (decide ((wrap64 ((l1.length : Int) + (l2.length : Int))) > 200)))) = some r := h
 clear h
 have HC4 := Aside0.mk H
 clear H
 go_enter Tryz.func5, Tryz.ntmps5
 go_upto_region 1 with (fail)
 go_cut [25] (fun v25 wc => ∃ (kq : Nat) (x25_3 : Bool), v25 = .bool x25_3 ∧ Aside0 (lw_PartsWraps.j0 kq l0 l1 l2 x25_3 = some r) ∧ Aside0 (kq ≤ k) ∧ Aside0 (Below w.heap.size w wc))
 case first =>
  have H := HC4.out
  clear HC4
  by_cases c5 : (l0.length : Int) > 150
  ·rw [if_pos c5] at H
   have c5b0 : decide (150 < (l0.length : Int)) = true := decide_eq_true c5
   have c5b1 : decide (150 < l0.length) = true := decide_eq_true (by omega)
   clear c5
   (first | rw [c5b0] | (simp only [i64_w, i32_w]; rw [c5b0]) | skip)
   have H' := Aside0.mk H
   clear H
   go_wp2
   go_meet
   case rel => exact ⟨_, (true), (by first | rfl | (simp; done) | (simp [*]; done)), H', ⟨by first | omega | exact Nat.le_refl _⟩, ⟨ bH HB⟩⟩
  ·rw [if_neg c5] at H
   have c5b0 : decide (150 < (l0.length : Int)) = false := decide_eq_false c5
   have c5b1 : decide (150 < l0.length) = false := decide_eq_false (by omega)
   clear c5
   (first | rw [c5b0] | (simp only [i64_w, i32_w]; rw [c5b0]) | skip)
   have H' := Aside0.mk H
   clear H
   go_wp2
   go_meet
   case rel => exact ⟨_, (decide ((wrap64 ((l1.length : Int) + (l2.length : Int))) > 200)), (by first | rfl | (simp; done) | (simp [*]; done)), H', ⟨by first | omega | exact Nat.le_refl _⟩, ⟨ bH HB⟩⟩
 case rest =>
  clear HC4
  try clear c1
  try clear c2
  try clear p2
  try clear c5
  try clear c5b0
  try clear c5b1
  obtain ⟨kq, x25_3, rfl, HA, HJ3, HB⟩ := hcut
  cases kq with
  | zero => exact absurd HA.out (by simp [lw_PartsWraps.j0])
  | succ kj3 =>
   have H := HA.out
   clear HA
   simp only [lw_PartsWraps.j0] at H
   by_cases c6 : x25_3 = true
   ·subst c6
    have H1 : ((lw_known.f).bind fun t394 => (some t394)) = some r := by rw [if_pos rfl] at H; exact H
    clear H
    have H := H1
    clear H1
    replace H := Option.bind_eq_some_iff.mp H
    obtain ⟨t394, A70, H⟩ := H
    replace H : (some t394) = some r := H
    have A7 := Aside0.mk A70
    clear A70
    obtain rfl := Option.some.inj H
    go_wp2_with (first | ((with_reducible refine gate_callee (f := 11) rfl ?_); refine goesL_ (some 26) rfl rfl Tryz.func11 (by kernel_rfl) rfl #[] rfl (by (try simp only [List.map_toArray, List.map_cons, List.map_nil]); first | done | rfl | (simp only [List.length_drop, List.length_take]; rfl)) ?_; (with_reducible refine (lw_known.calls  t394 _ A7.out).mono ?_); rintro e w8 ⟨rfl, hb⟩; refine ⟨_, rfl, ?_⟩; have n0_ := Aside0.mk (below_step (bH HB) hb); clear HB; have HB := n0_; clear n0_; (try clear hb); (try clear hb2); (try clear hk); (try clear hi)))
    go_ret
    exact ⟨by first | rfl | (simp [errW_none, errW_some] <;> rfl) | (simp [*, errW_none, errW_some] <;> rfl), bH HB⟩
   ·replace c6 := Bool.eq_false_iff.mpr c6
    subst c6
    have H1 : ((parts_Wrap.f l0).bind fun bt395 => (if ([] : List Int).length + l1.length < 140737488355328 then ((some (([] : List Int) ++ l1 : List Int)).bind fun y399 => (if y399.length + bt395.1.length < 140737488355328 then ((some (y399 ++ bt395.1 : List Int)).bind fun y402 => (if y402.length + l2.length < 140737488355328 then ((parts_Unwrap.f (y402 ++ l2) (l1.length : Int)).bind fun bt408 => ((rf18_Wrap.f kj3 l0).bind fun bt413 => (if bt395.2 = 0 then (if bt413.2 = 0 then ((rf00_Same.f bt395.1 bt413.1).bind fun t417 => (if t417 = true then (if bt408.2.2 = 0 then ((rf00_Same.f bt408.1 l0).bind fun t418 => (if t418 = true then (if bt408.2.1 = (wrap64 ((l1.length : Int) + (bt395.1.length : Int))) then ((lw_known.f).bind fun t419 => (some t419)) else (none)) else (none))) else (none)) else (none))) else (none)) else (none)))) else (none))) else (none))) else (none))) = some r := by rw [if_neg (show ¬ (false = true) by decide)] at H; exact H
    clear H
    have H := H1
    clear H1
    replace H := Option.bind_eq_some_iff.mp H
    obtain ⟨⟨t395, t396⟩, A90, H⟩ := H
    replace H : (if ([] : List Int).length + l1.length < 140737488355328 then ((some (([] : List Int) ++ l1 : List Int)).bind fun y399 => (if y399.length + t395.length < 140737488355328 then ((some (y399 ++ t395 : List Int)).bind fun y402 => (if y402.length + l2.length < 140737488355328 then ((parts_Unwrap.f (y402 ++ l2) (l1.length : Int)).bind fun bt408 => ((rf18_Wrap.f kj3 l0).bind fun bt413 => (if t396 = 0 then (if bt413.2 = 0 then ((rf00_Same.f t395 bt413.1).bind fun t417 => (if t417 = true then (if bt408.2.2 = 0 then ((rf00_Same.f bt408.1 l0).bind fun t418 => (if t418 = true then (if bt408.2.1 = (wrap64 ((l1.length : Int) + (t395.length : Int))) then ((lw_known.f).bind fun t419 => (some t419)) else (none)) else (none))) else (none)) else (none))) else (none)) else (none)))) else (none))) else (none))) else (none)) = some r := H
    have A9 := Aside0.mk A90
    clear A90
    by_cases c10 : ([] : List Int).length + l1.length < 140737488355328
    ·rw [if_pos c10] at H
     have LMc10 := Aside0.mk c10
     clear c10
     obtain ⟨y399, hy399⟩ : ∃ y_ : List Int, y_ = (([] : List Int) ++ l1) := ⟨_, rfl⟩
     replace H : (if y399.length + t395.length < 140737488355328 then ((some (y399 ++ t395 : List Int)).bind fun y402 => (if y402.length + l2.length < 140737488355328 then ((parts_Unwrap.f (y402 ++ l2) (l1.length : Int)).bind fun bt408 => ((rf18_Wrap.f kj3 l0).bind fun bt413 => (if t396 = 0 then (if bt413.2 = 0 then ((rf00_Same.f t395 bt413.1).bind fun t417 => (if t417 = true then (if bt408.2.2 = 0 then ((rf00_Same.f bt408.1 l0).bind fun t418 => (if t418 = true then (if bt408.2.1 = (wrap64 ((l1.length : Int) + (t395.length : Int))) then ((lw_known.f).bind fun t419 => (some t419)) else (none)) else (none))) else (none)) else (none))) else (none)) else (none)))) else (none))) else (none)) = some r := by first | (rw [hy399]; with_reducible exact H) | (have H2_ := (Option.bind_some _ _).symm.trans H; rw [hy399]; with_reducible exact H2_) | (have H2_ := (Option.bind_some _ _).symm.trans H; with_reducible exact H2_) | with_reducible exact H | (rw [hy399]; exact H) | exact H
     have Ny399 := Aside0.mk hy399
     clear hy399
     by_cases c11 : y399.length + t395.length < 140737488355328
     ·rw [if_pos c11] at H
      have LMc11 := Aside0.mk c11
      clear c11
      obtain ⟨y402, hy402⟩ : ∃ y_ : List Int, y_ = (y399 ++ t395) := ⟨_, rfl⟩
      replace H : (if y402.length + l2.length < 140737488355328 then ((parts_Unwrap.f (y402 ++ l2) (l1.length : Int)).bind fun bt408 => ((rf18_Wrap.f kj3 l0).bind fun bt413 => (if t396 = 0 then (if bt413.2 = 0 then ((rf00_Same.f t395 bt413.1).bind fun t417 => (if t417 = true then (if bt408.2.2 = 0 then ((rf00_Same.f bt408.1 l0).bind fun t418 => (if t418 = true then (if bt408.2.1 = (wrap64 ((l1.length : Int) + (t395.length : Int))) then ((lw_known.f).bind fun t419 => (some t419)) else (none)) else (none))) else (none)) else (none))) else (none)) else (none)))) else (none)) = some r := by first | (rw [hy402]; with_reducible exact H) | (have H2_ := (Option.bind_some _ _).symm.trans H; rw [hy402]; with_reducible exact H2_) | (have H2_ := (Option.bind_some _ _).symm.trans H; with_reducible exact H2_) | with_reducible exact H | (rw [hy402]; exact H) | exact H
      have Ny402 := Aside0.mk hy402
      clear hy402
      by_cases c12 : y402.length + l2.length < 140737488355328
      ·rw [if_pos c12] at H
       have LMc12 := Aside0.mk c12
       clear c12
       obtain ⟨y405, hy405⟩ : ∃ y_ : List Int, y_ = (y402 ++ l2) := ⟨_, rfl⟩
       replace H : ((parts_Unwrap.f y405 (l1.length : Int)).bind fun bt408 => ((rf18_Wrap.f kj3 l0).bind fun bt413 => (if t396 = 0 then (if bt413.2 = 0 then ((rf00_Same.f t395 bt413.1).bind fun t417 => (if t417 = true then (if bt408.2.2 = 0 then ((rf00_Same.f bt408.1 l0).bind fun t418 => (if t418 = true then (if bt408.2.1 = (wrap64 ((l1.length : Int) + (t395.length : Int))) then ((lw_known.f).bind fun t419 => (some t419)) else (none)) else (none))) else (none)) else (none))) else (none)) else (none)))) = some r := by first | (rw [hy405]; with_reducible exact H) | (have H2_ := (Option.bind_some _ _).symm.trans H; rw [hy405]; with_reducible exact H2_) | (have H2_ := (Option.bind_some _ _).symm.trans H; with_reducible exact H2_) | with_reducible exact H | (rw [hy405]; exact H) | exact H
       have Ny405 := Aside0.mk hy405
       clear hy405
       replace H := Option.bind_eq_some_iff.mp H
       obtain ⟨⟨t408, t409, t410⟩, A130, H⟩ := H
       replace H : ((rf18_Wrap.f kj3 l0).bind fun bt413 => (if t396 = 0 then (if bt413.2 = 0 then ((rf00_Same.f t395 bt413.1).bind fun t417 => (if t417 = true then (if t410 = 0 then ((rf00_Same.f t408 l0).bind fun t418 => (if t418 = true then (if t409 = (wrap64 ((l1.length : Int) + (t395.length : Int))) then ((lw_known.f).bind fun t419 => (some t419)) else (none)) else (none))) else (none)) else (none))) else (none)) else (none))) = some r := H
       have A13 := Aside0.mk A130
       clear A130
       replace H := Option.bind_eq_some_iff.mp H
       obtain ⟨⟨t413, t414⟩, A140, H⟩ := H
       replace H : (if t396 = 0 then (if t414 = 0 then ((rf00_Same.f t395 t413).bind fun t417 => (if t417 = true then (if t410 = 0 then ((rf00_Same.f t408 l0).bind fun t418 => (if t418 = true then (if t409 = (wrap64 ((l1.length : Int) + (t395.length : Int))) then ((lw_known.f).bind fun t419 => (some t419)) else (none)) else (none))) else (none)) else (none))) else (none)) else (none)) = some r := H
       have A14 := Aside0.mk A140
       clear A140
       by_cases c15 : t396 = 0
       ·rw [if_pos c15] at H
        have c15b0 : (t396 == 0) = true := beq_iff_eq.mpr c15
        have c15b1 : (t396 != 0) = false := bne_eq_false_iff_eq.mpr c15
        clear c15
        by_cases c16 : t414 = 0
        ·rw [if_pos c16] at H
         have c16b0 : (t414 == 0) = true := beq_iff_eq.mpr c16
         have c16b1 : (t414 != 0) = false := bne_eq_false_iff_eq.mpr c16
         clear c16
         replace H := Option.bind_eq_some_iff.mp H
         obtain ⟨t417, A170, H⟩ := H
         replace H : (if t417 = true then (if t410 = 0 then ((rf00_Same.f t408 l0).bind fun t418 => (if t418 = true then (if t409 = (wrap64 ((l1.length : Int) + (t395.length : Int))) then ((lw_known.f).bind fun t419 => (some t419)) else (none)) else (none))) else (none)) else (none)) = some r := H
         have A17 := Aside0.mk A170
         clear A170
         by_cases c18 : t417 = true
         ·subst c18
          have H1 : (if t410 = 0 then ((rf00_Same.f t408 l0).bind fun t418 => (if t418 = true then (if t409 = (wrap64 ((l1.length : Int) + (t395.length : Int))) then ((lw_known.f).bind fun t419 => (some t419)) else (none)) else (none))) else (none)) = some r := by rw [if_pos rfl] at H; exact H
          clear H
          have H := H1
          clear H1
          by_cases c19 : t410 = 0
          ·rw [if_pos c19] at H
           have c19b0 : (t410 == 0) = true := beq_iff_eq.mpr c19
           have c19b1 : (t410 != 0) = false := bne_eq_false_iff_eq.mpr c19
           clear c19
           replace H := Option.bind_eq_some_iff.mp H
           obtain ⟨t418, A200, H⟩ := H
           replace H : (if t418 = true then (if t409 = (wrap64 ((l1.length : Int) + (t395.length : Int))) then ((lw_known.f).bind fun t419 => (some t419)) else (none)) else (none)) = some r := H
           have A20 := Aside0.mk A200
           clear A200
           by_cases c21 : t418 = true
           ·subst c21
            have H1 : (if t409 = (wrap64 ((l1.length : Int) + (t395.length : Int))) then ((lw_known.f).bind fun t419 => (some t419)) else (none)) = some r := by rw [if_pos rfl] at H; exact H
            clear H
            have H := H1
            clear H1
            by_cases c22 : t409 = (wrap64 ((l1.length : Int) + (t395.length : Int)))
            ·rw [if_pos c22] at H
             have c22b0 : (t409 == (wrap64 ((l1.length : Int) + (t395.length : Int)))) = true := beq_iff_eq.mpr c22
             have c22b1 : (t409 != (wrap64 ((l1.length : Int) + (t395.length : Int)))) = false := bne_eq_false_iff_eq.mpr c22
             clear c22
             replace H := Option.bind_eq_some_iff.mp H
             obtain ⟨t419, A230, H⟩ := H
             replace H : (some t419) = some r := H
             have A23 := Aside0.mk A230
             clear A230
             obtain rfl := Option.some.inj H
             go_wp2_with (first | ((with_reducible refine gate_callee (f := 25) rfl ?_); refine goesL_ (some 29) rfl rfl Tryz.func25 (by kernel_rfl) rfl #[.slice A0 l0.length c0] rfl (by (try simp only [List.map_toArray, List.map_cons, List.map_nil]); first | done | rfl | (simp only [List.length_drop, List.length_take]; rfl)) ?_; (with_reducible refine (parts_Wrap.calls _ _ l0 t395 t396 _ ?side1 ?side2 A9.out).mono ?_); (case side1 => repeat (first | exact (Kd.C_below HR0.out HB.out) | (with_reducible refine Kd.C_alloc ?_ _) | (with_reducible refine Kd.C_drewN ?_ _) | (with_reducible refine Kd.C_drew ?_))); (case side2 => exact HC0.out); rintro e w24 ⟨v397, rfl, ho0, hb⟩; refine ⟨_, rfl, ?_⟩; have n0_ := Aside0.mk (Kd.R_lower ho0 (below_size (bH HB))); have n1_ := Aside0.mk (below_step (bH HB) hb); clear HB; have HO398 := n0_; have HB := n1_; clear n0_ n1_; (try clear hb); (try clear hb2); (try clear hk); (try clear hi); (try clear ho0)) | ((with_reducible refine gate_builtin (b := .append) (xs := #[.tmp 32, .tmp 33]) rfl ?_); (try (refine gate_guard (by rfl) ?_; dsimp only)); at_builtin; refine Kd.R_append_rows (Kd.int .u8) (w0 := w) w.heap.size rfl (.tmp 32) (.tmp 33) 26 5 (.int .u8 0) 1 rfl Tryz.underlying26 info5 rfl (by decide) (by omega) (.slice none 0 0) ([] : List Int) l1 _ _ _ (fun k_ => some k_ ≠ (v397 : Value).ownBlock) (fun _ => False) rfl rfl ?aO ?aR (fun _ _ h => h) (fun _ h => h.elim) ?aF ?aB ?aS ?aL ?_; (case aR => repeat (first | exact (Kd.C_below HR1.out HB.out) | (with_reducible refine Kd.C_alloc ?_ _) | (with_reducible refine Kd.C_drewN ?_ _) | (with_reducible refine Kd.C_drew ?_))); (case aB => exact (bH HB)); (case aF => exact (fun k_ hk => Kd.fresh' (Kd.R_lt (rK HO398)) k_ hk)); (case aO => exact ((Kd.R_nil _ _ _ _ (fun k_ => some k_ ≠ (v397 : Value).ownBlock)))); (case aS => exact (below_size (bH HB))); (case aL => have := LMc10.out; omega); intro v400 w25 ho hb hg hat; rw [← Ny399.out] at ho; have n0_ := Aside0.mk (Kd.R_after (Kd.R_apart_nil (rK HO398)) hg hat); have n1_ := Aside0.mk (hb); have n2_ := Aside0.mk (ho); clear HO398; clear HB; have HO398 := n0_; have HB := n1_; have HO401 := n2_; clear n0_ n1_ n2_; clear ho hb hg hat; obtain ⟨Ao27, co27, eo27⟩ := Kd.R_slice HO398.out; subst eo27) | ((with_reducible refine gate_builtin (b := .append) (xs := #[.tmp 35, .tmp 36]) rfl ?_); (try (refine gate_guard (by rfl) ?_; dsimp only)); at_builtin; refine Kd.R_append_rows (Kd.int .u8) (w0 := w) w.heap.size rfl (.tmp 35) (.tmp 36) 26 5 (.int .u8 0) 1 rfl Tryz.underlying26 info5 rfl (by decide) (by omega) v400 y399 t395 _ _ _ (fun k_ => some k_ ≠ (.slice Ao27 t395.length co27 : Value).ownBlock) (fun _ => False) rfl rfl ?aO ?aR (fun _ _ h => h) (fun _ h => h.elim) ?aF ?aB ?aS ?aL ?_; (case aR => repeat (first | exact (Kd.R_reads' HO398.out).2.2 | (with_reducible refine Kd.C_alloc ?_ _) | (with_reducible refine Kd.C_drewN ?_ _) | (with_reducible refine Kd.C_drew ?_))); (case aB => exact (bH HB)); (case aF => exact (fun k_ hk => Kd.fresh' (Kd.R_lt (rK HO398)) k_ hk)); (case aO => exact (rK HO401)); (case aS => exact (below_size (bH HB))); (case aL => have := LMc11.out; omega); intro v403 w26 ho hb hg hat; rw [← Ny402.out] at ho; have n0_ := Aside0.mk (Kd.R_after (ok := (fun _ => True)) (rK HO398) hg hat); have n1_ := Aside0.mk (hb); have n2_ := Aside0.mk (ho); clear HO398; clear HB; clear HO401; have HO398 := n0_; have HB := n1_; have HO404 := n2_; clear n0_ n1_ n2_; clear ho hb hg hat) | ((with_reducible refine gate_builtin (b := .append) (xs := #[.tmp 38, .tmp 39]) rfl ?_); (try (refine gate_guard (by rfl) ?_; dsimp only)); at_builtin; refine Kd.R_append_rows (Kd.int .u8) (w0 := w) w.heap.size rfl (.tmp 38) (.tmp 39) 26 5 (.int .u8 0) 1 rfl Tryz.underlying26 info5 rfl (by decide) (by omega) v403 y402 l2 _ _ _ (fun k_ => some k_ ≠ (.slice Ao27 t395.length co27 : Value).ownBlock) (fun _ => False) rfl rfl ?aO ?aR (fun _ _ h => h) (fun _ h => h.elim) ?aF ?aB ?aS ?aL ?_; (case aR => repeat (first | exact (Kd.C_below HR2.out HB.out) | (with_reducible refine Kd.C_alloc ?_ _) | (with_reducible refine Kd.C_drewN ?_ _) | (with_reducible refine Kd.C_drew ?_))); (case aB => exact (bH HB)); (case aF => exact (fun k_ hk => Kd.fresh' (Kd.R_lt (rK HO398)) k_ hk)); (case aO => exact (rK HO404)); (case aS => exact (below_size (bH HB))); (case aL => have := LMc12.out; omega); intro v406 w28 ho hb hg hat; rw [← Ny405.out] at ho; have n0_ := Aside0.mk (Kd.R_after (ok := (fun _ => True)) (rK HO398) hg hat); have n1_ := Aside0.mk (hb); have n2_ := Aside0.mk (ho); clear HO398; clear HB; clear HO404; have HO398 := n0_; have HB := n1_; have HO407 := n2_; clear n0_ n1_ n2_; clear ho hb hg hat; obtain ⟨Ao29, co29, eo29⟩ := Kd.R_slice HO407.out; subst eo29) | ((with_reducible refine gate_callee (f := 20) rfl ?_); refine goesL_ (some 45) rfl rfl Tryz.func20 (by kernel_rfl) rfl #[.slice Ao29 y405.length co29, .int .i64 (l1.length : Int)] rfl (by (try simp only [List.map_toArray, List.map_cons, List.map_nil]); first | done | rfl | (simp only [List.length_drop, List.length_take]; rfl)) ?_; (with_reducible refine (parts_Unwrap.calls _ _ y405 (l1.length : Int) t408 t409 t410 _ ?side1 ?side2 A13.out).mono ?_); (case side1 => repeat (first | exact (Kd.R_reads' HO407.out).2.2 | (with_reducible refine Kd.C_alloc ?_ _) | (with_reducible refine Kd.C_drewN ?_ _) | (with_reducible refine Kd.C_drew ?_))); (case side2 => exact (Kd.R_reads' HO407.out).2.1); rintro e w30 ⟨v411, rfl, ho0, hb⟩; refine ⟨_, rfl, ?_⟩; have n0_ := Aside0.mk (Kd.R_elder' (rK HO398) (Kd.R_base ho0) hb); have n1_ := Aside0.mk (Kd.R_elder' (rK HO407) (Kd.R_base ho0) hb); have n2_ := Aside0.mk (Kd.R_lower (Kd.R_new' (Kd.R_new' ho0 (Kd.R_lt (rK HO398))) (Kd.R_lt (rK HO407))) (below_size (bH HB))); have n3_ := Aside0.mk (below_step (bH HB) hb); clear HO398; clear HO407; clear HB; have HO398 := n0_; have HO407 := n1_; have HO412 := n2_; have HB := n3_; clear n0_ n1_ n2_ n3_; (try clear hb); (try clear hb2); (try clear hk); (try clear hi); (try clear ho0)) | ((with_reducible refine gate_callee (f := 26) rfl ?_); refine goesL_ (some 51) rfl rfl Tryz.func26 (by kernel_rfl) rfl #[.slice A0 l0.length c0] rfl (by (try simp only [List.map_toArray, List.map_cons, List.map_nil]); first | done | rfl | (simp only [List.length_drop, List.length_take]; rfl)) ?_; (with_reducible refine (rf18_Wrap.calls kj3 _ _ l0 t413 t414 _ ?side1 ?side2 A14.out).mono ?_); (case side1 => repeat (first | exact (Kd.C_below HR0.out HB.out) | (with_reducible refine Kd.C_alloc ?_ _) | (with_reducible refine Kd.C_drewN ?_ _) | (with_reducible refine Kd.C_drew ?_))); (case side2 => exact HC0.out); rintro e w31 ⟨v415, rfl, ho0, hb⟩; refine ⟨_, rfl, ?_⟩; have n0_ := Aside0.mk (Kd.R_elder' (rK HO398) (Kd.R_base ho0) hb); have n1_ := Aside0.mk (Kd.R_elder' (rK HO407) (Kd.R_base ho0) hb); have n2_ := Aside0.mk (Kd.R_elder' (rK HO412) (Kd.R_base ho0) hb); have n3_ := Aside0.mk (Kd.R_lower (Kd.R_new' (Kd.R_new' (Kd.R_new' ho0 (Kd.R_lt (rK HO398))) (Kd.R_lt (rK HO407))) (Kd.R_lt (rK HO412))) (below_size (bH HB))); have n4_ := Aside0.mk (below_step (bH HB) hb); clear HO398; clear HO407; clear HO412; clear HB; have HO398 := n0_; have HO407 := n1_; have HO412 := n2_; have HO416 := n3_; have HB := n4_; clear n0_ n1_ n2_ n3_ n4_; (try clear hb); (try clear hb2); (try clear hk); (try clear hi); (try clear ho0); obtain ⟨Ao32, co32, eo32⟩ := Kd.R_slice HO416.out; subst eo32) | (go_at_call 16; (with_reducible refine (rf00_Same.calls _ _ t395 _ _ t413 true _ ?side1 ?side2 ?side3 ?side4 A17.out).mono ?_); (case side1 => repeat (first | exact (Kd.R_reads' HO398.out).2.2 | (with_reducible refine Kd.C_alloc ?_ _) | (with_reducible refine Kd.C_drewN ?_ _) | (with_reducible refine Kd.C_drew ?_))); (case side2 => exact (Kd.R_reads' HO398.out).2.1); (case side3 => repeat (first | exact (Kd.R_reads' HO416.out).2.2 | (with_reducible refine Kd.C_alloc ?_ _) | (with_reducible refine Kd.C_drewN ?_ _) | (with_reducible refine Kd.C_drew ?_))); (case side4 => exact (Kd.R_reads' HO416.out).2.1); rintro e w' ⟨rfl, ⟨nd, rfl⟩⟩; obtain ⟨Ao33, co33, eo33⟩ := Kd.R_slice HO412.out; subst eo33) | (go_at_call 16; (with_reducible refine (rf00_Same.calls _ _ t408 _ _ l0 true _ ?side1 ?side2 ?side3 ?side4 A20.out).mono ?_); (case side1 => repeat (first | exact (Kd.R_reads' HO412.out).2.2 | (with_reducible refine Kd.C_alloc ?_ _) | (with_reducible refine Kd.C_drewN ?_ _) | (with_reducible refine Kd.C_drew ?_))); (case side2 => exact (Kd.R_reads' HO412.out).2.1); (case side3 => repeat (first | exact (Kd.C_below HR0.out (bH HB)) | (with_reducible refine Kd.C_alloc ?_ _) | (with_reducible refine Kd.C_drewN ?_ _) | (with_reducible refine Kd.C_drew ?_))); (case side4 => exact HC0.out); rintro e w' ⟨rfl, ⟨nd, rfl⟩⟩) | (go_at_call 11; (with_reducible refine (lw_known.calls  t419 _ A23.out).mono ?_); rintro e w34 ⟨rfl, hb⟩; have n0_ := Aside0.mk (Kd.R_below (rK HO398) hb); have n1_ := Aside0.mk (Kd.R_below (rK HO407) hb); have n2_ := Aside0.mk (Kd.R_below (rK HO412) hb); have n3_ := Aside0.mk (Kd.R_below (rK HO416) hb); have n4_ := Aside0.mk (below_step (bH HB) hb); clear HO398; clear HO407; clear HO412; clear HO416; clear HB; have HO398 := n0_; have HO407 := n1_; have HO412 := n2_; have HO416 := n3_; have HB := n4_; clear n0_ n1_ n2_ n3_ n4_; (try clear hb); (try clear hb2); (try clear hk); (try clear hi)))
             go_ret
             exact ⟨by first | rfl | (simp [errW_none, errW_some] <;> rfl) | (simp [*, errW_none, errW_some] <;> rfl), bH HB⟩
            ·rw [if_neg c22] at H
             exact absurd H (by simp)
           ·replace c21 := Bool.eq_false_iff.mpr c21
            subst c21
            have H1 : (none) = some r := by rw [if_neg (show ¬ (false = true) by decide)] at H; exact H
            clear H
            have H := H1
            clear H1
            exact absurd H (by simp)
          ·rw [if_neg c19] at H
           exact absurd H (by simp)
         ·replace c18 := Bool.eq_false_iff.mpr c18
          subst c18
          have H1 : (none) = some r := by rw [if_neg (show ¬ (false = true) by decide)] at H; exact H
          clear H
          have H := H1
          clear H1
          exact absurd H (by simp)
        ·rw [if_neg c16] at H
         exact absurd H (by simp)
       ·rw [if_neg c15] at H
        exact absurd H (by simp)
      ·rw [if_neg c12] at H
       exact absurd H (by simp)
     ·rw [if_neg c11] at H
      exact absurd H (by simp)
    ·rw [if_neg c10] at H
     exact absurd H (by simp)
def lw_PartsWraps.Pure : Prop := ∀ (l0 : List Int) (l1 : List Int) (l2 : List Int), l0.length ≤ maxLen → l0.length * 1 ≤ 140737488351232 → (∀ x ∈ l0, (Lit.int .u8 x).wf = true) → l1.length ≤ maxLen → l1.length * 1 ≤ 140737488351232 → (∀ x ∈ l1, (Lit.int .u8 x).wf = true) → l2.length ≤ maxLen → l2.length * 1 ≤ 140737488351232 → (∀ x ∈ l2, (Lit.int .u8 x).wf = true) → ∃ k, lw_PartsWraps.f k l0 l1 l2 = some true
theorem lw_PartsWraps.walk (P : lw_PartsWraps.Pure) (a0 : Option Addr) (len0 cap0 : Nat) (z0 : List Int) (a1 : Option Addr) (len1 cap1 : Nat) (z1 : List Int) (a2 : Option Addr) (len2 cap2 : Nat) (z2 : List Int) (w : World) (w0 : (a0 = none ∧ len0 = 0 ∧ cap0 = 0 ∧ z0 = []) ∨ ∃ x, a0 = some x ∧ len0 ≤ cap0 ∧ cap0 ≤ maxLen ∧ z0.length = cap0 ∧ (∀ i, i < z0.length → w.cell? (x.add i) = some (.int .u8 (z0.getD i 0))) ∧ ∀ n ∈ z0, (Lit.int .u8 n).wf = true) (y0 : len0 * 1 ≤ 140737488351232) (w1 : (a1 = none ∧ len1 = 0 ∧ cap1 = 0 ∧ z1 = []) ∨ ∃ x, a1 = some x ∧ len1 ≤ cap1 ∧ cap1 ≤ maxLen ∧ z1.length = cap1 ∧ (∀ i, i < z1.length → w.cell? (x.add i) = some (.int .u8 (z1.getD i 0))) ∧ ∀ n ∈ z1, (Lit.int .u8 n).wf = true) (y1 : len1 * 1 ≤ 140737488351232) (w2 : (a2 = none ∧ len2 = 0 ∧ cap2 = 0 ∧ z2 = []) ∨ ∃ x, a2 = some x ∧ len2 ≤ cap2 ∧ cap2 ≤ maxLen ∧ z2.length = cap2 ∧ (∀ i, i < z2.length → w.cell? (x.add i) = some (.int .u8 (z2.getD i 0))) ∧ ∀ n ∈ z2, (Lit.int .u8 n).wf = true) (y2 : len2 * 1 ≤ 140737488351232) :
  Calls Tryz.prog 5 #[.slice a0 len0 cap0, .slice a1 len1 cap1, .slice a2 len2 cap2] w fun e w' => e = .returned (.bool true) ∧ Below w.heap.size w w' := by
 obtain ⟨l0, rfl, hr0, hm0, hw0, hc0⟩ := ReadsInt.ofRowC w0
 obtain ⟨l1, rfl, hr1, hm1, hw1, hc1⟩ := ReadsInt.ofRowC w1
 obtain ⟨l2, rfl, hr2, hm2, hw2, hc2⟩ := ReadsInt.ofRowC w2
 obtain ⟨k, h⟩ := P l0 l1 l2 hm0 y0 hw0 hm1 y1 hw1 hm2 y2 hw2
 refine (lw_PartsWraps.calls k _ _ l0 _ _ l1 _ _ l2 true w (Kd.C_of_reads (d := (0 : Int)) (h1 := fun _ => rfl) hr0) hc0 (Kd.C_of_reads (d := (0 : Int)) (h1 := fun _ => rfl) hr1) hc1 (Kd.C_of_reads (d := (0 : Int)) (h1 := fun _ => rfl) hr2) hc2 h).mono ?_
 rintro e w' ⟨rfl, hd⟩
 exact ⟨rfl, hd⟩
end Go.Proofs.YtbdbobjdlomjnaaGreatDoor.P

namespace Go.Proofs.YtbdbobjdlomjnaaGreatDoor.Ec
set_option linter.unusedVariables false
set_option linter.unusedSimpArgs false
open Go Go.RowKit Go.Proofs.YtbdbobjdlomjnaaGreatDoor.P Go.Proofs.YtbdbobjdlomjnaaGreatDoor.C Go.Proofs.YtbdbobjdlomjnaaGreatDoor.Fv Go.Proofs.YtbdbobjdlomjnaaGreatDoorW.PrintWords Go.Proofs.YtbdbobjdlomjnaaGreatDoorW.PrintLast Go.Proofs.YtbdbobjdlomjnaaGreatDoorW.PrintMore
theorem wrapV_dg {l : List Int} (hd : Dg l) (hl : l.length ≤ 8000) : Dg (wrapV l) := by
 have hi := In_dg.2 hd
 have he := encV_len hi
 unfold wrapV
 exact Dg_append (putN_wf _ (by omega)) (Dg_append (putN_wf _ (by omega)) (encV_of hi).1)
theorem w8 {x : Int} (h : (Lit.int .u8 x).wf = true) : 0 ≤ x ∧ x ≤ 255 := by simpa [Lit.wf, IntKind.min, IntKind.max, IntKind.signed, IntKind.bits] using h
end Go.Proofs.YtbdbobjdlomjnaaGreatDoor.Ec
