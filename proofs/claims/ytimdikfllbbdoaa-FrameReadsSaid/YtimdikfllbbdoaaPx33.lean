/- Written for this claim by a program of this session (a turned copy of the print): Go functions as Lean functions, and that the Go code comes to just these answers; or a statement proved out of them. No condition. -/
import Derived.Test.YtimdikfllbbdoaaPx0
import Derived.Test.YtimdikfllbbdoaaPx18
import Derived.Test.YtimdikfllbbdoaaPx19
import Derived.Test.YtimdikfllbbdoaaPx31
import Derived.Test.YtimdikfllbbdoaaPx32
namespace Go.Proofs.Ytimdikfllbbdoaa.P
open Go.RowKit Go.Proofs.YtimdikfllbbdoaaW.PrintWords Go.Proofs.YtimdikfllbbdoaaW.PrintLast Go.Proofs.YtimdikfllbbdoaaW.PrintMore Go.Proofs.Ytimdikfllbbdoaa.X
attribute [local go_sem] max2_int min2_int max_two min_two max_three min_three max_four min_four   -- for this text's walks alone
set_option linter.unusedVariables false
set_option linter.unusedSimpArgs false

/-! ### lapidarylaw03_FrameReads: function 4 -/
def lapidarylaw03_FrameReads.f (k : Nat) (l0 : List Int) : Option (Bool) := if (l0.length : Int) > 1200 then ((lapidarylaw03_known.f k).bind fun t382 => (some t382)) else ((frame_Decode.f k l0).bind fun bt383 => ((lapidaryref03_Decode.f k l0).bind fun bt387 => ((lapidaryref03_Same.f k bt383.1 bt387.1).bind fun t391 => (if t391 = true then (if bt383.2 = bt387.2 then ((lapidarylaw03_known.f k).bind fun t392 => (some t392)) else (none)) else (none)))))
theorem lapidarylaw03_FrameReads.mono : ∀ a0 k, LeO (lapidarylaw03_FrameReads.f k a0) (lapidarylaw03_FrameReads.f (k + 1) a0) := by
 intro a0 k
 unfold lapidarylaw03_FrameReads.f
 repeat' first
   | (with_reducible exact frame_Decode.mono _ _)
   | (with_reducible exact lapidarylaw03_known.mono _)
   | (with_reducible exact lapidaryref03_Decode.mono _ _)
   | (with_reducible exact lapidaryref03_Same.mono _ _ _)
   | (with_reducible exact LeO.refl _)
   | (with_reducible exact LeO.none _)
   | (with_reducible refine LeO.ite ?_ ?_)
   | (with_reducible refine LeO.bind ?_ (fun _ => ?_))
   | exact frame_Decode.mono _ _
   | exact lapidarylaw03_known.mono _
   | exact lapidaryref03_Decode.mono _ _
   | exact lapidaryref03_Same.mono _ _ _
   | exact LeO.none _
   | refine LeO.ite ?_ ?_
   | refine LeO.bind ?_ (fun _ => ?_)
set_option maxHeartbeats 8000000 in
set_option maxRecDepth 100000 in
theorem lapidarylaw03_FrameReads.calls (k : Nat) (A0 : Option Addr) (c0 : Nat) (l0 : List Int) (r : Bool) (w : World) (hr0 : Kd.C (Kd.int .u8) w A0 l0.length l0) (hc0 : l0.length ≤ c0) (h : lapidarylaw03_FrameReads.f k l0 = some r) :
  Calls Try.prog 4 #[.slice A0 l0.length c0] w fun e w' => e = .returned (.bool r) ∧ Below w.heap.size w w' := by
 have HR0 := Aside0.mk hr0
 have HC0 := Aside0.mk hc0
 clear hr0 hc0
 have HB := Aside0.mk (Below.refl w.heap.size w)
 have H : (if (l0.length : Int) > 1200 then ((lapidarylaw03_known.f k).bind fun t382 => (some t382)) else ((frame_Decode.f k l0).bind fun bt383 => ((lapidaryref03_Decode.f k l0).bind fun bt387 => ((lapidaryref03_Same.f k bt383.1 bt387.1).bind fun t391 => (if t391 = true then (if bt383.2 = bt387.2 then ((lapidarylaw03_known.f k).bind fun t392 => (some t392)) else (none)) else (none)))))) = some r := h
 clear h
 by_cases c2 : (l0.length : Int) > 1200
 ·rw [if_pos c2] at H
  have c2b0 : decide (1200 < (l0.length : Int)) = true := decide_eq_true c2
  have c2b1 : decide (1200 < l0.length) = true := decide_eq_true (by omega)
  clear c2
  replace H := Option.bind_eq_some_iff.mp H
  obtain ⟨t382, A30, H⟩ := H
  replace H : (some t382) = some r := H
  have A3 := Aside0.mk A30
  clear A30
  obtain rfl := Option.some.inj H
  go_enter Try.func4, Try.ntmps4
  go_wp2_with (first | ((with_reducible refine gate_callee (f := 9) rfl ?_); refine goesL_ (some 10) rfl rfl Try.func9 (by kernel_rfl) rfl #[] rfl (by (try simp only [List.map_toArray, List.map_cons, List.map_nil]); first | done | rfl | (simp only [List.length_drop, List.length_take]; rfl)) ?_; (with_reducible refine (lapidarylaw03_known.calls k  t382 _ A3.out).mono ?_); rintro e w4 ⟨rfl, hb⟩; refine ⟨_, rfl, ?_⟩; have n0_ := Aside0.mk (below_step (bH HB) hb); clear HB; have HB := n0_; clear n0_; (try clear hb); (try clear hb2); (try clear hk); (try clear hi)))
  go_ret
  exact ⟨by first | rfl | (simp [errW_none, errW_some] <;> rfl) | (simp [*, errW_none, errW_some] <;> rfl), bH HB⟩
 ·rw [if_neg c2] at H
  have c2b0 : decide (1200 < (l0.length : Int)) = false := decide_eq_false c2
  have c2b1 : decide (1200 < l0.length) = false := decide_eq_false (by omega)
  clear c2
  replace H := Option.bind_eq_some_iff.mp H
  obtain ⟨⟨t383, t384⟩, A50, H⟩ := H
  replace H : ((lapidaryref03_Decode.f k l0).bind fun bt387 => ((lapidaryref03_Same.f k t383 bt387.1).bind fun t391 => (if t391 = true then (if t384 = bt387.2 then ((lapidarylaw03_known.f k).bind fun t392 => (some t392)) else (none)) else (none)))) = some r := H
  have A5 := Aside0.mk A50
  clear A50
  replace H := Option.bind_eq_some_iff.mp H
  obtain ⟨⟨t387, t390⟩, A60, H⟩ := H
  replace H : ((lapidaryref03_Same.f k t383 t387).bind fun t391 => (if t391 = true then (if t384 = t390 then ((lapidarylaw03_known.f k).bind fun t392 => (some t392)) else (none)) else (none))) = some r := H
  have A6 := Aside0.mk A60
  clear A60
  replace H := Option.bind_eq_some_iff.mp H
  obtain ⟨t391, A70, H⟩ := H
  replace H : (if t391 = true then (if t384 = t390 then ((lapidarylaw03_known.f k).bind fun t392 => (some t392)) else (none)) else (none)) = some r := H
  have A7 := Aside0.mk A70
  clear A70
  by_cases c8 : t391 = true
  ·subst c8
   have H1 : (if t384 = t390 then ((lapidarylaw03_known.f k).bind fun t392 => (some t392)) else (none)) = some r := by rw [if_pos rfl] at H; exact H
   clear H
   have H := H1
   clear H1
   by_cases c9 : t384 = t390
   ·rw [if_pos c9] at H
    have c9b0 : (t384 == t390) = true := beq_iff_eq.mpr c9
    have c9b1 : (t384 != t390) = false := bne_eq_false_iff_eq.mpr c9
    clear c9
    replace H := Option.bind_eq_some_iff.mp H
    obtain ⟨t392, A100, H⟩ := H
    replace H : (some t392) = some r := H
    have A10 := Aside0.mk A100
    clear A100
    obtain rfl := Option.some.inj H
    go_enter Try.func4, Try.ntmps4
    go_wp2_with (first | ((with_reducible refine gate_callee (f := 15) rfl ?_); refine goesL_ (some 13) rfl rfl Try.func15 (by kernel_rfl) rfl #[.slice A0 l0.length c0] rfl (by (try simp only [List.map_toArray, List.map_cons, List.map_nil]); first | done | rfl | (simp only [List.length_drop, List.length_take]; rfl)) ?_; (with_reducible refine (frame_Decode.calls k _ _ l0 t383 t384 _ ?side1 ?side2 A5.out).mono ?_); (case side1 => repeat (first | exact HR0.out | (with_reducible refine Kd.C_alloc ?_ _) | (with_reducible refine Kd.C_drewN ?_ _) | (with_reducible refine Kd.C_drew ?_))); (case side2 => exact HC0.out); rintro e w11 ⟨v385, rfl, ho0, hb⟩; refine ⟨_, rfl, ?_⟩; have n0_ := Aside0.mk (Kd.S_lower ho0 (below_size (bH HB))); have n1_ := Aside0.mk (below_step (bH HB) hb); clear HB; have HO386 := n0_; have HB := n1_; clear n0_ n1_; (try clear hb); (try clear hb2); (try clear hk); (try clear hi); (try clear ho0)) | ((with_reducible refine gate_callee (f := 16) rfl ?_); refine goesL_ (some 18) rfl rfl Try.func16 (by kernel_rfl) rfl #[.slice A0 l0.length c0] rfl (by (try simp only [List.map_toArray, List.map_cons, List.map_nil]); first | done | rfl | (simp only [List.length_drop, List.length_take]; rfl)) ?_; (with_reducible refine (lapidaryref03_Decode.calls k _ _ l0 t387 t390 _ ?side1 ?side2 A6.out).mono ?_); (case side1 => repeat (first | exact (Kd.C_below HR0.out HB.out) | (with_reducible refine Kd.C_alloc ?_ _) | (with_reducible refine Kd.C_drewN ?_ _) | (with_reducible refine Kd.C_drew ?_))); (case side2 => exact HC0.out); rintro e w12 ⟨v388, rfl, ho0, hb⟩; refine ⟨_, rfl, ?_⟩; have n0_ := Aside0.mk (Kd.S_below (by (with_reducible repeat (first | apply Kd.S_alloc | apply Kd.S_drewN | apply Kd.S_drew)); exact HO386.out) hb); have n1_ := Aside0.mk (Kd.V_lower (Kd.V_mono (ok' := fun k_ => some k_ ≠ (v385 : Value).ownBlock) ho0 (fun k_ hk_ => (Kd.fresh' (Kd.S_lt (by (with_reducible repeat (first | apply Kd.S_alloc | apply Kd.S_drewN | apply Kd.S_drew)); exact HO386.out)) k_ hk_))) (below_size (bH HB))); have n2_ := Aside0.mk (below_step (bH HB) hb); clear HO386; clear HB; have HO386 := n0_; have HO389 := n1_; have HB := n2_; clear n0_ n1_ n2_; (try clear hb); (try clear hb2); (try clear hk); (try clear hi); (try clear ho0); obtain ⟨Ao13, co13, eo13⟩ := Kd.S_slice HO386.out; subst eo13; obtain ⟨Ao14, co14, eo14⟩ := Kd.V_slice HO389.out; subst eo14) | ((with_reducible refine gate_callee (f := 17) rfl ?_); refine goesL_ (some 23) rfl rfl Try.func17 (by kernel_rfl) rfl #[.slice Ao13 t383.length co13, .slice Ao14 t387.length co14] rfl (by (try simp only [List.map_toArray, List.map_cons, List.map_nil]); first | done | rfl | (simp only [List.length_drop, List.length_take]; rfl)) ?_; (with_reducible refine (lapidaryref03_Same.calls k _ _ t383 _ _ t387 true _ ?side1 ?side2 ?side3 ?side4 A7.out).mono ?_); (case side1 => repeat (first | exact (Kd.S_reads' HO386.out).2.2 | (with_reducible refine Kd.C_alloc ?_ _) | (with_reducible refine Kd.C_drewN ?_ _) | (with_reducible refine Kd.C_drew ?_))); (case side2 => exact (Kd.S_reads' HO386.out).2.1); (case side3 => repeat (first | exact (Kd.V_reads' HO389.out).2.2 | (with_reducible refine Kd.C_alloc ?_ _) | (with_reducible refine Kd.C_drewN ?_ _) | (with_reducible refine Kd.C_drew ?_))); (case side4 => exact (Kd.V_reads' HO389.out).2.1); rintro e w' ⟨rfl, ⟨nd, rfl⟩⟩; refine ⟨_, rfl, ?_⟩) | (go_at_call 9; (with_reducible refine (lapidarylaw03_known.calls k  t392 _ A10.out).mono ?_); rintro e w15 ⟨rfl, hb⟩; have n0_ := Aside0.mk (Kd.S_below (by (with_reducible repeat (first | apply Kd.S_alloc | apply Kd.S_drewN | apply Kd.S_drew)); exact HO386.out) hb); have n1_ := Aside0.mk (Kd.V_below (by (with_reducible repeat (first | apply Kd.V_alloc | apply Kd.V_drewN | apply Kd.V_drew)); exact HO389.out) hb); have n2_ := Aside0.mk (below_step (bH HB) hb); clear HO386; clear HO389; clear HB; have HO386 := n0_; have HO389 := n1_; have HB := n2_; clear n0_ n1_ n2_; (try clear hb); (try clear hb2); (try clear hk); (try clear hi)))
    go_ret
    exact ⟨by first | rfl | (simp [errW_none, errW_some] <;> rfl) | (simp [*, errW_none, errW_some] <;> rfl), bH HB⟩
   ·rw [if_neg c9] at H
    exact absurd H (by simp)
  ·replace c8 := Bool.eq_false_iff.mpr c8
   subst c8
   have H1 : (none) = some r := by rw [if_neg (show ¬ (false = true) by decide)] at H; exact H
   clear H
   have H := H1
   clear H1
   exact absurd H (by simp)

/-- THE ONE PURE STATEMENT of lapidarylaw03_FrameReads: yours. -/
def lapidarylaw03_FrameReads.Pure : Prop := ∀ (l0 : List Int), l0.length ≤ maxLen → l0.length * 1 ≤ 140737488351232 → (∀ x ∈ l0, (Lit.int .u8 x).wf = true) → ∃ k, lapidarylaw03_FrameReads.f k l0 = some true
theorem lapidarylaw03_FrameReads.walk (P : lapidarylaw03_FrameReads.Pure) (a0 : Option Addr) (len0 cap0 : Nat) (z0 : List Int) (w : World) (w0 : (a0 = none ∧ len0 = 0 ∧ cap0 = 0 ∧ z0 = []) ∨ ∃ x, a0 = some x ∧ len0 ≤ cap0 ∧ cap0 ≤ maxLen ∧ z0.length = cap0 ∧ (∀ i, i < z0.length → w.cell? (x.add i) = some (.int .u8 (z0.getD i 0))) ∧ ∀ n ∈ z0, (Lit.int .u8 n).wf = true) (y0 : len0 * 1 ≤ 140737488351232) :
  Calls Try.prog 4 #[.slice a0 len0 cap0] w fun e w' => e = .returned (.bool true) ∧ Below w.heap.size w w' := by
 obtain ⟨l0, rfl, hr0, hm0, hw0, hc0⟩ := ReadsInt.ofRowC w0
 obtain ⟨k, h⟩ := P l0 hm0 y0 hw0
 refine (lapidarylaw03_FrameReads.calls k _ _ l0 true w (Kd.C_of_reads (d := (0 : Int)) (h1 := fun _ => rfl) hr0) hc0 h).mono ?_
 rintro e w' ⟨rfl, hd⟩
 exact ⟨rfl, hd⟩

end Go.Proofs.Ytimdikfllbbdoaa.P
