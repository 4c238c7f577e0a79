/- Written for this claim by a program of this session (a turned copy of the print): Go functions as Lean functions, and that the Go code comes to just these answers; or a statement proved out of them. No condition. -/
import Derived.Test.YtaaeaihmhdlpfaaPx0
import Derived.Test.YtaaeaihmhdlpfaaPx2
import Derived.Test.YtaaeaihmhdlpfaaPx3
import Derived.Test.YtaaeaihmhdlpfaaPx4
import Derived.Test.YtaaeaihmhdlpfaaPx5
import Derived.Test.YtaaeaihmhdlpfaaPx8
import Derived.Test.YtaaeaihmhdlpfaaPx10
import Derived.Test.YtaaeaihmhdlpfaaPx12
import Derived.Test.YtaaeaihmhdlpfaaPx15
import Derived.Test.YtaaeaihmhdlpfaaPx16
namespace Go.Proofs.Ytaaeaihmhdlpfaa.P
open Go.RowKit Go.Proofs.YtaaeaihmhdlpfaaW.PrintWords Go.Proofs.YtaaeaihmhdlpfaaW.PrintLast Go.Proofs.YtaaeaihmhdlpfaaW.PrintMore Go.Proofs.Ytaaeaihmhdlpfaa.X
attribute [local go_sem] max2_int min2_int max_two min_two max_three min_three max_four min_four add64_0 add64_1 add64   -- for this text's walks alone
set_option linter.unusedVariables false
set_option linter.unusedSimpArgs false

/-! ### lapidarylaw08_WideAdds: function 6 -/
def lapidarylaw08_WideAdds.f (k : Nat) (a0 : Int) (a1 : Int) (a2 : Int) (a3 : Int) : Option (Bool) := (lapidaryref08_From.f k a0 a1).bind fun t289 => ((lapidaryref08_From.f k a2 a3).bind fun t293 => ((wide_Add.f k a0 a1 (([(⟨a2, a3⟩ : S25)] : List (S25)))).bind fun bt300 => ((lapidaryref08_Add.f k t289 t293).bind fun t302 => ((lapidarylaw08_is.f k bt300.1 bt300.2 t302).bind fun t305 => (if t305 = true then ((wide_Neg.f k a0 a1).bind fun bt306 => ((lapidaryref08_Neg.f k t289).bind fun t308 => ((lapidarylaw08_is.f k bt306.1 bt306.2 t308).bind fun t311 => (if t311 = true then ((wide_Cmp.f a0 a1 a2 a3).bind fun t312 => ((lapidaryref08_Cmp.f k t289 t293).bind fun t313 => (if t312 = t313 then ((wide_Sign.f a0 a1).bind fun t314 => ((lapidaryref08_Of.f k 0).bind fun t315 => ((lapidaryref08_Cmp.f k t289 t315).bind fun t318 => (if t314 = t318 then ((lapidarylaw08_known.f k).bind fun t319 => (some t319)) else (none))))) else (none)))) else (none))))) else (none))))))
theorem lapidarylaw08_WideAdds.mono : ∀ a0 a1 a2 a3 k, LeO (lapidarylaw08_WideAdds.f k a0 a1 a2 a3) (lapidarylaw08_WideAdds.f (k + 1) a0 a1 a2 a3) := by
  intro a0 a1 a2 a3 k
  unfold lapidarylaw08_WideAdds.f
  repeat' first
      | (with_reducible exact lapidarylaw08_is.mono _ _ _ _)
      | (with_reducible exact lapidarylaw08_known.mono _)
      | (with_reducible exact lapidaryref08_Add.mono _ _ _)
      | (with_reducible exact lapidaryref08_Cmp.mono _ _ _)
      | (with_reducible exact lapidaryref08_From.mono _ _ _)
      | (with_reducible exact lapidaryref08_Neg.mono _ _)
      | (with_reducible exact lapidaryref08_Of.mono _ _)
      | (with_reducible exact wide_Add.mono _ _ _ _)
      | (with_reducible exact wide_Neg.mono _ _ _)
      | (with_reducible exact LeO.refl _)
      | (with_reducible exact LeO.none _)
      | (with_reducible refine LeO.ite ?_ ?_)
      | (with_reducible refine LeO.bind ?_ (fun _ => ?_))
      | exact lapidarylaw08_is.mono _ _ _ _
      | exact lapidarylaw08_known.mono _
      | exact lapidaryref08_Add.mono _ _ _
      | exact lapidaryref08_Cmp.mono _ _ _
      | exact lapidaryref08_From.mono _ _ _
      | exact lapidaryref08_Neg.mono _ _
      | exact lapidaryref08_Of.mono _ _
      | exact wide_Add.mono _ _ _ _
      | exact wide_Neg.mono _ _ _
      | exact LeO.none _
      | refine LeO.ite ?_ ?_
      | refine LeO.bind ?_ (fun _ => ?_)
def lapidarylaw08_WideAdds.T5 : Bool × List (List Nat × List Nat) := (true, [([], []), ([], []), ([1], [1]), ([0, 2], [0, 2]), ([], []), ([], []), ([4, 5, 3], [4, 5]), ([3, 6, 6], [3, 6]), ([7, 7], [7]), ([8], [8]), ([9, 8, 8], [8, 9]), ([8], [8]), ([11, 10, 8], [8, 11]), ([10, 12, 12, 8], [8, 10, 12]), ([8, 13], [8, 13]), ([14, 13], [14]), ([15], [15]), ([15], [15]), ([16, 17, 15, 15], [15, 16, 17]), ([15], [15]), ([15], [15]), ([19, 20, 18, 15], [15, 19, 20]), ([18, 21, 15], [15, 18, 21]), ([15, 22], [15, 22]), ([23, 21], [23]), ([24], [24]), ([25, 24, 24], [24, 25]), ([24], [24]), ([26, 24], [24]), ([27, 28, 28, 24], [24, 27, 28]), ([26, 29, 24], [24, 26, 29]), ([24, 30], [24, 30]), ([31, 29], [31]), ([32, 32], [32]), ([32, 33], [32, 33]), ([34, 33, 0, 1, 2, 3, 4, 5, 6, 7, 8, 9, 10, 11, 12, 13, 14, 15, 16, 17, 18, 19, 20, 21, 22, 23, 24, 25, 26, 27, 28, 29, 30, 31, 32, 33, 34], [34])])
def lapidarylaw08_WideAdds.B5 : List Nat := [0, 0, 2, 7, 0, 0, 63, 127, 255, 511, 1023, 511, 4095, 8191, 16383, 32767, 65535, 65535, 262143, 65535, 65535, 2097151, 4194303, 8388607, 16777215, 33554431, 67108863, 33554431, 134217727, 536870911, 1073741823, 2147483647, 4294967295, 8589934591, 17179869183, 34359738367]
theorem lapidarylaw08_WideAdds.tab5 : rtab .any (opsOf Try.f6 5) = lapidarylaw08_WideAdds.T5 := by kernel_rfl
theorem lapidarylaw08_WideAdds.bits5 : waitsOk lapidarylaw08_WideAdds.T5.2 lapidarylaw08_WideAdds.B5 = true := by kernel_rfl
set_option maxHeartbeats 8000000 in
set_option maxRecDepth 100000 in
theorem lapidarylaw08_WideAdds.calls (k : Nat) (a0 : Int) (a1 : Int) (a2 : Int) (a3 : Int) (r : Bool) (w : World) (h : lapidarylaw08_WideAdds.f k a0 a1 a2 a3 = some r) :
    Calls Try.prog 6 #[.int .i64 a0, .int .u64 a1, .int .i64 a2, .int .u64 a3] w fun e w' => e = .returned (.bool r) ∧ Below w.heap.size w w' := by
  have hu25 := Try.underlying25
  have hu29 := Try.underlying29
  have HB := Aside0.mk (Below.refl w.heap.size w)
  have H : ((lapidaryref08_From.f k a0 a1).bind fun t289 => ((lapidaryref08_From.f k a2 a3).bind fun t293 => ((wide_Add.f k a0 a1 (([(⟨a2, a3⟩ : S25)] : List (S25)))).bind fun bt300 => ((lapidaryref08_Add.f k t289 t293).bind fun t302 => ((lapidarylaw08_is.f k bt300.1 bt300.2 t302).bind fun t305 => (if t305 = true then ((wide_Neg.f k a0 a1).bind fun bt306 => ((lapidaryref08_Neg.f k t289).bind fun t308 => ((lapidarylaw08_is.f k bt306.1 bt306.2 t308).bind fun t311 => (if t311 = true then ((wide_Cmp.f a0 a1 a2 a3).bind fun t312 => ((lapidaryref08_Cmp.f k t289 t293).bind fun t313 => (if t312 = t313 then ((wide_Sign.f a0 a1).bind fun t314 => ((lapidaryref08_Of.f k 0).bind fun t315 => ((lapidaryref08_Cmp.f k t289 t315).bind fun t318 => (if t314 = t318 then ((lapidarylaw08_known.f k).bind fun t319 => (some t319)) else (none))))) else (none)))) else (none))))) else (none))))))) = some r := h
  clear h
  replace H := Option.bind_eq_some_iff.mp H
  obtain ⟨t289, A50, H⟩ := H
  replace H : ((lapidaryref08_From.f k a2 a3).bind fun t293 => ((wide_Add.f k a0 a1 (([(⟨a2, a3⟩ : S25)] : List (S25)))).bind fun bt300 => ((lapidaryref08_Add.f k t289 t293).bind fun t302 => ((lapidarylaw08_is.f k bt300.1 bt300.2 t302).bind fun t305 => (if t305 = true then ((wide_Neg.f k a0 a1).bind fun bt306 => ((lapidaryref08_Neg.f k t289).bind fun t308 => ((lapidarylaw08_is.f k bt306.1 bt306.2 t308).bind fun t311 => (if t311 = true then ((wide_Cmp.f a0 a1 a2 a3).bind fun t312 => ((lapidaryref08_Cmp.f k t289 t293).bind fun t313 => (if t312 = t313 then ((wide_Sign.f a0 a1).bind fun t314 => ((lapidaryref08_Of.f k 0).bind fun t315 => ((lapidaryref08_Cmp.f k t289 t315).bind fun t318 => (if t314 = t318 then ((lapidarylaw08_known.f k).bind fun t319 => (some t319)) else (none))))) else (none)))) else (none))))) else (none)))))) = some r := H
  have A5 := Aside0.mk A50
  clear A50
  replace H := Option.bind_eq_some_iff.mp H
  obtain ⟨t293, A60, H⟩ := H
  replace H : ((wide_Add.f k a0 a1 (([(⟨a2, a3⟩ : S25)] : List (S25)))).bind fun bt300 => ((lapidaryref08_Add.f k t289 t293).bind fun t302 => ((lapidarylaw08_is.f k bt300.1 bt300.2 t302).bind fun t305 => (if t305 = true then ((wide_Neg.f k a0 a1).bind fun bt306 => ((lapidaryref08_Neg.f k t289).bind fun t308 => ((lapidarylaw08_is.f k bt306.1 bt306.2 t308).bind fun t311 => (if t311 = true then ((wide_Cmp.f a0 a1 a2 a3).bind fun t312 => ((lapidaryref08_Cmp.f k t289 t293).bind fun t313 => (if t312 = t313 then ((wide_Sign.f a0 a1).bind fun t314 => ((lapidaryref08_Of.f k 0).bind fun t315 => ((lapidaryref08_Cmp.f k t289 t315).bind fun t318 => (if t314 = t318 then ((lapidarylaw08_known.f k).bind fun t319 => (some t319)) else (none))))) else (none)))) else (none))))) else (none))))) = some r := H
  have A6 := Aside0.mk A60
  clear A60
  obtain ⟨y297, hy297⟩ : ∃ y_ : List (S25), y_ = (([(⟨a2, a3⟩ : S25)] : List (S25))) := ⟨_, rfl⟩
  replace H : ((wide_Add.f k a0 a1 y297).bind fun bt300 => ((lapidaryref08_Add.f k t289 t293).bind fun t302 => ((lapidarylaw08_is.f k bt300.1 bt300.2 t302).bind fun t305 => (if t305 = true then ((wide_Neg.f k a0 a1).bind fun bt306 => ((lapidaryref08_Neg.f k t289).bind fun t308 => ((lapidarylaw08_is.f k bt306.1 bt306.2 t308).bind fun t311 => (if t311 = true then ((wide_Cmp.f a0 a1 a2 a3).bind fun t312 => ((lapidaryref08_Cmp.f k t289 t293).bind fun t313 => (if t312 = t313 then ((wide_Sign.f a0 a1).bind fun t314 => ((lapidaryref08_Of.f k 0).bind fun t315 => ((lapidaryref08_Cmp.f k t289 t315).bind fun t318 => (if t314 = t318 then ((lapidarylaw08_known.f k).bind fun t319 => (some t319)) else (none))))) else (none)))) else (none))))) else (none))))) = some r := by first | (rw [hy297]; with_reducible exact H) | (have H2_ := (Option.bind_some _ _).symm.trans H; rw [hy297]; with_reducible exact H2_) | (have H2_ := (Option.bind_some _ _).symm.trans H; with_reducible exact H2_) | with_reducible exact H | (rw [hy297]; exact H) | exact H
  have Ny297 := Aside0.mk hy297
  clear hy297
  replace H := Option.bind_eq_some_iff.mp H
  obtain ⟨⟨t300, t301⟩, A70, H⟩ := H
  replace H : ((lapidaryref08_Add.f k t289 t293).bind fun t302 => ((lapidarylaw08_is.f k t300 t301 t302).bind fun t305 => (if t305 = true then ((wide_Neg.f k a0 a1).bind fun bt306 => ((lapidaryref08_Neg.f k t289).bind fun t308 => ((lapidarylaw08_is.f k bt306.1 bt306.2 t308).bind fun t311 => (if t311 = true then ((wide_Cmp.f a0 a1 a2 a3).bind fun t312 => ((lapidaryref08_Cmp.f k t289 t293).bind fun t313 => (if t312 = t313 then ((wide_Sign.f a0 a1).bind fun t314 => ((lapidaryref08_Of.f k 0).bind fun t315 => ((lapidaryref08_Cmp.f k t289 t315).bind fun t318 => (if t314 = t318 then ((lapidarylaw08_known.f k).bind fun t319 => (some t319)) else (none))))) else (none)))) else (none))))) else (none)))) = some r := H
  have A7 := Aside0.mk A70
  clear A70
  replace H := Option.bind_eq_some_iff.mp H
  obtain ⟨t302, A80, H⟩ := H
  replace H : ((lapidarylaw08_is.f k t300 t301 t302).bind fun t305 => (if t305 = true then ((wide_Neg.f k a0 a1).bind fun bt306 => ((lapidaryref08_Neg.f k t289).bind fun t308 => ((lapidarylaw08_is.f k bt306.1 bt306.2 t308).bind fun t311 => (if t311 = true then ((wide_Cmp.f a0 a1 a2 a3).bind fun t312 => ((lapidaryref08_Cmp.f k t289 t293).bind fun t313 => (if t312 = t313 then ((wide_Sign.f a0 a1).bind fun t314 => ((lapidaryref08_Of.f k 0).bind fun t315 => ((lapidaryref08_Cmp.f k t289 t315).bind fun t318 => (if t314 = t318 then ((lapidarylaw08_known.f k).bind fun t319 => (some t319)) else (none))))) else (none)))) else (none))))) else (none))) = some r := H
  have A8 := Aside0.mk A80
  clear A80
  replace H := Option.bind_eq_some_iff.mp H
  obtain ⟨t305, A90, H⟩ := H
  replace H : (if t305 = true then ((wide_Neg.f k a0 a1).bind fun bt306 => ((lapidaryref08_Neg.f k t289).bind fun t308 => ((lapidarylaw08_is.f k bt306.1 bt306.2 t308).bind fun t311 => (if t311 = true then ((wide_Cmp.f a0 a1 a2 a3).bind fun t312 => ((lapidaryref08_Cmp.f k t289 t293).bind fun t313 => (if t312 = t313 then ((wide_Sign.f a0 a1).bind fun t314 => ((lapidaryref08_Of.f k 0).bind fun t315 => ((lapidaryref08_Cmp.f k t289 t315).bind fun t318 => (if t314 = t318 then ((lapidarylaw08_known.f k).bind fun t319 => (some t319)) else (none))))) else (none)))) else (none))))) else (none)) = some r := H
  have A9 := Aside0.mk A90
  clear A90
  by_cases c10 : t305 = true
  · subst c10
    have H1 : ((wide_Neg.f k a0 a1).bind fun bt306 => ((lapidaryref08_Neg.f k t289).bind fun t308 => ((lapidarylaw08_is.f k bt306.1 bt306.2 t308).bind fun t311 => (if t311 = true then ((wide_Cmp.f a0 a1 a2 a3).bind fun t312 => ((lapidaryref08_Cmp.f k t289 t293).bind fun t313 => (if t312 = t313 then ((wide_Sign.f a0 a1).bind fun t314 => ((lapidaryref08_Of.f k 0).bind fun t315 => ((lapidaryref08_Cmp.f k t289 t315).bind fun t318 => (if t314 = t318 then ((lapidarylaw08_known.f k).bind fun t319 => (some t319)) else (none))))) else (none)))) else (none))))) = some r := by rw [if_pos rfl] at H; exact H
    clear H
    have H := H1
    clear H1
    replace H := Option.bind_eq_some_iff.mp H
    obtain ⟨⟨t306, t307⟩, A110, H⟩ := H
    replace H : ((lapidaryref08_Neg.f k t289).bind fun t308 => ((lapidarylaw08_is.f k t306 t307 t308).bind fun t311 => (if t311 = true then ((wide_Cmp.f a0 a1 a2 a3).bind fun t312 => ((lapidaryref08_Cmp.f k t289 t293).bind fun t313 => (if t312 = t313 then ((wide_Sign.f a0 a1).bind fun t314 => ((lapidaryref08_Of.f k 0).bind fun t315 => ((lapidaryref08_Cmp.f k t289 t315).bind fun t318 => (if t314 = t318 then ((lapidarylaw08_known.f k).bind fun t319 => (some t319)) else (none))))) else (none)))) else (none)))) = some r := H
    have A11 := Aside0.mk A110
    clear A110
    replace H := Option.bind_eq_some_iff.mp H
    obtain ⟨t308, A120, H⟩ := H
    replace H : ((lapidarylaw08_is.f k t306 t307 t308).bind fun t311 => (if t311 = true then ((wide_Cmp.f a0 a1 a2 a3).bind fun t312 => ((lapidaryref08_Cmp.f k t289 t293).bind fun t313 => (if t312 = t313 then ((wide_Sign.f a0 a1).bind fun t314 => ((lapidaryref08_Of.f k 0).bind fun t315 => ((lapidaryref08_Cmp.f k t289 t315).bind fun t318 => (if t314 = t318 then ((lapidarylaw08_known.f k).bind fun t319 => (some t319)) else (none))))) else (none)))) else (none))) = some r := H
    have A12 := Aside0.mk A120
    clear A120
    replace H := Option.bind_eq_some_iff.mp H
    obtain ⟨t311, A130, H⟩ := H
    replace H : (if t311 = true then ((wide_Cmp.f a0 a1 a2 a3).bind fun t312 => ((lapidaryref08_Cmp.f k t289 t293).bind fun t313 => (if t312 = t313 then ((wide_Sign.f a0 a1).bind fun t314 => ((lapidaryref08_Of.f k 0).bind fun t315 => ((lapidaryref08_Cmp.f k t289 t315).bind fun t318 => (if t314 = t318 then ((lapidarylaw08_known.f k).bind fun t319 => (some t319)) else (none))))) else (none)))) else (none)) = some r := H
    have A13 := Aside0.mk A130
    clear A130
    by_cases c14 : t311 = true
    · subst c14
      have H1 : ((wide_Cmp.f a0 a1 a2 a3).bind fun t312 => ((lapidaryref08_Cmp.f k t289 t293).bind fun t313 => (if t312 = t313 then ((wide_Sign.f a0 a1).bind fun t314 => ((lapidaryref08_Of.f k 0).bind fun t315 => ((lapidaryref08_Cmp.f k t289 t315).bind fun t318 => (if t314 = t318 then ((lapidarylaw08_known.f k).bind fun t319 => (some t319)) else (none))))) else (none)))) = some r := by rw [if_pos rfl] at H; exact H
      clear H
      have H := H1
      clear H1
      replace H := Option.bind_eq_some_iff.mp H
      obtain ⟨t312, A150, H⟩ := H
      replace H : ((lapidaryref08_Cmp.f k t289 t293).bind fun t313 => (if t312 = t313 then ((wide_Sign.f a0 a1).bind fun t314 => ((lapidaryref08_Of.f k 0).bind fun t315 => ((lapidaryref08_Cmp.f k t289 t315).bind fun t318 => (if t314 = t318 then ((lapidarylaw08_known.f k).bind fun t319 => (some t319)) else (none))))) else (none))) = some r := H
      have A15 := Aside0.mk A150
      clear A150
      replace H := Option.bind_eq_some_iff.mp H
      obtain ⟨t313, A160, H⟩ := H
      replace H : (if t312 = t313 then ((wide_Sign.f a0 a1).bind fun t314 => ((lapidaryref08_Of.f k 0).bind fun t315 => ((lapidaryref08_Cmp.f k t289 t315).bind fun t318 => (if t314 = t318 then ((lapidarylaw08_known.f k).bind fun t319 => (some t319)) else (none))))) else (none)) = some r := H
      have A16 := Aside0.mk A160
      clear A160
      by_cases c17 : t312 = t313
      · rw [if_pos c17] at H
        have c17b0 : (t312 == t313) = true := beq_iff_eq.mpr c17
        have c17b1 : (t312 != t313) = false := bne_eq_false_iff_eq.mpr c17
        clear c17
        replace H := Option.bind_eq_some_iff.mp H
        obtain ⟨t314, A180, H⟩ := H
        replace H : ((lapidaryref08_Of.f k 0).bind fun t315 => ((lapidaryref08_Cmp.f k t289 t315).bind fun t318 => (if t314 = t318 then ((lapidarylaw08_known.f k).bind fun t319 => (some t319)) else (none)))) = some r := H
        have A18 := Aside0.mk A180
        clear A180
        replace H := Option.bind_eq_some_iff.mp H
        obtain ⟨t315, A190, H⟩ := H
        replace H : ((lapidaryref08_Cmp.f k t289 t315).bind fun t318 => (if t314 = t318 then ((lapidarylaw08_known.f k).bind fun t319 => (some t319)) else (none))) = some r := H
        have A19 := Aside0.mk A190
        clear A190
        replace H := Option.bind_eq_some_iff.mp H
        obtain ⟨t318, A200, H⟩ := H
        replace H : (if t314 = t318 then ((lapidarylaw08_known.f k).bind fun t319 => (some t319)) else (none)) = some r := H
        have A20 := Aside0.mk A200
        clear A200
        by_cases c21 : t314 = t318
        · rw [if_pos c21] at H
          have c21b0 : (t314 == t318) = true := beq_iff_eq.mpr c21
          have c21b1 : (t314 != t318) = false := bne_eq_false_iff_eq.mpr c21
          clear c21
          replace H := Option.bind_eq_some_iff.mp H
          obtain ⟨t319, A220, H⟩ := H
          replace H : (some t319) = some r := H
          have A22 := Aside0.mk A220
          clear A220
          obtain rfl := Option.some.inj H
          go_enter Try.func6, Try.ntmps6
          try go_wp2_with (first | ((with_reducible refine gate_dst (N := 9) rfl ?_); refine box_event ?hg (N := 9) ?hd (cs := #[.int .i64 0, .int .u64 0]) (t := 25) ?hr ?_; (case hd => rfl); (case hg => rfl); (case hr => first | (go_simp; done) | (go_simp; rfl)); intro gb287 hg w23 hbox hb; have n0_ := Aside0.mk (below_step (by repeat (first | (with_reducible first | exact HB.out | apply below_alloc | apply pw_below_drewN | apply below_drew1) | exact HB.out)) hb); have n1_ := Aside0.mk (hbox); have n2_ := Aside0.mk ((by rw [hg]; exact (below_size (by repeat (first | (with_reducible first | exact HB.out | apply below_alloc | apply pw_below_drewN | apply below_drew1) | exact HB.out))) : w.heap.size ≤ gb287)); have n3_ := Aside0.mk ((by rw [hg]; exact (below_size (by repeat (first | (with_reducible first | exact HB.out | apply below_alloc | apply pw_below_drewN | apply below_drew1) | exact HB.out))) : w.heap.size ≤ gb287)); clear HB; have HB := n0_; have BK287 := n1_; have GW287 := n2_; have GE287 := n3_; clear n0_ n1_ n2_ n3_; clear hb hbox hg; have hcz24_0 : w23.cell? ⟨gb287, 0, none⟩ = some (.int .i64 0) := (blk_cell BK287.out 0).trans rfl; have hcz24_1 : w23.cell? ⟨gb287, 1, none⟩ = some (.int .u64 0) := (blk_cell BK287.out 1).trans rfl; have hfz24_0 := blk_frozen BK287.out 0; have hfz24_1 := blk_frozen BK287.out 1) | ((with_reducible refine gate_dst (N := 10) rfl ?_); refine box_event ?hg (N := 10) ?hd (cs := #[.int .i64 0, .int .u64 0]) (t := 25) ?hr ?_; (case hd => rfl); (case hg => rfl); (case hr => first | (go_simp; done) | (go_simp; rfl)); intro gb288 hg w25 hbox hb; have n0_ := Aside0.mk (blk_below (g := gb287) (o := .cells #[.int .i64 a0, .int .u64 a1] 25 (0, 0)) (by (with_reducible repeat (first | refine blk_drewN ?_ _ | refine blk_drew ?_ | refine blk_alloc ?_ _)); refine blk_put (cs := #[.int .i64 a0, .int .u64 0]) ?_ 1 _ rfl; (with_reducible repeat (first | refine blk_drewN ?_ _ | refine blk_drew ?_ | refine blk_alloc ?_ _)); refine blk_put (cs := #[.int .i64 0, .int .u64 0]) ?_ 0 _ rfl; (with_reducible repeat (first | refine blk_drewN ?_ _ | refine blk_drew ?_ | refine blk_alloc ?_ _)); exact BK287.out) hb); have n1_ := Aside0.mk (below_step (by repeat (first | (with_reducible first | exact HB.out | apply below_alloc | apply pw_below_drewN | apply below_drew1 | refine below_set ?_ GE287.out) | exact HB.out)) hb); have n2_ := Aside0.mk (hbox); have n3_ := Aside0.mk ((by rw [hg]; exact (below_size (by repeat (first | (with_reducible first | exact HB.out | apply below_alloc | apply pw_below_drewN | apply below_drew1 | refine below_set ?_ GE287.out) | exact HB.out))) : w.heap.size ≤ gb288)); have n4_ := Aside0.mk ((by rw [hg]; exact (below_size (by repeat (first | (with_reducible first | exact HB.out | apply below_alloc | apply pw_below_drewN | apply below_drew1 | refine below_set ?_ GE287.out) | exact HB.out))) : w.heap.size ≤ gb288)); have n5_ := Aside0.mk ((by rw [hg]; exact Nat.ne_of_lt (blk_lt (g := gb287) (o := .cells #[.int .i64 a0, .int .u64 a1] 25 (0, 0)) (by (with_reducible repeat (first | refine blk_drewN ?_ _ | refine blk_drew ?_ | refine blk_alloc ?_ _)); refine blk_put (cs := #[.int .i64 a0, .int .u64 0]) ?_ 1 _ rfl; (with_reducible repeat (first | refine blk_drewN ?_ _ | refine blk_drew ?_ | refine blk_alloc ?_ _)); refine blk_put (cs := #[.int .i64 0, .int .u64 0]) ?_ 0 _ rfl; (with_reducible repeat (first | refine blk_drewN ?_ _ | refine blk_drew ?_ | refine blk_alloc ?_ _)); exact BK287.out)) : gb287 ≠ gb288)); have n6_ := Aside0.mk ((by rw [hg]; exact Nat.ne_of_gt (blk_lt (g := gb287) (o := .cells #[.int .i64 a0, .int .u64 a1] 25 (0, 0)) (by (with_reducible repeat (first | refine blk_drewN ?_ _ | refine blk_drew ?_ | refine blk_alloc ?_ _)); refine blk_put (cs := #[.int .i64 a0, .int .u64 0]) ?_ 1 _ rfl; (with_reducible repeat (first | refine blk_drewN ?_ _ | refine blk_drew ?_ | refine blk_alloc ?_ _)); refine blk_put (cs := #[.int .i64 0, .int .u64 0]) ?_ 0 _ rfl; (with_reducible repeat (first | refine blk_drewN ?_ _ | refine blk_drew ?_ | refine blk_alloc ?_ _)); exact BK287.out)) : gb288 ≠ gb287)); clear BK287; clear HB; have BK287 := n0_; have HB := n1_; have BK288 := n2_; have GW288 := n3_; have GE288 := n4_; have NB287_288 := n5_; have NB288_287 := n6_; clear n0_ n1_ n2_ n3_ n4_ n5_ n6_; clear hb hbox hg; have hnb26 := NB288_287.out; have hnc26 := NB287_288.out; have hcz27_0 : w25.cell? ⟨gb288, 0, none⟩ = some (.int .i64 0) := (blk_cell BK288.out 0).trans rfl; have hcz27_1 : w25.cell? ⟨gb288, 1, none⟩ = some (.int .u64 0) := (blk_cell BK288.out 1).trans rfl; have hfz27_0 := blk_frozen BK288.out 0; have hfz27_1 := blk_frozen BK288.out 1) | ((with_reducible refine gate_callee (f := 21) rfl ?_); refine goesL_ (some 21) rfl rfl Try.func21 (by kernel_rfl) rfl #[.int .i64 a0, .int .u64 a1] rfl (by (try simp only [List.map_toArray, List.map_cons, List.map_nil]); first | done | rfl | (simp only [List.length_drop, List.length_take]; rfl)) ?_; (with_reducible refine (lapidaryref08_From.calls k a0 a1 t289 _ A5.out).mono ?_); rintro e w28 ⟨v290, rfl, ho0, hb⟩; refine ⟨_, rfl, ?_⟩; have n0_ := Aside0.mk (Kd.R_lower ho0 (below_size (by repeat (first | (with_reducible first | exact HB.out | apply below_alloc | apply pw_below_drewN | apply below_drew1 | refine below_set ?_ GE287.out | refine below_set ?_ GE288.out) | exact HB.out)))); have n1_ := Aside0.mk (blk_below (g := gb287) (o := .cells #[.int .i64 a0, .int .u64 a1] 25 (0, 0)) (by (with_reducible repeat (first | refine blk_drewN ?_ _ | refine blk_drew ?_ | refine blk_alloc ?_ _)); refine blk_far ?_ NB287_288.out _; (with_reducible repeat (first | refine blk_drewN ?_ _ | refine blk_drew ?_ | refine blk_alloc ?_ _)); refine blk_far ?_ NB287_288.out _; (with_reducible repeat (first | refine blk_drewN ?_ _ | refine blk_drew ?_ | refine blk_alloc ?_ _)); exact BK287.out) hb); have n2_ := Aside0.mk (blk_below (g := gb288) (o := .cells #[.int .i64 a2, .int .u64 a3] 25 (0, 0)) (by (with_reducible repeat (first | refine blk_drewN ?_ _ | refine blk_drew ?_ | refine blk_alloc ?_ _)); refine blk_put (cs := #[.int .i64 a2, .int .u64 0]) ?_ 1 _ rfl; (with_reducible repeat (first | refine blk_drewN ?_ _ | refine blk_drew ?_ | refine blk_alloc ?_ _)); refine blk_put (cs := #[.int .i64 0, .int .u64 0]) ?_ 0 _ rfl; (with_reducible repeat (first | refine blk_drewN ?_ _ | refine blk_drew ?_ | refine blk_alloc ?_ _)); exact BK288.out) hb); have n3_ := Aside0.mk (below_step (by repeat (first | (with_reducible first | exact HB.out | apply below_alloc | apply pw_below_drewN | apply below_drew1 | refine below_set ?_ GE287.out | refine below_set ?_ GE288.out) | exact HB.out)) hb); clear BK287; clear BK288; clear HB; have HO291 := n0_; have BK287 := n1_; have BK288 := n2_; have HB := n3_; clear n0_ n1_ n2_ n3_; (try clear hb); (try clear hb2); (try clear hk); (try clear hi); (try clear ho0)) | ((with_reducible refine gate_dst (N := 11) rfl ?_); refine box_event ?hg (N := 11) ?hd (cs := #[.slice none 0 0]) (t := 29) ?hr ?_; (case hd => rfl); (case hg => rfl); (case hr => first | (go_simp; done) | (go_simp; rfl)); intro gb292 hg w29 hbox hb; have n0_ := Aside0.mk (Kd.R_below (by (with_reducible repeat (first | apply Kd.R_alloc | apply Kd.R_drewN | apply Kd.R_drew)); exact HO291.out) hb); have n1_ := Aside0.mk (blk_below (g := gb287) (o := .cells #[.int .i64 a0, .int .u64 a1] 25 (0, 0)) (by (with_reducible repeat (first | refine blk_drewN ?_ _ | refine blk_drew ?_ | refine blk_alloc ?_ _)); exact BK287.out) hb); have n2_ := Aside0.mk (blk_below (g := gb288) (o := .cells #[.int .i64 a2, .int .u64 a3] 25 (0, 0)) (by (with_reducible repeat (first | refine blk_drewN ?_ _ | refine blk_drew ?_ | refine blk_alloc ?_ _)); exact BK288.out) hb); have n3_ := Aside0.mk (below_step (by repeat (first | (with_reducible first | exact HB.out | apply below_alloc | apply pw_below_drewN | apply below_drew1 | refine below_set ?_ GE287.out | refine below_set ?_ GE288.out) | exact HB.out)) hb); have n4_ := Aside0.mk (hbox); have n5_ := Aside0.mk ((by rw [hg]; exact (below_size (by repeat (first | (with_reducible first | exact HB.out | apply below_alloc | apply pw_below_drewN | apply below_drew1 | refine below_set ?_ GE287.out | refine below_set ?_ GE288.out) | exact HB.out))) : w.heap.size ≤ gb292)); have n6_ := Aside0.mk ((by rw [hg]; exact (below_size (by repeat (first | (with_reducible first | exact HB.out | apply below_alloc | apply pw_below_drewN | apply below_drew1 | refine below_set ?_ GE287.out | refine below_set ?_ GE288.out) | exact HB.out))) : w.heap.size ≤ gb292)); have n7_ := Aside0.mk ((by rw [hg]; exact Nat.ne_of_lt (blk_lt (g := gb287) (o := .cells #[.int .i64 a0, .int .u64 a1] 25 (0, 0)) (by (with_reducible repeat (first | refine blk_drewN ?_ _ | refine blk_drew ?_ | refine blk_alloc ?_ _)); exact BK287.out)) : gb287 ≠ gb292)); have n8_ := Aside0.mk ((by rw [hg]; exact Nat.ne_of_gt (blk_lt (g := gb287) (o := .cells #[.int .i64 a0, .int .u64 a1] 25 (0, 0)) (by (with_reducible repeat (first | refine blk_drewN ?_ _ | refine blk_drew ?_ | refine blk_alloc ?_ _)); exact BK287.out)) : gb292 ≠ gb287)); have n9_ := Aside0.mk ((by rw [hg]; exact Nat.ne_of_lt (blk_lt (g := gb288) (o := .cells #[.int .i64 a2, .int .u64 a3] 25 (0, 0)) (by (with_reducible repeat (first | refine blk_drewN ?_ _ | refine blk_drew ?_ | refine blk_alloc ?_ _)); exact BK288.out)) : gb288 ≠ gb292)); have n10_ := Aside0.mk ((by rw [hg]; exact Nat.ne_of_gt (blk_lt (g := gb288) (o := .cells #[.int .i64 a2, .int .u64 a3] 25 (0, 0)) (by (with_reducible repeat (first | refine blk_drewN ?_ _ | refine blk_drew ?_ | refine blk_alloc ?_ _)); exact BK288.out)) : gb292 ≠ gb288)); clear HO291; clear BK287; clear BK288; clear HB; have HO291 := n0_; have BK287 := n1_; have BK288 := n2_; have HB := n3_; have BK292 := n4_; have GW292 := n5_; have GE292 := n6_; have NB287_292 := n7_; have NB292_287 := n8_; have NB288_292 := n9_; have NB292_288 := n10_; clear n0_ n1_ n2_ n3_ n4_ n5_ n6_ n7_ n8_ n9_ n10_; clear hb hbox hg; obtain ⟨Ao30, co30, eo30⟩ := Kd.R_slice HO291.out; subst eo30; have hnb31 := NB292_287.out; have hnc31 := NB287_292.out; have hnb32 := NB292_288.out; have hnc32 := NB288_292.out; have hcz33_0 : w29.cell? ⟨gb292, 0, none⟩ = some (.slice none 0 0) := (blk_cell BK292.out 0).trans rfl; have hfz33_0 := blk_frozen BK292.out 0) | ((with_reducible refine gate_callee (f := 21) rfl ?_); refine goesL_ (some 24) rfl rfl Try.func21 (by kernel_rfl) rfl #[.int .i64 a2, .int .u64 a3] rfl (by (try simp only [List.map_toArray, List.map_cons, List.map_nil]); first | done | rfl | (simp only [List.length_drop, List.length_take]; rfl)) ?_; (with_reducible refine (lapidaryref08_From.calls k a2 a3 t293 _ A6.out).mono ?_); rintro e w34 ⟨v294, rfl, ho0, hb⟩; refine ⟨_, rfl, ?_⟩; have n0_ := Aside0.mk (Kd.R_elder' (by (with_reducible repeat (first | apply Kd.R_alloc | apply Kd.R_drewN | apply Kd.R_drew)); exact (Kd.R_mono (Kd.R_far (p := ⟨gb292, 0, none⟩) (Kd.R_types HO291.out BK292.out (by decide)) (fun _ hk => hk.2) (.slice Ao30 t289.length co30)) (fun _ h_ => h_.1))) (Kd.R_base ho0) hb); have n1_ := Aside0.mk (Kd.R_lower (Kd.R_new' ho0 (Kd.R_lt (by (with_reducible repeat (first | apply Kd.R_alloc | apply Kd.R_drewN | apply Kd.R_drew)); exact (Kd.R_mono (Kd.R_far (p := ⟨gb292, 0, none⟩) (Kd.R_types HO291.out BK292.out (by decide)) (fun _ hk => hk.2) (.slice Ao30 t289.length co30)) (fun _ h_ => h_.1))))) (below_size (by repeat (first | (with_reducible first | exact HB.out | apply below_alloc | apply pw_below_drewN | apply below_drew1 | refine below_set ?_ GE287.out | refine below_set ?_ GE288.out | refine below_set ?_ GE292.out) | exact HB.out)))); have n2_ := Aside0.mk (blk_below (g := gb287) (o := .cells #[.int .i64 a0, .int .u64 a1] 25 (0, 0)) (by (with_reducible repeat (first | refine blk_drewN ?_ _ | refine blk_drew ?_ | refine blk_alloc ?_ _)); refine blk_far ?_ NB287_292.out _; (with_reducible repeat (first | refine blk_drewN ?_ _ | refine blk_drew ?_ | refine blk_alloc ?_ _)); exact BK287.out) hb); have n3_ := Aside0.mk (blk_below (g := gb288) (o := .cells #[.int .i64 a2, .int .u64 a3] 25 (0, 0)) (by (with_reducible repeat (first | refine blk_drewN ?_ _ | refine blk_drew ?_ | refine blk_alloc ?_ _)); refine blk_far ?_ NB288_292.out _; (with_reducible repeat (first | refine blk_drewN ?_ _ | refine blk_drew ?_ | refine blk_alloc ?_ _)); exact BK288.out) hb); have n4_ := Aside0.mk (blk_below (g := gb292) (o := .cells #[.slice Ao30 t289.length co30] 29 (0, 0)) (by (with_reducible repeat (first | refine blk_drewN ?_ _ | refine blk_drew ?_ | refine blk_alloc ?_ _)); refine blk_put (cs := #[.slice none 0 0]) ?_ 0 _ rfl; (with_reducible repeat (first | refine blk_drewN ?_ _ | refine blk_drew ?_ | refine blk_alloc ?_ _)); exact BK292.out) hb); have n5_ := Aside0.mk (below_step (by repeat (first | (with_reducible first | exact HB.out | apply below_alloc | apply pw_below_drewN | apply below_drew1 | refine below_set ?_ GE287.out | refine below_set ?_ GE288.out | refine below_set ?_ GE292.out) | exact HB.out)) hb); clear HO291; clear BK287; clear BK288; clear BK292; clear HB; have HO291 := n0_; have HO295 := n1_; have BK287 := n2_; have BK288 := n3_; have BK292 := n4_; have HB := n5_; clear n0_ n1_ n2_ n3_ n4_ n5_; (try clear hb); (try clear hb2); (try clear hk); (try clear hi); (try clear ho0)) | ((with_reducible refine gate_dst (N := 12) rfl ?_); refine box_event ?hg (N := 12) ?hd (cs := #[.slice none 0 0]) (t := 29) ?hr ?_; (case hd => rfl); (case hg => rfl); (case hr => first | (go_simp; done) | (go_simp; rfl)); intro gb296 hg w35 hbox hb; have n0_ := Aside0.mk (Kd.R_below (by (with_reducible repeat (first | apply Kd.R_alloc | apply Kd.R_drewN | apply Kd.R_drew)); exact HO291.out) hb); have n1_ := Aside0.mk (Kd.R_below (by (with_reducible repeat (first | apply Kd.R_alloc | apply Kd.R_drewN | apply Kd.R_drew)); exact HO295.out) hb); have n2_ := Aside0.mk (blk_below (g := gb287) (o := .cells #[.int .i64 a0, .int .u64 a1] 25 (0, 0)) (by (with_reducible repeat (first | refine blk_drewN ?_ _ | refine blk_drew ?_ | refine blk_alloc ?_ _)); exact BK287.out) hb); have n3_ := Aside0.mk (blk_below (g := gb288) (o := .cells #[.int .i64 a2, .int .u64 a3] 25 (0, 0)) (by (with_reducible repeat (first | refine blk_drewN ?_ _ | refine blk_drew ?_ | refine blk_alloc ?_ _)); exact BK288.out) hb); have n4_ := Aside0.mk (blk_below (g := gb292) (o := .cells #[.slice Ao30 t289.length co30] 29 (0, 0)) (by (with_reducible repeat (first | refine blk_drewN ?_ _ | refine blk_drew ?_ | refine blk_alloc ?_ _)); exact BK292.out) hb); have n5_ := Aside0.mk (below_step (by repeat (first | (with_reducible first | exact HB.out | apply below_alloc | apply pw_below_drewN | apply below_drew1 | refine below_set ?_ GE287.out | refine below_set ?_ GE288.out | refine below_set ?_ GE292.out) | exact HB.out)) hb); have n6_ := Aside0.mk (hbox); have n7_ := Aside0.mk ((by rw [hg]; exact (below_size (by repeat (first | (with_reducible first | exact HB.out | apply below_alloc | apply pw_below_drewN | apply below_drew1 | refine below_set ?_ GE287.out | refine below_set ?_ GE288.out | refine below_set ?_ GE292.out) | exact HB.out))) : w.heap.size ≤ gb296)); have n8_ := Aside0.mk ((by rw [hg]; exact (below_size (by repeat (first | (with_reducible first | exact HB.out | apply below_alloc | apply pw_below_drewN | apply below_drew1 | refine below_set ?_ GE287.out | refine below_set ?_ GE288.out | refine below_set ?_ GE292.out) | exact HB.out))) : w.heap.size ≤ gb296)); have n9_ := Aside0.mk ((by rw [hg]; exact Nat.ne_of_lt (blk_lt (g := gb287) (o := .cells #[.int .i64 a0, .int .u64 a1] 25 (0, 0)) (by (with_reducible repeat (first | refine blk_drewN ?_ _ | refine blk_drew ?_ | refine blk_alloc ?_ _)); exact BK287.out)) : gb287 ≠ gb296)); have n10_ := Aside0.mk ((by rw [hg]; exact Nat.ne_of_gt (blk_lt (g := gb287) (o := .cells #[.int .i64 a0, .int .u64 a1] 25 (0, 0)) (by (with_reducible repeat (first | refine blk_drewN ?_ _ | refine blk_drew ?_ | refine blk_alloc ?_ _)); exact BK287.out)) : gb296 ≠ gb287)); have n11_ := Aside0.mk ((by rw [hg]; exact Nat.ne_of_lt (blk_lt (g := gb288) (o := .cells #[.int .i64 a2, .int .u64 a3] 25 (0, 0)) (by (with_reducible repeat (first | refine blk_drewN ?_ _ | refine blk_drew ?_ | refine blk_alloc ?_ _)); exact BK288.out)) : gb288 ≠ gb296)); have n12_ := Aside0.mk ((by rw [hg]; exact Nat.ne_of_gt (blk_lt (g := gb288) (o := .cells #[.int .i64 a2, .int .u64 a3] 25 (0, 0)) (by (with_reducible repeat (first | refine blk_drewN ?_ _ | refine blk_drew ?_ | refine blk_alloc ?_ _)); exact BK288.out)) : gb296 ≠ gb288)); have n13_ := Aside0.mk ((by rw [hg]; exact Nat.ne_of_lt (blk_lt (g := gb292) (o := .cells #[.slice Ao30 t289.length co30] 29 (0, 0)) (by (with_reducible repeat (first | refine blk_drewN ?_ _ | refine blk_drew ?_ | refine blk_alloc ?_ _)); exact BK292.out)) : gb292 ≠ gb296)); have n14_ := Aside0.mk ((by rw [hg]; exact Nat.ne_of_gt (blk_lt (g := gb292) (o := .cells #[.slice Ao30 t289.length co30] 29 (0, 0)) (by (with_reducible repeat (first | refine blk_drewN ?_ _ | refine blk_drew ?_ | refine blk_alloc ?_ _)); exact BK292.out)) : gb296 ≠ gb292)); clear HO291; clear HO295; clear BK287; clear BK288; clear BK292; clear HB; have HO291 := n0_; have HO295 := n1_; have BK287 := n2_; have BK288 := n3_; have BK292 := n4_; have HB := n5_; have BK296 := n6_; have GW296 := n7_; have GE296 := n8_; have NB287_296 := n9_; have NB296_287 := n10_; have NB288_296 := n11_; have NB296_288 := n12_; have NB292_296 := n13_; have NB296_292 := n14_; clear n0_ n1_ n2_ n3_ n4_ n5_ n6_ n7_ n8_ n9_ n10_ n11_ n12_ n13_ n14_; clear hb hbox hg; obtain ⟨Ao36, co36, eo36⟩ := Kd.R_slice HO295.out; subst eo36; have hnb37 := NB296_287.out; have hnc37 := NB287_296.out; have hnb38 := NB296_288.out; have hnc38 := NB288_296.out; have hnb39 := NB296_292.out; have hnc39 := NB292_296.out; have hcz40_0 : w35.cell? ⟨gb296, 0, none⟩ = some (.slice none 0 0) := (blk_cell BK296.out 0).trans rfl; have hfz40_0 := blk_frozen BK296.out 0))
          have n0_ : Aside0 (Kd.R (Kd.int .i64) 3 (w35.setCell ⟨gb296, 0, none⟩ (.slice Ao36 t293.length co36)) w.heap.size (fun k_ => some k_ ≠ (.slice Ao36 t293.length co36 : Value).ownBlock) (.slice Ao30 t289.length co30) t289) := ⟨by (with_reducible repeat (first | apply Kd.R_alloc | apply Kd.R_drewN | apply Kd.R_drew)); exact Kd.R_mono (Kd.R_far (p := ⟨gb296, 0, none⟩) (Kd.R_types HO291.out BK296.out (by decide)) (fun _ hk => hk.2) (.slice Ao36 t293.length co36)) (fun _ hk => hk.1.2)⟩
          have n1_ : Aside0 (Kd.R (Kd.int .i64) 3 (w35.setCell ⟨gb296, 0, none⟩ (.slice Ao36 t293.length co36)) w.heap.size (fun k_ => some k_ ≠ (.slice Ao30 t289.length co30 : Value).ownBlock) (.slice Ao36 t293.length co36) t293) := ⟨by (with_reducible repeat (first | apply Kd.R_alloc | apply Kd.R_drewN | apply Kd.R_drew)); exact Kd.R_mono (Kd.R_far (p := ⟨gb296, 0, none⟩) (Kd.R_types HO295.out BK296.out (by decide)) (fun _ hk => hk.2) (.slice Ao36 t293.length co36)) (fun _ hk => hk.1.2)⟩
          have n2_ : Aside0 ((w35.setCell ⟨gb296, 0, none⟩ (.slice Ao36 t293.length co36)).heap[gb287]? = some (.cells #[.int .i64 a0, .int .u64 a1] 25 (0, 0))) := ⟨by (with_reducible repeat (first | refine blk_drewN ?_ _ | refine blk_drew ?_ | refine blk_alloc ?_ _)); refine blk_far ?_ NB287_296.out _; (with_reducible repeat (first | refine blk_drewN ?_ _ | refine blk_drew ?_ | refine blk_alloc ?_ _)); exact BK287.out⟩
          have n3_ : Aside0 ((w35.setCell ⟨gb296, 0, none⟩ (.slice Ao36 t293.length co36)).heap[gb288]? = some (.cells #[.int .i64 a2, .int .u64 a3] 25 (0, 0))) := ⟨by (with_reducible repeat (first | refine blk_drewN ?_ _ | refine blk_drew ?_ | refine blk_alloc ?_ _)); refine blk_far ?_ NB288_296.out _; (with_reducible repeat (first | refine blk_drewN ?_ _ | refine blk_drew ?_ | refine blk_alloc ?_ _)); exact BK288.out⟩
          have n4_ : Aside0 ((w35.setCell ⟨gb296, 0, none⟩ (.slice Ao36 t293.length co36)).heap[gb292]? = some (.cells #[.slice Ao30 t289.length co30] 29 (0, 0))) := ⟨by (with_reducible repeat (first | refine blk_drewN ?_ _ | refine blk_drew ?_ | refine blk_alloc ?_ _)); refine blk_far ?_ NB292_296.out _; (with_reducible repeat (first | refine blk_drewN ?_ _ | refine blk_drew ?_ | refine blk_alloc ?_ _)); exact BK292.out⟩
          have n5_ : Aside0 ((w35.setCell ⟨gb296, 0, none⟩ (.slice Ao36 t293.length co36)).heap[gb296]? = some (.cells #[.slice Ao36 t293.length co36] 29 (0, 0))) := ⟨by (with_reducible repeat (first | refine blk_drewN ?_ _ | refine blk_drew ?_ | refine blk_alloc ?_ _)); refine blk_put (cs := #[.slice none 0 0]) ?_ 0 _ rfl; (with_reducible repeat (first | refine blk_drewN ?_ _ | refine blk_drew ?_ | refine blk_alloc ?_ _)); exact BK296.out⟩
          have n6_ : Aside0 (Below w.heap.size w (w35.setCell ⟨gb296, 0, none⟩ (.slice Ao36 t293.length co36))) := ⟨by repeat (first | (with_reducible first | exact HB.out | apply below_alloc | apply pw_below_drewN | apply below_drew1 | refine below_set ?_ GE287.out | refine below_set ?_ GE288.out | refine below_set ?_ GE292.out | refine below_set ?_ GE296.out) | exact HB.out)⟩
          (try clear HO291)
          (try clear HO295)
          (try clear BK287)
          (try clear BK288)
          (try clear BK292)
          (try clear BK296)
          (try clear HB)
          generalize (w35.setCell ⟨gb296, 0, none⟩ (.slice Ao36 t293.length co36)) = w41 at n0_ n1_ n2_ n3_ n4_ n5_ n6_ ⊢
          have HO291 := n0_
          have HO295 := n1_
          have BK287 := n2_
          have BK288 := n3_
          have BK292 := n4_
          have BK296 := n5_
          have HB := n6_
          clear n0_ n1_ n2_ n3_ n4_ n5_ n6_
          have n0_ := Aside0.mk (Kd.R_drew HO291.out)
          have n1_ := Aside0.mk (Kd.R_drew HO295.out)
          have n2_ := Aside0.mk (blk_drew BK287.out)
          have n3_ := Aside0.mk (blk_drew BK288.out)
          have n4_ := Aside0.mk (blk_drew BK292.out)
          have n5_ := Aside0.mk (blk_drew BK296.out)
          have n6_ := Aside0.mk (below_drew1 HB.out)
          clear HO291
          clear HO295
          clear BK287
          clear BK288
          clear BK292
          clear BK296
          clear HB
          have HO291 := n0_
          have HO295 := n1_
          have BK287 := n2_
          have BK288 := n3_
          have BK292 := n4_
          have BK296 := n5_
          have HB := n6_
          clear n0_ n1_ n2_ n3_ n4_ n5_ n6_
          refine start_ (n := 36) (S := fun w' => w'.cell? ⟨gb287, 0, none⟩ = some (.int .i64 a0) ∧ w'.cell? ⟨gb287, 1, none⟩ = some (.int .u64 a1) ∧ w'.cell? ⟨gb288, 0, none⟩ = some (.int .i64 a2) ∧ w'.cell? ⟨gb288, 1, none⟩ = some (.int .u64 a3) ∧ w'.cell? ⟨gb292, 0, none⟩ = some (.slice Ao30 t289.length co30) ∧ w'.cell? ⟨gb296, 0, none⟩ = some (.slice Ao36 t293.length co36)) (ds := []) #[false, false, false, false, false, false, false, false, false, false, false, false, false, false, false, false, false, false, false, false, false, false, false, false, false, false, false, false, false, false, false, false, false, false, false, false] (by kernel_rfl) rfl rfl ⟨(blk_cell BK287.out 0).trans rfl, (blk_cell BK287.out 1).trans rfl, (blk_cell BK288.out 0).trans rfl, (blk_cell BK288.out 1).trans rfl, (blk_cell BK292.out 0).trans rfl, (blk_cell BK296.out 0).trans rfl⟩ (fun hHeld => ?_); refine with_tabW lapidarylaw08_WideAdds.tab5 lapidarylaw08_WideAdds.bits5 (fun HT_ HW_ => ?_)
          generalize w41.drew = w42 at HO291 HO295 BK287 BK288 BK292 BK296 HB hHeld ⊢
          refine take_ (i := 0) (N := some 25) (v := ?_) (a' := ?_) #[true, false, false, false, false, false, false, false, false, false, false, false, false, false, false, false, false, false, false, false, false, false, false, false, false, false, false, false, false, false, false, false, false, false, false, false] rfl rfl (take_ofW HT_.out HW_.out (by kernel_rfl)) (fun _ _ _ h => h) (Or.inl ⟨by rfl, ?_⟩) hHeld ?_ ?_
          rotate_left
          · rintro w' ⟨s0, s1, s2, s3, s4, s5⟩
            go_simp
            with_reducible rfl
          rotate_left
          · simp only [Act.put, List.setIfInBounds_toArray, List.set_cons_zero, List.set_cons_succ, i64_w, i32_w]
            rfl
          refine take_ (i := 1) (N := some 26) (v := ?_) (a' := ?_) #[true, true, false, false, false, false, false, false, false, false, false, false, false, false, false, false, false, false, false, false, false, false, false, false, false, false, false, false, false, false, false, false, false, false, false, false] rfl rfl (take_ofW HT_.out HW_.out (by kernel_rfl)) (fun _ _ _ h => h) (Or.inl ⟨by rfl, ?_⟩) hHeld ?_ ?_
          rotate_left
          · rintro w' ⟨s0, s1, s2, s3, s4, s5⟩
            go_simp
            with_reducible rfl
          rotate_left
          · simp only [Act.put, List.setIfInBounds_toArray, List.set_cons_zero, List.set_cons_succ, i64_w, i32_w]
            rfl
          refine take_ (i := 4) (N := some 29) (v := ?_) (a' := ?_) #[true, true, false, false, true, false, false, false, false, false, false, false, false, false, false, false, false, false, false, false, false, false, false, false, false, false, false, false, false, false, false, false, false, false, false, false] rfl rfl (take_ofW HT_.out HW_.out (by kernel_rfl)) (fun _ _ _ h => h) (Or.inl ⟨by rfl, ?_⟩) hHeld ?_ ?_
          rotate_left
          · rintro w' ⟨s0, s1, s2, s3, s4, s5⟩
            go_simp
            with_reducible rfl
          rotate_left
          · simp only [Act.put, List.setIfInBounds_toArray, List.set_cons_zero, List.set_cons_succ, i64_w, i32_w]
            rfl
          refine take_ (i := 5) (N := some 30) (v := ?_) (a' := ?_) #[true, true, false, false, true, true, false, false, false, false, false, false, false, false, false, false, false, false, false, false, false, false, false, false, false, false, false, false, false, false, false, false, false, false, false, false] rfl rfl (take_ofW HT_.out HW_.out (by kernel_rfl)) (fun _ _ _ h => h) (Or.inl ⟨by rfl, ?_⟩) hHeld ?_ ?_
          rotate_left
          · rintro w' ⟨s0, s1, s2, s3, s4, s5⟩
            go_simp
            with_reducible rfl
          rotate_left
          · simp only [Act.put, List.setIfInBounds_toArray, List.set_cons_zero, List.set_cons_succ, i64_w, i32_w]
            rfl
          refine one_ (i := 2) (N := some 27) #[true, true, true, false, true, true, false, false, false, false, false, false, false, false, false, false, false, false, false, false, false, false, false, false, false, false, false, false, false, false, false, false, false, false, false, false] rfl rfl (one_of HT_.out (by kernel_rfl)) (by decide) (fun K hK => ?_)
          refine Kd.R_lit_step k25 _ 25 ?hg (N := 27) ?hd (xs := ([(⟨a2, a3⟩ : S25)] : List (S25))) (inner := [.int .i64 a2, .int .u64 a3]) (ok := fun _ => True) (okp := fun _ => True) ?hr ?hp (fun _ hk => hk) trivial (Below.refl _ _) (Nat.le_refl _) (by simp) ?_; (case hd => rfl); (case hg => rfl); (case hr => first | (go_simp; done) | (go_simp; rfl)); (case hp => exact (Reps.c2 (show Kd.M k25 _ _ _ (⟨a2, a3⟩ : S25) [.int .i64 a2, .int .u64 a3] from (k25_mkM _ _ _ (⟨a2, a3⟩ : S25) )) (Reps.none _ _)))
          intro v298 w43 ho44 hb hg_ hnew_
          clear hg_ hnew_
          (first | rw [← Ny297.out] at ho44 | (simp only [Int.reduceToNat] at ho44; rw [← Ny297.out] at ho44))
          have n0_ := Aside0.mk (Kd.R_below (by (with_reducible repeat (first | apply Kd.R_alloc | apply Kd.R_drewN | apply Kd.R_drew)); exact HO291.out) hb)
          have n1_ := Aside0.mk (Kd.R_below (by (with_reducible repeat (first | apply Kd.R_alloc | apply Kd.R_drewN | apply Kd.R_drew)); exact HO295.out) hb)
          have n2_ := Aside0.mk (Kd.R_lower (Kd.R_newB (Kd.R_newB ho44 (g := gb287) (o := .cells #[.int .i64 a0, .int .u64 a1] 25 (0, 0)) (by (with_reducible repeat (first | refine blk_drewN ?_ _ | refine blk_drew ?_ | refine blk_alloc ?_ _)); exact BK287.out)) (g := gb288) (o := .cells #[.int .i64 a2, .int .u64 a3] 25 (0, 0)) (by (with_reducible repeat (first | refine blk_drewN ?_ _ | refine blk_drew ?_ | refine blk_alloc ?_ _)); exact BK288.out)) (below_size (by repeat (first | (with_reducible first | exact HB.out | apply below_alloc | apply pw_below_drewN | apply below_drew1 | refine below_set ?_ GE287.out | refine below_set ?_ GE288.out | refine below_set ?_ GE292.out | refine below_set ?_ GE296.out) | exact HB.out))))
          have n3_ := Aside0.mk (blk_below (g := gb287) (o := .cells #[.int .i64 a0, .int .u64 a1] 25 (0, 0)) (by (with_reducible repeat (first | refine blk_drewN ?_ _ | refine blk_drew ?_ | refine blk_alloc ?_ _)); exact BK287.out) hb)
          have n4_ := Aside0.mk (blk_below (g := gb288) (o := .cells #[.int .i64 a2, .int .u64 a3] 25 (0, 0)) (by (with_reducible repeat (first | refine blk_drewN ?_ _ | refine blk_drew ?_ | refine blk_alloc ?_ _)); exact BK288.out) hb)
          have n5_ := Aside0.mk (blk_below (g := gb292) (o := .cells #[.slice Ao30 t289.length co30] 29 (0, 0)) (by (with_reducible repeat (first | refine blk_drewN ?_ _ | refine blk_drew ?_ | refine blk_alloc ?_ _)); exact BK292.out) hb)
          have n6_ := Aside0.mk (blk_below (g := gb296) (o := .cells #[.slice Ao36 t293.length co36] 29 (0, 0)) (by (with_reducible repeat (first | refine blk_drewN ?_ _ | refine blk_drew ?_ | refine blk_alloc ?_ _)); exact BK296.out) hb)
          have n7_ := Aside0.mk (below_step (by repeat (first | (with_reducible first | exact HB.out | apply below_alloc | apply pw_below_drewN | apply below_drew1 | refine below_set ?_ GE287.out | refine below_set ?_ GE288.out | refine below_set ?_ GE292.out | refine below_set ?_ GE296.out) | exact HB.out)) hb)
          clear HO291
          clear HO295
          clear BK287
          clear BK288
          clear BK292
          clear BK296
          clear HB
          have HO291 := n0_
          have HO295 := n1_
          have HO299 := n2_
          have BK287 := n3_
          have BK288 := n4_
          have BK292 := n5_
          have BK296 := n6_
          have HB := n7_
          clear n0_ n1_ n2_ n3_ n4_ n5_ n6_ n7_
          clear hb ho44
          obtain ⟨Ao45, co45, eo45⟩ := Kd.R_slice HO299.out
          (first | subst eo45 | (injection eo45 with f1_ f2_ f3_; have f4_ := f1_.symm; have f5_ := f3_.symm; clear f1_ f2_ f3_; subst f4_; subst f5_))
          refine hK.out _ _ ⟨(blk_cell BK287.out 0).trans rfl, (blk_cell BK287.out 1).trans rfl, (blk_cell BK288.out 0).trans rfl, (blk_cell BK288.out 1).trans rfl, (blk_cell BK292.out 0).trans rfl, (blk_cell BK296.out 0).trans rfl⟩ (fun hHeld => ?_)
          clear hK K
          refine norm_ (a' := ?_) ?_ ?_
          rotate_left
          · show Act.put _ (some 27) _ = _
            simp only [Act.put, List.setIfInBounds_toArray, List.set_cons_zero, List.set_cons_succ, i64_w, i32_w]
            rfl
          refine one_ (i := 3) (N := some 28) #[true, true, true, true, true, true, false, false, false, false, false, false, false, false, false, false, false, false, false, false, false, false, false, false, false, false, false, false, false, false, false, false, false, false, false, false] rfl rfl (one_of HT_.out (by kernel_rfl)) (by decide) (fun K hK => ?_)
          refine goes_ Try.func22 (by kernel_rfl) rfl #[.agg #[.int .i64 a0, .int .u64 a1], .slice Ao45 y297.length co45] (by rfl) rfl rfl (by (try simp only [List.map_toArray, List.map_cons, List.map_nil]); first | done | rfl | (simp only [List.length_drop, List.length_take]; rfl)) ?_
          with_reducible refine (wide_Add.calls k a0 a1 _ _ y297 t300 t301 _ ?side1 ?side2 A7.out).mono ?_
          (case side1 => repeat (first | exact (Kd.R_reads' HO299.out).2.2 | (with_reducible refine Kd.C_alloc ?_ _) | (with_reducible refine Kd.C_drewN ?_ _) | (with_reducible refine Kd.C_drew ?_)))
          (case side2 => exact (Kd.R_reads' HO299.out).2.1)
          rintro e w46 ⟨rfl, hb⟩
          refine ⟨_, rfl, ?_⟩
          have n0_ := Aside0.mk (Kd.R_below (by (with_reducible repeat (first | apply Kd.R_alloc | apply Kd.R_drewN | apply Kd.R_drew)); exact HO291.out) hb)
          have n1_ := Aside0.mk (Kd.R_below (by (with_reducible repeat (first | apply Kd.R_alloc | apply Kd.R_drewN | apply Kd.R_drew)); exact HO295.out) hb)
          have n2_ := Aside0.mk (Kd.R_below (by (with_reducible repeat (first | apply Kd.R_alloc | apply Kd.R_drewN | apply Kd.R_drew)); exact HO299.out) hb)
          have n3_ := Aside0.mk (blk_below (g := gb287) (o := .cells #[.int .i64 a0, .int .u64 a1] 25 (0, 0)) (by (with_reducible repeat (first | refine blk_drewN ?_ _ | refine blk_drew ?_ | refine blk_alloc ?_ _)); exact BK287.out) hb)
          have n4_ := Aside0.mk (blk_below (g := gb288) (o := .cells #[.int .i64 a2, .int .u64 a3] 25 (0, 0)) (by (with_reducible repeat (first | refine blk_drewN ?_ _ | refine blk_drew ?_ | refine blk_alloc ?_ _)); exact BK288.out) hb)
          have n5_ := Aside0.mk (blk_below (g := gb292) (o := .cells #[.slice Ao30 t289.length co30] 29 (0, 0)) (by (with_reducible repeat (first | refine blk_drewN ?_ _ | refine blk_drew ?_ | refine blk_alloc ?_ _)); exact BK292.out) hb)
          have n6_ := Aside0.mk (blk_below (g := gb296) (o := .cells #[.slice Ao36 t293.length co36] 29 (0, 0)) (by (with_reducible repeat (first | refine blk_drewN ?_ _ | refine blk_drew ?_ | refine blk_alloc ?_ _)); exact BK296.out) hb)
          have n7_ := Aside0.mk (below_step (by repeat (first | (with_reducible first | exact HB.out | apply below_alloc | apply pw_below_drewN | apply below_drew1 | refine below_set ?_ GE287.out | refine below_set ?_ GE288.out | refine below_set ?_ GE292.out | refine below_set ?_ GE296.out) | exact HB.out)) hb)
          clear HO291
          clear HO295
          clear HO299
          clear BK287
          clear BK288
          clear BK292
          clear BK296
          clear HB
          have HO291 := n0_
          have HO295 := n1_
          have HO299 := n2_
          have BK287 := n3_
          have BK288 := n4_
          have BK292 := n5_
          have BK296 := n6_
          have HB := n7_
          clear n0_ n1_ n2_ n3_ n4_ n5_ n6_ n7_
          (try clear hb)
          (try clear hb2)
          (try clear hk)
          (try clear hi)
          refine hK.out _ _ ⟨(blk_cell BK287.out 0).trans rfl, (blk_cell BK287.out 1).trans rfl, (blk_cell BK288.out 0).trans rfl, (blk_cell BK288.out 1).trans rfl, (blk_cell BK292.out 0).trans rfl, (blk_cell BK296.out 0).trans rfl⟩ (fun hHeld => ?_)
          clear hK K
          refine norm_ (a' := ?_) ?_ ?_
          rotate_left
          · show Act.put _ (some 28) _ = _
            simp only [Act.put, List.setIfInBounds_toArray, List.set_cons_zero, List.set_cons_succ, i64_w, i32_w]
            rfl
          refine one_ (i := 6) (N := some 31) #[true, true, true, true, true, true, true, false, false, false, false, false, false, false, false, false, false, false, false, false, false, false, false, false, false, false, false, false, false, false, false, false, false, false, false, false] rfl rfl (one_of HT_.out (by kernel_rfl)) (by decide) (fun K hK => ?_)
          refine goes_ Try.func23 (by kernel_rfl) rfl #[.agg #[.slice Ao30 t289.length co30], .agg #[.slice Ao36 t293.length co36]] (by rfl) rfl rfl (by (try simp only [List.map_toArray, List.map_cons, List.map_nil]); first | done | rfl | (simp only [List.length_drop, List.length_take]; rfl)) ?_
          with_reducible refine (lapidaryref08_Add.calls k _ _ t289 _ _ t293 t302 _ ?side1 ?side2 ?side3 ?side4 A8.out).mono ?_
          (case side1 => repeat (first | exact (Kd.R_reads' HO291.out).2.2 | (with_reducible refine Kd.C_alloc ?_ _) | (with_reducible refine Kd.C_drewN ?_ _) | (with_reducible refine Kd.C_drew ?_)))
          (case side2 => exact (Kd.R_reads' HO291.out).2.1)
          (case side3 => repeat (first | exact (Kd.R_reads' HO295.out).2.2 | (with_reducible refine Kd.C_alloc ?_ _) | (with_reducible refine Kd.C_drewN ?_ _) | (with_reducible refine Kd.C_drew ?_)))
          (case side4 => exact (Kd.R_reads' HO295.out).2.1)
          rintro e w47 ⟨v303, rfl, ho0, hb⟩
          refine ⟨_, rfl, ?_⟩
          have n0_ := Aside0.mk (Kd.R_elder' (by (with_reducible repeat (first | apply Kd.R_alloc | apply Kd.R_drewN | apply Kd.R_drew)); exact HO291.out) (Kd.R_base ho0) hb)
          have n1_ := Aside0.mk (Kd.R_elder' (by (with_reducible repeat (first | apply Kd.R_alloc | apply Kd.R_drewN | apply Kd.R_drew)); exact HO295.out) (Kd.R_base ho0) hb)
          have n2_ := Aside0.mk (Kd.R_below (by (with_reducible repeat (first | apply Kd.R_alloc | apply Kd.R_drewN | apply Kd.R_drew)); exact HO299.out) hb)
          have n3_ := Aside0.mk (Kd.R_lower (Kd.R_new' (Kd.R_new' ho0 (Kd.R_lt (by (with_reducible repeat (first | apply Kd.R_alloc | apply Kd.R_drewN | apply Kd.R_drew)); exact HO291.out))) (Kd.R_lt (by (with_reducible repeat (first | apply Kd.R_alloc | apply Kd.R_drewN | apply Kd.R_drew)); exact HO295.out))) (below_size (by repeat (first | (with_reducible first | exact HB.out | apply below_alloc | apply pw_below_drewN | apply below_drew1 | refine below_set ?_ GE287.out | refine below_set ?_ GE288.out | refine below_set ?_ GE292.out | refine below_set ?_ GE296.out) | exact HB.out))))
          have n4_ := Aside0.mk (blk_below (g := gb287) (o := .cells #[.int .i64 a0, .int .u64 a1] 25 (0, 0)) (by (with_reducible repeat (first | refine blk_drewN ?_ _ | refine blk_drew ?_ | refine blk_alloc ?_ _)); exact BK287.out) hb)
          have n5_ := Aside0.mk (blk_below (g := gb288) (o := .cells #[.int .i64 a2, .int .u64 a3] 25 (0, 0)) (by (with_reducible repeat (first | refine blk_drewN ?_ _ | refine blk_drew ?_ | refine blk_alloc ?_ _)); exact BK288.out) hb)
          have n6_ := Aside0.mk (blk_below (g := gb292) (o := .cells #[.slice Ao30 t289.length co30] 29 (0, 0)) (by (with_reducible repeat (first | refine blk_drewN ?_ _ | refine blk_drew ?_ | refine blk_alloc ?_ _)); exact BK292.out) hb)
          have n7_ := Aside0.mk (blk_below (g := gb296) (o := .cells #[.slice Ao36 t293.length co36] 29 (0, 0)) (by (with_reducible repeat (first | refine blk_drewN ?_ _ | refine blk_drew ?_ | refine blk_alloc ?_ _)); exact BK296.out) hb)
          have n8_ := Aside0.mk (below_step (by repeat (first | (with_reducible first | exact HB.out | apply below_alloc | apply pw_below_drewN | apply below_drew1 | refine below_set ?_ GE287.out | refine below_set ?_ GE288.out | refine below_set ?_ GE292.out | refine below_set ?_ GE296.out) | exact HB.out)) hb)
          clear HO291
          clear HO295
          clear HO299
          clear BK287
          clear BK288
          clear BK292
          clear BK296
          clear HB
          have HO291 := n0_
          have HO295 := n1_
          have HO299 := n2_
          have HO304 := n3_
          have BK287 := n4_
          have BK288 := n5_
          have BK292 := n6_
          have BK296 := n7_
          have HB := n8_
          clear n0_ n1_ n2_ n3_ n4_ n5_ n6_ n7_ n8_
          (try clear hb)
          (try clear hb2)
          (try clear hk)
          (try clear hi)
          (try clear ho0)
          obtain ⟨Ao48, co48, eo48⟩ := Kd.R_slice HO304.out
          (first | subst eo48 | (injection eo48 with f1_ f2_ f3_; have f4_ := f1_.symm; have f5_ := f3_.symm; clear f1_ f2_ f3_; subst f4_; subst f5_))
          refine hK.out _ _ ⟨(blk_cell BK287.out 0).trans rfl, (blk_cell BK287.out 1).trans rfl, (blk_cell BK288.out 0).trans rfl, (blk_cell BK288.out 1).trans rfl, (blk_cell BK292.out 0).trans rfl, (blk_cell BK296.out 0).trans rfl⟩ (fun hHeld => ?_)
          clear hK K
          refine norm_ (a' := ?_) ?_ ?_
          rotate_left
          · show Act.put _ (some 31) _ = _
            simp only [Act.put, List.setIfInBounds_toArray, List.set_cons_zero, List.set_cons_succ, i64_w, i32_w]
            rfl
          refine one_ (i := 7) (N := some 32) #[true, true, true, true, true, true, true, true, false, false, false, false, false, false, false, false, false, false, false, false, false, false, false, false, false, false, false, false, false, false, false, false, false, false, false, false] rfl rfl (one_of HT_.out (by kernel_rfl)) (by decide) (fun K hK => ?_)
          refine goes_ Try.func11 (by kernel_rfl) rfl #[.agg #[.int .i64 t300, .int .u64 t301], .agg #[.slice Ao48 t302.length co48]] (by rfl) rfl rfl (by (try simp only [List.map_toArray, List.map_cons, List.map_nil]); first | done | rfl | (simp only [List.length_drop, List.length_take]; rfl)) ?_
          with_reducible refine (lapidarylaw08_is.calls k t300 t301 _ _ t302 true _ ?side1 ?side2 A9.out).mono ?_
          (case side1 => repeat (first | exact (Kd.R_reads' HO304.out).2.2 | (with_reducible refine Kd.C_alloc ?_ _) | (with_reducible refine Kd.C_drewN ?_ _) | (with_reducible refine Kd.C_drew ?_)))
          (case side2 => exact (Kd.R_reads' HO304.out).2.1)
          rintro e w49 ⟨rfl, hb⟩
          refine ⟨_, rfl, ?_⟩
          have n0_ := Aside0.mk (Kd.R_below (by (with_reducible repeat (first | apply Kd.R_alloc | apply Kd.R_drewN | apply Kd.R_drew)); exact HO291.out) hb)
          have n1_ := Aside0.mk (Kd.R_below (by (with_reducible repeat (first | apply Kd.R_alloc | apply Kd.R_drewN | apply Kd.R_drew)); exact HO295.out) hb)
          have n2_ := Aside0.mk (Kd.R_below (by (with_reducible repeat (first | apply Kd.R_alloc | apply Kd.R_drewN | apply Kd.R_drew)); exact HO299.out) hb)
          have n3_ := Aside0.mk (Kd.R_below (by (with_reducible repeat (first | apply Kd.R_alloc | apply Kd.R_drewN | apply Kd.R_drew)); exact HO304.out) hb)
          have n4_ := Aside0.mk (blk_below (g := gb287) (o := .cells #[.int .i64 a0, .int .u64 a1] 25 (0, 0)) (by (with_reducible repeat (first | refine blk_drewN ?_ _ | refine blk_drew ?_ | refine blk_alloc ?_ _)); exact BK287.out) hb)
          have n5_ := Aside0.mk (blk_below (g := gb288) (o := .cells #[.int .i64 a2, .int .u64 a3] 25 (0, 0)) (by (with_reducible repeat (first | refine blk_drewN ?_ _ | refine blk_drew ?_ | refine blk_alloc ?_ _)); exact BK288.out) hb)
          have n6_ := Aside0.mk (blk_below (g := gb292) (o := .cells #[.slice Ao30 t289.length co30] 29 (0, 0)) (by (with_reducible repeat (first | refine blk_drewN ?_ _ | refine blk_drew ?_ | refine blk_alloc ?_ _)); exact BK292.out) hb)
          have n7_ := Aside0.mk (blk_below (g := gb296) (o := .cells #[.slice Ao36 t293.length co36] 29 (0, 0)) (by (with_reducible repeat (first | refine blk_drewN ?_ _ | refine blk_drew ?_ | refine blk_alloc ?_ _)); exact BK296.out) hb)
          have n8_ := Aside0.mk (below_step (by repeat (first | (with_reducible first | exact HB.out | apply below_alloc | apply pw_below_drewN | apply below_drew1 | refine below_set ?_ GE287.out | refine below_set ?_ GE288.out | refine below_set ?_ GE292.out | refine below_set ?_ GE296.out) | exact HB.out)) hb)
          clear HO291
          clear HO295
          clear HO299
          clear HO304
          clear BK287
          clear BK288
          clear BK292
          clear BK296
          clear HB
          have HO291 := n0_
          have HO295 := n1_
          have HO299 := n2_
          have HO304 := n3_
          have BK287 := n4_
          have BK288 := n5_
          have BK292 := n6_
          have BK296 := n7_
          have HB := n8_
          clear n0_ n1_ n2_ n3_ n4_ n5_ n6_ n7_ n8_
          (try clear hb)
          (try clear hb2)
          (try clear hk)
          (try clear hi)
          refine hK.out _ _ ⟨(blk_cell BK287.out 0).trans rfl, (blk_cell BK287.out 1).trans rfl, (blk_cell BK288.out 0).trans rfl, (blk_cell BK288.out 1).trans rfl, (blk_cell BK292.out 0).trans rfl, (blk_cell BK296.out 0).trans rfl⟩ (fun hHeld => ?_)
          clear hK K
          refine norm_ (a' := ?_) ?_ ?_
          rotate_left
          · show Act.put _ (some 32) _ = _
            simp only [Act.put, List.setIfInBounds_toArray, List.set_cons_zero, List.set_cons_succ, i64_w, i32_w]
            rfl
          refine pure_ (i := 8) (N := some 33) (v := ?_) (a' := ?_) #[true, true, true, true, true, true, true, true, true, false, false, false, false, false, false, false, false, false, false, false, false, false, false, false, false, false, false, false, false, false, false, false, false, false, false, false] rfl rfl (any_of HT_.out (by kernel_rfl)) (fun _ _ _ h => h) (Or.inl ⟨by rfl, ?_⟩) ?_ ?_
          rotate_left
          · intro w'
            go_simp
            with_reducible rfl
          rotate_left
          · simp only [Act.put, List.setIfInBounds_toArray, List.set_cons_zero, List.set_cons_succ, i64_w, i32_w]
            rfl
          refine take_ (i := 9) (N := some 34) (v := ?_) (a' := ?_) #[true, true, true, true, true, true, true, true, true, true, false, false, false, false, false, false, false, false, false, false, false, false, false, false, false, false, false, false, false, false, false, false, false, false, false, false] rfl rfl (take_ofW HT_.out HW_.out (by kernel_rfl)) (fun _ _ _ h => h) (Or.inl ⟨by rfl, ?_⟩) hHeld ?_ ?_
          rotate_left
          · rintro w' ⟨s0, s1, s2, s3, s4, s5⟩
            go_simp
            with_reducible rfl
          rotate_left
          · simp only [Act.put, List.setIfInBounds_toArray, List.set_cons_zero, List.set_cons_succ, i64_w, i32_w]
            rfl
          refine take_ (i := 11) (N := some 36) (v := ?_) (a' := ?_) #[true, true, true, true, true, true, true, true, true, true, false, true, false, false, false, false, false, false, false, false, false, false, false, false, false, false, false, false, false, false, false, false, false, false, false, false] rfl rfl (take_ofW HT_.out HW_.out (by kernel_rfl)) (fun _ _ _ h => h) (Or.inl ⟨by rfl, ?_⟩) hHeld ?_ ?_
          rotate_left
          · rintro w' ⟨s0, s1, s2, s3, s4, s5⟩
            go_simp
            with_reducible rfl
          rotate_left
          · simp only [Act.put, List.setIfInBounds_toArray, List.set_cons_zero, List.set_cons_succ, i64_w, i32_w]
            rfl
          refine one_ (i := 10) (N := some 35) #[true, true, true, true, true, true, true, true, true, true, true, true, false, false, false, false, false, false, false, false, false, false, false, false, false, false, false, false, false, false, false, false, false, false, false, false] rfl rfl (one_of HT_.out (by kernel_rfl)) (by decide) (fun K hK => ?_)
          refine goes_ Try.func24 (by kernel_rfl) rfl #[.agg #[.int .i64 a0, .int .u64 a1]] (by rfl) rfl rfl (by (try simp only [List.map_toArray, List.map_cons, List.map_nil]); first | done | rfl | (simp only [List.length_drop, List.length_take]; rfl)) ?_
          with_reducible refine (wide_Neg.calls k a0 a1 t306 t307 _ A11.out).mono ?_
          rintro e w50 ⟨rfl, hb⟩
          refine ⟨_, rfl, ?_⟩
          have n0_ := Aside0.mk (Kd.R_below (by (with_reducible repeat (first | apply Kd.R_alloc | apply Kd.R_drewN | apply Kd.R_drew)); exact HO291.out) hb)
          have n1_ := Aside0.mk (Kd.R_below (by (with_reducible repeat (first | apply Kd.R_alloc | apply Kd.R_drewN | apply Kd.R_drew)); exact HO295.out) hb)
          have n2_ := Aside0.mk (Kd.R_below (by (with_reducible repeat (first | apply Kd.R_alloc | apply Kd.R_drewN | apply Kd.R_drew)); exact HO299.out) hb)
          have n3_ := Aside0.mk (Kd.R_below (by (with_reducible repeat (first | apply Kd.R_alloc | apply Kd.R_drewN | apply Kd.R_drew)); exact HO304.out) hb)
          have n4_ := Aside0.mk (blk_below (g := gb287) (o := .cells #[.int .i64 a0, .int .u64 a1] 25 (0, 0)) (by (with_reducible repeat (first | refine blk_drewN ?_ _ | refine blk_drew ?_ | refine blk_alloc ?_ _)); exact BK287.out) hb)
          have n5_ := Aside0.mk (blk_below (g := gb288) (o := .cells #[.int .i64 a2, .int .u64 a3] 25 (0, 0)) (by (with_reducible repeat (first | refine blk_drewN ?_ _ | refine blk_drew ?_ | refine blk_alloc ?_ _)); exact BK288.out) hb)
          have n6_ := Aside0.mk (blk_below (g := gb292) (o := .cells #[.slice Ao30 t289.length co30] 29 (0, 0)) (by (with_reducible repeat (first | refine blk_drewN ?_ _ | refine blk_drew ?_ | refine blk_alloc ?_ _)); exact BK292.out) hb)
          have n7_ := Aside0.mk (blk_below (g := gb296) (o := .cells #[.slice Ao36 t293.length co36] 29 (0, 0)) (by (with_reducible repeat (first | refine blk_drewN ?_ _ | refine blk_drew ?_ | refine blk_alloc ?_ _)); exact BK296.out) hb)
          have n8_ := Aside0.mk (below_step (by repeat (first | (with_reducible first | exact HB.out | apply below_alloc | apply pw_below_drewN | apply below_drew1 | refine below_set ?_ GE287.out | refine below_set ?_ GE288.out | refine below_set ?_ GE292.out | refine below_set ?_ GE296.out) | exact HB.out)) hb)
          clear HO291
          clear HO295
          clear HO299
          clear HO304
          clear BK287
          clear BK288
          clear BK292
          clear BK296
          clear HB
          have HO291 := n0_
          have HO295 := n1_
          have HO299 := n2_
          have HO304 := n3_
          have BK287 := n4_
          have BK288 := n5_
          have BK292 := n6_
          have BK296 := n7_
          have HB := n8_
          clear n0_ n1_ n2_ n3_ n4_ n5_ n6_ n7_ n8_
          (try clear hb)
          (try clear hb2)
          (try clear hk)
          (try clear hi)
          refine hK.out _ _ ⟨(blk_cell BK287.out 0).trans rfl, (blk_cell BK287.out 1).trans rfl, (blk_cell BK288.out 0).trans rfl, (blk_cell BK288.out 1).trans rfl, (blk_cell BK292.out 0).trans rfl, (blk_cell BK296.out 0).trans rfl⟩ (fun hHeld => ?_)
          clear hK K
          refine norm_ (a' := ?_) ?_ ?_
          rotate_left
          · show Act.put _ (some 35) _ = _
            simp only [Act.put, List.setIfInBounds_toArray, List.set_cons_zero, List.set_cons_succ, i64_w, i32_w]
            rfl
          refine one_ (i := 12) (N := some 37) #[true, true, true, true, true, true, true, true, true, true, true, true, true, false, false, false, false, false, false, false, false, false, false, false, false, false, false, false, false, false, false, false, false, false, false, false] rfl rfl (one_of HT_.out (by kernel_rfl)) (by decide) (fun K hK => ?_)
          refine goes_ Try.func25 (by kernel_rfl) rfl #[.agg #[.slice Ao30 t289.length co30]] (by rfl) rfl rfl (by (try simp only [List.map_toArray, List.map_cons, List.map_nil]); first | done | rfl | (simp only [List.length_drop, List.length_take]; rfl)) ?_
          with_reducible refine (lapidaryref08_Neg.calls k _ _ t289 t308 _ ?side1 ?side2 A12.out).mono ?_
          (case side1 => repeat (first | exact (Kd.R_reads' HO291.out).2.2 | (with_reducible refine Kd.C_alloc ?_ _) | (with_reducible refine Kd.C_drewN ?_ _) | (with_reducible refine Kd.C_drew ?_)))
          (case side2 => exact (Kd.R_reads' HO291.out).2.1)
          rintro e w51 ⟨v309, rfl, ho0, hb⟩
          refine ⟨_, rfl, ?_⟩
          have n0_ := Aside0.mk (Kd.R_elder' (by (with_reducible repeat (first | apply Kd.R_alloc | apply Kd.R_drewN | apply Kd.R_drew)); exact HO291.out) (Kd.R_base ho0) hb)
          have n1_ := Aside0.mk (Kd.R_elder' (by (with_reducible repeat (first | apply Kd.R_alloc | apply Kd.R_drewN | apply Kd.R_drew)); exact HO295.out) (Kd.R_base ho0) hb)
          have n2_ := Aside0.mk (Kd.R_below (by (with_reducible repeat (first | apply Kd.R_alloc | apply Kd.R_drewN | apply Kd.R_drew)); exact HO299.out) hb)
          have n3_ := Aside0.mk (Kd.R_elder' (by (with_reducible repeat (first | apply Kd.R_alloc | apply Kd.R_drewN | apply Kd.R_drew)); exact HO304.out) (Kd.R_base ho0) hb)
          have n4_ := Aside0.mk (Kd.R_lower (Kd.R_new' (Kd.R_new' (Kd.R_new' ho0 (Kd.R_lt (by (with_reducible repeat (first | apply Kd.R_alloc | apply Kd.R_drewN | apply Kd.R_drew)); exact HO291.out))) (Kd.R_lt (by (with_reducible repeat (first | apply Kd.R_alloc | apply Kd.R_drewN | apply Kd.R_drew)); exact HO295.out))) (Kd.R_lt (by (with_reducible repeat (first | apply Kd.R_alloc | apply Kd.R_drewN | apply Kd.R_drew)); exact HO304.out))) (below_size (by repeat (first | (with_reducible first | exact HB.out | apply below_alloc | apply pw_below_drewN | apply below_drew1 | refine below_set ?_ GE287.out | refine below_set ?_ GE288.out | refine below_set ?_ GE292.out | refine below_set ?_ GE296.out) | exact HB.out))))
          have n5_ := Aside0.mk (blk_below (g := gb287) (o := .cells #[.int .i64 a0, .int .u64 a1] 25 (0, 0)) (by (with_reducible repeat (first | refine blk_drewN ?_ _ | refine blk_drew ?_ | refine blk_alloc ?_ _)); exact BK287.out) hb)
          have n6_ := Aside0.mk (blk_below (g := gb288) (o := .cells #[.int .i64 a2, .int .u64 a3] 25 (0, 0)) (by (with_reducible repeat (first | refine blk_drewN ?_ _ | refine blk_drew ?_ | refine blk_alloc ?_ _)); exact BK288.out) hb)
          have n7_ := Aside0.mk (blk_below (g := gb292) (o := .cells #[.slice Ao30 t289.length co30] 29 (0, 0)) (by (with_reducible repeat (first | refine blk_drewN ?_ _ | refine blk_drew ?_ | refine blk_alloc ?_ _)); exact BK292.out) hb)
          have n8_ := Aside0.mk (blk_below (g := gb296) (o := .cells #[.slice Ao36 t293.length co36] 29 (0, 0)) (by (with_reducible repeat (first | refine blk_drewN ?_ _ | refine blk_drew ?_ | refine blk_alloc ?_ _)); exact BK296.out) hb)
          have n9_ := Aside0.mk (below_step (by repeat (first | (with_reducible first | exact HB.out | apply below_alloc | apply pw_below_drewN | apply below_drew1 | refine below_set ?_ GE287.out | refine below_set ?_ GE288.out | refine below_set ?_ GE292.out | refine below_set ?_ GE296.out) | exact HB.out)) hb)
          clear HO291
          clear HO295
          clear HO299
          clear HO304
          clear BK287
          clear BK288
          clear BK292
          clear BK296
          clear HB
          have HO291 := n0_
          have HO295 := n1_
          have HO299 := n2_
          have HO304 := n3_
          have HO310 := n4_
          have BK287 := n5_
          have BK288 := n6_
          have BK292 := n7_
          have BK296 := n8_
          have HB := n9_
          clear n0_ n1_ n2_ n3_ n4_ n5_ n6_ n7_ n8_ n9_
          (try clear hb)
          (try clear hb2)
          (try clear hk)
          (try clear hi)
          (try clear ho0)
          obtain ⟨Ao52, co52, eo52⟩ := Kd.R_slice HO310.out
          (first | subst eo52 | (injection eo52 with f1_ f2_ f3_; have f4_ := f1_.symm; have f5_ := f3_.symm; clear f1_ f2_ f3_; subst f4_; subst f5_))
          refine hK.out _ _ ⟨(blk_cell BK287.out 0).trans rfl, (blk_cell BK287.out 1).trans rfl, (blk_cell BK288.out 0).trans rfl, (blk_cell BK288.out 1).trans rfl, (blk_cell BK292.out 0).trans rfl, (blk_cell BK296.out 0).trans rfl⟩ (fun hHeld => ?_)
          clear hK K
          refine norm_ (a' := ?_) ?_ ?_
          rotate_left
          · show Act.put _ (some 37) _ = _
            simp only [Act.put, List.setIfInBounds_toArray, List.set_cons_zero, List.set_cons_succ, i64_w, i32_w]
            rfl
          refine one_ (i := 13) (N := some 38) #[true, true, true, true, true, true, true, true, true, true, true, true, true, true, false, false, false, false, false, false, false, false, false, false, false, false, false, false, false, false, false, false, false, false, false, false] rfl rfl (one_of HT_.out (by kernel_rfl)) (by decide) (fun K hK => ?_)
          refine goes_ Try.func11 (by kernel_rfl) rfl #[.agg #[.int .i64 t306, .int .u64 t307], .agg #[.slice Ao52 t308.length co52]] (by rfl) rfl rfl (by (try simp only [List.map_toArray, List.map_cons, List.map_nil]); first | done | rfl | (simp only [List.length_drop, List.length_take]; rfl)) ?_
          with_reducible refine (lapidarylaw08_is.calls k t306 t307 _ _ t308 true _ ?side1 ?side2 A13.out).mono ?_
          (case side1 => repeat (first | exact (Kd.R_reads' HO310.out).2.2 | (with_reducible refine Kd.C_alloc ?_ _) | (with_reducible refine Kd.C_drewN ?_ _) | (with_reducible refine Kd.C_drew ?_)))
          (case side2 => exact (Kd.R_reads' HO310.out).2.1)
          rintro e w53 ⟨rfl, hb⟩
          refine ⟨_, rfl, ?_⟩
          have n0_ := Aside0.mk (Kd.R_below (by (with_reducible repeat (first | apply Kd.R_alloc | apply Kd.R_drewN | apply Kd.R_drew)); exact HO291.out) hb)
          have n1_ := Aside0.mk (Kd.R_below (by (with_reducible repeat (first | apply Kd.R_alloc | apply Kd.R_drewN | apply Kd.R_drew)); exact HO295.out) hb)
          have n2_ := Aside0.mk (Kd.R_below (by (with_reducible repeat (first | apply Kd.R_alloc | apply Kd.R_drewN | apply Kd.R_drew)); exact HO299.out) hb)
          have n3_ := Aside0.mk (Kd.R_below (by (with_reducible repeat (first | apply Kd.R_alloc | apply Kd.R_drewN | apply Kd.R_drew)); exact HO304.out) hb)
          have n4_ := Aside0.mk (Kd.R_below (by (with_reducible repeat (first | apply Kd.R_alloc | apply Kd.R_drewN | apply Kd.R_drew)); exact HO310.out) hb)
          have n5_ := Aside0.mk (blk_below (g := gb287) (o := .cells #[.int .i64 a0, .int .u64 a1] 25 (0, 0)) (by (with_reducible repeat (first | refine blk_drewN ?_ _ | refine blk_drew ?_ | refine blk_alloc ?_ _)); exact BK287.out) hb)
          have n6_ := Aside0.mk (blk_below (g := gb288) (o := .cells #[.int .i64 a2, .int .u64 a3] 25 (0, 0)) (by (with_reducible repeat (first | refine blk_drewN ?_ _ | refine blk_drew ?_ | refine blk_alloc ?_ _)); exact BK288.out) hb)
          have n7_ := Aside0.mk (blk_below (g := gb292) (o := .cells #[.slice Ao30 t289.length co30] 29 (0, 0)) (by (with_reducible repeat (first | refine blk_drewN ?_ _ | refine blk_drew ?_ | refine blk_alloc ?_ _)); exact BK292.out) hb)
          have n8_ := Aside0.mk (blk_below (g := gb296) (o := .cells #[.slice Ao36 t293.length co36] 29 (0, 0)) (by (with_reducible repeat (first | refine blk_drewN ?_ _ | refine blk_drew ?_ | refine blk_alloc ?_ _)); exact BK296.out) hb)
          have n9_ := Aside0.mk (below_step (by repeat (first | (with_reducible first | exact HB.out | apply below_alloc | apply pw_below_drewN | apply below_drew1 | refine below_set ?_ GE287.out | refine below_set ?_ GE288.out | refine below_set ?_ GE292.out | refine below_set ?_ GE296.out) | exact HB.out)) hb)
          clear HO291
          clear HO295
          clear HO299
          clear HO304
          clear HO310
          clear BK287
          clear BK288
          clear BK292
          clear BK296
          clear HB
          have HO291 := n0_
          have HO295 := n1_
          have HO299 := n2_
          have HO304 := n3_
          have HO310 := n4_
          have BK287 := n5_
          have BK288 := n6_
          have BK292 := n7_
          have BK296 := n8_
          have HB := n9_
          clear n0_ n1_ n2_ n3_ n4_ n5_ n6_ n7_ n8_ n9_
          (try clear hb)
          (try clear hb2)
          (try clear hk)
          (try clear hi)
          refine hK.out _ _ ⟨(blk_cell BK287.out 0).trans rfl, (blk_cell BK287.out 1).trans rfl, (blk_cell BK288.out 0).trans rfl, (blk_cell BK288.out 1).trans rfl, (blk_cell BK292.out 0).trans rfl, (blk_cell BK296.out 0).trans rfl⟩ (fun hHeld => ?_)
          clear hK K
          refine norm_ (a' := ?_) ?_ ?_
          rotate_left
          · show Act.put _ (some 38) _ = _
            simp only [Act.put, List.setIfInBounds_toArray, List.set_cons_zero, List.set_cons_succ, i64_w, i32_w]
            rfl
          refine pure_ (i := 14) (N := some 39) (v := ?_) (a' := ?_) #[true, true, true, true, true, true, true, true, true, true, true, true, true, true, true, false, false, false, false, false, false, false, false, false, false, false, false, false, false, false, false, false, false, false, false, false] rfl rfl (any_of HT_.out (by kernel_rfl)) (fun _ _ _ h => h) (Or.inl ⟨by rfl, ?_⟩) ?_ ?_
          rotate_left
          · intro w'
            go_simp
            with_reducible rfl
          rotate_left
          · simp only [Act.put, List.setIfInBounds_toArray, List.set_cons_zero, List.set_cons_succ, i64_w, i32_w]
            rfl
          refine pure_ (i := 15) (N := some 40) (v := ?_) (a' := ?_) #[true, true, true, true, true, true, true, true, true, true, true, true, true, true, true, true, false, false, false, false, false, false, false, false, false, false, false, false, false, false, false, false, false, false, false, false] rfl rfl (any_of HT_.out (by kernel_rfl)) (fun _ _ _ h => h) (Or.inl ⟨by rfl, ?_⟩) ?_ ?_
          rotate_left
          · intro w'
            go_simp
            with_reducible rfl
          rotate_left
          · simp only [Act.put, List.setIfInBounds_toArray, List.set_cons_zero, List.set_cons_succ, i64_w, i32_w]
            rfl
          refine take_ (i := 16) (N := some 41) (v := ?_) (a' := ?_) #[true, true, true, true, true, true, true, true, true, true, true, true, true, true, true, true, true, false, false, false, false, false, false, false, false, false, false, false, false, false, false, false, false, false, false, false] rfl rfl (take_ofW HT_.out HW_.out (by kernel_rfl)) (fun _ _ _ h => h) (Or.inl ⟨by rfl, ?_⟩) hHeld ?_ ?_
          rotate_left
          · rintro w' ⟨s0, s1, s2, s3, s4, s5⟩
            go_simp
            with_reducible rfl
          rotate_left
          · simp only [Act.put, List.setIfInBounds_toArray, List.set_cons_zero, List.set_cons_succ, i64_w, i32_w]
            rfl
          refine take_ (i := 17) (N := some 42) (v := ?_) (a' := ?_) #[true, true, true, true, true, true, true, true, true, true, true, true, true, true, true, true, true, true, false, false, false, false, false, false, false, false, false, false, false, false, false, false, false, false, false, false] rfl rfl (take_ofW HT_.out HW_.out (by kernel_rfl)) (fun _ _ _ h => h) (Or.inl ⟨by rfl, ?_⟩) hHeld ?_ ?_
          rotate_left
          · rintro w' ⟨s0, s1, s2, s3, s4, s5⟩
            go_simp
            with_reducible rfl
          rotate_left
          · simp only [Act.put, List.setIfInBounds_toArray, List.set_cons_zero, List.set_cons_succ, i64_w, i32_w]
            rfl
          refine take_ (i := 19) (N := some 44) (v := ?_) (a' := ?_) #[true, true, true, true, true, true, true, true, true, true, true, true, true, true, true, true, true, true, false, true, false, false, false, false, false, false, false, false, false, false, false, false, false, false, false, false] rfl rfl (take_ofW HT_.out HW_.out (by kernel_rfl)) (fun _ _ _ h => h) (Or.inl ⟨by rfl, ?_⟩) hHeld ?_ ?_
          rotate_left
          · rintro w' ⟨s0, s1, s2, s3, s4, s5⟩
            go_simp
            with_reducible rfl
          rotate_left
          · simp only [Act.put, List.setIfInBounds_toArray, List.set_cons_zero, List.set_cons_succ, i64_w, i32_w]
            rfl
          refine take_ (i := 20) (N := some 45) (v := ?_) (a' := ?_) #[true, true, true, true, true, true, true, true, true, true, true, true, true, true, true, true, true, true, false, true, true, false, false, false, false, false, false, false, false, false, false, false, false, false, false, false] rfl rfl (take_ofW HT_.out HW_.out (by kernel_rfl)) (fun _ _ _ h => h) (Or.inl ⟨by rfl, ?_⟩) hHeld ?_ ?_
          rotate_left
          · rintro w' ⟨s0, s1, s2, s3, s4, s5⟩
            go_simp
            with_reducible rfl
          rotate_left
          · simp only [Act.put, List.setIfInBounds_toArray, List.set_cons_zero, List.set_cons_succ, i64_w, i32_w]
            rfl
          refine one_ (i := 18) (N := some 43) #[true, true, true, true, true, true, true, true, true, true, true, true, true, true, true, true, true, true, true, true, true, false, false, false, false, false, false, false, false, false, false, false, false, false, false, false] rfl rfl (one_of HT_.out (by kernel_rfl)) (by decide) (fun K hK => ?_)
          refine goes_ Try.func19 (by kernel_rfl) rfl #[.agg #[.int .i64 a0, .int .u64 a1], .agg #[.int .i64 a2, .int .u64 a3]] (by rfl) rfl rfl (by (try simp only [List.map_toArray, List.map_cons, List.map_nil]); first | done | rfl | (simp only [List.length_drop, List.length_take]; rfl)) ?_
          with_reducible refine (wide_Cmp.calls a0 a1 a2 a3 t312 _ A15.out).mono ?_
          rintro e w54 ⟨rfl, hb⟩
          refine ⟨_, rfl, ?_⟩
          have n0_ := Aside0.mk (Kd.R_below (by (with_reducible repeat (first | apply Kd.R_alloc | apply Kd.R_drewN | apply Kd.R_drew)); exact HO291.out) hb)
          have n1_ := Aside0.mk (Kd.R_below (by (with_reducible repeat (first | apply Kd.R_alloc | apply Kd.R_drewN | apply Kd.R_drew)); exact HO295.out) hb)
          have n2_ := Aside0.mk (Kd.R_below (by (with_reducible repeat (first | apply Kd.R_alloc | apply Kd.R_drewN | apply Kd.R_drew)); exact HO299.out) hb)
          have n3_ := Aside0.mk (Kd.R_below (by (with_reducible repeat (first | apply Kd.R_alloc | apply Kd.R_drewN | apply Kd.R_drew)); exact HO304.out) hb)
          have n4_ := Aside0.mk (Kd.R_below (by (with_reducible repeat (first | apply Kd.R_alloc | apply Kd.R_drewN | apply Kd.R_drew)); exact HO310.out) hb)
          have n5_ := Aside0.mk (blk_below (g := gb287) (o := .cells #[.int .i64 a0, .int .u64 a1] 25 (0, 0)) (by (with_reducible repeat (first | refine blk_drewN ?_ _ | refine blk_drew ?_ | refine blk_alloc ?_ _)); exact BK287.out) hb)
          have n6_ := Aside0.mk (blk_below (g := gb288) (o := .cells #[.int .i64 a2, .int .u64 a3] 25 (0, 0)) (by (with_reducible repeat (first | refine blk_drewN ?_ _ | refine blk_drew ?_ | refine blk_alloc ?_ _)); exact BK288.out) hb)
          have n7_ := Aside0.mk (blk_below (g := gb292) (o := .cells #[.slice Ao30 t289.length co30] 29 (0, 0)) (by (with_reducible repeat (first | refine blk_drewN ?_ _ | refine blk_drew ?_ | refine blk_alloc ?_ _)); exact BK292.out) hb)
          have n8_ := Aside0.mk (blk_below (g := gb296) (o := .cells #[.slice Ao36 t293.length co36] 29 (0, 0)) (by (with_reducible repeat (first | refine blk_drewN ?_ _ | refine blk_drew ?_ | refine blk_alloc ?_ _)); exact BK296.out) hb)
          have n9_ := Aside0.mk (below_step (by repeat (first | (with_reducible first | exact HB.out | apply below_alloc | apply pw_below_drewN | apply below_drew1 | refine below_set ?_ GE287.out | refine below_set ?_ GE288.out | refine below_set ?_ GE292.out | refine below_set ?_ GE296.out) | exact HB.out)) hb)
          clear HO291
          clear HO295
          clear HO299
          clear HO304
          clear HO310
          clear BK287
          clear BK288
          clear BK292
          clear BK296
          clear HB
          have HO291 := n0_
          have HO295 := n1_
          have HO299 := n2_
          have HO304 := n3_
          have HO310 := n4_
          have BK287 := n5_
          have BK288 := n6_
          have BK292 := n7_
          have BK296 := n8_
          have HB := n9_
          clear n0_ n1_ n2_ n3_ n4_ n5_ n6_ n7_ n8_ n9_
          (try clear hb)
          (try clear hb2)
          (try clear hk)
          (try clear hi)
          refine hK.out _ _ ⟨(blk_cell BK287.out 0).trans rfl, (blk_cell BK287.out 1).trans rfl, (blk_cell BK288.out 0).trans rfl, (blk_cell BK288.out 1).trans rfl, (blk_cell BK292.out 0).trans rfl, (blk_cell BK296.out 0).trans rfl⟩ (fun hHeld => ?_)
          clear hK K
          refine norm_ (a' := ?_) ?_ ?_
          rotate_left
          · show Act.put _ (some 43) _ = _
            simp only [Act.put, List.setIfInBounds_toArray, List.set_cons_zero, List.set_cons_succ, i64_w, i32_w]
            rfl
          refine one_ (i := 21) (N := some 46) #[true, true, true, true, true, true, true, true, true, true, true, true, true, true, true, true, true, true, true, true, true, true, false, false, false, false, false, false, false, false, false, false, false, false, false, false] rfl rfl (one_of HT_.out (by kernel_rfl)) (by decide) (fun K hK => ?_)
          refine goes_ Try.func20 (by kernel_rfl) rfl #[.agg #[.slice Ao30 t289.length co30], .agg #[.slice Ao36 t293.length co36]] (by rfl) rfl rfl (by (try simp only [List.map_toArray, List.map_cons, List.map_nil]); first | done | rfl | (simp only [List.length_drop, List.length_take]; rfl)) ?_
          with_reducible refine (lapidaryref08_Cmp.calls k _ _ t289 _ _ t293 t313 _ ?side1 ?side2 ?side3 ?side4 A16.out).mono ?_
          (case side1 => repeat (first | exact (Kd.R_reads' HO291.out).2.2 | (with_reducible refine Kd.C_alloc ?_ _) | (with_reducible refine Kd.C_drewN ?_ _) | (with_reducible refine Kd.C_drew ?_)))
          (case side2 => exact (Kd.R_reads' HO291.out).2.1)
          (case side3 => repeat (first | exact (Kd.R_reads' HO295.out).2.2 | (with_reducible refine Kd.C_alloc ?_ _) | (with_reducible refine Kd.C_drewN ?_ _) | (with_reducible refine Kd.C_drew ?_)))
          (case side4 => exact (Kd.R_reads' HO295.out).2.1)
          rintro e w55 ⟨rfl, hb⟩
          refine ⟨_, rfl, ?_⟩
          have n0_ := Aside0.mk (Kd.R_below (by (with_reducible repeat (first | apply Kd.R_alloc | apply Kd.R_drewN | apply Kd.R_drew)); exact HO291.out) hb)
          have n1_ := Aside0.mk (Kd.R_below (by (with_reducible repeat (first | apply Kd.R_alloc | apply Kd.R_drewN | apply Kd.R_drew)); exact HO295.out) hb)
          have n2_ := Aside0.mk (Kd.R_below (by (with_reducible repeat (first | apply Kd.R_alloc | apply Kd.R_drewN | apply Kd.R_drew)); exact HO299.out) hb)
          have n3_ := Aside0.mk (Kd.R_below (by (with_reducible repeat (first | apply Kd.R_alloc | apply Kd.R_drewN | apply Kd.R_drew)); exact HO304.out) hb)
          have n4_ := Aside0.mk (Kd.R_below (by (with_reducible repeat (first | apply Kd.R_alloc | apply Kd.R_drewN | apply Kd.R_drew)); exact HO310.out) hb)
          have n5_ := Aside0.mk (blk_below (g := gb287) (o := .cells #[.int .i64 a0, .int .u64 a1] 25 (0, 0)) (by (with_reducible repeat (first | refine blk_drewN ?_ _ | refine blk_drew ?_ | refine blk_alloc ?_ _)); exact BK287.out) hb)
          have n6_ := Aside0.mk (blk_below (g := gb288) (o := .cells #[.int .i64 a2, .int .u64 a3] 25 (0, 0)) (by (with_reducible repeat (first | refine blk_drewN ?_ _ | refine blk_drew ?_ | refine blk_alloc ?_ _)); exact BK288.out) hb)
          have n7_ := Aside0.mk (blk_below (g := gb292) (o := .cells #[.slice Ao30 t289.length co30] 29 (0, 0)) (by (with_reducible repeat (first | refine blk_drewN ?_ _ | refine blk_drew ?_ | refine blk_alloc ?_ _)); exact BK292.out) hb)
          have n8_ := Aside0.mk (blk_below (g := gb296) (o := .cells #[.slice Ao36 t293.length co36] 29 (0, 0)) (by (with_reducible repeat (first | refine blk_drewN ?_ _ | refine blk_drew ?_ | refine blk_alloc ?_ _)); exact BK296.out) hb)
          have n9_ := Aside0.mk (below_step (by repeat (first | (with_reducible first | exact HB.out | apply below_alloc | apply pw_below_drewN | apply below_drew1 | refine below_set ?_ GE287.out | refine below_set ?_ GE288.out | refine below_set ?_ GE292.out | refine below_set ?_ GE296.out) | exact HB.out)) hb)
          clear HO291
          clear HO295
          clear HO299
          clear HO304
          clear HO310
          clear BK287
          clear BK288
          clear BK292
          clear BK296
          clear HB
          have HO291 := n0_
          have HO295 := n1_
          have HO299 := n2_
          have HO304 := n3_
          have HO310 := n4_
          have BK287 := n5_
          have BK288 := n6_
          have BK292 := n7_
          have BK296 := n8_
          have HB := n9_
          clear n0_ n1_ n2_ n3_ n4_ n5_ n6_ n7_ n8_ n9_
          (try clear hb)
          (try clear hb2)
          (try clear hk)
          (try clear hi)
          refine hK.out _ _ ⟨(blk_cell BK287.out 0).trans rfl, (blk_cell BK287.out 1).trans rfl, (blk_cell BK288.out 0).trans rfl, (blk_cell BK288.out 1).trans rfl, (blk_cell BK292.out 0).trans rfl, (blk_cell BK296.out 0).trans rfl⟩ (fun hHeld => ?_)
          clear hK K
          refine norm_ (a' := ?_) ?_ ?_
          rotate_left
          · show Act.put _ (some 46) _ = _
            simp only [Act.put, List.setIfInBounds_toArray, List.set_cons_zero, List.set_cons_succ, i64_w, i32_w]
            rfl
          refine pure_ (i := 22) (N := some 47) (v := ?_) (a' := ?_) #[true, true, true, true, true, true, true, true, true, true, true, true, true, true, true, true, true, true, true, true, true, true, true, false, false, false, false, false, false, false, false, false, false, false, false, false] rfl rfl (any_of HT_.out (by kernel_rfl)) (fun _ _ _ h => h) (Or.inl ⟨by rfl, ?_⟩) ?_ ?_
          rotate_left
          · intro w'
            go_simp
            with_reducible rfl
          rotate_left
          · simp only [Act.put, List.setIfInBounds_toArray, List.set_cons_zero, List.set_cons_succ, i64_w, i32_w]
            rfl
          refine pure_ (i := 23) (N := some 48) (v := ?_) (a' := ?_) #[true, true, true, true, true, true, true, true, true, true, true, true, true, true, true, true, true, true, true, true, true, true, true, true, false, false, false, false, false, false, false, false, false, false, false, false] rfl rfl (any_of HT_.out (by kernel_rfl)) (fun _ _ _ h => h) (Or.inl ⟨by rfl, ?_⟩) ?_ ?_
          rotate_left
          · intro w'
            go_simp
            with_reducible rfl
          rotate_left
          · simp only [Act.put, List.setIfInBounds_toArray, List.set_cons_zero, List.set_cons_succ, i64_w, i32_w]
            rfl
          refine pure_ (i := 24) (N := some 49) (v := ?_) (a' := ?_) #[true, true, true, true, true, true, true, true, true, true, true, true, true, true, true, true, true, true, true, true, true, true, true, true, true, false, false, false, false, false, false, false, false, false, false, false] rfl rfl (any_of HT_.out (by kernel_rfl)) (fun _ _ _ h => h) (Or.inl ⟨by rfl, ?_⟩) ?_ ?_
          rotate_left
          · intro w'
            go_simp
            with_reducible rfl
          rotate_left
          · simp only [Act.put, List.setIfInBounds_toArray, List.set_cons_zero, List.set_cons_succ, i64_w, i32_w]
            rfl
          refine take_ (i := 25) (N := some 50) (v := ?_) (a' := ?_) #[true, true, true, true, true, true, true, true, true, true, true, true, true, true, true, true, true, true, true, true, true, true, true, true, true, true, false, false, false, false, false, false, false, false, false, false] rfl rfl (take_ofW HT_.out HW_.out (by kernel_rfl)) (fun _ _ _ h => h) (Or.inl ⟨by rfl, ?_⟩) hHeld ?_ ?_
          rotate_left
          · rintro w' ⟨s0, s1, s2, s3, s4, s5⟩
            go_simp
            with_reducible rfl
          rotate_left
          · simp only [Act.put, List.setIfInBounds_toArray, List.set_cons_zero, List.set_cons_succ, i64_w, i32_w]
            rfl
          refine take_ (i := 27) (N := some 52) (v := ?_) (a' := ?_) #[true, true, true, true, true, true, true, true, true, true, true, true, true, true, true, true, true, true, true, true, true, true, true, true, true, true, false, true, false, false, false, false, false, false, false, false] rfl rfl (take_ofW HT_.out HW_.out (by kernel_rfl)) (fun _ _ _ h => h) (Or.inl ⟨by rfl, ?_⟩) hHeld ?_ ?_
          rotate_left
          · rintro w' ⟨s0, s1, s2, s3, s4, s5⟩
            go_simp
            with_reducible rfl
          rotate_left
          · simp only [Act.put, List.setIfInBounds_toArray, List.set_cons_zero, List.set_cons_succ, i64_w, i32_w]
            rfl
          refine one_ (i := 26) (N := some 51) #[true, true, true, true, true, true, true, true, true, true, true, true, true, true, true, true, true, true, true, true, true, true, true, true, true, true, true, true, false, false, false, false, false, false, false, false] rfl rfl (one_of HT_.out (by kernel_rfl)) (by decide) (fun K hK => ?_)
          refine goes_ Try.func26 (by kernel_rfl) rfl #[.agg #[.int .i64 a0, .int .u64 a1]] (by rfl) rfl rfl (by (try simp only [List.map_toArray, List.map_cons, List.map_nil]); first | done | rfl | (simp only [List.length_drop, List.length_take]; rfl)) ?_
          with_reducible refine (wide_Sign.calls a0 a1 t314 _ A18.out).mono ?_
          rintro e w56 ⟨rfl, hb⟩
          refine ⟨_, rfl, ?_⟩
          have n0_ := Aside0.mk (Kd.R_below (by (with_reducible repeat (first | apply Kd.R_alloc | apply Kd.R_drewN | apply Kd.R_drew)); exact HO291.out) hb)
          have n1_ := Aside0.mk (Kd.R_below (by (with_reducible repeat (first | apply Kd.R_alloc | apply Kd.R_drewN | apply Kd.R_drew)); exact HO295.out) hb)
          have n2_ := Aside0.mk (Kd.R_below (by (with_reducible repeat (first | apply Kd.R_alloc | apply Kd.R_drewN | apply Kd.R_drew)); exact HO299.out) hb)
          have n3_ := Aside0.mk (Kd.R_below (by (with_reducible repeat (first | apply Kd.R_alloc | apply Kd.R_drewN | apply Kd.R_drew)); exact HO304.out) hb)
          have n4_ := Aside0.mk (Kd.R_below (by (with_reducible repeat (first | apply Kd.R_alloc | apply Kd.R_drewN | apply Kd.R_drew)); exact HO310.out) hb)
          have n5_ := Aside0.mk (blk_below (g := gb287) (o := .cells #[.int .i64 a0, .int .u64 a1] 25 (0, 0)) (by (with_reducible repeat (first | refine blk_drewN ?_ _ | refine blk_drew ?_ | refine blk_alloc ?_ _)); exact BK287.out) hb)
          have n6_ := Aside0.mk (blk_below (g := gb288) (o := .cells #[.int .i64 a2, .int .u64 a3] 25 (0, 0)) (by (with_reducible repeat (first | refine blk_drewN ?_ _ | refine blk_drew ?_ | refine blk_alloc ?_ _)); exact BK288.out) hb)
          have n7_ := Aside0.mk (blk_below (g := gb292) (o := .cells #[.slice Ao30 t289.length co30] 29 (0, 0)) (by (with_reducible repeat (first | refine blk_drewN ?_ _ | refine blk_drew ?_ | refine blk_alloc ?_ _)); exact BK292.out) hb)
          have n8_ := Aside0.mk (blk_below (g := gb296) (o := .cells #[.slice Ao36 t293.length co36] 29 (0, 0)) (by (with_reducible repeat (first | refine blk_drewN ?_ _ | refine blk_drew ?_ | refine blk_alloc ?_ _)); exact BK296.out) hb)
          have n9_ := Aside0.mk (below_step (by repeat (first | (with_reducible first | exact HB.out | apply below_alloc | apply pw_below_drewN | apply below_drew1 | refine below_set ?_ GE287.out | refine below_set ?_ GE288.out | refine below_set ?_ GE292.out | refine below_set ?_ GE296.out) | exact HB.out)) hb)
          clear HO291
          clear HO295
          clear HO299
          clear HO304
          clear HO310
          clear BK287
          clear BK288
          clear BK292
          clear BK296
          clear HB
          have HO291 := n0_
          have HO295 := n1_
          have HO299 := n2_
          have HO304 := n3_
          have HO310 := n4_
          have BK287 := n5_
          have BK288 := n6_
          have BK292 := n7_
          have BK296 := n8_
          have HB := n9_
          clear n0_ n1_ n2_ n3_ n4_ n5_ n6_ n7_ n8_ n9_
          (try clear hb)
          (try clear hb2)
          (try clear hk)
          (try clear hi)
          refine hK.out _ _ ⟨(blk_cell BK287.out 0).trans rfl, (blk_cell BK287.out 1).trans rfl, (blk_cell BK288.out 0).trans rfl, (blk_cell BK288.out 1).trans rfl, (blk_cell BK292.out 0).trans rfl, (blk_cell BK296.out 0).trans rfl⟩ (fun hHeld => ?_)
          clear hK K
          refine norm_ (a' := ?_) ?_ ?_
          rotate_left
          · show Act.put _ (some 51) _ = _
            simp only [Act.put, List.setIfInBounds_toArray, List.set_cons_zero, List.set_cons_succ, i64_w, i32_w]
            rfl
          refine one_ (i := 28) (N := some 53) #[true, true, true, true, true, true, true, true, true, true, true, true, true, true, true, true, true, true, true, true, true, true, true, true, true, true, true, true, true, false, false, false, false, false, false, false] rfl rfl (one_of HT_.out (by kernel_rfl)) (by decide) (fun K hK => ?_)
          refine goes_ Try.func14 (by kernel_rfl) rfl #[.int .i64 0] (by rfl) rfl rfl (by (try simp only [List.map_toArray, List.map_cons, List.map_nil]); first | done | rfl | (simp only [List.length_drop, List.length_take]; rfl)) ?_
          with_reducible refine (lapidaryref08_Of.calls k 0 t315 _ A19.out).mono ?_
          rintro e w57 ⟨v316, rfl, ho0, hb⟩
          refine ⟨_, rfl, ?_⟩
          have n0_ := Aside0.mk (Kd.R_elder' (by (with_reducible repeat (first | apply Kd.R_alloc | apply Kd.R_drewN | apply Kd.R_drew)); exact HO291.out) (Kd.R_base ho0) hb)
          have n1_ := Aside0.mk (Kd.R_elder' (by (with_reducible repeat (first | apply Kd.R_alloc | apply Kd.R_drewN | apply Kd.R_drew)); exact HO295.out) (Kd.R_base ho0) hb)
          have n2_ := Aside0.mk (Kd.R_below (by (with_reducible repeat (first | apply Kd.R_alloc | apply Kd.R_drewN | apply Kd.R_drew)); exact HO299.out) hb)
          have n3_ := Aside0.mk (Kd.R_elder' (by (with_reducible repeat (first | apply Kd.R_alloc | apply Kd.R_drewN | apply Kd.R_drew)); exact HO304.out) (Kd.R_base ho0) hb)
          have n4_ := Aside0.mk (Kd.R_elder' (by (with_reducible repeat (first | apply Kd.R_alloc | apply Kd.R_drewN | apply Kd.R_drew)); exact HO310.out) (Kd.R_base ho0) hb)
          have n5_ := Aside0.mk (Kd.R_lower (Kd.R_new' (Kd.R_new' (Kd.R_new' (Kd.R_new' ho0 (Kd.R_lt (by (with_reducible repeat (first | apply Kd.R_alloc | apply Kd.R_drewN | apply Kd.R_drew)); exact HO291.out))) (Kd.R_lt (by (with_reducible repeat (first | apply Kd.R_alloc | apply Kd.R_drewN | apply Kd.R_drew)); exact HO295.out))) (Kd.R_lt (by (with_reducible repeat (first | apply Kd.R_alloc | apply Kd.R_drewN | apply Kd.R_drew)); exact HO304.out))) (Kd.R_lt (by (with_reducible repeat (first | apply Kd.R_alloc | apply Kd.R_drewN | apply Kd.R_drew)); exact HO310.out))) (below_size (by repeat (first | (with_reducible first | exact HB.out | apply below_alloc | apply pw_below_drewN | apply below_drew1 | refine below_set ?_ GE287.out | refine below_set ?_ GE288.out | refine below_set ?_ GE292.out | refine below_set ?_ GE296.out) | exact HB.out))))
          have n6_ := Aside0.mk (blk_below (g := gb287) (o := .cells #[.int .i64 a0, .int .u64 a1] 25 (0, 0)) (by (with_reducible repeat (first | refine blk_drewN ?_ _ | refine blk_drew ?_ | refine blk_alloc ?_ _)); exact BK287.out) hb)
          have n7_ := Aside0.mk (blk_below (g := gb288) (o := .cells #[.int .i64 a2, .int .u64 a3] 25 (0, 0)) (by (with_reducible repeat (first | refine blk_drewN ?_ _ | refine blk_drew ?_ | refine blk_alloc ?_ _)); exact BK288.out) hb)
          have n8_ := Aside0.mk (blk_below (g := gb292) (o := .cells #[.slice Ao30 t289.length co30] 29 (0, 0)) (by (with_reducible repeat (first | refine blk_drewN ?_ _ | refine blk_drew ?_ | refine blk_alloc ?_ _)); exact BK292.out) hb)
          have n9_ := Aside0.mk (blk_below (g := gb296) (o := .cells #[.slice Ao36 t293.length co36] 29 (0, 0)) (by (with_reducible repeat (first | refine blk_drewN ?_ _ | refine blk_drew ?_ | refine blk_alloc ?_ _)); exact BK296.out) hb)
          have n10_ := Aside0.mk (below_step (by repeat (first | (with_reducible first | exact HB.out | apply below_alloc | apply pw_below_drewN | apply below_drew1 | refine below_set ?_ GE287.out | refine below_set ?_ GE288.out | refine below_set ?_ GE292.out | refine below_set ?_ GE296.out) | exact HB.out)) hb)
          clear HO291
          clear HO295
          clear HO299
          clear HO304
          clear HO310
          clear BK287
          clear BK288
          clear BK292
          clear BK296
          clear HB
          have HO291 := n0_
          have HO295 := n1_
          have HO299 := n2_
          have HO304 := n3_
          have HO310 := n4_
          have HO317 := n5_
          have BK287 := n6_
          have BK288 := n7_
          have BK292 := n8_
          have BK296 := n9_
          have HB := n10_
          clear n0_ n1_ n2_ n3_ n4_ n5_ n6_ n7_ n8_ n9_ n10_
          (try clear hb)
          (try clear hb2)
          (try clear hk)
          (try clear hi)
          (try clear ho0)
          obtain ⟨Ao58, co58, eo58⟩ := Kd.R_slice HO317.out
          (first | subst eo58 | (injection eo58 with f1_ f2_ f3_; have f4_ := f1_.symm; have f5_ := f3_.symm; clear f1_ f2_ f3_; subst f4_; subst f5_))
          refine hK.out _ _ ⟨(blk_cell BK287.out 0).trans rfl, (blk_cell BK287.out 1).trans rfl, (blk_cell BK288.out 0).trans rfl, (blk_cell BK288.out 1).trans rfl, (blk_cell BK292.out 0).trans rfl, (blk_cell BK296.out 0).trans rfl⟩ (fun hHeld => ?_)
          clear hK K
          refine norm_ (a' := ?_) ?_ ?_
          rotate_left
          · show Act.put _ (some 53) _ = _
            simp only [Act.put, List.setIfInBounds_toArray, List.set_cons_zero, List.set_cons_succ, i64_w, i32_w]
            rfl
          refine one_ (i := 29) (N := some 54) #[true, true, true, true, true, true, true, true, true, true, true, true, true, true, true, true, true, true, true, true, true, true, true, true, true, true, true, true, true, true, false, false, false, false, false, false] rfl rfl (one_of HT_.out (by kernel_rfl)) (by decide) (fun K hK => ?_)
          refine goes_ Try.func20 (by kernel_rfl) rfl #[.agg #[.slice Ao30 t289.length co30], .agg #[.slice Ao58 t315.length co58]] (by rfl) rfl rfl (by (try simp only [List.map_toArray, List.map_cons, List.map_nil]); first | done | rfl | (simp only [List.length_drop, List.length_take]; rfl)) ?_
          with_reducible refine (lapidaryref08_Cmp.calls k _ _ t289 _ _ t315 t318 _ ?side1 ?side2 ?side3 ?side4 A20.out).mono ?_
          (case side1 => repeat (first | exact (Kd.R_reads' HO291.out).2.2 | (with_reducible refine Kd.C_alloc ?_ _) | (with_reducible refine Kd.C_drewN ?_ _) | (with_reducible refine Kd.C_drew ?_)))
          (case side2 => exact (Kd.R_reads' HO291.out).2.1)
          (case side3 => repeat (first | exact (Kd.R_reads' HO317.out).2.2 | (with_reducible refine Kd.C_alloc ?_ _) | (with_reducible refine Kd.C_drewN ?_ _) | (with_reducible refine Kd.C_drew ?_)))
          (case side4 => exact (Kd.R_reads' HO317.out).2.1)
          rintro e w59 ⟨rfl, hb⟩
          refine ⟨_, rfl, ?_⟩
          have n0_ := Aside0.mk (Kd.R_below (by (with_reducible repeat (first | apply Kd.R_alloc | apply Kd.R_drewN | apply Kd.R_drew)); exact HO291.out) hb)
          have n1_ := Aside0.mk (Kd.R_below (by (with_reducible repeat (first | apply Kd.R_alloc | apply Kd.R_drewN | apply Kd.R_drew)); exact HO295.out) hb)
          have n2_ := Aside0.mk (Kd.R_below (by (with_reducible repeat (first | apply Kd.R_alloc | apply Kd.R_drewN | apply Kd.R_drew)); exact HO299.out) hb)
          have n3_ := Aside0.mk (Kd.R_below (by (with_reducible repeat (first | apply Kd.R_alloc | apply Kd.R_drewN | apply Kd.R_drew)); exact HO304.out) hb)
          have n4_ := Aside0.mk (Kd.R_below (by (with_reducible repeat (first | apply Kd.R_alloc | apply Kd.R_drewN | apply Kd.R_drew)); exact HO310.out) hb)
          have n5_ := Aside0.mk (Kd.R_below (by (with_reducible repeat (first | apply Kd.R_alloc | apply Kd.R_drewN | apply Kd.R_drew)); exact HO317.out) hb)
          have n6_ := Aside0.mk (blk_below (g := gb287) (o := .cells #[.int .i64 a0, .int .u64 a1] 25 (0, 0)) (by (with_reducible repeat (first | refine blk_drewN ?_ _ | refine blk_drew ?_ | refine blk_alloc ?_ _)); exact BK287.out) hb)
          have n7_ := Aside0.mk (blk_below (g := gb288) (o := .cells #[.int .i64 a2, .int .u64 a3] 25 (0, 0)) (by (with_reducible repeat (first | refine blk_drewN ?_ _ | refine blk_drew ?_ | refine blk_alloc ?_ _)); exact BK288.out) hb)
          have n8_ := Aside0.mk (blk_below (g := gb292) (o := .cells #[.slice Ao30 t289.length co30] 29 (0, 0)) (by (with_reducible repeat (first | refine blk_drewN ?_ _ | refine blk_drew ?_ | refine blk_alloc ?_ _)); exact BK292.out) hb)
          have n9_ := Aside0.mk (blk_below (g := gb296) (o := .cells #[.slice Ao36 t293.length co36] 29 (0, 0)) (by (with_reducible repeat (first | refine blk_drewN ?_ _ | refine blk_drew ?_ | refine blk_alloc ?_ _)); exact BK296.out) hb)
          have n10_ := Aside0.mk (below_step (by repeat (first | (with_reducible first | exact HB.out | apply below_alloc | apply pw_below_drewN | apply below_drew1 | refine below_set ?_ GE287.out | refine below_set ?_ GE288.out | refine below_set ?_ GE292.out | refine below_set ?_ GE296.out) | exact HB.out)) hb)
          clear HO291
          clear HO295
          clear HO299
          clear HO304
          clear HO310
          clear HO317
          clear BK287
          clear BK288
          clear BK292
          clear BK296
          clear HB
          have HO291 := n0_
          have HO295 := n1_
          have HO299 := n2_
          have HO304 := n3_
          have HO310 := n4_
          have HO317 := n5_
          have BK287 := n6_
          have BK288 := n7_
          have BK292 := n8_
          have BK296 := n9_
          have HB := n10_
          clear n0_ n1_ n2_ n3_ n4_ n5_ n6_ n7_ n8_ n9_ n10_
          (try clear hb)
          (try clear hb2)
          (try clear hk)
          (try clear hi)
          refine hK.out _ _ ⟨(blk_cell BK287.out 0).trans rfl, (blk_cell BK287.out 1).trans rfl, (blk_cell BK288.out 0).trans rfl, (blk_cell BK288.out 1).trans rfl, (blk_cell BK292.out 0).trans rfl, (blk_cell BK296.out 0).trans rfl⟩ (fun hHeld => ?_)
          clear hK K
          refine norm_ (a' := ?_) ?_ ?_
          rotate_left
          · show Act.put _ (some 54) _ = _
            simp only [Act.put, List.setIfInBounds_toArray, List.set_cons_zero, List.set_cons_succ, i64_w, i32_w]
            rfl
          refine pure_ (i := 30) (N := some 55) (v := ?_) (a' := ?_) #[true, true, true, true, true, true, true, true, true, true, true, true, true, true, true, true, true, true, true, true, true, true, true, true, true, true, true, true, true, true, true, false, false, false, false, false] rfl rfl (any_of HT_.out (by kernel_rfl)) (fun _ _ _ h => h) (Or.inl ⟨by rfl, ?_⟩) ?_ ?_
          rotate_left
          · intro w'
            go_simp
            with_reducible rfl
          rotate_left
          · simp only [Act.put, List.setIfInBounds_toArray, List.set_cons_zero, List.set_cons_succ, i64_w, i32_w]
            rfl
          refine pure_ (i := 31) (N := some 56) (v := ?_) (a' := ?_) #[true, true, true, true, true, true, true, true, true, true, true, true, true, true, true, true, true, true, true, true, true, true, true, true, true, true, true, true, true, true, true, true, false, false, false, false] rfl rfl (any_of HT_.out (by kernel_rfl)) (fun _ _ _ h => h) (Or.inl ⟨by rfl, ?_⟩) ?_ ?_
          rotate_left
          · intro w'
            go_simp
            with_reducible rfl
          rotate_left
          · simp only [Act.put, List.setIfInBounds_toArray, List.set_cons_zero, List.set_cons_succ, i64_w, i32_w]
            rfl
          refine pure_ (i := 32) (N := some 57) (v := ?_) (a' := ?_) #[true, true, true, true, true, true, true, true, true, true, true, true, true, true, true, true, true, true, true, true, true, true, true, true, true, true, true, true, true, true, true, true, true, false, false, false] rfl rfl (any_of HT_.out (by kernel_rfl)) (fun _ _ _ h => h) (Or.inl ⟨by rfl, ?_⟩) ?_ ?_
          rotate_left
          · intro w'
            go_simp
            with_reducible rfl
          rotate_left
          · simp only [Act.put, List.setIfInBounds_toArray, List.set_cons_zero, List.set_cons_succ, i64_w, i32_w]
            rfl
          refine one_ (i := 33) (N := some 58) #[true, true, true, true, true, true, true, true, true, true, true, true, true, true, true, true, true, true, true, true, true, true, true, true, true, true, true, true, true, true, true, true, true, true, false, false] rfl rfl (one_of HT_.out (by kernel_rfl)) (by decide) (fun K hK => ?_)
          refine goes_ Try.func16 (by kernel_rfl) rfl #[] (by rfl) rfl rfl (by (try simp only [List.map_toArray, List.map_cons, List.map_nil]); first | done | rfl | (simp only [List.length_drop, List.length_take]; rfl)) ?_
          with_reducible refine (lapidarylaw08_known.calls k  t319 _ A22.out).mono ?_
          rintro e w60 ⟨rfl, hb⟩
          refine ⟨_, rfl, ?_⟩
          have n0_ := Aside0.mk (Kd.R_below (by (with_reducible repeat (first | apply Kd.R_alloc | apply Kd.R_drewN | apply Kd.R_drew)); exact HO291.out) hb)
          have n1_ := Aside0.mk (Kd.R_below (by (with_reducible repeat (first | apply Kd.R_alloc | apply Kd.R_drewN | apply Kd.R_drew)); exact HO295.out) hb)
          have n2_ := Aside0.mk (Kd.R_below (by (with_reducible repeat (first | apply Kd.R_alloc | apply Kd.R_drewN | apply Kd.R_drew)); exact HO299.out) hb)
          have n3_ := Aside0.mk (Kd.R_below (by (with_reducible repeat (first | apply Kd.R_alloc | apply Kd.R_drewN | apply Kd.R_drew)); exact HO304.out) hb)
          have n4_ := Aside0.mk (Kd.R_below (by (with_reducible repeat (first | apply Kd.R_alloc | apply Kd.R_drewN | apply Kd.R_drew)); exact HO310.out) hb)
          have n5_ := Aside0.mk (Kd.R_below (by (with_reducible repeat (first | apply Kd.R_alloc | apply Kd.R_drewN | apply Kd.R_drew)); exact HO317.out) hb)
          have n6_ := Aside0.mk (blk_below (g := gb287) (o := .cells #[.int .i64 a0, .int .u64 a1] 25 (0, 0)) (by (with_reducible repeat (first | refine blk_drewN ?_ _ | refine blk_drew ?_ | refine blk_alloc ?_ _)); exact BK287.out) hb)
          have n7_ := Aside0.mk (blk_below (g := gb288) (o := .cells #[.int .i64 a2, .int .u64 a3] 25 (0, 0)) (by (with_reducible repeat (first | refine blk_drewN ?_ _ | refine blk_drew ?_ | refine blk_alloc ?_ _)); exact BK288.out) hb)
          have n8_ := Aside0.mk (blk_below (g := gb292) (o := .cells #[.slice Ao30 t289.length co30] 29 (0, 0)) (by (with_reducible repeat (first | refine blk_drewN ?_ _ | refine blk_drew ?_ | refine blk_alloc ?_ _)); exact BK292.out) hb)
          have n9_ := Aside0.mk (blk_below (g := gb296) (o := .cells #[.slice Ao36 t293.length co36] 29 (0, 0)) (by (with_reducible repeat (first | refine blk_drewN ?_ _ | refine blk_drew ?_ | refine blk_alloc ?_ _)); exact BK296.out) hb)
          have n10_ := Aside0.mk (below_step (by repeat (first | (with_reducible first | exact HB.out | apply below_alloc | apply pw_below_drewN | apply below_drew1 | refine below_set ?_ GE287.out | refine below_set ?_ GE288.out | refine below_set ?_ GE292.out | refine below_set ?_ GE296.out) | exact HB.out)) hb)
          clear HO291
          clear HO295
          clear HO299
          clear HO304
          clear HO310
          clear HO317
          clear BK287
          clear BK288
          clear BK292
          clear BK296
          clear HB
          have HO291 := n0_
          have HO295 := n1_
          have HO299 := n2_
          have HO304 := n3_
          have HO310 := n4_
          have HO317 := n5_
          have BK287 := n6_
          have BK288 := n7_
          have BK292 := n8_
          have BK296 := n9_
          have HB := n10_
          clear n0_ n1_ n2_ n3_ n4_ n5_ n6_ n7_ n8_ n9_ n10_
          (try clear hb)
          (try clear hb2)
          (try clear hk)
          (try clear hi)
          refine hK.out _ _ ⟨(blk_cell BK287.out 0).trans rfl, (blk_cell BK287.out 1).trans rfl, (blk_cell BK288.out 0).trans rfl, (blk_cell BK288.out 1).trans rfl, (blk_cell BK292.out 0).trans rfl, (blk_cell BK296.out 0).trans rfl⟩ (fun hHeld => ?_)
          clear hK K
          refine norm_ (a' := ?_) ?_ ?_
          rotate_left
          · show Act.put _ (some 58) _ = _
            simp only [Act.put, List.setIfInBounds_toArray, List.set_cons_zero, List.set_cons_succ, i64_w, i32_w]
            rfl
          refine pure_ (i := 34) (N := some 59) (v := ?_) (a' := ?_) #[true, true, true, true, true, true, true, true, true, true, true, true, true, true, true, true, true, true, true, true, true, true, true, true, true, true, true, true, true, true, true, true, true, true, true, false] rfl rfl (any_of HT_.out (by kernel_rfl)) (fun _ _ _ h => h) (Or.inl ⟨by rfl, ?_⟩) ?_ ?_
          rotate_left
          · intro w'
            go_simp
            with_reducible rfl
          rotate_left
          · simp only [Act.put, List.setIfInBounds_toArray, List.set_cons_zero, List.set_cons_succ, i64_w, i32_w]
            rfl
          refine pure_ (i := 35) (N := some 8) (v := ?_) (a' := ?_) #[true, true, true, true, true, true, true, true, true, true, true, true, true, true, true, true, true, true, true, true, true, true, true, true, true, true, true, true, true, true, true, true, true, true, true, true] rfl rfl (any_of HT_.out (by kernel_rfl)) (fun _ _ _ h => h) (Or.inl ⟨by rfl, ?_⟩) ?_ ?_
          rotate_left
          · intro w'
            go_simp
            with_reducible rfl
          rotate_left
          · simp only [Act.put, List.setIfInBounds_toArray, List.set_cons_zero, List.set_cons_succ, i64_w, i32_w]
            rfl
          refine done_ (done_of HT_.out (by kernel_rfl)) ?_
          try go_wp2
          go_ret
          exact ⟨by first | rfl | (simp [errW_none, errW_some] <;> rfl) | (simp [*, errW_none, errW_some] <;> rfl), by repeat (first | (with_reducible first | exact HB.out | apply below_alloc | apply pw_below_drewN | apply below_drew1 | refine below_set ?_ GE287.out | refine below_set ?_ GE288.out | refine below_set ?_ GE292.out | refine below_set ?_ GE296.out) | exact HB.out)⟩
        · rw [if_neg c21] at H
          exact absurd H (by simp)
      · rw [if_neg c17] at H
        exact absurd H (by simp)
    · replace c14 := Bool.eq_false_iff.mpr c14
      subst c14
      have H1 : (none) = some r := by rw [if_neg (show ¬ (false = true) by decide)] at H; exact H
      clear H
      have H := H1
      clear H1
      exact absurd H (by simp)
  · replace c10 := Bool.eq_false_iff.mpr c10
    subst c10
    have H1 : (none) = some r := by rw [if_neg (show ¬ (false = true) by decide)] at H; exact H
    clear H
    have H := H1
    clear H1
    exact absurd H (by simp)

/-- THE ONE PURE STATEMENT of lapidarylaw08_WideAdds: yours. -/
def lapidarylaw08_WideAdds.Pure : Prop := ∀ (a0 : Int) (a1 : Int) (a2 : Int) (a3 : Int), (Lit.int .i64 a0).wf = true → (Lit.int .u64 a1).wf = true → (Lit.int .i64 a2).wf = true → (Lit.int .u64 a3).wf = true → ∃ k, lapidarylaw08_WideAdds.f k a0 a1 a2 a3 = some true
theorem lapidarylaw08_WideAdds.walk (P : lapidarylaw08_WideAdds.Pure) (a0 : Int) (a1 : Int) (a2 : Int) (a3 : Int) (w : World) (w0 : (Lit.int .i64 a0).wf = true) (w1 : (Lit.int .u64 a1).wf = true) (w2 : (Lit.int .i64 a2).wf = true) (w3 : (Lit.int .u64 a3).wf = true) :
    Calls Try.prog 6 #[.int .i64 a0, .int .u64 a1, .int .i64 a2, .int .u64 a3] w fun e w' => e = .returned (.bool true) ∧ Below w.heap.size w w' := by
  obtain ⟨k, h⟩ := P a0 a1 a2 a3 w0 w1 w2 w3
  refine (lapidarylaw08_WideAdds.calls k a0 a1 a2 a3 true w h).mono ?_
  rintro e w' ⟨rfl, hd⟩
  exact ⟨rfl, hd⟩

end Go.Proofs.Ytaaeaihmhdlpfaa.P
