/- Written for this claim by a program of this session (a turned copy of the print): Go functions as Lean functions, and that the Go code comes to just these answers; or a statement proved out of them. No condition. -/
import Derived.Test.YtlnjbpapbifjfaaPx0
import Derived.Test.YtlnjbpapbifjfaaPx2
import Derived.Test.YtlnjbpapbifjfaaPx16
import Derived.Test.YtlnjbpapbifjfaaPx27
import Derived.Test.YtlnjbpapbifjfaaPx28
import Derived.Test.YtlnjbpapbifjfaaPx29
namespace Go.Proofs.Ytlnjbpapbifjfaa.P
open Go.RowKit Go.Proofs.YtlnjbpapbifjfaaW.PrintWords Go.Proofs.YtlnjbpapbifjfaaW.PrintLast Go.Proofs.YtlnjbpapbifjfaaW.PrintMore Go.Proofs.Ytlnjbpapbifjfaa.X
attribute [local go_sem] max2_int min2_int max_two min_two max_three min_three max_four min_four add64_0 add64_1 add64   -- for this text's walks alone
set_option linter.unusedVariables false
set_option linter.unusedSimpArgs false

attribute [local go_sem high] eqA31
/-! ### lapidarylaw09_known: function 13 -/
def lapidarylaw09_known.f (k : Nat)  : Option (Bool) := (lapidarylaw09_at.f 0 0).bind fun bt301 => ((lapidarylaw09_at.f 4 4).bind fun bt305 => ((lapidarylaw09_at.f 0 4).bind fun bt309 => ((lapidarylaw09_at.f 4 0).bind fun bt312 => ((geom_Meet.f k bt301.1 bt301.2.1 bt301.2.2 bt305.1 bt305.2.1 bt305.2.2 bt309.1 bt309.2.1 bt309.2.2 bt312.1 bt312.2.1 bt312.2.2).bind fun t315 => (if t315 = 2 then ((lapidarylaw09_at.f 9 0).bind fun bt316 => ((geom_Meet.f k bt301.1 bt301.2.1 bt301.2.2 bt305.1 bt305.2.1 bt305.2.2 bt305.1 bt305.2.1 bt305.2.2 bt316.1 bt316.2.1 bt316.2.2).bind fun t319 => (if t319 = 1 then ((lapidarylaw09_at.f 1 1).bind fun bt320 => ((lapidarylaw09_at.f 9 9).bind fun bt323 => ((geom_Meet.f k bt301.1 bt301.2.1 bt301.2.2 bt305.1 bt305.2.1 bt305.2.2 bt320.1 bt320.2.1 bt320.2.2 bt323.1 bt323.2.1 bt323.2.2).bind fun t326 => (if t326 = 3 then ((lapidarylaw09_at.f 1 0).bind fun bt327 => ((lapidarylaw09_at.f 0 1).bind fun bt330 => ((geom_Area.f k (([(⟨bt301.1, bt301.2.1, bt301.2.2⟩ : S23), (⟨bt327.1, bt327.2.1, bt327.2.2⟩ : S23), (⟨bt330.1, bt330.2.1, bt330.2.2⟩ : S23)] : List (S23)))).bind fun bt336 => ((wide_Of.f 1).bind fun bt338 => (some (bt336.1 == bt338.1 && (bt336.2 == bt338.2))))))) else (none))))) else (none)))) else (none))))))
theorem lapidarylaw09_known.mono : ∀ k, LeO (lapidarylaw09_known.f k ) (lapidarylaw09_known.f (k + 1) ) := by
 intro  k
 unfold lapidarylaw09_known.f
 repeat' first
   | (with_reducible exact geom_Area.mono _ _)
   | (with_reducible exact geom_Meet.mono _ _ _ _ _ _ _ _ _ _ _ _ _)
   | (with_reducible exact LeO.refl _)
   | (with_reducible exact LeO.none _)
   | (with_reducible refine LeO.ite ?_ ?_)
   | (with_reducible refine LeO.bind ?_ (fun _ => ?_))
   | exact geom_Area.mono _ _
   | exact geom_Meet.mono _ _ _ _ _ _ _ _ _ _ _ _ _
   | exact LeO.none _
   | refine LeO.ite ?_ ?_
   | refine LeO.bind ?_ (fun _ => ?_)
def lapidarylaw09_known.T3 : Bool × List (List Nat × List Nat) := (true, [([], []), ([], []), ([], []), ([2], []), ([0, 1, 2, 3, 3], [0, 1, 2, 3]), ([4], [4]), ([5, 4], [5]), ([6], [6]), ([6], [6]), ([6], [6]), ([6, 6], [6]), ([7, 8, 9, 10, 10, 6], [6, 7, 8, 9, 10]), ([11, 6], [6, 11]), ([6, 12], [6, 12]), ([13, 11], [13]), ([14], [14]), ([14], [14]), ([14, 14], [14]), ([17, 14], [14]), ([15, 16, 17, 18, 18, 14], [14, 15, 16, 17, 18]), ([19, 14], [14, 19]), ([14, 20], [14, 20]), ([21, 19], [21]), ([22], [22]), ([22, 22], [22]), ([24, 22], [22]), ([23, 24, 25, 22], [22, 23, 24, 25]), ([26, 25, 22], [22, 26]), ([27, 22], [22]), ([27, 28, 22], [22, 27, 28]), ([22, 29], [22, 29]), ([30, 28, 0, 1, 2, 3, 4, 5, 6, 7, 8, 9, 10, 11, 12, 13, 14, 15, 16, 17, 18, 19, 20, 21, 22, 23, 24, 25, 26, 27, 28, 29, 30], [30])])
def lapidarylaw09_known.B3 : List Nat := [0, 0, 0, 4, 15, 31, 63, 127, 127, 127, 127, 2047, 4095, 8191, 16383, 32767, 32767, 32767, 163839, 524287, 1048575, 2097151, 4194303, 8388607, 8388607, 25165823, 67108863, 134217727, 268435455, 536870911, 1073741823, 2147483647]
theorem lapidarylaw09_known.tab3 : rtab .any (opsOf Try.f13 3) = lapidarylaw09_known.T3 := by kernel_rfl
theorem lapidarylaw09_known.bits3 : waitsOk lapidarylaw09_known.T3.2 lapidarylaw09_known.B3 = true := by kernel_rfl
set_option maxHeartbeats 8000000 in
set_option maxRecDepth 100000 in
theorem lapidarylaw09_known.calls (k : Nat)  (r : Bool) (w : World) (h : lapidarylaw09_known.f k  = some r) :
  Calls Try.prog 13 #[] w fun e w' => e = .returned (.bool r) ∧ Below w.heap.size w w' := by
 have hu23 := Try.underlying23
 have HB := Aside0.mk (Below.refl w.heap.size w)
 have H : ((lapidarylaw09_at.f 0 0).bind fun bt301 => ((lapidarylaw09_at.f 4 4).bind fun bt305 => ((lapidarylaw09_at.f 0 4).bind fun bt309 => ((lapidarylaw09_at.f 4 0).bind fun bt312 => ((geom_Meet.f k bt301.1 bt301.2.1 bt301.2.2 bt305.1 bt305.2.1 bt305.2.2 bt309.1 bt309.2.1 bt309.2.2 bt312.1 bt312.2.1 bt312.2.2).bind fun t315 => (if t315 = 2 then ((lapidarylaw09_at.f 9 0).bind fun bt316 => ((geom_Meet.f k bt301.1 bt301.2.1 bt301.2.2 bt305.1 bt305.2.1 bt305.2.2 bt305.1 bt305.2.1 bt305.2.2 bt316.1 bt316.2.1 bt316.2.2).bind fun t319 => (if t319 = 1 then ((lapidarylaw09_at.f 1 1).bind fun bt320 => ((lapidarylaw09_at.f 9 9).bind fun bt323 => ((geom_Meet.f k bt301.1 bt301.2.1 bt301.2.2 bt305.1 bt305.2.1 bt305.2.2 bt320.1 bt320.2.1 bt320.2.2 bt323.1 bt323.2.1 bt323.2.2).bind fun t326 => (if t326 = 3 then ((lapidarylaw09_at.f 1 0).bind fun bt327 => ((lapidarylaw09_at.f 0 1).bind fun bt330 => ((geom_Area.f k (([(⟨bt301.1, bt301.2.1, bt301.2.2⟩ : S23), (⟨bt327.1, bt327.2.1, bt327.2.2⟩ : S23), (⟨bt330.1, bt330.2.1, bt330.2.2⟩ : S23)] : List (S23)))).bind fun bt336 => ((wide_Of.f 1).bind fun bt338 => (some (bt336.1 == bt338.1 && (bt336.2 == bt338.2))))))) else (none))))) else (none)))) else (none))))))) = some r := h
 clear h
 replace H := Option.bind_eq_some_iff.mp H
 obtain ⟨⟨t301, t302, t303⟩, A10, H⟩ := H
 replace H : ((lapidarylaw09_at.f 4 4).bind fun bt305 => ((lapidarylaw09_at.f 0 4).bind fun bt309 => ((lapidarylaw09_at.f 4 0).bind fun bt312 => ((geom_Meet.f k t301 t302 t303 bt305.1 bt305.2.1 bt305.2.2 bt309.1 bt309.2.1 bt309.2.2 bt312.1 bt312.2.1 bt312.2.2).bind fun t315 => (if t315 = 2 then ((lapidarylaw09_at.f 9 0).bind fun bt316 => ((geom_Meet.f k t301 t302 t303 bt305.1 bt305.2.1 bt305.2.2 bt305.1 bt305.2.1 bt305.2.2 bt316.1 bt316.2.1 bt316.2.2).bind fun t319 => (if t319 = 1 then ((lapidarylaw09_at.f 1 1).bind fun bt320 => ((lapidarylaw09_at.f 9 9).bind fun bt323 => ((geom_Meet.f k t301 t302 t303 bt305.1 bt305.2.1 bt305.2.2 bt320.1 bt320.2.1 bt320.2.2 bt323.1 bt323.2.1 bt323.2.2).bind fun t326 => (if t326 = 3 then ((lapidarylaw09_at.f 1 0).bind fun bt327 => ((lapidarylaw09_at.f 0 1).bind fun bt330 => ((geom_Area.f k (([(⟨t301, t302, t303⟩ : S23), (⟨bt327.1, bt327.2.1, bt327.2.2⟩ : S23), (⟨bt330.1, bt330.2.1, bt330.2.2⟩ : S23)] : List (S23)))).bind fun bt336 => ((wide_Of.f 1).bind fun bt338 => (some (bt336.1 == bt338.1 && (bt336.2 == bt338.2))))))) else (none))))) else (none)))) else (none)))))) = some r := H
 have A1 := Aside0.mk A10
 clear A10
 replace H := Option.bind_eq_some_iff.mp H
 obtain ⟨⟨t305, t306, t307⟩, A20, H⟩ := H
 replace H : ((lapidarylaw09_at.f 0 4).bind fun bt309 => ((lapidarylaw09_at.f 4 0).bind fun bt312 => ((geom_Meet.f k t301 t302 t303 t305 t306 t307 bt309.1 bt309.2.1 bt309.2.2 bt312.1 bt312.2.1 bt312.2.2).bind fun t315 => (if t315 = 2 then ((lapidarylaw09_at.f 9 0).bind fun bt316 => ((geom_Meet.f k t301 t302 t303 t305 t306 t307 t305 t306 t307 bt316.1 bt316.2.1 bt316.2.2).bind fun t319 => (if t319 = 1 then ((lapidarylaw09_at.f 1 1).bind fun bt320 => ((lapidarylaw09_at.f 9 9).bind fun bt323 => ((geom_Meet.f k t301 t302 t303 t305 t306 t307 bt320.1 bt320.2.1 bt320.2.2 bt323.1 bt323.2.1 bt323.2.2).bind fun t326 => (if t326 = 3 then ((lapidarylaw09_at.f 1 0).bind fun bt327 => ((lapidarylaw09_at.f 0 1).bind fun bt330 => ((geom_Area.f k (([(⟨t301, t302, t303⟩ : S23), (⟨bt327.1, bt327.2.1, bt327.2.2⟩ : S23), (⟨bt330.1, bt330.2.1, bt330.2.2⟩ : S23)] : List (S23)))).bind fun bt336 => ((wide_Of.f 1).bind fun bt338 => (some (bt336.1 == bt338.1 && (bt336.2 == bt338.2))))))) else (none))))) else (none)))) else (none))))) = some r := H
 have A2 := Aside0.mk A20
 clear A20
 replace H := Option.bind_eq_some_iff.mp H
 obtain ⟨⟨t309, t310, t311⟩, A30, H⟩ := H
 replace H : ((lapidarylaw09_at.f 4 0).bind fun bt312 => ((geom_Meet.f k t301 t302 t303 t305 t306 t307 t309 t310 t311 bt312.1 bt312.2.1 bt312.2.2).bind fun t315 => (if t315 = 2 then ((lapidarylaw09_at.f 9 0).bind fun bt316 => ((geom_Meet.f k t301 t302 t303 t305 t306 t307 t305 t306 t307 bt316.1 bt316.2.1 bt316.2.2).bind fun t319 => (if t319 = 1 then ((lapidarylaw09_at.f 1 1).bind fun bt320 => ((lapidarylaw09_at.f 9 9).bind fun bt323 => ((geom_Meet.f k t301 t302 t303 t305 t306 t307 bt320.1 bt320.2.1 bt320.2.2 bt323.1 bt323.2.1 bt323.2.2).bind fun t326 => (if t326 = 3 then ((lapidarylaw09_at.f 1 0).bind fun bt327 => ((lapidarylaw09_at.f 0 1).bind fun bt330 => ((geom_Area.f k (([(⟨t301, t302, t303⟩ : S23), (⟨bt327.1, bt327.2.1, bt327.2.2⟩ : S23), (⟨bt330.1, bt330.2.1, bt330.2.2⟩ : S23)] : List (S23)))).bind fun bt336 => ((wide_Of.f 1).bind fun bt338 => (some (bt336.1 == bt338.1 && (bt336.2 == bt338.2))))))) else (none))))) else (none)))) else (none)))) = some r := H
 have A3 := Aside0.mk A30
 clear A30
 replace H := Option.bind_eq_some_iff.mp H
 obtain ⟨⟨t312, t313, t314⟩, A40, H⟩ := H
 replace H : ((geom_Meet.f k t301 t302 t303 t305 t306 t307 t309 t310 t311 t312 t313 t314).bind fun t315 => (if t315 = 2 then ((lapidarylaw09_at.f 9 0).bind fun bt316 => ((geom_Meet.f k t301 t302 t303 t305 t306 t307 t305 t306 t307 bt316.1 bt316.2.1 bt316.2.2).bind fun t319 => (if t319 = 1 then ((lapidarylaw09_at.f 1 1).bind fun bt320 => ((lapidarylaw09_at.f 9 9).bind fun bt323 => ((geom_Meet.f k t301 t302 t303 t305 t306 t307 bt320.1 bt320.2.1 bt320.2.2 bt323.1 bt323.2.1 bt323.2.2).bind fun t326 => (if t326 = 3 then ((lapidarylaw09_at.f 1 0).bind fun bt327 => ((lapidarylaw09_at.f 0 1).bind fun bt330 => ((geom_Area.f k (([(⟨t301, t302, t303⟩ : S23), (⟨bt327.1, bt327.2.1, bt327.2.2⟩ : S23), (⟨bt330.1, bt330.2.1, bt330.2.2⟩ : S23)] : List (S23)))).bind fun bt336 => ((wide_Of.f 1).bind fun bt338 => (some (bt336.1 == bt338.1 && (bt336.2 == bt338.2))))))) else (none))))) else (none)))) else (none))) = some r := H
 have A4 := Aside0.mk A40
 clear A40
 replace H := Option.bind_eq_some_iff.mp H
 obtain ⟨t315, A50, H⟩ := H
 replace H : (if t315 = 2 then ((lapidarylaw09_at.f 9 0).bind fun bt316 => ((geom_Meet.f k t301 t302 t303 t305 t306 t307 t305 t306 t307 bt316.1 bt316.2.1 bt316.2.2).bind fun t319 => (if t319 = 1 then ((lapidarylaw09_at.f 1 1).bind fun bt320 => ((lapidarylaw09_at.f 9 9).bind fun bt323 => ((geom_Meet.f k t301 t302 t303 t305 t306 t307 bt320.1 bt320.2.1 bt320.2.2 bt323.1 bt323.2.1 bt323.2.2).bind fun t326 => (if t326 = 3 then ((lapidarylaw09_at.f 1 0).bind fun bt327 => ((lapidarylaw09_at.f 0 1).bind fun bt330 => ((geom_Area.f k (([(⟨t301, t302, t303⟩ : S23), (⟨bt327.1, bt327.2.1, bt327.2.2⟩ : S23), (⟨bt330.1, bt330.2.1, bt330.2.2⟩ : S23)] : List (S23)))).bind fun bt336 => ((wide_Of.f 1).bind fun bt338 => (some (bt336.1 == bt338.1 && (bt336.2 == bt338.2))))))) else (none))))) else (none)))) else (none)) = some r := H
 have A5 := Aside0.mk A50
 clear A50
 by_cases c6 : t315 = 2
 ·rw [if_pos c6] at H
  have c6b0 : (t315 == 2) = true := beq_iff_eq.mpr c6
  have c6b1 : (t315 != 2) = false := bne_eq_false_iff_eq.mpr c6
  clear c6
  replace H := Option.bind_eq_some_iff.mp H
  obtain ⟨⟨t316, t317, t318⟩, A70, H⟩ := H
  replace H : ((geom_Meet.f k t301 t302 t303 t305 t306 t307 t305 t306 t307 t316 t317 t318).bind fun t319 => (if t319 = 1 then ((lapidarylaw09_at.f 1 1).bind fun bt320 => ((lapidarylaw09_at.f 9 9).bind fun bt323 => ((geom_Meet.f k t301 t302 t303 t305 t306 t307 bt320.1 bt320.2.1 bt320.2.2 bt323.1 bt323.2.1 bt323.2.2).bind fun t326 => (if t326 = 3 then ((lapidarylaw09_at.f 1 0).bind fun bt327 => ((lapidarylaw09_at.f 0 1).bind fun bt330 => ((geom_Area.f k (([(⟨t301, t302, t303⟩ : S23), (⟨bt327.1, bt327.2.1, bt327.2.2⟩ : S23), (⟨bt330.1, bt330.2.1, bt330.2.2⟩ : S23)] : List (S23)))).bind fun bt336 => ((wide_Of.f 1).bind fun bt338 => (some (bt336.1 == bt338.1 && (bt336.2 == bt338.2))))))) else (none))))) else (none))) = some r := H
  have A7 := Aside0.mk A70
  clear A70
  replace H := Option.bind_eq_some_iff.mp H
  obtain ⟨t319, A80, H⟩ := H
  replace H : (if t319 = 1 then ((lapidarylaw09_at.f 1 1).bind fun bt320 => ((lapidarylaw09_at.f 9 9).bind fun bt323 => ((geom_Meet.f k t301 t302 t303 t305 t306 t307 bt320.1 bt320.2.1 bt320.2.2 bt323.1 bt323.2.1 bt323.2.2).bind fun t326 => (if t326 = 3 then ((lapidarylaw09_at.f 1 0).bind fun bt327 => ((lapidarylaw09_at.f 0 1).bind fun bt330 => ((geom_Area.f k (([(⟨t301, t302, t303⟩ : S23), (⟨bt327.1, bt327.2.1, bt327.2.2⟩ : S23), (⟨bt330.1, bt330.2.1, bt330.2.2⟩ : S23)] : List (S23)))).bind fun bt336 => ((wide_Of.f 1).bind fun bt338 => (some (bt336.1 == bt338.1 && (bt336.2 == bt338.2))))))) else (none))))) else (none)) = some r := H
  have A8 := Aside0.mk A80
  clear A80
  by_cases c9 : t319 = 1
  ·rw [if_pos c9] at H
   have c9b0 : (t319 == 1) = true := beq_iff_eq.mpr c9
   have c9b1 : (t319 != 1) = false := bne_eq_false_iff_eq.mpr c9
   clear c9
   replace H := Option.bind_eq_some_iff.mp H
   obtain ⟨⟨t320, t321, t322⟩, A100, H⟩ := H
   replace H : ((lapidarylaw09_at.f 9 9).bind fun bt323 => ((geom_Meet.f k t301 t302 t303 t305 t306 t307 t320 t321 t322 bt323.1 bt323.2.1 bt323.2.2).bind fun t326 => (if t326 = 3 then ((lapidarylaw09_at.f 1 0).bind fun bt327 => ((lapidarylaw09_at.f 0 1).bind fun bt330 => ((geom_Area.f k (([(⟨t301, t302, t303⟩ : S23), (⟨bt327.1, bt327.2.1, bt327.2.2⟩ : S23), (⟨bt330.1, bt330.2.1, bt330.2.2⟩ : S23)] : List (S23)))).bind fun bt336 => ((wide_Of.f 1).bind fun bt338 => (some (bt336.1 == bt338.1 && (bt336.2 == bt338.2))))))) else (none)))) = some r := H
   have A10 := Aside0.mk A100
   clear A100
   replace H := Option.bind_eq_some_iff.mp H
   obtain ⟨⟨t323, t324, t325⟩, A110, H⟩ := H
   replace H : ((geom_Meet.f k t301 t302 t303 t305 t306 t307 t320 t321 t322 t323 t324 t325).bind fun t326 => (if t326 = 3 then ((lapidarylaw09_at.f 1 0).bind fun bt327 => ((lapidarylaw09_at.f 0 1).bind fun bt330 => ((geom_Area.f k (([(⟨t301, t302, t303⟩ : S23), (⟨bt327.1, bt327.2.1, bt327.2.2⟩ : S23), (⟨bt330.1, bt330.2.1, bt330.2.2⟩ : S23)] : List (S23)))).bind fun bt336 => ((wide_Of.f 1).bind fun bt338 => (some (bt336.1 == bt338.1 && (bt336.2 == bt338.2))))))) else (none))) = some r := H
   have A11 := Aside0.mk A110
   clear A110
   replace H := Option.bind_eq_some_iff.mp H
   obtain ⟨t326, A120, H⟩ := H
   replace H : (if t326 = 3 then ((lapidarylaw09_at.f 1 0).bind fun bt327 => ((lapidarylaw09_at.f 0 1).bind fun bt330 => ((geom_Area.f k (([(⟨t301, t302, t303⟩ : S23), (⟨bt327.1, bt327.2.1, bt327.2.2⟩ : S23), (⟨bt330.1, bt330.2.1, bt330.2.2⟩ : S23)] : List (S23)))).bind fun bt336 => ((wide_Of.f 1).bind fun bt338 => (some (bt336.1 == bt338.1 && (bt336.2 == bt338.2))))))) else (none)) = some r := H
   have A12 := Aside0.mk A120
   clear A120
   by_cases c13 : t326 = 3
   ·rw [if_pos c13] at H
    have c13b0 : (t326 == 3) = true := beq_iff_eq.mpr c13
    have c13b1 : (t326 != 3) = false := bne_eq_false_iff_eq.mpr c13
    clear c13
    replace H := Option.bind_eq_some_iff.mp H
    obtain ⟨⟨t327, t328, t329⟩, A140, H⟩ := H
    replace H : ((lapidarylaw09_at.f 0 1).bind fun bt330 => ((geom_Area.f k (([(⟨t301, t302, t303⟩ : S23), (⟨t327, t328, t329⟩ : S23), (⟨bt330.1, bt330.2.1, bt330.2.2⟩ : S23)] : List (S23)))).bind fun bt336 => ((wide_Of.f 1).bind fun bt338 => (some (bt336.1 == bt338.1 && (bt336.2 == bt338.2)))))) = some r := H
    have A14 := Aside0.mk A140
    clear A140
    replace H := Option.bind_eq_some_iff.mp H
    obtain ⟨⟨t330, t331, t332⟩, A150, H⟩ := H
    replace H : ((geom_Area.f k (([(⟨t301, t302, t303⟩ : S23), (⟨t327, t328, t329⟩ : S23), (⟨t330, t331, t332⟩ : S23)] : List (S23)))).bind fun bt336 => ((wide_Of.f 1).bind fun bt338 => (some (bt336.1 == bt338.1 && (bt336.2 == bt338.2))))) = some r := H
    have A15 := Aside0.mk A150
    clear A150
    obtain ⟨y333, hy333⟩ : ∃ y_ : List (S23), y_ = (([(⟨t301, t302, t303⟩ : S23), (⟨t327, t328, t329⟩ : S23), (⟨t330, t331, t332⟩ : S23)] : List (S23))) := ⟨_, rfl⟩
    replace H : ((geom_Area.f k y333).bind fun bt336 => ((wide_Of.f 1).bind fun bt338 => (some (bt336.1 == bt338.1 && (bt336.2 == bt338.2))))) = some r := by first | (rw [hy333]; with_reducible exact H) | (have H2_ := (Option.bind_some _ _).symm.trans H; rw [hy333]; with_reducible exact H2_) | (have H2_ := (Option.bind_some _ _).symm.trans H; with_reducible exact H2_) | with_reducible exact H | (rw [hy333]; exact H) | exact H
    have Ny333 := Aside0.mk hy333
    clear hy333
    replace H := Option.bind_eq_some_iff.mp H
    obtain ⟨⟨t336, t337⟩, A160, H⟩ := H
    replace H : ((wide_Of.f 1).bind fun bt338 => (some (t336 == bt338.1 && (t337 == bt338.2)))) = some r := H
    have A16 := Aside0.mk A160
    clear A160
    replace H := Option.bind_eq_some_iff.mp H
    obtain ⟨⟨t338, t339⟩, A170, H⟩ := H
    replace H : (some (t336 == t338 && (t337 == t339))) = some r := H
    have A17 := Aside0.mk A170
    clear A170
    obtain rfl := Option.some.inj H
    go_enter Try.func13, Try.ntmps13
    try go_wp2_with (first | ((with_reducible refine gate_callee (f := 29) rfl ?_); refine goesL_ (some 3) rfl rfl Try.func29 (by kernel_rfl) rfl #[.int .i64 0, .int .i64 0] rfl (by (try simp only [List.map_toArray, List.map_cons, List.map_nil]); first | done | rfl | (simp only [List.length_drop, List.length_take]; rfl)) ?_; (with_reducible refine (lapidarylaw09_at.calls 0 0 t301 t302 t303 _ A1.out).mono ?_); rintro e w18 ⟨rfl, hb⟩; refine ⟨_, rfl, ?_⟩; have n0_ := Aside0.mk (below_step (bH HB) hb); clear HB; have HB := n0_; clear n0_; (try clear hb); (try clear hb2); (try clear hk); (try clear hi)) | ((with_reducible refine gate_dst (N := 1) rfl ?_); (try (refine gate_guard (by rfl) ?_; dsimp only)); refine box_event ?hg (N := 1) ?hd (cs := #[.int .i64 0, .int .i64 0, .int .i64 0]) (t := 23) ?hr ?_; (case hd => rfl); (case hg => rfl); (case hr => first | (go_simp; done) | (go_simp; rfl)); intro gb304 hg w19 hbox hb; have n0_ := Aside0.mk (below_step (bH HB) hb); have n1_ := Aside0.mk (hbox); have n2_ := Aside0.mk ((by rw [hg]; exact (below_size (bH HB)) : w.heap.size ≤ gb304)); have n3_ := n2_; clear HB; have HB := n0_; have BK304 := n1_; have GW304 := n2_; have GE304 := n3_; clear n0_ n1_ n2_ n3_; clear hb hbox hg; have hcz20_0 : w19.cell? ⟨gb304, 0, none⟩ = some (.int .i64 0) := (blk_cell BK304.out 0).trans rfl; have hcz20_1 : w19.cell? ⟨gb304, 1, none⟩ = some (.int .i64 0) := (blk_cell BK304.out 1).trans rfl; have hcz20_2 : w19.cell? ⟨gb304, 2, none⟩ = some (.int .i64 0) := (blk_cell BK304.out 2).trans rfl; have hfz20_0 := blk_frozen BK304.out 0; have hfz20_1 := blk_frozen BK304.out 1; have hfz20_2 := blk_frozen BK304.out 2) | ((with_reducible refine gate_callee (f := 29) rfl ?_); refine goesL_ (some 4) rfl rfl Try.func29 (by kernel_rfl) rfl #[.int .i64 4, .int .i64 4] rfl (by (try simp only [List.map_toArray, List.map_cons, List.map_nil]); first | done | rfl | (simp only [List.length_drop, List.length_take]; rfl)) ?_; (with_reducible refine (lapidarylaw09_at.calls 4 4 t305 t306 t307 _ A2.out).mono ?_); rintro e w21 ⟨rfl, hb⟩; refine ⟨_, rfl, ?_⟩; have n0_ := Aside0.mk (blk_below (g := gb304) (o := .cells #[.int .i64 t301, .int .i64 t302, .int .i64 t303] 23 (0, 0)) (by (with_reducible repeat (first | refine blk_drewN ?_ _ | refine blk_drew ?_ | refine blk_alloc ?_ _)); refine blk_put (cs := #[.int .i64 t301, .int .i64 t302, .int .i64 0]) ?_ 2 _ rfl; (with_reducible repeat (first | refine blk_drewN ?_ _ | refine blk_drew ?_ | refine blk_alloc ?_ _)); refine blk_put (cs := #[.int .i64 t301, .int .i64 0, .int .i64 0]) ?_ 1 _ rfl; (with_reducible repeat (first | refine blk_drewN ?_ _ | refine blk_drew ?_ | refine blk_alloc ?_ _)); refine blk_put (cs := #[.int .i64 0, .int .i64 0, .int .i64 0]) ?_ 0 _ rfl; (with_reducible repeat (first | refine blk_drewN ?_ _ | refine blk_drew ?_ | refine blk_alloc ?_ _)); exact BK304.out) hb); have n1_ := Aside0.mk (below_step (bH HB) hb); clear BK304; clear HB; have BK304 := n0_; have HB := n1_; clear n0_ n1_; (try clear hb); (try clear hb2); (try clear hk); (try clear hi)) | ((with_reducible refine gate_dst (N := 2) rfl ?_); (try (refine gate_guard (by rfl) ?_; dsimp only)); refine box_event ?hg (N := 2) ?hd (cs := #[.int .i64 0, .int .i64 0, .int .i64 0]) (t := 23) ?hr ?_; (case hd => rfl); (case hg => rfl); (case hr => first | (go_simp; done) | (go_simp; rfl)); intro gb308 hg w22 hbox hb; have n0_ := Aside0.mk (blk_below (g := gb304) (o := .cells #[.int .i64 t301, .int .i64 t302, .int .i64 t303] 23 (0, 0)) (bK BK304) hb); have n1_ := Aside0.mk (below_step (bH HB) hb); have n2_ := Aside0.mk (hbox); have n3_ := Aside0.mk ((by rw [hg]; exact (below_size (bH HB)) : w.heap.size ≤ gb308)); have n4_ := n3_; have n5_ := Aside0.mk ((by rw [hg]; exact Nat.ne_of_lt (blk_lt (bK BK304)) : gb304 ≠ gb308)); have n6_ := Aside0.mk ((by rw [hg]; exact Nat.ne_of_gt (blk_lt (bK BK304)) : gb308 ≠ gb304)); clear BK304; clear HB; have BK304 := n0_; have HB := n1_; have BK308 := n2_; have GW308 := n3_; have GE308 := n4_; have NB304_308 := n5_; have NB308_304 := n6_; clear n0_ n1_ n2_ n3_ n4_ n5_ n6_; clear hb hbox hg; have hnb23 := NB308_304.out; have hnc23 := NB304_308.out; have hcz24_0 : w22.cell? ⟨gb308, 0, none⟩ = some (.int .i64 0) := (blk_cell BK308.out 0).trans rfl; have hcz24_1 : w22.cell? ⟨gb308, 1, none⟩ = some (.int .i64 0) := (blk_cell BK308.out 1).trans rfl; have hcz24_2 : w22.cell? ⟨gb308, 2, none⟩ = some (.int .i64 0) := (blk_cell BK308.out 2).trans rfl; have hfz24_0 := blk_frozen BK308.out 0; have hfz24_1 := blk_frozen BK308.out 1; have hfz24_2 := blk_frozen BK308.out 2))
    have n0_ : Aside0 ((((w22.setCell ⟨gb308, 0, none⟩ (.int .i64 t305)).setCell ⟨gb308, 1, none⟩ (.int .i64 t306)).setCell ⟨gb308, 2, none⟩ (.int .i64 t307)).heap[gb304]? = some (.cells #[.int .i64 t301, .int .i64 t302, .int .i64 t303] 23 (0, 0))) := ⟨bK BK304⟩
    have n1_ : Aside0 ((((w22.setCell ⟨gb308, 0, none⟩ (.int .i64 t305)).setCell ⟨gb308, 1, none⟩ (.int .i64 t306)).setCell ⟨gb308, 2, none⟩ (.int .i64 t307)).heap[gb308]? = some (.cells #[.int .i64 t305, .int .i64 t306, .int .i64 t307] 23 (0, 0))) := ⟨by (with_reducible repeat (first | refine blk_drewN ?_ _ | refine blk_drew ?_ | refine blk_alloc ?_ _)); refine blk_put (cs := #[.int .i64 t305, .int .i64 t306, .int .i64 0]) ?_ 2 _ rfl; (with_reducible repeat (first | refine blk_drewN ?_ _ | refine blk_drew ?_ | refine blk_alloc ?_ _)); refine blk_put (cs := #[.int .i64 t305, .int .i64 0, .int .i64 0]) ?_ 1 _ rfl; (with_reducible repeat (first | refine blk_drewN ?_ _ | refine blk_drew ?_ | refine blk_alloc ?_ _)); refine blk_put (cs := #[.int .i64 0, .int .i64 0, .int .i64 0]) ?_ 0 _ rfl; (with_reducible repeat (first | refine blk_drewN ?_ _ | refine blk_drew ?_ | refine blk_alloc ?_ _)); exact BK308.out⟩
    have n2_ : Aside0 (Below w.heap.size w (((w22.setCell ⟨gb308, 0, none⟩ (.int .i64 t305)).setCell ⟨gb308, 1, none⟩ (.int .i64 t306)).setCell ⟨gb308, 2, none⟩ (.int .i64 t307))) := ⟨ bH HB⟩
    (try clear BK304)
    (try clear BK308)
    (try clear HB)
    generalize (((w22.setCell ⟨gb308, 0, none⟩ (.int .i64 t305)).setCell ⟨gb308, 1, none⟩ (.int .i64 t306)).setCell ⟨gb308, 2, none⟩ (.int .i64 t307)) = w25 at n0_ n1_ n2_ ⊢
    have BK304 := n0_
    have BK308 := n1_
    have HB := n2_
    clear n0_ n1_ n2_
    have n0_ := Aside0.mk (blk_drew BK304.out)
    have n1_ := Aside0.mk (blk_drew BK308.out)
    have n2_ := Aside0.mk (below_drew1 HB.out)
    clear BK304
    clear BK308
    clear HB
    have BK304 := n0_
    have BK308 := n1_
    have HB := n2_
    clear n0_ n1_ n2_
    refine start_ (n := 32) (S := fun w' => w'.cell? ⟨gb304, 0, none⟩ = some (.int .i64 t301) ∧ w'.cell? ⟨gb304, 1, none⟩ = some (.int .i64 t302) ∧ w'.cell? ⟨gb304, 2, none⟩ = some (.int .i64 t303) ∧ w'.cell? ⟨gb308, 0, none⟩ = some (.int .i64 t305) ∧ w'.cell? ⟨gb308, 1, none⟩ = some (.int .i64 t306) ∧ w'.cell? ⟨gb308, 2, none⟩ = some (.int .i64 t307)) (ds := []) #[false, false, false, false, false, false, false, false, false, false, false, false, false, false, false, false, false, false, false, false, false, false, false, false, false, false, false, false, false, false, false, false] (by kernel_rfl) rfl rfl ⟨(blk_cell BK304.out 0).trans rfl, (blk_cell BK304.out 1).trans rfl, (blk_cell BK304.out 2).trans rfl, (blk_cell BK308.out 0).trans rfl, (blk_cell BK308.out 1).trans rfl, (blk_cell BK308.out 2).trans rfl⟩ (fun hHeld => ?_); refine with_tabW lapidarylaw09_known.tab3 lapidarylaw09_known.bits3 (fun HT_ HW_ => ?_)
    generalize w25.drew = w26 at BK304 BK308 HB hHeld ⊢
    refine take_ (i := 0) (N := some 5) (v := ?_) (a' := ?_) #[true, false, false, false, false, false, false, false, false, false, false, false, false, false, false, false, false, false, false, false, false, false, false, false, false, false, false, false, false, false, false, false] rfl rfl (take_ofW HT_.out HW_.out (by kernel_rfl)) (fun _ _ _ h => h) (Or.inl ⟨by rfl, ?_⟩) hHeld ?_ ?_
    rotate_left
    ·rintro w' ⟨s0, s1, s2, s3, s4, s5⟩
     go_simp
     with_reducible rfl
    rotate_left
    ·simp only [Act.put, List.setIfInBounds_toArray, List.set_cons_zero, List.set_cons_succ, i64_w, i32_w]
     rfl
    refine take_ (i := 1) (N := some 6) (v := ?_) (a' := ?_) #[true, true, false, false, false, false, false, false, false, false, false, false, false, false, false, false, false, false, false, false, false, false, false, false, false, false, false, false, false, false, false, false] rfl rfl (take_ofW HT_.out HW_.out (by kernel_rfl)) (fun _ _ _ h => h) (Or.inl ⟨by rfl, ?_⟩) hHeld ?_ ?_
    rotate_left
    ·rintro w' ⟨s0, s1, s2, s3, s4, s5⟩
     go_simp
     with_reducible rfl
    rotate_left
    ·simp only [Act.put, List.setIfInBounds_toArray, List.set_cons_zero, List.set_cons_succ, i64_w, i32_w]
     rfl
    refine one_ (i := 2) (N := some 7) #[true, true, true, false, false, false, false, false, false, false, false, false, false, false, false, false, false, false, false, false, false, false, false, false, false, false, false, false, false, false, false, false] rfl rfl (one_of HT_.out (by kernel_rfl)) (by decide) (fun K hK => ?_)
    refine goes_ Try.func29 (by kernel_rfl) rfl #[.int .i64 0, .int .i64 4] (by rfl) rfl rfl (by (try simp only [List.map_toArray, List.map_cons, List.map_nil]); first | done | rfl | (simp only [List.length_drop, List.length_take]; rfl)) ?_
    with_reducible refine (lapidarylaw09_at.calls 0 4 t309 t310 t311 _ A3.out).mono ?_
    rintro e w27 ⟨rfl, hb⟩
    refine ⟨_, rfl, ?_⟩
    have n0_ := Aside0.mk (blk_below (g := gb304) (o := .cells #[.int .i64 t301, .int .i64 t302, .int .i64 t303] 23 (0, 0)) (bK BK304) hb)
    have n1_ := Aside0.mk (blk_below (g := gb308) (o := .cells #[.int .i64 t305, .int .i64 t306, .int .i64 t307] 23 (0, 0)) (bK BK308) hb)
    have n2_ := Aside0.mk (below_step (bH HB) hb)
    clear BK304
    clear BK308
    clear HB
    have BK304 := n0_
    have BK308 := n1_
    have HB := n2_
    clear n0_ n1_ n2_
    (try clear hb)
    (try clear hb2)
    (try clear hk)
    (try clear hi)
    refine hK.out _ _ ⟨(blk_cell BK304.out 0).trans rfl, (blk_cell BK304.out 1).trans rfl, (blk_cell BK304.out 2).trans rfl, (blk_cell BK308.out 0).trans rfl, (blk_cell BK308.out 1).trans rfl, (blk_cell BK308.out 2).trans rfl⟩ (fun hHeld => ?_)
    clear hK K
    refine norm_ (a' := ?_) ?_ ?_
    rotate_left
    ·show Act.put _ (some 7) _ = _
     simp only [Act.put, List.setIfInBounds_toArray, List.set_cons_zero, List.set_cons_succ, i64_w, i32_w]
     rfl
    refine one_ (i := 3) (N := some 8) #[true, true, true, true, false, false, false, false, false, false, false, false, false, false, false, false, false, false, false, false, false, false, false, false, false, false, false, false, false, false, false, false] rfl rfl (one_of HT_.out (by kernel_rfl)) (by decide) (fun K hK => ?_)
    refine goes_ Try.func29 (by kernel_rfl) rfl #[.int .i64 4, .int .i64 0] (by rfl) rfl rfl (by (try simp only [List.map_toArray, List.map_cons, List.map_nil]); first | done | rfl | (simp only [List.length_drop, List.length_take]; rfl)) ?_
    with_reducible refine (lapidarylaw09_at.calls 4 0 t312 t313 t314 _ A4.out).mono ?_
    rintro e w28 ⟨rfl, hb⟩
    refine ⟨_, rfl, ?_⟩
    have n0_ := Aside0.mk (blk_below (g := gb304) (o := .cells #[.int .i64 t301, .int .i64 t302, .int .i64 t303] 23 (0, 0)) (bK BK304) hb)
    have n1_ := Aside0.mk (blk_below (g := gb308) (o := .cells #[.int .i64 t305, .int .i64 t306, .int .i64 t307] 23 (0, 0)) (bK BK308) hb)
    have n2_ := Aside0.mk (below_step (bH HB) hb)
    clear BK304
    clear BK308
    clear HB
    have BK304 := n0_
    have BK308 := n1_
    have HB := n2_
    clear n0_ n1_ n2_
    (try clear hb)
    (try clear hb2)
    (try clear hk)
    (try clear hi)
    refine hK.out _ _ ⟨(blk_cell BK304.out 0).trans rfl, (blk_cell BK304.out 1).trans rfl, (blk_cell BK304.out 2).trans rfl, (blk_cell BK308.out 0).trans rfl, (blk_cell BK308.out 1).trans rfl, (blk_cell BK308.out 2).trans rfl⟩ (fun hHeld => ?_)
    clear hK K
    refine norm_ (a' := ?_) ?_ ?_
    rotate_left
    ·show Act.put _ (some 8) _ = _
     simp only [Act.put, List.setIfInBounds_toArray, List.set_cons_zero, List.set_cons_succ, i64_w, i32_w]
     rfl
    refine one_ (i := 4) (N := some 9) #[true, true, true, true, true, false, false, false, false, false, false, false, false, false, false, false, false, false, false, false, false, false, false, false, false, false, false, false, false, false, false, false] rfl rfl (one_of HT_.out (by kernel_rfl)) (by decide) (fun K hK => ?_)
    refine goes_ Try.func11 (by kernel_rfl) rfl #[.agg #[.int .i64 t301, .int .i64 t302, .int .i64 t303], .agg #[.int .i64 t305, .int .i64 t306, .int .i64 t307], .agg #[.int .i64 t309, .int .i64 t310, .int .i64 t311], .agg #[.int .i64 t312, .int .i64 t313, .int .i64 t314]] (by rfl) rfl rfl (by (try simp only [List.map_toArray, List.map_cons, List.map_nil]); first | done | rfl | (simp only [List.length_drop, List.length_take]; rfl)) ?_
    with_reducible refine (geom_Meet.calls k t301 t302 t303 t305 t306 t307 t309 t310 t311 t312 t313 t314 t315 _ A5.out).mono ?_
    rintro e w29 ⟨rfl, hb⟩
    refine ⟨_, rfl, ?_⟩
    have n0_ := Aside0.mk (blk_below (g := gb304) (o := .cells #[.int .i64 t301, .int .i64 t302, .int .i64 t303] 23 (0, 0)) (bK BK304) hb)
    have n1_ := Aside0.mk (blk_below (g := gb308) (o := .cells #[.int .i64 t305, .int .i64 t306, .int .i64 t307] 23 (0, 0)) (bK BK308) hb)
    have n2_ := Aside0.mk (below_step (bH HB) hb)
    clear BK304
    clear BK308
    clear HB
    have BK304 := n0_
    have BK308 := n1_
    have HB := n2_
    clear n0_ n1_ n2_
    (try clear hb)
    (try clear hb2)
    (try clear hk)
    (try clear hi)
    refine hK.out _ _ ⟨(blk_cell BK304.out 0).trans rfl, (blk_cell BK304.out 1).trans rfl, (blk_cell BK304.out 2).trans rfl, (blk_cell BK308.out 0).trans rfl, (blk_cell BK308.out 1).trans rfl, (blk_cell BK308.out 2).trans rfl⟩ (fun hHeld => ?_)
    clear hK K
    refine norm_ (a' := ?_) ?_ ?_
    rotate_left
    ·show Act.put _ (some 9) _ = _
     simp only [Act.put, List.setIfInBounds_toArray, List.set_cons_zero, List.set_cons_succ, i64_w, i32_w]
     rfl
    refine pure_ (i := 5) (N := some 10) (v := ?_) (a' := ?_) #[true, true, true, true, true, true, false, false, false, false, false, false, false, false, false, false, false, false, false, false, false, false, false, false, false, false, false, false, false, false, false, false] rfl rfl (any_of HT_.out (by kernel_rfl)) (fun _ _ _ h => h) (Or.inl ⟨by rfl, ?_⟩) ?_ ?_
    rotate_left
    ·intro w'
     go_simp
     with_reducible rfl
    rotate_left
    ·simp only [Act.put, List.setIfInBounds_toArray, List.set_cons_zero, List.set_cons_succ, i64_w, i32_w]
     rfl
    refine pure_ (i := 6) (N := some 11) (v := ?_) (a' := ?_) #[true, true, true, true, true, true, true, false, false, false, false, false, false, false, false, false, false, false, false, false, false, false, false, false, false, false, false, false, false, false, false, false] rfl rfl (any_of HT_.out (by kernel_rfl)) (fun _ _ _ h => h) (Or.inl ⟨by rfl, ?_⟩) ?_ ?_
    rotate_left
    ·intro w'
     go_simp
     with_reducible rfl
    rotate_left
    ·simp only [Act.put, List.setIfInBounds_toArray, List.set_cons_zero, List.set_cons_succ, i64_w, i32_w]
     rfl
    refine take_ (i := 7) (N := some 12) (v := ?_) (a' := ?_) #[true, true, true, true, true, true, true, true, false, false, false, false, false, false, false, false, false, false, false, false, false, false, false, false, false, false, false, false, false, false, false, false] rfl rfl (take_ofW HT_.out HW_.out (by kernel_rfl)) (fun _ _ _ h => h) (Or.inl ⟨by rfl, ?_⟩) hHeld ?_ ?_
    rotate_left
    ·rintro w' ⟨s0, s1, s2, s3, s4, s5⟩
     go_simp
     with_reducible rfl
    rotate_left
    ·simp only [Act.put, List.setIfInBounds_toArray, List.set_cons_zero, List.set_cons_succ, i64_w, i32_w]
     rfl
    refine take_ (i := 8) (N := some 13) (v := ?_) (a' := ?_) #[true, true, true, true, true, true, true, true, true, false, false, false, false, false, false, false, false, false, false, false, false, false, false, false, false, false, false, false, false, false, false, false] rfl rfl (take_ofW HT_.out HW_.out (by kernel_rfl)) (fun _ _ _ h => h) (Or.inl ⟨by rfl, ?_⟩) hHeld ?_ ?_
    rotate_left
    ·rintro w' ⟨s0, s1, s2, s3, s4, s5⟩
     go_simp
     with_reducible rfl
    rotate_left
    ·simp only [Act.put, List.setIfInBounds_toArray, List.set_cons_zero, List.set_cons_succ, i64_w, i32_w]
     rfl
    refine take_ (i := 9) (N := some 14) (v := ?_) (a' := ?_) #[true, true, true, true, true, true, true, true, true, true, false, false, false, false, false, false, false, false, false, false, false, false, false, false, false, false, false, false, false, false, false, false] rfl rfl (take_ofW HT_.out HW_.out (by kernel_rfl)) (fun _ _ _ h => h) (Or.inl ⟨by rfl, ?_⟩) hHeld ?_ ?_
    rotate_left
    ·rintro w' ⟨s0, s1, s2, s3, s4, s5⟩
     go_simp
     with_reducible rfl
    rotate_left
    ·simp only [Act.put, List.setIfInBounds_toArray, List.set_cons_zero, List.set_cons_succ, i64_w, i32_w]
     rfl
    refine one_ (i := 10) (N := some 15) #[true, true, true, true, true, true, true, true, true, true, true, false, false, false, false, false, false, false, false, false, false, false, false, false, false, false, false, false, false, false, false, false] rfl rfl (one_of HT_.out (by kernel_rfl)) (by decide) (fun K hK => ?_)
    refine goes_ Try.func29 (by kernel_rfl) rfl #[.int .i64 9, .int .i64 0] (by rfl) rfl rfl (by (try simp only [List.map_toArray, List.map_cons, List.map_nil]); first | done | rfl | (simp only [List.length_drop, List.length_take]; rfl)) ?_
    with_reducible refine (lapidarylaw09_at.calls 9 0 t316 t317 t318 _ A7.out).mono ?_
    rintro e w30 ⟨rfl, hb⟩
    refine ⟨_, rfl, ?_⟩
    have n0_ := Aside0.mk (blk_below (g := gb304) (o := .cells #[.int .i64 t301, .int .i64 t302, .int .i64 t303] 23 (0, 0)) (bK BK304) hb)
    have n1_ := Aside0.mk (blk_below (g := gb308) (o := .cells #[.int .i64 t305, .int .i64 t306, .int .i64 t307] 23 (0, 0)) (bK BK308) hb)
    have n2_ := Aside0.mk (below_step (bH HB) hb)
    clear BK304
    clear BK308
    clear HB
    have BK304 := n0_
    have BK308 := n1_
    have HB := n2_
    clear n0_ n1_ n2_
    (try clear hb)
    (try clear hb2)
    (try clear hk)
    (try clear hi)
    refine hK.out _ _ ⟨(blk_cell BK304.out 0).trans rfl, (blk_cell BK304.out 1).trans rfl, (blk_cell BK304.out 2).trans rfl, (blk_cell BK308.out 0).trans rfl, (blk_cell BK308.out 1).trans rfl, (blk_cell BK308.out 2).trans rfl⟩ (fun hHeld => ?_)
    clear hK K
    refine norm_ (a' := ?_) ?_ ?_
    rotate_left
    ·show Act.put _ (some 15) _ = _
     simp only [Act.put, List.setIfInBounds_toArray, List.set_cons_zero, List.set_cons_succ, i64_w, i32_w]
     rfl
    refine one_ (i := 11) (N := some 16) #[true, true, true, true, true, true, true, true, true, true, true, true, false, false, false, false, false, false, false, false, false, false, false, false, false, false, false, false, false, false, false, false] rfl rfl (one_of HT_.out (by kernel_rfl)) (by decide) (fun K hK => ?_)
    refine goes_ Try.func11 (by kernel_rfl) rfl #[.agg #[.int .i64 t301, .int .i64 t302, .int .i64 t303], .agg #[.int .i64 t305, .int .i64 t306, .int .i64 t307], .agg #[.int .i64 t305, .int .i64 t306, .int .i64 t307], .agg #[.int .i64 t316, .int .i64 t317, .int .i64 t318]] (by rfl) rfl rfl (by (try simp only [List.map_toArray, List.map_cons, List.map_nil]); first | done | rfl | (simp only [List.length_drop, List.length_take]; rfl)) ?_
    with_reducible refine (geom_Meet.calls k t301 t302 t303 t305 t306 t307 t305 t306 t307 t316 t317 t318 t319 _ A8.out).mono ?_
    rintro e w31 ⟨rfl, hb⟩
    refine ⟨_, rfl, ?_⟩
    have n0_ := Aside0.mk (blk_below (g := gb304) (o := .cells #[.int .i64 t301, .int .i64 t302, .int .i64 t303] 23 (0, 0)) (bK BK304) hb)
    have n1_ := Aside0.mk (blk_below (g := gb308) (o := .cells #[.int .i64 t305, .int .i64 t306, .int .i64 t307] 23 (0, 0)) (bK BK308) hb)
    have n2_ := Aside0.mk (below_step (bH HB) hb)
    clear BK304
    clear BK308
    clear HB
    have BK304 := n0_
    have BK308 := n1_
    have HB := n2_
    clear n0_ n1_ n2_
    (try clear hb)
    (try clear hb2)
    (try clear hk)
    (try clear hi)
    refine hK.out _ _ ⟨(blk_cell BK304.out 0).trans rfl, (blk_cell BK304.out 1).trans rfl, (blk_cell BK304.out 2).trans rfl, (blk_cell BK308.out 0).trans rfl, (blk_cell BK308.out 1).trans rfl, (blk_cell BK308.out 2).trans rfl⟩ (fun hHeld => ?_)
    clear hK K
    refine norm_ (a' := ?_) ?_ ?_
    rotate_left
    ·show Act.put _ (some 16) _ = _
     simp only [Act.put, List.setIfInBounds_toArray, List.set_cons_zero, List.set_cons_succ, i64_w, i32_w]
     rfl
    refine pure_ (i := 12) (N := some 17) (v := ?_) (a' := ?_) #[true, true, true, true, true, true, true, true, true, true, true, true, true, false, false, false, false, false, false, false, false, false, false, false, false, false, false, false, false, false, false, false] rfl rfl (any_of HT_.out (by kernel_rfl)) (fun _ _ _ h => h) (Or.inl ⟨by rfl, ?_⟩) ?_ ?_
    rotate_left
    ·intro w'
     go_simp
     with_reducible rfl
    rotate_left
    ·simp only [Act.put, List.setIfInBounds_toArray, List.set_cons_zero, List.set_cons_succ, i64_w, i32_w]
     rfl
    refine pure_ (i := 13) (N := some 18) (v := ?_) (a' := ?_) #[true, true, true, true, true, true, true, true, true, true, true, true, true, true, false, false, false, false, false, false, false, false, false, false, false, false, false, false, false, false, false, false] rfl rfl (any_of HT_.out (by kernel_rfl)) (fun _ _ _ h => h) (Or.inl ⟨by rfl, ?_⟩) ?_ ?_
    rotate_left
    ·intro w'
     go_simp
     with_reducible rfl
    rotate_left
    ·simp only [Act.put, List.setIfInBounds_toArray, List.set_cons_zero, List.set_cons_succ, i64_w, i32_w]
     rfl
    refine pure_ (i := 14) (N := some 19) (v := ?_) (a' := ?_) #[true, true, true, true, true, true, true, true, true, true, true, true, true, true, true, false, false, false, false, false, false, false, false, false, false, false, false, false, false, false, false, false] rfl rfl (any_of HT_.out (by kernel_rfl)) (fun _ _ _ h => h) (Or.inl ⟨by rfl, ?_⟩) ?_ ?_
    rotate_left
    ·intro w'
     go_simp
     with_reducible rfl
    rotate_left
    ·simp only [Act.put, List.setIfInBounds_toArray, List.set_cons_zero, List.set_cons_succ, i64_w, i32_w]
     rfl
    refine take_ (i := 15) (N := some 20) (v := ?_) (a' := ?_) #[true, true, true, true, true, true, true, true, true, true, true, true, true, true, true, true, false, false, false, false, false, false, false, false, false, false, false, false, false, false, false, false] rfl rfl (take_ofW HT_.out HW_.out (by kernel_rfl)) (fun _ _ _ h => h) (Or.inl ⟨by rfl, ?_⟩) hHeld ?_ ?_
    rotate_left
    ·rintro w' ⟨s0, s1, s2, s3, s4, s5⟩
     go_simp
     with_reducible rfl
    rotate_left
    ·simp only [Act.put, List.setIfInBounds_toArray, List.set_cons_zero, List.set_cons_succ, i64_w, i32_w]
     rfl
    refine take_ (i := 16) (N := some 21) (v := ?_) (a' := ?_) #[true, true, true, true, true, true, true, true, true, true, true, true, true, true, true, true, true, false, false, false, false, false, false, false, false, false, false, false, false, false, false, false] rfl rfl (take_ofW HT_.out HW_.out (by kernel_rfl)) (fun _ _ _ h => h) (Or.inl ⟨by rfl, ?_⟩) hHeld ?_ ?_
    rotate_left
    ·rintro w' ⟨s0, s1, s2, s3, s4, s5⟩
     go_simp
     with_reducible rfl
    rotate_left
    ·simp only [Act.put, List.setIfInBounds_toArray, List.set_cons_zero, List.set_cons_succ, i64_w, i32_w]
     rfl
    refine one_ (i := 17) (N := some 22) #[true, true, true, true, true, true, true, true, true, true, true, true, true, true, true, true, true, true, false, false, false, false, false, false, false, false, false, false, false, false, false, false] rfl rfl (one_of HT_.out (by kernel_rfl)) (by decide) (fun K hK => ?_)
    refine goes_ Try.func29 (by kernel_rfl) rfl #[.int .i64 1, .int .i64 1] (by rfl) rfl rfl (by (try simp only [List.map_toArray, List.map_cons, List.map_nil]); first | done | rfl | (simp only [List.length_drop, List.length_take]; rfl)) ?_
    with_reducible refine (lapidarylaw09_at.calls 1 1 t320 t321 t322 _ A10.out).mono ?_
    rintro e w32 ⟨rfl, hb⟩
    refine ⟨_, rfl, ?_⟩
    have n0_ := Aside0.mk (blk_below (g := gb304) (o := .cells #[.int .i64 t301, .int .i64 t302, .int .i64 t303] 23 (0, 0)) (bK BK304) hb)
    have n1_ := Aside0.mk (blk_below (g := gb308) (o := .cells #[.int .i64 t305, .int .i64 t306, .int .i64 t307] 23 (0, 0)) (bK BK308) hb)
    have n2_ := Aside0.mk (below_step (bH HB) hb)
    clear BK304
    clear BK308
    clear HB
    have BK304 := n0_
    have BK308 := n1_
    have HB := n2_
    clear n0_ n1_ n2_
    (try clear hb)
    (try clear hb2)
    (try clear hk)
    (try clear hi)
    refine hK.out _ _ ⟨(blk_cell BK304.out 0).trans rfl, (blk_cell BK304.out 1).trans rfl, (blk_cell BK304.out 2).trans rfl, (blk_cell BK308.out 0).trans rfl, (blk_cell BK308.out 1).trans rfl, (blk_cell BK308.out 2).trans rfl⟩ (fun hHeld => ?_)
    clear hK K
    refine norm_ (a' := ?_) ?_ ?_
    rotate_left
    ·show Act.put _ (some 22) _ = _
     simp only [Act.put, List.setIfInBounds_toArray, List.set_cons_zero, List.set_cons_succ, i64_w, i32_w]
     rfl
    refine one_ (i := 18) (N := some 23) #[true, true, true, true, true, true, true, true, true, true, true, true, true, true, true, true, true, true, true, false, false, false, false, false, false, false, false, false, false, false, false, false] rfl rfl (one_of HT_.out (by kernel_rfl)) (by decide) (fun K hK => ?_)
    refine goes_ Try.func29 (by kernel_rfl) rfl #[.int .i64 9, .int .i64 9] (by rfl) rfl rfl (by (try simp only [List.map_toArray, List.map_cons, List.map_nil]); first | done | rfl | (simp only [List.length_drop, List.length_take]; rfl)) ?_
    with_reducible refine (lapidarylaw09_at.calls 9 9 t323 t324 t325 _ A11.out).mono ?_
    rintro e w33 ⟨rfl, hb⟩
    refine ⟨_, rfl, ?_⟩
    have n0_ := Aside0.mk (blk_below (g := gb304) (o := .cells #[.int .i64 t301, .int .i64 t302, .int .i64 t303] 23 (0, 0)) (bK BK304) hb)
    have n1_ := Aside0.mk (blk_below (g := gb308) (o := .cells #[.int .i64 t305, .int .i64 t306, .int .i64 t307] 23 (0, 0)) (bK BK308) hb)
    have n2_ := Aside0.mk (below_step (bH HB) hb)
    clear BK304
    clear BK308
    clear HB
    have BK304 := n0_
    have BK308 := n1_
    have HB := n2_
    clear n0_ n1_ n2_
    (try clear hb)
    (try clear hb2)
    (try clear hk)
    (try clear hi)
    refine hK.out _ _ ⟨(blk_cell BK304.out 0).trans rfl, (blk_cell BK304.out 1).trans rfl, (blk_cell BK304.out 2).trans rfl, (blk_cell BK308.out 0).trans rfl, (blk_cell BK308.out 1).trans rfl, (blk_cell BK308.out 2).trans rfl⟩ (fun hHeld => ?_)
    clear hK K
    refine norm_ (a' := ?_) ?_ ?_
    rotate_left
    ·show Act.put _ (some 23) _ = _
     simp only [Act.put, List.setIfInBounds_toArray, List.set_cons_zero, List.set_cons_succ, i64_w, i32_w]
     rfl
    refine one_ (i := 19) (N := some 24) #[true, true, true, true, true, true, true, true, true, true, true, true, true, true, true, true, true, true, true, true, false, false, false, false, false, false, false, false, false, false, false, false] rfl rfl (one_of HT_.out (by kernel_rfl)) (by decide) (fun K hK => ?_)
    refine goes_ Try.func11 (by kernel_rfl) rfl #[.agg #[.int .i64 t301, .int .i64 t302, .int .i64 t303], .agg #[.int .i64 t305, .int .i64 t306, .int .i64 t307], .agg #[.int .i64 t320, .int .i64 t321, .int .i64 t322], .agg #[.int .i64 t323, .int .i64 t324, .int .i64 t325]] (by rfl) rfl rfl (by (try simp only [List.map_toArray, List.map_cons, List.map_nil]); first | done | rfl | (simp only [List.length_drop, List.length_take]; rfl)) ?_
    with_reducible refine (geom_Meet.calls k t301 t302 t303 t305 t306 t307 t320 t321 t322 t323 t324 t325 t326 _ A12.out).mono ?_
    rintro e w34 ⟨rfl, hb⟩
    refine ⟨_, rfl, ?_⟩
    have n0_ := Aside0.mk (blk_below (g := gb304) (o := .cells #[.int .i64 t301, .int .i64 t302, .int .i64 t303] 23 (0, 0)) (bK BK304) hb)
    have n1_ := Aside0.mk (blk_below (g := gb308) (o := .cells #[.int .i64 t305, .int .i64 t306, .int .i64 t307] 23 (0, 0)) (bK BK308) hb)
    have n2_ := Aside0.mk (below_step (bH HB) hb)
    clear BK304
    clear BK308
    clear HB
    have BK304 := n0_
    have BK308 := n1_
    have HB := n2_
    clear n0_ n1_ n2_
    (try clear hb)
    (try clear hb2)
    (try clear hk)
    (try clear hi)
    refine hK.out _ _ ⟨(blk_cell BK304.out 0).trans rfl, (blk_cell BK304.out 1).trans rfl, (blk_cell BK304.out 2).trans rfl, (blk_cell BK308.out 0).trans rfl, (blk_cell BK308.out 1).trans rfl, (blk_cell BK308.out 2).trans rfl⟩ (fun hHeld => ?_)
    clear hK K
    refine norm_ (a' := ?_) ?_ ?_
    rotate_left
    ·show Act.put _ (some 24) _ = _
     simp only [Act.put, List.setIfInBounds_toArray, List.set_cons_zero, List.set_cons_succ, i64_w, i32_w]
     rfl
    refine pure_ (i := 20) (N := some 25) (v := ?_) (a' := ?_) #[true, true, true, true, true, true, true, true, true, true, true, true, true, true, true, true, true, true, true, true, true, false, false, false, false, false, false, false, false, false, false, false] rfl rfl (any_of HT_.out (by kernel_rfl)) (fun _ _ _ h => h) (Or.inl ⟨by rfl, ?_⟩) ?_ ?_
    rotate_left
    ·intro w'
     go_simp
     with_reducible rfl
    rotate_left
    ·simp only [Act.put, List.setIfInBounds_toArray, List.set_cons_zero, List.set_cons_succ, i64_w, i32_w]
     rfl
    refine pure_ (i := 21) (N := some 26) (v := ?_) (a' := ?_) #[true, true, true, true, true, true, true, true, true, true, true, true, true, true, true, true, true, true, true, true, true, true, false, false, false, false, false, false, false, false, false, false] rfl rfl (any_of HT_.out (by kernel_rfl)) (fun _ _ _ h => h) (Or.inl ⟨by rfl, ?_⟩) ?_ ?_
    rotate_left
    ·intro w'
     go_simp
     with_reducible rfl
    rotate_left
    ·simp only [Act.put, List.setIfInBounds_toArray, List.set_cons_zero, List.set_cons_succ, i64_w, i32_w]
     rfl
    refine pure_ (i := 22) (N := some 27) (v := ?_) (a' := ?_) #[true, true, true, true, true, true, true, true, true, true, true, true, true, true, true, true, true, true, true, true, true, true, true, false, false, false, false, false, false, false, false, false] rfl rfl (any_of HT_.out (by kernel_rfl)) (fun _ _ _ h => h) (Or.inl ⟨by rfl, ?_⟩) ?_ ?_
    rotate_left
    ·intro w'
     go_simp
     with_reducible rfl
    rotate_left
    ·simp only [Act.put, List.setIfInBounds_toArray, List.set_cons_zero, List.set_cons_succ, i64_w, i32_w]
     rfl
    refine take_ (i := 23) (N := some 28) (v := ?_) (a' := ?_) #[true, true, true, true, true, true, true, true, true, true, true, true, true, true, true, true, true, true, true, true, true, true, true, true, false, false, false, false, false, false, false, false] rfl rfl (take_ofW HT_.out HW_.out (by kernel_rfl)) (fun _ _ _ h => h) (Or.inl ⟨by rfl, ?_⟩) hHeld ?_ ?_
    rotate_left
    ·rintro w' ⟨s0, s1, s2, s3, s4, s5⟩
     go_simp
     with_reducible rfl
    rotate_left
    ·simp only [Act.put, List.setIfInBounds_toArray, List.set_cons_zero, List.set_cons_succ, i64_w, i32_w]
     rfl
    refine one_ (i := 24) (N := some 29) #[true, true, true, true, true, true, true, true, true, true, true, true, true, true, true, true, true, true, true, true, true, true, true, true, true, false, false, false, false, false, false, false] rfl rfl (one_of HT_.out (by kernel_rfl)) (by decide) (fun K hK => ?_)
    refine goes_ Try.func29 (by kernel_rfl) rfl #[.int .i64 1, .int .i64 0] (by rfl) rfl rfl (by (try simp only [List.map_toArray, List.map_cons, List.map_nil]); first | done | rfl | (simp only [List.length_drop, List.length_take]; rfl)) ?_
    with_reducible refine (lapidarylaw09_at.calls 1 0 t327 t328 t329 _ A14.out).mono ?_
    rintro e w35 ⟨rfl, hb⟩
    refine ⟨_, rfl, ?_⟩
    have n0_ := Aside0.mk (blk_below (g := gb304) (o := .cells #[.int .i64 t301, .int .i64 t302, .int .i64 t303] 23 (0, 0)) (bK BK304) hb)
    have n1_ := Aside0.mk (blk_below (g := gb308) (o := .cells #[.int .i64 t305, .int .i64 t306, .int .i64 t307] 23 (0, 0)) (bK BK308) hb)
    have n2_ := Aside0.mk (below_step (bH HB) hb)
    clear BK304
    clear BK308
    clear HB
    have BK304 := n0_
    have BK308 := n1_
    have HB := n2_
    clear n0_ n1_ n2_
    (try clear hb)
    (try clear hb2)
    (try clear hk)
    (try clear hi)
    refine hK.out _ _ ⟨(blk_cell BK304.out 0).trans rfl, (blk_cell BK304.out 1).trans rfl, (blk_cell BK304.out 2).trans rfl, (blk_cell BK308.out 0).trans rfl, (blk_cell BK308.out 1).trans rfl, (blk_cell BK308.out 2).trans rfl⟩ (fun hHeld => ?_)
    clear hK K
    refine norm_ (a' := ?_) ?_ ?_
    rotate_left
    ·show Act.put _ (some 29) _ = _
     simp only [Act.put, List.setIfInBounds_toArray, List.set_cons_zero, List.set_cons_succ, i64_w, i32_w]
     rfl
    refine one_ (i := 25) (N := some 30) #[true, true, true, true, true, true, true, true, true, true, true, true, true, true, true, true, true, true, true, true, true, true, true, true, true, true, false, false, false, false, false, false] rfl rfl (one_of HT_.out (by kernel_rfl)) (by decide) (fun K hK => ?_)
    refine goes_ Try.func29 (by kernel_rfl) rfl #[.int .i64 0, .int .i64 1] (by rfl) rfl rfl (by (try simp only [List.map_toArray, List.map_cons, List.map_nil]); first | done | rfl | (simp only [List.length_drop, List.length_take]; rfl)) ?_
    with_reducible refine (lapidarylaw09_at.calls 0 1 t330 t331 t332 _ A15.out).mono ?_
    rintro e w36 ⟨rfl, hb⟩
    refine ⟨_, rfl, ?_⟩
    have n0_ := Aside0.mk (blk_below (g := gb304) (o := .cells #[.int .i64 t301, .int .i64 t302, .int .i64 t303] 23 (0, 0)) (bK BK304) hb)
    have n1_ := Aside0.mk (blk_below (g := gb308) (o := .cells #[.int .i64 t305, .int .i64 t306, .int .i64 t307] 23 (0, 0)) (bK BK308) hb)
    have n2_ := Aside0.mk (below_step (bH HB) hb)
    clear BK304
    clear BK308
    clear HB
    have BK304 := n0_
    have BK308 := n1_
    have HB := n2_
    clear n0_ n1_ n2_
    (try clear hb)
    (try clear hb2)
    (try clear hk)
    (try clear hi)
    refine hK.out _ _ ⟨(blk_cell BK304.out 0).trans rfl, (blk_cell BK304.out 1).trans rfl, (blk_cell BK304.out 2).trans rfl, (blk_cell BK308.out 0).trans rfl, (blk_cell BK308.out 1).trans rfl, (blk_cell BK308.out 2).trans rfl⟩ (fun hHeld => ?_)
    clear hK K
    refine norm_ (a' := ?_) ?_ ?_
    rotate_left
    ·show Act.put _ (some 30) _ = _
     simp only [Act.put, List.setIfInBounds_toArray, List.set_cons_zero, List.set_cons_succ, i64_w, i32_w]
     rfl
    refine one_ (i := 26) (N := some 31) #[true, true, true, true, true, true, true, true, true, true, true, true, true, true, true, true, true, true, true, true, true, true, true, true, true, true, true, false, false, false, false, false] rfl rfl (one_of HT_.out (by kernel_rfl)) (by decide) (fun K hK => ?_)
    refine Kd.R_lit_step k23 _ 23 ?hg (N := 31) ?hd (xs := ([(⟨t301, t302, t303⟩ : S23), (⟨t327, t328, t329⟩ : S23), (⟨t330, t331, t332⟩ : S23)] : List (S23))) (inner := [.int .i64 t301, .int .i64 t302, .int .i64 t303, .int .i64 t327, .int .i64 t328, .int .i64 t329, .int .i64 t330, .int .i64 t331, .int .i64 t332]) (ok := fun _ => True) (okp := fun _ => True) ?hr ?hp (fun _ hk => hk) trivial (Below.refl _ _) (Nat.le_refl _) (by simp) ?_; (case hd => rfl); (case hg => rfl); (case hr => first | (go_simp; done) | (go_simp; rfl)); (case hp => exact (Reps.c3 (show Kd.M k23 _ _ _ (⟨t301, t302, t303⟩ : S23) [.int .i64 t301, .int .i64 t302, .int .i64 t303] from (k23_mkM _ _ _ (⟨t301, t302, t303⟩ : S23) )) (Reps.c3 (show Kd.M k23 _ _ _ (⟨t327, t328, t329⟩ : S23) [.int .i64 t327, .int .i64 t328, .int .i64 t329] from (k23_mkM _ _ _ (⟨t327, t328, t329⟩ : S23) )) (Reps.c3 (show Kd.M k23 _ _ _ (⟨t330, t331, t332⟩ : S23) [.int .i64 t330, .int .i64 t331, .int .i64 t332] from (k23_mkM _ _ _ (⟨t330, t331, t332⟩ : S23) )) (Reps.none _ _)))))
    intro v334 w37 ho38 hb hg_ hnew_
    clear hg_ hnew_
    (first | rw [← Ny333.out] at ho38 | (simp only [Int.reduceToNat] at ho38; rw [← Ny333.out] at ho38))
    have n0_ := Aside0.mk (Kd.R_lower (Kd.R_newB (Kd.R_newB ho38 (g := gb304) (o := .cells #[.int .i64 t301, .int .i64 t302, .int .i64 t303] 23 (0, 0)) (bK BK304)) (g := gb308) (o := .cells #[.int .i64 t305, .int .i64 t306, .int .i64 t307] 23 (0, 0)) (bK BK308)) (below_size (bH HB)))
    have n1_ := Aside0.mk (blk_below (g := gb304) (o := .cells #[.int .i64 t301, .int .i64 t302, .int .i64 t303] 23 (0, 0)) (bK BK304) hb)
    have n2_ := Aside0.mk (blk_below (g := gb308) (o := .cells #[.int .i64 t305, .int .i64 t306, .int .i64 t307] 23 (0, 0)) (bK BK308) hb)
    have n3_ := Aside0.mk (below_step (bH HB) hb)
    clear BK304
    clear BK308
    clear HB
    have HO335 := n0_
    have BK304 := n1_
    have BK308 := n2_
    have HB := n3_
    clear n0_ n1_ n2_ n3_
    clear hb ho38
    obtain ⟨Ao39, co39, eo39⟩ := Kd.R_slice HO335.out
    (first | subst eo39 | (injection eo39 with f1_ f2_ f3_; have f4_ := f1_.symm; have f5_ := f3_.symm; clear f1_ f2_ f3_; subst f4_; subst f5_))
    refine hK.out _ _ ⟨(blk_cell BK304.out 0).trans rfl, (blk_cell BK304.out 1).trans rfl, (blk_cell BK304.out 2).trans rfl, (blk_cell BK308.out 0).trans rfl, (blk_cell BK308.out 1).trans rfl, (blk_cell BK308.out 2).trans rfl⟩ (fun hHeld => ?_)
    clear hK K
    refine norm_ (a' := ?_) ?_ ?_
    rotate_left
    ·show Act.put _ (some 31) _ = _
     simp only [Act.put, List.setIfInBounds_toArray, List.set_cons_zero, List.set_cons_succ, i64_w, i32_w]
     rfl
    refine one_ (i := 27) (N := some 32) #[true, true, true, true, true, true, true, true, true, true, true, true, true, true, true, true, true, true, true, true, true, true, true, true, true, true, true, true, false, false, false, false] rfl rfl (one_of HT_.out (by kernel_rfl)) (by decide) (fun K hK => ?_)
    refine goes_ Try.func16 (by kernel_rfl) rfl #[.slice Ao39 y333.length co39] (by rfl) rfl rfl (by (try simp only [List.map_toArray, List.map_cons, List.map_nil]); first | done | rfl | (simp only [List.length_drop, List.length_take]; rfl)) ?_
    with_reducible refine (geom_Area.calls k _ _ y333 t336 t337 _ ?side1 ?side2 A16.out).mono ?_
    (case side1 => repeat (first | exact (Kd.R_reads' HO335.out).2.2 | (with_reducible refine Kd.C_alloc ?_ _) | (with_reducible refine Kd.C_drewN ?_ _) | (with_reducible refine Kd.C_drew ?_)))
    (case side2 => exact (Kd.R_reads' HO335.out).2.1)
    rintro e w40 ⟨rfl, hb⟩
    refine ⟨_, rfl, ?_⟩
    have n0_ := Aside0.mk (Kd.R_below (rK HO335) hb)
    have n1_ := Aside0.mk (blk_below (g := gb304) (o := .cells #[.int .i64 t301, .int .i64 t302, .int .i64 t303] 23 (0, 0)) (bK BK304) hb)
    have n2_ := Aside0.mk (blk_below (g := gb308) (o := .cells #[.int .i64 t305, .int .i64 t306, .int .i64 t307] 23 (0, 0)) (bK BK308) hb)
    have n3_ := Aside0.mk (below_step (bH HB) hb)
    clear HO335
    clear BK304
    clear BK308
    clear HB
    have HO335 := n0_
    have BK304 := n1_
    have BK308 := n2_
    have HB := n3_
    clear n0_ n1_ n2_ n3_
    (try clear hb)
    (try clear hb2)
    (try clear hk)
    (try clear hi)
    refine hK.out _ _ ⟨(blk_cell BK304.out 0).trans rfl, (blk_cell BK304.out 1).trans rfl, (blk_cell BK304.out 2).trans rfl, (blk_cell BK308.out 0).trans rfl, (blk_cell BK308.out 1).trans rfl, (blk_cell BK308.out 2).trans rfl⟩ (fun hHeld => ?_)
    clear hK K
    refine norm_ (a' := ?_) ?_ ?_
    rotate_left
    ·show Act.put _ (some 32) _ = _
     simp only [Act.put, List.setIfInBounds_toArray, List.set_cons_zero, List.set_cons_succ, i64_w, i32_w]
     rfl
    refine one_ (i := 28) (N := some 33) #[true, true, true, true, true, true, true, true, true, true, true, true, true, true, true, true, true, true, true, true, true, true, true, true, true, true, true, true, true, false, false, false] rfl rfl (one_of HT_.out (by kernel_rfl)) (by decide) (fun K hK => ?_)
    refine goes_ Try.func30 (by kernel_rfl) rfl #[.int .i64 1] (by rfl) rfl rfl (by (try simp only [List.map_toArray, List.map_cons, List.map_nil]); first | done | rfl | (simp only [List.length_drop, List.length_take]; rfl)) ?_
    with_reducible refine (wide_Of.calls 1 t338 t339 _ A17.out).mono ?_
    rintro e w41 ⟨rfl, hb⟩
    refine ⟨_, rfl, ?_⟩
    have n0_ := Aside0.mk (Kd.R_below (rK HO335) hb)
    have n1_ := Aside0.mk (blk_below (g := gb304) (o := .cells #[.int .i64 t301, .int .i64 t302, .int .i64 t303] 23 (0, 0)) (bK BK304) hb)
    have n2_ := Aside0.mk (blk_below (g := gb308) (o := .cells #[.int .i64 t305, .int .i64 t306, .int .i64 t307] 23 (0, 0)) (bK BK308) hb)
    have n3_ := Aside0.mk (below_step (bH HB) hb)
    clear HO335
    clear BK304
    clear BK308
    clear HB
    have HO335 := n0_
    have BK304 := n1_
    have BK308 := n2_
    have HB := n3_
    clear n0_ n1_ n2_ n3_
    (try clear hb)
    (try clear hb2)
    (try clear hk)
    (try clear hi)
    refine hK.out _ _ ⟨(blk_cell BK304.out 0).trans rfl, (blk_cell BK304.out 1).trans rfl, (blk_cell BK304.out 2).trans rfl, (blk_cell BK308.out 0).trans rfl, (blk_cell BK308.out 1).trans rfl, (blk_cell BK308.out 2).trans rfl⟩ (fun hHeld => ?_)
    clear hK K
    refine norm_ (a' := ?_) ?_ ?_
    rotate_left
    ·show Act.put _ (some 33) _ = _
     simp only [Act.put, List.setIfInBounds_toArray, List.set_cons_zero, List.set_cons_succ, i64_w, i32_w]
     rfl
    refine pure_ (i := 29) (N := some 34) (v := ?_) (a' := ?_) #[true, true, true, true, true, true, true, true, true, true, true, true, true, true, true, true, true, true, true, true, true, true, true, true, true, true, true, true, true, true, false, false] rfl rfl (any_of HT_.out (by kernel_rfl)) (fun _ _ _ h => h) (Or.inl ⟨by rfl, ?_⟩) ?_ ?_
    rotate_left
    ·intro w'
     go_simp
     with_reducible rfl
    rotate_left
    ·simp only [Act.put, List.setIfInBounds_toArray, List.set_cons_zero, List.set_cons_succ, i64_w, i32_w]
     rfl
    refine pure_ (i := 30) (N := some 35) (v := ?_) (a' := ?_) #[true, true, true, true, true, true, true, true, true, true, true, true, true, true, true, true, true, true, true, true, true, true, true, true, true, true, true, true, true, true, true, false] rfl rfl (any_of HT_.out (by kernel_rfl)) (fun _ _ _ h => h) (Or.inl ⟨by rfl, ?_⟩) ?_ ?_
    rotate_left
    ·intro w'
     go_simp
     with_reducible rfl
    rotate_left
    ·simp only [Act.put, List.setIfInBounds_toArray, List.set_cons_zero, List.set_cons_succ, i64_w, i32_w]
     rfl
    refine pure_ (i := 31) (N := some 0) (v := ?_) (a' := ?_) #[true, true, true, true, true, true, true, true, true, true, true, true, true, true, true, true, true, true, true, true, true, true, true, true, true, true, true, true, true, true, true, true] rfl rfl (any_of HT_.out (by kernel_rfl)) (fun _ _ _ h => h) (Or.inl ⟨by rfl, ?_⟩) ?_ ?_
    rotate_left
    ·intro w'
     go_simp
     with_reducible rfl
    rotate_left
    ·simp only [Act.put, List.setIfInBounds_toArray, List.set_cons_zero, List.set_cons_succ, i64_w, i32_w]
     rfl
    refine done_ (done_of HT_.out (by kernel_rfl)) ?_
    try go_wp2
    go_ret
    exact ⟨by first | rfl | (simp [errW_none, errW_some] <;> rfl) | (simp [*, errW_none, errW_some] <;> rfl), bH HB⟩
   ·rw [if_neg c13] at H
    exact absurd H (by simp)
  ·rw [if_neg c9] at H
   exact absurd H (by simp)
 ·rw [if_neg c6] at H
  exact absurd H (by simp)

end Go.Proofs.Ytlnjbpapbifjfaa.P
