/- Written for this claim by a program of this session (a turned copy of the print): Go functions as Lean functions, and that the Go code comes to just these answers; or a statement proved out of them. No condition. -/
import Derived.Test.YtlnjbpapbifjfaaPx0
import Derived.Test.YtlnjbpapbifjfaaPx2
import Derived.Test.YtlnjbpapbifjfaaPx27
import Derived.Test.YtlnjbpapbifjfaaPx3
import Derived.Test.YtlnjbpapbifjfaaPx30
import Derived.Test.YtlnjbpapbifjfaaPx38
import Derived.Test.YtlnjbpapbifjfaaPx40
import Derived.Test.YtlnjbpapbifjfaaPx5
import Derived.Test.YtlnjbpapbifjfaaXShort
namespace Go.Proofs.Ytlnjbpapbifjfaa.P
open Go.RowKit Go.Proofs.YtlnjbpapbifjfaaW.PrintWords Go.Proofs.YtlnjbpapbifjfaaW.PrintLast Go.Proofs.YtlnjbpapbifjfaaW.PrintMore Go.Proofs.Ytlnjbpapbifjfaa.X
attribute [local go_sem] max2_int min2_int max_two min_two max_three min_three max_four min_four add64_0 add64_1 add64   -- for this text's walks alone
set_option linter.unusedVariables false
set_option linter.unusedSimpArgs false

attribute [local go_sem high] eqA31
/-! ### lapidarylaw09_GeomLaws: function 7 -/
mutual
def lapidarylaw09_GeomLaws.j0 : Nat → Int → Int → Int → Bool → Int → Int → Int → Int → Int → Int → Int → Int → Int → Int → Int → Option (Bool)
 | 0, _, _, _, _, _, _, _, _, _, _, _, _, _, _, _ => none
 | k + 1, x3, x4, x11, x55, x267000, x267001, x267002, x268000, x268001, x268002, x269000, x269001, x269002, x276000, x276001 => if x55 = true then (none) else ((geom_Right.f k (([(⟨x267000, x267001, x267002⟩ : S23), (⟨x268000, x268001, x268002⟩ : S23), (⟨x269000, x269001, x269002⟩ : S23)] : List (S23)))).bind fun t292 => (if t292 = true then ((geom_Right.f k (([(⟨wrap64 (x267000 + (wrap64 (x3))), wrap64 (x267001 + (wrap64 (x4))), x267002⟩ : S23), (⟨wrap64 (x268000 + (wrap64 (x3))), wrap64 (x268001 + (wrap64 (x4))), x268002⟩ : S23), (⟨wrap64 (x269000 + (wrap64 (x3))), wrap64 (x269001 + (wrap64 (x4))), x269002⟩ : S23)] : List (S23)))).bind fun t296 => (lapidarylaw09_GeomLaws.j1 k x11 (!t296) x276000 x276001 (wrap64 (x267000 + (wrap64 (x3)))) (wrap64 (x267001 + (wrap64 (x4)))) x267002 (wrap64 (x268000 + (wrap64 (x3)))) (wrap64 (x268001 + (wrap64 (x4)))) x268002 (wrap64 (x269000 + (wrap64 (x3)))) (wrap64 (x269001 + (wrap64 (x4)))) x269002)) else (lapidarylaw09_GeomLaws.j1 k x11 true x276000 x276001 (wrap64 (x267000 + (wrap64 (x3)))) (wrap64 (x267001 + (wrap64 (x4)))) x267002 (wrap64 (x268000 + (wrap64 (x3)))) (wrap64 (x268001 + (wrap64 (x4)))) x268002 (wrap64 (x269000 + (wrap64 (x3)))) (wrap64 (x269001 + (wrap64 (x4)))) x269002)))
def lapidarylaw09_GeomLaws.j1 : Nat → Int → Bool → Int → Int → Int → Int → Int → Int → Int → Int → Int → Int → Int → Option (Bool)
 | 0, _, _, _, _, _, _, _, _, _, _, _, _, _ => none
 | k + 1, x11, x108, x276000, x276001, x287000, x287001, x287002, x288000, x288001, x288002, x289000, x289001, x289002 => if x108 = true then ((lapidarylaw09_known.f k).bind fun t297 => (some t297)) else ((geom_Turn.f k x287000 x287001 x287002 x288000 x288001 x288002 x289000 x289001 x289002).bind fun t298 => (if t298 = x11 then ((geom_Area.f k (([(⟨x287000, x287001, x287002⟩ : S23), (⟨x288000, x288001, x288002⟩ : S23), (⟨x289000, x289001, x289002⟩ : S23)] : List (S23)))).bind fun bt302 => (if (bt302.1 == x276000 && (bt302.2 == x276001)) = true then ((lapidarylaw09_known.f k).bind fun t304 => (some t304)) else (none))) else (none)))
end
def lapidarylaw09_GeomLaws.f (k : Nat) (a0_0 : Int) (a0_1 : Int) (a0_2 : Int) (a1_0 : Int) (a1_1 : Int) (a1_2 : Int) (a2_0 : Int) (a2_1 : Int) (a2_2 : Int) (a3 : Int) (a4 : Int) : Option (Bool) := (geom_Turn.f k a0_0 a0_1 a0_2 a1_0 a1_1 a1_2 a2_0 a2_1 a2_2).bind fun t269 => ((geom_Area.f k (([(⟨a0_0, a0_1, a0_2⟩ : S23), (⟨a1_0, a1_1, a1_2⟩ : S23), (⟨a2_0, a2_1, a2_2⟩ : S23)] : List (S23)))).bind fun bt273 => ((geom_Turn.f k a1_0 a1_1 a1_2 a2_0 a2_1 a2_2 a0_0 a0_1 a0_2).bind fun t276 => (if t269 = t276 then ((geom_Turn.f k a1_0 a1_1 a1_2 a0_0 a0_1 a0_2 a2_0 a2_1 a2_2).bind fun t277 => (if t269 = (wrap64 (-t277)) then ((wide_Sign.f bt273.1 bt273.2).bind fun t278 => (if t278 = t269 then ((geom_Area.f k (([(⟨a2_0, a2_1, a2_2⟩ : S23), (⟨a1_0, a1_1, a1_2⟩ : S23), (⟨a0_0, a0_1, a0_2⟩ : S23)] : List (S23)))).bind fun bt282 => ((wide_Neg.f k bt273.1 bt273.2).bind fun bt284 => (lapidarylaw09_GeomLaws.j0 k a3 a4 t269 (!(bt282.1 == bt284.1) || (!(bt282.2 == bt284.2))) a0_0 a0_1 a0_2 a1_0 a1_1 a1_2 a2_0 a2_1 a2_2 bt273.1 bt273.2))) else (lapidarylaw09_GeomLaws.j0 k a3 a4 t269 true a0_0 a0_1 a0_2 a1_0 a1_1 a1_2 a2_0 a2_1 a2_2 bt273.1 bt273.2))) else (lapidarylaw09_GeomLaws.j0 k a3 a4 t269 true a0_0 a0_1 a0_2 a1_0 a1_1 a1_2 a2_0 a2_1 a2_2 bt273.1 bt273.2))) else (lapidarylaw09_GeomLaws.j0 k a3 a4 t269 true a0_0 a0_1 a0_2 a1_0 a1_1 a1_2 a2_0 a2_1 a2_2 bt273.1 bt273.2))))
theorem lapidarylaw09_GeomLaws.mono_l : ∀ k, (∀ y0 y1 y2 y3 y4 y5 y6 y7 y8 y9 y10 y11 y12 y13 y14, LeO (lapidarylaw09_GeomLaws.j0 k y0 y1 y2 y3 y4 y5 y6 y7 y8 y9 y10 y11 y12 y13 y14) (lapidarylaw09_GeomLaws.j0 (k + 1) y0 y1 y2 y3 y4 y5 y6 y7 y8 y9 y10 y11 y12 y13 y14)) ∧ (∀ y0 y1 y2 y3 y4 y5 y6 y7 y8 y9 y10 y11 y12, LeO (lapidarylaw09_GeomLaws.j1 k y0 y1 y2 y3 y4 y5 y6 y7 y8 y9 y10 y11 y12) (lapidarylaw09_GeomLaws.j1 (k + 1) y0 y1 y2 y3 y4 y5 y6 y7 y8 y9 y10 y11 y12))
 | 0 => ⟨fun _ _ _ _ _ _ _ _ _ _ _ _ _ _ _ r h => by simp [lapidarylaw09_GeomLaws.j0] at h, fun _ _ _ _ _ _ _ _ _ _ _ _ _ r h => by simp [lapidarylaw09_GeomLaws.j1] at h⟩
 | k + 1 => by
  obtain ⟨ih0, ih1⟩ := lapidarylaw09_GeomLaws.mono_l k
  refine ⟨?_, ?_⟩
  ·intro y0 y1 y2 y3 y4 y5 y6 y7 y8 y9 y10 y11 y12 y13 y14
   unfold lapidarylaw09_GeomLaws.j0
   repeat' first
   | (with_reducible exact ih0 _ _ _ _ _ _ _ _ _ _ _ _ _ _ _)
   | (with_reducible exact ih1 _ _ _ _ _ _ _ _ _ _ _ _ _)
   | (with_reducible exact geom_Area.mono _ _)
   | (with_reducible exact geom_Right.mono _ _)
   | (with_reducible exact geom_Turn.mono _ _ _ _ _ _ _ _ _ _)
   | (with_reducible exact lapidarylaw09_known.mono _)
   | (with_reducible exact wide_Neg.mono _ _ _)
   | (with_reducible exact LeO.refl _)
   | (with_reducible exact LeO.none _)
   | (with_reducible refine LeO.ite ?_ ?_)
   | (with_reducible refine LeO.bind ?_ (fun _ => ?_))
   | exact ih0 _ _ _ _ _ _ _ _ _ _ _ _ _ _ _
   | exact ih1 _ _ _ _ _ _ _ _ _ _ _ _ _
   | exact geom_Area.mono _ _
   | exact geom_Right.mono _ _
   | exact geom_Turn.mono _ _ _ _ _ _ _ _ _ _
   | exact lapidarylaw09_known.mono _
   | exact wide_Neg.mono _ _ _
   | exact LeO.none _
   | refine LeO.ite ?_ ?_
   | refine LeO.bind ?_ (fun _ => ?_)
  ·intro y0 y1 y2 y3 y4 y5 y6 y7 y8 y9 y10 y11 y12
   unfold lapidarylaw09_GeomLaws.j1
   repeat' first
   | (with_reducible exact ih0 _ _ _ _ _ _ _ _ _ _ _ _ _ _ _)
   | (with_reducible exact ih1 _ _ _ _ _ _ _ _ _ _ _ _ _)
   | (with_reducible exact geom_Area.mono _ _)
   | (with_reducible exact geom_Right.mono _ _)
   | (with_reducible exact geom_Turn.mono _ _ _ _ _ _ _ _ _ _)
   | (with_reducible exact lapidarylaw09_known.mono _)
   | (with_reducible exact wide_Neg.mono _ _ _)
   | (with_reducible exact LeO.refl _)
   | (with_reducible exact LeO.none _)
   | (with_reducible refine LeO.ite ?_ ?_)
   | (with_reducible refine LeO.bind ?_ (fun _ => ?_))
   | exact ih0 _ _ _ _ _ _ _ _ _ _ _ _ _ _ _
   | exact ih1 _ _ _ _ _ _ _ _ _ _ _ _ _
   | exact geom_Area.mono _ _
   | exact geom_Right.mono _ _
   | exact geom_Turn.mono _ _ _ _ _ _ _ _ _ _
   | exact lapidarylaw09_known.mono _
   | exact wide_Neg.mono _ _ _
   | exact LeO.none _
   | refine LeO.ite ?_ ?_
   | refine LeO.bind ?_ (fun _ => ?_)
theorem lapidarylaw09_GeomLaws.mono : ∀ a0 a1 a2 a3 a4 a5 a6 a7 a8 a9 a10 k, LeO (lapidarylaw09_GeomLaws.f k a0 a1 a2 a3 a4 a5 a6 a7 a8 a9 a10) (lapidarylaw09_GeomLaws.f (k + 1) a0 a1 a2 a3 a4 a5 a6 a7 a8 a9 a10) := by
 intro a0 a1 a2 a3 a4 a5 a6 a7 a8 a9 a10 k
 obtain ⟨ih0, ih1⟩ := lapidarylaw09_GeomLaws.mono_l k
 unfold lapidarylaw09_GeomLaws.f
 repeat' first
   | (with_reducible exact ih0 _ _ _ _ _ _ _ _ _ _ _ _ _ _ _)
   | (with_reducible exact ih1 _ _ _ _ _ _ _ _ _ _ _ _ _)
   | (with_reducible exact geom_Area.mono _ _)
   | (with_reducible exact geom_Right.mono _ _)
   | (with_reducible exact geom_Turn.mono _ _ _ _ _ _ _ _ _ _)
   | (with_reducible exact lapidarylaw09_known.mono _)
   | (with_reducible exact wide_Neg.mono _ _ _)
   | (with_reducible exact LeO.refl _)
   | (with_reducible exact LeO.none _)
   | (with_reducible refine LeO.ite ?_ ?_)
   | (with_reducible refine LeO.bind ?_ (fun _ => ?_))
   | exact ih0 _ _ _ _ _ _ _ _ _ _ _ _ _ _ _
   | exact ih1 _ _ _ _ _ _ _ _ _ _ _ _ _
   | exact geom_Area.mono _ _
   | exact geom_Right.mono _ _
   | exact geom_Turn.mono _ _ _ _ _ _ _ _ _ _
   | exact lapidarylaw09_known.mono _
   | exact wide_Neg.mono _ _ _
   | exact LeO.none _
   | refine LeO.ite ?_ ?_
   | refine LeO.bind ?_ (fun _ => ?_)
def lapidarylaw09_GeomLaws.T3 : Bool × List (List Nat × List Nat) := (true, [([], []), ([], []), ([], []), ([], []), ([1, 2, 3], [1, 2, 3]), ([0, 4], [0, 4]), ([5, 4], [5]), ([6], [6]), ([6], [6]), ([6], [6]), ([6], [6]), ([8, 9, 10, 6, 6], [6, 8, 9, 10]), ([11, 6], [6, 11]), ([7, 12, 6], [6, 7, 12]), ([6, 13], [6, 13]), ([14, 11], [14]), ([15], [15]), ([16, 15, 15], [15, 16]), ([15], [15]), ([17, 18, 15], [15, 17, 18]), ([15, 19], [15, 19]), ([20, 17], [20]), ([21], [21]), ([21], [21]), ([21], [21]), ([22, 23, 24, 21], [21, 22, 23, 24]), ([25, 21, 21], [21, 25]), ([21], [21]), ([27, 26, 21], [21, 27]), ([26, 28, 21], [21, 26, 28]), ([21, 29], [21, 29])])
def lapidarylaw09_GeomLaws.B3 : List Nat := [0, 0, 0, 0, 14, 31, 63, 127, 127, 127, 127, 1919, 3967, 8191, 16383, 32767, 65535, 131071, 65535, 524287, 1048575, 2097151, 4194303, 4194303, 4194303, 33554431, 67108863, 4194303, 268435455, 536870911, 1073741823]
theorem lapidarylaw09_GeomLaws.tab3 : rtab .any (opsOf Try.f7 3) = lapidarylaw09_GeomLaws.T3 := by kernel_rfl
theorem lapidarylaw09_GeomLaws.bits3 : waitsOk lapidarylaw09_GeomLaws.T3.2 lapidarylaw09_GeomLaws.B3 = true := by kernel_rfl
def lapidarylaw09_GeomLaws.T10 : Bool × List (List Nat × List Nat) := (true, [([], []), ([], []), ([], []), ([0, 1, 2], [0, 1, 2]), ([], []), ([3, 4], [3, 4]), ([5, 3], [5]), ([6], [6]), ([6], [6]), ([6], [6]), ([7, 8, 9, 6], [6, 7, 8, 9]), ([10, 6, 6], [6, 10]), ([6], [6]), ([11, 12, 6], [6, 11, 12]), ([6, 13], [6, 13]), ([14, 11], [14]), ([15, 15], [15]), ([15, 16], [15, 16]), ([17, 16, 0, 1, 2, 3, 4, 5, 6, 7, 8, 9, 10, 11, 12, 13, 14, 15, 16, 17], [17])])
def lapidarylaw09_GeomLaws.B10 : List Nat := [0, 0, 0, 7, 0, 31, 63, 127, 127, 127, 1023, 2047, 127, 8191, 16383, 32767, 65535, 131071, 262143]
theorem lapidarylaw09_GeomLaws.tab10 : rtab .any (opsOf Try.f7 10) = lapidarylaw09_GeomLaws.T10 := by kernel_rfl
theorem lapidarylaw09_GeomLaws.bits10 : waitsOk lapidarylaw09_GeomLaws.T10.2 lapidarylaw09_GeomLaws.B10 = true := by kernel_rfl
set_option maxHeartbeats 8000000 in
set_option maxRecDepth 100000 in
theorem lapidarylaw09_GeomLaws.calls (k : Nat) (a0_0 : Int) (a0_1 : Int) (a0_2 : Int) (a1_0 : Int) (a1_1 : Int) (a1_2 : Int) (a2_0 : Int) (a2_1 : Int) (a2_2 : Int) (a3 : Int) (a4 : Int) (r : Bool) (w : World) (h : lapidarylaw09_GeomLaws.f k a0_0 a0_1 a0_2 a1_0 a1_1 a1_2 a2_0 a2_1 a2_2 a3 a4 = some r) :
  Calls Try.prog 7 #[.agg #[.int .i64 a0_0, .int .i64 a0_1, .int .i64 a0_2], .agg #[.int .i64 a1_0, .int .i64 a1_1, .int .i64 a1_2], .agg #[.int .i64 a2_0, .int .i64 a2_1, .int .i64 a2_2], .int .i16 a3, .int .i16 a4] w fun e w' => e = .returned (.bool r) ∧ Below w.heap.size w w' := by
 have hu23 := Try.underlying23
 have hu31 := Try.underlying31
 have HB := AM (Below.refl w.heap.size w)
 have H : ((geom_Turn.f k a0_0 a0_1 a0_2 a1_0 a1_1 a1_2 a2_0 a2_1 a2_2).bind fun t269 => ((geom_Area.f k (([(⟨a0_0, a0_1, a0_2⟩ : S23), (⟨a1_0, a1_1, a1_2⟩ : S23), (⟨a2_0, a2_1, a2_2⟩ : S23)] : List (S23)))).bind fun bt273 => ((geom_Turn.f k a1_0 a1_1 a1_2 a2_0 a2_1 a2_2 a0_0 a0_1 a0_2).bind fun t276 => (if t269 = t276 then ((geom_Turn.f k a1_0 a1_1 a1_2 a0_0 a0_1 a0_2 a2_0 a2_1 a2_2).bind fun t277 => (if t269 = (wrap64 (-t277)) then ((wide_Sign.f bt273.1 bt273.2).bind fun t278 => (if t278 = t269 then ((geom_Area.f k (([(⟨a2_0, a2_1, a2_2⟩ : S23), (⟨a1_0, a1_1, a1_2⟩ : S23), (⟨a0_0, a0_1, a0_2⟩ : S23)] : List (S23)))).bind fun bt282 => ((wide_Neg.f k bt273.1 bt273.2).bind fun bt284 => (lapidarylaw09_GeomLaws.j0 k a3 a4 t269 (!(bt282.1 == bt284.1) || (!(bt282.2 == bt284.2))) a0_0 a0_1 a0_2 a1_0 a1_1 a1_2 a2_0 a2_1 a2_2 bt273.1 bt273.2))) else (lapidarylaw09_GeomLaws.j0 k a3 a4 t269 true a0_0 a0_1 a0_2 a1_0 a1_1 a1_2 a2_0 a2_1 a2_2 bt273.1 bt273.2))) else (lapidarylaw09_GeomLaws.j0 k a3 a4 t269 true a0_0 a0_1 a0_2 a1_0 a1_1 a1_2 a2_0 a2_1 a2_2 bt273.1 bt273.2))) else (lapidarylaw09_GeomLaws.j0 k a3 a4 t269 true a0_0 a0_1 a0_2 a1_0 a1_1 a1_2 a2_0 a2_1 a2_2 bt273.1 bt273.2))))) = some r := h
 clear h
 replace H := Option.bind_eq_some_iff.mp H
 obtain ⟨t269, A60, H⟩ := H
 replace H : ((geom_Area.f k (([(⟨a0_0, a0_1, a0_2⟩ : S23), (⟨a1_0, a1_1, a1_2⟩ : S23), (⟨a2_0, a2_1, a2_2⟩ : S23)] : List (S23)))).bind fun bt273 => ((geom_Turn.f k a1_0 a1_1 a1_2 a2_0 a2_1 a2_2 a0_0 a0_1 a0_2).bind fun t276 => (if t269 = t276 then ((geom_Turn.f k a1_0 a1_1 a1_2 a0_0 a0_1 a0_2 a2_0 a2_1 a2_2).bind fun t277 => (if t269 = (wrap64 (-t277)) then ((wide_Sign.f bt273.1 bt273.2).bind fun t278 => (if t278 = t269 then ((geom_Area.f k (([(⟨a2_0, a2_1, a2_2⟩ : S23), (⟨a1_0, a1_1, a1_2⟩ : S23), (⟨a0_0, a0_1, a0_2⟩ : S23)] : List (S23)))).bind fun bt282 => ((wide_Neg.f k bt273.1 bt273.2).bind fun bt284 => (lapidarylaw09_GeomLaws.j0 k a3 a4 t269 (!(bt282.1 == bt284.1) || (!(bt282.2 == bt284.2))) a0_0 a0_1 a0_2 a1_0 a1_1 a1_2 a2_0 a2_1 a2_2 bt273.1 bt273.2))) else (lapidarylaw09_GeomLaws.j0 k a3 a4 t269 true a0_0 a0_1 a0_2 a1_0 a1_1 a1_2 a2_0 a2_1 a2_2 bt273.1 bt273.2))) else (lapidarylaw09_GeomLaws.j0 k a3 a4 t269 true a0_0 a0_1 a0_2 a1_0 a1_1 a1_2 a2_0 a2_1 a2_2 bt273.1 bt273.2))) else (lapidarylaw09_GeomLaws.j0 k a3 a4 t269 true a0_0 a0_1 a0_2 a1_0 a1_1 a1_2 a2_0 a2_1 a2_2 bt273.1 bt273.2)))) = some r := H
 have A6 := AM A60
 clear A60
 obtain ⟨y270, hy270⟩ : ∃ y_ : List (S23), y_ = (([(⟨a0_0, a0_1, a0_2⟩ : S23), (⟨a1_0, a1_1, a1_2⟩ : S23), (⟨a2_0, a2_1, a2_2⟩ : S23)] : List (S23))) := ⟨_, rfl⟩
 replace H : ((geom_Area.f k y270).bind fun bt273 => ((geom_Turn.f k a1_0 a1_1 a1_2 a2_0 a2_1 a2_2 a0_0 a0_1 a0_2).bind fun t276 => (if t269 = t276 then ((geom_Turn.f k a1_0 a1_1 a1_2 a0_0 a0_1 a0_2 a2_0 a2_1 a2_2).bind fun t277 => (if t269 = (wrap64 (-t277)) then ((wide_Sign.f bt273.1 bt273.2).bind fun t278 => (if t278 = t269 then ((geom_Area.f k (([(⟨a2_0, a2_1, a2_2⟩ : S23), (⟨a1_0, a1_1, a1_2⟩ : S23), (⟨a0_0, a0_1, a0_2⟩ : S23)] : List (S23)))).bind fun bt282 => ((wide_Neg.f k bt273.1 bt273.2).bind fun bt284 => (lapidarylaw09_GeomLaws.j0 k a3 a4 t269 (!(bt282.1 == bt284.1) || (!(bt282.2 == bt284.2))) a0_0 a0_1 a0_2 a1_0 a1_1 a1_2 a2_0 a2_1 a2_2 bt273.1 bt273.2))) else (lapidarylaw09_GeomLaws.j0 k a3 a4 t269 true a0_0 a0_1 a0_2 a1_0 a1_1 a1_2 a2_0 a2_1 a2_2 bt273.1 bt273.2))) else (lapidarylaw09_GeomLaws.j0 k a3 a4 t269 true a0_0 a0_1 a0_2 a1_0 a1_1 a1_2 a2_0 a2_1 a2_2 bt273.1 bt273.2))) else (lapidarylaw09_GeomLaws.j0 k a3 a4 t269 true a0_0 a0_1 a0_2 a1_0 a1_1 a1_2 a2_0 a2_1 a2_2 bt273.1 bt273.2)))) = some r := by first | (rw [hy270]; with_reducible exact H) | (have H2_ := (Option.bind_some _ _).symm.trans H; rw [hy270]; with_reducible exact H2_) | (have H2_ := (Option.bind_some _ _).symm.trans H; with_reducible exact H2_) | with_reducible exact H | (rw [hy270]; exact H) | exact H
 have Ny270 := AM hy270
 clear hy270
 replace H := Option.bind_eq_some_iff.mp H
 obtain ⟨⟨t273, t274⟩, A70, H⟩ := H
 replace H : ((geom_Turn.f k a1_0 a1_1 a1_2 a2_0 a2_1 a2_2 a0_0 a0_1 a0_2).bind fun t276 => (if t269 = t276 then ((geom_Turn.f k a1_0 a1_1 a1_2 a0_0 a0_1 a0_2 a2_0 a2_1 a2_2).bind fun t277 => (if t269 = (wrap64 (-t277)) then ((wide_Sign.f t273 t274).bind fun t278 => (if t278 = t269 then ((geom_Area.f k (([(⟨a2_0, a2_1, a2_2⟩ : S23), (⟨a1_0, a1_1, a1_2⟩ : S23), (⟨a0_0, a0_1, a0_2⟩ : S23)] : List (S23)))).bind fun bt282 => ((wide_Neg.f k t273 t274).bind fun bt284 => (lapidarylaw09_GeomLaws.j0 k a3 a4 t269 (!(bt282.1 == bt284.1) || (!(bt282.2 == bt284.2))) a0_0 a0_1 a0_2 a1_0 a1_1 a1_2 a2_0 a2_1 a2_2 t273 t274))) else (lapidarylaw09_GeomLaws.j0 k a3 a4 t269 true a0_0 a0_1 a0_2 a1_0 a1_1 a1_2 a2_0 a2_1 a2_2 t273 t274))) else (lapidarylaw09_GeomLaws.j0 k a3 a4 t269 true a0_0 a0_1 a0_2 a1_0 a1_1 a1_2 a2_0 a2_1 a2_2 t273 t274))) else (lapidarylaw09_GeomLaws.j0 k a3 a4 t269 true a0_0 a0_1 a0_2 a1_0 a1_1 a1_2 a2_0 a2_1 a2_2 t273 t274))) = some r := H
 have A7 := AM A70
 clear A70
 have HC8 := AM H
 clear H
 go_enter Try.func7, Try.ntmps7
 go_upto_region 3 with (first | ((with_reducible refine gate_dst (N := 5) rfl ?_); (try (refine gate_guard (by rfl) ?_; dsimp only)); refine box_event ?hg (N := 5) ?hd (cs := #[.int .i64 a0_0, .int .i64 a0_1, .int .i64 a0_2]) (t := 23) ?hr ?_; (case hd => rfl); (case hg => rfl); (case hr => first | (go_simp; done) | (go_simp; rfl)); intro gb266 hg w9 hbox hb; have n0_ := AM (below_step (by repeat (first | (with_reducible first | exact HB.out | apply below_alloc | apply pw_below_drewN | apply below_drew1) | exact HB.out)) hb); have n1_ := AM (hbox); have n2_ := AM ((by rw [hg]; exact (below_size (by repeat (first | (with_reducible first | exact HB.out | apply below_alloc | apply pw_below_drewN | apply below_drew1) | exact HB.out))) : w.heap.size ≤ gb266)); have n3_ := AM ((by rw [hg]; exact (below_size (by repeat (first | (with_reducible first | exact HB.out | apply below_alloc | apply pw_below_drewN | apply below_drew1) | exact HB.out))) : w.heap.size ≤ gb266)); clear HB; have HB := n0_; have BK266 := n1_; have GW266 := n2_; have GE266 := n3_; clear n0_ n1_ n2_ n3_; clear hb hbox hg) | ((with_reducible refine gate_dst (N := 6) rfl ?_); (try (refine gate_guard (by rfl) ?_; dsimp only)); refine box_event ?hg (N := 6) ?hd (cs := #[.int .i64 a1_0, .int .i64 a1_1, .int .i64 a1_2]) (t := 23) ?hr ?_; (case hd => rfl); (case hg => rfl); (case hr => first | (go_simp; done) | (go_simp; rfl)); intro gb267 hg w10 hbox hb; have n0_ := AM (blk_below (g := gb266) (o := .cells #[.int .i64 a0_0, .int .i64 a0_1, .int .i64 a0_2] 23 (0, 0)) (by (with_reducible repeat (first | refine bN ?_ _ | refine bD ?_ | refine bA ?_ _)); exact BK266.out) hb); have n1_ := AM (below_step (by repeat (first | (with_reducible first | exact HB.out | apply below_alloc | apply pw_below_drewN | apply below_drew1 | refine below_set ?_ GE266.out) | exact HB.out)) hb); have n2_ := AM (hbox); have n3_ := AM ((by rw [hg]; exact (below_size (by repeat (first | (with_reducible first | exact HB.out | apply below_alloc | apply pw_below_drewN | apply below_drew1 | refine below_set ?_ GE266.out) | exact HB.out))) : w.heap.size ≤ gb267)); have n4_ := AM ((by rw [hg]; exact (below_size (by repeat (first | (with_reducible first | exact HB.out | apply below_alloc | apply pw_below_drewN | apply below_drew1 | refine below_set ?_ GE266.out) | exact HB.out))) : w.heap.size ≤ gb267)); have n5_ := AM ((by rw [hg]; exact Nat.ne_of_lt (blk_lt (g := gb266) (o := .cells #[.int .i64 a0_0, .int .i64 a0_1, .int .i64 a0_2] 23 (0, 0)) (by (with_reducible repeat (first | refine bN ?_ _ | refine bD ?_ | refine bA ?_ _)); exact BK266.out)) : gb266 ≠ gb267)); have n6_ := AM ((by rw [hg]; exact Nat.ne_of_gt (blk_lt (g := gb266) (o := .cells #[.int .i64 a0_0, .int .i64 a0_1, .int .i64 a0_2] 23 (0, 0)) (by (with_reducible repeat (first | refine bN ?_ _ | refine bD ?_ | refine bA ?_ _)); exact BK266.out)) : gb267 ≠ gb266)); clear BK266; clear HB; have BK266 := n0_; have HB := n1_; have BK267 := n2_; have GW267 := n3_; have GE267 := n4_; have NB266_267 := n5_; have NB267_266 := n6_; clear n0_ n1_ n2_ n3_ n4_ n5_ n6_; clear hb hbox hg) | ((with_reducible refine gate_dst (N := 7) rfl ?_); (try (refine gate_guard (by rfl) ?_; dsimp only)); refine box_event ?hg (N := 7) ?hd (cs := #[.int .i64 a2_0, .int .i64 a2_1, .int .i64 a2_2]) (t := 23) ?hr ?_; (case hd => rfl); (case hg => rfl); (case hr => first | (go_simp; done) | (go_simp; rfl)); intro gb268 hg w11 hbox hb; have n0_ := AM (blk_below (g := gb266) (o := .cells #[.int .i64 a0_0, .int .i64 a0_1, .int .i64 a0_2] 23 (0, 0)) (by (with_reducible repeat (first | refine bN ?_ _ | refine bD ?_ | refine bA ?_ _)); exact BK266.out) hb); have n1_ := AM (blk_below (g := gb267) (o := .cells #[.int .i64 a1_0, .int .i64 a1_1, .int .i64 a1_2] 23 (0, 0)) (by (with_reducible repeat (first | refine bN ?_ _ | refine bD ?_ | refine bA ?_ _)); exact BK267.out) hb); have n2_ := AM (below_step (by repeat (first | (with_reducible first | exact HB.out | apply below_alloc | apply pw_below_drewN | apply below_drew1 | refine below_set ?_ (Aside0.out (by assumption))) | exact HB.out)) hb); have n3_ := AM (hbox); have n4_ := AM ((by rw [hg]; exact (below_size (by repeat (first | (with_reducible first | exact HB.out | apply below_alloc | apply pw_below_drewN | apply below_drew1 | refine below_set ?_ (Aside0.out (by assumption))) | exact HB.out))) : w.heap.size ≤ gb268)); have n5_ := AM ((by rw [hg]; exact (below_size (by repeat (first | (with_reducible first | exact HB.out | apply below_alloc | apply pw_below_drewN | apply below_drew1 | refine below_set ?_ (Aside0.out (by assumption))) | exact HB.out))) : w.heap.size ≤ gb268)); have n6_ := AM ((by rw [hg]; exact Nat.ne_of_lt (blk_lt (g := gb266) (o := .cells #[.int .i64 a0_0, .int .i64 a0_1, .int .i64 a0_2] 23 (0, 0)) (by (with_reducible repeat (first | refine bN ?_ _ | refine bD ?_ | refine bA ?_ _)); exact BK266.out)) : gb266 ≠ gb268)); have n7_ := AM ((by rw [hg]; exact Nat.ne_of_gt (blk_lt (g := gb266) (o := .cells #[.int .i64 a0_0, .int .i64 a0_1, .int .i64 a0_2] 23 (0, 0)) (by (with_reducible repeat (first | refine bN ?_ _ | refine bD ?_ | refine bA ?_ _)); exact BK266.out)) : gb268 ≠ gb266)); have n8_ := AM ((by rw [hg]; exact Nat.ne_of_lt (blk_lt (g := gb267) (o := .cells #[.int .i64 a1_0, .int .i64 a1_1, .int .i64 a1_2] 23 (0, 0)) (by (with_reducible repeat (first | refine bN ?_ _ | refine bD ?_ | refine bA ?_ _)); exact BK267.out)) : gb267 ≠ gb268)); have n9_ := AM ((by rw [hg]; exact Nat.ne_of_gt (blk_lt (g := gb267) (o := .cells #[.int .i64 a1_0, .int .i64 a1_1, .int .i64 a1_2] 23 (0, 0)) (by (with_reducible repeat (first | refine bN ?_ _ | refine bD ?_ | refine bA ?_ _)); exact BK267.out)) : gb268 ≠ gb267)); clear BK266; clear BK267; clear HB; have BK266 := n0_; have BK267 := n1_; have HB := n2_; have BK268 := n3_; have GW268 := n4_; have GE268 := n5_; have NB266_268 := n6_; have NB268_266 := n7_; have NB267_268 := n8_; have NB268_267 := n9_; clear n0_ n1_ n2_ n3_ n4_ n5_ n6_ n7_ n8_ n9_; clear hb hbox hg; have hnb12 := NB266_267.out; have hnc12 := NB267_266.out; have hnb13 := NB266_268.out; have hnc13 := NB268_266.out; have hcz14_0 : w11.cell? ⟨gb266, 0, none⟩ = some (.int .i64 a0_0) := (blk_cell BK266.out 0).trans rfl; have hcz14_1 : w11.cell? ⟨gb266, 1, none⟩ = some (.int .i64 a0_1) := (blk_cell BK266.out 1).trans rfl; have hcz14_2 : w11.cell? ⟨gb266, 2, none⟩ = some (.int .i64 a0_2) := (blk_cell BK266.out 2).trans rfl; have hfz14_0 := blk_frozen BK266.out 0; have hfz14_1 := blk_frozen BK266.out 1; have hfz14_2 := blk_frozen BK266.out 2; have hnb15 := NB267_268.out; have hnc15 := NB268_267.out; have hcz16_0 : w11.cell? ⟨gb267, 0, none⟩ = some (.int .i64 a1_0) := (blk_cell BK267.out 0).trans rfl; have hcz16_1 : w11.cell? ⟨gb267, 1, none⟩ = some (.int .i64 a1_1) := (blk_cell BK267.out 1).trans rfl; have hcz16_2 : w11.cell? ⟨gb267, 2, none⟩ = some (.int .i64 a1_2) := (blk_cell BK267.out 2).trans rfl; have hfz16_0 := blk_frozen BK267.out 0; have hfz16_1 := blk_frozen BK267.out 1; have hfz16_2 := blk_frozen BK267.out 2; have hcz17_0 : w11.cell? ⟨gb268, 0, none⟩ = some (.int .i64 a2_0) := (blk_cell BK268.out 0).trans rfl; have hcz17_1 : w11.cell? ⟨gb268, 1, none⟩ = some (.int .i64 a2_1) := (blk_cell BK268.out 1).trans rfl; have hcz17_2 : w11.cell? ⟨gb268, 2, none⟩ = some (.int .i64 a2_2) := (blk_cell BK268.out 2).trans rfl; have hfz17_0 := blk_frozen BK268.out 0; have hfz17_1 := blk_frozen BK268.out 1; have hfz17_2 := blk_frozen BK268.out 2) | ((with_reducible refine gate_callee (f := 20) rfl ?_); refine goesL_ (some 19) rfl rfl Try.func20 (by kernel_rfl) rfl #[.agg #[.int .i64 a0_0, .int .i64 a0_1, .int .i64 a0_2], .agg #[.int .i64 a1_0, .int .i64 a1_1, .int .i64 a1_2], .agg #[.int .i64 a2_0, .int .i64 a2_1, .int .i64 a2_2]] rfl (by (try simp only [List.map_toArray, List.map_cons, List.map_nil]); first | done | rfl | (simp only [List.length_drop, List.length_take]; rfl)) ?_; (with_reducible refine (geom_Turn.calls k a0_0 a0_1 a0_2 a1_0 a1_1 a1_2 a2_0 a2_1 a2_2 t269 _ A6.out).mono ?_); rintro e w18 ⟨rfl, hb⟩; refine ⟨_, rfl, ?_⟩; have n0_ := AM (blk_below (g := gb266) (o := .cells #[.int .i64 a0_0, .int .i64 a0_1, .int .i64 a0_2] 23 (0, 0)) (by (with_reducible repeat (first | refine bN ?_ _ | refine bD ?_ | refine bA ?_ _)); exact BK266.out) hb); have n1_ := AM (blk_below (g := gb267) (o := .cells #[.int .i64 a1_0, .int .i64 a1_1, .int .i64 a1_2] 23 (0, 0)) (by (with_reducible repeat (first | refine bN ?_ _ | refine bD ?_ | refine bA ?_ _)); exact BK267.out) hb); have n2_ := AM (blk_below (g := gb268) (o := .cells #[.int .i64 a2_0, .int .i64 a2_1, .int .i64 a2_2] 23 (0, 0)) (by (with_reducible repeat (first | refine bN ?_ _ | refine bD ?_ | refine bA ?_ _)); exact BK268.out) hb); have n3_ := AM (below_step (by repeat (first | (with_reducible first | exact HB.out | apply below_alloc | apply pw_below_drewN | apply below_drew1 | refine below_set ?_ (Aside0.out (by assumption))) | exact HB.out)) hb); clear BK266; clear BK267; clear BK268; clear HB; have BK266 := n0_; have BK267 := n1_; have BK268 := n2_; have HB := n3_; clear n0_ n1_ n2_ n3_; (try clear hb); (try clear hb2); (try clear hk); (try clear hi); have hcz19_0 : w18.cell? ⟨gb266, 0, none⟩ = some (.int .i64 a0_0) := (blk_cell BK266.out 0).trans rfl; have hcz19_1 : w18.cell? ⟨gb266, 1, none⟩ = some (.int .i64 a0_1) := (blk_cell BK266.out 1).trans rfl; have hcz19_2 : w18.cell? ⟨gb266, 2, none⟩ = some (.int .i64 a0_2) := (blk_cell BK266.out 2).trans rfl; have hfz19_0 := blk_frozen BK266.out 0; have hfz19_1 := blk_frozen BK266.out 1; have hfz19_2 := blk_frozen BK266.out 2; have hcz20_0 : w18.cell? ⟨gb267, 0, none⟩ = some (.int .i64 a1_0) := (blk_cell BK267.out 0).trans rfl; have hcz20_1 : w18.cell? ⟨gb267, 1, none⟩ = some (.int .i64 a1_1) := (blk_cell BK267.out 1).trans rfl; have hcz20_2 : w18.cell? ⟨gb267, 2, none⟩ = some (.int .i64 a1_2) := (blk_cell BK267.out 2).trans rfl; have hfz20_0 := blk_frozen BK267.out 0; have hfz20_1 := blk_frozen BK267.out 1; have hfz20_2 := blk_frozen BK267.out 2; have hcz21_0 : w18.cell? ⟨gb268, 0, none⟩ = some (.int .i64 a2_0) := (blk_cell BK268.out 0).trans rfl; have hcz21_1 : w18.cell? ⟨gb268, 1, none⟩ = some (.int .i64 a2_1) := (blk_cell BK268.out 1).trans rfl; have hcz21_2 : w18.cell? ⟨gb268, 2, none⟩ = some (.int .i64 a2_2) := (blk_cell BK268.out 2).trans rfl; have hfz21_0 := blk_frozen BK268.out 0; have hfz21_1 := blk_frozen BK268.out 1; have hfz21_2 := blk_frozen BK268.out 2) | ((with_reducible refine gate_dst (N := 23) rfl ?_); (try (refine gate_guard (by rfl) ?_; dsimp only)); refine Kd.R_lit k23 _ 23 ?hg (N := 23) ?hd (xs := ([(⟨a0_0, a0_1, a0_2⟩ : S23), (⟨a1_0, a1_1, a1_2⟩ : S23), (⟨a2_0, a2_1, a2_2⟩ : S23)] : List (S23))) (inner := [.int .i64 a0_0, .int .i64 a0_1, .int .i64 a0_2, .int .i64 a1_0, .int .i64 a1_1, .int .i64 a1_2, .int .i64 a2_0, .int .i64 a2_1, .int .i64 a2_2]) (ok := fun _ => True) (okp := fun _ => True) ?hr ?hp (fun _ hk => hk) trivial (Below.refl _ _) (Nat.le_refl _) (by simp) ?_; (case hd => rfl); (case hg => rfl); (case hr => first | (go_simp; done) | (go_simp; rfl)); (case hp => exact (Reps.c3 (show Kd.M k23 _ _ _ (⟨a0_0, a0_1, a0_2⟩ : S23) [.int .i64 a0_0, .int .i64 a0_1, .int .i64 a0_2] from (k23_mkM _ _ _ (⟨a0_0, a0_1, a0_2⟩ : S23) )) (Reps.c3 (show Kd.M k23 _ _ _ (⟨a1_0, a1_1, a1_2⟩ : S23) [.int .i64 a1_0, .int .i64 a1_1, .int .i64 a1_2] from (k23_mkM _ _ _ (⟨a1_0, a1_1, a1_2⟩ : S23) )) (Reps.c3 (show Kd.M k23 _ _ _ (⟨a2_0, a2_1, a2_2⟩ : S23) [.int .i64 a2_0, .int .i64 a2_1, .int .i64 a2_2] from (k23_mkM _ _ _ (⟨a2_0, a2_1, a2_2⟩ : S23) )) (Reps.none _ _))))); intro v271 w22 ho23 hb hg_ hnew_; clear hg_ hnew_; (first | rw [← Ny270.out] at ho23 | (simp only [Int.reduceToNat] at ho23; rw [← Ny270.out] at ho23)); have n0_ := AM (Kd.R_lower (Kd.R_newB (Kd.R_newB (Kd.R_newB ho23 (g := gb266) (o := .cells #[.int .i64 a0_0, .int .i64 a0_1, .int .i64 a0_2] 23 (0, 0)) (by (with_reducible repeat (first | refine bN ?_ _ | refine bD ?_ | refine bA ?_ _)); exact BK266.out)) (g := gb267) (o := .cells #[.int .i64 a1_0, .int .i64 a1_1, .int .i64 a1_2] 23 (0, 0)) (by (with_reducible repeat (first | refine bN ?_ _ | refine bD ?_ | refine bA ?_ _)); exact BK267.out)) (g := gb268) (o := .cells #[.int .i64 a2_0, .int .i64 a2_1, .int .i64 a2_2] 23 (0, 0)) (by (with_reducible repeat (first | refine bN ?_ _ | refine bD ?_ | refine bA ?_ _)); exact BK268.out)) (below_size (by repeat (first | (with_reducible first | exact HB.out | apply below_alloc | apply pw_below_drewN | apply below_drew1 | refine below_set ?_ (Aside0.out (by assumption))) | exact HB.out)))); have n1_ := AM (blk_below (g := gb266) (o := .cells #[.int .i64 a0_0, .int .i64 a0_1, .int .i64 a0_2] 23 (0, 0)) (by (with_reducible repeat (first | refine bN ?_ _ | refine bD ?_ | refine bA ?_ _)); exact BK266.out) hb); have n2_ := AM (blk_below (g := gb267) (o := .cells #[.int .i64 a1_0, .int .i64 a1_1, .int .i64 a1_2] 23 (0, 0)) (by (with_reducible repeat (first | refine bN ?_ _ | refine bD ?_ | refine bA ?_ _)); exact BK267.out) hb); have n3_ := AM (blk_below (g := gb268) (o := .cells #[.int .i64 a2_0, .int .i64 a2_1, .int .i64 a2_2] 23 (0, 0)) (by (with_reducible repeat (first | refine bN ?_ _ | refine bD ?_ | refine bA ?_ _)); exact BK268.out) hb); have n4_ := AM (below_step (by repeat (first | (with_reducible first | exact HB.out | apply below_alloc | apply pw_below_drewN | apply below_drew1 | refine below_set ?_ (Aside0.out (by assumption))) | exact HB.out)) hb); clear BK266; clear BK267; clear BK268; clear HB; have HO272 := n0_; have BK266 := n1_; have BK267 := n2_; have BK268 := n3_; have HB := n4_; clear n0_ n1_ n2_ n3_ n4_; clear hb ho23; obtain ⟨Ao24, co24, eo24⟩ := Kd.R_slice HO272.out; subst eo24) | ((with_reducible refine gate_callee (f := 16) rfl ?_); refine goesL_ (some 24) rfl rfl Try.func16 (by kernel_rfl) rfl #[.slice Ao24 y270.length co24] rfl (by (try simp only [List.map_toArray, List.map_cons, List.map_nil]); first | done | rfl | (simp only [List.length_drop, List.length_take]; rfl)) ?_; (with_reducible refine (geom_Area.calls k _ _ y270 t273 t274 _ ?side1 ?side2 A7.out).mono ?_); (case side1 => repeat (first | exact (Kd.R_reads' HO272.out).2.2 | (with_reducible refine Kd.C_alloc ?_ _) | (with_reducible refine Kd.C_drewN ?_ _) | (with_reducible refine Kd.C_drew ?_))); (case side2 => exact (Kd.R_reads' HO272.out).2.1); rintro e w25 ⟨rfl, hb⟩; refine ⟨_, rfl, ?_⟩; have n0_ := AM (Kd.R_below (by (with_reducible repeat (first | apply Kd.R_alloc | apply Kd.R_drewN | apply Kd.R_drew)); exact HO272.out) hb); have n1_ := AM (blk_below (g := gb266) (o := .cells #[.int .i64 a0_0, .int .i64 a0_1, .int .i64 a0_2] 23 (0, 0)) (by (with_reducible repeat (first | refine bN ?_ _ | refine bD ?_ | refine bA ?_ _)); exact BK266.out) hb); have n2_ := AM (blk_below (g := gb267) (o := .cells #[.int .i64 a1_0, .int .i64 a1_1, .int .i64 a1_2] 23 (0, 0)) (by (with_reducible repeat (first | refine bN ?_ _ | refine bD ?_ | refine bA ?_ _)); exact BK267.out) hb); have n3_ := AM (blk_below (g := gb268) (o := .cells #[.int .i64 a2_0, .int .i64 a2_1, .int .i64 a2_2] 23 (0, 0)) (by (with_reducible repeat (first | refine bN ?_ _ | refine bD ?_ | refine bA ?_ _)); exact BK268.out) hb); have n4_ := AM (below_step (by repeat (first | (with_reducible first | exact HB.out | apply below_alloc | apply pw_below_drewN | apply below_drew1 | refine below_set ?_ (Aside0.out (by assumption))) | exact HB.out)) hb); clear HO272; clear BK266; clear BK267; clear BK268; clear HB; have HO272 := n0_; have BK266 := n1_; have BK267 := n2_; have BK268 := n3_; have HB := n4_; clear n0_ n1_ n2_ n3_ n4_; (try clear hb); (try clear hb2); (try clear hk); (try clear hi)) | ((with_reducible refine gate_dst (N := 12) rfl ?_); (try (refine gate_guard (by rfl) ?_; dsimp only)); refine box_event ?hg (N := 12) ?hd (cs := #[.int .i64 0, .int .u64 0]) (t := 31) ?hr ?_; (case hd => rfl); (case hg => rfl); (case hr => first | (go_simp; done) | (go_simp; rfl)); intro gb275 hg w26 hbox hb; have n0_ := AM (Kd.R_below (by (with_reducible repeat (first | apply Kd.R_alloc | apply Kd.R_drewN | apply Kd.R_drew)); exact HO272.out) hb); have n1_ := AM (blk_below (g := gb266) (o := .cells #[.int .i64 a0_0, .int .i64 a0_1, .int .i64 a0_2] 23 (0, 0)) (by (with_reducible repeat (first | refine bN ?_ _ | refine bD ?_ | refine bA ?_ _)); exact BK266.out) hb); have n2_ := AM (blk_below (g := gb267) (o := .cells #[.int .i64 a1_0, .int .i64 a1_1, .int .i64 a1_2] 23 (0, 0)) (by (with_reducible repeat (first | refine bN ?_ _ | refine bD ?_ | refine bA ?_ _)); exact BK267.out) hb); have n3_ := AM (blk_below (g := gb268) (o := .cells #[.int .i64 a2_0, .int .i64 a2_1, .int .i64 a2_2] 23 (0, 0)) (by (with_reducible repeat (first | refine bN ?_ _ | refine bD ?_ | refine bA ?_ _)); exact BK268.out) hb); have n4_ := AM (below_step (by repeat (first | (with_reducible first | exact HB.out | apply below_alloc | apply pw_below_drewN | apply below_drew1 | refine below_set ?_ (Aside0.out (by assumption))) | exact HB.out)) hb); have n5_ := AM (hbox); have n6_ := AM ((by rw [hg]; exact (below_size (by repeat (first | (with_reducible first | exact HB.out | apply below_alloc | apply pw_below_drewN | apply below_drew1 | refine below_set ?_ (Aside0.out (by assumption))) | exact HB.out))) : w.heap.size ≤ gb275)); have n7_ := AM ((by rw [hg]; exact (below_size (by repeat (first | (with_reducible first | exact HB.out | apply below_alloc | apply pw_below_drewN | apply below_drew1 | refine below_set ?_ (Aside0.out (by assumption))) | exact HB.out))) : w.heap.size ≤ gb275)); have n8_ := AM ((by rw [hg]; exact Nat.ne_of_lt (blk_lt (g := gb266) (o := .cells #[.int .i64 a0_0, .int .i64 a0_1, .int .i64 a0_2] 23 (0, 0)) (by (with_reducible repeat (first | refine bN ?_ _ | refine bD ?_ | refine bA ?_ _)); exact BK266.out)) : gb266 ≠ gb275)); have n9_ := AM ((by rw [hg]; exact Nat.ne_of_gt (blk_lt (g := gb266) (o := .cells #[.int .i64 a0_0, .int .i64 a0_1, .int .i64 a0_2] 23 (0, 0)) (by (with_reducible repeat (first | refine bN ?_ _ | refine bD ?_ | refine bA ?_ _)); exact BK266.out)) : gb275 ≠ gb266)); have n10_ := AM ((by rw [hg]; exact Nat.ne_of_lt (blk_lt (g := gb267) (o := .cells #[.int .i64 a1_0, .int .i64 a1_1, .int .i64 a1_2] 23 (0, 0)) (by (with_reducible repeat (first | refine bN ?_ _ | refine bD ?_ | refine bA ?_ _)); exact BK267.out)) : gb267 ≠ gb275)); have n11_ := AM ((by rw [hg]; exact Nat.ne_of_gt (blk_lt (g := gb267) (o := .cells #[.int .i64 a1_0, .int .i64 a1_1, .int .i64 a1_2] 23 (0, 0)) (by (with_reducible repeat (first | refine bN ?_ _ | refine bD ?_ | refine bA ?_ _)); exact BK267.out)) : gb275 ≠ gb267)); have n12_ := AM ((by rw [hg]; exact Nat.ne_of_lt (blk_lt (g := gb268) (o := .cells #[.int .i64 a2_0, .int .i64 a2_1, .int .i64 a2_2] 23 (0, 0)) (by (with_reducible repeat (first | refine bN ?_ _ | refine bD ?_ | refine bA ?_ _)); exact BK268.out)) : gb268 ≠ gb275)); have n13_ := AM ((by rw [hg]; exact Nat.ne_of_gt (blk_lt (g := gb268) (o := .cells #[.int .i64 a2_0, .int .i64 a2_1, .int .i64 a2_2] 23 (0, 0)) (by (with_reducible repeat (first | refine bN ?_ _ | refine bD ?_ | refine bA ?_ _)); exact BK268.out)) : gb275 ≠ gb268)); clear HO272; clear BK266; clear BK267; clear BK268; clear HB; have HO272 := n0_; have BK266 := n1_; have BK267 := n2_; have BK268 := n3_; have HB := n4_; have BK275 := n5_; have GW275 := n6_; have GE275 := n7_; have NB266_275 := n8_; have NB275_266 := n9_; have NB267_275 := n10_; have NB275_267 := n11_; have NB268_275 := n12_; have NB275_268 := n13_; clear n0_ n1_ n2_ n3_ n4_ n5_ n6_ n7_ n8_ n9_ n10_ n11_ n12_ n13_; clear hb hbox hg; have hnb27 := NB275_266.out; have hnc27 := NB266_275.out; have hnb28 := NB275_267.out; have hnc28 := NB267_275.out; have hnb29 := NB275_268.out; have hnc29 := NB268_275.out; have hcz30_0 : w26.cell? ⟨gb275, 0, none⟩ = some (.int .i64 0) := (blk_cell BK275.out 0).trans rfl; have hcz30_1 : w26.cell? ⟨gb275, 1, none⟩ = some (.int .u64 0) := (blk_cell BK275.out 1).trans rfl; have hfz30_0 := blk_frozen BK275.out 0; have hfz30_1 := blk_frozen BK275.out 1))
 (try simp only [Act.put, sT, sZ, sS])
 go_cut [55] (fun v55 wc => ∃ (kq : Nat) (x55_7 : Bool), v55 = .bool x55_7 ∧ Aside0 (lapidarylaw09_GeomLaws.j0 kq a3 a4 t269 x55_7 a0_0 a0_1 a0_2 a1_0 a1_1 a1_2 a2_0 a2_1 a2_2 t273 t274 = some r) ∧ Aside0 (kq ≤ k) ∧ Aside0 (wc.heap[gb266]? = some (.cells #[.int .i64 a0_0, .int .i64 a0_1, .int .i64 a0_2] 23 (0, 0))) ∧ Aside0 (wc.heap[gb267]? = some (.cells #[.int .i64 a1_0, .int .i64 a1_1, .int .i64 a1_2] 23 (0, 0))) ∧ Aside0 (wc.heap[gb268]? = some (.cells #[.int .i64 a2_0, .int .i64 a2_1, .int .i64 a2_2] 23 (0, 0))) ∧ Aside0 (wc.heap[gb275]? = some (.cells #[.int .i64 t273, .int .u64 t274] 31 (0, 0))) ∧ Aside0 (Below w.heap.size w wc))
 case first =>
  have H := HC8.out
  clear HC8
  replace H := Option.bind_eq_some_iff.mp H
  obtain ⟨t276, A310, H⟩ := H
  replace H : (if t269 = t276 then ((geom_Turn.f k a1_0 a1_1 a1_2 a0_0 a0_1 a0_2 a2_0 a2_1 a2_2).bind fun t277 => (if t269 = (wrap64 (-t277)) then ((wide_Sign.f t273 t274).bind fun t278 => (if t278 = t269 then ((geom_Area.f k (([(⟨a2_0, a2_1, a2_2⟩ : S23), (⟨a1_0, a1_1, a1_2⟩ : S23), (⟨a0_0, a0_1, a0_2⟩ : S23)] : List (S23)))).bind fun bt282 => ((wide_Neg.f k t273 t274).bind fun bt284 => (lapidarylaw09_GeomLaws.j0 k a3 a4 t269 (!(bt282.1 == bt284.1) || (!(bt282.2 == bt284.2))) a0_0 a0_1 a0_2 a1_0 a1_1 a1_2 a2_0 a2_1 a2_2 t273 t274))) else (lapidarylaw09_GeomLaws.j0 k a3 a4 t269 true a0_0 a0_1 a0_2 a1_0 a1_1 a1_2 a2_0 a2_1 a2_2 t273 t274))) else (lapidarylaw09_GeomLaws.j0 k a3 a4 t269 true a0_0 a0_1 a0_2 a1_0 a1_1 a1_2 a2_0 a2_1 a2_2 t273 t274))) else (lapidarylaw09_GeomLaws.j0 k a3 a4 t269 true a0_0 a0_1 a0_2 a1_0 a1_1 a1_2 a2_0 a2_1 a2_2 t273 t274)) = some r := H
  have A31 := AM A310
  clear A310
  by_cases c32 : t269 = t276
  ·rw [if_pos c32] at H
   have c32b0 : (t269 == t276) = true := beq_iff_eq.mpr c32
   have c32b1 : (t269 != t276) = false := bne_eq_false_iff_eq.mpr c32
   clear c32
   (first | rw [c32b0] | (simp only [i64_w, i32_w]; rw [c32b0]) | skip)
   replace H := Option.bind_eq_some_iff.mp H
   obtain ⟨t277, A330, H⟩ := H
   replace H : (if t269 = (wrap64 (-t277)) then ((wide_Sign.f t273 t274).bind fun t278 => (if t278 = t269 then ((geom_Area.f k (([(⟨a2_0, a2_1, a2_2⟩ : S23), (⟨a1_0, a1_1, a1_2⟩ : S23), (⟨a0_0, a0_1, a0_2⟩ : S23)] : List (S23)))).bind fun bt282 => ((wide_Neg.f k t273 t274).bind fun bt284 => (lapidarylaw09_GeomLaws.j0 k a3 a4 t269 (!(bt282.1 == bt284.1) || (!(bt282.2 == bt284.2))) a0_0 a0_1 a0_2 a1_0 a1_1 a1_2 a2_0 a2_1 a2_2 t273 t274))) else (lapidarylaw09_GeomLaws.j0 k a3 a4 t269 true a0_0 a0_1 a0_2 a1_0 a1_1 a1_2 a2_0 a2_1 a2_2 t273 t274))) else (lapidarylaw09_GeomLaws.j0 k a3 a4 t269 true a0_0 a0_1 a0_2 a1_0 a1_1 a1_2 a2_0 a2_1 a2_2 t273 t274)) = some r := H
   have A33 := AM A330
   clear A330
   by_cases c34 : t269 = (wrap64 (-t277))
   ·rw [if_pos c34] at H
    have c34b0 : (t269 == (wrap64 (-t277))) = true := beq_iff_eq.mpr c34
    have c34b1 : (t269 != (wrap64 (-t277))) = false := bne_eq_false_iff_eq.mpr c34
    clear c34
    replace H := Option.bind_eq_some_iff.mp H
    obtain ⟨t278, A350, H⟩ := H
    replace H : (if t278 = t269 then ((geom_Area.f k (([(⟨a2_0, a2_1, a2_2⟩ : S23), (⟨a1_0, a1_1, a1_2⟩ : S23), (⟨a0_0, a0_1, a0_2⟩ : S23)] : List (S23)))).bind fun bt282 => ((wide_Neg.f k t273 t274).bind fun bt284 => (lapidarylaw09_GeomLaws.j0 k a3 a4 t269 (!(bt282.1 == bt284.1) || (!(bt282.2 == bt284.2))) a0_0 a0_1 a0_2 a1_0 a1_1 a1_2 a2_0 a2_1 a2_2 t273 t274))) else (lapidarylaw09_GeomLaws.j0 k a3 a4 t269 true a0_0 a0_1 a0_2 a1_0 a1_1 a1_2 a2_0 a2_1 a2_2 t273 t274)) = some r := H
    have A35 := AM A350
    clear A350
    by_cases c36 : t278 = t269
    ·rw [if_pos c36] at H
     have c36b0 : (t278 == t269) = true := beq_iff_eq.mpr c36
     have c36b1 : (t278 != t269) = false := bne_eq_false_iff_eq.mpr c36
     clear c36
     obtain ⟨y279, hy279⟩ : ∃ y_ : List (S23), y_ = (([(⟨a2_0, a2_1, a2_2⟩ : S23), (⟨a1_0, a1_1, a1_2⟩ : S23), (⟨a0_0, a0_1, a0_2⟩ : S23)] : List (S23))) := ⟨_, rfl⟩
     replace H : ((geom_Area.f k y279).bind fun bt282 => ((wide_Neg.f k t273 t274).bind fun bt284 => (lapidarylaw09_GeomLaws.j0 k a3 a4 t269 (!(bt282.1 == bt284.1) || (!(bt282.2 == bt284.2))) a0_0 a0_1 a0_2 a1_0 a1_1 a1_2 a2_0 a2_1 a2_2 t273 t274))) = some r := by first | (rw [hy279]; with_reducible exact H) | (have H2_ := (Option.bind_some _ _).symm.trans H; rw [hy279]; with_reducible exact H2_) | (have H2_ := (Option.bind_some _ _).symm.trans H; with_reducible exact H2_) | with_reducible exact H | (rw [hy279]; exact H) | exact H
     have Ny279 := AM hy279
     clear hy279
     replace H := Option.bind_eq_some_iff.mp H
     obtain ⟨⟨t282, t283⟩, A370, H⟩ := H
     replace H : ((wide_Neg.f k t273 t274).bind fun bt284 => (lapidarylaw09_GeomLaws.j0 k a3 a4 t269 (!(t282 == bt284.1) || (!(t283 == bt284.2))) a0_0 a0_1 a0_2 a1_0 a1_1 a1_2 a2_0 a2_1 a2_2 t273 t274)) = some r := H
     have A37 := AM A370
     clear A370
     replace H := Option.bind_eq_some_iff.mp H
     obtain ⟨⟨t284, t285⟩, A380, H⟩ := H
     replace H : (lapidarylaw09_GeomLaws.j0 k a3 a4 t269 (!(t282 == t284) || (!(t283 == t285))) a0_0 a0_1 a0_2 a1_0 a1_1 a1_2 a2_0 a2_1 a2_2 t273 t274) = some r := H
     have A38 := AM A380
     clear A380
     have H' := AM H
     clear H
     try go_wp2
     have n0_ : Aside0 (Kd.R k23 23 ((w26.setCell ⟨gb275, 0, none⟩ (.int .i64 t273)).setCell ⟨gb275, 1, none⟩ (.int .u64 t274)) w.heap.size (fun k_ => k_ ≠ gb266 ∧ k_ ≠ gb267 ∧ k_ ≠ gb268) (.slice Ao24 y270.length co24) y270) := ⟨by (with_reducible repeat (first | apply Kd.R_alloc | apply Kd.R_drewN | apply Kd.R_drew)); exact Kd.R_mono (Kd.R_far (p := ⟨gb275, 1, none⟩) (Kd.R_far (p := ⟨gb275, 0, none⟩) (Kd.R_types HO272.out BK275.out (by decide)) (fun _ hk => hk.2) (.int .i64 t273)) (fun _ hk => hk.2) (.int .u64 t274)) (fun _ hk => ⟨hk.1.1.1.2, ⟨hk.1.1.2, hk.1.2⟩⟩)⟩
     have n1_ : Aside0 (((w26.setCell ⟨gb275, 0, none⟩ (.int .i64 t273)).setCell ⟨gb275, 1, none⟩ (.int .u64 t274)).heap[gb266]? = some (.cells #[.int .i64 a0_0, .int .i64 a0_1, .int .i64 a0_2] 23 (0, 0))) := ⟨by (with_reducible repeat (first | refine bN ?_ _ | refine bD ?_ | refine bA ?_ _)); refine blk_far ?_ NB266_275.out _; (with_reducible repeat (first | refine bN ?_ _ | refine bD ?_ | refine bA ?_ _)); refine blk_far ?_ NB266_275.out _; (with_reducible repeat (first | refine bN ?_ _ | refine bD ?_ | refine bA ?_ _)); exact BK266.out⟩
     have n2_ : Aside0 (((w26.setCell ⟨gb275, 0, none⟩ (.int .i64 t273)).setCell ⟨gb275, 1, none⟩ (.int .u64 t274)).heap[gb267]? = some (.cells #[.int .i64 a1_0, .int .i64 a1_1, .int .i64 a1_2] 23 (0, 0))) := ⟨by (with_reducible repeat (first | refine bN ?_ _ | refine bD ?_ | refine bA ?_ _)); refine blk_far ?_ NB267_275.out _; (with_reducible repeat (first | refine bN ?_ _ | refine bD ?_ | refine bA ?_ _)); refine blk_far ?_ NB267_275.out _; (with_reducible repeat (first | refine bN ?_ _ | refine bD ?_ | refine bA ?_ _)); exact BK267.out⟩
     have n3_ : Aside0 (((w26.setCell ⟨gb275, 0, none⟩ (.int .i64 t273)).setCell ⟨gb275, 1, none⟩ (.int .u64 t274)).heap[gb268]? = some (.cells #[.int .i64 a2_0, .int .i64 a2_1, .int .i64 a2_2] 23 (0, 0))) := ⟨by (with_reducible repeat (first | refine bN ?_ _ | refine bD ?_ | refine bA ?_ _)); refine blk_far ?_ NB268_275.out _; (with_reducible repeat (first | refine bN ?_ _ | refine bD ?_ | refine bA ?_ _)); refine blk_far ?_ NB268_275.out _; (with_reducible repeat (first | refine bN ?_ _ | refine bD ?_ | refine bA ?_ _)); exact BK268.out⟩
     have n4_ : Aside0 (((w26.setCell ⟨gb275, 0, none⟩ (.int .i64 t273)).setCell ⟨gb275, 1, none⟩ (.int .u64 t274)).heap[gb275]? = some (.cells #[.int .i64 t273, .int .u64 t274] 31 (0, 0))) := ⟨by (with_reducible repeat (first | refine bN ?_ _ | refine bD ?_ | refine bA ?_ _)); refine blk_put (cs := #[.int .i64 t273, .int .u64 0]) ?_ 1 _ rfl; (with_reducible repeat (first | refine bN ?_ _ | refine bD ?_ | refine bA ?_ _)); refine blk_put (cs := #[.int .i64 0, .int .u64 0]) ?_ 0 _ rfl; (with_reducible repeat (first | refine bN ?_ _ | refine bD ?_ | refine bA ?_ _)); exact BK275.out⟩
     have n5_ : Aside0 (Below w.heap.size w ((w26.setCell ⟨gb275, 0, none⟩ (.int .i64 t273)).setCell ⟨gb275, 1, none⟩ (.int .u64 t274))) := ⟨by repeat (first | (with_reducible first | exact HB.out | apply below_alloc | apply pw_below_drewN | apply below_drew1 | refine below_set ?_ (Aside0.out (by assumption))) | exact HB.out)⟩
     (try clear HO272)
     (try clear BK266)
     (try clear BK267)
     (try clear BK268)
     (try clear BK275)
     (try clear HB)
     generalize ((w26.setCell ⟨gb275, 0, none⟩ (.int .i64 t273)).setCell ⟨gb275, 1, none⟩ (.int .u64 t274)) = w39 at n0_ n1_ n2_ n3_ n4_ n5_ ⊢
     have HO272 := n0_
     have BK266 := n1_
     have BK267 := n2_
     have BK268 := n3_
     have BK275 := n4_
     have HB := n5_
     clear n0_ n1_ n2_ n3_ n4_ n5_
     have n0_ := AM (Kd.R_drew HO272.out)
     have n1_ := AM (bD BK266.out)
     have n2_ := AM (bD BK267.out)
     have n3_ := AM (bD BK268.out)
     have n4_ := AM (bD BK275.out)
     have n5_ := AM (below_drew1 HB.out)
     clear HO272
     clear BK266
     clear BK267
     clear BK268
     clear BK275
     clear HB
     have HO272 := n0_
     have BK266 := n1_
     have BK267 := n2_
     have BK268 := n3_
     have BK275 := n4_
     have HB := n5_
     clear n0_ n1_ n2_ n3_ n4_ n5_
     refine start_ (n := 31) (S := fun w' => w'.cell? ⟨gb267, 0, none⟩ = some (.int .i64 a1_0) ∧ w'.cell? ⟨gb267, 1, none⟩ = some (.int .i64 a1_1) ∧ w'.cell? ⟨gb267, 2, none⟩ = some (.int .i64 a1_2) ∧ w'.cell? ⟨gb268, 0, none⟩ = some (.int .i64 a2_0) ∧ w'.cell? ⟨gb268, 1, none⟩ = some (.int .i64 a2_1) ∧ w'.cell? ⟨gb268, 2, none⟩ = some (.int .i64 a2_2) ∧ w'.cell? ⟨gb266, 0, none⟩ = some (.int .i64 a0_0) ∧ w'.cell? ⟨gb266, 1, none⟩ = some (.int .i64 a0_1) ∧ w'.cell? ⟨gb266, 2, none⟩ = some (.int .i64 a0_2) ∧ w'.cell? ⟨gb275, 0, none⟩ = some (.int .i64 t273) ∧ w'.cell? ⟨gb275, 1, none⟩ = some (.int .u64 t274)) (ds := []) #[false, false, false, false, false, false, false, false, false, false, false, false, false, false, false, false, false, false, false, false, false, false, false, false, false, false, false, false, false, false, false] (by kernel_rfl) rfl rfl ⟨(blk_cell BK267.out 0).trans rfl, (blk_cell BK267.out 1).trans rfl, (blk_cell BK267.out 2).trans rfl, (blk_cell BK268.out 0).trans rfl, (blk_cell BK268.out 1).trans rfl, (blk_cell BK268.out 2).trans rfl, (blk_cell BK266.out 0).trans rfl, (blk_cell BK266.out 1).trans rfl, (blk_cell BK266.out 2).trans rfl, (blk_cell BK275.out 0).trans rfl, (blk_cell BK275.out 1).trans rfl⟩ (fun hHeld => ?_); refine with_tabW lapidarylaw09_GeomLaws.tab3 lapidarylaw09_GeomLaws.bits3 (fun HT_ HW_ => ?_)
     generalize w39.drew = w40 at HO272 BK266 BK267 BK268 BK275 HB hHeld ⊢
     refine pure_ (i := 0) (N := some 25) (v := ?_) (a' := ?_) #[true, false, false, false, false, false, false, false, false, false, false, false, false, false, false, false, false, false, false, false, false, false, false, false, false, false, false, false, false, false, false] rfl rfl (any_of HT_.out (by kernel_rfl)) (fun _ _ _ h => h) (Or.inl ⟨by rfl, ?_⟩) ?_ ?_
     rotate_left
     ·intro w'
      go_simp
      with_reducible rfl
     rotate_left
     ·simp only [Act.put, sT, sZ, sS, i64_w, i32_w]
      rfl
     refine take_ (i := 1) (N := some 26) (v := ?_) (a' := ?_) #[true, true, false, false, false, false, false, false, false, false, false, false, false, false, false, false, false, false, false, false, false, false, false, false, false, false, false, false, false, false, false] rfl rfl (take_ofW HT_.out HW_.out (by kernel_rfl)) (fun _ _ _ h => h) (Or.inl ⟨by rfl, ?_⟩) hHeld ?_ ?_
     rotate_left
     ·rintro w' ⟨s0, s1, s2, s3, s4, s5, s6, s7, s8, s9, s10⟩
      go_simp
      with_reducible rfl
     rotate_left
     ·simp only [Act.put, sT, sZ, sS, i64_w, i32_w]
      rfl
     refine take_ (i := 2) (N := some 27) (v := ?_) (a' := ?_) #[true, true, true, false, false, false, false, false, false, false, false, false, false, false, false, false, false, false, false, false, false, false, false, false, false, false, false, false, false, false, false] rfl rfl (take_ofW HT_.out HW_.out (by kernel_rfl)) (fun _ _ _ h => h) (Or.inl ⟨by rfl, ?_⟩) hHeld ?_ ?_
     rotate_left
     ·rintro w' ⟨s0, s1, s2, s3, s4, s5, s6, s7, s8, s9, s10⟩
      go_simp
      with_reducible rfl
     rotate_left
     ·simp only [Act.put, sT, sZ, sS, i64_w, i32_w]
      rfl
     refine take_ (i := 3) (N := some 28) (v := ?_) (a' := ?_) #[true, true, true, true, false, false, false, false, false, false, false, false, false, false, false, false, false, false, false, false, false, false, false, false, false, false, false, false, false, false, false] rfl rfl (take_ofW HT_.out HW_.out (by kernel_rfl)) (fun _ _ _ h => h) (Or.inl ⟨by rfl, ?_⟩) hHeld ?_ ?_
     rotate_left
     ·rintro w' ⟨s0, s1, s2, s3, s4, s5, s6, s7, s8, s9, s10⟩
      go_simp
      with_reducible rfl
     rotate_left
     ·simp only [Act.put, sT, sZ, sS, i64_w, i32_w]
      rfl
     refine one_ (i := 4) (N := some 29) #[true, true, true, true, true, false, false, false, false, false, false, false, false, false, false, false, false, false, false, false, false, false, false, false, false, false, false, false, false, false, false] rfl rfl (one_of HT_.out (by kernel_rfl)) (by decide) (fun K hK => ?_)
     refine goes_ Try.func20 (by kernel_rfl) rfl #[.agg #[.int .i64 a1_0, .int .i64 a1_1, .int .i64 a1_2], .agg #[.int .i64 a2_0, .int .i64 a2_1, .int .i64 a2_2], .agg #[.int .i64 a0_0, .int .i64 a0_1, .int .i64 a0_2]] (by rfl) rfl rfl (by (try simp only [List.map_toArray, List.map_cons, List.map_nil]); first | done | rfl | (simp only [List.length_drop, List.length_take]; rfl)) ?_
     with_reducible refine (geom_Turn.calls k a1_0 a1_1 a1_2 a2_0 a2_1 a2_2 a0_0 a0_1 a0_2 t276 _ A31.out).mono ?_
     rintro e w41 ⟨rfl, hb⟩
     refine ⟨_, rfl, ?_⟩
     have n0_ := AM (Kd.R_below (by (with_reducible repeat (first | apply Kd.R_alloc | apply Kd.R_drewN | apply Kd.R_drew)); exact HO272.out) hb)
     have n1_ := AM (blk_below (g := gb266) (o := .cells #[.int .i64 a0_0, .int .i64 a0_1, .int .i64 a0_2] 23 (0, 0)) (by (with_reducible repeat (first | refine bN ?_ _ | refine bD ?_ | refine bA ?_ _)); exact BK266.out) hb)
     have n2_ := AM (blk_below (g := gb267) (o := .cells #[.int .i64 a1_0, .int .i64 a1_1, .int .i64 a1_2] 23 (0, 0)) (by (with_reducible repeat (first | refine bN ?_ _ | refine bD ?_ | refine bA ?_ _)); exact BK267.out) hb)
     have n3_ := AM (blk_below (g := gb268) (o := .cells #[.int .i64 a2_0, .int .i64 a2_1, .int .i64 a2_2] 23 (0, 0)) (by (with_reducible repeat (first | refine bN ?_ _ | refine bD ?_ | refine bA ?_ _)); exact BK268.out) hb)
     have n4_ := AM (blk_below (g := gb275) (o := .cells #[.int .i64 t273, .int .u64 t274] 31 (0, 0)) (by (with_reducible repeat (first | refine bN ?_ _ | refine bD ?_ | refine bA ?_ _)); exact BK275.out) hb)
     have n5_ := AM (below_step (by repeat (first | (with_reducible first | exact HB.out | apply below_alloc | apply pw_below_drewN | apply below_drew1 | refine below_set ?_ (Aside0.out (by assumption))) | exact HB.out)) hb)
     clear HO272
     clear BK266
     clear BK267
     clear BK268
     clear BK275
     clear HB
     have HO272 := n0_
     have BK266 := n1_
     have BK267 := n2_
     have BK268 := n3_
     have BK275 := n4_
     have HB := n5_
     clear n0_ n1_ n2_ n3_ n4_ n5_
     (try clear hb)
     (try clear hb2)
     (try clear hk)
     (try clear hi)
     refine hK.out _ _ ⟨(blk_cell BK267.out 0).trans rfl, (blk_cell BK267.out 1).trans rfl, (blk_cell BK267.out 2).trans rfl, (blk_cell BK268.out 0).trans rfl, (blk_cell BK268.out 1).trans rfl, (blk_cell BK268.out 2).trans rfl, (blk_cell BK266.out 0).trans rfl, (blk_cell BK266.out 1).trans rfl, (blk_cell BK266.out 2).trans rfl, (blk_cell BK275.out 0).trans rfl, (blk_cell BK275.out 1).trans rfl⟩ (fun hHeld => ?_)
     clear hK K
     refine norm_ (a' := ?_) ?_ ?_
     rotate_left
     ·show Act.put _ (some 29) _ = _
      simp only [Act.put, sT, sZ, sS, i64_w, i32_w]
      rfl
     refine pure_ (i := 5) (N := some 30) (v := ?_) (a' := ?_) #[true, true, true, true, true, true, false, false, false, false, false, false, false, false, false, false, false, false, false, false, false, false, false, false, false, false, false, false, false, false, false] rfl rfl (any_of HT_.out (by kernel_rfl)) (fun _ _ _ h => h) (Or.inl ⟨by rfl, ?_⟩) ?_ ?_
     rotate_left
     ·intro w'
      go_simp
      with_reducible rfl
     rotate_left
     ·simp only [Act.put, sT, sZ, sS, i64_w, i32_w]
      rfl
     refine pure_ (i := 6) (N := some 31) (v := ?_) (a' := ?_) #[true, true, true, true, true, true, true, false, false, false, false, false, false, false, false, false, false, false, false, false, false, false, false, false, false, false, false, false, false, false, false] rfl rfl (any_of HT_.out (by kernel_rfl)) (fun _ _ _ h => h) (Or.inl ⟨by rfl, ?_⟩) ?_ ?_
     rotate_left
     ·intro w'
      go_simp
      with_reducible rfl
     rotate_left
     ·simp only [Act.put, sT, sZ, sS, i64_w, i32_w]
      rfl
     refine pure_ (i := 7) (N := some 32) (v := ?_) (a' := ?_) #[true, true, true, true, true, true, true, true, false, false, false, false, false, false, false, false, false, false, false, false, false, false, false, false, false, false, false, false, false, false, false] rfl rfl (any_of HT_.out (by kernel_rfl)) (fun _ _ _ h => h) (Or.inl ⟨by rfl, ?_⟩) ?_ ?_
     rotate_left
     ·intro w'
      go_simp
      with_reducible rfl
     rotate_left
     ·simp only [Act.put, sT, sZ, sS, i64_w, i32_w]
      rfl
     refine take_ (i := 8) (N := some 33) (v := ?_) (a' := ?_) #[true, true, true, true, true, true, true, true, true, false, false, false, false, false, false, false, false, false, false, false, false, false, false, false, false, false, false, false, false, false, false] rfl rfl (take_ofW HT_.out HW_.out (by kernel_rfl)) (fun _ _ _ h => h) (Or.inl ⟨by rfl, ?_⟩) hHeld ?_ ?_
     rotate_left
     ·rintro w' ⟨s0, s1, s2, s3, s4, s5, s6, s7, s8, s9, s10⟩
      go_simp
      with_reducible rfl
     rotate_left
     ·simp only [Act.put, sT, sZ, sS, i64_w, i32_w]
      rfl
     refine take_ (i := 9) (N := some 34) (v := ?_) (a' := ?_) #[true, true, true, true, true, true, true, true, true, true, false, false, false, false, false, false, false, false, false, false, false, false, false, false, false, false, false, false, false, false, false] rfl rfl (take_ofW HT_.out HW_.out (by kernel_rfl)) (fun _ _ _ h => h) (Or.inl ⟨by rfl, ?_⟩) hHeld ?_ ?_
     rotate_left
     ·rintro w' ⟨s0, s1, s2, s3, s4, s5, s6, s7, s8, s9, s10⟩
      go_simp
      with_reducible rfl
     rotate_left
     ·simp only [Act.put, sT, sZ, sS, i64_w, i32_w]
      rfl
     refine take_ (i := 10) (N := some 35) (v := ?_) (a' := ?_) #[true, true, true, true, true, true, true, true, true, true, true, false, false, false, false, false, false, false, false, false, false, false, false, false, false, false, false, false, false, false, false] rfl rfl (take_ofW HT_.out HW_.out (by kernel_rfl)) (fun _ _ _ h => h) (Or.inl ⟨by rfl, ?_⟩) hHeld ?_ ?_
     rotate_left
     ·rintro w' ⟨s0, s1, s2, s3, s4, s5, s6, s7, s8, s9, s10⟩
      go_simp
      with_reducible rfl
     rotate_left
     ·simp only [Act.put, sT, sZ, sS, i64_w, i32_w]
      rfl
     refine one_ (i := 11) (N := some 36) #[true, true, true, true, true, true, true, true, true, true, true, true, false, false, false, false, false, false, false, false, false, false, false, false, false, false, false, false, false, false, false] rfl rfl (one_of HT_.out (by kernel_rfl)) (by decide) (fun K hK => ?_)
     refine goes_ Try.func20 (by kernel_rfl) rfl #[.agg #[.int .i64 a1_0, .int .i64 a1_1, .int .i64 a1_2], .agg #[.int .i64 a0_0, .int .i64 a0_1, .int .i64 a0_2], .agg #[.int .i64 a2_0, .int .i64 a2_1, .int .i64 a2_2]] (by rfl) rfl rfl (by (try simp only [List.map_toArray, List.map_cons, List.map_nil]); first | done | rfl | (simp only [List.length_drop, List.length_take]; rfl)) ?_
     with_reducible refine (geom_Turn.calls k a1_0 a1_1 a1_2 a0_0 a0_1 a0_2 a2_0 a2_1 a2_2 t277 _ A33.out).mono ?_
     rintro e w42 ⟨rfl, hb⟩
     refine ⟨_, rfl, ?_⟩
     have n0_ := AM (Kd.R_below (by (with_reducible repeat (first | apply Kd.R_alloc | apply Kd.R_drewN | apply Kd.R_drew)); exact HO272.out) hb)
     have n1_ := AM (blk_below (g := gb266) (o := .cells #[.int .i64 a0_0, .int .i64 a0_1, .int .i64 a0_2] 23 (0, 0)) (by (with_reducible repeat (first | refine bN ?_ _ | refine bD ?_ | refine bA ?_ _)); exact BK266.out) hb)
     have n2_ := AM (blk_below (g := gb267) (o := .cells #[.int .i64 a1_0, .int .i64 a1_1, .int .i64 a1_2] 23 (0, 0)) (by (with_reducible repeat (first | refine bN ?_ _ | refine bD ?_ | refine bA ?_ _)); exact BK267.out) hb)
     have n3_ := AM (blk_below (g := gb268) (o := .cells #[.int .i64 a2_0, .int .i64 a2_1, .int .i64 a2_2] 23 (0, 0)) (by (with_reducible repeat (first | refine bN ?_ _ | refine bD ?_ | refine bA ?_ _)); exact BK268.out) hb)
     have n4_ := AM (blk_below (g := gb275) (o := .cells #[.int .i64 t273, .int .u64 t274] 31 (0, 0)) (by (with_reducible repeat (first | refine bN ?_ _ | refine bD ?_ | refine bA ?_ _)); exact BK275.out) hb)
     have n5_ := AM (below_step (by repeat (first | (with_reducible first | exact HB.out | apply below_alloc | apply pw_below_drewN | apply below_drew1 | refine below_set ?_ (Aside0.out (by assumption))) | exact HB.out)) hb)
     clear HO272
     clear BK266
     clear BK267
     clear BK268
     clear BK275
     clear HB
     have HO272 := n0_
     have BK266 := n1_
     have BK267 := n2_
     have BK268 := n3_
     have BK275 := n4_
     have HB := n5_
     clear n0_ n1_ n2_ n3_ n4_ n5_
     (try clear hb)
     (try clear hb2)
     (try clear hk)
     (try clear hi)
     refine hK.out _ _ ⟨(blk_cell BK267.out 0).trans rfl, (blk_cell BK267.out 1).trans rfl, (blk_cell BK267.out 2).trans rfl, (blk_cell BK268.out 0).trans rfl, (blk_cell BK268.out 1).trans rfl, (blk_cell BK268.out 2).trans rfl, (blk_cell BK266.out 0).trans rfl, (blk_cell BK266.out 1).trans rfl, (blk_cell BK266.out 2).trans rfl, (blk_cell BK275.out 0).trans rfl, (blk_cell BK275.out 1).trans rfl⟩ (fun hHeld => ?_)
     clear hK K
     refine norm_ (a' := ?_) ?_ ?_
     rotate_left
     ·show Act.put _ (some 36) _ = _
      simp only [Act.put, sT, sZ, sS, i64_w, i32_w]
      rfl
     refine pure_ (i := 12) (N := some 37) (v := ?_) (a' := ?_) #[true, true, true, true, true, true, true, true, true, true, true, true, true, false, false, false, false, false, false, false, false, false, false, false, false, false, false, false, false, false, false] rfl rfl (any_of HT_.out (by kernel_rfl)) (fun _ _ _ h => h) (Or.inl ⟨by rfl, ?_⟩) ?_ ?_
     rotate_left
     ·intro w'
      go_simp
      with_reducible rfl
     rotate_left
     ·simp only [Act.put, sT, sZ, sS, i64_w, i32_w]
      rfl
     refine pure_ (i := 13) (N := some 38) (v := ?_) (a' := ?_) #[true, true, true, true, true, true, true, true, true, true, true, true, true, true, false, false, false, false, false, false, false, false, false, false, false, false, false, false, false, false, false] rfl rfl (any_of HT_.out (by kernel_rfl)) (fun _ _ _ h => h) (Or.inl ⟨by rfl, ?_⟩) ?_ ?_
     rotate_left
     ·intro w'
      go_simp
      with_reducible rfl
     rotate_left
     ·simp only [Act.put, sT, sZ, sS, i64_w, i32_w]
      rfl
     refine pure_ (i := 14) (N := some 39) (v := ?_) (a' := ?_) #[true, true, true, true, true, true, true, true, true, true, true, true, true, true, true, false, false, false, false, false, false, false, false, false, false, false, false, false, false, false, false] rfl rfl (any_of HT_.out (by kernel_rfl)) (fun _ _ _ h => h) (Or.inl ⟨by rfl, ?_⟩) ?_ ?_
     rotate_left
     ·intro w'
      go_simp
      with_reducible rfl
     rotate_left
     ·simp only [Act.put, sT, sZ, sS, i64_w, i32_w]
      rfl
     refine pure_ (i := 15) (N := some 40) (v := ?_) (a' := ?_) #[true, true, true, true, true, true, true, true, true, true, true, true, true, true, true, true, false, false, false, false, false, false, false, false, false, false, false, false, false, false, false] rfl rfl (any_of HT_.out (by kernel_rfl)) (fun _ _ _ h => h) (Or.inl ⟨by rfl, ?_⟩) ?_ ?_
     rotate_left
     ·intro w'
      go_simp
      with_reducible rfl
     rotate_left
     ·simp only [Act.put, sT, sZ, sS, i64_w, i32_w]
      rfl
     refine pure_ (i := 18) (N := some 43) (v := ?_) (a' := ?_) #[true, true, true, true, true, true, true, true, true, true, true, true, true, true, true, true, false, false, true, false, false, false, false, false, false, false, false, false, false, false, false] rfl rfl (any_of HT_.out (by kernel_rfl)) (fun _ _ _ h => h) (Or.inl ⟨by rfl, ?_⟩) ?_ ?_
     rotate_left
     ·intro w'
      go_simp
      with_reducible rfl
     rotate_left
     ·simp only [Act.put, sT, sZ, sS, i64_w, i32_w]
      rfl
     refine take_ (i := 16) (N := some 41) (v := ?_) (a' := ?_) #[true, true, true, true, true, true, true, true, true, true, true, true, true, true, true, true, true, false, true, false, false, false, false, false, false, false, false, false, false, false, false] rfl rfl (take_ofW HT_.out HW_.out (by kernel_rfl)) (fun _ _ _ h => h) (Or.inl ⟨by rfl, ?_⟩) hHeld ?_ ?_
     rotate_left
     ·rintro w' ⟨s0, s1, s2, s3, s4, s5, s6, s7, s8, s9, s10⟩
      go_simp
      with_reducible rfl
     rotate_left
     ·simp only [Act.put, sT, sZ, sS, i64_w, i32_w]
      rfl
     refine one_ (i := 17) (N := some 42) #[true, true, true, true, true, true, true, true, true, true, true, true, true, true, true, true, true, true, true, false, false, false, false, false, false, false, false, false, false, false, false] rfl rfl (one_of HT_.out (by kernel_rfl)) (by decide) (fun K hK => ?_)
     refine goes_ Try.func24 (by kernel_rfl) rfl #[.agg #[.int .i64 t273, .int .u64 t274]] (by rfl) rfl rfl (by (try simp only [List.map_toArray, List.map_cons, List.map_nil]); first | done | rfl | (simp only [List.length_drop, List.length_take]; rfl)) ?_
     with_reducible refine (wide_Sign.calls t273 t274 t278 _ A35.out).mono ?_
     rintro e w43 ⟨rfl, hb⟩
     refine ⟨_, rfl, ?_⟩
     have n0_ := AM (Kd.R_below (by (with_reducible repeat (first | apply Kd.R_alloc | apply Kd.R_drewN | apply Kd.R_drew)); exact HO272.out) hb)
     have n1_ := AM (blk_below (g := gb266) (o := .cells #[.int .i64 a0_0, .int .i64 a0_1, .int .i64 a0_2] 23 (0, 0)) (by (with_reducible repeat (first | refine bN ?_ _ | refine bD ?_ | refine bA ?_ _)); exact BK266.out) hb)
     have n2_ := AM (blk_below (g := gb267) (o := .cells #[.int .i64 a1_0, .int .i64 a1_1, .int .i64 a1_2] 23 (0, 0)) (by (with_reducible repeat (first | refine bN ?_ _ | refine bD ?_ | refine bA ?_ _)); exact BK267.out) hb)
     have n3_ := AM (blk_below (g := gb268) (o := .cells #[.int .i64 a2_0, .int .i64 a2_1, .int .i64 a2_2] 23 (0, 0)) (by (with_reducible repeat (first | refine bN ?_ _ | refine bD ?_ | refine bA ?_ _)); exact BK268.out) hb)
     have n4_ := AM (blk_below (g := gb275) (o := .cells #[.int .i64 t273, .int .u64 t274] 31 (0, 0)) (by (with_reducible repeat (first | refine bN ?_ _ | refine bD ?_ | refine bA ?_ _)); exact BK275.out) hb)
     have n5_ := AM (below_step (by repeat (first | (with_reducible first | exact HB.out | apply below_alloc | apply pw_below_drewN | apply below_drew1 | refine below_set ?_ (Aside0.out (by assumption))) | exact HB.out)) hb)
     clear HO272
     clear BK266
     clear BK267
     clear BK268
     clear BK275
     clear HB
     have HO272 := n0_
     have BK266 := n1_
     have BK267 := n2_
     have BK268 := n3_
     have BK275 := n4_
     have HB := n5_
     clear n0_ n1_ n2_ n3_ n4_ n5_
     (try clear hb)
     (try clear hb2)
     (try clear hk)
     (try clear hi)
     refine hK.out _ _ ⟨(blk_cell BK267.out 0).trans rfl, (blk_cell BK267.out 1).trans rfl, (blk_cell BK267.out 2).trans rfl, (blk_cell BK268.out 0).trans rfl, (blk_cell BK268.out 1).trans rfl, (blk_cell BK268.out 2).trans rfl, (blk_cell BK266.out 0).trans rfl, (blk_cell BK266.out 1).trans rfl, (blk_cell BK266.out 2).trans rfl, (blk_cell BK275.out 0).trans rfl, (blk_cell BK275.out 1).trans rfl⟩ (fun hHeld => ?_)
     clear hK K
     refine norm_ (a' := ?_) ?_ ?_
     rotate_left
     ·show Act.put _ (some 42) _ = _
      simp only [Act.put, sT, sZ, sS, i64_w, i32_w]
      rfl
     refine pure_ (i := 19) (N := some 44) (v := ?_) (a' := ?_) #[true, true, true, true, true, true, true, true, true, true, true, true, true, true, true, true, true, true, true, true, false, false, false, false, false, false, false, false, false, false, false] rfl rfl (any_of HT_.out (by kernel_rfl)) (fun _ _ _ h => h) (Or.inl ⟨by rfl, ?_⟩) ?_ ?_
     rotate_left
     ·intro w'
      go_simp
      with_reducible rfl
     rotate_left
     ·simp only [Act.put, sT, sZ, sS, i64_w, i32_w]
      rfl
     refine pure_ (i := 20) (N := some 45) (v := ?_) (a' := ?_) #[true, true, true, true, true, true, true, true, true, true, true, true, true, true, true, true, true, true, true, true, true, false, false, false, false, false, false, false, false, false, false] rfl rfl (any_of HT_.out (by kernel_rfl)) (fun _ _ _ h => h) (Or.inl ⟨by rfl, ?_⟩) ?_ ?_
     rotate_left
     ·intro w'
      go_simp
      with_reducible rfl
     rotate_left
     ·simp only [Act.put, sT, sZ, sS, i64_w, i32_w]
      rfl
     refine pure_ (i := 21) (N := some 46) (v := ?_) (a' := ?_) #[true, true, true, true, true, true, true, true, true, true, true, true, true, true, true, true, true, true, true, true, true, true, false, false, false, false, false, false, false, false, false] rfl rfl (any_of HT_.out (by kernel_rfl)) (fun _ _ _ h => h) (Or.inl ⟨by rfl, ?_⟩) ?_ ?_
     rotate_left
     ·intro w'
      go_simp
      with_reducible rfl
     rotate_left
     ·simp only [Act.put, sT, sZ, sS, i64_w, i32_w]
      rfl
     refine take_ (i := 22) (N := some 47) (v := ?_) (a' := ?_) #[true, true, true, true, true, true, true, true, true, true, true, true, true, true, true, true, true, true, true, true, true, true, true, false, false, false, false, false, false, false, false] rfl rfl (take_ofW HT_.out HW_.out (by kernel_rfl)) (fun _ _ _ h => h) (Or.inl ⟨by rfl, ?_⟩) hHeld ?_ ?_
     rotate_left
     ·rintro w' ⟨s0, s1, s2, s3, s4, s5, s6, s7, s8, s9, s10⟩
      go_simp
      with_reducible rfl
     rotate_left
     ·simp only [Act.put, sT, sZ, sS, i64_w, i32_w]
      rfl
     refine take_ (i := 23) (N := some 48) (v := ?_) (a' := ?_) #[true, true, true, true, true, true, true, true, true, true, true, true, true, true, true, true, true, true, true, true, true, true, true, true, false, false, false, false, false, false, false] rfl rfl (take_ofW HT_.out HW_.out (by kernel_rfl)) (fun _ _ _ h => h) (Or.inl ⟨by rfl, ?_⟩) hHeld ?_ ?_
     rotate_left
     ·rintro w' ⟨s0, s1, s2, s3, s4, s5, s6, s7, s8, s9, s10⟩
      go_simp
      with_reducible rfl
     rotate_left
     ·simp only [Act.put, sT, sZ, sS, i64_w, i32_w]
      rfl
     refine take_ (i := 24) (N := some 49) (v := ?_) (a' := ?_) #[true, true, true, true, true, true, true, true, true, true, true, true, true, true, true, true, true, true, true, true, true, true, true, true, true, false, false, false, false, false, false] rfl rfl (take_ofW HT_.out HW_.out (by kernel_rfl)) (fun _ _ _ h => h) (Or.inl ⟨by rfl, ?_⟩) hHeld ?_ ?_
     rotate_left
     ·rintro w' ⟨s0, s1, s2, s3, s4, s5, s6, s7, s8, s9, s10⟩
      go_simp
      with_reducible rfl
     rotate_left
     ·simp only [Act.put, sT, sZ, sS, i64_w, i32_w]
      rfl
     refine take_ (i := 27) (N := some 52) (v := ?_) (a' := ?_) #[true, true, true, true, true, true, true, true, true, true, true, true, true, true, true, true, true, true, true, true, true, true, true, true, true, false, false, true, false, false, false] rfl rfl (take_ofW HT_.out HW_.out (by kernel_rfl)) (fun _ _ _ h => h) (Or.inl ⟨by rfl, ?_⟩) hHeld ?_ ?_
     rotate_left
     ·rintro w' ⟨s0, s1, s2, s3, s4, s5, s6, s7, s8, s9, s10⟩
      go_simp
      with_reducible rfl
     rotate_left
     ·simp only [Act.put, sT, sZ, sS, i64_w, i32_w]
      rfl
     refine one_ (i := 25) (N := some 50) #[true, true, true, true, true, true, true, true, true, true, true, true, true, true, true, true, true, true, true, true, true, true, true, true, true, true, false, true, false, false, false] rfl rfl (one_of HT_.out (by kernel_rfl)) (by decide) (fun K hK => ?_)
     refine Kd.R_lit_step k23 _ 23 ?hg (N := 50) ?hd (xs := ([(⟨a2_0, a2_1, a2_2⟩ : S23), (⟨a1_0, a1_1, a1_2⟩ : S23), (⟨a0_0, a0_1, a0_2⟩ : S23)] : List (S23))) (inner := [.int .i64 a2_0, .int .i64 a2_1, .int .i64 a2_2, .int .i64 a1_0, .int .i64 a1_1, .int .i64 a1_2, .int .i64 a0_0, .int .i64 a0_1, .int .i64 a0_2]) (ok := fun _ => True) (okp := fun _ => True) ?hr ?hp (fun _ hk => hk) trivial (Below.refl _ _) (Nat.le_refl _) (by simp) ?_; (case hd => rfl); (case hg => rfl); (case hr => first | (go_simp; done) | (go_simp; rfl)); (case hp => exact (Reps.c3 (show Kd.M k23 _ _ _ (⟨a2_0, a2_1, a2_2⟩ : S23) [.int .i64 a2_0, .int .i64 a2_1, .int .i64 a2_2] from (k23_mkM _ _ _ (⟨a2_0, a2_1, a2_2⟩ : S23) )) (Reps.c3 (show Kd.M k23 _ _ _ (⟨a1_0, a1_1, a1_2⟩ : S23) [.int .i64 a1_0, .int .i64 a1_1, .int .i64 a1_2] from (k23_mkM _ _ _ (⟨a1_0, a1_1, a1_2⟩ : S23) )) (Reps.c3 (show Kd.M k23 _ _ _ (⟨a0_0, a0_1, a0_2⟩ : S23) [.int .i64 a0_0, .int .i64 a0_1, .int .i64 a0_2] from (k23_mkM _ _ _ (⟨a0_0, a0_1, a0_2⟩ : S23) )) (Reps.none _ _)))))
     intro v280 w44 ho45 hb hg_ hnew_
     clear hg_ hnew_
     (first | rw [← Ny279.out] at ho45 | (simp only [Int.reduceToNat] at ho45; rw [← Ny279.out] at ho45))
     have n0_ := AM (Kd.R_elder' (by (with_reducible repeat (first | apply Kd.R_alloc | apply Kd.R_drewN | apply Kd.R_drew)); exact HO272.out) (Kd.R_base ho45) hb)
     have n1_ := AM (Kd.R_lower (Kd.R_newB (Kd.R_newB (Kd.R_newB (Kd.R_new' ho45 (Kd.R_lt (by (with_reducible repeat (first | apply Kd.R_alloc | apply Kd.R_drewN | apply Kd.R_drew)); exact HO272.out))) (g := gb266) (o := .cells #[.int .i64 a0_0, .int .i64 a0_1, .int .i64 a0_2] 23 (0, 0)) (by (with_reducible repeat (first | refine bN ?_ _ | refine bD ?_ | refine bA ?_ _)); exact BK266.out)) (g := gb267) (o := .cells #[.int .i64 a1_0, .int .i64 a1_1, .int .i64 a1_2] 23 (0, 0)) (by (with_reducible repeat (first | refine bN ?_ _ | refine bD ?_ | refine bA ?_ _)); exact BK267.out)) (g := gb268) (o := .cells #[.int .i64 a2_0, .int .i64 a2_1, .int .i64 a2_2] 23 (0, 0)) (by (with_reducible repeat (first | refine bN ?_ _ | refine bD ?_ | refine bA ?_ _)); exact BK268.out)) (below_size (by repeat (first | (with_reducible first | exact HB.out | apply below_alloc | apply pw_below_drewN | apply below_drew1 | refine below_set ?_ (Aside0.out (by assumption))) | exact HB.out))))
     have n2_ := AM (blk_below (g := gb266) (o := .cells #[.int .i64 a0_0, .int .i64 a0_1, .int .i64 a0_2] 23 (0, 0)) (by (with_reducible repeat (first | refine bN ?_ _ | refine bD ?_ | refine bA ?_ _)); exact BK266.out) hb)
     have n3_ := AM (blk_below (g := gb267) (o := .cells #[.int .i64 a1_0, .int .i64 a1_1, .int .i64 a1_2] 23 (0, 0)) (by (with_reducible repeat (first | refine bN ?_ _ | refine bD ?_ | refine bA ?_ _)); exact BK267.out) hb)
     have n4_ := AM (blk_below (g := gb268) (o := .cells #[.int .i64 a2_0, .int .i64 a2_1, .int .i64 a2_2] 23 (0, 0)) (by (with_reducible repeat (first | refine bN ?_ _ | refine bD ?_ | refine bA ?_ _)); exact BK268.out) hb)
     have n5_ := AM (blk_below (g := gb275) (o := .cells #[.int .i64 t273, .int .u64 t274] 31 (0, 0)) (by (with_reducible repeat (first | refine bN ?_ _ | refine bD ?_ | refine bA ?_ _)); exact BK275.out) hb)
     have n6_ := AM (below_step (by repeat (first | (with_reducible first | exact HB.out | apply below_alloc | apply pw_below_drewN | apply below_drew1 | refine below_set ?_ (Aside0.out (by assumption))) | exact HB.out)) hb)
     clear HO272
     clear BK266
     clear BK267
     clear BK268
     clear BK275
     clear HB
     have HO272 := n0_
     have HO281 := n1_
     have BK266 := n2_
     have BK267 := n3_
     have BK268 := n4_
     have BK275 := n5_
     have HB := n6_
     clear n0_ n1_ n2_ n3_ n4_ n5_ n6_
     clear hb ho45
     obtain ⟨Ao46, co46, eo46⟩ := Kd.R_slice HO281.out
     (first | subst eo46 | (injection eo46 with f1_ f2_ f3_; have f4_ := f1_.symm; have f5_ := f3_.symm; clear f1_ f2_ f3_; subst f4_; subst f5_))
     refine hK.out _ _ ⟨(blk_cell BK267.out 0).trans rfl, (blk_cell BK267.out 1).trans rfl, (blk_cell BK267.out 2).trans rfl, (blk_cell BK268.out 0).trans rfl, (blk_cell BK268.out 1).trans rfl, (blk_cell BK268.out 2).trans rfl, (blk_cell BK266.out 0).trans rfl, (blk_cell BK266.out 1).trans rfl, (blk_cell BK266.out 2).trans rfl, (blk_cell BK275.out 0).trans rfl, (blk_cell BK275.out 1).trans rfl⟩ (fun hHeld => ?_)
     clear hK K
     refine norm_ (a' := ?_) ?_ ?_
     rotate_left
     ·show Act.put _ (some 50) _ = _
      simp only [Act.put, sT, sZ, sS, i64_w, i32_w]
      rfl
     refine one_ (i := 26) (N := some 51) #[true, true, true, true, true, true, true, true, true, true, true, true, true, true, true, true, true, true, true, true, true, true, true, true, true, true, true, true, false, false, false] rfl rfl (one_of HT_.out (by kernel_rfl)) (by decide) (fun K hK => ?_)
     refine goes_ Try.func16 (by kernel_rfl) rfl #[.slice Ao46 y279.length co46] (by rfl) rfl rfl (by (try simp only [List.map_toArray, List.map_cons, List.map_nil]); first | done | rfl | (simp only [List.length_drop, List.length_take]; rfl)) ?_
     with_reducible refine (geom_Area.calls k _ _ y279 t282 t283 _ ?side1 ?side2 A37.out).mono ?_
     (case side1 => repeat (first | exact (Kd.R_reads' HO281.out).2.2 | (with_reducible refine Kd.C_alloc ?_ _) | (with_reducible refine Kd.C_drewN ?_ _) | (with_reducible refine Kd.C_drew ?_)))
     (case side2 => exact (Kd.R_reads' HO281.out).2.1)
     rintro e w47 ⟨rfl, hb⟩
     refine ⟨_, rfl, ?_⟩
     have n0_ := AM (Kd.R_below (by (with_reducible repeat (first | apply Kd.R_alloc | apply Kd.R_drewN | apply Kd.R_drew)); exact HO272.out) hb)
     have n1_ := AM (Kd.R_below (by (with_reducible repeat (first | apply Kd.R_alloc | apply Kd.R_drewN | apply Kd.R_drew)); exact HO281.out) hb)
     have n2_ := AM (blk_below (g := gb266) (o := .cells #[.int .i64 a0_0, .int .i64 a0_1, .int .i64 a0_2] 23 (0, 0)) (by (with_reducible repeat (first | refine bN ?_ _ | refine bD ?_ | refine bA ?_ _)); exact BK266.out) hb)
     have n3_ := AM (blk_below (g := gb267) (o := .cells #[.int .i64 a1_0, .int .i64 a1_1, .int .i64 a1_2] 23 (0, 0)) (by (with_reducible repeat (first | refine bN ?_ _ | refine bD ?_ | refine bA ?_ _)); exact BK267.out) hb)
     have n4_ := AM (blk_below (g := gb268) (o := .cells #[.int .i64 a2_0, .int .i64 a2_1, .int .i64 a2_2] 23 (0, 0)) (by (with_reducible repeat (first | refine bN ?_ _ | refine bD ?_ | refine bA ?_ _)); exact BK268.out) hb)
     have n5_ := AM (blk_below (g := gb275) (o := .cells #[.int .i64 t273, .int .u64 t274] 31 (0, 0)) (by (with_reducible repeat (first | refine bN ?_ _ | refine bD ?_ | refine bA ?_ _)); exact BK275.out) hb)
     have n6_ := AM (below_step (by repeat (first | (with_reducible first | exact HB.out | apply below_alloc | apply pw_below_drewN | apply below_drew1 | refine below_set ?_ (Aside0.out (by assumption))) | exact HB.out)) hb)
     clear HO272
     clear HO281
     clear BK266
     clear BK267
     clear BK268
     clear BK275
     clear HB
     have HO272 := n0_
     have HO281 := n1_
     have BK266 := n2_
     have BK267 := n3_
     have BK268 := n4_
     have BK275 := n5_
     have HB := n6_
     clear n0_ n1_ n2_ n3_ n4_ n5_ n6_
     (try clear hb)
     (try clear hb2)
     (try clear hk)
     (try clear hi)
     refine hK.out _ _ ⟨(blk_cell BK267.out 0).trans rfl, (blk_cell BK267.out 1).trans rfl, (blk_cell BK267.out 2).trans rfl, (blk_cell BK268.out 0).trans rfl, (blk_cell BK268.out 1).trans rfl, (blk_cell BK268.out 2).trans rfl, (blk_cell BK266.out 0).trans rfl, (blk_cell BK266.out 1).trans rfl, (blk_cell BK266.out 2).trans rfl, (blk_cell BK275.out 0).trans rfl, (blk_cell BK275.out 1).trans rfl⟩ (fun hHeld => ?_)
     clear hK K
     refine norm_ (a' := ?_) ?_ ?_
     rotate_left
     ·show Act.put _ (some 51) _ = _
      simp only [Act.put, sT, sZ, sS, i64_w, i32_w]
      rfl
     refine one_ (i := 28) (N := some 53) #[true, true, true, true, true, true, true, true, true, true, true, true, true, true, true, true, true, true, true, true, true, true, true, true, true, true, true, true, true, false, false] rfl rfl (one_of HT_.out (by kernel_rfl)) (by decide) (fun K hK => ?_)
     refine goes_ Try.func19 (by kernel_rfl) rfl #[.agg #[.int .i64 t273, .int .u64 t274]] (by rfl) rfl rfl (by (try simp only [List.map_toArray, List.map_cons, List.map_nil]); first | done | rfl | (simp only [List.length_drop, List.length_take]; rfl)) ?_
     with_reducible refine (wide_Neg.calls k t273 t274 t284 t285 _ A38.out).mono ?_
     rintro e w48 ⟨rfl, hb⟩
     refine ⟨_, rfl, ?_⟩
     have n0_ := AM (Kd.R_below (by (with_reducible repeat (first | apply Kd.R_alloc | apply Kd.R_drewN | apply Kd.R_drew)); exact HO272.out) hb)
     have n1_ := AM (Kd.R_below (by (with_reducible repeat (first | apply Kd.R_alloc | apply Kd.R_drewN | apply Kd.R_drew)); exact HO281.out) hb)
     have n2_ := AM (blk_below (g := gb266) (o := .cells #[.int .i64 a0_0, .int .i64 a0_1, .int .i64 a0_2] 23 (0, 0)) (by (with_reducible repeat (first | refine bN ?_ _ | refine bD ?_ | refine bA ?_ _)); exact BK266.out) hb)
     have n3_ := AM (blk_below (g := gb267) (o := .cells #[.int .i64 a1_0, .int .i64 a1_1, .int .i64 a1_2] 23 (0, 0)) (by (with_reducible repeat (first | refine bN ?_ _ | refine bD ?_ | refine bA ?_ _)); exact BK267.out) hb)
     have n4_ := AM (blk_below (g := gb268) (o := .cells #[.int .i64 a2_0, .int .i64 a2_1, .int .i64 a2_2] 23 (0, 0)) (by (with_reducible repeat (first | refine bN ?_ _ | refine bD ?_ | refine bA ?_ _)); exact BK268.out) hb)
     have n5_ := AM (blk_below (g := gb275) (o := .cells #[.int .i64 t273, .int .u64 t274] 31 (0, 0)) (by (with_reducible repeat (first | refine bN ?_ _ | refine bD ?_ | refine bA ?_ _)); exact BK275.out) hb)
     have n6_ := AM (below_step (by repeat (first | (with_reducible first | exact HB.out | apply below_alloc | apply pw_below_drewN | apply below_drew1 | refine below_set ?_ (Aside0.out (by assumption))) | exact HB.out)) hb)
     clear HO272
     clear HO281
     clear BK266
     clear BK267
     clear BK268
     clear BK275
     clear HB
     have HO272 := n0_
     have HO281 := n1_
     have BK266 := n2_
     have BK267 := n3_
     have BK268 := n4_
     have BK275 := n5_
     have HB := n6_
     clear n0_ n1_ n2_ n3_ n4_ n5_ n6_
     (try clear hb)
     (try clear hb2)
     (try clear hk)
     (try clear hi)
     refine hK.out _ _ ⟨(blk_cell BK267.out 0).trans rfl, (blk_cell BK267.out 1).trans rfl, (blk_cell BK267.out 2).trans rfl, (blk_cell BK268.out 0).trans rfl, (blk_cell BK268.out 1).trans rfl, (blk_cell BK268.out 2).trans rfl, (blk_cell BK266.out 0).trans rfl, (blk_cell BK266.out 1).trans rfl, (blk_cell BK266.out 2).trans rfl, (blk_cell BK275.out 0).trans rfl, (blk_cell BK275.out 1).trans rfl⟩ (fun hHeld => ?_)
     clear hK K
     refine norm_ (a' := ?_) ?_ ?_
     rotate_left
     ·show Act.put _ (some 53) _ = _
      simp only [Act.put, sT, sZ, sS, i64_w, i32_w]
      rfl
     refine pure_ (i := 29) (N := some 54) (v := ?_) (a' := ?_) #[true, true, true, true, true, true, true, true, true, true, true, true, true, true, true, true, true, true, true, true, true, true, true, true, true, true, true, true, true, true, false] rfl rfl (any_of HT_.out (by kernel_rfl)) (fun _ _ _ h => h) (Or.inl ⟨by rfl, ?_⟩) ?_ ?_
     rotate_left
     ·intro w'
      go_simp
      with_reducible rfl
     rotate_left
     ·simp only [Act.put, sT, sZ, sS, i64_w, i32_w]
      rfl
     refine pure_ (i := 30) (N := some 55) (v := ?_) (a' := ?_) #[true, true, true, true, true, true, true, true, true, true, true, true, true, true, true, true, true, true, true, true, true, true, true, true, true, true, true, true, true, true, true] rfl rfl (any_of HT_.out (by kernel_rfl)) (fun _ _ _ h => h) (Or.inl ⟨by rfl, ?_⟩) ?_ ?_
     rotate_left
     ·intro w'
      go_simp
      with_reducible rfl
     rotate_left
     ·simp only [Act.put, sT, sZ, sS, i64_w, i32_w]
      rfl
     refine done_ (done_of HT_.out (by kernel_rfl)) ?_
     try go_wp2
     go_meet
     case rel => exact ⟨_, ((!(t282 == t284) || (!(t283 == t285)))), (by first | rfl | (simp; done) | (simp [*]; done)), H', ⟨by first | omega | exact Nat.le_refl _⟩, ⟨by (with_reducible repeat (first | refine bN ?_ _ | refine bD ?_ | refine bA ?_ _)); exact BK266.out⟩, ⟨by (with_reducible repeat (first | refine bN ?_ _ | refine bD ?_ | refine bA ?_ _)); exact BK267.out⟩, ⟨by (with_reducible repeat (first | refine bN ?_ _ | refine bD ?_ | refine bA ?_ _)); exact BK268.out⟩, ⟨by (with_reducible repeat (first | refine bN ?_ _ | refine bD ?_ | refine bA ?_ _)); exact BK275.out⟩, ⟨by repeat (first | (with_reducible first | exact HB.out | apply below_alloc | apply pw_below_drewN | apply below_drew1 | refine below_set ?_ (Aside0.out (by assumption))) | exact HB.out)⟩⟩
    ·rw [if_neg c36] at H
     have c36b0 : (t278 == t269) = false := beq_eq_false_iff_ne.mpr c36
     have c36b1 : (t278 != t269) = true := bne_iff_ne.mpr c36
     have H' := AM H
     clear H
     try go_wp2
     have n0_ : Aside0 (Kd.R k23 23 ((w26.setCell ⟨gb275, 0, none⟩ (.int .i64 t273)).setCell ⟨gb275, 1, none⟩ (.int .u64 t274)) w.heap.size (fun k_ => k_ ≠ gb266 ∧ k_ ≠ gb267 ∧ k_ ≠ gb268) (.slice Ao24 y270.length co24) y270) := ⟨by (with_reducible repeat (first | apply Kd.R_alloc | apply Kd.R_drewN | apply Kd.R_drew)); exact Kd.R_mono (Kd.R_far (p := ⟨gb275, 1, none⟩) (Kd.R_far (p := ⟨gb275, 0, none⟩) (Kd.R_types HO272.out BK275.out (by decide)) (fun _ hk => hk.2) (.int .i64 t273)) (fun _ hk => hk.2) (.int .u64 t274)) (fun _ hk => ⟨hk.1.1.1.2, ⟨hk.1.1.2, hk.1.2⟩⟩)⟩
     have n1_ : Aside0 (((w26.setCell ⟨gb275, 0, none⟩ (.int .i64 t273)).setCell ⟨gb275, 1, none⟩ (.int .u64 t274)).heap[gb266]? = some (.cells #[.int .i64 a0_0, .int .i64 a0_1, .int .i64 a0_2] 23 (0, 0))) := ⟨by (with_reducible repeat (first | refine bN ?_ _ | refine bD ?_ | refine bA ?_ _)); refine blk_far ?_ NB266_275.out _; (with_reducible repeat (first | refine bN ?_ _ | refine bD ?_ | refine bA ?_ _)); refine blk_far ?_ NB266_275.out _; (with_reducible repeat (first | refine bN ?_ _ | refine bD ?_ | refine bA ?_ _)); exact BK266.out⟩
     have n2_ : Aside0 (((w26.setCell ⟨gb275, 0, none⟩ (.int .i64 t273)).setCell ⟨gb275, 1, none⟩ (.int .u64 t274)).heap[gb267]? = some (.cells #[.int .i64 a1_0, .int .i64 a1_1, .int .i64 a1_2] 23 (0, 0))) := ⟨by (with_reducible repeat (first | refine bN ?_ _ | refine bD ?_ | refine bA ?_ _)); refine blk_far ?_ NB267_275.out _; (with_reducible repeat (first | refine bN ?_ _ | refine bD ?_ | refine bA ?_ _)); refine blk_far ?_ NB267_275.out _; (with_reducible repeat (first | refine bN ?_ _ | refine bD ?_ | refine bA ?_ _)); exact BK267.out⟩
     have n3_ : Aside0 (((w26.setCell ⟨gb275, 0, none⟩ (.int .i64 t273)).setCell ⟨gb275, 1, none⟩ (.int .u64 t274)).heap[gb268]? = some (.cells #[.int .i64 a2_0, .int .i64 a2_1, .int .i64 a2_2] 23 (0, 0))) := ⟨by (with_reducible repeat (first | refine bN ?_ _ | refine bD ?_ | refine bA ?_ _)); refine blk_far ?_ NB268_275.out _; (with_reducible repeat (first | refine bN ?_ _ | refine bD ?_ | refine bA ?_ _)); refine blk_far ?_ NB268_275.out _; (with_reducible repeat (first | refine bN ?_ _ | refine bD ?_ | refine bA ?_ _)); exact BK268.out⟩
     have n4_ : Aside0 (((w26.setCell ⟨gb275, 0, none⟩ (.int .i64 t273)).setCell ⟨gb275, 1, none⟩ (.int .u64 t274)).heap[gb275]? = some (.cells #[.int .i64 t273, .int .u64 t274] 31 (0, 0))) := ⟨by (with_reducible repeat (first | refine bN ?_ _ | refine bD ?_ | refine bA ?_ _)); refine blk_put (cs := #[.int .i64 t273, .int .u64 0]) ?_ 1 _ rfl; (with_reducible repeat (first | refine bN ?_ _ | refine bD ?_ | refine bA ?_ _)); refine blk_put (cs := #[.int .i64 0, .int .u64 0]) ?_ 0 _ rfl; (with_reducible repeat (first | refine bN ?_ _ | refine bD ?_ | refine bA ?_ _)); exact BK275.out⟩
     have n5_ : Aside0 (Below w.heap.size w ((w26.setCell ⟨gb275, 0, none⟩ (.int .i64 t273)).setCell ⟨gb275, 1, none⟩ (.int .u64 t274))) := ⟨by repeat (first | (with_reducible first | exact HB.out | apply below_alloc | apply pw_below_drewN | apply below_drew1 | refine below_set ?_ (Aside0.out (by assumption))) | exact HB.out)⟩
     (try clear HO272)
     (try clear BK266)
     (try clear BK267)
     (try clear BK268)
     (try clear BK275)
     (try clear HB)
     generalize ((w26.setCell ⟨gb275, 0, none⟩ (.int .i64 t273)).setCell ⟨gb275, 1, none⟩ (.int .u64 t274)) = w49 at n0_ n1_ n2_ n3_ n4_ n5_ ⊢
     have HO272 := n0_
     have BK266 := n1_
     have BK267 := n2_
     have BK268 := n3_
     have BK275 := n4_
     have HB := n5_
     clear n0_ n1_ n2_ n3_ n4_ n5_
     have n0_ := AM (Kd.R_drew HO272.out)
     have n1_ := AM (bD BK266.out)
     have n2_ := AM (bD BK267.out)
     have n3_ := AM (bD BK268.out)
     have n4_ := AM (bD BK275.out)
     have n5_ := AM (below_drew1 HB.out)
     clear HO272
     clear BK266
     clear BK267
     clear BK268
     clear BK275
     clear HB
     have HO272 := n0_
     have BK266 := n1_
     have BK267 := n2_
     have BK268 := n3_
     have BK275 := n4_
     have HB := n5_
     clear n0_ n1_ n2_ n3_ n4_ n5_
     refine start_ (n := 31) (S := fun w' => w'.cell? ⟨gb267, 0, none⟩ = some (.int .i64 a1_0) ∧ w'.cell? ⟨gb267, 1, none⟩ = some (.int .i64 a1_1) ∧ w'.cell? ⟨gb267, 2, none⟩ = some (.int .i64 a1_2) ∧ w'.cell? ⟨gb268, 0, none⟩ = some (.int .i64 a2_0) ∧ w'.cell? ⟨gb268, 1, none⟩ = some (.int .i64 a2_1) ∧ w'.cell? ⟨gb268, 2, none⟩ = some (.int .i64 a2_2) ∧ w'.cell? ⟨gb266, 0, none⟩ = some (.int .i64 a0_0) ∧ w'.cell? ⟨gb266, 1, none⟩ = some (.int .i64 a0_1) ∧ w'.cell? ⟨gb266, 2, none⟩ = some (.int .i64 a0_2) ∧ w'.cell? ⟨gb275, 0, none⟩ = some (.int .i64 t273) ∧ w'.cell? ⟨gb275, 1, none⟩ = some (.int .u64 t274)) (ds := []) #[false, false, false, false, false, false, false, false, false, false, false, false, false, false, false, false, false, false, false, false, false, false, false, false, false, false, false, false, false, false, false] (by kernel_rfl) rfl rfl ⟨(blk_cell BK267.out 0).trans rfl, (blk_cell BK267.out 1).trans rfl, (blk_cell BK267.out 2).trans rfl, (blk_cell BK268.out 0).trans rfl, (blk_cell BK268.out 1).trans rfl, (blk_cell BK268.out 2).trans rfl, (blk_cell BK266.out 0).trans rfl, (blk_cell BK266.out 1).trans rfl, (blk_cell BK266.out 2).trans rfl, (blk_cell BK275.out 0).trans rfl, (blk_cell BK275.out 1).trans rfl⟩ (fun hHeld => ?_); refine with_tabW lapidarylaw09_GeomLaws.tab3 lapidarylaw09_GeomLaws.bits3 (fun HT_ HW_ => ?_)
     generalize w49.drew = w50 at HO272 BK266 BK267 BK268 BK275 HB hHeld ⊢
     refine pure_ (i := 0) (N := some 25) (v := ?_) (a' := ?_) #[true, false, false, false, false, false, false, false, false, false, false, false, false, false, false, false, false, false, false, false, false, false, false, false, false, false, false, false, false, false, false] rfl rfl (any_of HT_.out (by kernel_rfl)) (fun _ _ _ h => h) (Or.inl ⟨by rfl, ?_⟩) ?_ ?_
     rotate_left
     ·intro w'
      go_simp
      with_reducible rfl
     rotate_left
     ·simp only [Act.put, sT, sZ, sS, i64_w, i32_w]
      rfl
     refine take_ (i := 1) (N := some 26) (v := ?_) (a' := ?_) #[true, true, false, false, false, false, false, false, false, false, false, false, false, false, false, false, false, false, false, false, false, false, false, false, false, false, false, false, false, false, false] rfl rfl (take_ofW HT_.out HW_.out (by kernel_rfl)) (fun _ _ _ h => h) (Or.inl ⟨by rfl, ?_⟩) hHeld ?_ ?_
     rotate_left
     ·rintro w' ⟨s0, s1, s2, s3, s4, s5, s6, s7, s8, s9, s10⟩
      go_simp
      with_reducible rfl
     rotate_left
     ·simp only [Act.put, sT, sZ, sS, i64_w, i32_w]
      rfl
     refine take_ (i := 2) (N := some 27) (v := ?_) (a' := ?_) #[true, true, true, false, false, false, false, false, false, false, false, false, false, false, false, false, false, false, false, false, false, false, false, false, false, false, false, false, false, false, false] rfl rfl (take_ofW HT_.out HW_.out (by kernel_rfl)) (fun _ _ _ h => h) (Or.inl ⟨by rfl, ?_⟩) hHeld ?_ ?_
     rotate_left
     ·rintro w' ⟨s0, s1, s2, s3, s4, s5, s6, s7, s8, s9, s10⟩
      go_simp
      with_reducible rfl
     rotate_left
     ·simp only [Act.put, sT, sZ, sS, i64_w, i32_w]
      rfl
     refine take_ (i := 3) (N := some 28) (v := ?_) (a' := ?_) #[true, true, true, true, false, false, false, false, false, false, false, false, false, false, false, false, false, false, false, false, false, false, false, false, false, false, false, false, false, false, false] rfl rfl (take_ofW HT_.out HW_.out (by kernel_rfl)) (fun _ _ _ h => h) (Or.inl ⟨by rfl, ?_⟩) hHeld ?_ ?_
     rotate_left
     ·rintro w' ⟨s0, s1, s2, s3, s4, s5, s6, s7, s8, s9, s10⟩
      go_simp
      with_reducible rfl
     rotate_left
     ·simp only [Act.put, sT, sZ, sS, i64_w, i32_w]
      rfl
     refine one_ (i := 4) (N := some 29) #[true, true, true, true, true, false, false, false, false, false, false, false, false, false, false, false, false, false, false, false, false, false, false, false, false, false, false, false, false, false, false] rfl rfl (one_of HT_.out (by kernel_rfl)) (by decide) (fun K hK => ?_)
     refine goes_ Try.func20 (by kernel_rfl) rfl #[.agg #[.int .i64 a1_0, .int .i64 a1_1, .int .i64 a1_2], .agg #[.int .i64 a2_0, .int .i64 a2_1, .int .i64 a2_2], .agg #[.int .i64 a0_0, .int .i64 a0_1, .int .i64 a0_2]] (by rfl) rfl rfl (by (try simp only [List.map_toArray, List.map_cons, List.map_nil]); first | done | rfl | (simp only [List.length_drop, List.length_take]; rfl)) ?_
     with_reducible refine (geom_Turn.calls k a1_0 a1_1 a1_2 a2_0 a2_1 a2_2 a0_0 a0_1 a0_2 t276 _ A31.out).mono ?_
     rintro e w51 ⟨rfl, hb⟩
     refine ⟨_, rfl, ?_⟩
     have n0_ := AM (Kd.R_below (by (with_reducible repeat (first | apply Kd.R_alloc | apply Kd.R_drewN | apply Kd.R_drew)); exact HO272.out) hb)
     have n1_ := AM (blk_below (g := gb266) (o := .cells #[.int .i64 a0_0, .int .i64 a0_1, .int .i64 a0_2] 23 (0, 0)) (by (with_reducible repeat (first | refine bN ?_ _ | refine bD ?_ | refine bA ?_ _)); exact BK266.out) hb)
     have n2_ := AM (blk_below (g := gb267) (o := .cells #[.int .i64 a1_0, .int .i64 a1_1, .int .i64 a1_2] 23 (0, 0)) (by (with_reducible repeat (first | refine bN ?_ _ | refine bD ?_ | refine bA ?_ _)); exact BK267.out) hb)
     have n3_ := AM (blk_below (g := gb268) (o := .cells #[.int .i64 a2_0, .int .i64 a2_1, .int .i64 a2_2] 23 (0, 0)) (by (with_reducible repeat (first | refine bN ?_ _ | refine bD ?_ | refine bA ?_ _)); exact BK268.out) hb)
     have n4_ := AM (blk_below (g := gb275) (o := .cells #[.int .i64 t273, .int .u64 t274] 31 (0, 0)) (by (with_reducible repeat (first | refine bN ?_ _ | refine bD ?_ | refine bA ?_ _)); exact BK275.out) hb)
     have n5_ := AM (below_step (by repeat (first | (with_reducible first | exact HB.out | apply below_alloc | apply pw_below_drewN | apply below_drew1 | refine below_set ?_ (Aside0.out (by assumption))) | exact HB.out)) hb)
     clear HO272
     clear BK266
     clear BK267
     clear BK268
     clear BK275
     clear HB
     have HO272 := n0_
     have BK266 := n1_
     have BK267 := n2_
     have BK268 := n3_
     have BK275 := n4_
     have HB := n5_
     clear n0_ n1_ n2_ n3_ n4_ n5_
     (try clear hb)
     (try clear hb2)
     (try clear hk)
     (try clear hi)
     refine hK.out _ _ ⟨(blk_cell BK267.out 0).trans rfl, (blk_cell BK267.out 1).trans rfl, (blk_cell BK267.out 2).trans rfl, (blk_cell BK268.out 0).trans rfl, (blk_cell BK268.out 1).trans rfl, (blk_cell BK268.out 2).trans rfl, (blk_cell BK266.out 0).trans rfl, (blk_cell BK266.out 1).trans rfl, (blk_cell BK266.out 2).trans rfl, (blk_cell BK275.out 0).trans rfl, (blk_cell BK275.out 1).trans rfl⟩ (fun hHeld => ?_)
     clear hK K
     refine norm_ (a' := ?_) ?_ ?_
     rotate_left
     ·show Act.put _ (some 29) _ = _
      simp only [Act.put, sT, sZ, sS, i64_w, i32_w]
      rfl
     refine pure_ (i := 5) (N := some 30) (v := ?_) (a' := ?_) #[true, true, true, true, true, true, false, false, false, false, false, false, false, false, false, false, false, false, false, false, false, false, false, false, false, false, false, false, false, false, false] rfl rfl (any_of HT_.out (by kernel_rfl)) (fun _ _ _ h => h) (Or.inl ⟨by rfl, ?_⟩) ?_ ?_
     rotate_left
     ·intro w'
      go_simp
      with_reducible rfl
     rotate_left
     ·simp only [Act.put, sT, sZ, sS, i64_w, i32_w]
      rfl
     refine pure_ (i := 6) (N := some 31) (v := ?_) (a' := ?_) #[true, true, true, true, true, true, true, false, false, false, false, false, false, false, false, false, false, false, false, false, false, false, false, false, false, false, false, false, false, false, false] rfl rfl (any_of HT_.out (by kernel_rfl)) (fun _ _ _ h => h) (Or.inl ⟨by rfl, ?_⟩) ?_ ?_
     rotate_left
     ·intro w'
      go_simp
      with_reducible rfl
     rotate_left
     ·simp only [Act.put, sT, sZ, sS, i64_w, i32_w]
      rfl
     refine pure_ (i := 7) (N := some 32) (v := ?_) (a' := ?_) #[true, true, true, true, true, true, true, true, false, false, false, false, false, false, false, false, false, false, false, false, false, false, false, false, false, false, false, false, false, false, false] rfl rfl (any_of HT_.out (by kernel_rfl)) (fun _ _ _ h => h) (Or.inl ⟨by rfl, ?_⟩) ?_ ?_
     rotate_left
     ·intro w'
      go_simp
      with_reducible rfl
     rotate_left
     ·simp only [Act.put, sT, sZ, sS, i64_w, i32_w]
      rfl
     refine take_ (i := 8) (N := some 33) (v := ?_) (a' := ?_) #[true, true, true, true, true, true, true, true, true, false, false, false, false, false, false, false, false, false, false, false, false, false, false, false, false, false, false, false, false, false, false] rfl rfl (take_ofW HT_.out HW_.out (by kernel_rfl)) (fun _ _ _ h => h) (Or.inl ⟨by rfl, ?_⟩) hHeld ?_ ?_
     rotate_left
     ·rintro w' ⟨s0, s1, s2, s3, s4, s5, s6, s7, s8, s9, s10⟩
      go_simp
      with_reducible rfl
     rotate_left
     ·simp only [Act.put, sT, sZ, sS, i64_w, i32_w]
      rfl
     refine take_ (i := 9) (N := some 34) (v := ?_) (a' := ?_) #[true, true, true, true, true, true, true, true, true, true, false, false, false, false, false, false, false, false, false, false, false, false, false, false, false, false, false, false, false, false, false] rfl rfl (take_ofW HT_.out HW_.out (by kernel_rfl)) (fun _ _ _ h => h) (Or.inl ⟨by rfl, ?_⟩) hHeld ?_ ?_
     rotate_left
     ·rintro w' ⟨s0, s1, s2, s3, s4, s5, s6, s7, s8, s9, s10⟩
      go_simp
      with_reducible rfl
     rotate_left
     ·simp only [Act.put, sT, sZ, sS, i64_w, i32_w]
      rfl
     refine take_ (i := 10) (N := some 35) (v := ?_) (a' := ?_) #[true, true, true, true, true, true, true, true, true, true, true, false, false, false, false, false, false, false, false, false, false, false, false, false, false, false, false, false, false, false, false] rfl rfl (take_ofW HT_.out HW_.out (by kernel_rfl)) (fun _ _ _ h => h) (Or.inl ⟨by rfl, ?_⟩) hHeld ?_ ?_
     rotate_left
     ·rintro w' ⟨s0, s1, s2, s3, s4, s5, s6, s7, s8, s9, s10⟩
      go_simp
      with_reducible rfl
     rotate_left
     ·simp only [Act.put, sT, sZ, sS, i64_w, i32_w]
      rfl
     refine one_ (i := 11) (N := some 36) #[true, true, true, true, true, true, true, true, true, true, true, true, false, false, false, false, false, false, false, false, false, false, false, false, false, false, false, false, false, false, false] rfl rfl (one_of HT_.out (by kernel_rfl)) (by decide) (fun K hK => ?_)
     refine goes_ Try.func20 (by kernel_rfl) rfl #[.agg #[.int .i64 a1_0, .int .i64 a1_1, .int .i64 a1_2], .agg #[.int .i64 a0_0, .int .i64 a0_1, .int .i64 a0_2], .agg #[.int .i64 a2_0, .int .i64 a2_1, .int .i64 a2_2]] (by rfl) rfl rfl (by (try simp only [List.map_toArray, List.map_cons, List.map_nil]); first | done | rfl | (simp only [List.length_drop, List.length_take]; rfl)) ?_
     with_reducible refine (geom_Turn.calls k a1_0 a1_1 a1_2 a0_0 a0_1 a0_2 a2_0 a2_1 a2_2 t277 _ A33.out).mono ?_
     rintro e w52 ⟨rfl, hb⟩
     refine ⟨_, rfl, ?_⟩
     have n0_ := AM (Kd.R_below (by (with_reducible repeat (first | apply Kd.R_alloc | apply Kd.R_drewN | apply Kd.R_drew)); exact HO272.out) hb)
     have n1_ := AM (blk_below (g := gb266) (o := .cells #[.int .i64 a0_0, .int .i64 a0_1, .int .i64 a0_2] 23 (0, 0)) (by (with_reducible repeat (first | refine bN ?_ _ | refine bD ?_ | refine bA ?_ _)); exact BK266.out) hb)
     have n2_ := AM (blk_below (g := gb267) (o := .cells #[.int .i64 a1_0, .int .i64 a1_1, .int .i64 a1_2] 23 (0, 0)) (by (with_reducible repeat (first | refine bN ?_ _ | refine bD ?_ | refine bA ?_ _)); exact BK267.out) hb)
     have n3_ := AM (blk_below (g := gb268) (o := .cells #[.int .i64 a2_0, .int .i64 a2_1, .int .i64 a2_2] 23 (0, 0)) (by (with_reducible repeat (first | refine bN ?_ _ | refine bD ?_ | refine bA ?_ _)); exact BK268.out) hb)
     have n4_ := AM (blk_below (g := gb275) (o := .cells #[.int .i64 t273, .int .u64 t274] 31 (0, 0)) (by (with_reducible repeat (first | refine bN ?_ _ | refine bD ?_ | refine bA ?_ _)); exact BK275.out) hb)
     have n5_ := AM (below_step (by repeat (first | (with_reducible first | exact HB.out | apply below_alloc | apply pw_below_drewN | apply below_drew1 | refine below_set ?_ (Aside0.out (by assumption))) | exact HB.out)) hb)
     clear HO272
     clear BK266
     clear BK267
     clear BK268
     clear BK275
     clear HB
     have HO272 := n0_
     have BK266 := n1_
     have BK267 := n2_
     have BK268 := n3_
     have BK275 := n4_
     have HB := n5_
     clear n0_ n1_ n2_ n3_ n4_ n5_
     (try clear hb)
     (try clear hb2)
     (try clear hk)
     (try clear hi)
     refine hK.out _ _ ⟨(blk_cell BK267.out 0).trans rfl, (blk_cell BK267.out 1).trans rfl, (blk_cell BK267.out 2).trans rfl, (blk_cell BK268.out 0).trans rfl, (blk_cell BK268.out 1).trans rfl, (blk_cell BK268.out 2).trans rfl, (blk_cell BK266.out 0).trans rfl, (blk_cell BK266.out 1).trans rfl, (blk_cell BK266.out 2).trans rfl, (blk_cell BK275.out 0).trans rfl, (blk_cell BK275.out 1).trans rfl⟩ (fun hHeld => ?_)
     clear hK K
     refine norm_ (a' := ?_) ?_ ?_
     rotate_left
     ·show Act.put _ (some 36) _ = _
      simp only [Act.put, sT, sZ, sS, i64_w, i32_w]
      rfl
     refine pure_ (i := 12) (N := some 37) (v := ?_) (a' := ?_) #[true, true, true, true, true, true, true, true, true, true, true, true, true, false, false, false, false, false, false, false, false, false, false, false, false, false, false, false, false, false, false] rfl rfl (any_of HT_.out (by kernel_rfl)) (fun _ _ _ h => h) (Or.inl ⟨by rfl, ?_⟩) ?_ ?_
     rotate_left
     ·intro w'
      go_simp
      with_reducible rfl
     rotate_left
     ·simp only [Act.put, sT, sZ, sS, i64_w, i32_w]
      rfl
     refine pure_ (i := 13) (N := some 38) (v := ?_) (a' := ?_) #[true, true, true, true, true, true, true, true, true, true, true, true, true, true, false, false, false, false, false, false, false, false, false, false, false, false, false, false, false, false, false] rfl rfl (any_of HT_.out (by kernel_rfl)) (fun _ _ _ h => h) (Or.inl ⟨by rfl, ?_⟩) ?_ ?_
     rotate_left
     ·intro w'
      go_simp
      with_reducible rfl
     rotate_left
     ·simp only [Act.put, sT, sZ, sS, i64_w, i32_w]
      rfl
     refine pure_ (i := 14) (N := some 39) (v := ?_) (a' := ?_) #[true, true, true, true, true, true, true, true, true, true, true, true, true, true, true, false, false, false, false, false, false, false, false, false, false, false, false, false, false, false, false] rfl rfl (any_of HT_.out (by kernel_rfl)) (fun _ _ _ h => h) (Or.inl ⟨by rfl, ?_⟩) ?_ ?_
     rotate_left
     ·intro w'
      go_simp
      with_reducible rfl
     rotate_left
     ·simp only [Act.put, sT, sZ, sS, i64_w, i32_w]
      rfl
     refine pure_ (i := 15) (N := some 40) (v := ?_) (a' := ?_) #[true, true, true, true, true, true, true, true, true, true, true, true, true, true, true, true, false, false, false, false, false, false, false, false, false, false, false, false, false, false, false] rfl rfl (any_of HT_.out (by kernel_rfl)) (fun _ _ _ h => h) (Or.inl ⟨by rfl, ?_⟩) ?_ ?_
     rotate_left
     ·intro w'
      go_simp
      with_reducible rfl
     rotate_left
     ·simp only [Act.put, sT, sZ, sS, i64_w, i32_w]
      rfl
     refine pure_ (i := 18) (N := some 43) (v := ?_) (a' := ?_) #[true, true, true, true, true, true, true, true, true, true, true, true, true, true, true, true, false, false, true, false, false, false, false, false, false, false, false, false, false, false, false] rfl rfl (any_of HT_.out (by kernel_rfl)) (fun _ _ _ h => h) (Or.inl ⟨by rfl, ?_⟩) ?_ ?_
     rotate_left
     ·intro w'
      go_simp
      with_reducible rfl
     rotate_left
     ·simp only [Act.put, sT, sZ, sS, i64_w, i32_w]
      rfl
     refine take_ (i := 16) (N := some 41) (v := ?_) (a' := ?_) #[true, true, true, true, true, true, true, true, true, true, true, true, true, true, true, true, true, false, true, false, false, false, false, false, false, false, false, false, false, false, false] rfl rfl (take_ofW HT_.out HW_.out (by kernel_rfl)) (fun _ _ _ h => h) (Or.inl ⟨by rfl, ?_⟩) hHeld ?_ ?_
     rotate_left
     ·rintro w' ⟨s0, s1, s2, s3, s4, s5, s6, s7, s8, s9, s10⟩
      go_simp
      with_reducible rfl
     rotate_left
     ·simp only [Act.put, sT, sZ, sS, i64_w, i32_w]
      rfl
     refine one_ (i := 17) (N := some 42) #[true, true, true, true, true, true, true, true, true, true, true, true, true, true, true, true, true, true, true, false, false, false, false, false, false, false, false, false, false, false, false] rfl rfl (one_of HT_.out (by kernel_rfl)) (by decide) (fun K hK => ?_)
     refine goes_ Try.func24 (by kernel_rfl) rfl #[.agg #[.int .i64 t273, .int .u64 t274]] (by rfl) rfl rfl (by (try simp only [List.map_toArray, List.map_cons, List.map_nil]); first | done | rfl | (simp only [List.length_drop, List.length_take]; rfl)) ?_
     with_reducible refine (wide_Sign.calls t273 t274 t278 _ A35.out).mono ?_
     rintro e w53 ⟨rfl, hb⟩
     refine ⟨_, rfl, ?_⟩
     have n0_ := AM (Kd.R_below (by (with_reducible repeat (first | apply Kd.R_alloc | apply Kd.R_drewN | apply Kd.R_drew)); exact HO272.out) hb)
     have n1_ := AM (blk_below (g := gb266) (o := .cells #[.int .i64 a0_0, .int .i64 a0_1, .int .i64 a0_2] 23 (0, 0)) (by (with_reducible repeat (first | refine bN ?_ _ | refine bD ?_ | refine bA ?_ _)); exact BK266.out) hb)
     have n2_ := AM (blk_below (g := gb267) (o := .cells #[.int .i64 a1_0, .int .i64 a1_1, .int .i64 a1_2] 23 (0, 0)) (by (with_reducible repeat (first | refine bN ?_ _ | refine bD ?_ | refine bA ?_ _)); exact BK267.out) hb)
     have n3_ := AM (blk_below (g := gb268) (o := .cells #[.int .i64 a2_0, .int .i64 a2_1, .int .i64 a2_2] 23 (0, 0)) (by (with_reducible repeat (first | refine bN ?_ _ | refine bD ?_ | refine bA ?_ _)); exact BK268.out) hb)
     have n4_ := AM (blk_below (g := gb275) (o := .cells #[.int .i64 t273, .int .u64 t274] 31 (0, 0)) (by (with_reducible repeat (first | refine bN ?_ _ | refine bD ?_ | refine bA ?_ _)); exact BK275.out) hb)
     have n5_ := AM (below_step (by repeat (first | (with_reducible first | exact HB.out | apply below_alloc | apply pw_below_drewN | apply below_drew1 | refine below_set ?_ (Aside0.out (by assumption))) | exact HB.out)) hb)
     clear HO272
     clear BK266
     clear BK267
     clear BK268
     clear BK275
     clear HB
     have HO272 := n0_
     have BK266 := n1_
     have BK267 := n2_
     have BK268 := n3_
     have BK275 := n4_
     have HB := n5_
     clear n0_ n1_ n2_ n3_ n4_ n5_
     (try clear hb)
     (try clear hb2)
     (try clear hk)
     (try clear hi)
     refine hK.out _ _ ⟨(blk_cell BK267.out 0).trans rfl, (blk_cell BK267.out 1).trans rfl, (blk_cell BK267.out 2).trans rfl, (blk_cell BK268.out 0).trans rfl, (blk_cell BK268.out 1).trans rfl, (blk_cell BK268.out 2).trans rfl, (blk_cell BK266.out 0).trans rfl, (blk_cell BK266.out 1).trans rfl, (blk_cell BK266.out 2).trans rfl, (blk_cell BK275.out 0).trans rfl, (blk_cell BK275.out 1).trans rfl⟩ (fun hHeld => ?_)
     clear hK K
     refine norm_ (a' := ?_) ?_ ?_
     rotate_left
     ·show Act.put _ (some 42) _ = _
      simp only [Act.put, sT, sZ, sS, i64_w, i32_w]
      rfl
     refine pure_ (i := 19) (N := some 44) (v := ?_) (a' := ?_) #[true, true, true, true, true, true, true, true, true, true, true, true, true, true, true, true, true, true, true, true, false, false, false, false, false, false, false, false, false, false, false] rfl rfl (any_of HT_.out (by kernel_rfl)) (fun _ _ _ h => h) (Or.inl ⟨by rfl, ?_⟩) ?_ ?_
     rotate_left
     ·intro w'
      go_simp
      with_reducible rfl
     rotate_left
     ·simp only [Act.put, sT, sZ, sS, i64_w, i32_w]
      rfl
     refine pure_ (i := 20) (N := some 45) (v := ?_) (a' := ?_) #[true, true, true, true, true, true, true, true, true, true, true, true, true, true, true, true, true, true, true, true, true, false, false, false, false, false, false, false, false, false, false] rfl rfl (any_of HT_.out (by kernel_rfl)) (fun _ _ _ h => h) (Or.inl ⟨by rfl, ?_⟩) ?_ ?_
     rotate_left
     ·intro w'
      go_simp
      with_reducible rfl
     rotate_left
     ·simp only [Act.put, sT, sZ, sS, i64_w, i32_w]
      rfl
     refine pure_ (i := 21) (N := some 46) (v := ?_) (a' := ?_) #[true, true, true, true, true, true, true, true, true, true, true, true, true, true, true, true, true, true, true, true, true, true, false, false, false, false, false, false, false, false, false] rfl rfl (any_of HT_.out (by kernel_rfl)) (fun _ _ _ h => h) (Or.inl ⟨by rfl, ?_⟩) ?_ ?_
     rotate_left
     ·intro w'
      go_simp
      with_reducible rfl
     rotate_left
     ·simp only [Act.put, sT, sZ, sS, i64_w, i32_w]
      rfl
     refine pure_ (i := 22) (N := some 47) (v := undef) (a' := ?_) #[true, true, true, true, true, true, true, true, true, true, true, true, true, true, true, true, true, true, true, true, true, true, true, false, false, false, false, false, false, false, false] rfl rfl (any_of HT_.out (by kernel_rfl)) (fun _ _ _ h => h) (Or.inr ⟨by rfl, rfl⟩) ?_ ?_
     rotate_left
     ·simp only [Act.put, sT, sZ, sS, i64_w, i32_w]
      rfl
     refine pure_ (i := 23) (N := some 48) (v := undef) (a' := ?_) #[true, true, true, true, true, true, true, true, true, true, true, true, true, true, true, true, true, true, true, true, true, true, true, true, false, false, false, false, false, false, false] rfl rfl (any_of HT_.out (by kernel_rfl)) (fun _ _ _ h => h) (Or.inr ⟨by rfl, rfl⟩) ?_ ?_
     rotate_left
     ·simp only [Act.put, sT, sZ, sS, i64_w, i32_w]
      rfl
     refine pure_ (i := 24) (N := some 49) (v := undef) (a' := ?_) #[true, true, true, true, true, true, true, true, true, true, true, true, true, true, true, true, true, true, true, true, true, true, true, true, true, false, false, false, false, false, false] rfl rfl (any_of HT_.out (by kernel_rfl)) (fun _ _ _ h => h) (Or.inr ⟨by rfl, rfl⟩) ?_ ?_
     rotate_left
     ·simp only [Act.put, sT, sZ, sS, i64_w, i32_w]
      rfl
     refine pure_ (i := 25) (N := some 50) (v := undef) (a' := ?_) #[true, true, true, true, true, true, true, true, true, true, true, true, true, true, true, true, true, true, true, true, true, true, true, true, true, true, false, false, false, false, false] rfl rfl (any_of HT_.out (by kernel_rfl)) (fun _ _ _ h => h) (Or.inr ⟨by rfl, rfl⟩) ?_ ?_
     rotate_left
     ·simp only [Act.put, sT, sZ, sS, i64_w, i32_w]
      rfl
     refine pure_ (i := 26) (N := some 51) (v := undef) (a' := ?_) #[true, true, true, true, true, true, true, true, true, true, true, true, true, true, true, true, true, true, true, true, true, true, true, true, true, true, true, false, false, false, false] rfl rfl (any_of HT_.out (by kernel_rfl)) (fun _ _ _ h => h) (Or.inr ⟨by rfl, rfl⟩) ?_ ?_
     rotate_left
     ·simp only [Act.put, sT, sZ, sS, i64_w, i32_w]
      rfl
     refine pure_ (i := 27) (N := some 52) (v := undef) (a' := ?_) #[true, true, true, true, true, true, true, true, true, true, true, true, true, true, true, true, true, true, true, true, true, true, true, true, true, true, true, true, false, false, false] rfl rfl (any_of HT_.out (by kernel_rfl)) (fun _ _ _ h => h) (Or.inr ⟨by rfl, rfl⟩) ?_ ?_
     rotate_left
     ·simp only [Act.put, sT, sZ, sS, i64_w, i32_w]
      rfl
     refine pure_ (i := 28) (N := some 53) (v := undef) (a' := ?_) #[true, true, true, true, true, true, true, true, true, true, true, true, true, true, true, true, true, true, true, true, true, true, true, true, true, true, true, true, true, false, false] rfl rfl (any_of HT_.out (by kernel_rfl)) (fun _ _ _ h => h) (Or.inr ⟨by rfl, rfl⟩) ?_ ?_
     rotate_left
     ·simp only [Act.put, sT, sZ, sS, i64_w, i32_w]
      rfl
     refine pure_ (i := 29) (N := some 54) (v := undef) (a' := ?_) #[true, true, true, true, true, true, true, true, true, true, true, true, true, true, true, true, true, true, true, true, true, true, true, true, true, true, true, true, true, true, false] rfl rfl (any_of HT_.out (by kernel_rfl)) (fun _ _ _ h => h) (Or.inr ⟨by rfl, rfl⟩) ?_ ?_
     rotate_left
     ·simp only [Act.put, sT, sZ, sS, i64_w, i32_w]
      rfl
     refine pure_ (i := 30) (N := some 55) (v := ?_) (a' := ?_) #[true, true, true, true, true, true, true, true, true, true, true, true, true, true, true, true, true, true, true, true, true, true, true, true, true, true, true, true, true, true, true] rfl rfl (any_of HT_.out (by kernel_rfl)) (fun _ _ _ h => h) (Or.inl ⟨by rfl, ?_⟩) ?_ ?_
     rotate_left
     ·intro w'
      go_simp
      with_reducible rfl
     rotate_left
     ·simp only [Act.put, sT, sZ, sS, i64_w, i32_w]
      rfl
     refine done_ (done_of HT_.out (by kernel_rfl)) ?_
     try go_wp2
     go_meet
     case rel => exact ⟨_, (true), (by first | rfl | (simp; done) | (simp [*]; done)), H', ⟨by first | omega | exact Nat.le_refl _⟩, ⟨by (with_reducible repeat (first | refine bN ?_ _ | refine bD ?_ | refine bA ?_ _)); exact BK266.out⟩, ⟨by (with_reducible repeat (first | refine bN ?_ _ | refine bD ?_ | refine bA ?_ _)); exact BK267.out⟩, ⟨by (with_reducible repeat (first | refine bN ?_ _ | refine bD ?_ | refine bA ?_ _)); exact BK268.out⟩, ⟨by (with_reducible repeat (first | refine bN ?_ _ | refine bD ?_ | refine bA ?_ _)); exact BK275.out⟩, ⟨by repeat (first | (with_reducible first | exact HB.out | apply below_alloc | apply pw_below_drewN | apply below_drew1 | refine below_set ?_ (Aside0.out (by assumption))) | exact HB.out)⟩⟩
   ·rw [if_neg c34] at H
    have c34b0 : (t269 == (wrap64 (-t277))) = false := beq_eq_false_iff_ne.mpr c34
    have c34b1 : (t269 != (wrap64 (-t277))) = true := bne_iff_ne.mpr c34
    have H' := AM H
    clear H
    try go_wp2
    have n0_ : Aside0 (Kd.R k23 23 ((w26.setCell ⟨gb275, 0, none⟩ (.int .i64 t273)).setCell ⟨gb275, 1, none⟩ (.int .u64 t274)) w.heap.size (fun k_ => k_ ≠ gb266 ∧ k_ ≠ gb267 ∧ k_ ≠ gb268) (.slice Ao24 y270.length co24) y270) := ⟨by (with_reducible repeat (first | apply Kd.R_alloc | apply Kd.R_drewN | apply Kd.R_drew)); exact Kd.R_mono (Kd.R_far (p := ⟨gb275, 1, none⟩) (Kd.R_far (p := ⟨gb275, 0, none⟩) (Kd.R_types HO272.out BK275.out (by decide)) (fun _ hk => hk.2) (.int .i64 t273)) (fun _ hk => hk.2) (.int .u64 t274)) (fun _ hk => ⟨hk.1.1.1.2, ⟨hk.1.1.2, hk.1.2⟩⟩)⟩
    have n1_ : Aside0 (((w26.setCell ⟨gb275, 0, none⟩ (.int .i64 t273)).setCell ⟨gb275, 1, none⟩ (.int .u64 t274)).heap[gb266]? = some (.cells #[.int .i64 a0_0, .int .i64 a0_1, .int .i64 a0_2] 23 (0, 0))) := ⟨by (with_reducible repeat (first | refine bN ?_ _ | refine bD ?_ | refine bA ?_ _)); refine blk_far ?_ NB266_275.out _; (with_reducible repeat (first | refine bN ?_ _ | refine bD ?_ | refine bA ?_ _)); refine blk_far ?_ NB266_275.out _; (with_reducible repeat (first | refine bN ?_ _ | refine bD ?_ | refine bA ?_ _)); exact BK266.out⟩
    have n2_ : Aside0 (((w26.setCell ⟨gb275, 0, none⟩ (.int .i64 t273)).setCell ⟨gb275, 1, none⟩ (.int .u64 t274)).heap[gb267]? = some (.cells #[.int .i64 a1_0, .int .i64 a1_1, .int .i64 a1_2] 23 (0, 0))) := ⟨by (with_reducible repeat (first | refine bN ?_ _ | refine bD ?_ | refine bA ?_ _)); refine blk_far ?_ NB267_275.out _; (with_reducible repeat (first | refine bN ?_ _ | refine bD ?_ | refine bA ?_ _)); refine blk_far ?_ NB267_275.out _; (with_reducible repeat (first | refine bN ?_ _ | refine bD ?_ | refine bA ?_ _)); exact BK267.out⟩
    have n3_ : Aside0 (((w26.setCell ⟨gb275, 0, none⟩ (.int .i64 t273)).setCell ⟨gb275, 1, none⟩ (.int .u64 t274)).heap[gb268]? = some (.cells #[.int .i64 a2_0, .int .i64 a2_1, .int .i64 a2_2] 23 (0, 0))) := ⟨by (with_reducible repeat (first | refine bN ?_ _ | refine bD ?_ | refine bA ?_ _)); refine blk_far ?_ NB268_275.out _; (with_reducible repeat (first | refine bN ?_ _ | refine bD ?_ | refine bA ?_ _)); refine blk_far ?_ NB268_275.out _; (with_reducible repeat (first | refine bN ?_ _ | refine bD ?_ | refine bA ?_ _)); exact BK268.out⟩
    have n4_ : Aside0 (((w26.setCell ⟨gb275, 0, none⟩ (.int .i64 t273)).setCell ⟨gb275, 1, none⟩ (.int .u64 t274)).heap[gb275]? = some (.cells #[.int .i64 t273, .int .u64 t274] 31 (0, 0))) := ⟨by (with_reducible repeat (first | refine bN ?_ _ | refine bD ?_ | refine bA ?_ _)); refine blk_put (cs := #[.int .i64 t273, .int .u64 0]) ?_ 1 _ rfl; (with_reducible repeat (first | refine bN ?_ _ | refine bD ?_ | refine bA ?_ _)); refine blk_put (cs := #[.int .i64 0, .int .u64 0]) ?_ 0 _ rfl; (with_reducible repeat (first | refine bN ?_ _ | refine bD ?_ | refine bA ?_ _)); exact BK275.out⟩
    have n5_ : Aside0 (Below w.heap.size w ((w26.setCell ⟨gb275, 0, none⟩ (.int .i64 t273)).setCell ⟨gb275, 1, none⟩ (.int .u64 t274))) := ⟨by repeat (first | (with_reducible first | exact HB.out | apply below_alloc | apply pw_below_drewN | apply below_drew1 | refine below_set ?_ (Aside0.out (by assumption))) | exact HB.out)⟩
    (try clear HO272)
    (try clear BK266)
    (try clear BK267)
    (try clear BK268)
    (try clear BK275)
    (try clear HB)
    generalize ((w26.setCell ⟨gb275, 0, none⟩ (.int .i64 t273)).setCell ⟨gb275, 1, none⟩ (.int .u64 t274)) = w54 at n0_ n1_ n2_ n3_ n4_ n5_ ⊢
    have HO272 := n0_
    have BK266 := n1_
    have BK267 := n2_
    have BK268 := n3_
    have BK275 := n4_
    have HB := n5_
    clear n0_ n1_ n2_ n3_ n4_ n5_
    have n0_ := AM (Kd.R_drew HO272.out)
    have n1_ := AM (bD BK266.out)
    have n2_ := AM (bD BK267.out)
    have n3_ := AM (bD BK268.out)
    have n4_ := AM (bD BK275.out)
    have n5_ := AM (below_drew1 HB.out)
    clear HO272
    clear BK266
    clear BK267
    clear BK268
    clear BK275
    clear HB
    have HO272 := n0_
    have BK266 := n1_
    have BK267 := n2_
    have BK268 := n3_
    have BK275 := n4_
    have HB := n5_
    clear n0_ n1_ n2_ n3_ n4_ n5_
    refine start_ (n := 31) (S := fun w' => w'.cell? ⟨gb267, 0, none⟩ = some (.int .i64 a1_0) ∧ w'.cell? ⟨gb267, 1, none⟩ = some (.int .i64 a1_1) ∧ w'.cell? ⟨gb267, 2, none⟩ = some (.int .i64 a1_2) ∧ w'.cell? ⟨gb268, 0, none⟩ = some (.int .i64 a2_0) ∧ w'.cell? ⟨gb268, 1, none⟩ = some (.int .i64 a2_1) ∧ w'.cell? ⟨gb268, 2, none⟩ = some (.int .i64 a2_2) ∧ w'.cell? ⟨gb266, 0, none⟩ = some (.int .i64 a0_0) ∧ w'.cell? ⟨gb266, 1, none⟩ = some (.int .i64 a0_1) ∧ w'.cell? ⟨gb266, 2, none⟩ = some (.int .i64 a0_2)) (ds := []) #[false, false, false, false, false, false, false, false, false, false, false, false, false, false, false, false, false, false, false, false, false, false, false, false, false, false, false, false, false, false, false] (by kernel_rfl) rfl rfl ⟨(blk_cell BK267.out 0).trans rfl, (blk_cell BK267.out 1).trans rfl, (blk_cell BK267.out 2).trans rfl, (blk_cell BK268.out 0).trans rfl, (blk_cell BK268.out 1).trans rfl, (blk_cell BK268.out 2).trans rfl, (blk_cell BK266.out 0).trans rfl, (blk_cell BK266.out 1).trans rfl, (blk_cell BK266.out 2).trans rfl⟩ (fun hHeld => ?_); refine with_tabW lapidarylaw09_GeomLaws.tab3 lapidarylaw09_GeomLaws.bits3 (fun HT_ HW_ => ?_)
    generalize w54.drew = w55 at HO272 BK266 BK267 BK268 BK275 HB hHeld ⊢
    refine pure_ (i := 0) (N := some 25) (v := ?_) (a' := ?_) #[true, false, false, false, false, false, false, false, false, false, false, false, false, false, false, false, false, false, false, false, false, false, false, false, false, false, false, false, false, false, false] rfl rfl (any_of HT_.out (by kernel_rfl)) (fun _ _ _ h => h) (Or.inl ⟨by rfl, ?_⟩) ?_ ?_
    rotate_left
    ·intro w'
     go_simp
     with_reducible rfl
    rotate_left
    ·simp only [Act.put, sT, sZ, sS, i64_w, i32_w]
     rfl
    refine take_ (i := 1) (N := some 26) (v := ?_) (a' := ?_) #[true, true, false, false, false, false, false, false, false, false, false, false, false, false, false, false, false, false, false, false, false, false, false, false, false, false, false, false, false, false, false] rfl rfl (take_ofW HT_.out HW_.out (by kernel_rfl)) (fun _ _ _ h => h) (Or.inl ⟨by rfl, ?_⟩) hHeld ?_ ?_
    rotate_left
    ·rintro w' ⟨s0, s1, s2, s3, s4, s5, s6, s7, s8⟩
     go_simp
     with_reducible rfl
    rotate_left
    ·simp only [Act.put, sT, sZ, sS, i64_w, i32_w]
     rfl
    refine take_ (i := 2) (N := some 27) (v := ?_) (a' := ?_) #[true, true, true, false, false, false, false, false, false, false, false, false, false, false, false, false, false, false, false, false, false, false, false, false, false, false, false, false, false, false, false] rfl rfl (take_ofW HT_.out HW_.out (by kernel_rfl)) (fun _ _ _ h => h) (Or.inl ⟨by rfl, ?_⟩) hHeld ?_ ?_
    rotate_left
    ·rintro w' ⟨s0, s1, s2, s3, s4, s5, s6, s7, s8⟩
     go_simp
     with_reducible rfl
    rotate_left
    ·simp only [Act.put, sT, sZ, sS, i64_w, i32_w]
     rfl
    refine take_ (i := 3) (N := some 28) (v := ?_) (a' := ?_) #[true, true, true, true, false, false, false, false, false, false, false, false, false, false, false, false, false, false, false, false, false, false, false, false, false, false, false, false, false, false, false] rfl rfl (take_ofW HT_.out HW_.out (by kernel_rfl)) (fun _ _ _ h => h) (Or.inl ⟨by rfl, ?_⟩) hHeld ?_ ?_
    rotate_left
    ·rintro w' ⟨s0, s1, s2, s3, s4, s5, s6, s7, s8⟩
     go_simp
     with_reducible rfl
    rotate_left
    ·simp only [Act.put, sT, sZ, sS, i64_w, i32_w]
     rfl
    refine one_ (i := 4) (N := some 29) #[true, true, true, true, true, false, false, false, false, false, false, false, false, false, false, false, false, false, false, false, false, false, false, false, false, false, false, false, false, false, false] rfl rfl (one_of HT_.out (by kernel_rfl)) (by decide) (fun K hK => ?_)
    refine goes_ Try.func20 (by kernel_rfl) rfl #[.agg #[.int .i64 a1_0, .int .i64 a1_1, .int .i64 a1_2], .agg #[.int .i64 a2_0, .int .i64 a2_1, .int .i64 a2_2], .agg #[.int .i64 a0_0, .int .i64 a0_1, .int .i64 a0_2]] (by rfl) rfl rfl (by (try simp only [List.map_toArray, List.map_cons, List.map_nil]); first | done | rfl | (simp only [List.length_drop, List.length_take]; rfl)) ?_
    with_reducible refine (geom_Turn.calls k a1_0 a1_1 a1_2 a2_0 a2_1 a2_2 a0_0 a0_1 a0_2 t276 _ A31.out).mono ?_
    rintro e w56 ⟨rfl, hb⟩
    refine ⟨_, rfl, ?_⟩
    have n0_ := AM (Kd.R_below (by (with_reducible repeat (first | apply Kd.R_alloc | apply Kd.R_drewN | apply Kd.R_drew)); exact HO272.out) hb)
    have n1_ := AM (blk_below (g := gb266) (o := .cells #[.int .i64 a0_0, .int .i64 a0_1, .int .i64 a0_2] 23 (0, 0)) (by (with_reducible repeat (first | refine bN ?_ _ | refine bD ?_ | refine bA ?_ _)); exact BK266.out) hb)
    have n2_ := AM (blk_below (g := gb267) (o := .cells #[.int .i64 a1_0, .int .i64 a1_1, .int .i64 a1_2] 23 (0, 0)) (by (with_reducible repeat (first | refine bN ?_ _ | refine bD ?_ | refine bA ?_ _)); exact BK267.out) hb)
    have n3_ := AM (blk_below (g := gb268) (o := .cells #[.int .i64 a2_0, .int .i64 a2_1, .int .i64 a2_2] 23 (0, 0)) (by (with_reducible repeat (first | refine bN ?_ _ | refine bD ?_ | refine bA ?_ _)); exact BK268.out) hb)
    have n4_ := AM (blk_below (g := gb275) (o := .cells #[.int .i64 t273, .int .u64 t274] 31 (0, 0)) (by (with_reducible repeat (first | refine bN ?_ _ | refine bD ?_ | refine bA ?_ _)); exact BK275.out) hb)
    have n5_ := AM (below_step (by repeat (first | (with_reducible first | exact HB.out | apply below_alloc | apply pw_below_drewN | apply below_drew1 | refine below_set ?_ (Aside0.out (by assumption))) | exact HB.out)) hb)
    clear HO272
    clear BK266
    clear BK267
    clear BK268
    clear BK275
    clear HB
    have HO272 := n0_
    have BK266 := n1_
    have BK267 := n2_
    have BK268 := n3_
    have BK275 := n4_
    have HB := n5_
    clear n0_ n1_ n2_ n3_ n4_ n5_
    (try clear hb)
    (try clear hb2)
    (try clear hk)
    (try clear hi)
    refine hK.out _ _ ⟨(blk_cell BK267.out 0).trans rfl, (blk_cell BK267.out 1).trans rfl, (blk_cell BK267.out 2).trans rfl, (blk_cell BK268.out 0).trans rfl, (blk_cell BK268.out 1).trans rfl, (blk_cell BK268.out 2).trans rfl, (blk_cell BK266.out 0).trans rfl, (blk_cell BK266.out 1).trans rfl, (blk_cell BK266.out 2).trans rfl⟩ (fun hHeld => ?_)
    clear hK K
    refine norm_ (a' := ?_) ?_ ?_
    rotate_left
    ·show Act.put _ (some 29) _ = _
     simp only [Act.put, sT, sZ, sS, i64_w, i32_w]
     rfl
    refine pure_ (i := 5) (N := some 30) (v := ?_) (a' := ?_) #[true, true, true, true, true, true, false, false, false, false, false, false, false, false, false, false, false, false, false, false, false, false, false, false, false, false, false, false, false, false, false] rfl rfl (any_of HT_.out (by kernel_rfl)) (fun _ _ _ h => h) (Or.inl ⟨by rfl, ?_⟩) ?_ ?_
    rotate_left
    ·intro w'
     go_simp
     with_reducible rfl
    rotate_left
    ·simp only [Act.put, sT, sZ, sS, i64_w, i32_w]
     rfl
    refine pure_ (i := 6) (N := some 31) (v := ?_) (a' := ?_) #[true, true, true, true, true, true, true, false, false, false, false, false, false, false, false, false, false, false, false, false, false, false, false, false, false, false, false, false, false, false, false] rfl rfl (any_of HT_.out (by kernel_rfl)) (fun _ _ _ h => h) (Or.inl ⟨by rfl, ?_⟩) ?_ ?_
    rotate_left
    ·intro w'
     go_simp
     with_reducible rfl
    rotate_left
    ·simp only [Act.put, sT, sZ, sS, i64_w, i32_w]
     rfl
    refine pure_ (i := 7) (N := some 32) (v := ?_) (a' := ?_) #[true, true, true, true, true, true, true, true, false, false, false, false, false, false, false, false, false, false, false, false, false, false, false, false, false, false, false, false, false, false, false] rfl rfl (any_of HT_.out (by kernel_rfl)) (fun _ _ _ h => h) (Or.inl ⟨by rfl, ?_⟩) ?_ ?_
    rotate_left
    ·intro w'
     go_simp
     with_reducible rfl
    rotate_left
    ·simp only [Act.put, sT, sZ, sS, i64_w, i32_w]
     rfl
    refine take_ (i := 8) (N := some 33) (v := ?_) (a' := ?_) #[true, true, true, true, true, true, true, true, true, false, false, false, false, false, false, false, false, false, false, false, false, false, false, false, false, false, false, false, false, false, false] rfl rfl (take_ofW HT_.out HW_.out (by kernel_rfl)) (fun _ _ _ h => h) (Or.inl ⟨by rfl, ?_⟩) hHeld ?_ ?_
    rotate_left
    ·rintro w' ⟨s0, s1, s2, s3, s4, s5, s6, s7, s8⟩
     go_simp
     with_reducible rfl
    rotate_left
    ·simp only [Act.put, sT, sZ, sS, i64_w, i32_w]
     rfl
    refine take_ (i := 9) (N := some 34) (v := ?_) (a' := ?_) #[true, true, true, true, true, true, true, true, true, true, false, false, false, false, false, false, false, false, false, false, false, false, false, false, false, false, false, false, false, false, false] rfl rfl (take_ofW HT_.out HW_.out (by kernel_rfl)) (fun _ _ _ h => h) (Or.inl ⟨by rfl, ?_⟩) hHeld ?_ ?_
    rotate_left
    ·rintro w' ⟨s0, s1, s2, s3, s4, s5, s6, s7, s8⟩
     go_simp
     with_reducible rfl
    rotate_left
    ·simp only [Act.put, sT, sZ, sS, i64_w, i32_w]
     rfl
    refine take_ (i := 10) (N := some 35) (v := ?_) (a' := ?_) #[true, true, true, true, true, true, true, true, true, true, true, false, false, false, false, false, false, false, false, false, false, false, false, false, false, false, false, false, false, false, false] rfl rfl (take_ofW HT_.out HW_.out (by kernel_rfl)) (fun _ _ _ h => h) (Or.inl ⟨by rfl, ?_⟩) hHeld ?_ ?_
    rotate_left
    ·rintro w' ⟨s0, s1, s2, s3, s4, s5, s6, s7, s8⟩
     go_simp
     with_reducible rfl
    rotate_left
    ·simp only [Act.put, sT, sZ, sS, i64_w, i32_w]
     rfl
    refine one_ (i := 11) (N := some 36) #[true, true, true, true, true, true, true, true, true, true, true, true, false, false, false, false, false, false, false, false, false, false, false, false, false, false, false, false, false, false, false] rfl rfl (one_of HT_.out (by kernel_rfl)) (by decide) (fun K hK => ?_)
    refine goes_ Try.func20 (by kernel_rfl) rfl #[.agg #[.int .i64 a1_0, .int .i64 a1_1, .int .i64 a1_2], .agg #[.int .i64 a0_0, .int .i64 a0_1, .int .i64 a0_2], .agg #[.int .i64 a2_0, .int .i64 a2_1, .int .i64 a2_2]] (by rfl) rfl rfl (by (try simp only [List.map_toArray, List.map_cons, List.map_nil]); first | done | rfl | (simp only [List.length_drop, List.length_take]; rfl)) ?_
    with_reducible refine (geom_Turn.calls k a1_0 a1_1 a1_2 a0_0 a0_1 a0_2 a2_0 a2_1 a2_2 t277 _ A33.out).mono ?_
    rintro e w57 ⟨rfl, hb⟩
    refine ⟨_, rfl, ?_⟩
    have n0_ := AM (Kd.R_below (by (with_reducible repeat (first | apply Kd.R_alloc | apply Kd.R_drewN | apply Kd.R_drew)); exact HO272.out) hb)
    have n1_ := AM (blk_below (g := gb266) (o := .cells #[.int .i64 a0_0, .int .i64 a0_1, .int .i64 a0_2] 23 (0, 0)) (by (with_reducible repeat (first | refine bN ?_ _ | refine bD ?_ | refine bA ?_ _)); exact BK266.out) hb)
    have n2_ := AM (blk_below (g := gb267) (o := .cells #[.int .i64 a1_0, .int .i64 a1_1, .int .i64 a1_2] 23 (0, 0)) (by (with_reducible repeat (first | refine bN ?_ _ | refine bD ?_ | refine bA ?_ _)); exact BK267.out) hb)
    have n3_ := AM (blk_below (g := gb268) (o := .cells #[.int .i64 a2_0, .int .i64 a2_1, .int .i64 a2_2] 23 (0, 0)) (by (with_reducible repeat (first | refine bN ?_ _ | refine bD ?_ | refine bA ?_ _)); exact BK268.out) hb)
    have n4_ := AM (blk_below (g := gb275) (o := .cells #[.int .i64 t273, .int .u64 t274] 31 (0, 0)) (by (with_reducible repeat (first | refine bN ?_ _ | refine bD ?_ | refine bA ?_ _)); exact BK275.out) hb)
    have n5_ := AM (below_step (by repeat (first | (with_reducible first | exact HB.out | apply below_alloc | apply pw_below_drewN | apply below_drew1 | refine below_set ?_ (Aside0.out (by assumption))) | exact HB.out)) hb)
    clear HO272
    clear BK266
    clear BK267
    clear BK268
    clear BK275
    clear HB
    have HO272 := n0_
    have BK266 := n1_
    have BK267 := n2_
    have BK268 := n3_
    have BK275 := n4_
    have HB := n5_
    clear n0_ n1_ n2_ n3_ n4_ n5_
    (try clear hb)
    (try clear hb2)
    (try clear hk)
    (try clear hi)
    refine hK.out _ _ ⟨(blk_cell BK267.out 0).trans rfl, (blk_cell BK267.out 1).trans rfl, (blk_cell BK267.out 2).trans rfl, (blk_cell BK268.out 0).trans rfl, (blk_cell BK268.out 1).trans rfl, (blk_cell BK268.out 2).trans rfl, (blk_cell BK266.out 0).trans rfl, (blk_cell BK266.out 1).trans rfl, (blk_cell BK266.out 2).trans rfl⟩ (fun hHeld => ?_)
    clear hK K
    refine norm_ (a' := ?_) ?_ ?_
    rotate_left
    ·show Act.put _ (some 36) _ = _
     simp only [Act.put, sT, sZ, sS, i64_w, i32_w]
     rfl
    refine pure_ (i := 12) (N := some 37) (v := ?_) (a' := ?_) #[true, true, true, true, true, true, true, true, true, true, true, true, true, false, false, false, false, false, false, false, false, false, false, false, false, false, false, false, false, false, false] rfl rfl (any_of HT_.out (by kernel_rfl)) (fun _ _ _ h => h) (Or.inl ⟨by rfl, ?_⟩) ?_ ?_
    rotate_left
    ·intro w'
     go_simp
     with_reducible rfl
    rotate_left
    ·simp only [Act.put, sT, sZ, sS, i64_w, i32_w]
     rfl
    refine pure_ (i := 13) (N := some 38) (v := ?_) (a' := ?_) #[true, true, true, true, true, true, true, true, true, true, true, true, true, true, false, false, false, false, false, false, false, false, false, false, false, false, false, false, false, false, false] rfl rfl (any_of HT_.out (by kernel_rfl)) (fun _ _ _ h => h) (Or.inl ⟨by rfl, ?_⟩) ?_ ?_
    rotate_left
    ·intro w'
     go_simp
     with_reducible rfl
    rotate_left
    ·simp only [Act.put, sT, sZ, sS, i64_w, i32_w]
     rfl
    refine pure_ (i := 14) (N := some 39) (v := ?_) (a' := ?_) #[true, true, true, true, true, true, true, true, true, true, true, true, true, true, true, false, false, false, false, false, false, false, false, false, false, false, false, false, false, false, false] rfl rfl (any_of HT_.out (by kernel_rfl)) (fun _ _ _ h => h) (Or.inl ⟨by rfl, ?_⟩) ?_ ?_
    rotate_left
    ·intro w'
     go_simp
     with_reducible rfl
    rotate_left
    ·simp only [Act.put, sT, sZ, sS, i64_w, i32_w]
     rfl
    refine pure_ (i := 15) (N := some 40) (v := ?_) (a' := ?_) #[true, true, true, true, true, true, true, true, true, true, true, true, true, true, true, true, false, false, false, false, false, false, false, false, false, false, false, false, false, false, false] rfl rfl (any_of HT_.out (by kernel_rfl)) (fun _ _ _ h => h) (Or.inl ⟨by rfl, ?_⟩) ?_ ?_
    rotate_left
    ·intro w'
     go_simp
     with_reducible rfl
    rotate_left
    ·simp only [Act.put, sT, sZ, sS, i64_w, i32_w]
     rfl
    refine pure_ (i := 16) (N := some 41) (v := undef) (a' := ?_) #[true, true, true, true, true, true, true, true, true, true, true, true, true, true, true, true, true, false, false, false, false, false, false, false, false, false, false, false, false, false, false] rfl rfl (any_of HT_.out (by kernel_rfl)) (fun _ _ _ h => h) (Or.inr ⟨by rfl, rfl⟩) ?_ ?_
    rotate_left
    ·simp only [Act.put, sT, sZ, sS, i64_w, i32_w]
     rfl
    refine pure_ (i := 17) (N := some 42) (v := undef) (a' := ?_) #[true, true, true, true, true, true, true, true, true, true, true, true, true, true, true, true, true, true, false, false, false, false, false, false, false, false, false, false, false, false, false] rfl rfl (any_of HT_.out (by kernel_rfl)) (fun _ _ _ h => h) (Or.inr ⟨by rfl, rfl⟩) ?_ ?_
    rotate_left
    ·simp only [Act.put, sT, sZ, sS, i64_w, i32_w]
     rfl
    refine pure_ (i := 18) (N := some 43) (v := undef) (a' := ?_) #[true, true, true, true, true, true, true, true, true, true, true, true, true, true, true, true, true, true, true, false, false, false, false, false, false, false, false, false, false, false, false] rfl rfl (any_of HT_.out (by kernel_rfl)) (fun _ _ _ h => h) (Or.inr ⟨by rfl, rfl⟩) ?_ ?_
    rotate_left
    ·simp only [Act.put, sT, sZ, sS, i64_w, i32_w]
     rfl
    refine pure_ (i := 19) (N := some 44) (v := undef) (a' := ?_) #[true, true, true, true, true, true, true, true, true, true, true, true, true, true, true, true, true, true, true, true, false, false, false, false, false, false, false, false, false, false, false] rfl rfl (any_of HT_.out (by kernel_rfl)) (fun _ _ _ h => h) (Or.inr ⟨by rfl, rfl⟩) ?_ ?_
    rotate_left
    ·simp only [Act.put, sT, sZ, sS, i64_w, i32_w]
     rfl
    refine pure_ (i := 20) (N := some 45) (v := ?_) (a' := ?_) #[true, true, true, true, true, true, true, true, true, true, true, true, true, true, true, true, true, true, true, true, true, false, false, false, false, false, false, false, false, false, false] rfl rfl (any_of HT_.out (by kernel_rfl)) (fun _ _ _ h => h) (Or.inl ⟨by rfl, ?_⟩) ?_ ?_
    rotate_left
    ·intro w'
     go_simp
     with_reducible rfl
    rotate_left
    ·simp only [Act.put, sT, sZ, sS, i64_w, i32_w]
     rfl
    refine pure_ (i := 21) (N := some 46) (v := ?_) (a' := ?_) #[true, true, true, true, true, true, true, true, true, true, true, true, true, true, true, true, true, true, true, true, true, true, false, false, false, false, false, false, false, false, false] rfl rfl (any_of HT_.out (by kernel_rfl)) (fun _ _ _ h => h) (Or.inl ⟨by rfl, ?_⟩) ?_ ?_
    rotate_left
    ·intro w'
     go_simp
     with_reducible rfl
    rotate_left
    ·simp only [Act.put, sT, sZ, sS, i64_w, i32_w]
     rfl
    refine pure_ (i := 22) (N := some 47) (v := undef) (a' := ?_) #[true, true, true, true, true, true, true, true, true, true, true, true, true, true, true, true, true, true, true, true, true, true, true, false, false, false, false, false, false, false, false] rfl rfl (any_of HT_.out (by kernel_rfl)) (fun _ _ _ h => h) (Or.inr ⟨by rfl, rfl⟩) ?_ ?_
    rotate_left
    ·simp only [Act.put, sT, sZ, sS, i64_w, i32_w]
     rfl
    refine pure_ (i := 23) (N := some 48) (v := undef) (a' := ?_) #[true, true, true, true, true, true, true, true, true, true, true, true, true, true, true, true, true, true, true, true, true, true, true, true, false, false, false, false, false, false, false] rfl rfl (any_of HT_.out (by kernel_rfl)) (fun _ _ _ h => h) (Or.inr ⟨by rfl, rfl⟩) ?_ ?_
    rotate_left
    ·simp only [Act.put, sT, sZ, sS, i64_w, i32_w]
     rfl
    refine pure_ (i := 24) (N := some 49) (v := undef) (a' := ?_) #[true, true, true, true, true, true, true, true, true, true, true, true, true, true, true, true, true, true, true, true, true, true, true, true, true, false, false, false, false, false, false] rfl rfl (any_of HT_.out (by kernel_rfl)) (fun _ _ _ h => h) (Or.inr ⟨by rfl, rfl⟩) ?_ ?_
    rotate_left
    ·simp only [Act.put, sT, sZ, sS, i64_w, i32_w]
     rfl
    refine pure_ (i := 25) (N := some 50) (v := undef) (a' := ?_) #[true, true, true, true, true, true, true, true, true, true, true, true, true, true, true, true, true, true, true, true, true, true, true, true, true, true, false, false, false, false, false] rfl rfl (any_of HT_.out (by kernel_rfl)) (fun _ _ _ h => h) (Or.inr ⟨by rfl, rfl⟩) ?_ ?_
    rotate_left
    ·simp only [Act.put, sT, sZ, sS, i64_w, i32_w]
     rfl
    refine pure_ (i := 26) (N := some 51) (v := undef) (a' := ?_) #[true, true, true, true, true, true, true, true, true, true, true, true, true, true, true, true, true, true, true, true, true, true, true, true, true, true, true, false, false, false, false] rfl rfl (any_of HT_.out (by kernel_rfl)) (fun _ _ _ h => h) (Or.inr ⟨by rfl, rfl⟩) ?_ ?_
    rotate_left
    ·simp only [Act.put, sT, sZ, sS, i64_w, i32_w]
     rfl
    refine pure_ (i := 27) (N := some 52) (v := undef) (a' := ?_) #[true, true, true, true, true, true, true, true, true, true, true, true, true, true, true, true, true, true, true, true, true, true, true, true, true, true, true, true, false, false, false] rfl rfl (any_of HT_.out (by kernel_rfl)) (fun _ _ _ h => h) (Or.inr ⟨by rfl, rfl⟩) ?_ ?_
    rotate_left
    ·simp only [Act.put, sT, sZ, sS, i64_w, i32_w]
     rfl
    refine pure_ (i := 28) (N := some 53) (v := undef) (a' := ?_) #[true, true, true, true, true, true, true, true, true, true, true, true, true, true, true, true, true, true, true, true, true, true, true, true, true, true, true, true, true, false, false] rfl rfl (any_of HT_.out (by kernel_rfl)) (fun _ _ _ h => h) (Or.inr ⟨by rfl, rfl⟩) ?_ ?_
    rotate_left
    ·simp only [Act.put, sT, sZ, sS, i64_w, i32_w]
     rfl
    refine pure_ (i := 29) (N := some 54) (v := undef) (a' := ?_) #[true, true, true, true, true, true, true, true, true, true, true, true, true, true, true, true, true, true, true, true, true, true, true, true, true, true, true, true, true, true, false] rfl rfl (any_of HT_.out (by kernel_rfl)) (fun _ _ _ h => h) (Or.inr ⟨by rfl, rfl⟩) ?_ ?_
    rotate_left
    ·simp only [Act.put, sT, sZ, sS, i64_w, i32_w]
     rfl
    refine pure_ (i := 30) (N := some 55) (v := ?_) (a' := ?_) #[true, true, true, true, true, true, true, true, true, true, true, true, true, true, true, true, true, true, true, true, true, true, true, true, true, true, true, true, true, true, true] rfl rfl (any_of HT_.out (by kernel_rfl)) (fun _ _ _ h => h) (Or.inl ⟨by rfl, ?_⟩) ?_ ?_
    rotate_left
    ·intro w'
     go_simp
     with_reducible rfl
    rotate_left
    ·simp only [Act.put, sT, sZ, sS, i64_w, i32_w]
     rfl
    refine done_ (done_of HT_.out (by kernel_rfl)) ?_
    try go_wp2
    go_meet
    case rel => exact ⟨_, (true), (by first | rfl | (simp; done) | (simp [*]; done)), H', ⟨by first | omega | exact Nat.le_refl _⟩, ⟨by (with_reducible repeat (first | refine bN ?_ _ | refine bD ?_ | refine bA ?_ _)); exact BK266.out⟩, ⟨by (with_reducible repeat (first | refine bN ?_ _ | refine bD ?_ | refine bA ?_ _)); exact BK267.out⟩, ⟨by (with_reducible repeat (first | refine bN ?_ _ | refine bD ?_ | refine bA ?_ _)); exact BK268.out⟩, ⟨by (with_reducible repeat (first | refine bN ?_ _ | refine bD ?_ | refine bA ?_ _)); exact BK275.out⟩, ⟨by repeat (first | (with_reducible first | exact HB.out | apply below_alloc | apply pw_below_drewN | apply below_drew1 | refine below_set ?_ (Aside0.out (by assumption))) | exact HB.out)⟩⟩
  ·rw [if_neg c32] at H
   have c32b0 : (t269 == t276) = false := beq_eq_false_iff_ne.mpr c32
   have c32b1 : (t269 != t276) = true := bne_iff_ne.mpr c32
   (first | rw [c32b0] | (simp only [i64_w, i32_w]; rw [c32b0]) | skip)
   have H' := AM H
   clear H
   try go_wp2
   have n0_ : Aside0 (Kd.R k23 23 ((w26.setCell ⟨gb275, 0, none⟩ (.int .i64 t273)).setCell ⟨gb275, 1, none⟩ (.int .u64 t274)) w.heap.size (fun k_ => k_ ≠ gb266 ∧ k_ ≠ gb267 ∧ k_ ≠ gb268) (.slice Ao24 y270.length co24) y270) := ⟨by (with_reducible repeat (first | apply Kd.R_alloc | apply Kd.R_drewN | apply Kd.R_drew)); exact Kd.R_mono (Kd.R_far (p := ⟨gb275, 1, none⟩) (Kd.R_far (p := ⟨gb275, 0, none⟩) (Kd.R_types HO272.out BK275.out (by decide)) (fun _ hk => hk.2) (.int .i64 t273)) (fun _ hk => hk.2) (.int .u64 t274)) (fun _ hk => ⟨hk.1.1.1.2, ⟨hk.1.1.2, hk.1.2⟩⟩)⟩
   have n1_ : Aside0 (((w26.setCell ⟨gb275, 0, none⟩ (.int .i64 t273)).setCell ⟨gb275, 1, none⟩ (.int .u64 t274)).heap[gb266]? = some (.cells #[.int .i64 a0_0, .int .i64 a0_1, .int .i64 a0_2] 23 (0, 0))) := ⟨by (with_reducible repeat (first | refine bN ?_ _ | refine bD ?_ | refine bA ?_ _)); refine blk_far ?_ NB266_275.out _; (with_reducible repeat (first | refine bN ?_ _ | refine bD ?_ | refine bA ?_ _)); refine blk_far ?_ NB266_275.out _; (with_reducible repeat (first | refine bN ?_ _ | refine bD ?_ | refine bA ?_ _)); exact BK266.out⟩
   have n2_ : Aside0 (((w26.setCell ⟨gb275, 0, none⟩ (.int .i64 t273)).setCell ⟨gb275, 1, none⟩ (.int .u64 t274)).heap[gb267]? = some (.cells #[.int .i64 a1_0, .int .i64 a1_1, .int .i64 a1_2] 23 (0, 0))) := ⟨by (with_reducible repeat (first | refine bN ?_ _ | refine bD ?_ | refine bA ?_ _)); refine blk_far ?_ NB267_275.out _; (with_reducible repeat (first | refine bN ?_ _ | refine bD ?_ | refine bA ?_ _)); refine blk_far ?_ NB267_275.out _; (with_reducible repeat (first | refine bN ?_ _ | refine bD ?_ | refine bA ?_ _)); exact BK267.out⟩
   have n3_ : Aside0 (((w26.setCell ⟨gb275, 0, none⟩ (.int .i64 t273)).setCell ⟨gb275, 1, none⟩ (.int .u64 t274)).heap[gb268]? = some (.cells #[.int .i64 a2_0, .int .i64 a2_1, .int .i64 a2_2] 23 (0, 0))) := ⟨by (with_reducible repeat (first | refine bN ?_ _ | refine bD ?_ | refine bA ?_ _)); refine blk_far ?_ NB268_275.out _; (with_reducible repeat (first | refine bN ?_ _ | refine bD ?_ | refine bA ?_ _)); refine blk_far ?_ NB268_275.out _; (with_reducible repeat (first | refine bN ?_ _ | refine bD ?_ | refine bA ?_ _)); exact BK268.out⟩
   have n4_ : Aside0 (((w26.setCell ⟨gb275, 0, none⟩ (.int .i64 t273)).setCell ⟨gb275, 1, none⟩ (.int .u64 t274)).heap[gb275]? = some (.cells #[.int .i64 t273, .int .u64 t274] 31 (0, 0))) := ⟨by (with_reducible repeat (first | refine bN ?_ _ | refine bD ?_ | refine bA ?_ _)); refine blk_put (cs := #[.int .i64 t273, .int .u64 0]) ?_ 1 _ rfl; (with_reducible repeat (first | refine bN ?_ _ | refine bD ?_ | refine bA ?_ _)); refine blk_put (cs := #[.int .i64 0, .int .u64 0]) ?_ 0 _ rfl; (with_reducible repeat (first | refine bN ?_ _ | refine bD ?_ | refine bA ?_ _)); exact BK275.out⟩
   have n5_ : Aside0 (Below w.heap.size w ((w26.setCell ⟨gb275, 0, none⟩ (.int .i64 t273)).setCell ⟨gb275, 1, none⟩ (.int .u64 t274))) := ⟨by repeat (first | (with_reducible first | exact HB.out | apply below_alloc | apply pw_below_drewN | apply below_drew1 | refine below_set ?_ (Aside0.out (by assumption))) | exact HB.out)⟩
   (try clear HO272)
   (try clear BK266)
   (try clear BK267)
   (try clear BK268)
   (try clear BK275)
   (try clear HB)
   generalize ((w26.setCell ⟨gb275, 0, none⟩ (.int .i64 t273)).setCell ⟨gb275, 1, none⟩ (.int .u64 t274)) = w58 at n0_ n1_ n2_ n3_ n4_ n5_ ⊢
   have HO272 := n0_
   have BK266 := n1_
   have BK267 := n2_
   have BK268 := n3_
   have BK275 := n4_
   have HB := n5_
   clear n0_ n1_ n2_ n3_ n4_ n5_
   have n0_ := AM (Kd.R_drew HO272.out)
   have n1_ := AM (bD BK266.out)
   have n2_ := AM (bD BK267.out)
   have n3_ := AM (bD BK268.out)
   have n4_ := AM (bD BK275.out)
   have n5_ := AM (below_drew1 HB.out)
   clear HO272
   clear BK266
   clear BK267
   clear BK268
   clear BK275
   clear HB
   have HO272 := n0_
   have BK266 := n1_
   have BK267 := n2_
   have BK268 := n3_
   have BK275 := n4_
   have HB := n5_
   clear n0_ n1_ n2_ n3_ n4_ n5_
   refine start_ (n := 31) (S := fun w' => w'.cell? ⟨gb267, 0, none⟩ = some (.int .i64 a1_0) ∧ w'.cell? ⟨gb267, 1, none⟩ = some (.int .i64 a1_1) ∧ w'.cell? ⟨gb267, 2, none⟩ = some (.int .i64 a1_2) ∧ w'.cell? ⟨gb268, 0, none⟩ = some (.int .i64 a2_0) ∧ w'.cell? ⟨gb268, 1, none⟩ = some (.int .i64 a2_1) ∧ w'.cell? ⟨gb268, 2, none⟩ = some (.int .i64 a2_2) ∧ w'.cell? ⟨gb266, 0, none⟩ = some (.int .i64 a0_0) ∧ w'.cell? ⟨gb266, 1, none⟩ = some (.int .i64 a0_1) ∧ w'.cell? ⟨gb266, 2, none⟩ = some (.int .i64 a0_2)) (ds := []) #[false, false, false, false, false, false, false, false, false, false, false, false, false, false, false, false, false, false, false, false, false, false, false, false, false, false, false, false, false, false, false] (by kernel_rfl) rfl rfl ⟨(blk_cell BK267.out 0).trans rfl, (blk_cell BK267.out 1).trans rfl, (blk_cell BK267.out 2).trans rfl, (blk_cell BK268.out 0).trans rfl, (blk_cell BK268.out 1).trans rfl, (blk_cell BK268.out 2).trans rfl, (blk_cell BK266.out 0).trans rfl, (blk_cell BK266.out 1).trans rfl, (blk_cell BK266.out 2).trans rfl⟩ (fun hHeld => ?_); refine with_tabW lapidarylaw09_GeomLaws.tab3 lapidarylaw09_GeomLaws.bits3 (fun HT_ HW_ => ?_)
   generalize w58.drew = w59 at HO272 BK266 BK267 BK268 BK275 HB hHeld ⊢
   refine pure_ (i := 0) (N := some 25) (v := ?_) (a' := ?_) #[true, false, false, false, false, false, false, false, false, false, false, false, false, false, false, false, false, false, false, false, false, false, false, false, false, false, false, false, false, false, false] rfl rfl (any_of HT_.out (by kernel_rfl)) (fun _ _ _ h => h) (Or.inl ⟨by rfl, ?_⟩) ?_ ?_
   rotate_left
   ·intro w'
    go_simp
    with_reducible rfl
   rotate_left
   ·simp only [Act.put, sT, sZ, sS, i64_w, i32_w]
    rfl
   refine take_ (i := 1) (N := some 26) (v := ?_) (a' := ?_) #[true, true, false, false, false, false, false, false, false, false, false, false, false, false, false, false, false, false, false, false, false, false, false, false, false, false, false, false, false, false, false] rfl rfl (take_ofW HT_.out HW_.out (by kernel_rfl)) (fun _ _ _ h => h) (Or.inl ⟨by rfl, ?_⟩) hHeld ?_ ?_
   rotate_left
   ·rintro w' ⟨s0, s1, s2, s3, s4, s5, s6, s7, s8⟩
    go_simp
    with_reducible rfl
   rotate_left
   ·simp only [Act.put, sT, sZ, sS, i64_w, i32_w]
    rfl
   refine take_ (i := 2) (N := some 27) (v := ?_) (a' := ?_) #[true, true, true, false, false, false, false, false, false, false, false, false, false, false, false, false, false, false, false, false, false, false, false, false, false, false, false, false, false, false, false] rfl rfl (take_ofW HT_.out HW_.out (by kernel_rfl)) (fun _ _ _ h => h) (Or.inl ⟨by rfl, ?_⟩) hHeld ?_ ?_
   rotate_left
   ·rintro w' ⟨s0, s1, s2, s3, s4, s5, s6, s7, s8⟩
    go_simp
    with_reducible rfl
   rotate_left
   ·simp only [Act.put, sT, sZ, sS, i64_w, i32_w]
    rfl
   refine take_ (i := 3) (N := some 28) (v := ?_) (a' := ?_) #[true, true, true, true, false, false, false, false, false, false, false, false, false, false, false, false, false, false, false, false, false, false, false, false, false, false, false, false, false, false, false] rfl rfl (take_ofW HT_.out HW_.out (by kernel_rfl)) (fun _ _ _ h => h) (Or.inl ⟨by rfl, ?_⟩) hHeld ?_ ?_
   rotate_left
   ·rintro w' ⟨s0, s1, s2, s3, s4, s5, s6, s7, s8⟩
    go_simp
    with_reducible rfl
   rotate_left
   ·simp only [Act.put, sT, sZ, sS, i64_w, i32_w]
    rfl
   refine one_ (i := 4) (N := some 29) #[true, true, true, true, true, false, false, false, false, false, false, false, false, false, false, false, false, false, false, false, false, false, false, false, false, false, false, false, false, false, false] rfl rfl (one_of HT_.out (by kernel_rfl)) (by decide) (fun K hK => ?_)
   refine goes_ Try.func20 (by kernel_rfl) rfl #[.agg #[.int .i64 a1_0, .int .i64 a1_1, .int .i64 a1_2], .agg #[.int .i64 a2_0, .int .i64 a2_1, .int .i64 a2_2], .agg #[.int .i64 a0_0, .int .i64 a0_1, .int .i64 a0_2]] (by rfl) rfl rfl (by (try simp only [List.map_toArray, List.map_cons, List.map_nil]); first | done | rfl | (simp only [List.length_drop, List.length_take]; rfl)) ?_
   with_reducible refine (geom_Turn.calls k a1_0 a1_1 a1_2 a2_0 a2_1 a2_2 a0_0 a0_1 a0_2 t276 _ A31.out).mono ?_
   rintro e w60 ⟨rfl, hb⟩
   refine ⟨_, rfl, ?_⟩
   have n0_ := AM (Kd.R_below (by (with_reducible repeat (first | apply Kd.R_alloc | apply Kd.R_drewN | apply Kd.R_drew)); exact HO272.out) hb)
   have n1_ := AM (blk_below (g := gb266) (o := .cells #[.int .i64 a0_0, .int .i64 a0_1, .int .i64 a0_2] 23 (0, 0)) (by (with_reducible repeat (first | refine bN ?_ _ | refine bD ?_ | refine bA ?_ _)); exact BK266.out) hb)
   have n2_ := AM (blk_below (g := gb267) (o := .cells #[.int .i64 a1_0, .int .i64 a1_1, .int .i64 a1_2] 23 (0, 0)) (by (with_reducible repeat (first | refine bN ?_ _ | refine bD ?_ | refine bA ?_ _)); exact BK267.out) hb)
   have n3_ := AM (blk_below (g := gb268) (o := .cells #[.int .i64 a2_0, .int .i64 a2_1, .int .i64 a2_2] 23 (0, 0)) (by (with_reducible repeat (first | refine bN ?_ _ | refine bD ?_ | refine bA ?_ _)); exact BK268.out) hb)
   have n4_ := AM (blk_below (g := gb275) (o := .cells #[.int .i64 t273, .int .u64 t274] 31 (0, 0)) (by (with_reducible repeat (first | refine bN ?_ _ | refine bD ?_ | refine bA ?_ _)); exact BK275.out) hb)
   have n5_ := AM (below_step (by repeat (first | (with_reducible first | exact HB.out | apply below_alloc | apply pw_below_drewN | apply below_drew1 | refine below_set ?_ (Aside0.out (by assumption))) | exact HB.out)) hb)
   clear HO272
   clear BK266
   clear BK267
   clear BK268
   clear BK275
   clear HB
   have HO272 := n0_
   have BK266 := n1_
   have BK267 := n2_
   have BK268 := n3_
   have BK275 := n4_
   have HB := n5_
   clear n0_ n1_ n2_ n3_ n4_ n5_
   (try clear hb)
   (try clear hb2)
   (try clear hk)
   (try clear hi)
   refine hK.out _ _ ⟨(blk_cell BK267.out 0).trans rfl, (blk_cell BK267.out 1).trans rfl, (blk_cell BK267.out 2).trans rfl, (blk_cell BK268.out 0).trans rfl, (blk_cell BK268.out 1).trans rfl, (blk_cell BK268.out 2).trans rfl, (blk_cell BK266.out 0).trans rfl, (blk_cell BK266.out 1).trans rfl, (blk_cell BK266.out 2).trans rfl⟩ (fun hHeld => ?_)
   clear hK K
   refine norm_ (a' := ?_) ?_ ?_
   rotate_left
   ·show Act.put _ (some 29) _ = _
    simp only [Act.put, sT, sZ, sS, i64_w, i32_w]
    rfl
   refine pure_ (i := 5) (N := some 30) (v := ?_) (a' := ?_) #[true, true, true, true, true, true, false, false, false, false, false, false, false, false, false, false, false, false, false, false, false, false, false, false, false, false, false, false, false, false, false] rfl rfl (any_of HT_.out (by kernel_rfl)) (fun _ _ _ h => h) (Or.inl ⟨by rfl, ?_⟩) ?_ ?_
   rotate_left
   ·intro w'
    go_simp
    with_reducible rfl
   rotate_left
   ·simp only [Act.put, sT, sZ, sS, i64_w, i32_w]
    rfl
   refine pure_ (i := 6) (N := some 31) (v := ?_) (a' := ?_) #[true, true, true, true, true, true, true, false, false, false, false, false, false, false, false, false, false, false, false, false, false, false, false, false, false, false, false, false, false, false, false] rfl rfl (any_of HT_.out (by kernel_rfl)) (fun _ _ _ h => h) (Or.inl ⟨by rfl, ?_⟩) ?_ ?_
   rotate_left
   ·intro w'
    go_simp
    with_reducible rfl
   rotate_left
   ·simp only [Act.put, sT, sZ, sS, i64_w, i32_w]
    rfl
   refine pure_ (i := 7) (N := some 32) (v := undef) (a' := ?_) #[true, true, true, true, true, true, true, true, false, false, false, false, false, false, false, false, false, false, false, false, false, false, false, false, false, false, false, false, false, false, false] rfl rfl (any_of HT_.out (by kernel_rfl)) (fun _ _ _ h => h) (Or.inr ⟨by rfl, rfl⟩) ?_ ?_
   rotate_left
   ·simp only [Act.put, sT, sZ, sS, i64_w, i32_w]
    rfl
   refine pure_ (i := 8) (N := some 33) (v := undef) (a' := ?_) #[true, true, true, true, true, true, true, true, true, false, false, false, false, false, false, false, false, false, false, false, false, false, false, false, false, false, false, false, false, false, false] rfl rfl (any_of HT_.out (by kernel_rfl)) (fun _ _ _ h => h) (Or.inr ⟨by rfl, rfl⟩) ?_ ?_
   rotate_left
   ·simp only [Act.put, sT, sZ, sS, i64_w, i32_w]
    rfl
   refine pure_ (i := 9) (N := some 34) (v := undef) (a' := ?_) #[true, true, true, true, true, true, true, true, true, true, false, false, false, false, false, false, false, false, false, false, false, false, false, false, false, false, false, false, false, false, false] rfl rfl (any_of HT_.out (by kernel_rfl)) (fun _ _ _ h => h) (Or.inr ⟨by rfl, rfl⟩) ?_ ?_
   rotate_left
   ·simp only [Act.put, sT, sZ, sS, i64_w, i32_w]
    rfl
   refine pure_ (i := 10) (N := some 35) (v := undef) (a' := ?_) #[true, true, true, true, true, true, true, true, true, true, true, false, false, false, false, false, false, false, false, false, false, false, false, false, false, false, false, false, false, false, false] rfl rfl (any_of HT_.out (by kernel_rfl)) (fun _ _ _ h => h) (Or.inr ⟨by rfl, rfl⟩) ?_ ?_
   rotate_left
   ·simp only [Act.put, sT, sZ, sS, i64_w, i32_w]
    rfl
   refine pure_ (i := 11) (N := some 36) (v := undef) (a' := ?_) #[true, true, true, true, true, true, true, true, true, true, true, true, false, false, false, false, false, false, false, false, false, false, false, false, false, false, false, false, false, false, false] rfl rfl (any_of HT_.out (by kernel_rfl)) (fun _ _ _ h => h) (Or.inr ⟨by rfl, rfl⟩) ?_ ?_
   rotate_left
   ·simp only [Act.put, sT, sZ, sS, i64_w, i32_w]
    rfl
   refine pure_ (i := 12) (N := some 37) (v := undef) (a' := ?_) #[true, true, true, true, true, true, true, true, true, true, true, true, true, false, false, false, false, false, false, false, false, false, false, false, false, false, false, false, false, false, false] rfl rfl (any_of HT_.out (by kernel_rfl)) (fun _ _ _ h => h) (Or.inr ⟨by rfl, rfl⟩) ?_ ?_
   rotate_left
   ·simp only [Act.put, sT, sZ, sS, i64_w, i32_w]
    rfl
   refine pure_ (i := 13) (N := some 38) (v := undef) (a' := ?_) #[true, true, true, true, true, true, true, true, true, true, true, true, true, true, false, false, false, false, false, false, false, false, false, false, false, false, false, false, false, false, false] rfl rfl (any_of HT_.out (by kernel_rfl)) (fun _ _ _ h => h) (Or.inr ⟨by rfl, rfl⟩) ?_ ?_
   rotate_left
   ·simp only [Act.put, sT, sZ, sS, i64_w, i32_w]
    rfl
   refine pure_ (i := 14) (N := some 39) (v := ?_) (a' := ?_) #[true, true, true, true, true, true, true, true, true, true, true, true, true, true, true, false, false, false, false, false, false, false, false, false, false, false, false, false, false, false, false] rfl rfl (any_of HT_.out (by kernel_rfl)) (fun _ _ _ h => h) (Or.inl ⟨by rfl, ?_⟩) ?_ ?_
   rotate_left
   ·intro w'
    go_simp
    with_reducible rfl
   rotate_left
   ·simp only [Act.put, sT, sZ, sS, i64_w, i32_w]
    rfl
   refine pure_ (i := 15) (N := some 40) (v := ?_) (a' := ?_) #[true, true, true, true, true, true, true, true, true, true, true, true, true, true, true, true, false, false, false, false, false, false, false, false, false, false, false, false, false, false, false] rfl rfl (any_of HT_.out (by kernel_rfl)) (fun _ _ _ h => h) (Or.inl ⟨by rfl, ?_⟩) ?_ ?_
   rotate_left
   ·intro w'
    go_simp
    with_reducible rfl
   rotate_left
   ·simp only [Act.put, sT, sZ, sS, i64_w, i32_w]
    rfl
   refine pure_ (i := 16) (N := some 41) (v := undef) (a' := ?_) #[true, true, true, true, true, true, true, true, true, true, true, true, true, true, true, true, true, false, false, false, false, false, false, false, false, false, false, false, false, false, false] rfl rfl (any_of HT_.out (by kernel_rfl)) (fun _ _ _ h => h) (Or.inr ⟨by rfl, rfl⟩) ?_ ?_
   rotate_left
   ·simp only [Act.put, sT, sZ, sS, i64_w, i32_w]
    rfl
   refine pure_ (i := 17) (N := some 42) (v := undef) (a' := ?_) #[true, true, true, true, true, true, true, true, true, true, true, true, true, true, true, true, true, true, false, false, false, false, false, false, false, false, false, false, false, false, false] rfl rfl (any_of HT_.out (by kernel_rfl)) (fun _ _ _ h => h) (Or.inr ⟨by rfl, rfl⟩) ?_ ?_
   rotate_left
   ·simp only [Act.put, sT, sZ, sS, i64_w, i32_w]
    rfl
   refine pure_ (i := 18) (N := some 43) (v := undef) (a' := ?_) #[true, true, true, true, true, true, true, true, true, true, true, true, true, true, true, true, true, true, true, false, false, false, false, false, false, false, false, false, false, false, false] rfl rfl (any_of HT_.out (by kernel_rfl)) (fun _ _ _ h => h) (Or.inr ⟨by rfl, rfl⟩) ?_ ?_
   rotate_left
   ·simp only [Act.put, sT, sZ, sS, i64_w, i32_w]
    rfl
   refine pure_ (i := 19) (N := some 44) (v := undef) (a' := ?_) #[true, true, true, true, true, true, true, true, true, true, true, true, true, true, true, true, true, true, true, true, false, false, false, false, false, false, false, false, false, false, false] rfl rfl (any_of HT_.out (by kernel_rfl)) (fun _ _ _ h => h) (Or.inr ⟨by rfl, rfl⟩) ?_ ?_
   rotate_left
   ·simp only [Act.put, sT, sZ, sS, i64_w, i32_w]
    rfl
   refine pure_ (i := 20) (N := some 45) (v := ?_) (a' := ?_) #[true, true, true, true, true, true, true, true, true, true, true, true, true, true, true, true, true, true, true, true, true, false, false, false, false, false, false, false, false, false, false] rfl rfl (any_of HT_.out (by kernel_rfl)) (fun _ _ _ h => h) (Or.inl ⟨by rfl, ?_⟩) ?_ ?_
   rotate_left
   ·intro w'
    go_simp
    with_reducible rfl
   rotate_left
   ·simp only [Act.put, sT, sZ, sS, i64_w, i32_w]
    rfl
   refine pure_ (i := 21) (N := some 46) (v := ?_) (a' := ?_) #[true, true, true, true, true, true, true, true, true, true, true, true, true, true, true, true, true, true, true, true, true, true, false, false, false, false, false, false, false, false, false] rfl rfl (any_of HT_.out (by kernel_rfl)) (fun _ _ _ h => h) (Or.inl ⟨by rfl, ?_⟩) ?_ ?_
   rotate_left
   ·intro w'
    go_simp
    with_reducible rfl
   rotate_left
   ·simp only [Act.put, sT, sZ, sS, i64_w, i32_w]
    rfl
   refine pure_ (i := 22) (N := some 47) (v := undef) (a' := ?_) #[true, true, true, true, true, true, true, true, true, true, true, true, true, true, true, true, true, true, true, true, true, true, true, false, false, false, false, false, false, false, false] rfl rfl (any_of HT_.out (by kernel_rfl)) (fun _ _ _ h => h) (Or.inr ⟨by rfl, rfl⟩) ?_ ?_
   rotate_left
   ·simp only [Act.put, sT, sZ, sS, i64_w, i32_w]
    rfl
   refine pure_ (i := 23) (N := some 48) (v := undef) (a' := ?_) #[true, true, true, true, true, true, true, true, true, true, true, true, true, true, true, true, true, true, true, true, true, true, true, true, false, false, false, false, false, false, false] rfl rfl (any_of HT_.out (by kernel_rfl)) (fun _ _ _ h => h) (Or.inr ⟨by rfl, rfl⟩) ?_ ?_
   rotate_left
   ·simp only [Act.put, sT, sZ, sS, i64_w, i32_w]
    rfl
   refine pure_ (i := 24) (N := some 49) (v := undef) (a' := ?_) #[true, true, true, true, true, true, true, true, true, true, true, true, true, true, true, true, true, true, true, true, true, true, true, true, true, false, false, false, false, false, false] rfl rfl (any_of HT_.out (by kernel_rfl)) (fun _ _ _ h => h) (Or.inr ⟨by rfl, rfl⟩) ?_ ?_
   rotate_left
   ·simp only [Act.put, sT, sZ, sS, i64_w, i32_w]
    rfl
   refine pure_ (i := 25) (N := some 50) (v := undef) (a' := ?_) #[true, true, true, true, true, true, true, true, true, true, true, true, true, true, true, true, true, true, true, true, true, true, true, true, true, true, false, false, false, false, false] rfl rfl (any_of HT_.out (by kernel_rfl)) (fun _ _ _ h => h) (Or.inr ⟨by rfl, rfl⟩) ?_ ?_
   rotate_left
   ·simp only [Act.put, sT, sZ, sS, i64_w, i32_w]
    rfl
   refine pure_ (i := 26) (N := some 51) (v := undef) (a' := ?_) #[true, true, true, true, true, true, true, true, true, true, true, true, true, true, true, true, true, true, true, true, true, true, true, true, true, true, true, false, false, false, false] rfl rfl (any_of HT_.out (by kernel_rfl)) (fun _ _ _ h => h) (Or.inr ⟨by rfl, rfl⟩) ?_ ?_
   rotate_left
   ·simp only [Act.put, sT, sZ, sS, i64_w, i32_w]
    rfl
   refine pure_ (i := 27) (N := some 52) (v := undef) (a' := ?_) #[true, true, true, true, true, true, true, true, true, true, true, true, true, true, true, true, true, true, true, true, true, true, true, true, true, true, true, true, false, false, false] rfl rfl (any_of HT_.out (by kernel_rfl)) (fun _ _ _ h => h) (Or.inr ⟨by rfl, rfl⟩) ?_ ?_
   rotate_left
   ·simp only [Act.put, sT, sZ, sS, i64_w, i32_w]
    rfl
   refine pure_ (i := 28) (N := some 53) (v := undef) (a' := ?_) #[true, true, true, true, true, true, true, true, true, true, true, true, true, true, true, true, true, true, true, true, true, true, true, true, true, true, true, true, true, false, false] rfl rfl (any_of HT_.out (by kernel_rfl)) (fun _ _ _ h => h) (Or.inr ⟨by rfl, rfl⟩) ?_ ?_
   rotate_left
   ·simp only [Act.put, sT, sZ, sS, i64_w, i32_w]
    rfl
   refine pure_ (i := 29) (N := some 54) (v := undef) (a' := ?_) #[true, true, true, true, true, true, true, true, true, true, true, true, true, true, true, true, true, true, true, true, true, true, true, true, true, true, true, true, true, true, false] rfl rfl (any_of HT_.out (by kernel_rfl)) (fun _ _ _ h => h) (Or.inr ⟨by rfl, rfl⟩) ?_ ?_
   rotate_left
   ·simp only [Act.put, sT, sZ, sS, i64_w, i32_w]
    rfl
   refine pure_ (i := 30) (N := some 55) (v := ?_) (a' := ?_) #[true, true, true, true, true, true, true, true, true, true, true, true, true, true, true, true, true, true, true, true, true, true, true, true, true, true, true, true, true, true, true] rfl rfl (any_of HT_.out (by kernel_rfl)) (fun _ _ _ h => h) (Or.inl ⟨by rfl, ?_⟩) ?_ ?_
   rotate_left
   ·intro w'
    go_simp
    with_reducible rfl
   rotate_left
   ·simp only [Act.put, sT, sZ, sS, i64_w, i32_w]
    rfl
   refine done_ (done_of HT_.out (by kernel_rfl)) ?_
   try go_wp2
   go_meet
   case rel => exact ⟨_, (true), (by first | rfl | (simp; done) | (simp [*]; done)), H', ⟨by first | omega | exact Nat.le_refl _⟩, ⟨by (with_reducible repeat (first | refine bN ?_ _ | refine bD ?_ | refine bA ?_ _)); exact BK266.out⟩, ⟨by (with_reducible repeat (first | refine bN ?_ _ | refine bD ?_ | refine bA ?_ _)); exact BK267.out⟩, ⟨by (with_reducible repeat (first | refine bN ?_ _ | refine bD ?_ | refine bA ?_ _)); exact BK268.out⟩, ⟨by (with_reducible repeat (first | refine bN ?_ _ | refine bD ?_ | refine bA ?_ _)); exact BK275.out⟩, ⟨by repeat (first | (with_reducible first | exact HB.out | apply below_alloc | apply pw_below_drewN | apply below_drew1 | refine below_set ?_ (Aside0.out (by assumption))) | exact HB.out)⟩⟩
 case rest =>
  clear HC8
  try clear c2
  try clear p2
  try clear c3
  try clear p6
  try clear c20
  try clear c32
  try clear c32b0
  try clear c32b1
  try clear c34
  try clear c34b0
  try clear c34b1
  obtain ⟨kq, x55_7, rfl, HA, HJ7, BK266, BK267, BK268, BK275, HB⟩ := hcut
  cases kq with
  | zero => exact absurd HA.out (by simp [lapidarylaw09_GeomLaws.j0])
  | succ kj7 =>
   have H := HA.out
   clear HA
   simp only [lapidarylaw09_GeomLaws.j0] at H
   by_cases c61 : x55_7 = true
   ·subst c61
    have H1 : (none) = some r := by rw [if_pos rfl] at H; exact H
    clear H
    have H := H1
    clear H1
    exact absurd H (by simp)
   ·replace c61 := Bool.eq_false_iff.mpr c61
    subst c61
    have H1 : ((geom_Right.f kj7 (([(⟨a0_0, a0_1, a0_2⟩ : S23), (⟨a1_0, a1_1, a1_2⟩ : S23), (⟨a2_0, a2_1, a2_2⟩ : S23)] : List (S23)))).bind fun t292 => (if t292 = true then ((geom_Right.f kj7 (([(⟨wrap64 (a0_0 + (wrap64 (a3))), wrap64 (a0_1 + (wrap64 (a4))), a0_2⟩ : S23), (⟨wrap64 (a1_0 + (wrap64 (a3))), wrap64 (a1_1 + (wrap64 (a4))), a1_2⟩ : S23), (⟨wrap64 (a2_0 + (wrap64 (a3))), wrap64 (a2_1 + (wrap64 (a4))), a2_2⟩ : S23)] : List (S23)))).bind fun t296 => (lapidarylaw09_GeomLaws.j1 kj7 t269 (!t296) t273 t274 (wrap64 (a0_0 + (wrap64 (a3)))) (wrap64 (a0_1 + (wrap64 (a4)))) a0_2 (wrap64 (a1_0 + (wrap64 (a3)))) (wrap64 (a1_1 + (wrap64 (a4)))) a1_2 (wrap64 (a2_0 + (wrap64 (a3)))) (wrap64 (a2_1 + (wrap64 (a4)))) a2_2)) else (lapidarylaw09_GeomLaws.j1 kj7 t269 true t273 t274 (wrap64 (a0_0 + (wrap64 (a3)))) (wrap64 (a0_1 + (wrap64 (a4)))) a0_2 (wrap64 (a1_0 + (wrap64 (a3)))) (wrap64 (a1_1 + (wrap64 (a4)))) a1_2 (wrap64 (a2_0 + (wrap64 (a3)))) (wrap64 (a2_1 + (wrap64 (a4)))) a2_2))) = some r := by rw [if_neg (show ¬ (false = true) by decide)] at H; exact H
    clear H
    have H := H1
    clear H1
    have HC62 := AM H
    clear H
    have hnb63 := NB266_267.out
    have hnc63 := NB267_266.out
    have hnb64 := NB266_268.out
    have hnc64 := NB268_266.out
    have hnb65 := NB266_275.out
    have hnc65 := NB275_266.out
    have hcz66_0 : wc.cell? ⟨gb266, 0, none⟩ = some (.int .i64 a0_0) := (blk_cell BK266.out 0).trans rfl
    have hcz66_1 : wc.cell? ⟨gb266, 1, none⟩ = some (.int .i64 a0_1) := (blk_cell BK266.out 1).trans rfl
    have hcz66_2 : wc.cell? ⟨gb266, 2, none⟩ = some (.int .i64 a0_2) := (blk_cell BK266.out 2).trans rfl
    have hfz66_0 := blk_frozen BK266.out 0
    have hfz66_1 := blk_frozen BK266.out 1
    have hfz66_2 := blk_frozen BK266.out 2
    go_upto_region 8 with (first | ((with_reducible refine gate_dst (N := 13) rfl ?_); (try (refine gate_guard (by rfl) ?_; dsimp only)); refine box_event ?hg (N := 13) ?hd (cs := #[.int .i64 0, .int .i64 0, .int .i64 0]) (t := 23) ?hr ?_; (case hd => rfl); (case hg => rfl); (case hr => first | (go_simp; done) | (go_simp; rfl)); intro gb286 hg w67 hbox hb; have n0_ := AM (blk_below (g := gb266) (o := .cells #[.int .i64 a0_0, .int .i64 a0_1, .int .i64 a0_2] 23 (0, 0)) (by (with_reducible repeat (first | refine bN ?_ _ | refine bD ?_ | refine bA ?_ _)); exact BK266.out) hb); have n1_ := AM (blk_below (g := gb267) (o := .cells #[.int .i64 a1_0, .int .i64 a1_1, .int .i64 a1_2] 23 (0, 0)) (by (with_reducible repeat (first | refine bN ?_ _ | refine bD ?_ | refine bA ?_ _)); exact BK267.out) hb); have n2_ := AM (blk_below (g := gb268) (o := .cells #[.int .i64 a2_0, .int .i64 a2_1, .int .i64 a2_2] 23 (0, 0)) (by (with_reducible repeat (first | refine bN ?_ _ | refine bD ?_ | refine bA ?_ _)); exact BK268.out) hb); have n3_ := AM (blk_below (g := gb275) (o := .cells #[.int .i64 t273, .int .u64 t274] 31 (0, 0)) (by (with_reducible repeat (first | refine bN ?_ _ | refine bD ?_ | refine bA ?_ _)); exact BK275.out) hb); have n4_ := AM (below_step (by repeat (first | (with_reducible first | exact HB.out | apply below_alloc | apply pw_below_drewN | apply below_drew1 | refine below_set ?_ (Aside0.out (by assumption))) | exact HB.out)) hb); have n5_ := AM (hbox); have n6_ := AM ((by rw [hg]; exact (below_size (by repeat (first | (with_reducible first | exact HB.out | apply below_alloc | apply pw_below_drewN | apply below_drew1 | refine below_set ?_ (Aside0.out (by assumption))) | exact HB.out))) : w.heap.size ≤ gb286)); have n7_ := AM ((by rw [hg]; exact (below_size (by repeat (first | (with_reducible first | exact HB.out | apply below_alloc | apply pw_below_drewN | apply below_drew1 | refine below_set ?_ (Aside0.out (by assumption))) | exact HB.out))) : w.heap.size ≤ gb286)); have n8_ := AM ((by rw [hg]; exact Nat.ne_of_lt (blk_lt (g := gb266) (o := .cells #[.int .i64 a0_0, .int .i64 a0_1, .int .i64 a0_2] 23 (0, 0)) (by (with_reducible repeat (first | refine bN ?_ _ | refine bD ?_ | refine bA ?_ _)); exact BK266.out)) : gb266 ≠ gb286)); have n9_ := AM ((by rw [hg]; exact Nat.ne_of_gt (blk_lt (g := gb266) (o := .cells #[.int .i64 a0_0, .int .i64 a0_1, .int .i64 a0_2] 23 (0, 0)) (by (with_reducible repeat (first | refine bN ?_ _ | refine bD ?_ | refine bA ?_ _)); exact BK266.out)) : gb286 ≠ gb266)); have n10_ := AM ((by rw [hg]; exact Nat.ne_of_lt (blk_lt (g := gb267) (o := .cells #[.int .i64 a1_0, .int .i64 a1_1, .int .i64 a1_2] 23 (0, 0)) (by (with_reducible repeat (first | refine bN ?_ _ | refine bD ?_ | refine bA ?_ _)); exact BK267.out)) : gb267 ≠ gb286)); have n11_ := AM ((by rw [hg]; exact Nat.ne_of_gt (blk_lt (g := gb267) (o := .cells #[.int .i64 a1_0, .int .i64 a1_1, .int .i64 a1_2] 23 (0, 0)) (by (with_reducible repeat (first | refine bN ?_ _ | refine bD ?_ | refine bA ?_ _)); exact BK267.out)) : gb286 ≠ gb267)); have n12_ := AM ((by rw [hg]; exact Nat.ne_of_lt (blk_lt (g := gb268) (o := .cells #[.int .i64 a2_0, .int .i64 a2_1, .int .i64 a2_2] 23 (0, 0)) (by (with_reducible repeat (first | refine bN ?_ _ | refine bD ?_ | refine bA ?_ _)); exact BK268.out)) : gb268 ≠ gb286)); have n13_ := AM ((by rw [hg]; exact Nat.ne_of_gt (blk_lt (g := gb268) (o := .cells #[.int .i64 a2_0, .int .i64 a2_1, .int .i64 a2_2] 23 (0, 0)) (by (with_reducible repeat (first | refine bN ?_ _ | refine bD ?_ | refine bA ?_ _)); exact BK268.out)) : gb286 ≠ gb268)); have n14_ := AM ((by rw [hg]; exact Nat.ne_of_lt (blk_lt (g := gb275) (o := .cells #[.int .i64 t273, .int .u64 t274] 31 (0, 0)) (by (with_reducible repeat (first | refine bN ?_ _ | refine bD ?_ | refine bA ?_ _)); exact BK275.out)) : gb275 ≠ gb286)); have n15_ := AM ((by rw [hg]; exact Nat.ne_of_gt (blk_lt (g := gb275) (o := .cells #[.int .i64 t273, .int .u64 t274] 31 (0, 0)) (by (with_reducible repeat (first | refine bN ?_ _ | refine bD ?_ | refine bA ?_ _)); exact BK275.out)) : gb286 ≠ gb275)); clear BK266; clear BK267; clear BK268; clear BK275; clear HB; have BK266 := n0_; have BK267 := n1_; have BK268 := n2_; have BK275 := n3_; have HB := n4_; have BK286 := n5_; have GW286 := n6_; have GE286 := n7_; have NB266_286 := n8_; have NB286_266 := n9_; have NB267_286 := n10_; have NB286_267 := n11_; have NB268_286 := n12_; have NB286_268 := n13_; have NB275_286 := n14_; have NB286_275 := n15_; clear n0_ n1_ n2_ n3_ n4_ n5_ n6_ n7_ n8_ n9_ n10_ n11_ n12_ n13_ n14_ n15_; clear hb hbox hg; have hnb68 := NB286_266.out; have hnc68 := NB266_286.out; have hnb69 := NB286_267.out; have hnc69 := NB267_286.out; have hnb70 := NB286_268.out; have hnc70 := NB268_286.out; have hnb71 := NB286_275.out; have hnc71 := NB275_286.out; have hcz72_0 : w67.cell? ⟨gb286, 0, none⟩ = some (.int .i64 0) := (blk_cell BK286.out 0).trans rfl; have hcz72_1 : w67.cell? ⟨gb286, 1, none⟩ = some (.int .i64 0) := (blk_cell BK286.out 1).trans rfl; have hcz72_2 : w67.cell? ⟨gb286, 2, none⟩ = some (.int .i64 0) := (blk_cell BK286.out 2).trans rfl; have hfz72_0 := blk_frozen BK286.out 0; have hfz72_1 := blk_frozen BK286.out 1; have hfz72_2 := blk_frozen BK286.out 2; have hnb73 := NB267_268.out; have hnc73 := NB268_267.out; have hnb74 := NB267_275.out; have hnc74 := NB275_267.out; have hcz75_0 : w67.cell? ⟨gb267, 0, none⟩ = some (.int .i64 a1_0) := (blk_cell BK267.out 0).trans rfl; have hcz75_1 : w67.cell? ⟨gb267, 1, none⟩ = some (.int .i64 a1_1) := (blk_cell BK267.out 1).trans rfl; have hcz75_2 : w67.cell? ⟨gb267, 2, none⟩ = some (.int .i64 a1_2) := (blk_cell BK267.out 2).trans rfl; have hfz75_0 := blk_frozen BK267.out 0; have hfz75_1 := blk_frozen BK267.out 1; have hfz75_2 := blk_frozen BK267.out 2) | ((with_reducible refine gate_dst (N := 14) rfl ?_); (try (refine gate_guard (by rfl) ?_; dsimp only)); refine box_event ?hg (N := 14) ?hd (cs := #[.int .i64 0, .int .i64 0, .int .i64 0]) (t := 23) ?hr ?_; (case hd => rfl); (case hg => rfl); (case hr => first | (go_simp; done) | (go_simp; rfl)); intro gb287 hg w76 hbox hb; have n0_ := AM (blk_below (g := gb266) (o := .cells #[.int .i64 a0_0, .int .i64 a0_1, .int .i64 a0_2] 23 (0, 0)) (by (with_reducible repeat (first | refine bN ?_ _ | refine bD ?_ | refine bA ?_ _)); refine blk_far ?_ NB266_286.out _; (with_reducible repeat (first | refine bN ?_ _ | refine bD ?_ | refine bA ?_ _)); refine blk_far ?_ NB266_286.out _; (with_reducible repeat (first | refine bN ?_ _ | refine bD ?_ | refine bA ?_ _)); refine blk_far ?_ NB266_286.out _; (with_reducible repeat (first | refine bN ?_ _ | refine bD ?_ | refine bA ?_ _)); exact BK266.out) hb); have n1_ := AM (blk_below (g := gb267) (o := .cells #[.int .i64 a1_0, .int .i64 a1_1, .int .i64 a1_2] 23 (0, 0)) (by (with_reducible repeat (first | refine bN ?_ _ | refine bD ?_ | refine bA ?_ _)); refine blk_far ?_ NB267_286.out _; (with_reducible repeat (first | refine bN ?_ _ | refine bD ?_ | refine bA ?_ _)); refine blk_far ?_ NB267_286.out _; (with_reducible repeat (first | refine bN ?_ _ | refine bD ?_ | refine bA ?_ _)); refine blk_far ?_ NB267_286.out _; (with_reducible repeat (first | refine bN ?_ _ | refine bD ?_ | refine bA ?_ _)); exact BK267.out) hb); have n2_ := AM (blk_below (g := gb268) (o := .cells #[.int .i64 a2_0, .int .i64 a2_1, .int .i64 a2_2] 23 (0, 0)) (by (with_reducible repeat (first | refine bN ?_ _ | refine bD ?_ | refine bA ?_ _)); refine blk_far ?_ NB268_286.out _; (with_reducible repeat (first | refine bN ?_ _ | refine bD ?_ | refine bA ?_ _)); refine blk_far ?_ NB268_286.out _; (with_reducible repeat (first | refine bN ?_ _ | refine bD ?_ | refine bA ?_ _)); refine blk_far ?_ NB268_286.out _; (with_reducible repeat (first | refine bN ?_ _ | refine bD ?_ | refine bA ?_ _)); exact BK268.out) hb); have n3_ := AM (blk_below (g := gb275) (o := .cells #[.int .i64 t273, .int .u64 t274] 31 (0, 0)) (by (with_reducible repeat (first | refine bN ?_ _ | refine bD ?_ | refine bA ?_ _)); refine blk_far ?_ NB275_286.out _; (with_reducible repeat (first | refine bN ?_ _ | refine bD ?_ | refine bA ?_ _)); refine blk_far ?_ NB275_286.out _; (with_reducible repeat (first | refine bN ?_ _ | refine bD ?_ | refine bA ?_ _)); refine blk_far ?_ NB275_286.out _; (with_reducible repeat (first | refine bN ?_ _ | refine bD ?_ | refine bA ?_ _)); exact BK275.out) hb); have n4_ := AM (blk_below (g := gb286) (o := .cells #[.int .i64 (wrap64 (a0_0 + (wrap64 (a3)))), .int .i64 (wrap64 (a0_1 + (wrap64 (a4)))), .int .i64 a0_2] 23 (0, 0)) (by (with_reducible repeat (first | refine bN ?_ _ | refine bD ?_ | refine bA ?_ _)); refine blk_put (cs := #[.int .i64 (wrap64 (a0_0 + (wrap64 (a3)))), .int .i64 (wrap64 (a0_1 + (wrap64 (a4)))), .int .i64 0]) ?_ 2 _ rfl; (with_reducible repeat (first | refine bN ?_ _ | refine bD ?_ | refine bA ?_ _)); refine blk_put (cs := #[.int .i64 (wrap64 (a0_0 + (wrap64 (a3)))), .int .i64 0, .int .i64 0]) ?_ 1 _ rfl; (with_reducible repeat (first | refine bN ?_ _ | refine bD ?_ | refine bA ?_ _)); refine blk_put (cs := #[.int .i64 0, .int .i64 0, .int .i64 0]) ?_ 0 _ rfl; (with_reducible repeat (first | refine bN ?_ _ | refine bD ?_ | refine bA ?_ _)); exact BK286.out) hb); have n5_ := AM (below_step (by repeat (first | (with_reducible first | exact HB.out | apply below_alloc | apply pw_below_drewN | apply below_drew1 | refine below_set ?_ (Aside0.out (by assumption))) | exact HB.out)) hb); have n6_ := AM (hbox); have n7_ := AM ((by rw [hg]; exact (below_size (by repeat (first | (with_reducible first | exact HB.out | apply below_alloc | apply pw_below_drewN | apply below_drew1 | refine below_set ?_ (Aside0.out (by assumption))) | exact HB.out))) : w.heap.size ≤ gb287)); have n8_ := AM ((by rw [hg]; exact (below_size (by repeat (first | (with_reducible first | exact HB.out | apply below_alloc | apply pw_below_drewN | apply below_drew1 | refine below_set ?_ (Aside0.out (by assumption))) | exact HB.out))) : w.heap.size ≤ gb287)); have n9_ := AM ((by rw [hg]; exact Nat.ne_of_lt (blk_lt (g := gb266) (o := .cells #[.int .i64 a0_0, .int .i64 a0_1, .int .i64 a0_2] 23 (0, 0)) (by (with_reducible repeat (first | refine bN ?_ _ | refine bD ?_ | refine bA ?_ _)); refine blk_far ?_ NB266_286.out _; (with_reducible repeat (first | refine bN ?_ _ | refine bD ?_ | refine bA ?_ _)); refine blk_far ?_ NB266_286.out _; (with_reducible repeat (first | refine bN ?_ _ | refine bD ?_ | refine bA ?_ _)); refine blk_far ?_ NB266_286.out _; (with_reducible repeat (first | refine bN ?_ _ | refine bD ?_ | refine bA ?_ _)); exact BK266.out)) : gb266 ≠ gb287)); have n10_ := AM ((by rw [hg]; exact Nat.ne_of_gt (blk_lt (g := gb266) (o := .cells #[.int .i64 a0_0, .int .i64 a0_1, .int .i64 a0_2] 23 (0, 0)) (by (with_reducible repeat (first | refine bN ?_ _ | refine bD ?_ | refine bA ?_ _)); refine blk_far ?_ NB266_286.out _; (with_reducible repeat (first | refine bN ?_ _ | refine bD ?_ | refine bA ?_ _)); refine blk_far ?_ NB266_286.out _; (with_reducible repeat (first | refine bN ?_ _ | refine bD ?_ | refine bA ?_ _)); refine blk_far ?_ NB266_286.out _; (with_reducible repeat (first | refine bN ?_ _ | refine bD ?_ | refine bA ?_ _)); exact BK266.out)) : gb287 ≠ gb266)); have n11_ := AM ((by rw [hg]; exact Nat.ne_of_lt (blk_lt (g := gb267) (o := .cells #[.int .i64 a1_0, .int .i64 a1_1, .int .i64 a1_2] 23 (0, 0)) (by (with_reducible repeat (first | refine bN ?_ _ | refine bD ?_ | refine bA ?_ _)); refine blk_far ?_ NB267_286.out _; (with_reducible repeat (first | refine bN ?_ _ | refine bD ?_ | refine bA ?_ _)); refine blk_far ?_ NB267_286.out _; (with_reducible repeat (first | refine bN ?_ _ | refine bD ?_ | refine bA ?_ _)); refine blk_far ?_ NB267_286.out _; (with_reducible repeat (first | refine bN ?_ _ | refine bD ?_ | refine bA ?_ _)); exact BK267.out)) : gb267 ≠ gb287)); have n12_ := AM ((by rw [hg]; exact Nat.ne_of_gt (blk_lt (g := gb267) (o := .cells #[.int .i64 a1_0, .int .i64 a1_1, .int .i64 a1_2] 23 (0, 0)) (by (with_reducible repeat (first | refine bN ?_ _ | refine bD ?_ | refine bA ?_ _)); refine blk_far ?_ NB267_286.out _; (with_reducible repeat (first | refine bN ?_ _ | refine bD ?_ | refine bA ?_ _)); refine blk_far ?_ NB267_286.out _; (with_reducible repeat (first | refine bN ?_ _ | refine bD ?_ | refine bA ?_ _)); refine blk_far ?_ NB267_286.out _; (with_reducible repeat (first | refine bN ?_ _ | refine bD ?_ | refine bA ?_ _)); exact BK267.out)) : gb287 ≠ gb267)); have n13_ := AM ((by rw [hg]; exact Nat.ne_of_lt (blk_lt (g := gb268) (o := .cells #[.int .i64 a2_0, .int .i64 a2_1, .int .i64 a2_2] 23 (0, 0)) (by (with_reducible repeat (first | refine bN ?_ _ | refine bD ?_ | refine bA ?_ _)); refine blk_far ?_ NB268_286.out _; (with_reducible repeat (first | refine bN ?_ _ | refine bD ?_ | refine bA ?_ _)); refine blk_far ?_ NB268_286.out _; (with_reducible repeat (first | refine bN ?_ _ | refine bD ?_ | refine bA ?_ _)); refine blk_far ?_ NB268_286.out _; (with_reducible repeat (first | refine bN ?_ _ | refine bD ?_ | refine bA ?_ _)); exact BK268.out)) : gb268 ≠ gb287)); have n14_ := AM ((by rw [hg]; exact Nat.ne_of_gt (blk_lt (g := gb268) (o := .cells #[.int .i64 a2_0, .int .i64 a2_1, .int .i64 a2_2] 23 (0, 0)) (by (with_reducible repeat (first | refine bN ?_ _ | refine bD ?_ | refine bA ?_ _)); refine blk_far ?_ NB268_286.out _; (with_reducible repeat (first | refine bN ?_ _ | refine bD ?_ | refine bA ?_ _)); refine blk_far ?_ NB268_286.out _; (with_reducible repeat (first | refine bN ?_ _ | refine bD ?_ | refine bA ?_ _)); refine blk_far ?_ NB268_286.out _; (with_reducible repeat (first | refine bN ?_ _ | refine bD ?_ | refine bA ?_ _)); exact BK268.out)) : gb287 ≠ gb268)); have n15_ := AM ((by rw [hg]; exact Nat.ne_of_lt (blk_lt (g := gb275) (o := .cells #[.int .i64 t273, .int .u64 t274] 31 (0, 0)) (by (with_reducible repeat (first | refine bN ?_ _ | refine bD ?_ | refine bA ?_ _)); refine blk_far ?_ NB275_286.out _; (with_reducible repeat (first | refine bN ?_ _ | refine bD ?_ | refine bA ?_ _)); refine blk_far ?_ NB275_286.out _; (with_reducible repeat (first | refine bN ?_ _ | refine bD ?_ | refine bA ?_ _)); refine blk_far ?_ NB275_286.out _; (with_reducible repeat (first | refine bN ?_ _ | refine bD ?_ | refine bA ?_ _)); exact BK275.out)) : gb275 ≠ gb287)); have n16_ := AM ((by rw [hg]; exact Nat.ne_of_gt (blk_lt (g := gb275) (o := .cells #[.int .i64 t273, .int .u64 t274] 31 (0, 0)) (by (with_reducible repeat (first | refine bN ?_ _ | refine bD ?_ | refine bA ?_ _)); refine blk_far ?_ NB275_286.out _; (with_reducible repeat (first | refine bN ?_ _ | refine bD ?_ | refine bA ?_ _)); refine blk_far ?_ NB275_286.out _; (with_reducible repeat (first | refine bN ?_ _ | refine bD ?_ | refine bA ?_ _)); refine blk_far ?_ NB275_286.out _; (with_reducible repeat (first | refine bN ?_ _ | refine bD ?_ | refine bA ?_ _)); exact BK275.out)) : gb287 ≠ gb275)); have n17_ := AM ((by rw [hg]; exact Nat.ne_of_lt (blk_lt (g := gb286) (o := .cells #[.int .i64 (wrap64 (a0_0 + (wrap64 (a3)))), .int .i64 (wrap64 (a0_1 + (wrap64 (a4)))), .int .i64 a0_2] 23 (0, 0)) (by (with_reducible repeat (first | refine bN ?_ _ | refine bD ?_ | refine bA ?_ _)); refine blk_put (cs := #[.int .i64 (wrap64 (a0_0 + (wrap64 (a3)))), .int .i64 (wrap64 (a0_1 + (wrap64 (a4)))), .int .i64 0]) ?_ 2 _ rfl; (with_reducible repeat (first | refine bN ?_ _ | refine bD ?_ | refine bA ?_ _)); refine blk_put (cs := #[.int .i64 (wrap64 (a0_0 + (wrap64 (a3)))), .int .i64 0, .int .i64 0]) ?_ 1 _ rfl; (with_reducible repeat (first | refine bN ?_ _ | refine bD ?_ | refine bA ?_ _)); refine blk_put (cs := #[.int .i64 0, .int .i64 0, .int .i64 0]) ?_ 0 _ rfl; (with_reducible repeat (first | refine bN ?_ _ | refine bD ?_ | refine bA ?_ _)); exact BK286.out)) : gb286 ≠ gb287)); have n18_ := AM ((by rw [hg]; exact Nat.ne_of_gt (blk_lt (g := gb286) (o := .cells #[.int .i64 (wrap64 (a0_0 + (wrap64 (a3)))), .int .i64 (wrap64 (a0_1 + (wrap64 (a4)))), .int .i64 a0_2] 23 (0, 0)) (by (with_reducible repeat (first | refine bN ?_ _ | refine bD ?_ | refine bA ?_ _)); refine blk_put (cs := #[.int .i64 (wrap64 (a0_0 + (wrap64 (a3)))), .int .i64 (wrap64 (a0_1 + (wrap64 (a4)))), .int .i64 0]) ?_ 2 _ rfl; (with_reducible repeat (first | refine bN ?_ _ | refine bD ?_ | refine bA ?_ _)); refine blk_put (cs := #[.int .i64 (wrap64 (a0_0 + (wrap64 (a3)))), .int .i64 0, .int .i64 0]) ?_ 1 _ rfl; (with_reducible repeat (first | refine bN ?_ _ | refine bD ?_ | refine bA ?_ _)); refine blk_put (cs := #[.int .i64 0, .int .i64 0, .int .i64 0]) ?_ 0 _ rfl; (with_reducible repeat (first | refine bN ?_ _ | refine bD ?_ | refine bA ?_ _)); exact BK286.out)) : gb287 ≠ gb286)); clear BK266; clear BK267; clear BK268; clear BK275; clear BK286; clear HB; have BK266 := n0_; have BK267 := n1_; have BK268 := n2_; have BK275 := n3_; have BK286 := n4_; have HB := n5_; have BK287 := n6_; have GW287 := n7_; have GE287 := n8_; have NB266_287 := n9_; have NB287_266 := n10_; have NB267_287 := n11_; have NB287_267 := n12_; have NB268_287 := n13_; have NB287_268 := n14_; have NB275_287 := n15_; have NB287_275 := n16_; have NB286_287 := n17_; have NB287_286 := n18_; clear n0_ n1_ n2_ n3_ n4_ n5_ n6_ n7_ n8_ n9_ n10_ n11_ n12_ n13_ n14_ n15_ n16_ n17_ n18_; clear hb hbox hg; have hnb77 := NB287_266.out; have hnc77 := NB266_287.out; have hnb78 := NB287_267.out; have hnc78 := NB267_287.out; have hnb79 := NB287_268.out; have hnc79 := NB268_287.out; have hnb80 := NB287_275.out; have hnc80 := NB275_287.out; have hnb81 := NB287_286.out; have hnc81 := NB286_287.out; have hcz82_0 : w76.cell? ⟨gb287, 0, none⟩ = some (.int .i64 0) := (blk_cell BK287.out 0).trans rfl; have hcz82_1 : w76.cell? ⟨gb287, 1, none⟩ = some (.int .i64 0) := (blk_cell BK287.out 1).trans rfl; have hcz82_2 : w76.cell? ⟨gb287, 2, none⟩ = some (.int .i64 0) := (blk_cell BK287.out 2).trans rfl; have hfz82_0 := blk_frozen BK287.out 0; have hfz82_1 := blk_frozen BK287.out 1; have hfz82_2 := blk_frozen BK287.out 2; have hnb83 := NB268_275.out; have hnc83 := NB275_268.out; have hcz84_0 : w76.cell? ⟨gb268, 0, none⟩ = some (.int .i64 a2_0) := (blk_cell BK268.out 0).trans rfl; have hcz84_1 : w76.cell? ⟨gb268, 1, none⟩ = some (.int .i64 a2_1) := (blk_cell BK268.out 1).trans rfl; have hcz84_2 : w76.cell? ⟨gb268, 2, none⟩ = some (.int .i64 a2_2) := (blk_cell BK268.out 2).trans rfl; have hfz84_0 := blk_frozen BK268.out 0; have hfz84_1 := blk_frozen BK268.out 1; have hfz84_2 := blk_frozen BK268.out 2) | ((with_reducible refine gate_dst (N := 15) rfl ?_); (try (refine gate_guard (by rfl) ?_; dsimp only)); refine box_event ?hg (N := 15) ?hd (cs := #[.int .i64 0, .int .i64 0, .int .i64 0]) (t := 23) ?hr ?_; (case hd => rfl); (case hg => rfl); (case hr => first | (go_simp; done) | (go_simp; rfl)); intro gb288 hg w85 hbox hb; have n0_ := AM (blk_below (g := gb266) (o := .cells #[.int .i64 a0_0, .int .i64 a0_1, .int .i64 a0_2] 23 (0, 0)) (by (with_reducible repeat (first | refine bN ?_ _ | refine bD ?_ | refine bA ?_ _)); refine blk_far ?_ NB266_287.out _; (with_reducible repeat (first | refine bN ?_ _ | refine bD ?_ | refine bA ?_ _)); refine blk_far ?_ NB266_287.out _; (with_reducible repeat (first | refine bN ?_ _ | refine bD ?_ | refine bA ?_ _)); refine blk_far ?_ NB266_287.out _; (with_reducible repeat (first | refine bN ?_ _ | refine bD ?_ | refine bA ?_ _)); exact BK266.out) hb); have n1_ := AM (blk_below (g := gb267) (o := .cells #[.int .i64 a1_0, .int .i64 a1_1, .int .i64 a1_2] 23 (0, 0)) (by (with_reducible repeat (first | refine bN ?_ _ | refine bD ?_ | refine bA ?_ _)); refine blk_far ?_ NB267_287.out _; (with_reducible repeat (first | refine bN ?_ _ | refine bD ?_ | refine bA ?_ _)); refine blk_far ?_ NB267_287.out _; (with_reducible repeat (first | refine bN ?_ _ | refine bD ?_ | refine bA ?_ _)); refine blk_far ?_ NB267_287.out _; (with_reducible repeat (first | refine bN ?_ _ | refine bD ?_ | refine bA ?_ _)); exact BK267.out) hb); have n2_ := AM (blk_below (g := gb268) (o := .cells #[.int .i64 a2_0, .int .i64 a2_1, .int .i64 a2_2] 23 (0, 0)) (by (with_reducible repeat (first | refine bN ?_ _ | refine bD ?_ | refine bA ?_ _)); refine blk_far ?_ NB268_287.out _; (with_reducible repeat (first | refine bN ?_ _ | refine bD ?_ | refine bA ?_ _)); refine blk_far ?_ NB268_287.out _; (with_reducible repeat (first | refine bN ?_ _ | refine bD ?_ | refine bA ?_ _)); refine blk_far ?_ NB268_287.out _; (with_reducible repeat (first | refine bN ?_ _ | refine bD ?_ | refine bA ?_ _)); exact BK268.out) hb); have n3_ := AM (blk_below (g := gb275) (o := .cells #[.int .i64 t273, .int .u64 t274] 31 (0, 0)) (by (with_reducible repeat (first | refine bN ?_ _ | refine bD ?_ | refine bA ?_ _)); refine blk_far ?_ NB275_287.out _; (with_reducible repeat (first | refine bN ?_ _ | refine bD ?_ | refine bA ?_ _)); refine blk_far ?_ NB275_287.out _; (with_reducible repeat (first | refine bN ?_ _ | refine bD ?_ | refine bA ?_ _)); refine blk_far ?_ NB275_287.out _; (with_reducible repeat (first | refine bN ?_ _ | refine bD ?_ | refine bA ?_ _)); exact BK275.out) hb); have n4_ := AM (blk_below (g := gb286) (o := .cells #[.int .i64 (wrap64 (a0_0 + (wrap64 (a3)))), .int .i64 (wrap64 (a0_1 + (wrap64 (a4)))), .int .i64 a0_2] 23 (0, 0)) (by (with_reducible repeat (first | refine bN ?_ _ | refine bD ?_ | refine bA ?_ _)); refine blk_far ?_ NB286_287.out _; (with_reducible repeat (first | refine bN ?_ _ | refine bD ?_ | refine bA ?_ _)); refine blk_far ?_ NB286_287.out _; (with_reducible repeat (first | refine bN ?_ _ | refine bD ?_ | refine bA ?_ _)); refine blk_far ?_ NB286_287.out _; (with_reducible repeat (first | refine bN ?_ _ | refine bD ?_ | refine bA ?_ _)); exact BK286.out) hb); have n5_ := AM (blk_below (g := gb287) (o := .cells #[.int .i64 (wrap64 (a1_0 + (wrap64 (a3)))), .int .i64 (wrap64 (a1_1 + (wrap64 (a4)))), .int .i64 a1_2] 23 (0, 0)) (by (with_reducible repeat (first | refine bN ?_ _ | refine bD ?_ | refine bA ?_ _)); refine blk_put (cs := #[.int .i64 (wrap64 (a1_0 + (wrap64 (a3)))), .int .i64 (wrap64 (a1_1 + (wrap64 (a4)))), .int .i64 0]) ?_ 2 _ rfl; (with_reducible repeat (first | refine bN ?_ _ | refine bD ?_ | refine bA ?_ _)); refine blk_put (cs := #[.int .i64 (wrap64 (a1_0 + (wrap64 (a3)))), .int .i64 0, .int .i64 0]) ?_ 1 _ rfl; (with_reducible repeat (first | refine bN ?_ _ | refine bD ?_ | refine bA ?_ _)); refine blk_put (cs := #[.int .i64 0, .int .i64 0, .int .i64 0]) ?_ 0 _ rfl; (with_reducible repeat (first | refine bN ?_ _ | refine bD ?_ | refine bA ?_ _)); exact BK287.out) hb); have n6_ := AM (below_step (by repeat (first | (with_reducible first | exact HB.out | apply below_alloc | apply pw_below_drewN | apply below_drew1 | refine below_set ?_ (Aside0.out (by assumption))) | exact HB.out)) hb); have n7_ := AM (hbox); have n8_ := AM ((by rw [hg]; exact (below_size (by repeat (first | (with_reducible first | exact HB.out | apply below_alloc | apply pw_below_drewN | apply below_drew1 | refine below_set ?_ (Aside0.out (by assumption))) | exact HB.out))) : w.heap.size ≤ gb288)); have n9_ := AM ((by rw [hg]; exact (below_size (by repeat (first | (with_reducible first | exact HB.out | apply below_alloc | apply pw_below_drewN | apply below_drew1 | refine below_set ?_ (Aside0.out (by assumption))) | exact HB.out))) : w.heap.size ≤ gb288)); have n10_ := AM ((by rw [hg]; exact Nat.ne_of_lt (blk_lt (g := gb266) (o := .cells #[.int .i64 a0_0, .int .i64 a0_1, .int .i64 a0_2] 23 (0, 0)) (by (with_reducible repeat (first | refine bN ?_ _ | refine bD ?_ | refine bA ?_ _)); refine blk_far ?_ NB266_287.out _; (with_reducible repeat (first | refine bN ?_ _ | refine bD ?_ | refine bA ?_ _)); refine blk_far ?_ NB266_287.out _; (with_reducible repeat (first | refine bN ?_ _ | refine bD ?_ | refine bA ?_ _)); refine blk_far ?_ NB266_287.out _; (with_reducible repeat (first | refine bN ?_ _ | refine bD ?_ | refine bA ?_ _)); exact BK266.out)) : gb266 ≠ gb288)); have n11_ := AM ((by rw [hg]; exact Nat.ne_of_gt (blk_lt (g := gb266) (o := .cells #[.int .i64 a0_0, .int .i64 a0_1, .int .i64 a0_2] 23 (0, 0)) (by (with_reducible repeat (first | refine bN ?_ _ | refine bD ?_ | refine bA ?_ _)); refine blk_far ?_ NB266_287.out _; (with_reducible repeat (first | refine bN ?_ _ | refine bD ?_ | refine bA ?_ _)); refine blk_far ?_ NB266_287.out _; (with_reducible repeat (first | refine bN ?_ _ | refine bD ?_ | refine bA ?_ _)); refine blk_far ?_ NB266_287.out _; (with_reducible repeat (first | refine bN ?_ _ | refine bD ?_ | refine bA ?_ _)); exact BK266.out)) : gb288 ≠ gb266)); have n12_ := AM ((by rw [hg]; exact Nat.ne_of_lt (blk_lt (g := gb267) (o := .cells #[.int .i64 a1_0, .int .i64 a1_1, .int .i64 a1_2] 23 (0, 0)) (by (with_reducible repeat (first | refine bN ?_ _ | refine bD ?_ | refine bA ?_ _)); refine blk_far ?_ NB267_287.out _; (with_reducible repeat (first | refine bN ?_ _ | refine bD ?_ | refine bA ?_ _)); refine blk_far ?_ NB267_287.out _; (with_reducible repeat (first | refine bN ?_ _ | refine bD ?_ | refine bA ?_ _)); refine blk_far ?_ NB267_287.out _; (with_reducible repeat (first | refine bN ?_ _ | refine bD ?_ | refine bA ?_ _)); exact BK267.out)) : gb267 ≠ gb288)); have n13_ := AM ((by rw [hg]; exact Nat.ne_of_gt (blk_lt (g := gb267) (o := .cells #[.int .i64 a1_0, .int .i64 a1_1, .int .i64 a1_2] 23 (0, 0)) (by (with_reducible repeat (first | refine bN ?_ _ | refine bD ?_ | refine bA ?_ _)); refine blk_far ?_ NB267_287.out _; (with_reducible repeat (first | refine bN ?_ _ | refine bD ?_ | refine bA ?_ _)); refine blk_far ?_ NB267_287.out _; (with_reducible repeat (first | refine bN ?_ _ | refine bD ?_ | refine bA ?_ _)); refine blk_far ?_ NB267_287.out _; (with_reducible repeat (first | refine bN ?_ _ | refine bD ?_ | refine bA ?_ _)); exact BK267.out)) : gb288 ≠ gb267)); have n14_ := AM ((by rw [hg]; exact Nat.ne_of_lt (blk_lt (g := gb268) (o := .cells #[.int .i64 a2_0, .int .i64 a2_1, .int .i64 a2_2] 23 (0, 0)) (by (with_reducible repeat (first | refine bN ?_ _ | refine bD ?_ | refine bA ?_ _)); refine blk_far ?_ NB268_287.out _; (with_reducible repeat (first | refine bN ?_ _ | refine bD ?_ | refine bA ?_ _)); refine blk_far ?_ NB268_287.out _; (with_reducible repeat (first | refine bN ?_ _ | refine bD ?_ | refine bA ?_ _)); refine blk_far ?_ NB268_287.out _; (with_reducible repeat (first | refine bN ?_ _ | refine bD ?_ | refine bA ?_ _)); exact BK268.out)) : gb268 ≠ gb288)); have n15_ := AM ((by rw [hg]; exact Nat.ne_of_gt (blk_lt (g := gb268) (o := .cells #[.int .i64 a2_0, .int .i64 a2_1, .int .i64 a2_2] 23 (0, 0)) (by (with_reducible repeat (first | refine bN ?_ _ | refine bD ?_ | refine bA ?_ _)); refine blk_far ?_ NB268_287.out _; (with_reducible repeat (first | refine bN ?_ _ | refine bD ?_ | refine bA ?_ _)); refine blk_far ?_ NB268_287.out _; (with_reducible repeat (first | refine bN ?_ _ | refine bD ?_ | refine bA ?_ _)); refine blk_far ?_ NB268_287.out _; (with_reducible repeat (first | refine bN ?_ _ | refine bD ?_ | refine bA ?_ _)); exact BK268.out)) : gb288 ≠ gb268)); have n16_ := AM ((by rw [hg]; exact Nat.ne_of_lt (blk_lt (g := gb275) (o := .cells #[.int .i64 t273, .int .u64 t274] 31 (0, 0)) (by (with_reducible repeat (first | refine bN ?_ _ | refine bD ?_ | refine bA ?_ _)); refine blk_far ?_ NB275_287.out _; (with_reducible repeat (first | refine bN ?_ _ | refine bD ?_ | refine bA ?_ _)); refine blk_far ?_ NB275_287.out _; (with_reducible repeat (first | refine bN ?_ _ | refine bD ?_ | refine bA ?_ _)); refine blk_far ?_ NB275_287.out _; (with_reducible repeat (first | refine bN ?_ _ | refine bD ?_ | refine bA ?_ _)); exact BK275.out)) : gb275 ≠ gb288)); have n17_ := AM ((by rw [hg]; exact Nat.ne_of_gt (blk_lt (g := gb275) (o := .cells #[.int .i64 t273, .int .u64 t274] 31 (0, 0)) (by (with_reducible repeat (first | refine bN ?_ _ | refine bD ?_ | refine bA ?_ _)); refine blk_far ?_ NB275_287.out _; (with_reducible repeat (first | refine bN ?_ _ | refine bD ?_ | refine bA ?_ _)); refine blk_far ?_ NB275_287.out _; (with_reducible repeat (first | refine bN ?_ _ | refine bD ?_ | refine bA ?_ _)); refine blk_far ?_ NB275_287.out _; (with_reducible repeat (first | refine bN ?_ _ | refine bD ?_ | refine bA ?_ _)); exact BK275.out)) : gb288 ≠ gb275)); have n18_ := AM ((by rw [hg]; exact Nat.ne_of_lt (blk_lt (g := gb286) (o := .cells #[.int .i64 (wrap64 (a0_0 + (wrap64 (a3)))), .int .i64 (wrap64 (a0_1 + (wrap64 (a4)))), .int .i64 a0_2] 23 (0, 0)) (by (with_reducible repeat (first | refine bN ?_ _ | refine bD ?_ | refine bA ?_ _)); refine blk_far ?_ NB286_287.out _; (with_reducible repeat (first | refine bN ?_ _ | refine bD ?_ | refine bA ?_ _)); refine blk_far ?_ NB286_287.out _; (with_reducible repeat (first | refine bN ?_ _ | refine bD ?_ | refine bA ?_ _)); refine blk_far ?_ NB286_287.out _; (with_reducible repeat (first | refine bN ?_ _ | refine bD ?_ | refine bA ?_ _)); exact BK286.out)) : gb286 ≠ gb288)); have n19_ := AM ((by rw [hg]; exact Nat.ne_of_gt (blk_lt (g := gb286) (o := .cells #[.int .i64 (wrap64 (a0_0 + (wrap64 (a3)))), .int .i64 (wrap64 (a0_1 + (wrap64 (a4)))), .int .i64 a0_2] 23 (0, 0)) (by (with_reducible repeat (first | refine bN ?_ _ | refine bD ?_ | refine bA ?_ _)); refine blk_far ?_ NB286_287.out _; (with_reducible repeat (first | refine bN ?_ _ | refine bD ?_ | refine bA ?_ _)); refine blk_far ?_ NB286_287.out _; (with_reducible repeat (first | refine bN ?_ _ | refine bD ?_ | refine bA ?_ _)); refine blk_far ?_ NB286_287.out _; (with_reducible repeat (first | refine bN ?_ _ | refine bD ?_ | refine bA ?_ _)); exact BK286.out)) : gb288 ≠ gb286)); have n20_ := AM ((by rw [hg]; exact Nat.ne_of_lt (blk_lt (g := gb287) (o := .cells #[.int .i64 (wrap64 (a1_0 + (wrap64 (a3)))), .int .i64 (wrap64 (a1_1 + (wrap64 (a4)))), .int .i64 a1_2] 23 (0, 0)) (by (with_reducible repeat (first | refine bN ?_ _ | refine bD ?_ | refine bA ?_ _)); refine blk_put (cs := #[.int .i64 (wrap64 (a1_0 + (wrap64 (a3)))), .int .i64 (wrap64 (a1_1 + (wrap64 (a4)))), .int .i64 0]) ?_ 2 _ rfl; (with_reducible repeat (first | refine bN ?_ _ | refine bD ?_ | refine bA ?_ _)); refine blk_put (cs := #[.int .i64 (wrap64 (a1_0 + (wrap64 (a3)))), .int .i64 0, .int .i64 0]) ?_ 1 _ rfl; (with_reducible repeat (first | refine bN ?_ _ | refine bD ?_ | refine bA ?_ _)); refine blk_put (cs := #[.int .i64 0, .int .i64 0, .int .i64 0]) ?_ 0 _ rfl; (with_reducible repeat (first | refine bN ?_ _ | refine bD ?_ | refine bA ?_ _)); exact BK287.out)) : gb287 ≠ gb288)); have n21_ := AM ((by rw [hg]; exact Nat.ne_of_gt (blk_lt (g := gb287) (o := .cells #[.int .i64 (wrap64 (a1_0 + (wrap64 (a3)))), .int .i64 (wrap64 (a1_1 + (wrap64 (a4)))), .int .i64 a1_2] 23 (0, 0)) (by (with_reducible repeat (first | refine bN ?_ _ | refine bD ?_ | refine bA ?_ _)); refine blk_put (cs := #[.int .i64 (wrap64 (a1_0 + (wrap64 (a3)))), .int .i64 (wrap64 (a1_1 + (wrap64 (a4)))), .int .i64 0]) ?_ 2 _ rfl; (with_reducible repeat (first | refine bN ?_ _ | refine bD ?_ | refine bA ?_ _)); refine blk_put (cs := #[.int .i64 (wrap64 (a1_0 + (wrap64 (a3)))), .int .i64 0, .int .i64 0]) ?_ 1 _ rfl; (with_reducible repeat (first | refine bN ?_ _ | refine bD ?_ | refine bA ?_ _)); refine blk_put (cs := #[.int .i64 0, .int .i64 0, .int .i64 0]) ?_ 0 _ rfl; (with_reducible repeat (first | refine bN ?_ _ | refine bD ?_ | refine bA ?_ _)); exact BK287.out)) : gb288 ≠ gb287)); clear BK266; clear BK267; clear BK268; clear BK275; clear BK286; clear BK287; clear HB; have BK266 := n0_; have BK267 := n1_; have BK268 := n2_; have BK275 := n3_; have BK286 := n4_; have BK287 := n5_; have HB := n6_; have BK288 := n7_; have GW288 := n8_; have GE288 := n9_; have NB266_288 := n10_; have NB288_266 := n11_; have NB267_288 := n12_; have NB288_267 := n13_; have NB268_288 := n14_; have NB288_268 := n15_; have NB275_288 := n16_; have NB288_275 := n17_; have NB286_288 := n18_; have NB288_286 := n19_; have NB287_288 := n20_; have NB288_287 := n21_; clear n0_ n1_ n2_ n3_ n4_ n5_ n6_ n7_ n8_ n9_ n10_ n11_ n12_ n13_ n14_ n15_ n16_ n17_ n18_ n19_ n20_ n21_; clear hb hbox hg; have hnb86 := NB288_266.out; have hnc86 := NB266_288.out; have hnb87 := NB288_267.out; have hnc87 := NB267_288.out; have hnb88 := NB288_268.out; have hnc88 := NB268_288.out; have hnb89 := NB288_275.out; have hnc89 := NB275_288.out; have hnb90 := NB288_286.out; have hnc90 := NB286_288.out; have hnb91 := NB288_287.out; have hnc91 := NB287_288.out; have hcz92_0 : w85.cell? ⟨gb288, 0, none⟩ = some (.int .i64 0) := (blk_cell BK288.out 0).trans rfl; have hcz92_1 : w85.cell? ⟨gb288, 1, none⟩ = some (.int .i64 0) := (blk_cell BK288.out 1).trans rfl; have hcz92_2 : w85.cell? ⟨gb288, 2, none⟩ = some (.int .i64 0) := (blk_cell BK288.out 2).trans rfl; have hfz92_0 := blk_frozen BK288.out 0; have hfz92_1 := blk_frozen BK288.out 1; have hfz92_2 := blk_frozen BK288.out 2))
    (try simp only [Act.put, sT, sZ, sS])
    go_cut [108] (fun v108 wc => ∃ (kq : Nat) (x108_61 : Bool), v108 = .bool x108_61 ∧ Aside0 (lapidarylaw09_GeomLaws.j1 kq t269 x108_61 t273 t274 (wrap64 (a0_0 + (wrap64 (a3)))) (wrap64 (a0_1 + (wrap64 (a4)))) a0_2 (wrap64 (a1_0 + (wrap64 (a3)))) (wrap64 (a1_1 + (wrap64 (a4)))) a1_2 (wrap64 (a2_0 + (wrap64 (a3)))) (wrap64 (a2_1 + (wrap64 (a4)))) a2_2 = some r) ∧ Aside0 (kq ≤ kj7) ∧ Aside0 (wc.heap[gb266]? = some (.cells #[.int .i64 a0_0, .int .i64 a0_1, .int .i64 a0_2] 23 (0, 0))) ∧ Aside0 (wc.heap[gb267]? = some (.cells #[.int .i64 a1_0, .int .i64 a1_1, .int .i64 a1_2] 23 (0, 0))) ∧ Aside0 (wc.heap[gb268]? = some (.cells #[.int .i64 a2_0, .int .i64 a2_1, .int .i64 a2_2] 23 (0, 0))) ∧ Aside0 (wc.heap[gb275]? = some (.cells #[.int .i64 t273, .int .u64 t274] 31 (0, 0))) ∧ Aside0 (wc.heap[gb286]? = some (.cells #[.int .i64 (wrap64 (a0_0 + (wrap64 (a3)))), .int .i64 (wrap64 (a0_1 + (wrap64 (a4)))), .int .i64 a0_2] 23 (0, 0))) ∧ Aside0 (wc.heap[gb287]? = some (.cells #[.int .i64 (wrap64 (a1_0 + (wrap64 (a3)))), .int .i64 (wrap64 (a1_1 + (wrap64 (a4)))), .int .i64 a1_2] 23 (0, 0))) ∧ Aside0 (wc.heap[gb288]? = some (.cells #[.int .i64 (wrap64 (a2_0 + (wrap64 (a3)))), .int .i64 (wrap64 (a2_1 + (wrap64 (a4)))), .int .i64 a2_2] 23 (0, 0))) ∧ Aside0 (Below w.heap.size w wc))
    case first =>
     have H := HC62.out
     clear HC62
     obtain ⟨y289, hy289⟩ : ∃ y_ : List (S23), y_ = (([(⟨a0_0, a0_1, a0_2⟩ : S23), (⟨a1_0, a1_1, a1_2⟩ : S23), (⟨a2_0, a2_1, a2_2⟩ : S23)] : List (S23))) := ⟨_, rfl⟩
     replace H : ((geom_Right.f kj7 y289).bind fun t292 => (if t292 = true then ((geom_Right.f kj7 (([(⟨wrap64 (a0_0 + (wrap64 (a3))), wrap64 (a0_1 + (wrap64 (a4))), a0_2⟩ : S23), (⟨wrap64 (a1_0 + (wrap64 (a3))), wrap64 (a1_1 + (wrap64 (a4))), a1_2⟩ : S23), (⟨wrap64 (a2_0 + (wrap64 (a3))), wrap64 (a2_1 + (wrap64 (a4))), a2_2⟩ : S23)] : List (S23)))).bind fun t296 => (lapidarylaw09_GeomLaws.j1 kj7 t269 (!t296) t273 t274 (wrap64 (a0_0 + (wrap64 (a3)))) (wrap64 (a0_1 + (wrap64 (a4)))) a0_2 (wrap64 (a1_0 + (wrap64 (a3)))) (wrap64 (a1_1 + (wrap64 (a4)))) a1_2 (wrap64 (a2_0 + (wrap64 (a3)))) (wrap64 (a2_1 + (wrap64 (a4)))) a2_2)) else (lapidarylaw09_GeomLaws.j1 kj7 t269 true t273 t274 (wrap64 (a0_0 + (wrap64 (a3)))) (wrap64 (a0_1 + (wrap64 (a4)))) a0_2 (wrap64 (a1_0 + (wrap64 (a3)))) (wrap64 (a1_1 + (wrap64 (a4)))) a1_2 (wrap64 (a2_0 + (wrap64 (a3)))) (wrap64 (a2_1 + (wrap64 (a4)))) a2_2))) = some r := by first | (rw [hy289]; with_reducible exact H) | (have H2_ := (Option.bind_some _ _).symm.trans H; rw [hy289]; with_reducible exact H2_) | (have H2_ := (Option.bind_some _ _).symm.trans H; with_reducible exact H2_) | with_reducible exact H | (rw [hy289]; exact H) | exact H
     have Ny289 := AM hy289
     clear hy289
     replace H := Option.bind_eq_some_iff.mp H
     obtain ⟨t292, A930, H⟩ := H
     replace H : (if t292 = true then ((geom_Right.f kj7 (([(⟨wrap64 (a0_0 + (wrap64 (a3))), wrap64 (a0_1 + (wrap64 (a4))), a0_2⟩ : S23), (⟨wrap64 (a1_0 + (wrap64 (a3))), wrap64 (a1_1 + (wrap64 (a4))), a1_2⟩ : S23), (⟨wrap64 (a2_0 + (wrap64 (a3))), wrap64 (a2_1 + (wrap64 (a4))), a2_2⟩ : S23)] : List (S23)))).bind fun t296 => (lapidarylaw09_GeomLaws.j1 kj7 t269 (!t296) t273 t274 (wrap64 (a0_0 + (wrap64 (a3)))) (wrap64 (a0_1 + (wrap64 (a4)))) a0_2 (wrap64 (a1_0 + (wrap64 (a3)))) (wrap64 (a1_1 + (wrap64 (a4)))) a1_2 (wrap64 (a2_0 + (wrap64 (a3)))) (wrap64 (a2_1 + (wrap64 (a4)))) a2_2)) else (lapidarylaw09_GeomLaws.j1 kj7 t269 true t273 t274 (wrap64 (a0_0 + (wrap64 (a3)))) (wrap64 (a0_1 + (wrap64 (a4)))) a0_2 (wrap64 (a1_0 + (wrap64 (a3)))) (wrap64 (a1_1 + (wrap64 (a4)))) a1_2 (wrap64 (a2_0 + (wrap64 (a3)))) (wrap64 (a2_1 + (wrap64 (a4)))) a2_2)) = some r := H
     have A93 := AM A930
     clear A930
     by_cases c94 : t292 = true
     ·subst c94
      have H1 : ((geom_Right.f kj7 (([(⟨wrap64 (a0_0 + (wrap64 (a3))), wrap64 (a0_1 + (wrap64 (a4))), a0_2⟩ : S23), (⟨wrap64 (a1_0 + (wrap64 (a3))), wrap64 (a1_1 + (wrap64 (a4))), a1_2⟩ : S23), (⟨wrap64 (a2_0 + (wrap64 (a3))), wrap64 (a2_1 + (wrap64 (a4))), a2_2⟩ : S23)] : List (S23)))).bind fun t296 => (lapidarylaw09_GeomLaws.j1 kj7 t269 (!t296) t273 t274 (wrap64 (a0_0 + (wrap64 (a3)))) (wrap64 (a0_1 + (wrap64 (a4)))) a0_2 (wrap64 (a1_0 + (wrap64 (a3)))) (wrap64 (a1_1 + (wrap64 (a4)))) a1_2 (wrap64 (a2_0 + (wrap64 (a3)))) (wrap64 (a2_1 + (wrap64 (a4)))) a2_2)) = some r := by rw [if_pos rfl] at H; exact H
      clear H
      have H := H1
      clear H1
      obtain ⟨y293, hy293⟩ : ∃ y_ : List (S23), y_ = (([(⟨wrap64 (a0_0 + (wrap64 (a3))), wrap64 (a0_1 + (wrap64 (a4))), a0_2⟩ : S23), (⟨wrap64 (a1_0 + (wrap64 (a3))), wrap64 (a1_1 + (wrap64 (a4))), a1_2⟩ : S23), (⟨wrap64 (a2_0 + (wrap64 (a3))), wrap64 (a2_1 + (wrap64 (a4))), a2_2⟩ : S23)] : List (S23))) := ⟨_, rfl⟩
      replace H : ((geom_Right.f kj7 y293).bind fun t296 => (lapidarylaw09_GeomLaws.j1 kj7 t269 (!t296) t273 t274 (wrap64 (a0_0 + (wrap64 (a3)))) (wrap64 (a0_1 + (wrap64 (a4)))) a0_2 (wrap64 (a1_0 + (wrap64 (a3)))) (wrap64 (a1_1 + (wrap64 (a4)))) a1_2 (wrap64 (a2_0 + (wrap64 (a3)))) (wrap64 (a2_1 + (wrap64 (a4)))) a2_2)) = some r := by first | (rw [hy293]; with_reducible exact H) | (have H2_ := (Option.bind_some _ _).symm.trans H; rw [hy293]; with_reducible exact H2_) | (have H2_ := (Option.bind_some _ _).symm.trans H; with_reducible exact H2_) | with_reducible exact H | (rw [hy293]; exact H) | exact H
      have Ny293 := AM hy293
      clear hy293
      replace H := Option.bind_eq_some_iff.mp H
      obtain ⟨t296, A950, H⟩ := H
      replace H : (lapidarylaw09_GeomLaws.j1 kj7 t269 (!t296) t273 t274 (wrap64 (a0_0 + (wrap64 (a3)))) (wrap64 (a0_1 + (wrap64 (a4)))) a0_2 (wrap64 (a1_0 + (wrap64 (a3)))) (wrap64 (a1_1 + (wrap64 (a4)))) a1_2 (wrap64 (a2_0 + (wrap64 (a3)))) (wrap64 (a2_1 + (wrap64 (a4)))) a2_2) = some r := H
      have A95 := AM A950
      clear A950
      have H' := AM H
      clear H
      have hnb96 := NB266_267.out
      have hnc96 := NB267_266.out
      have hnb97 := NB266_268.out
      have hnc97 := NB268_266.out
      have hnb98 := NB266_275.out
      have hnc98 := NB275_266.out
      have hnb99 := NB266_286.out
      have hnc99 := NB286_266.out
      have hnb100 := NB266_287.out
      have hnc100 := NB287_266.out
      have hnb101 := NB266_288.out
      have hnc101 := NB288_266.out
      have hcz102_0 : w85.cell? ⟨gb266, 0, none⟩ = some (.int .i64 a0_0) := (blk_cell BK266.out 0).trans rfl
      have hcz102_1 : w85.cell? ⟨gb266, 1, none⟩ = some (.int .i64 a0_1) := (blk_cell BK266.out 1).trans rfl
      have hcz102_2 : w85.cell? ⟨gb266, 2, none⟩ = some (.int .i64 a0_2) := (blk_cell BK266.out 2).trans rfl
      have hfz102_0 := blk_frozen BK266.out 0
      have hfz102_1 := blk_frozen BK266.out 1
      have hfz102_2 := blk_frozen BK266.out 2
      have hnb103 := NB267_268.out
      have hnc103 := NB268_267.out
      have hnb104 := NB267_275.out
      have hnc104 := NB275_267.out
      have hnb105 := NB267_286.out
      have hnc105 := NB286_267.out
      have hnb106 := NB267_287.out
      have hnc106 := NB287_267.out
      have hnb107 := NB267_288.out
      have hnc107 := NB288_267.out
      have hcz108_0 : w85.cell? ⟨gb267, 0, none⟩ = some (.int .i64 a1_0) := (blk_cell BK267.out 0).trans rfl
      have hcz108_1 : w85.cell? ⟨gb267, 1, none⟩ = some (.int .i64 a1_1) := (blk_cell BK267.out 1).trans rfl
      have hcz108_2 : w85.cell? ⟨gb267, 2, none⟩ = some (.int .i64 a1_2) := (blk_cell BK267.out 2).trans rfl
      have hfz108_0 := blk_frozen BK267.out 0
      have hfz108_1 := blk_frozen BK267.out 1
      have hfz108_2 := blk_frozen BK267.out 2
      have hnb109 := NB268_275.out
      have hnc109 := NB275_268.out
      have hnb110 := NB268_286.out
      have hnc110 := NB286_268.out
      have hnb111 := NB268_287.out
      have hnc111 := NB287_268.out
      have hnb112 := NB268_288.out
      have hnc112 := NB288_268.out
      have hcz113_0 : w85.cell? ⟨gb268, 0, none⟩ = some (.int .i64 a2_0) := (blk_cell BK268.out 0).trans rfl
      have hcz113_1 : w85.cell? ⟨gb268, 1, none⟩ = some (.int .i64 a2_1) := (blk_cell BK268.out 1).trans rfl
      have hcz113_2 : w85.cell? ⟨gb268, 2, none⟩ = some (.int .i64 a2_2) := (blk_cell BK268.out 2).trans rfl
      have hfz113_0 := blk_frozen BK268.out 0
      have hfz113_1 := blk_frozen BK268.out 1
      have hfz113_2 := blk_frozen BK268.out 2
      go_wp2_with (first | ((with_reducible refine gate_dst (N := 98) rfl ?_); (try (refine gate_guard (by rfl) ?_; dsimp only)); refine Kd.R_lit k23 _ 23 ?hg (N := 98) ?hd (xs := ([(⟨a0_0, a0_1, a0_2⟩ : S23), (⟨a1_0, a1_1, a1_2⟩ : S23), (⟨a2_0, a2_1, a2_2⟩ : S23)] : List (S23))) (inner := [.int .i64 a0_0, .int .i64 a0_1, .int .i64 a0_2, .int .i64 a1_0, .int .i64 a1_1, .int .i64 a1_2, .int .i64 a2_0, .int .i64 a2_1, .int .i64 a2_2]) (ok := fun _ => True) (okp := fun _ => True) ?hr ?hp (fun _ hk => hk) trivial (Below.refl _ _) (Nat.le_refl _) (by simp) ?_; (case hd => rfl); (case hg => rfl); (case hr => first | (go_simp; done) | (go_simp; rfl)); (case hp => exact (Reps.c3 (show Kd.M k23 _ _ _ (⟨a0_0, a0_1, a0_2⟩ : S23) [.int .i64 a0_0, .int .i64 a0_1, .int .i64 a0_2] from (k23_mkM _ _ _ (⟨a0_0, a0_1, a0_2⟩ : S23) )) (Reps.c3 (show Kd.M k23 _ _ _ (⟨a1_0, a1_1, a1_2⟩ : S23) [.int .i64 a1_0, .int .i64 a1_1, .int .i64 a1_2] from (k23_mkM _ _ _ (⟨a1_0, a1_1, a1_2⟩ : S23) )) (Reps.c3 (show Kd.M k23 _ _ _ (⟨a2_0, a2_1, a2_2⟩ : S23) [.int .i64 a2_0, .int .i64 a2_1, .int .i64 a2_2] from (k23_mkM _ _ _ (⟨a2_0, a2_1, a2_2⟩ : S23) )) (Reps.none _ _))))); intro v290 w114 ho115 hb hg_ hnew_; clear hg_ hnew_; (first | rw [← Ny289.out] at ho115 | (simp only [Int.reduceToNat] at ho115; rw [← Ny289.out] at ho115)); have n0_ := AM (Kd.R_lower (Kd.R_newB (Kd.R_newB (Kd.R_newB (Kd.R_newB (Kd.R_newB (Kd.R_newB ho115 (g := gb266) (o := .cells #[.int .i64 a0_0, .int .i64 a0_1, .int .i64 a0_2] 23 (0, 0)) (by (with_reducible repeat (first | refine bN ?_ _ | refine bD ?_ | refine bA ?_ _)); refine blk_far ?_ NB266_288.out _; (with_reducible repeat (first | refine bN ?_ _ | refine bD ?_ | refine bA ?_ _)); refine blk_far ?_ NB266_288.out _; (with_reducible repeat (first | refine bN ?_ _ | refine bD ?_ | refine bA ?_ _)); refine blk_far ?_ NB266_288.out _; (with_reducible repeat (first | refine bN ?_ _ | refine bD ?_ | refine bA ?_ _)); exact BK266.out)) (g := gb267) (o := .cells #[.int .i64 a1_0, .int .i64 a1_1, .int .i64 a1_2] 23 (0, 0)) (by (with_reducible repeat (first | refine bN ?_ _ | refine bD ?_ | refine bA ?_ _)); refine blk_far ?_ NB267_288.out _; (with_reducible repeat (first | refine bN ?_ _ | refine bD ?_ | refine bA ?_ _)); refine blk_far ?_ NB267_288.out _; (with_reducible repeat (first | refine bN ?_ _ | refine bD ?_ | refine bA ?_ _)); refine blk_far ?_ NB267_288.out _; (with_reducible repeat (first | refine bN ?_ _ | refine bD ?_ | refine bA ?_ _)); exact BK267.out)) (g := gb268) (o := .cells #[.int .i64 a2_0, .int .i64 a2_1, .int .i64 a2_2] 23 (0, 0)) (by (with_reducible repeat (first | refine bN ?_ _ | refine bD ?_ | refine bA ?_ _)); refine blk_far ?_ NB268_288.out _; (with_reducible repeat (first | refine bN ?_ _ | refine bD ?_ | refine bA ?_ _)); refine blk_far ?_ NB268_288.out _; (with_reducible repeat (first | refine bN ?_ _ | refine bD ?_ | refine bA ?_ _)); refine blk_far ?_ NB268_288.out _; (with_reducible repeat (first | refine bN ?_ _ | refine bD ?_ | refine bA ?_ _)); exact BK268.out)) (g := gb286) (o := .cells #[.int .i64 (wrap64 (a0_0 + (wrap64 (a3)))), .int .i64 (wrap64 (a0_1 + (wrap64 (a4)))), .int .i64 a0_2] 23 (0, 0)) (by (with_reducible repeat (first | refine bN ?_ _ | refine bD ?_ | refine bA ?_ _)); refine blk_far ?_ NB286_288.out _; (with_reducible repeat (first | refine bN ?_ _ | refine bD ?_ | refine bA ?_ _)); refine blk_far ?_ NB286_288.out _; (with_reducible repeat (first | refine bN ?_ _ | refine bD ?_ | refine bA ?_ _)); refine blk_far ?_ NB286_288.out _; (with_reducible repeat (first | refine bN ?_ _ | refine bD ?_ | refine bA ?_ _)); exact BK286.out)) (g := gb287) (o := .cells #[.int .i64 (wrap64 (a1_0 + (wrap64 (a3)))), .int .i64 (wrap64 (a1_1 + (wrap64 (a4)))), .int .i64 a1_2] 23 (0, 0)) (by (with_reducible repeat (first | refine bN ?_ _ | refine bD ?_ | refine bA ?_ _)); refine blk_far ?_ NB287_288.out _; (with_reducible repeat (first | refine bN ?_ _ | refine bD ?_ | refine bA ?_ _)); refine blk_far ?_ NB287_288.out _; (with_reducible repeat (first | refine bN ?_ _ | refine bD ?_ | refine bA ?_ _)); refine blk_far ?_ NB287_288.out _; (with_reducible repeat (first | refine bN ?_ _ | refine bD ?_ | refine bA ?_ _)); exact BK287.out)) (g := gb288) (o := .cells #[.int .i64 (wrap64 (a2_0 + (wrap64 (a3)))), .int .i64 (wrap64 (a2_1 + (wrap64 (a4)))), .int .i64 a2_2] 23 (0, 0)) (by (with_reducible repeat (first | refine bN ?_ _ | refine bD ?_ | refine bA ?_ _)); refine blk_put (cs := #[.int .i64 (wrap64 (a2_0 + (wrap64 (a3)))), .int .i64 (wrap64 (a2_1 + (wrap64 (a4)))), .int .i64 0]) ?_ 2 _ rfl; (with_reducible repeat (first | refine bN ?_ _ | refine bD ?_ | refine bA ?_ _)); refine blk_put (cs := #[.int .i64 (wrap64 (a2_0 + (wrap64 (a3)))), .int .i64 0, .int .i64 0]) ?_ 1 _ rfl; (with_reducible repeat (first | refine bN ?_ _ | refine bD ?_ | refine bA ?_ _)); refine blk_put (cs := #[.int .i64 0, .int .i64 0, .int .i64 0]) ?_ 0 _ rfl; (with_reducible repeat (first | refine bN ?_ _ | refine bD ?_ | refine bA ?_ _)); exact BK288.out)) (below_size (by repeat (first | (with_reducible first | exact HB.out | apply below_alloc | apply pw_below_drewN | apply below_drew1 | refine below_set ?_ (Aside0.out (by assumption))) | exact HB.out)))); have n1_ := AM (blk_below (g := gb266) (o := .cells #[.int .i64 a0_0, .int .i64 a0_1, .int .i64 a0_2] 23 (0, 0)) (by (with_reducible repeat (first | refine bN ?_ _ | refine bD ?_ | refine bA ?_ _)); refine blk_far ?_ NB266_288.out _; (with_reducible repeat (first | refine bN ?_ _ | refine bD ?_ | refine bA ?_ _)); refine blk_far ?_ NB266_288.out _; (with_reducible repeat (first | refine bN ?_ _ | refine bD ?_ | refine bA ?_ _)); refine blk_far ?_ NB266_288.out _; (with_reducible repeat (first | refine bN ?_ _ | refine bD ?_ | refine bA ?_ _)); exact BK266.out) hb); have n2_ := AM (blk_below (g := gb267) (o := .cells #[.int .i64 a1_0, .int .i64 a1_1, .int .i64 a1_2] 23 (0, 0)) (by (with_reducible repeat (first | refine bN ?_ _ | refine bD ?_ | refine bA ?_ _)); refine blk_far ?_ NB267_288.out _; (with_reducible repeat (first | refine bN ?_ _ | refine bD ?_ | refine bA ?_ _)); refine blk_far ?_ NB267_288.out _; (with_reducible repeat (first | refine bN ?_ _ | refine bD ?_ | refine bA ?_ _)); refine blk_far ?_ NB267_288.out _; (with_reducible repeat (first | refine bN ?_ _ | refine bD ?_ | refine bA ?_ _)); exact BK267.out) hb); have n3_ := AM (blk_below (g := gb268) (o := .cells #[.int .i64 a2_0, .int .i64 a2_1, .int .i64 a2_2] 23 (0, 0)) (by (with_reducible repeat (first | refine bN ?_ _ | refine bD ?_ | refine bA ?_ _)); refine blk_far ?_ NB268_288.out _; (with_reducible repeat (first | refine bN ?_ _ | refine bD ?_ | refine bA ?_ _)); refine blk_far ?_ NB268_288.out _; (with_reducible repeat (first | refine bN ?_ _ | refine bD ?_ | refine bA ?_ _)); refine blk_far ?_ NB268_288.out _; (with_reducible repeat (first | refine bN ?_ _ | refine bD ?_ | refine bA ?_ _)); exact BK268.out) hb); have n4_ := AM (blk_below (g := gb275) (o := .cells #[.int .i64 t273, .int .u64 t274] 31 (0, 0)) (by (with_reducible repeat (first | refine bN ?_ _ | refine bD ?_ | refine bA ?_ _)); refine blk_far ?_ NB275_288.out _; (with_reducible repeat (first | refine bN ?_ _ | refine bD ?_ | refine bA ?_ _)); refine blk_far ?_ NB275_288.out _; (with_reducible repeat (first | refine bN ?_ _ | refine bD ?_ | refine bA ?_ _)); refine blk_far ?_ NB275_288.out _; (with_reducible repeat (first | refine bN ?_ _ | refine bD ?_ | refine bA ?_ _)); exact BK275.out) hb); have n5_ := AM (blk_below (g := gb286) (o := .cells #[.int .i64 (wrap64 (a0_0 + (wrap64 (a3)))), .int .i64 (wrap64 (a0_1 + (wrap64 (a4)))), .int .i64 a0_2] 23 (0, 0)) (by (with_reducible repeat (first | refine bN ?_ _ | refine bD ?_ | refine bA ?_ _)); refine blk_far ?_ NB286_288.out _; (with_reducible repeat (first | refine bN ?_ _ | refine bD ?_ | refine bA ?_ _)); refine blk_far ?_ NB286_288.out _; (with_reducible repeat (first | refine bN ?_ _ | refine bD ?_ | refine bA ?_ _)); refine blk_far ?_ NB286_288.out _; (with_reducible repeat (first | refine bN ?_ _ | refine bD ?_ | refine bA ?_ _)); exact BK286.out) hb); have n6_ := AM (blk_below (g := gb287) (o := .cells #[.int .i64 (wrap64 (a1_0 + (wrap64 (a3)))), .int .i64 (wrap64 (a1_1 + (wrap64 (a4)))), .int .i64 a1_2] 23 (0, 0)) (by (with_reducible repeat (first | refine bN ?_ _ | refine bD ?_ | refine bA ?_ _)); refine blk_far ?_ NB287_288.out _; (with_reducible repeat (first | refine bN ?_ _ | refine bD ?_ | refine bA ?_ _)); refine blk_far ?_ NB287_288.out _; (with_reducible repeat (first | refine bN ?_ _ | refine bD ?_ | refine bA ?_ _)); refine blk_far ?_ NB287_288.out _; (with_reducible repeat (first | refine bN ?_ _ | refine bD ?_ | refine bA ?_ _)); exact BK287.out) hb); have n7_ := AM (blk_below (g := gb288) (o := .cells #[.int .i64 (wrap64 (a2_0 + (wrap64 (a3)))), .int .i64 (wrap64 (a2_1 + (wrap64 (a4)))), .int .i64 a2_2] 23 (0, 0)) (by (with_reducible repeat (first | refine bN ?_ _ | refine bD ?_ | refine bA ?_ _)); refine blk_put (cs := #[.int .i64 (wrap64 (a2_0 + (wrap64 (a3)))), .int .i64 (wrap64 (a2_1 + (wrap64 (a4)))), .int .i64 0]) ?_ 2 _ rfl; (with_reducible repeat (first | refine bN ?_ _ | refine bD ?_ | refine bA ?_ _)); refine blk_put (cs := #[.int .i64 (wrap64 (a2_0 + (wrap64 (a3)))), .int .i64 0, .int .i64 0]) ?_ 1 _ rfl; (with_reducible repeat (first | refine bN ?_ _ | refine bD ?_ | refine bA ?_ _)); refine blk_put (cs := #[.int .i64 0, .int .i64 0, .int .i64 0]) ?_ 0 _ rfl; (with_reducible repeat (first | refine bN ?_ _ | refine bD ?_ | refine bA ?_ _)); exact BK288.out) hb); have n8_ := AM (below_step (by repeat (first | (with_reducible first | exact HB.out | apply below_alloc | apply pw_below_drewN | apply below_drew1 | refine below_set ?_ (Aside0.out (by assumption))) | exact HB.out)) hb); clear BK266; clear BK267; clear BK268; clear BK275; clear BK286; clear BK287; clear BK288; clear HB; have HO291 := n0_; have BK266 := n1_; have BK267 := n2_; have BK268 := n3_; have BK275 := n4_; have BK286 := n5_; have BK287 := n6_; have BK288 := n7_; have HB := n8_; clear n0_ n1_ n2_ n3_ n4_ n5_ n6_ n7_ n8_; clear hb ho115; obtain ⟨Ao116, co116, eo116⟩ := Kd.R_slice HO291.out; subst eo116) | ((with_reducible refine gate_callee (f := 22) rfl ?_); refine goesL_ (some 99) rfl rfl Try.func22 (by kernel_rfl) rfl #[.slice Ao116 y289.length co116] rfl (by (try simp only [List.map_toArray, List.map_cons, List.map_nil]); first | done | rfl | (simp only [List.length_drop, List.length_take]; rfl)) ?_; (with_reducible refine (geom_Right.calls kj7 _ _ y289 true _ ?side1 ?side2 A93.out).mono ?_); (case side1 => repeat (first | exact (Kd.R_reads' HO291.out).2.2 | (with_reducible refine Kd.C_alloc ?_ _) | (with_reducible refine Kd.C_drewN ?_ _) | (with_reducible refine Kd.C_drew ?_))); (case side2 => exact (Kd.R_reads' HO291.out).2.1); rintro e w117 ⟨rfl, hb⟩; refine ⟨_, rfl, ?_⟩; have n0_ := AM (Kd.R_below (by (with_reducible repeat (first | apply Kd.R_alloc | apply Kd.R_drewN | apply Kd.R_drew)); exact HO291.out) hb); have n1_ := AM (blk_below (g := gb266) (o := .cells #[.int .i64 a0_0, .int .i64 a0_1, .int .i64 a0_2] 23 (0, 0)) (by (with_reducible repeat (first | refine bN ?_ _ | refine bD ?_ | refine bA ?_ _)); exact BK266.out) hb); have n2_ := AM (blk_below (g := gb267) (o := .cells #[.int .i64 a1_0, .int .i64 a1_1, .int .i64 a1_2] 23 (0, 0)) (by (with_reducible repeat (first | refine bN ?_ _ | refine bD ?_ | refine bA ?_ _)); exact BK267.out) hb); have n3_ := AM (blk_below (g := gb268) (o := .cells #[.int .i64 a2_0, .int .i64 a2_1, .int .i64 a2_2] 23 (0, 0)) (by (with_reducible repeat (first | refine bN ?_ _ | refine bD ?_ | refine bA ?_ _)); exact BK268.out) hb); have n4_ := AM (blk_below (g := gb275) (o := .cells #[.int .i64 t273, .int .u64 t274] 31 (0, 0)) (by (with_reducible repeat (first | refine bN ?_ _ | refine bD ?_ | refine bA ?_ _)); exact BK275.out) hb); have n5_ := AM (blk_below (g := gb286) (o := .cells #[.int .i64 (wrap64 (a0_0 + (wrap64 (a3)))), .int .i64 (wrap64 (a0_1 + (wrap64 (a4)))), .int .i64 a0_2] 23 (0, 0)) (by (with_reducible repeat (first | refine bN ?_ _ | refine bD ?_ | refine bA ?_ _)); exact BK286.out) hb); have n6_ := AM (blk_below (g := gb287) (o := .cells #[.int .i64 (wrap64 (a1_0 + (wrap64 (a3)))), .int .i64 (wrap64 (a1_1 + (wrap64 (a4)))), .int .i64 a1_2] 23 (0, 0)) (by (with_reducible repeat (first | refine bN ?_ _ | refine bD ?_ | refine bA ?_ _)); exact BK287.out) hb); have n7_ := AM (blk_below (g := gb288) (o := .cells #[.int .i64 (wrap64 (a2_0 + (wrap64 (a3)))), .int .i64 (wrap64 (a2_1 + (wrap64 (a4)))), .int .i64 a2_2] 23 (0, 0)) (by (with_reducible repeat (first | refine bN ?_ _ | refine bD ?_ | refine bA ?_ _)); exact BK288.out) hb); have n8_ := AM (below_step (by repeat (first | (with_reducible first | exact HB.out | apply below_alloc | apply pw_below_drewN | apply below_drew1 | refine below_set ?_ (Aside0.out (by assumption))) | exact HB.out)) hb); clear HO291; clear BK266; clear BK267; clear BK268; clear BK275; clear BK286; clear BK287; clear BK288; clear HB; have HO291 := n0_; have BK266 := n1_; have BK267 := n2_; have BK268 := n3_; have BK275 := n4_; have BK286 := n5_; have BK287 := n6_; have BK288 := n7_; have HB := n8_; clear n0_ n1_ n2_ n3_ n4_ n5_ n6_ n7_ n8_; (try clear hb); (try clear hb2); (try clear hk); (try clear hi); have hnb118 := NB286_275.out; have hnc118 := NB275_286.out; have hnb119 := NB286_287.out; have hnc119 := NB287_286.out; have hnb120 := NB286_288.out; have hnc120 := NB288_286.out; have hcz121_0 : w117.cell? ⟨gb286, 0, none⟩ = some (.int .i64 (wrap64 (a0_0 + (wrap64 (a3))))) := (blk_cell BK286.out 0).trans rfl; have hcz121_1 : w117.cell? ⟨gb286, 1, none⟩ = some (.int .i64 (wrap64 (a0_1 + (wrap64 (a4))))) := (blk_cell BK286.out 1).trans rfl; have hcz121_2 : w117.cell? ⟨gb286, 2, none⟩ = some (.int .i64 a0_2) := (blk_cell BK286.out 2).trans rfl; have hfz121_0 := blk_frozen BK286.out 0; have hfz121_1 := blk_frozen BK286.out 1; have hfz121_2 := blk_frozen BK286.out 2; have hnb122 := NB287_275.out; have hnc122 := NB275_287.out; have hnb123 := NB287_288.out; have hnc123 := NB288_287.out; have hcz124_0 : w117.cell? ⟨gb287, 0, none⟩ = some (.int .i64 (wrap64 (a1_0 + (wrap64 (a3))))) := (blk_cell BK287.out 0).trans rfl; have hcz124_1 : w117.cell? ⟨gb287, 1, none⟩ = some (.int .i64 (wrap64 (a1_1 + (wrap64 (a4))))) := (blk_cell BK287.out 1).trans rfl; have hcz124_2 : w117.cell? ⟨gb287, 2, none⟩ = some (.int .i64 a1_2) := (blk_cell BK287.out 2).trans rfl; have hfz124_0 := blk_frozen BK287.out 0; have hfz124_1 := blk_frozen BK287.out 1; have hfz124_2 := blk_frozen BK287.out 2; have hnb125 := NB288_275.out; have hnc125 := NB275_288.out; have hcz126_0 : w117.cell? ⟨gb288, 0, none⟩ = some (.int .i64 (wrap64 (a2_0 + (wrap64 (a3))))) := (blk_cell BK288.out 0).trans rfl; have hcz126_1 : w117.cell? ⟨gb288, 1, none⟩ = some (.int .i64 (wrap64 (a2_1 + (wrap64 (a4))))) := (blk_cell BK288.out 1).trans rfl; have hcz126_2 : w117.cell? ⟨gb288, 2, none⟩ = some (.int .i64 a2_2) := (blk_cell BK288.out 2).trans rfl; have hfz126_0 := blk_frozen BK288.out 0; have hfz126_1 := blk_frozen BK288.out 1; have hfz126_2 := blk_frozen BK288.out 2) | ((with_reducible refine gate_dst (N := 105) rfl ?_); (try (refine gate_guard (by rfl) ?_; dsimp only)); refine Kd.R_lit k23 _ 23 ?hg (N := 105) ?hd (xs := ([(⟨wrap64 (a0_0 + (wrap64 (a3))), wrap64 (a0_1 + (wrap64 (a4))), a0_2⟩ : S23), (⟨wrap64 (a1_0 + (wrap64 (a3))), wrap64 (a1_1 + (wrap64 (a4))), a1_2⟩ : S23), (⟨wrap64 (a2_0 + (wrap64 (a3))), wrap64 (a2_1 + (wrap64 (a4))), a2_2⟩ : S23)] : List (S23))) (inner := [.int .i64 (wrap64 (a0_0 + (wrap64 (a3)))), .int .i64 (wrap64 (a0_1 + (wrap64 (a4)))), .int .i64 a0_2, .int .i64 (wrap64 (a1_0 + (wrap64 (a3)))), .int .i64 (wrap64 (a1_1 + (wrap64 (a4)))), .int .i64 a1_2, .int .i64 (wrap64 (a2_0 + (wrap64 (a3)))), .int .i64 (wrap64 (a2_1 + (wrap64 (a4)))), .int .i64 a2_2]) (ok := fun _ => True) (okp := fun _ => True) ?hr ?hp (fun _ hk => hk) trivial (Below.refl _ _) (Nat.le_refl _) (by simp) ?_; (case hd => rfl); (case hg => rfl); (case hr => first | (go_simp; done) | (go_simp; rfl)); (case hp => exact (Reps.c3 (show Kd.M k23 _ _ _ (⟨wrap64 (a0_0 + (wrap64 (a3))), wrap64 (a0_1 + (wrap64 (a4))), a0_2⟩ : S23) [.int .i64 (wrap64 (a0_0 + (wrap64 (a3)))), .int .i64 (wrap64 (a0_1 + (wrap64 (a4)))), .int .i64 a0_2] from (k23_mkM _ _ _ (⟨wrap64 (a0_0 + (wrap64 (a3))), wrap64 (a0_1 + (wrap64 (a4))), a0_2⟩ : S23) )) (Reps.c3 (show Kd.M k23 _ _ _ (⟨wrap64 (a1_0 + (wrap64 (a3))), wrap64 (a1_1 + (wrap64 (a4))), a1_2⟩ : S23) [.int .i64 (wrap64 (a1_0 + (wrap64 (a3)))), .int .i64 (wrap64 (a1_1 + (wrap64 (a4)))), .int .i64 a1_2] from (k23_mkM _ _ _ (⟨wrap64 (a1_0 + (wrap64 (a3))), wrap64 (a1_1 + (wrap64 (a4))), a1_2⟩ : S23) )) (Reps.c3 (show Kd.M k23 _ _ _ (⟨wrap64 (a2_0 + (wrap64 (a3))), wrap64 (a2_1 + (wrap64 (a4))), a2_2⟩ : S23) [.int .i64 (wrap64 (a2_0 + (wrap64 (a3)))), .int .i64 (wrap64 (a2_1 + (wrap64 (a4)))), .int .i64 a2_2] from (k23_mkM _ _ _ (⟨wrap64 (a2_0 + (wrap64 (a3))), wrap64 (a2_1 + (wrap64 (a4))), a2_2⟩ : S23) )) (Reps.none _ _))))); intro v294 w127 ho128 hb hg_ hnew_; clear hg_ hnew_; (first | rw [← Ny293.out] at ho128 | (simp only [Int.reduceToNat] at ho128; rw [← Ny293.out] at ho128)); have n0_ := AM (Kd.R_elder' (by (with_reducible repeat (first | apply Kd.R_alloc | apply Kd.R_drewN | apply Kd.R_drew)); exact HO291.out) (Kd.R_base ho128) hb); have n1_ := AM (Kd.R_lower (Kd.R_newB (Kd.R_newB (Kd.R_newB (Kd.R_newB (Kd.R_newB (Kd.R_newB (Kd.R_new' ho128 (Kd.R_lt (by (with_reducible repeat (first | apply Kd.R_alloc | apply Kd.R_drewN | apply Kd.R_drew)); exact HO291.out))) (g := gb266) (o := .cells #[.int .i64 a0_0, .int .i64 a0_1, .int .i64 a0_2] 23 (0, 0)) (by (with_reducible repeat (first | refine bN ?_ _ | refine bD ?_ | refine bA ?_ _)); exact BK266.out)) (g := gb267) (o := .cells #[.int .i64 a1_0, .int .i64 a1_1, .int .i64 a1_2] 23 (0, 0)) (by (with_reducible repeat (first | refine bN ?_ _ | refine bD ?_ | refine bA ?_ _)); exact BK267.out)) (g := gb268) (o := .cells #[.int .i64 a2_0, .int .i64 a2_1, .int .i64 a2_2] 23 (0, 0)) (by (with_reducible repeat (first | refine bN ?_ _ | refine bD ?_ | refine bA ?_ _)); exact BK268.out)) (g := gb286) (o := .cells #[.int .i64 (wrap64 (a0_0 + (wrap64 (a3)))), .int .i64 (wrap64 (a0_1 + (wrap64 (a4)))), .int .i64 a0_2] 23 (0, 0)) (by (with_reducible repeat (first | refine bN ?_ _ | refine bD ?_ | refine bA ?_ _)); exact BK286.out)) (g := gb287) (o := .cells #[.int .i64 (wrap64 (a1_0 + (wrap64 (a3)))), .int .i64 (wrap64 (a1_1 + (wrap64 (a4)))), .int .i64 a1_2] 23 (0, 0)) (by (with_reducible repeat (first | refine bN ?_ _ | refine bD ?_ | refine bA ?_ _)); exact BK287.out)) (g := gb288) (o := .cells #[.int .i64 (wrap64 (a2_0 + (wrap64 (a3)))), .int .i64 (wrap64 (a2_1 + (wrap64 (a4)))), .int .i64 a2_2] 23 (0, 0)) (by (with_reducible repeat (first | refine bN ?_ _ | refine bD ?_ | refine bA ?_ _)); exact BK288.out)) (below_size (by repeat (first | (with_reducible first | exact HB.out | apply below_alloc | apply pw_below_drewN | apply below_drew1 | refine below_set ?_ (Aside0.out (by assumption))) | exact HB.out)))); have n2_ := AM (blk_below (g := gb266) (o := .cells #[.int .i64 a0_0, .int .i64 a0_1, .int .i64 a0_2] 23 (0, 0)) (by (with_reducible repeat (first | refine bN ?_ _ | refine bD ?_ | refine bA ?_ _)); exact BK266.out) hb); have n3_ := AM (blk_below (g := gb267) (o := .cells #[.int .i64 a1_0, .int .i64 a1_1, .int .i64 a1_2] 23 (0, 0)) (by (with_reducible repeat (first | refine bN ?_ _ | refine bD ?_ | refine bA ?_ _)); exact BK267.out) hb); have n4_ := AM (blk_below (g := gb268) (o := .cells #[.int .i64 a2_0, .int .i64 a2_1, .int .i64 a2_2] 23 (0, 0)) (by (with_reducible repeat (first | refine bN ?_ _ | refine bD ?_ | refine bA ?_ _)); exact BK268.out) hb); have n5_ := AM (blk_below (g := gb275) (o := .cells #[.int .i64 t273, .int .u64 t274] 31 (0, 0)) (by (with_reducible repeat (first | refine bN ?_ _ | refine bD ?_ | refine bA ?_ _)); exact BK275.out) hb); have n6_ := AM (blk_below (g := gb286) (o := .cells #[.int .i64 (wrap64 (a0_0 + (wrap64 (a3)))), .int .i64 (wrap64 (a0_1 + (wrap64 (a4)))), .int .i64 a0_2] 23 (0, 0)) (by (with_reducible repeat (first | refine bN ?_ _ | refine bD ?_ | refine bA ?_ _)); exact BK286.out) hb); have n7_ := AM (blk_below (g := gb287) (o := .cells #[.int .i64 (wrap64 (a1_0 + (wrap64 (a3)))), .int .i64 (wrap64 (a1_1 + (wrap64 (a4)))), .int .i64 a1_2] 23 (0, 0)) (by (with_reducible repeat (first | refine bN ?_ _ | refine bD ?_ | refine bA ?_ _)); exact BK287.out) hb); have n8_ := AM (blk_below (g := gb288) (o := .cells #[.int .i64 (wrap64 (a2_0 + (wrap64 (a3)))), .int .i64 (wrap64 (a2_1 + (wrap64 (a4)))), .int .i64 a2_2] 23 (0, 0)) (by (with_reducible repeat (first | refine bN ?_ _ | refine bD ?_ | refine bA ?_ _)); exact BK288.out) hb); have n9_ := AM (below_step (by repeat (first | (with_reducible first | exact HB.out | apply below_alloc | apply pw_below_drewN | apply below_drew1 | refine below_set ?_ (Aside0.out (by assumption))) | exact HB.out)) hb); clear HO291; clear BK266; clear BK267; clear BK268; clear BK275; clear BK286; clear BK287; clear BK288; clear HB; have HO291 := n0_; have HO295 := n1_; have BK266 := n2_; have BK267 := n3_; have BK268 := n4_; have BK275 := n5_; have BK286 := n6_; have BK287 := n7_; have BK288 := n8_; have HB := n9_; clear n0_ n1_ n2_ n3_ n4_ n5_ n6_ n7_ n8_ n9_; clear hb ho128; obtain ⟨Ao129, co129, eo129⟩ := Kd.R_slice HO295.out; subst eo129) | (go_at_call 22; (with_reducible refine (geom_Right.calls kj7 _ _ y293 t296 _ ?side1 ?side2 A95.out).mono ?_); (case side1 => repeat (first | exact (Kd.R_reads' HO295.out).2.2 | (with_reducible refine Kd.C_alloc ?_ _) | (with_reducible refine Kd.C_drewN ?_ _) | (with_reducible refine Kd.C_drew ?_))); (case side2 => exact (Kd.R_reads' HO295.out).2.1); rintro e w130 ⟨rfl, hb⟩; have n0_ := AM (Kd.R_below (by (with_reducible repeat (first | apply Kd.R_alloc | apply Kd.R_drewN | apply Kd.R_drew)); exact HO291.out) hb); have n1_ := AM (Kd.R_below (by (with_reducible repeat (first | apply Kd.R_alloc | apply Kd.R_drewN | apply Kd.R_drew)); exact HO295.out) hb); have n2_ := AM (blk_below (g := gb266) (o := .cells #[.int .i64 a0_0, .int .i64 a0_1, .int .i64 a0_2] 23 (0, 0)) (by (with_reducible repeat (first | refine bN ?_ _ | refine bD ?_ | refine bA ?_ _)); exact BK266.out) hb); have n3_ := AM (blk_below (g := gb267) (o := .cells #[.int .i64 a1_0, .int .i64 a1_1, .int .i64 a1_2] 23 (0, 0)) (by (with_reducible repeat (first | refine bN ?_ _ | refine bD ?_ | refine bA ?_ _)); exact BK267.out) hb); have n4_ := AM (blk_below (g := gb268) (o := .cells #[.int .i64 a2_0, .int .i64 a2_1, .int .i64 a2_2] 23 (0, 0)) (by (with_reducible repeat (first | refine bN ?_ _ | refine bD ?_ | refine bA ?_ _)); exact BK268.out) hb); have n5_ := AM (blk_below (g := gb275) (o := .cells #[.int .i64 t273, .int .u64 t274] 31 (0, 0)) (by (with_reducible repeat (first | refine bN ?_ _ | refine bD ?_ | refine bA ?_ _)); exact BK275.out) hb); have n6_ := AM (blk_below (g := gb286) (o := .cells #[.int .i64 (wrap64 (a0_0 + (wrap64 (a3)))), .int .i64 (wrap64 (a0_1 + (wrap64 (a4)))), .int .i64 a0_2] 23 (0, 0)) (by (with_reducible repeat (first | refine bN ?_ _ | refine bD ?_ | refine bA ?_ _)); exact BK286.out) hb); have n7_ := AM (blk_below (g := gb287) (o := .cells #[.int .i64 (wrap64 (a1_0 + (wrap64 (a3)))), .int .i64 (wrap64 (a1_1 + (wrap64 (a4)))), .int .i64 a1_2] 23 (0, 0)) (by (with_reducible repeat (first | refine bN ?_ _ | refine bD ?_ | refine bA ?_ _)); exact BK287.out) hb); have n8_ := AM (blk_below (g := gb288) (o := .cells #[.int .i64 (wrap64 (a2_0 + (wrap64 (a3)))), .int .i64 (wrap64 (a2_1 + (wrap64 (a4)))), .int .i64 a2_2] 23 (0, 0)) (by (with_reducible repeat (first | refine bN ?_ _ | refine bD ?_ | refine bA ?_ _)); exact BK288.out) hb); have n9_ := AM (below_step (by repeat (first | (with_reducible first | exact HB.out | apply below_alloc | apply pw_below_drewN | apply below_drew1 | refine below_set ?_ (Aside0.out (by assumption))) | exact HB.out)) hb); clear HO291; clear HO295; clear BK266; clear BK267; clear BK268; clear BK275; clear BK286; clear BK287; clear BK288; clear HB; have HO291 := n0_; have HO295 := n1_; have BK266 := n2_; have BK267 := n3_; have BK268 := n4_; have BK275 := n5_; have BK286 := n6_; have BK287 := n7_; have BK288 := n8_; have HB := n9_; clear n0_ n1_ n2_ n3_ n4_ n5_ n6_ n7_ n8_ n9_; (try clear hb); (try clear hb2); (try clear hk); (try clear hi)))
      go_meet
      case rel => exact ⟨_, (!t296), (by first | rfl | (simp; done) | (simp [*]; done)), H', ⟨by have := HJ7.out; first | omega | exact Nat.le_refl _⟩, ⟨by (with_reducible repeat (first | refine bN ?_ _ | refine bD ?_ | refine bA ?_ _)); exact BK266.out⟩, ⟨by (with_reducible repeat (first | refine bN ?_ _ | refine bD ?_ | refine bA ?_ _)); exact BK267.out⟩, ⟨by (with_reducible repeat (first | refine bN ?_ _ | refine bD ?_ | refine bA ?_ _)); exact BK268.out⟩, ⟨by (with_reducible repeat (first | refine bN ?_ _ | refine bD ?_ | refine bA ?_ _)); exact BK275.out⟩, ⟨by (with_reducible repeat (first | refine bN ?_ _ | refine bD ?_ | refine bA ?_ _)); exact BK286.out⟩, ⟨by (with_reducible repeat (first | refine bN ?_ _ | refine bD ?_ | refine bA ?_ _)); exact BK287.out⟩, ⟨by (with_reducible repeat (first | refine bN ?_ _ | refine bD ?_ | refine bA ?_ _)); exact BK288.out⟩, ⟨by repeat (first | (with_reducible first | exact HB.out | apply below_alloc | apply pw_below_drewN | apply below_drew1 | refine below_set ?_ (Aside0.out (by assumption))) | exact HB.out)⟩⟩
     ·replace c94 := Bool.eq_false_iff.mpr c94
      subst c94
      have H1 : (lapidarylaw09_GeomLaws.j1 kj7 t269 true t273 t274 (wrap64 (a0_0 + (wrap64 (a3)))) (wrap64 (a0_1 + (wrap64 (a4)))) a0_2 (wrap64 (a1_0 + (wrap64 (a3)))) (wrap64 (a1_1 + (wrap64 (a4)))) a1_2 (wrap64 (a2_0 + (wrap64 (a3)))) (wrap64 (a2_1 + (wrap64 (a4)))) a2_2) = some r := by rw [if_neg (show ¬ (false = true) by decide)] at H; exact H
      clear H
      have H := H1
      clear H1
      have H' := AM H
      clear H
      have hnb131 := NB266_267.out
      have hnc131 := NB267_266.out
      have hnb132 := NB266_268.out
      have hnc132 := NB268_266.out
      have hnb133 := NB266_275.out
      have hnc133 := NB275_266.out
      have hnb134 := NB266_286.out
      have hnc134 := NB286_266.out
      have hnb135 := NB266_287.out
      have hnc135 := NB287_266.out
      have hnb136 := NB266_288.out
      have hnc136 := NB288_266.out
      have hcz137_0 : w85.cell? ⟨gb266, 0, none⟩ = some (.int .i64 a0_0) := (blk_cell BK266.out 0).trans rfl
      have hcz137_1 : w85.cell? ⟨gb266, 1, none⟩ = some (.int .i64 a0_1) := (blk_cell BK266.out 1).trans rfl
      have hcz137_2 : w85.cell? ⟨gb266, 2, none⟩ = some (.int .i64 a0_2) := (blk_cell BK266.out 2).trans rfl
      have hfz137_0 := blk_frozen BK266.out 0
      have hfz137_1 := blk_frozen BK266.out 1
      have hfz137_2 := blk_frozen BK266.out 2
      have hnb138 := NB267_268.out
      have hnc138 := NB268_267.out
      have hnb139 := NB267_275.out
      have hnc139 := NB275_267.out
      have hnb140 := NB267_286.out
      have hnc140 := NB286_267.out
      have hnb141 := NB267_287.out
      have hnc141 := NB287_267.out
      have hnb142 := NB267_288.out
      have hnc142 := NB288_267.out
      have hcz143_0 : w85.cell? ⟨gb267, 0, none⟩ = some (.int .i64 a1_0) := (blk_cell BK267.out 0).trans rfl
      have hcz143_1 : w85.cell? ⟨gb267, 1, none⟩ = some (.int .i64 a1_1) := (blk_cell BK267.out 1).trans rfl
      have hcz143_2 : w85.cell? ⟨gb267, 2, none⟩ = some (.int .i64 a1_2) := (blk_cell BK267.out 2).trans rfl
      have hfz143_0 := blk_frozen BK267.out 0
      have hfz143_1 := blk_frozen BK267.out 1
      have hfz143_2 := blk_frozen BK267.out 2
      have hnb144 := NB268_275.out
      have hnc144 := NB275_268.out
      have hnb145 := NB268_286.out
      have hnc145 := NB286_268.out
      have hnb146 := NB268_287.out
      have hnc146 := NB287_268.out
      have hnb147 := NB268_288.out
      have hnc147 := NB288_268.out
      have hcz148_0 : w85.cell? ⟨gb268, 0, none⟩ = some (.int .i64 a2_0) := (blk_cell BK268.out 0).trans rfl
      have hcz148_1 : w85.cell? ⟨gb268, 1, none⟩ = some (.int .i64 a2_1) := (blk_cell BK268.out 1).trans rfl
      have hcz148_2 : w85.cell? ⟨gb268, 2, none⟩ = some (.int .i64 a2_2) := (blk_cell BK268.out 2).trans rfl
      have hfz148_0 := blk_frozen BK268.out 0
      have hfz148_1 := blk_frozen BK268.out 1
      have hfz148_2 := blk_frozen BK268.out 2
      go_wp2_with (first | ((with_reducible refine gate_dst (N := 98) rfl ?_); (try (refine gate_guard (by rfl) ?_; dsimp only)); refine Kd.R_lit k23 _ 23 ?hg (N := 98) ?hd (xs := ([(⟨a0_0, a0_1, a0_2⟩ : S23), (⟨a1_0, a1_1, a1_2⟩ : S23), (⟨a2_0, a2_1, a2_2⟩ : S23)] : List (S23))) (inner := [.int .i64 a0_0, .int .i64 a0_1, .int .i64 a0_2, .int .i64 a1_0, .int .i64 a1_1, .int .i64 a1_2, .int .i64 a2_0, .int .i64 a2_1, .int .i64 a2_2]) (ok := fun _ => True) (okp := fun _ => True) ?hr ?hp (fun _ hk => hk) trivial (Below.refl _ _) (Nat.le_refl _) (by simp) ?_; (case hd => rfl); (case hg => rfl); (case hr => first | (go_simp; done) | (go_simp; rfl)); (case hp => exact (Reps.c3 (show Kd.M k23 _ _ _ (⟨a0_0, a0_1, a0_2⟩ : S23) [.int .i64 a0_0, .int .i64 a0_1, .int .i64 a0_2] from (k23_mkM _ _ _ (⟨a0_0, a0_1, a0_2⟩ : S23) )) (Reps.c3 (show Kd.M k23 _ _ _ (⟨a1_0, a1_1, a1_2⟩ : S23) [.int .i64 a1_0, .int .i64 a1_1, .int .i64 a1_2] from (k23_mkM _ _ _ (⟨a1_0, a1_1, a1_2⟩ : S23) )) (Reps.c3 (show Kd.M k23 _ _ _ (⟨a2_0, a2_1, a2_2⟩ : S23) [.int .i64 a2_0, .int .i64 a2_1, .int .i64 a2_2] from (k23_mkM _ _ _ (⟨a2_0, a2_1, a2_2⟩ : S23) )) (Reps.none _ _))))); intro v290 w149 ho150 hb hg_ hnew_; clear hg_ hnew_; (first | rw [← Ny289.out] at ho150 | (simp only [Int.reduceToNat] at ho150; rw [← Ny289.out] at ho150)); have n0_ := AM (Kd.R_lower (Kd.R_newB (Kd.R_newB (Kd.R_newB (Kd.R_newB (Kd.R_newB (Kd.R_newB ho150 (g := gb266) (o := .cells #[.int .i64 a0_0, .int .i64 a0_1, .int .i64 a0_2] 23 (0, 0)) (by (with_reducible repeat (first | refine bN ?_ _ | refine bD ?_ | refine bA ?_ _)); refine blk_far ?_ NB266_288.out _; (with_reducible repeat (first | refine bN ?_ _ | refine bD ?_ | refine bA ?_ _)); refine blk_far ?_ NB266_288.out _; (with_reducible repeat (first | refine bN ?_ _ | refine bD ?_ | refine bA ?_ _)); refine blk_far ?_ NB266_288.out _; (with_reducible repeat (first | refine bN ?_ _ | refine bD ?_ | refine bA ?_ _)); exact BK266.out)) (g := gb267) (o := .cells #[.int .i64 a1_0, .int .i64 a1_1, .int .i64 a1_2] 23 (0, 0)) (by (with_reducible repeat (first | refine bN ?_ _ | refine bD ?_ | refine bA ?_ _)); refine blk_far ?_ NB267_288.out _; (with_reducible repeat (first | refine bN ?_ _ | refine bD ?_ | refine bA ?_ _)); refine blk_far ?_ NB267_288.out _; (with_reducible repeat (first | refine bN ?_ _ | refine bD ?_ | refine bA ?_ _)); refine blk_far ?_ NB267_288.out _; (with_reducible repeat (first | refine bN ?_ _ | refine bD ?_ | refine bA ?_ _)); exact BK267.out)) (g := gb268) (o := .cells #[.int .i64 a2_0, .int .i64 a2_1, .int .i64 a2_2] 23 (0, 0)) (by (with_reducible repeat (first | refine bN ?_ _ | refine bD ?_ | refine bA ?_ _)); refine blk_far ?_ NB268_288.out _; (with_reducible repeat (first | refine bN ?_ _ | refine bD ?_ | refine bA ?_ _)); refine blk_far ?_ NB268_288.out _; (with_reducible repeat (first | refine bN ?_ _ | refine bD ?_ | refine bA ?_ _)); refine blk_far ?_ NB268_288.out _; (with_reducible repeat (first | refine bN ?_ _ | refine bD ?_ | refine bA ?_ _)); exact BK268.out)) (g := gb286) (o := .cells #[.int .i64 (wrap64 (a0_0 + (wrap64 (a3)))), .int .i64 (wrap64 (a0_1 + (wrap64 (a4)))), .int .i64 a0_2] 23 (0, 0)) (by (with_reducible repeat (first | refine bN ?_ _ | refine bD ?_ | refine bA ?_ _)); refine blk_far ?_ NB286_288.out _; (with_reducible repeat (first | refine bN ?_ _ | refine bD ?_ | refine bA ?_ _)); refine blk_far ?_ NB286_288.out _; (with_reducible repeat (first | refine bN ?_ _ | refine bD ?_ | refine bA ?_ _)); refine blk_far ?_ NB286_288.out _; (with_reducible repeat (first | refine bN ?_ _ | refine bD ?_ | refine bA ?_ _)); exact BK286.out)) (g := gb287) (o := .cells #[.int .i64 (wrap64 (a1_0 + (wrap64 (a3)))), .int .i64 (wrap64 (a1_1 + (wrap64 (a4)))), .int .i64 a1_2] 23 (0, 0)) (by (with_reducible repeat (first | refine bN ?_ _ | refine bD ?_ | refine bA ?_ _)); refine blk_far ?_ NB287_288.out _; (with_reducible repeat (first | refine bN ?_ _ | refine bD ?_ | refine bA ?_ _)); refine blk_far ?_ NB287_288.out _; (with_reducible repeat (first | refine bN ?_ _ | refine bD ?_ | refine bA ?_ _)); refine blk_far ?_ NB287_288.out _; (with_reducible repeat (first | refine bN ?_ _ | refine bD ?_ | refine bA ?_ _)); exact BK287.out)) (g := gb288) (o := .cells #[.int .i64 (wrap64 (a2_0 + (wrap64 (a3)))), .int .i64 (wrap64 (a2_1 + (wrap64 (a4)))), .int .i64 a2_2] 23 (0, 0)) (by (with_reducible repeat (first | refine bN ?_ _ | refine bD ?_ | refine bA ?_ _)); refine blk_put (cs := #[.int .i64 (wrap64 (a2_0 + (wrap64 (a3)))), .int .i64 (wrap64 (a2_1 + (wrap64 (a4)))), .int .i64 0]) ?_ 2 _ rfl; (with_reducible repeat (first | refine bN ?_ _ | refine bD ?_ | refine bA ?_ _)); refine blk_put (cs := #[.int .i64 (wrap64 (a2_0 + (wrap64 (a3)))), .int .i64 0, .int .i64 0]) ?_ 1 _ rfl; (with_reducible repeat (first | refine bN ?_ _ | refine bD ?_ | refine bA ?_ _)); refine blk_put (cs := #[.int .i64 0, .int .i64 0, .int .i64 0]) ?_ 0 _ rfl; (with_reducible repeat (first | refine bN ?_ _ | refine bD ?_ | refine bA ?_ _)); exact BK288.out)) (below_size (by repeat (first | (with_reducible first | exact HB.out | apply below_alloc | apply pw_below_drewN | apply below_drew1 | refine below_set ?_ (Aside0.out (by assumption))) | exact HB.out)))); have n1_ := AM (blk_below (g := gb266) (o := .cells #[.int .i64 a0_0, .int .i64 a0_1, .int .i64 a0_2] 23 (0, 0)) (by (with_reducible repeat (first | refine bN ?_ _ | refine bD ?_ | refine bA ?_ _)); refine blk_far ?_ NB266_288.out _; (with_reducible repeat (first | refine bN ?_ _ | refine bD ?_ | refine bA ?_ _)); refine blk_far ?_ NB266_288.out _; (with_reducible repeat (first | refine bN ?_ _ | refine bD ?_ | refine bA ?_ _)); refine blk_far ?_ NB266_288.out _; (with_reducible repeat (first | refine bN ?_ _ | refine bD ?_ | refine bA ?_ _)); exact BK266.out) hb); have n2_ := AM (blk_below (g := gb267) (o := .cells #[.int .i64 a1_0, .int .i64 a1_1, .int .i64 a1_2] 23 (0, 0)) (by (with_reducible repeat (first | refine bN ?_ _ | refine bD ?_ | refine bA ?_ _)); refine blk_far ?_ NB267_288.out _; (with_reducible repeat (first | refine bN ?_ _ | refine bD ?_ | refine bA ?_ _)); refine blk_far ?_ NB267_288.out _; (with_reducible repeat (first | refine bN ?_ _ | refine bD ?_ | refine bA ?_ _)); refine blk_far ?_ NB267_288.out _; (with_reducible repeat (first | refine bN ?_ _ | refine bD ?_ | refine bA ?_ _)); exact BK267.out) hb); have n3_ := AM (blk_below (g := gb268) (o := .cells #[.int .i64 a2_0, .int .i64 a2_1, .int .i64 a2_2] 23 (0, 0)) (by (with_reducible repeat (first | refine bN ?_ _ | refine bD ?_ | refine bA ?_ _)); refine blk_far ?_ NB268_288.out _; (with_reducible repeat (first | refine bN ?_ _ | refine bD ?_ | refine bA ?_ _)); refine blk_far ?_ NB268_288.out _; (with_reducible repeat (first | refine bN ?_ _ | refine bD ?_ | refine bA ?_ _)); refine blk_far ?_ NB268_288.out _; (with_reducible repeat (first | refine bN ?_ _ | refine bD ?_ | refine bA ?_ _)); exact BK268.out) hb); have n4_ := AM (blk_below (g := gb275) (o := .cells #[.int .i64 t273, .int .u64 t274] 31 (0, 0)) (by (with_reducible repeat (first | refine bN ?_ _ | refine bD ?_ | refine bA ?_ _)); refine blk_far ?_ NB275_288.out _; (with_reducible repeat (first | refine bN ?_ _ | refine bD ?_ | refine bA ?_ _)); refine blk_far ?_ NB275_288.out _; (with_reducible repeat (first | refine bN ?_ _ | refine bD ?_ | refine bA ?_ _)); refine blk_far ?_ NB275_288.out _; (with_reducible repeat (first | refine bN ?_ _ | refine bD ?_ | refine bA ?_ _)); exact BK275.out) hb); have n5_ := AM (blk_below (g := gb286) (o := .cells #[.int .i64 (wrap64 (a0_0 + (wrap64 (a3)))), .int .i64 (wrap64 (a0_1 + (wrap64 (a4)))), .int .i64 a0_2] 23 (0, 0)) (by (with_reducible repeat (first | refine bN ?_ _ | refine bD ?_ | refine bA ?_ _)); refine blk_far ?_ NB286_288.out _; (with_reducible repeat (first | refine bN ?_ _ | refine bD ?_ | refine bA ?_ _)); refine blk_far ?_ NB286_288.out _; (with_reducible repeat (first | refine bN ?_ _ | refine bD ?_ | refine bA ?_ _)); refine blk_far ?_ NB286_288.out _; (with_reducible repeat (first | refine bN ?_ _ | refine bD ?_ | refine bA ?_ _)); exact BK286.out) hb); have n6_ := AM (blk_below (g := gb287) (o := .cells #[.int .i64 (wrap64 (a1_0 + (wrap64 (a3)))), .int .i64 (wrap64 (a1_1 + (wrap64 (a4)))), .int .i64 a1_2] 23 (0, 0)) (by (with_reducible repeat (first | refine bN ?_ _ | refine bD ?_ | refine bA ?_ _)); refine blk_far ?_ NB287_288.out _; (with_reducible repeat (first | refine bN ?_ _ | refine bD ?_ | refine bA ?_ _)); refine blk_far ?_ NB287_288.out _; (with_reducible repeat (first | refine bN ?_ _ | refine bD ?_ | refine bA ?_ _)); refine blk_far ?_ NB287_288.out _; (with_reducible repeat (first | refine bN ?_ _ | refine bD ?_ | refine bA ?_ _)); exact BK287.out) hb); have n7_ := AM (blk_below (g := gb288) (o := .cells #[.int .i64 (wrap64 (a2_0 + (wrap64 (a3)))), .int .i64 (wrap64 (a2_1 + (wrap64 (a4)))), .int .i64 a2_2] 23 (0, 0)) (by (with_reducible repeat (first | refine bN ?_ _ | refine bD ?_ | refine bA ?_ _)); refine blk_put (cs := #[.int .i64 (wrap64 (a2_0 + (wrap64 (a3)))), .int .i64 (wrap64 (a2_1 + (wrap64 (a4)))), .int .i64 0]) ?_ 2 _ rfl; (with_reducible repeat (first | refine bN ?_ _ | refine bD ?_ | refine bA ?_ _)); refine blk_put (cs := #[.int .i64 (wrap64 (a2_0 + (wrap64 (a3)))), .int .i64 0, .int .i64 0]) ?_ 1 _ rfl; (with_reducible repeat (first | refine bN ?_ _ | refine bD ?_ | refine bA ?_ _)); refine blk_put (cs := #[.int .i64 0, .int .i64 0, .int .i64 0]) ?_ 0 _ rfl; (with_reducible repeat (first | refine bN ?_ _ | refine bD ?_ | refine bA ?_ _)); exact BK288.out) hb); have n8_ := AM (below_step (by repeat (first | (with_reducible first | exact HB.out | apply below_alloc | apply pw_below_drewN | apply below_drew1 | refine below_set ?_ (Aside0.out (by assumption))) | exact HB.out)) hb); clear BK266; clear BK267; clear BK268; clear BK275; clear BK286; clear BK287; clear BK288; clear HB; have HO291 := n0_; have BK266 := n1_; have BK267 := n2_; have BK268 := n3_; have BK275 := n4_; have BK286 := n5_; have BK287 := n6_; have BK288 := n7_; have HB := n8_; clear n0_ n1_ n2_ n3_ n4_ n5_ n6_ n7_ n8_; clear hb ho150; obtain ⟨Ao151, co151, eo151⟩ := Kd.R_slice HO291.out; subst eo151) | ((with_reducible refine gate_callee (f := 22) rfl ?_); refine goesL_ (some 99) rfl rfl Try.func22 (by kernel_rfl) rfl #[.slice Ao151 y289.length co151] rfl (by (try simp only [List.map_toArray, List.map_cons, List.map_nil]); first | done | rfl | (simp only [List.length_drop, List.length_take]; rfl)) ?_; (with_reducible refine (geom_Right.calls kj7 _ _ y289 false _ ?side1 ?side2 A93.out).mono ?_); (case side1 => repeat (first | exact (Kd.R_reads' HO291.out).2.2 | (with_reducible refine Kd.C_alloc ?_ _) | (with_reducible refine Kd.C_drewN ?_ _) | (with_reducible refine Kd.C_drew ?_))); (case side2 => exact (Kd.R_reads' HO291.out).2.1); rintro e w152 ⟨rfl, hb⟩; refine ⟨_, rfl, ?_⟩; have n0_ := AM (Kd.R_below (by (with_reducible repeat (first | apply Kd.R_alloc | apply Kd.R_drewN | apply Kd.R_drew)); exact HO291.out) hb); have n1_ := AM (blk_below (g := gb266) (o := .cells #[.int .i64 a0_0, .int .i64 a0_1, .int .i64 a0_2] 23 (0, 0)) (by (with_reducible repeat (first | refine bN ?_ _ | refine bD ?_ | refine bA ?_ _)); exact BK266.out) hb); have n2_ := AM (blk_below (g := gb267) (o := .cells #[.int .i64 a1_0, .int .i64 a1_1, .int .i64 a1_2] 23 (0, 0)) (by (with_reducible repeat (first | refine bN ?_ _ | refine bD ?_ | refine bA ?_ _)); exact BK267.out) hb); have n3_ := AM (blk_below (g := gb268) (o := .cells #[.int .i64 a2_0, .int .i64 a2_1, .int .i64 a2_2] 23 (0, 0)) (by (with_reducible repeat (first | refine bN ?_ _ | refine bD ?_ | refine bA ?_ _)); exact BK268.out) hb); have n4_ := AM (blk_below (g := gb275) (o := .cells #[.int .i64 t273, .int .u64 t274] 31 (0, 0)) (by (with_reducible repeat (first | refine bN ?_ _ | refine bD ?_ | refine bA ?_ _)); exact BK275.out) hb); have n5_ := AM (blk_below (g := gb286) (o := .cells #[.int .i64 (wrap64 (a0_0 + (wrap64 (a3)))), .int .i64 (wrap64 (a0_1 + (wrap64 (a4)))), .int .i64 a0_2] 23 (0, 0)) (by (with_reducible repeat (first | refine bN ?_ _ | refine bD ?_ | refine bA ?_ _)); exact BK286.out) hb); have n6_ := AM (blk_below (g := gb287) (o := .cells #[.int .i64 (wrap64 (a1_0 + (wrap64 (a3)))), .int .i64 (wrap64 (a1_1 + (wrap64 (a4)))), .int .i64 a1_2] 23 (0, 0)) (by (with_reducible repeat (first | refine bN ?_ _ | refine bD ?_ | refine bA ?_ _)); exact BK287.out) hb); have n7_ := AM (blk_below (g := gb288) (o := .cells #[.int .i64 (wrap64 (a2_0 + (wrap64 (a3)))), .int .i64 (wrap64 (a2_1 + (wrap64 (a4)))), .int .i64 a2_2] 23 (0, 0)) (by (with_reducible repeat (first | refine bN ?_ _ | refine bD ?_ | refine bA ?_ _)); exact BK288.out) hb); have n8_ := AM (below_step (by repeat (first | (with_reducible first | exact HB.out | apply below_alloc | apply pw_below_drewN | apply below_drew1 | refine below_set ?_ (Aside0.out (by assumption))) | exact HB.out)) hb); clear HO291; clear BK266; clear BK267; clear BK268; clear BK275; clear BK286; clear BK287; clear BK288; clear HB; have HO291 := n0_; have BK266 := n1_; have BK267 := n2_; have BK268 := n3_; have BK275 := n4_; have BK286 := n5_; have BK287 := n6_; have BK288 := n7_; have HB := n8_; clear n0_ n1_ n2_ n3_ n4_ n5_ n6_ n7_ n8_; (try clear hb); (try clear hb2); (try clear hk); (try clear hi)))
      go_meet
      case rel => exact ⟨_, (true), (by first | rfl | (simp; done) | (simp [*]; done)), H', ⟨by have := HJ7.out; first | omega | exact Nat.le_refl _⟩, ⟨by (with_reducible repeat (first | refine bN ?_ _ | refine bD ?_ | refine bA ?_ _)); exact BK266.out⟩, ⟨by (with_reducible repeat (first | refine bN ?_ _ | refine bD ?_ | refine bA ?_ _)); exact BK267.out⟩, ⟨by (with_reducible repeat (first | refine bN ?_ _ | refine bD ?_ | refine bA ?_ _)); exact BK268.out⟩, ⟨by (with_reducible repeat (first | refine bN ?_ _ | refine bD ?_ | refine bA ?_ _)); exact BK275.out⟩, ⟨by (with_reducible repeat (first | refine bN ?_ _ | refine bD ?_ | refine bA ?_ _)); exact BK286.out⟩, ⟨by (with_reducible repeat (first | refine bN ?_ _ | refine bD ?_ | refine bA ?_ _)); exact BK287.out⟩, ⟨by (with_reducible repeat (first | refine bN ?_ _ | refine bD ?_ | refine bA ?_ _)); exact BK288.out⟩, ⟨by repeat (first | (with_reducible first | exact HB.out | apply below_alloc | apply pw_below_drewN | apply below_drew1 | refine below_set ?_ (Aside0.out (by assumption))) | exact HB.out)⟩⟩
    case rest =>
     clear HC62
     try clear c1
     try clear c2
     try clear p2
     try clear c3
     try clear c6
     try clear p6
     try clear c7
     try clear c8
     try clear c9
     try clear c10
     try clear c11
     try clear c12
     try clear c13
     try clear c14
     try clear c20
     try clear c22
     try clear c32
     try clear c32b0
     try clear c32b1
     try clear c34
     try clear c34b0
     try clear c34b1
     try clear c61
     try clear c63
     try clear c64
     try clear p64
     try clear c65
     try clear c68
     try clear c69
     try clear c70
     try clear c71
     try clear c73
     try clear c74
     try clear c77
     try clear c78
     try clear c79
     try clear c80
     try clear c81
     try clear c83
     try clear c86
     try clear c87
     try clear c88
     try clear c89
     try clear c90
     try clear c91
     try clear c94
     try clear c96
     try clear c97
     try clear c98
     try clear c99
     try clear c100
     try clear c101
     try clear c103
     try clear c104
     try clear c105
     try clear c106
     try clear c107
     try clear c109
     try clear c110
     try clear c111
     try clear c112
     try clear c118
     try clear c119
     try clear c120
     try clear c122
     try clear c123
     try clear c125
     try clear c131
     try clear c132
     try clear c133
     try clear c134
     try clear c135
     try clear c136
     try clear c138
     try clear c139
     try clear c140
     try clear c141
     try clear c142
     try clear c144
     try clear c145
     try clear c146
     try clear c147
     try clear hcz102_0
     try clear hcz102_1
     try clear hcz102_2
     try clear hcz108_0
     try clear hcz108_1
     try clear hcz108_2
     try clear hcz113_0
     try clear hcz113_1
     try clear hcz113_2
     try clear hcz121_0
     try clear hcz121_1
     try clear hcz121_2
     try clear hcz124_0
     try clear hcz124_1
     try clear hcz124_2
     try clear hcz126_0
     try clear hcz126_1
     try clear hcz126_2
     try clear hcz137_0
     try clear hcz137_1
     try clear hcz137_2
     try clear hcz143_0
     try clear hcz143_1
     try clear hcz143_2
     try clear hcz148_0
     try clear hcz148_1
     try clear hcz148_2
     try clear hcz66_0
     try clear hcz66_1
     try clear hcz66_2
     try clear hcz72_0
     try clear hcz72_1
     try clear hcz72_2
     try clear hcz75_0
     try clear hcz75_1
     try clear hcz75_2
     try clear hcz82_0
     try clear hcz82_1
     try clear hcz82_2
     try clear hcz84_0
     try clear hcz84_1
     try clear hcz84_2
     try clear hcz92_0
     try clear hcz92_1
     try clear hcz92_2
     try clear hfz102_0
     try clear hfz102_1
     try clear hfz102_2
     try clear hfz108_0
     try clear hfz108_1
     try clear hfz108_2
     try clear hfz113_0
     try clear hfz113_1
     try clear hfz113_2
     try clear hfz121_0
     try clear hfz121_1
     try clear hfz121_2
     try clear hfz124_0
     try clear hfz124_1
     try clear hfz124_2
     try clear hfz126_0
     try clear hfz126_1
     try clear hfz126_2
     try clear hfz137_0
     try clear hfz137_1
     try clear hfz137_2
     try clear hfz143_0
     try clear hfz143_1
     try clear hfz143_2
     try clear hfz148_0
     try clear hfz148_1
     try clear hfz148_2
     try clear hfz66_0
     try clear hfz66_1
     try clear hfz66_2
     try clear hfz72_0
     try clear hfz72_1
     try clear hfz72_2
     try clear hfz75_0
     try clear hfz75_1
     try clear hfz75_2
     try clear hfz82_0
     try clear hfz82_1
     try clear hfz82_2
     try clear hfz84_0
     try clear hfz84_1
     try clear hfz84_2
     try clear hfz92_0
     try clear hfz92_1
     try clear hfz92_2
     try clear p2
     try clear p6
     obtain ⟨kq, x108_61, rfl, HA, HJ61, BK266, BK267, BK268, BK275, BK286, BK287, BK288, HB⟩ := hcut
     cases kq with
     | zero => exact absurd HA.out (by simp [lapidarylaw09_GeomLaws.j1])
     | succ kj61 =>
      have H := HA.out
      clear HA
      simp only [lapidarylaw09_GeomLaws.j1] at H
      by_cases c153 : x108_61 = true
      ·subst c153
       have H1 : ((lapidarylaw09_known.f kj61).bind fun t297 => (some t297)) = some r := by rw [if_pos rfl] at H; exact H
       clear H
       have H := H1
       clear H1
       replace H := Option.bind_eq_some_iff.mp H
       obtain ⟨t297, A1540, H⟩ := H
       replace H : (some t297) = some r := H
       have A154 := AM A1540
       clear A1540
       obtain rfl := Option.some.inj H
       go_wp2_with (first | ((with_reducible refine gate_callee (f := 13) rfl ?_); refine goesL_ (some 109) rfl rfl Try.func13 (by kernel_rfl) rfl #[] rfl (by (try simp only [List.map_toArray, List.map_cons, List.map_nil]); first | done | rfl | (simp only [List.length_drop, List.length_take]; rfl)) ?_; (with_reducible refine (lapidarylaw09_known.calls kj61  t297 _ A154.out).mono ?_); rintro e w155 ⟨rfl, hb⟩; refine ⟨_, rfl, ?_⟩; have n0_ := AM (blk_below (g := gb266) (o := .cells #[.int .i64 a0_0, .int .i64 a0_1, .int .i64 a0_2] 23 (0, 0)) (by (with_reducible repeat (first | refine bN ?_ _ | refine bD ?_ | refine bA ?_ _)); exact BK266.out) hb); have n1_ := AM (blk_below (g := gb267) (o := .cells #[.int .i64 a1_0, .int .i64 a1_1, .int .i64 a1_2] 23 (0, 0)) (by (with_reducible repeat (first | refine bN ?_ _ | refine bD ?_ | refine bA ?_ _)); exact BK267.out) hb); have n2_ := AM (blk_below (g := gb268) (o := .cells #[.int .i64 a2_0, .int .i64 a2_1, .int .i64 a2_2] 23 (0, 0)) (by (with_reducible repeat (first | refine bN ?_ _ | refine bD ?_ | refine bA ?_ _)); exact BK268.out) hb); have n3_ := AM (blk_below (g := gb275) (o := .cells #[.int .i64 t273, .int .u64 t274] 31 (0, 0)) (by (with_reducible repeat (first | refine bN ?_ _ | refine bD ?_ | refine bA ?_ _)); exact BK275.out) hb); have n4_ := AM (blk_below (g := gb286) (o := .cells #[.int .i64 (wrap64 (a0_0 + (wrap64 (a3)))), .int .i64 (wrap64 (a0_1 + (wrap64 (a4)))), .int .i64 a0_2] 23 (0, 0)) (by (with_reducible repeat (first | refine bN ?_ _ | refine bD ?_ | refine bA ?_ _)); exact BK286.out) hb); have n5_ := AM (blk_below (g := gb287) (o := .cells #[.int .i64 (wrap64 (a1_0 + (wrap64 (a3)))), .int .i64 (wrap64 (a1_1 + (wrap64 (a4)))), .int .i64 a1_2] 23 (0, 0)) (by (with_reducible repeat (first | refine bN ?_ _ | refine bD ?_ | refine bA ?_ _)); exact BK287.out) hb); have n6_ := AM (blk_below (g := gb288) (o := .cells #[.int .i64 (wrap64 (a2_0 + (wrap64 (a3)))), .int .i64 (wrap64 (a2_1 + (wrap64 (a4)))), .int .i64 a2_2] 23 (0, 0)) (by (with_reducible repeat (first | refine bN ?_ _ | refine bD ?_ | refine bA ?_ _)); exact BK288.out) hb); have n7_ := AM (below_step (by repeat (first | (with_reducible first | exact HB.out | apply below_alloc | apply pw_below_drewN | apply below_drew1 | refine below_set ?_ (Aside0.out (by assumption))) | exact HB.out)) hb); clear BK266; clear BK267; clear BK268; clear BK275; clear BK286; clear BK287; clear BK288; clear HB; have BK266 := n0_; have BK267 := n1_; have BK268 := n2_; have BK275 := n3_; have BK286 := n4_; have BK287 := n5_; have BK288 := n6_; have HB := n7_; clear n0_ n1_ n2_ n3_ n4_ n5_ n6_ n7_; (try clear hb); (try clear hb2); (try clear hk); (try clear hi)))
       go_ret
       exact ⟨by first | rfl | (simp [errW_none, errW_some] <;> rfl) | (simp [*, errW_none, errW_some] <;> rfl), by repeat (first | (with_reducible first | exact HB.out | apply below_alloc | apply pw_below_drewN | apply below_drew1 | refine below_set ?_ (Aside0.out (by assumption))) | exact HB.out)⟩
      ·replace c153 := Bool.eq_false_iff.mpr c153
       subst c153
       have H1 : ((geom_Turn.f kj61 (wrap64 (a0_0 + (wrap64 (a3)))) (wrap64 (a0_1 + (wrap64 (a4)))) a0_2 (wrap64 (a1_0 + (wrap64 (a3)))) (wrap64 (a1_1 + (wrap64 (a4)))) a1_2 (wrap64 (a2_0 + (wrap64 (a3)))) (wrap64 (a2_1 + (wrap64 (a4)))) a2_2).bind fun t298 => (if t298 = t269 then ((geom_Area.f kj61 (([(⟨(wrap64 (a0_0 + (wrap64 (a3)))), (wrap64 (a0_1 + (wrap64 (a4)))), a0_2⟩ : S23), (⟨(wrap64 (a1_0 + (wrap64 (a3)))), (wrap64 (a1_1 + (wrap64 (a4)))), a1_2⟩ : S23), (⟨(wrap64 (a2_0 + (wrap64 (a3)))), (wrap64 (a2_1 + (wrap64 (a4)))), a2_2⟩ : S23)] : List (S23)))).bind fun bt302 => (if (bt302.1 == t273 && (bt302.2 == t274)) = true then ((lapidarylaw09_known.f kj61).bind fun t304 => (some t304)) else (none))) else (none))) = some r := by rw [if_neg (show ¬ (false = true) by decide)] at H; exact H
       clear H
       have H := H1
       clear H1
       replace H := Option.bind_eq_some_iff.mp H
       obtain ⟨t298, A1560, H⟩ := H
       replace H : (if t298 = t269 then ((geom_Area.f kj61 (([(⟨(wrap64 (a0_0 + (wrap64 (a3)))), (wrap64 (a0_1 + (wrap64 (a4)))), a0_2⟩ : S23), (⟨(wrap64 (a1_0 + (wrap64 (a3)))), (wrap64 (a1_1 + (wrap64 (a4)))), a1_2⟩ : S23), (⟨(wrap64 (a2_0 + (wrap64 (a3)))), (wrap64 (a2_1 + (wrap64 (a4)))), a2_2⟩ : S23)] : List (S23)))).bind fun bt302 => (if (bt302.1 == t273 && (bt302.2 == t274)) = true then ((lapidarylaw09_known.f kj61).bind fun t304 => (some t304)) else (none))) else (none)) = some r := H
       have A156 := AM A1560
       clear A1560
       by_cases c157 : t298 = t269
       ·rw [if_pos c157] at H
        have c157b0 : (t298 == t269) = true := beq_iff_eq.mpr c157
        have c157b1 : (t298 != t269) = false := bne_eq_false_iff_eq.mpr c157
        clear c157
        obtain ⟨y299, hy299⟩ : ∃ y_ : List (S23), y_ = (([(⟨(wrap64 (a0_0 + (wrap64 (a3)))), (wrap64 (a0_1 + (wrap64 (a4)))), a0_2⟩ : S23), (⟨(wrap64 (a1_0 + (wrap64 (a3)))), (wrap64 (a1_1 + (wrap64 (a4)))), a1_2⟩ : S23), (⟨(wrap64 (a2_0 + (wrap64 (a3)))), (wrap64 (a2_1 + (wrap64 (a4)))), a2_2⟩ : S23)] : List (S23))) := ⟨_, rfl⟩
        replace H : ((geom_Area.f kj61 y299).bind fun bt302 => (if (bt302.1 == t273 && (bt302.2 == t274)) = true then ((lapidarylaw09_known.f kj61).bind fun t304 => (some t304)) else (none))) = some r := by first | (rw [hy299]; with_reducible exact H) | (have H2_ := (Option.bind_some _ _).symm.trans H; rw [hy299]; with_reducible exact H2_) | (have H2_ := (Option.bind_some _ _).symm.trans H; with_reducible exact H2_) | with_reducible exact H | (rw [hy299]; exact H) | exact H
        have Ny299 := AM hy299
        clear hy299
        replace H := Option.bind_eq_some_iff.mp H
        obtain ⟨⟨t302, t303⟩, A1580, H⟩ := H
        replace H : (if (t302 == t273 && (t303 == t274)) = true then ((lapidarylaw09_known.f kj61).bind fun t304 => (some t304)) else (none)) = some r := H
        have A158 := AM A1580
        clear A1580
        by_cases c159 : (t302 == t273 && (t303 == t274)) = true
        ·rw [if_pos c159] at H
         have c159b0 : (t302 == t273 && (t303 == t274)) = true := c159
         (try (have c159b1 : decide (t302 = t273 && (t303 == t274)) = true := by simpa using c159))
         (try (have c159b2 : (t302 == t273 && (t303 == t274)) = true := by simpa using c159))
         clear c159
         replace H := Option.bind_eq_some_iff.mp H
         obtain ⟨t304, A1600, H⟩ := H
         replace H : (some t304) = some r := H
         have A160 := AM A1600
         clear A1600
         obtain rfl := Option.some.inj H
         try go_wp2
         have n0_ := AM (bD BK266.out)
         have n1_ := AM (bD BK267.out)
         have n2_ := AM (bD BK268.out)
         have n3_ := AM (bD BK275.out)
         have n4_ := AM (bD BK286.out)
         have n5_ := AM (bD BK287.out)
         have n6_ := AM (bD BK288.out)
         have n7_ := AM (below_drew1 HB.out)
         clear BK266
         clear BK267
         clear BK268
         clear BK275
         clear BK286
         clear BK287
         clear BK288
         clear HB
         have BK266 := n0_
         have BK267 := n1_
         have BK268 := n2_
         have BK275 := n3_
         have BK286 := n4_
         have BK287 := n5_
         have BK288 := n6_
         have HB := n7_
         clear n0_ n1_ n2_ n3_ n4_ n5_ n6_ n7_
         refine start_ (n := 19) (S := fun w' => w'.cell? ⟨gb286, 0, none⟩ = some (.int .i64 (wrap64 (a0_0 + (wrap64 (a3))))) ∧ w'.cell? ⟨gb286, 1, none⟩ = some (.int .i64 (wrap64 (a0_1 + (wrap64 (a4))))) ∧ w'.cell? ⟨gb286, 2, none⟩ = some (.int .i64 a0_2) ∧ w'.cell? ⟨gb287, 0, none⟩ = some (.int .i64 (wrap64 (a1_0 + (wrap64 (a3))))) ∧ w'.cell? ⟨gb287, 1, none⟩ = some (.int .i64 (wrap64 (a1_1 + (wrap64 (a4))))) ∧ w'.cell? ⟨gb287, 2, none⟩ = some (.int .i64 a1_2) ∧ w'.cell? ⟨gb288, 0, none⟩ = some (.int .i64 (wrap64 (a2_0 + (wrap64 (a3))))) ∧ w'.cell? ⟨gb288, 1, none⟩ = some (.int .i64 (wrap64 (a2_1 + (wrap64 (a4))))) ∧ w'.cell? ⟨gb288, 2, none⟩ = some (.int .i64 a2_2) ∧ w'.cell? ⟨gb275, 0, none⟩ = some (.int .i64 t273) ∧ w'.cell? ⟨gb275, 1, none⟩ = some (.int .u64 t274)) (ds := []) #[false, false, false, false, false, false, false, false, false, false, false, false, false, false, false, false, false, false, false] (by kernel_rfl) rfl rfl ⟨(blk_cell BK286.out 0).trans rfl, (blk_cell BK286.out 1).trans rfl, (blk_cell BK286.out 2).trans rfl, (blk_cell BK287.out 0).trans rfl, (blk_cell BK287.out 1).trans rfl, (blk_cell BK287.out 2).trans rfl, (blk_cell BK288.out 0).trans rfl, (blk_cell BK288.out 1).trans rfl, (blk_cell BK288.out 2).trans rfl, (blk_cell BK275.out 0).trans rfl, (blk_cell BK275.out 1).trans rfl⟩ (fun hHeld => ?_); refine with_tabW lapidarylaw09_GeomLaws.tab10 lapidarylaw09_GeomLaws.bits10 (fun HT_ HW_ => ?_)
         generalize wc.drew = w161 at BK266 BK267 BK268 BK275 BK286 BK287 BK288 HB hHeld ⊢
         refine pure_ (i := 4) (N := some 114) (v := ?_) (a' := ?_) #[false, false, false, false, true, false, false, false, false, false, false, false, false, false, false, false, false, false, false] rfl rfl (any_of HT_.out (by kernel_rfl)) (fun _ _ _ h => h) (Or.inl ⟨by rfl, ?_⟩) ?_ ?_
         rotate_left
         ·intro w'
          go_simp
          with_reducible rfl
         rotate_left
         ·simp only [Act.put, sT, sZ, sS, i64_w, i32_w]
          rfl
         refine take_ (i := 0) (N := some 110) (v := ?_) (a' := ?_) #[true, false, false, false, true, false, false, false, false, false, false, false, false, false, false, false, false, false, false] rfl rfl (take_ofW HT_.out HW_.out (by kernel_rfl)) (fun _ _ _ h => h) (Or.inl ⟨by rfl, ?_⟩) hHeld ?_ ?_
         rotate_left
         ·rintro w' ⟨s0, s1, s2, s3, s4, s5, s6, s7, s8, s9, s10⟩
          go_simp
          with_reducible rfl
         rotate_left
         ·simp only [Act.put, sT, sZ, sS, i64_w, i32_w]
          rfl
         refine take_ (i := 1) (N := some 111) (v := ?_) (a' := ?_) #[true, true, false, false, true, false, false, false, false, false, false, false, false, false, false, false, false, false, false] rfl rfl (take_ofW HT_.out HW_.out (by kernel_rfl)) (fun _ _ _ h => h) (Or.inl ⟨by rfl, ?_⟩) hHeld ?_ ?_
         rotate_left
         ·rintro w' ⟨s0, s1, s2, s3, s4, s5, s6, s7, s8, s9, s10⟩
          go_simp
          with_reducible rfl
         rotate_left
         ·simp only [Act.put, sT, sZ, sS, i64_w, i32_w]
          rfl
         refine take_ (i := 2) (N := some 112) (v := ?_) (a' := ?_) #[true, true, true, false, true, false, false, false, false, false, false, false, false, false, false, false, false, false, false] rfl rfl (take_ofW HT_.out HW_.out (by kernel_rfl)) (fun _ _ _ h => h) (Or.inl ⟨by rfl, ?_⟩) hHeld ?_ ?_
         rotate_left
         ·rintro w' ⟨s0, s1, s2, s3, s4, s5, s6, s7, s8, s9, s10⟩
          go_simp
          with_reducible rfl
         rotate_left
         ·simp only [Act.put, sT, sZ, sS, i64_w, i32_w]
          rfl
         refine one_ (i := 3) (N := some 113) #[true, true, true, true, true, false, false, false, false, false, false, false, false, false, false, false, false, false, false] rfl rfl (one_of HT_.out (by kernel_rfl)) (by decide) (fun K hK => ?_)
         refine goes_ Try.func20 (by kernel_rfl) rfl #[.agg #[.int .i64 (wrap64 (a0_0 + (wrap64 (a3)))), .int .i64 (wrap64 (a0_1 + (wrap64 (a4)))), .int .i64 a0_2], .agg #[.int .i64 (wrap64 (a1_0 + (wrap64 (a3)))), .int .i64 (wrap64 (a1_1 + (wrap64 (a4)))), .int .i64 a1_2], .agg #[.int .i64 (wrap64 (a2_0 + (wrap64 (a3)))), .int .i64 (wrap64 (a2_1 + (wrap64 (a4)))), .int .i64 a2_2]] (by rfl) rfl rfl (by (try simp only [List.map_toArray, List.map_cons, List.map_nil]); first | done | rfl | (simp only [List.length_drop, List.length_take]; rfl)) ?_
         with_reducible refine (geom_Turn.calls kj61 (wrap64 (a0_0 + (wrap64 (a3)))) (wrap64 (a0_1 + (wrap64 (a4)))) a0_2 (wrap64 (a1_0 + (wrap64 (a3)))) (wrap64 (a1_1 + (wrap64 (a4)))) a1_2 (wrap64 (a2_0 + (wrap64 (a3)))) (wrap64 (a2_1 + (wrap64 (a4)))) a2_2 t298 _ A156.out).mono ?_
         rintro e w162 ⟨rfl, hb⟩
         refine ⟨_, rfl, ?_⟩
         have n0_ := AM (blk_below (g := gb266) (o := .cells #[.int .i64 a0_0, .int .i64 a0_1, .int .i64 a0_2] 23 (0, 0)) (by (with_reducible repeat (first | refine bN ?_ _ | refine bD ?_ | refine bA ?_ _)); exact BK266.out) hb)
         have n1_ := AM (blk_below (g := gb267) (o := .cells #[.int .i64 a1_0, .int .i64 a1_1, .int .i64 a1_2] 23 (0, 0)) (by (with_reducible repeat (first | refine bN ?_ _ | refine bD ?_ | refine bA ?_ _)); exact BK267.out) hb)
         have n2_ := AM (blk_below (g := gb268) (o := .cells #[.int .i64 a2_0, .int .i64 a2_1, .int .i64 a2_2] 23 (0, 0)) (by (with_reducible repeat (first | refine bN ?_ _ | refine bD ?_ | refine bA ?_ _)); exact BK268.out) hb)
         have n3_ := AM (blk_below (g := gb275) (o := .cells #[.int .i64 t273, .int .u64 t274] 31 (0, 0)) (by (with_reducible repeat (first | refine bN ?_ _ | refine bD ?_ | refine bA ?_ _)); exact BK275.out) hb)
         have n4_ := AM (blk_below (g := gb286) (o := .cells #[.int .i64 (wrap64 (a0_0 + (wrap64 (a3)))), .int .i64 (wrap64 (a0_1 + (wrap64 (a4)))), .int .i64 a0_2] 23 (0, 0)) (by (with_reducible repeat (first | refine bN ?_ _ | refine bD ?_ | refine bA ?_ _)); exact BK286.out) hb)
         have n5_ := AM (blk_below (g := gb287) (o := .cells #[.int .i64 (wrap64 (a1_0 + (wrap64 (a3)))), .int .i64 (wrap64 (a1_1 + (wrap64 (a4)))), .int .i64 a1_2] 23 (0, 0)) (by (with_reducible repeat (first | refine bN ?_ _ | refine bD ?_ | refine bA ?_ _)); exact BK287.out) hb)
         have n6_ := AM (blk_below (g := gb288) (o := .cells #[.int .i64 (wrap64 (a2_0 + (wrap64 (a3)))), .int .i64 (wrap64 (a2_1 + (wrap64 (a4)))), .int .i64 a2_2] 23 (0, 0)) (by (with_reducible repeat (first | refine bN ?_ _ | refine bD ?_ | refine bA ?_ _)); exact BK288.out) hb)
         have n7_ := AM (below_step (by repeat (first | (with_reducible first | exact HB.out | apply below_alloc | apply pw_below_drewN | apply below_drew1 | refine below_set ?_ (Aside0.out (by assumption))) | exact HB.out)) hb)
         clear BK266
         clear BK267
         clear BK268
         clear BK275
         clear BK286
         clear BK287
         clear BK288
         clear HB
         have BK266 := n0_
         have BK267 := n1_
         have BK268 := n2_
         have BK275 := n3_
         have BK286 := n4_
         have BK287 := n5_
         have BK288 := n6_
         have HB := n7_
         clear n0_ n1_ n2_ n3_ n4_ n5_ n6_ n7_
         (try clear hb)
         (try clear hb2)
         (try clear hk)
         (try clear hi)
         refine hK.out _ _ ⟨(blk_cell BK286.out 0).trans rfl, (blk_cell BK286.out 1).trans rfl, (blk_cell BK286.out 2).trans rfl, (blk_cell BK287.out 0).trans rfl, (blk_cell BK287.out 1).trans rfl, (blk_cell BK287.out 2).trans rfl, (blk_cell BK288.out 0).trans rfl, (blk_cell BK288.out 1).trans rfl, (blk_cell BK288.out 2).trans rfl, (blk_cell BK275.out 0).trans rfl, (blk_cell BK275.out 1).trans rfl⟩ (fun hHeld => ?_)
         clear hK K
         refine norm_ (a' := ?_) ?_ ?_
         rotate_left
         ·show Act.put _ (some 113) _ = _
          simp only [Act.put, sT, sZ, sS, i64_w, i32_w]
          rfl
         refine pure_ (i := 5) (N := some 115) (v := ?_) (a' := ?_) #[true, true, true, true, true, true, false, false, false, false, false, false, false, false, false, false, false, false, false] rfl rfl (any_of HT_.out (by kernel_rfl)) (fun _ _ _ h => h) (Or.inl ⟨by rfl, ?_⟩) ?_ ?_
         rotate_left
         ·intro w'
          go_simp
          with_reducible rfl
         rotate_left
         ·simp only [Act.put, sT, sZ, sS, i64_w, i32_w]
          rfl
         refine pure_ (i := 6) (N := some 116) (v := ?_) (a' := ?_) #[true, true, true, true, true, true, true, false, false, false, false, false, false, false, false, false, false, false, false] rfl rfl (any_of HT_.out (by kernel_rfl)) (fun _ _ _ h => h) (Or.inl ⟨by rfl, ?_⟩) ?_ ?_
         rotate_left
         ·intro w'
          go_simp
          with_reducible rfl
         rotate_left
         ·simp only [Act.put, sT, sZ, sS, i64_w, i32_w]
          rfl
         refine take_ (i := 7) (N := some 117) (v := ?_) (a' := ?_) #[true, true, true, true, true, true, true, true, false, false, false, false, false, false, false, false, false, false, false] rfl rfl (take_ofW HT_.out HW_.out (by kernel_rfl)) (fun _ _ _ h => h) (Or.inl ⟨by rfl, ?_⟩) hHeld ?_ ?_
         rotate_left
         ·rintro w' ⟨s0, s1, s2, s3, s4, s5, s6, s7, s8, s9, s10⟩
          go_simp
          with_reducible rfl
         rotate_left
         ·simp only [Act.put, sT, sZ, sS, i64_w, i32_w]
          rfl
         refine take_ (i := 8) (N := some 118) (v := ?_) (a' := ?_) #[true, true, true, true, true, true, true, true, true, false, false, false, false, false, false, false, false, false, false] rfl rfl (take_ofW HT_.out HW_.out (by kernel_rfl)) (fun _ _ _ h => h) (Or.inl ⟨by rfl, ?_⟩) hHeld ?_ ?_
         rotate_left
         ·rintro w' ⟨s0, s1, s2, s3, s4, s5, s6, s7, s8, s9, s10⟩
          go_simp
          with_reducible rfl
         rotate_left
         ·simp only [Act.put, sT, sZ, sS, i64_w, i32_w]
          rfl
         refine take_ (i := 9) (N := some 119) (v := ?_) (a' := ?_) #[true, true, true, true, true, true, true, true, true, true, false, false, false, false, false, false, false, false, false] rfl rfl (take_ofW HT_.out HW_.out (by kernel_rfl)) (fun _ _ _ h => h) (Or.inl ⟨by rfl, ?_⟩) hHeld ?_ ?_
         rotate_left
         ·rintro w' ⟨s0, s1, s2, s3, s4, s5, s6, s7, s8, s9, s10⟩
          go_simp
          with_reducible rfl
         rotate_left
         ·simp only [Act.put, sT, sZ, sS, i64_w, i32_w]
          rfl
         refine take_ (i := 12) (N := some 122) (v := ?_) (a' := ?_) #[true, true, true, true, true, true, true, true, true, true, false, false, true, false, false, false, false, false, false] rfl rfl (take_ofW HT_.out HW_.out (by kernel_rfl)) (fun _ _ _ h => h) (Or.inl ⟨by rfl, ?_⟩) hHeld ?_ ?_
         rotate_left
         ·rintro w' ⟨s0, s1, s2, s3, s4, s5, s6, s7, s8, s9, s10⟩
          go_simp
          with_reducible rfl
         rotate_left
         ·simp only [Act.put, sT, sZ, sS, i64_w, i32_w]
          rfl
         refine one_ (i := 10) (N := some 120) #[true, true, true, true, true, true, true, true, true, true, true, false, true, false, false, false, false, false, false] rfl rfl (one_of HT_.out (by kernel_rfl)) (by decide) (fun K hK => ?_)
         refine Kd.R_lit_step k23 _ 23 ?hg (N := 120) ?hd (xs := ([(⟨(wrap64 (a0_0 + (wrap64 (a3)))), (wrap64 (a0_1 + (wrap64 (a4)))), a0_2⟩ : S23), (⟨(wrap64 (a1_0 + (wrap64 (a3)))), (wrap64 (a1_1 + (wrap64 (a4)))), a1_2⟩ : S23), (⟨(wrap64 (a2_0 + (wrap64 (a3)))), (wrap64 (a2_1 + (wrap64 (a4)))), a2_2⟩ : S23)] : List (S23))) (inner := [.int .i64 (wrap64 (a0_0 + (wrap64 (a3)))), .int .i64 (wrap64 (a0_1 + (wrap64 (a4)))), .int .i64 a0_2, .int .i64 (wrap64 (a1_0 + (wrap64 (a3)))), .int .i64 (wrap64 (a1_1 + (wrap64 (a4)))), .int .i64 a1_2, .int .i64 (wrap64 (a2_0 + (wrap64 (a3)))), .int .i64 (wrap64 (a2_1 + (wrap64 (a4)))), .int .i64 a2_2]) (ok := fun _ => True) (okp := fun _ => True) ?hr ?hp (fun _ hk => hk) trivial (Below.refl _ _) (Nat.le_refl _) (by simp) ?_; (case hd => rfl); (case hg => rfl); (case hr => first | (go_simp; done) | (go_simp; rfl)); (case hp => exact (Reps.c3 (show Kd.M k23 _ _ _ (⟨(wrap64 (a0_0 + (wrap64 (a3)))), (wrap64 (a0_1 + (wrap64 (a4)))), a0_2⟩ : S23) [.int .i64 (wrap64 (a0_0 + (wrap64 (a3)))), .int .i64 (wrap64 (a0_1 + (wrap64 (a4)))), .int .i64 a0_2] from (k23_mkM _ _ _ (⟨(wrap64 (a0_0 + (wrap64 (a3)))), (wrap64 (a0_1 + (wrap64 (a4)))), a0_2⟩ : S23) )) (Reps.c3 (show Kd.M k23 _ _ _ (⟨(wrap64 (a1_0 + (wrap64 (a3)))), (wrap64 (a1_1 + (wrap64 (a4)))), a1_2⟩ : S23) [.int .i64 (wrap64 (a1_0 + (wrap64 (a3)))), .int .i64 (wrap64 (a1_1 + (wrap64 (a4)))), .int .i64 a1_2] from (k23_mkM _ _ _ (⟨(wrap64 (a1_0 + (wrap64 (a3)))), (wrap64 (a1_1 + (wrap64 (a4)))), a1_2⟩ : S23) )) (Reps.c3 (show Kd.M k23 _ _ _ (⟨(wrap64 (a2_0 + (wrap64 (a3)))), (wrap64 (a2_1 + (wrap64 (a4)))), a2_2⟩ : S23) [.int .i64 (wrap64 (a2_0 + (wrap64 (a3)))), .int .i64 (wrap64 (a2_1 + (wrap64 (a4)))), .int .i64 a2_2] from (k23_mkM _ _ _ (⟨(wrap64 (a2_0 + (wrap64 (a3)))), (wrap64 (a2_1 + (wrap64 (a4)))), a2_2⟩ : S23) )) (Reps.none _ _)))))
         intro v300 w163 ho164 hb hg_ hnew_
         clear hg_ hnew_
         (first | rw [← Ny299.out] at ho164 | (simp only [Int.reduceToNat] at ho164; rw [← Ny299.out] at ho164))
         have n0_ := AM (Kd.R_lower (Kd.R_newB (Kd.R_newB (Kd.R_newB (Kd.R_newB (Kd.R_newB (Kd.R_newB ho164 (g := gb266) (o := .cells #[.int .i64 a0_0, .int .i64 a0_1, .int .i64 a0_2] 23 (0, 0)) (by (with_reducible repeat (first | refine bN ?_ _ | refine bD ?_ | refine bA ?_ _)); exact BK266.out)) (g := gb267) (o := .cells #[.int .i64 a1_0, .int .i64 a1_1, .int .i64 a1_2] 23 (0, 0)) (by (with_reducible repeat (first | refine bN ?_ _ | refine bD ?_ | refine bA ?_ _)); exact BK267.out)) (g := gb268) (o := .cells #[.int .i64 a2_0, .int .i64 a2_1, .int .i64 a2_2] 23 (0, 0)) (by (with_reducible repeat (first | refine bN ?_ _ | refine bD ?_ | refine bA ?_ _)); exact BK268.out)) (g := gb286) (o := .cells #[.int .i64 (wrap64 (a0_0 + (wrap64 (a3)))), .int .i64 (wrap64 (a0_1 + (wrap64 (a4)))), .int .i64 a0_2] 23 (0, 0)) (by (with_reducible repeat (first | refine bN ?_ _ | refine bD ?_ | refine bA ?_ _)); exact BK286.out)) (g := gb287) (o := .cells #[.int .i64 (wrap64 (a1_0 + (wrap64 (a3)))), .int .i64 (wrap64 (a1_1 + (wrap64 (a4)))), .int .i64 a1_2] 23 (0, 0)) (by (with_reducible repeat (first | refine bN ?_ _ | refine bD ?_ | refine bA ?_ _)); exact BK287.out)) (g := gb288) (o := .cells #[.int .i64 (wrap64 (a2_0 + (wrap64 (a3)))), .int .i64 (wrap64 (a2_1 + (wrap64 (a4)))), .int .i64 a2_2] 23 (0, 0)) (by (with_reducible repeat (first | refine bN ?_ _ | refine bD ?_ | refine bA ?_ _)); exact BK288.out)) (below_size (by repeat (first | (with_reducible first | exact HB.out | apply below_alloc | apply pw_below_drewN | apply below_drew1 | refine below_set ?_ (Aside0.out (by assumption))) | exact HB.out))))
         have n1_ := AM (blk_below (g := gb266) (o := .cells #[.int .i64 a0_0, .int .i64 a0_1, .int .i64 a0_2] 23 (0, 0)) (by (with_reducible repeat (first | refine bN ?_ _ | refine bD ?_ | refine bA ?_ _)); exact BK266.out) hb)
         have n2_ := AM (blk_below (g := gb267) (o := .cells #[.int .i64 a1_0, .int .i64 a1_1, .int .i64 a1_2] 23 (0, 0)) (by (with_reducible repeat (first | refine bN ?_ _ | refine bD ?_ | refine bA ?_ _)); exact BK267.out) hb)
         have n3_ := AM (blk_below (g := gb268) (o := .cells #[.int .i64 a2_0, .int .i64 a2_1, .int .i64 a2_2] 23 (0, 0)) (by (with_reducible repeat (first | refine bN ?_ _ | refine bD ?_ | refine bA ?_ _)); exact BK268.out) hb)
         have n4_ := AM (blk_below (g := gb275) (o := .cells #[.int .i64 t273, .int .u64 t274] 31 (0, 0)) (by (with_reducible repeat (first | refine bN ?_ _ | refine bD ?_ | refine bA ?_ _)); exact BK275.out) hb)
         have n5_ := AM (blk_below (g := gb286) (o := .cells #[.int .i64 (wrap64 (a0_0 + (wrap64 (a3)))), .int .i64 (wrap64 (a0_1 + (wrap64 (a4)))), .int .i64 a0_2] 23 (0, 0)) (by (with_reducible repeat (first | refine bN ?_ _ | refine bD ?_ | refine bA ?_ _)); exact BK286.out) hb)
         have n6_ := AM (blk_below (g := gb287) (o := .cells #[.int .i64 (wrap64 (a1_0 + (wrap64 (a3)))), .int .i64 (wrap64 (a1_1 + (wrap64 (a4)))), .int .i64 a1_2] 23 (0, 0)) (by (with_reducible repeat (first | refine bN ?_ _ | refine bD ?_ | refine bA ?_ _)); exact BK287.out) hb)
         have n7_ := AM (blk_below (g := gb288) (o := .cells #[.int .i64 (wrap64 (a2_0 + (wrap64 (a3)))), .int .i64 (wrap64 (a2_1 + (wrap64 (a4)))), .int .i64 a2_2] 23 (0, 0)) (by (with_reducible repeat (first | refine bN ?_ _ | refine bD ?_ | refine bA ?_ _)); exact BK288.out) hb)
         have n8_ := AM (below_step (by repeat (first | (with_reducible first | exact HB.out | apply below_alloc | apply pw_below_drewN | apply below_drew1 | refine below_set ?_ (Aside0.out (by assumption))) | exact HB.out)) hb)
         clear BK266
         clear BK267
         clear BK268
         clear BK275
         clear BK286
         clear BK287
         clear BK288
         clear HB
         have HO301 := n0_
         have BK266 := n1_
         have BK267 := n2_
         have BK268 := n3_
         have BK275 := n4_
         have BK286 := n5_
         have BK287 := n6_
         have BK288 := n7_
         have HB := n8_
         clear n0_ n1_ n2_ n3_ n4_ n5_ n6_ n7_ n8_
         clear hb ho164
         obtain ⟨Ao165, co165, eo165⟩ := Kd.R_slice HO301.out
         (first | subst eo165 | (injection eo165 with f1_ f2_ f3_; have f4_ := f1_.symm; have f5_ := f3_.symm; clear f1_ f2_ f3_; subst f4_; subst f5_))
         refine hK.out _ _ ⟨(blk_cell BK286.out 0).trans rfl, (blk_cell BK286.out 1).trans rfl, (blk_cell BK286.out 2).trans rfl, (blk_cell BK287.out 0).trans rfl, (blk_cell BK287.out 1).trans rfl, (blk_cell BK287.out 2).trans rfl, (blk_cell BK288.out 0).trans rfl, (blk_cell BK288.out 1).trans rfl, (blk_cell BK288.out 2).trans rfl, (blk_cell BK275.out 0).trans rfl, (blk_cell BK275.out 1).trans rfl⟩ (fun hHeld => ?_)
         clear hK K
         refine norm_ (a' := ?_) ?_ ?_
         rotate_left
         ·show Act.put _ (some 120) _ = _
          simp only [Act.put, sT, sZ, sS, i64_w, i32_w]
          rfl
         refine one_ (i := 11) (N := some 121) #[true, true, true, true, true, true, true, true, true, true, true, true, true, false, false, false, false, false, false] rfl rfl (one_of HT_.out (by kernel_rfl)) (by decide) (fun K hK => ?_)
         refine goes_ Try.func16 (by kernel_rfl) rfl #[.slice Ao165 y299.length co165] (by rfl) rfl rfl (by (try simp only [List.map_toArray, List.map_cons, List.map_nil]); first | done | rfl | (simp only [List.length_drop, List.length_take]; rfl)) ?_
         with_reducible refine (geom_Area.calls kj61 _ _ y299 t302 t303 _ ?side1 ?side2 A158.out).mono ?_
         (case side1 => repeat (first | exact (Kd.R_reads' HO301.out).2.2 | (with_reducible refine Kd.C_alloc ?_ _) | (with_reducible refine Kd.C_drewN ?_ _) | (with_reducible refine Kd.C_drew ?_)))
         (case side2 => exact (Kd.R_reads' HO301.out).2.1)
         rintro e w166 ⟨rfl, hb⟩
         refine ⟨_, rfl, ?_⟩
         have n0_ := AM (Kd.R_below (by (with_reducible repeat (first | apply Kd.R_alloc | apply Kd.R_drewN | apply Kd.R_drew)); exact HO301.out) hb)
         have n1_ := AM (blk_below (g := gb266) (o := .cells #[.int .i64 a0_0, .int .i64 a0_1, .int .i64 a0_2] 23 (0, 0)) (by (with_reducible repeat (first | refine bN ?_ _ | refine bD ?_ | refine bA ?_ _)); exact BK266.out) hb)
         have n2_ := AM (blk_below (g := gb267) (o := .cells #[.int .i64 a1_0, .int .i64 a1_1, .int .i64 a1_2] 23 (0, 0)) (by (with_reducible repeat (first | refine bN ?_ _ | refine bD ?_ | refine bA ?_ _)); exact BK267.out) hb)
         have n3_ := AM (blk_below (g := gb268) (o := .cells #[.int .i64 a2_0, .int .i64 a2_1, .int .i64 a2_2] 23 (0, 0)) (by (with_reducible repeat (first | refine bN ?_ _ | refine bD ?_ | refine bA ?_ _)); exact BK268.out) hb)
         have n4_ := AM (blk_below (g := gb275) (o := .cells #[.int .i64 t273, .int .u64 t274] 31 (0, 0)) (by (with_reducible repeat (first | refine bN ?_ _ | refine bD ?_ | refine bA ?_ _)); exact BK275.out) hb)
         have n5_ := AM (blk_below (g := gb286) (o := .cells #[.int .i64 (wrap64 (a0_0 + (wrap64 (a3)))), .int .i64 (wrap64 (a0_1 + (wrap64 (a4)))), .int .i64 a0_2] 23 (0, 0)) (by (with_reducible repeat (first | refine bN ?_ _ | refine bD ?_ | refine bA ?_ _)); exact BK286.out) hb)
         have n6_ := AM (blk_below (g := gb287) (o := .cells #[.int .i64 (wrap64 (a1_0 + (wrap64 (a3)))), .int .i64 (wrap64 (a1_1 + (wrap64 (a4)))), .int .i64 a1_2] 23 (0, 0)) (by (with_reducible repeat (first | refine bN ?_ _ | refine bD ?_ | refine bA ?_ _)); exact BK287.out) hb)
         have n7_ := AM (blk_below (g := gb288) (o := .cells #[.int .i64 (wrap64 (a2_0 + (wrap64 (a3)))), .int .i64 (wrap64 (a2_1 + (wrap64 (a4)))), .int .i64 a2_2] 23 (0, 0)) (by (with_reducible repeat (first | refine bN ?_ _ | refine bD ?_ | refine bA ?_ _)); exact BK288.out) hb)
         have n8_ := AM (below_step (by repeat (first | (with_reducible first | exact HB.out | apply below_alloc | apply pw_below_drewN | apply below_drew1 | refine below_set ?_ (Aside0.out (by assumption))) | exact HB.out)) hb)
         clear HO301
         clear BK266
         clear BK267
         clear BK268
         clear BK275
         clear BK286
         clear BK287
         clear BK288
         clear HB
         have HO301 := n0_
         have BK266 := n1_
         have BK267 := n2_
         have BK268 := n3_
         have BK275 := n4_
         have BK286 := n5_
         have BK287 := n6_
         have BK288 := n7_
         have HB := n8_
         clear n0_ n1_ n2_ n3_ n4_ n5_ n6_ n7_ n8_
         (try clear hb)
         (try clear hb2)
         (try clear hk)
         (try clear hi)
         refine hK.out _ _ ⟨(blk_cell BK286.out 0).trans rfl, (blk_cell BK286.out 1).trans rfl, (blk_cell BK286.out 2).trans rfl, (blk_cell BK287.out 0).trans rfl, (blk_cell BK287.out 1).trans rfl, (blk_cell BK287.out 2).trans rfl, (blk_cell BK288.out 0).trans rfl, (blk_cell BK288.out 1).trans rfl, (blk_cell BK288.out 2).trans rfl, (blk_cell BK275.out 0).trans rfl, (blk_cell BK275.out 1).trans rfl⟩ (fun hHeld => ?_)
         clear hK K
         refine norm_ (a' := ?_) ?_ ?_
         rotate_left
         ·show Act.put _ (some 121) _ = _
          simp only [Act.put, sT, sZ, sS, i64_w, i32_w]
          rfl
         refine pure_ (i := 13) (N := some 123) (v := ?_) (a' := ?_) #[true, true, true, true, true, true, true, true, true, true, true, true, true, true, false, false, false, false, false] rfl rfl (any_of HT_.out (by kernel_rfl)) (fun _ _ _ h => h) (Or.inl ⟨by rfl, ?_⟩) ?_ ?_
         rotate_left
         ·intro w'
          go_simp
          with_reducible rfl
         rotate_left
         ·simp only [Act.put, sT, sZ, sS, i64_w, i32_w]
          rfl
         refine pure_ (i := 14) (N := some 124) (v := ?_) (a' := ?_) #[true, true, true, true, true, true, true, true, true, true, true, true, true, true, true, false, false, false, false] rfl rfl (any_of HT_.out (by kernel_rfl)) (fun _ _ _ h => h) (Or.inl ⟨by rfl, ?_⟩) ?_ ?_
         rotate_left
         ·intro w'
          go_simp
          with_reducible rfl
         rotate_left
         ·simp only [Act.put, sT, sZ, sS, i64_w, i32_w]
          rfl
         refine pure_ (i := 15) (N := some 125) (v := ?_) (a' := ?_) #[true, true, true, true, true, true, true, true, true, true, true, true, true, true, true, true, false, false, false] rfl rfl (any_of HT_.out (by kernel_rfl)) (fun _ _ _ h => h) (Or.inl ⟨by rfl, ?_⟩) ?_ ?_
         rotate_left
         ·intro w'
          go_simp
          with_reducible rfl
         rotate_left
         ·simp only [Act.put, sT, sZ, sS, i64_w, i32_w]
          rfl
         refine one_ (i := 16) (N := some 126) #[true, true, true, true, true, true, true, true, true, true, true, true, true, true, true, true, true, false, false] rfl rfl (one_of HT_.out (by kernel_rfl)) (by decide) (fun K hK => ?_)
         refine goes_ Try.func13 (by kernel_rfl) rfl #[] (by rfl) rfl rfl (by (try simp only [List.map_toArray, List.map_cons, List.map_nil]); first | done | rfl | (simp only [List.length_drop, List.length_take]; rfl)) ?_
         with_reducible refine (lapidarylaw09_known.calls kj61  t304 _ A160.out).mono ?_
         rintro e w167 ⟨rfl, hb⟩
         refine ⟨_, rfl, ?_⟩
         have n0_ := AM (Kd.R_below (by (with_reducible repeat (first | apply Kd.R_alloc | apply Kd.R_drewN | apply Kd.R_drew)); exact HO301.out) hb)
         have n1_ := AM (blk_below (g := gb266) (o := .cells #[.int .i64 a0_0, .int .i64 a0_1, .int .i64 a0_2] 23 (0, 0)) (by (with_reducible repeat (first | refine bN ?_ _ | refine bD ?_ | refine bA ?_ _)); exact BK266.out) hb)
         have n2_ := AM (blk_below (g := gb267) (o := .cells #[.int .i64 a1_0, .int .i64 a1_1, .int .i64 a1_2] 23 (0, 0)) (by (with_reducible repeat (first | refine bN ?_ _ | refine bD ?_ | refine bA ?_ _)); exact BK267.out) hb)
         have n3_ := AM (blk_below (g := gb268) (o := .cells #[.int .i64 a2_0, .int .i64 a2_1, .int .i64 a2_2] 23 (0, 0)) (by (with_reducible repeat (first | refine bN ?_ _ | refine bD ?_ | refine bA ?_ _)); exact BK268.out) hb)
         have n4_ := AM (blk_below (g := gb275) (o := .cells #[.int .i64 t273, .int .u64 t274] 31 (0, 0)) (by (with_reducible repeat (first | refine bN ?_ _ | refine bD ?_ | refine bA ?_ _)); exact BK275.out) hb)
         have n5_ := AM (blk_below (g := gb286) (o := .cells #[.int .i64 (wrap64 (a0_0 + (wrap64 (a3)))), .int .i64 (wrap64 (a0_1 + (wrap64 (a4)))), .int .i64 a0_2] 23 (0, 0)) (by (with_reducible repeat (first | refine bN ?_ _ | refine bD ?_ | refine bA ?_ _)); exact BK286.out) hb)
         have n6_ := AM (blk_below (g := gb287) (o := .cells #[.int .i64 (wrap64 (a1_0 + (wrap64 (a3)))), .int .i64 (wrap64 (a1_1 + (wrap64 (a4)))), .int .i64 a1_2] 23 (0, 0)) (by (with_reducible repeat (first | refine bN ?_ _ | refine bD ?_ | refine bA ?_ _)); exact BK287.out) hb)
         have n7_ := AM (blk_below (g := gb288) (o := .cells #[.int .i64 (wrap64 (a2_0 + (wrap64 (a3)))), .int .i64 (wrap64 (a2_1 + (wrap64 (a4)))), .int .i64 a2_2] 23 (0, 0)) (by (with_reducible repeat (first | refine bN ?_ _ | refine bD ?_ | refine bA ?_ _)); exact BK288.out) hb)
         have n8_ := AM (below_step (by repeat (first | (with_reducible first | exact HB.out | apply below_alloc | apply pw_below_drewN | apply below_drew1 | refine below_set ?_ (Aside0.out (by assumption))) | exact HB.out)) hb)
         clear HO301
         clear BK266
         clear BK267
         clear BK268
         clear BK275
         clear BK286
         clear BK287
         clear BK288
         clear HB
         have HO301 := n0_
         have BK266 := n1_
         have BK267 := n2_
         have BK268 := n3_
         have BK275 := n4_
         have BK286 := n5_
         have BK287 := n6_
         have BK288 := n7_
         have HB := n8_
         clear n0_ n1_ n2_ n3_ n4_ n5_ n6_ n7_ n8_
         (try clear hb)
         (try clear hb2)
         (try clear hk)
         (try clear hi)
         refine hK.out _ _ ⟨(blk_cell BK286.out 0).trans rfl, (blk_cell BK286.out 1).trans rfl, (blk_cell BK286.out 2).trans rfl, (blk_cell BK287.out 0).trans rfl, (blk_cell BK287.out 1).trans rfl, (blk_cell BK287.out 2).trans rfl, (blk_cell BK288.out 0).trans rfl, (blk_cell BK288.out 1).trans rfl, (blk_cell BK288.out 2).trans rfl, (blk_cell BK275.out 0).trans rfl, (blk_cell BK275.out 1).trans rfl⟩ (fun hHeld => ?_)
         clear hK K
         refine norm_ (a' := ?_) ?_ ?_
         rotate_left
         ·show Act.put _ (some 126) _ = _
          simp only [Act.put, sT, sZ, sS, i64_w, i32_w]
          rfl
         refine pure_ (i := 17) (N := some 127) (v := ?_) (a' := ?_) #[true, true, true, true, true, true, true, true, true, true, true, true, true, true, true, true, true, true, false] rfl rfl (any_of HT_.out (by kernel_rfl)) (fun _ _ _ h => h) (Or.inl ⟨by rfl, ?_⟩) ?_ ?_
         rotate_left
         ·intro w'
          go_simp
          with_reducible rfl
         rotate_left
         ·simp only [Act.put, sT, sZ, sS, i64_w, i32_w]
          rfl
         refine pure_ (i := 18) (N := some 10) (v := ?_) (a' := ?_) #[true, true, true, true, true, true, true, true, true, true, true, true, true, true, true, true, true, true, true] rfl rfl (any_of HT_.out (by kernel_rfl)) (fun _ _ _ h => h) (Or.inl ⟨by rfl, ?_⟩) ?_ ?_
         rotate_left
         ·intro w'
          go_simp
          with_reducible rfl
         rotate_left
         ·simp only [Act.put, sT, sZ, sS, i64_w, i32_w]
          rfl
         refine done_ (done_of HT_.out (by kernel_rfl)) ?_
         try go_wp2
         go_ret
         exact ⟨by first | rfl | (simp [errW_none, errW_some] <;> rfl) | (simp [*, errW_none, errW_some] <;> rfl), by repeat (first | (with_reducible first | exact HB.out | apply below_alloc | apply pw_below_drewN | apply below_drew1 | refine below_set ?_ (Aside0.out (by assumption))) | exact HB.out)⟩
        ·rw [if_neg c159] at H
         exact absurd H (by simp)
       ·rw [if_neg c157] at H
        exact absurd H (by simp)

end Go.Proofs.Ytlnjbpapbifjfaa.P
