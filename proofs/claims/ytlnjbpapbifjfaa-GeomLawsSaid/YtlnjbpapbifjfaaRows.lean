/-
  No cell of these rows narrows 'for every input' (looked for: loops, veiled, ifaces, maps, wideKeys, modest, calm, conditions, laid).
  DERIVED. THE GIVEN ROWS OF THIS SEAT. 8 by the template 'for every input the law returns true; each argument reads behind the call as it read before'; 0 by the template 'total and deterministic' (their statements: YtlnjbpapbifjfaaTotals.lean).
  GIVEN WITH THE SEED: the statements are not yours to turn. If you find one false, say at which input.
  Laid BY PROGRAM, IN A SANDBOX (cutbox-rows.mjs): the forced cells as the released guide's own fill.sh prints them over the translation 477858f728444ff6… (all of the seat's roots in one cut). By AI agents, Wed Nov 11 2026. No macro, syntax, notation, axiom, sorry.
-/
import Derived.Test.YtlnjbpapbifjfaaChecked
import GoSem.Claim
import GoSem.ClaimJoined
import GoSem.ClaimMapViews
import Derived.JoinedTies
import Derived.KernelRfl
namespace Go.Proofs.Ytlnjbpapbifjfaa
/- THE CELL 'sum', in the pinned program and in every row, IS THE sha256 OF THE DUMP (.gsa) THAT YtlnjbpapbifjfaaProg.lean LOADS. Nothing in Lean hashes anything: it is a label: what it is worth is what the hold of that sum in a sandbox is worth. -/
noncomputable def Try.pinned : Pinned := { name := "ytlnjbpapbifjfaa", sum := "477858f728444ff644afbd30fd3bf470ce95ad3b385a99ae125aea1b9128bf2c", checked := Try.checked }
namespace Rows
def none {H : Type} : Left H := { results := [], args := [] }

/-- 'lapidarylaw09.GeomMeets': WHATEVER THE INPUT: true; the input reads as it did. -/
def geomMeetsSpec : ChangeSpec := { name := "geomMeets", fn := fun _ => fun
  | [d1, d2, d3, d4] => { results := [.lit (.bool true)], args := [d1, d2, d3, d4] }
  | _ => none }
def geomMeetsRow : OpenClaim := { program := "ytlnjbpapbifjfaa", sum := "477858f728444ff644afbd30fd3bf470ce95ad3b385a99ae125aea1b9128bf2c", func := "lapidary/lapidarylaw09.GeomMeets", spec := "geomMeets", inPlace := ["math/bits.Add64"], apart := false }
def GeomMeetsSaid : Prop := geomMeetsRow.holds Try.pinned (OpenSpec.ofChange geomMeetsSpec)

/-- ITS FALSE NEIGHBOUR: 'it returns false'. Refute it at one input. -/
def geomMeetsWrong : ChangeSpec := { name := "geomMeets", fn := fun _ => fun
  | [d1, d2, d3, d4] => { results := [.lit (.bool false)], args := [d1, d2, d3, d4] }
  | _ => none }
def GeomMeetsWrongFalsely : Prop := geomMeetsRow.holds Try.pinned (OpenSpec.ofChange geomMeetsWrong)

/-- 'lapidarylaw09.GeomOn': WHATEVER THE INPUT: true; the input reads as it did. -/
def geomOnSpec : ChangeSpec := { name := "geomOn", fn := fun _ => fun
  | [d1, d2, d3] => { results := [.lit (.bool true)], args := [d1, d2, d3] }
  | _ => none }
def geomOnRow : OpenClaim := { program := "ytlnjbpapbifjfaa", sum := "477858f728444ff644afbd30fd3bf470ce95ad3b385a99ae125aea1b9128bf2c", func := "lapidary/lapidarylaw09.GeomOn", spec := "geomOn", inPlace := ["math/bits.Add64"], apart := false }
def GeomOnSaid : Prop := geomOnRow.holds Try.pinned (OpenSpec.ofChange geomOnSpec)

/-- ITS FALSE NEIGHBOUR: 'it returns false'. Refute it at one input. -/
def geomOnWrong : ChangeSpec := { name := "geomOn", fn := fun _ => fun
  | [d1, d2, d3] => { results := [.lit (.bool false)], args := [d1, d2, d3] }
  | _ => none }
def GeomOnWrongFalsely : Prop := geomOnRow.holds Try.pinned (OpenSpec.ofChange geomOnWrong)

/-- 'lapidarylaw09.GeomAreas': WHATEVER THE INPUT: true; the input reads as it did. -/
def geomAreasSpec : ChangeSpec := { name := "geomAreas", fn := fun _ => fun
  | [d1, d2] => { results := [.lit (.bool true)], args := [d1, d2] }
  | _ => none }
def geomAreasRow : OpenClaim := { program := "ytlnjbpapbifjfaa", sum := "477858f728444ff644afbd30fd3bf470ce95ad3b385a99ae125aea1b9128bf2c", func := "lapidary/lapidarylaw09.GeomAreas", spec := "geomAreas", inPlace := ["math/bits.Add64"], apart := false }
def GeomAreasSaid : Prop := geomAreasRow.holds Try.pinned (OpenSpec.ofChange geomAreasSpec)

/-- ITS FALSE NEIGHBOUR: 'it returns false'. Refute it at one input. -/
def geomAreasWrong : ChangeSpec := { name := "geomAreas", fn := fun _ => fun
  | [d1, d2] => { results := [.lit (.bool false)], args := [d1, d2] }
  | _ => none }
def GeomAreasWrongFalsely : Prop := geomAreasRow.holds Try.pinned (OpenSpec.ofChange geomAreasWrong)

/-- 'lapidarylaw09.GeomTurns': WHATEVER THE INPUT: true; the input reads as it did. -/
def geomTurnsSpec : ChangeSpec := { name := "geomTurns", fn := fun _ => fun
  | [d1, d2, d3] => { results := [.lit (.bool true)], args := [d1, d2, d3] }
  | _ => none }
def geomTurnsRow : OpenClaim := { program := "ytlnjbpapbifjfaa", sum := "477858f728444ff644afbd30fd3bf470ce95ad3b385a99ae125aea1b9128bf2c", func := "lapidary/lapidarylaw09.GeomTurns", spec := "geomTurns", inPlace := ["math/bits.Add64"], apart := false }
def GeomTurnsSaid : Prop := geomTurnsRow.holds Try.pinned (OpenSpec.ofChange geomTurnsSpec)

/-- ITS FALSE NEIGHBOUR: 'it returns false'. Refute it at one input. -/
def geomTurnsWrong : ChangeSpec := { name := "geomTurns", fn := fun _ => fun
  | [d1, d2, d3] => { results := [.lit (.bool false)], args := [d1, d2, d3] }
  | _ => none }
def GeomTurnsWrongFalsely : Prop := geomTurnsRow.holds Try.pinned (OpenSpec.ofChange geomTurnsWrong)

/-- 'lapidarylaw09.GeomLaws': WHATEVER THE INPUT: true; the input reads as it did. -/
def geomLawsSpec : ChangeSpec := { name := "geomLaws", fn := fun _ => fun
  | [d1, d2, d3, d4, d5] => { results := [.lit (.bool true)], args := [d1, d2, d3, d4, d5] }
  | _ => none }
def geomLawsRow : OpenClaim := { program := "ytlnjbpapbifjfaa", sum := "477858f728444ff644afbd30fd3bf470ce95ad3b385a99ae125aea1b9128bf2c", func := "lapidary/lapidarylaw09.GeomLaws", spec := "geomLaws", inPlace := ["math/bits.Add64"], apart := false }
def GeomLawsSaid : Prop := geomLawsRow.holds Try.pinned (OpenSpec.ofChange geomLawsSpec)

/-- ITS FALSE NEIGHBOUR: 'it returns false'. Refute it at one input. -/
def geomLawsWrong : ChangeSpec := { name := "geomLaws", fn := fun _ => fun
  | [d1, d2, d3, d4, d5] => { results := [.lit (.bool false)], args := [d1, d2, d3, d4, d5] }
  | _ => none }
def GeomLawsWrongFalsely : Prop := geomLawsRow.holds Try.pinned (OpenSpec.ofChange geomLawsWrong)

/-- 'lapidarylaw09.GeomRings': WHATEVER THE INPUT: true; the input reads as it did. -/
def geomRingsSpec : ChangeSpec := { name := "geomRings", fn := fun _ => fun
  | [d1, d2] => { results := [.lit (.bool true)], args := [d1, d2] }
  | _ => none }
def geomRingsRow : OpenClaim := { program := "ytlnjbpapbifjfaa", sum := "477858f728444ff644afbd30fd3bf470ce95ad3b385a99ae125aea1b9128bf2c", func := "lapidary/lapidarylaw09.GeomRings", spec := "geomRings", inPlace := ["math/bits.Add64"], apart := false }
def GeomRingsSaid : Prop := geomRingsRow.holds Try.pinned (OpenSpec.ofChange geomRingsSpec)

/-- ITS FALSE NEIGHBOUR: 'it returns false'. Refute it at one input. -/
def geomRingsWrong : ChangeSpec := { name := "geomRings", fn := fun _ => fun
  | [d1, d2] => { results := [.lit (.bool false)], args := [d1, d2] }
  | _ => none }
def GeomRingsWrongFalsely : Prop := geomRingsRow.holds Try.pinned (OpenSpec.ofChange geomRingsWrong)

/-- 'lapidarylaw09.GeomEnds': WHATEVER THE INPUT: true; the input reads as it did. -/
def geomEndsSpec : ChangeSpec := { name := "geomEnds", fn := fun _ => fun
  | [d1, d2, d3] => { results := [.lit (.bool true)], args := [d1, d2, d3] }
  | _ => none }
def geomEndsRow : OpenClaim := { program := "ytlnjbpapbifjfaa", sum := "477858f728444ff644afbd30fd3bf470ce95ad3b385a99ae125aea1b9128bf2c", func := "lapidary/lapidarylaw09.GeomEnds", spec := "geomEnds", inPlace := ["math/bits.Add64"], apart := false }
def GeomEndsSaid : Prop := geomEndsRow.holds Try.pinned (OpenSpec.ofChange geomEndsSpec)

/-- ITS FALSE NEIGHBOUR: 'it returns false'. Refute it at one input. -/
def geomEndsWrong : ChangeSpec := { name := "geomEnds", fn := fun _ => fun
  | [d1, d2, d3] => { results := [.lit (.bool false)], args := [d1, d2, d3] }
  | _ => none }
def GeomEndsWrongFalsely : Prop := geomEndsRow.holds Try.pinned (OpenSpec.ofChange geomEndsWrong)

/-- 'lapidarylaw09.GeomIns': WHATEVER THE INPUT: true; the input reads as it did. -/
def geomInsSpec : ChangeSpec := { name := "geomIns", fn := fun _ => fun
  | [d1, d2, d3] => { results := [.lit (.bool true)], args := [d1, d2, d3] }
  | _ => none }
def geomInsRow : OpenClaim := { program := "ytlnjbpapbifjfaa", sum := "477858f728444ff644afbd30fd3bf470ce95ad3b385a99ae125aea1b9128bf2c", func := "lapidary/lapidarylaw09.GeomIns", spec := "geomIns", inPlace := ["math/bits.Add64"], apart := false }
def GeomInsSaid : Prop := geomInsRow.holds Try.pinned (OpenSpec.ofChange geomInsSpec)

/-- ITS FALSE NEIGHBOUR: 'it returns false'. Refute it at one input. -/
def geomInsWrong : ChangeSpec := { name := "geomIns", fn := fun _ => fun
  | [d1, d2, d3] => { results := [.lit (.bool false)], args := [d1, d2, d3] }
  | _ => none }
def GeomInsWrongFalsely : Prop := geomInsRow.holds Try.pinned (OpenSpec.ofChange geomInsWrong)

/- THE SECOND FORM. 'bulk': how many values and letters a reading holds, each counted each time it is reached (what is shared counts as often as it is met; a slice's spare places count too). A statement '..UptoSaid' is the law's where the arguments, and the package variables that the reading takes, are together of bulk at most 1048576: NARROWER than '..Said'. Prove '..Said' where nothing that the law and all that it calls make is longer than what came in: it says more and counts as full. Else prove '..UptoSaid'. A law counts once. -/
mutual
def uptoBulk {H : Type} : DataW H → Nat
  | .lit (.string bytes) => bytes.length + 1
  | .lit _ => 1
  | .nil => 1
  | .ptr d => uptoBulk d + 1
  | .slice elems spare => uptoBulkAll elems + uptoBulkAll spare + 1
  | .agg parts => uptoBulkAll parts + 1
  | .iface _ d => uptoBulk d + 1
  | .map entries => uptoBulkEntries entries + 1
  | .held _ => 1
def uptoBulkAll {H : Type} : List (DataW H) → Nat
  | [] => 0
  | d :: r => uptoBulk d + uptoBulkAll r
def uptoBulkEntries {H : Type} : List (Lit × DataW H) → Nat
  | [] => 0
  | x :: r => uptoBulkEntry x + uptoBulkEntries r
def uptoBulkEntry {H : Type} : Lit × DataW H → Nat
  | (.string bytes, d) => bytes.length + uptoBulk d + 1
  | (_, d) => uptoBulk d + 1
 end
def uptoSmall : (H : Type) → List (DataW H) → Bool := fun _ ds => decide (uptoBulkAll ds ≤ 1048576)
def OpenSpec.upto (s : _root_.Go.ChangeSpec) : _root_.Go.OpenSpec := { _root_.Go.OpenSpec.ofChange s with cond := some uptoSmall }

/-- 'lapidarylaw09.GeomMeets', WHERE WHAT IT READS IS OF BULK AT MOST 1048576: true; the input reads as it did. -/
def geomMeetsUptoRow : OpenClaim := { program := "ytlnjbpapbifjfaa", sum := "477858f728444ff644afbd30fd3bf470ce95ad3b385a99ae125aea1b9128bf2c", func := "lapidary/lapidarylaw09.GeomMeets", spec := "geomMeets", inPlace := ["math/bits.Add64"], apart := false, narrowed := true }
def GeomMeetsUptoSaid : Prop := geomMeetsUptoRow.holds Try.pinned (OpenSpec.upto geomMeetsSpec)

/-- 'lapidarylaw09.GeomOn', WHERE WHAT IT READS IS OF BULK AT MOST 1048576: true; the input reads as it did. -/
def geomOnUptoRow : OpenClaim := { program := "ytlnjbpapbifjfaa", sum := "477858f728444ff644afbd30fd3bf470ce95ad3b385a99ae125aea1b9128bf2c", func := "lapidary/lapidarylaw09.GeomOn", spec := "geomOn", inPlace := ["math/bits.Add64"], apart := false, narrowed := true }
def GeomOnUptoSaid : Prop := geomOnUptoRow.holds Try.pinned (OpenSpec.upto geomOnSpec)

/-- 'lapidarylaw09.GeomAreas', WHERE WHAT IT READS IS OF BULK AT MOST 1048576: true; the input reads as it did. -/
def geomAreasUptoRow : OpenClaim := { program := "ytlnjbpapbifjfaa", sum := "477858f728444ff644afbd30fd3bf470ce95ad3b385a99ae125aea1b9128bf2c", func := "lapidary/lapidarylaw09.GeomAreas", spec := "geomAreas", inPlace := ["math/bits.Add64"], apart := false, narrowed := true }
def GeomAreasUptoSaid : Prop := geomAreasUptoRow.holds Try.pinned (OpenSpec.upto geomAreasSpec)

/-- 'lapidarylaw09.GeomTurns', WHERE WHAT IT READS IS OF BULK AT MOST 1048576: true; the input reads as it did. -/
def geomTurnsUptoRow : OpenClaim := { program := "ytlnjbpapbifjfaa", sum := "477858f728444ff644afbd30fd3bf470ce95ad3b385a99ae125aea1b9128bf2c", func := "lapidary/lapidarylaw09.GeomTurns", spec := "geomTurns", inPlace := ["math/bits.Add64"], apart := false, narrowed := true }
def GeomTurnsUptoSaid : Prop := geomTurnsUptoRow.holds Try.pinned (OpenSpec.upto geomTurnsSpec)

/-- 'lapidarylaw09.GeomLaws', WHERE WHAT IT READS IS OF BULK AT MOST 1048576: true; the input reads as it did. -/
def geomLawsUptoRow : OpenClaim := { program := "ytlnjbpapbifjfaa", sum := "477858f728444ff644afbd30fd3bf470ce95ad3b385a99ae125aea1b9128bf2c", func := "lapidary/lapidarylaw09.GeomLaws", spec := "geomLaws", inPlace := ["math/bits.Add64"], apart := false, narrowed := true }
def GeomLawsUptoSaid : Prop := geomLawsUptoRow.holds Try.pinned (OpenSpec.upto geomLawsSpec)

/-- 'lapidarylaw09.GeomRings', WHERE WHAT IT READS IS OF BULK AT MOST 1048576: true; the input reads as it did. -/
def geomRingsUptoRow : OpenClaim := { program := "ytlnjbpapbifjfaa", sum := "477858f728444ff644afbd30fd3bf470ce95ad3b385a99ae125aea1b9128bf2c", func := "lapidary/lapidarylaw09.GeomRings", spec := "geomRings", inPlace := ["math/bits.Add64"], apart := false, narrowed := true }
def GeomRingsUptoSaid : Prop := geomRingsUptoRow.holds Try.pinned (OpenSpec.upto geomRingsSpec)

/-- 'lapidarylaw09.GeomEnds', WHERE WHAT IT READS IS OF BULK AT MOST 1048576: true; the input reads as it did. -/
def geomEndsUptoRow : OpenClaim := { program := "ytlnjbpapbifjfaa", sum := "477858f728444ff644afbd30fd3bf470ce95ad3b385a99ae125aea1b9128bf2c", func := "lapidary/lapidarylaw09.GeomEnds", spec := "geomEnds", inPlace := ["math/bits.Add64"], apart := false, narrowed := true }
def GeomEndsUptoSaid : Prop := geomEndsUptoRow.holds Try.pinned (OpenSpec.upto geomEndsSpec)

/-- 'lapidarylaw09.GeomIns', WHERE WHAT IT READS IS OF BULK AT MOST 1048576: true; the input reads as it did. -/
def geomInsUptoRow : OpenClaim := { program := "ytlnjbpapbifjfaa", sum := "477858f728444ff644afbd30fd3bf470ce95ad3b385a99ae125aea1b9128bf2c", func := "lapidary/lapidarylaw09.GeomIns", spec := "geomIns", inPlace := ["math/bits.Add64"], apart := false, narrowed := true }
def GeomInsUptoSaid : Prop := geomInsUptoRow.holds Try.pinned (OpenSpec.upto geomInsSpec)

end Rows
end Go.Proofs.Ytlnjbpapbifjfaa
