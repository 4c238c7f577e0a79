/-
  No cell of these rows narrows 'for every input' (looked for: loops, veiled, ifaces, maps, wideKeys, modest, calm, conditions, laid).
  DERIVED. THE GIVEN ROWS OF THIS SEAT. 8 by the template 'for every input the law returns true; each argument reads behind the call as it read before'; 0 by the template 'total and deterministic' (their statements: YtaaeaihmhdlpfaaTotals.lean).
  GIVEN WITH THE SEED: the statements are not yours to turn. If you find one false, say at which input.
  Laid BY PROGRAM, IN A SANDBOX (cutbox-rows.mjs): the forced cells as the released guide's own fill.sh prints them over the translation ee7c842ba2b7e09c… (all of the seat's roots in one cut). By AI agents, Wed Nov 11 2026. No macro, syntax, notation, axiom, sorry.
-/
import Derived.Test.YtaaeaihmhdlpfaaChecked
import GoSem.Claim
import GoSem.ClaimJoined
import GoSem.ClaimMapViews
import Derived.JoinedTies
import Derived.KernelRfl
namespace Go.Proofs.Ytaaeaihmhdlpfaa
/- THE CELL 'sum', in the pinned program and in every row, IS THE sha256 OF THE DUMP (.gsa) THAT YtaaeaihmhdlpfaaProg.lean LOADS. Nothing in Lean hashes anything: it is a label: what it is worth is what the hold of that sum in a sandbox is worth. -/
noncomputable def Try.pinned : Pinned := { name := "ytaaeaihmhdlpfaa", sum := "ee7c842ba2b7e09ca545482da5e57136b040d24cbb192b8c5008fc9e312573db", checked := Try.checked }
namespace Rows
def none {H : Type} : Left H := { results := [], args := [] }

/-- 'lapidarylaw08.WideMuls': WHATEVER THE INPUT: true; the input reads as it did. -/
def wideMulsSpec : ChangeSpec := { name := "wideMuls", fn := fun _ => fun
  | [d1, d2] => { results := [.lit (.bool true)], args := [d1, d2] }
  | _ => none }
def wideMulsRow : OpenClaim := { program := "ytaaeaihmhdlpfaa", sum := "ee7c842ba2b7e09ca545482da5e57136b040d24cbb192b8c5008fc9e312573db", func := "lapidary/lapidarylaw08.WideMuls", spec := "wideMuls", inPlace := ["math/bits.Add64"], apart := false }
def WideMulsSaid : Prop := wideMulsRow.holds Try.pinned (OpenSpec.ofChange wideMulsSpec)

/-- ITS FALSE NEIGHBOUR: 'it returns false'. Refute it at one input. -/
def wideMulsWrong : ChangeSpec := { name := "wideMuls", fn := fun _ => fun
  | [d1, d2] => { results := [.lit (.bool false)], args := [d1, d2] }
  | _ => none }
def WideMulsWrongFalsely : Prop := wideMulsRow.holds Try.pinned (OpenSpec.ofChange wideMulsWrong)

/-- 'lapidarylaw08.WideDots': WHATEVER THE INPUT: true; the input reads as it did. -/
def wideDotsSpec : ChangeSpec := { name := "wideDots", fn := fun _ => fun
  | [d] => { results := [.lit (.bool true)], args := [d] }
  | _ => none }
def wideDotsRow : OpenClaim := { program := "ytaaeaihmhdlpfaa", sum := "ee7c842ba2b7e09ca545482da5e57136b040d24cbb192b8c5008fc9e312573db", func := "lapidary/lapidarylaw08.WideDots", spec := "wideDots", inPlace := ["math/bits.Add64"], apart := false }
def WideDotsSaid : Prop := wideDotsRow.holds Try.pinned (OpenSpec.ofChange wideDotsSpec)

/-- ITS FALSE NEIGHBOUR: 'it returns false'. Refute it at one input. -/
def wideDotsWrong : ChangeSpec := { name := "wideDots", fn := fun _ => fun
  | [d] => { results := [.lit (.bool false)], args := [d] }
  | _ => none }
def WideDotsWrongFalsely : Prop := wideDotsRow.holds Try.pinned (OpenSpec.ofChange wideDotsWrong)

/-- 'lapidarylaw08.WideCmps': WHATEVER THE INPUT: true; the input reads as it did. -/
def wideCmpsSpec : ChangeSpec := { name := "wideCmps", fn := fun _ => fun
  | [d1, d2, d3, d4] => { results := [.lit (.bool true)], args := [d1, d2, d3, d4] }
  | _ => none }
def wideCmpsRow : OpenClaim := { program := "ytaaeaihmhdlpfaa", sum := "ee7c842ba2b7e09ca545482da5e57136b040d24cbb192b8c5008fc9e312573db", func := "lapidary/lapidarylaw08.WideCmps", spec := "wideCmps", inPlace := ["math/bits.Add64"], apart := false }
def WideCmpsSaid : Prop := wideCmpsRow.holds Try.pinned (OpenSpec.ofChange wideCmpsSpec)

/-- ITS FALSE NEIGHBOUR: 'it returns false'. Refute it at one input. -/
def wideCmpsWrong : ChangeSpec := { name := "wideCmps", fn := fun _ => fun
  | [d1, d2, d3, d4] => { results := [.lit (.bool false)], args := [d1, d2, d3, d4] }
  | _ => none }
def WideCmpsWrongFalsely : Prop := wideCmpsRow.holds Try.pinned (OpenSpec.ofChange wideCmpsWrong)

/-- 'lapidarylaw08.WideAdds': WHATEVER THE INPUT: true; the input reads as it did. -/
def wideAddsSpec : ChangeSpec := { name := "wideAdds", fn := fun _ => fun
  | [d1, d2, d3, d4] => { results := [.lit (.bool true)], args := [d1, d2, d3, d4] }
  | _ => none }
def wideAddsRow : OpenClaim := { program := "ytaaeaihmhdlpfaa", sum := "ee7c842ba2b7e09ca545482da5e57136b040d24cbb192b8c5008fc9e312573db", func := "lapidary/lapidarylaw08.WideAdds", spec := "wideAdds", inPlace := ["math/bits.Add64"], apart := false }
def WideAddsSaid : Prop := wideAddsRow.holds Try.pinned (OpenSpec.ofChange wideAddsSpec)

/-- ITS FALSE NEIGHBOUR: 'it returns false'. Refute it at one input. -/
def wideAddsWrong : ChangeSpec := { name := "wideAdds", fn := fun _ => fun
  | [d1, d2, d3, d4] => { results := [.lit (.bool false)], args := [d1, d2, d3, d4] }
  | _ => none }
def WideAddsWrongFalsely : Prop := wideAddsRow.holds Try.pinned (OpenSpec.ofChange wideAddsWrong)

/-- 'lapidarylaw08.WideMany': WHATEVER THE INPUT: true; the input reads as it did. -/
def wideManySpec : ChangeSpec := { name := "wideMany", fn := fun _ => fun
  | [d1, d2, d3] => { results := [.lit (.bool true)], args := [d1, d2, d3] }
  | _ => none }
def wideManyRow : OpenClaim := { program := "ytaaeaihmhdlpfaa", sum := "ee7c842ba2b7e09ca545482da5e57136b040d24cbb192b8c5008fc9e312573db", func := "lapidary/lapidarylaw08.WideMany", spec := "wideMany", inPlace := ["math/bits.Add64"], apart := false }
def WideManySaid : Prop := wideManyRow.holds Try.pinned (OpenSpec.ofChange wideManySpec)

/-- ITS FALSE NEIGHBOUR: 'it returns false'. Refute it at one input. -/
def wideManyWrong : ChangeSpec := { name := "wideMany", fn := fun _ => fun
  | [d1, d2, d3] => { results := [.lit (.bool false)], args := [d1, d2, d3] }
  | _ => none }
def WideManyWrongFalsely : Prop := wideManyRow.holds Try.pinned (OpenSpec.ofChange wideManyWrong)

/-- 'lapidarylaw08.WideSquares': WHATEVER THE INPUT: true; the input reads as it did. -/
def wideSquaresSpec : ChangeSpec := { name := "wideSquares", fn := fun _ => fun
  | [d1, d2] => { results := [.lit (.bool true)], args := [d1, d2] }
  | _ => none }
def wideSquaresRow : OpenClaim := { program := "ytaaeaihmhdlpfaa", sum := "ee7c842ba2b7e09ca545482da5e57136b040d24cbb192b8c5008fc9e312573db", func := "lapidary/lapidarylaw08.WideSquares", spec := "wideSquares", inPlace := ["math/bits.Add64"], apart := false }
def WideSquaresSaid : Prop := wideSquaresRow.holds Try.pinned (OpenSpec.ofChange wideSquaresSpec)

/-- ITS FALSE NEIGHBOUR: 'it returns false'. Refute it at one input. -/
def wideSquaresWrong : ChangeSpec := { name := "wideSquares", fn := fun _ => fun
  | [d1, d2] => { results := [.lit (.bool false)], args := [d1, d2] }
  | _ => none }
def WideSquaresWrongFalsely : Prop := wideSquaresRow.holds Try.pinned (OpenSpec.ofChange wideSquaresWrong)

/-- 'lapidarylaw08.WideInts': WHATEVER THE INPUT: true; the input reads as it did. -/
def wideIntsSpec : ChangeSpec := { name := "wideInts", fn := fun _ => fun
  | [d1, d2] => { results := [.lit (.bool true)], args := [d1, d2] }
  | _ => none }
def wideIntsRow : OpenClaim := { program := "ytaaeaihmhdlpfaa", sum := "ee7c842ba2b7e09ca545482da5e57136b040d24cbb192b8c5008fc9e312573db", func := "lapidary/lapidarylaw08.WideInts", spec := "wideInts", inPlace := ["math/bits.Add64"], apart := false }
def WideIntsSaid : Prop := wideIntsRow.holds Try.pinned (OpenSpec.ofChange wideIntsSpec)

/-- ITS FALSE NEIGHBOUR: 'it returns false'. Refute it at one input. -/
def wideIntsWrong : ChangeSpec := { name := "wideInts", fn := fun _ => fun
  | [d1, d2] => { results := [.lit (.bool false)], args := [d1, d2] }
  | _ => none }
def WideIntsWrongFalsely : Prop := wideIntsRow.holds Try.pinned (OpenSpec.ofChange wideIntsWrong)

/-- 'lapidarylaw08.WideLaws': WHATEVER THE INPUT: true; the input reads as it did. -/
def wideLawsSpec : ChangeSpec := { name := "wideLaws", fn := fun _ => fun
  | [d1, d2, d3, d4] => { results := [.lit (.bool true)], args := [d1, d2, d3, d4] }
  | _ => none }
def wideLawsRow : OpenClaim := { program := "ytaaeaihmhdlpfaa", sum := "ee7c842ba2b7e09ca545482da5e57136b040d24cbb192b8c5008fc9e312573db", func := "lapidary/lapidarylaw08.WideLaws", spec := "wideLaws", inPlace := ["math/bits.Add64"], apart := false }
def WideLawsSaid : Prop := wideLawsRow.holds Try.pinned (OpenSpec.ofChange wideLawsSpec)

/-- ITS FALSE NEIGHBOUR: 'it returns false'. Refute it at one input. -/
def wideLawsWrong : ChangeSpec := { name := "wideLaws", fn := fun _ => fun
  | [d1, d2, d3, d4] => { results := [.lit (.bool false)], args := [d1, d2, d3, d4] }
  | _ => none }
def WideLawsWrongFalsely : Prop := wideLawsRow.holds Try.pinned (OpenSpec.ofChange wideLawsWrong)

/- THE SECOND FORM. 'bulk': how many values and letters a reading holds, each counted each time it is reached (what is shared counts as often as it is met; a slice's spare places count too). A statement '..UptoSaid' is the law's where the arguments, and the package variables that the reading takes, are together of bulk at most 1048576: NARROWER than '..Said'. Prove '..Said' where nothing that the law and all that it calls make is longer than what came in: it says more and counts as full. Else prove '..UptoSaid'. A law counts once. -/
mutual
def uptoBulk {H : Type} : DataW H → Nat
  | .lit (.string bytes) => bytes.length + 1
  | .lit _ => 1
  | .nil => 1
  | .ptr d => uptoBulk d + 1
  | .slice elems spare => uptoBulkAll elems + uptoBulkAll spare + 1
  | .agg parts => uptoBulkAll parts + 1
  | .iface _ d => uptoBulk d + 1
  | .map entries => uptoBulkEntries entries + 1
  | .held _ => 1
def uptoBulkAll {H : Type} : List (DataW H) → Nat
  | [] => 0
  | d :: r => uptoBulk d + uptoBulkAll r
def uptoBulkEntries {H : Type} : List (Lit × DataW H) → Nat
  | [] => 0
  | x :: r => uptoBulkEntry x + uptoBulkEntries r
def uptoBulkEntry {H : Type} : Lit × DataW H → Nat
  | (.string bytes, d) => bytes.length + uptoBulk d + 1
  | (_, d) => uptoBulk d + 1
 end
def uptoSmall : (H : Type) → List (DataW H) → Bool := fun _ ds => decide (uptoBulkAll ds ≤ 1048576)
def OpenSpec.upto (s : _root_.Go.ChangeSpec) : _root_.Go.OpenSpec := { _root_.Go.OpenSpec.ofChange s with cond := some uptoSmall }

/-- 'lapidarylaw08.WideMuls', WHERE WHAT IT READS IS OF BULK AT MOST 1048576: true; the input reads as it did. -/
def wideMulsUptoRow : OpenClaim := { program := "ytaaeaihmhdlpfaa", sum := "ee7c842ba2b7e09ca545482da5e57136b040d24cbb192b8c5008fc9e312573db", func := "lapidary/lapidarylaw08.WideMuls", spec := "wideMuls", inPlace := ["math/bits.Add64"], apart := false, narrowed := true }
def WideMulsUptoSaid : Prop := wideMulsUptoRow.holds Try.pinned (OpenSpec.upto wideMulsSpec)

/-- 'lapidarylaw08.WideDots', WHERE WHAT IT READS IS OF BULK AT MOST 1048576: true; the input reads as it did. -/
def wideDotsUptoRow : OpenClaim := { program := "ytaaeaihmhdlpfaa", sum := "ee7c842ba2b7e09ca545482da5e57136b040d24cbb192b8c5008fc9e312573db", func := "lapidary/lapidarylaw08.WideDots", spec := "wideDots", inPlace := ["math/bits.Add64"], apart := false, narrowed := true }
def WideDotsUptoSaid : Prop := wideDotsUptoRow.holds Try.pinned (OpenSpec.upto wideDotsSpec)

/-- 'lapidarylaw08.WideCmps', WHERE WHAT IT READS IS OF BULK AT MOST 1048576: true; the input reads as it did. -/
def wideCmpsUptoRow : OpenClaim := { program := "ytaaeaihmhdlpfaa", sum := "ee7c842ba2b7e09ca545482da5e57136b040d24cbb192b8c5008fc9e312573db", func := "lapidary/lapidarylaw08.WideCmps", spec := "wideCmps", inPlace := ["math/bits.Add64"], apart := false, narrowed := true }
def WideCmpsUptoSaid : Prop := wideCmpsUptoRow.holds Try.pinned (OpenSpec.upto wideCmpsSpec)

/-- 'lapidarylaw08.WideAdds', WHERE WHAT IT READS IS OF BULK AT MOST 1048576: true; the input reads as it did. -/
def wideAddsUptoRow : OpenClaim := { program := "ytaaeaihmhdlpfaa", sum := "ee7c842ba2b7e09ca545482da5e57136b040d24cbb192b8c5008fc9e312573db", func := "lapidary/lapidarylaw08.WideAdds", spec := "wideAdds", inPlace := ["math/bits.Add64"], apart := false, narrowed := true }
def WideAddsUptoSaid : Prop := wideAddsUptoRow.holds Try.pinned (OpenSpec.upto wideAddsSpec)

/-- 'lapidarylaw08.WideMany', WHERE WHAT IT READS IS OF BULK AT MOST 1048576: true; the input reads as it did. -/
def wideManyUptoRow : OpenClaim := { program := "ytaaeaihmhdlpfaa", sum := "ee7c842ba2b7e09ca545482da5e57136b040d24cbb192b8c5008fc9e312573db", func := "lapidary/lapidarylaw08.WideMany", spec := "wideMany", inPlace := ["math/bits.Add64"], apart := false, narrowed := true }
def WideManyUptoSaid : Prop := wideManyUptoRow.holds Try.pinned (OpenSpec.upto wideManySpec)

/-- 'lapidarylaw08.WideSquares', WHERE WHAT IT READS IS OF BULK AT MOST 1048576: true; the input reads as it did. -/
def wideSquaresUptoRow : OpenClaim := { program := "ytaaeaihmhdlpfaa", sum := "ee7c842ba2b7e09ca545482da5e57136b040d24cbb192b8c5008fc9e312573db", func := "lapidary/lapidarylaw08.WideSquares", spec := "wideSquares", inPlace := ["math/bits.Add64"], apart := false, narrowed := true }
def WideSquaresUptoSaid : Prop := wideSquaresUptoRow.holds Try.pinned (OpenSpec.upto wideSquaresSpec)

/-- 'lapidarylaw08.WideInts', WHERE WHAT IT READS IS OF BULK AT MOST 1048576: true; the input reads as it did. -/
def wideIntsUptoRow : OpenClaim := { program := "ytaaeaihmhdlpfaa", sum := "ee7c842ba2b7e09ca545482da5e57136b040d24cbb192b8c5008fc9e312573db", func := "lapidary/lapidarylaw08.WideInts", spec := "wideInts", inPlace := ["math/bits.Add64"], apart := false, narrowed := true }
def WideIntsUptoSaid : Prop := wideIntsUptoRow.holds Try.pinned (OpenSpec.upto wideIntsSpec)

/-- 'lapidarylaw08.WideLaws', WHERE WHAT IT READS IS OF BULK AT MOST 1048576: true; the input reads as it did. -/
def wideLawsUptoRow : OpenClaim := { program := "ytaaeaihmhdlpfaa", sum := "ee7c842ba2b7e09ca545482da5e57136b040d24cbb192b8c5008fc9e312573db", func := "lapidary/lapidarylaw08.WideLaws", spec := "wideLaws", inPlace := ["math/bits.Add64"], apart := false, narrowed := true }
def WideLawsUptoSaid : Prop := wideLawsUptoRow.holds Try.pinned (OpenSpec.upto wideLawsSpec)

end Rows
end Go.Proofs.Ytaaeaihmhdlpfaa
