/-
  No cell of these rows narrows 'for every input' (looked for: loops, veiled, ifaces, maps, wideKeys, modest, calm, conditions, laid).
  DERIVED. THE GIVEN ROWS OF THIS SEAT. 5 by the template 'for every input the law returns true; each argument reads behind the call as it read before'; 0 by the template 'total and deterministic' (their statements: YtimdikfllbbdoaaTotals.lean).
  GIVEN WITH THE SEED: the statements are not yours to turn. If you find one false, say at which input.
  Laid BY PROGRAM, IN A SANDBOX (cutbox-rows.mjs): the forced cells as the released guide's own fill.sh prints them over the translation c2f78a809e53bd88… (all of the seat's roots in one cut). By AI agents, Wed Nov 11 2026. No macro, syntax, notation, axiom, sorry.
-/
import Derived.Test.YtimdikfllbbdoaaChecked
import GoSem.Claim
import GoSem.ClaimJoined
import GoSem.ClaimMapViews
import Derived.JoinedTies
import Derived.KernelRfl
namespace Go.Proofs.Ytimdikfllbbdoaa
/- THE CELL 'sum', in the pinned program and in every row, IS THE sha256 OF THE DUMP (.gsa) THAT YtimdikfllbbdoaaProg.lean LOADS. Nothing in Lean hashes anything: it is a label: what it is worth is what the hold of that sum in a sandbox is worth. -/
noncomputable def Try.pinned : Pinned := { name := "ytimdikfllbbdoaa", sum := "c2f78a809e53bd884b460bc63ab1684641259d1f6a276fc00fed0a1463972ce5", checked := Try.checked }
namespace Rows
def none {H : Type} : Left H := { results := [], args := [] }

/-- 'lapidarylaw03.FrameWrites': WHATEVER THE INPUT: true; the input reads as it did. -/
def frameWritesSpec : ChangeSpec := { name := "frameWrites", fn := fun _ => fun
  | [d] => { results := [.lit (.bool true)], args := [d] }
  | _ => none }
def frameWritesRow : OpenClaim := { program := "ytimdikfllbbdoaa", sum := "c2f78a809e53bd884b460bc63ab1684641259d1f6a276fc00fed0a1463972ce5", func := "lapidary/lapidarylaw03.FrameWrites", spec := "frameWrites", apart := false }
def FrameWritesSaid : Prop := frameWritesRow.holds Try.pinned (OpenSpec.ofChange frameWritesSpec)

/-- ITS FALSE NEIGHBOUR: 'it returns false'. Refute it at one input. -/
def frameWritesWrong : ChangeSpec := { name := "frameWrites", fn := fun _ => fun
  | [d] => { results := [.lit (.bool false)], args := [d] }
  | _ => none }
def FrameWritesWrongFalsely : Prop := frameWritesRow.holds Try.pinned (OpenSpec.ofChange frameWritesWrong)

/-- 'lapidarylaw03.FrameReads': WHATEVER THE INPUT: true; the input reads as it did. -/
def frameReadsSpec : ChangeSpec := { name := "frameReads", fn := fun _ => fun
  | [d] => { results := [.lit (.bool true)], args := [d] }
  | _ => none }
def frameReadsRow : OpenClaim := { program := "ytimdikfllbbdoaa", sum := "c2f78a809e53bd884b460bc63ab1684641259d1f6a276fc00fed0a1463972ce5", func := "lapidary/lapidarylaw03.FrameReads", spec := "frameReads", apart := false }
def FrameReadsSaid : Prop := frameReadsRow.holds Try.pinned (OpenSpec.ofChange frameReadsSpec)

/-- ITS FALSE NEIGHBOUR: 'it returns false'. Refute it at one input. -/
def frameReadsWrong : ChangeSpec := { name := "frameReads", fn := fun _ => fun
  | [d] => { results := [.lit (.bool false)], args := [d] }
  | _ => none }
def FrameReadsWrongFalsely : Prop := frameReadsRow.holds Try.pinned (OpenSpec.ofChange frameReadsWrong)

/-- 'lapidarylaw03.FrameBack': WHATEVER THE INPUT: true; the input reads as it did. -/
def frameBackSpec : ChangeSpec := { name := "frameBack", fn := fun _ => fun
  | [d1, d2, d3, d4] => { results := [.lit (.bool true)], args := [d1, d2, d3, d4] }
  | _ => none }
def frameBackRow : OpenClaim := { program := "ytimdikfllbbdoaa", sum := "c2f78a809e53bd884b460bc63ab1684641259d1f6a276fc00fed0a1463972ce5", func := "lapidary/lapidarylaw03.FrameBack", spec := "frameBack", apart := false }
def FrameBackSaid : Prop := frameBackRow.holds Try.pinned (OpenSpec.ofChange frameBackSpec)

/-- ITS FALSE NEIGHBOUR: 'it returns false'. Refute it at one input. -/
def frameBackWrong : ChangeSpec := { name := "frameBack", fn := fun _ => fun
  | [d1, d2, d3, d4] => { results := [.lit (.bool false)], args := [d1, d2, d3, d4] }
  | _ => none }
def FrameBackWrongFalsely : Prop := frameBackRow.holds Try.pinned (OpenSpec.ofChange frameBackWrong)

/-- 'lapidarylaw03.FrameOne': WHATEVER THE INPUT: true; the input reads as it did. -/
def frameOneSpec : ChangeSpec := { name := "frameOne", fn := fun _ => fun
  | [d] => { results := [.lit (.bool true)], args := [d] }
  | _ => none }
def frameOneRow : OpenClaim := { program := "ytimdikfllbbdoaa", sum := "c2f78a809e53bd884b460bc63ab1684641259d1f6a276fc00fed0a1463972ce5", func := "lapidary/lapidarylaw03.FrameOne", spec := "frameOne", apart := false }
def FrameOneSaid : Prop := frameOneRow.holds Try.pinned (OpenSpec.ofChange frameOneSpec)

/-- ITS FALSE NEIGHBOUR: 'it returns false'. Refute it at one input. -/
def frameOneWrong : ChangeSpec := { name := "frameOne", fn := fun _ => fun
  | [d] => { results := [.lit (.bool false)], args := [d] }
  | _ => none }
def FrameOneWrongFalsely : Prop := frameOneRow.holds Try.pinned (OpenSpec.ofChange frameOneWrong)

/-- 'lapidarylaw03.FrameOrder': WHATEVER THE INPUT: true; the input reads as it did. -/
def frameOrderSpec : ChangeSpec := { name := "frameOrder", fn := fun _ => fun
  | [d1, d2, d3, d4] => { results := [.lit (.bool true)], args := [d1, d2, d3, d4] }
  | _ => none }
def frameOrderRow : OpenClaim := { program := "ytimdikfllbbdoaa", sum := "c2f78a809e53bd884b460bc63ab1684641259d1f6a276fc00fed0a1463972ce5", func := "lapidary/lapidarylaw03.FrameOrder", spec := "frameOrder", apart := false }
def FrameOrderSaid : Prop := frameOrderRow.holds Try.pinned (OpenSpec.ofChange frameOrderSpec)

/-- ITS FALSE NEIGHBOUR: 'it returns false'. Refute it at one input. -/
def frameOrderWrong : ChangeSpec := { name := "frameOrder", fn := fun _ => fun
  | [d1, d2, d3, d4] => { results := [.lit (.bool false)], args := [d1, d2, d3, d4] }
  | _ => none }
def FrameOrderWrongFalsely : Prop := frameOrderRow.holds Try.pinned (OpenSpec.ofChange frameOrderWrong)

/- THE SECOND FORM. 'bulk': how many values and letters a reading holds, each counted each time it is reached (what is shared counts as often as it is met; a slice's spare places count too). A statement '..UptoSaid' is the law's where the arguments, and the package variables that the reading takes, are together of bulk at most 1048576: NARROWER than '..Said'. Prove '..Said' where nothing that the law and all that it calls make is longer than what came in: it says more and counts as full. Else prove '..UptoSaid'. A law counts once. -/
mutual
def uptoBulk {H : Type} : DataW H → Nat
  | .lit (.string bytes) => bytes.length + 1
  | .lit _ => 1
  | .nil => 1
  | .ptr d => uptoBulk d + 1
  | .slice elems spare => uptoBulkAll elems + uptoBulkAll spare + 1
  | .agg parts => uptoBulkAll parts + 1
  | .iface _ d => uptoBulk d + 1
  | .map entries => uptoBulkEntries entries + 1
  | .held _ => 1
def uptoBulkAll {H : Type} : List (DataW H) → Nat
  | [] => 0
  | d :: r => uptoBulk d + uptoBulkAll r
def uptoBulkEntries {H : Type} : List (Lit × DataW H) → Nat
  | [] => 0
  | x :: r => uptoBulkEntry x + uptoBulkEntries r
def uptoBulkEntry {H : Type} : Lit × DataW H → Nat
  | (.string bytes, d) => bytes.length + uptoBulk d + 1
  | (_, d) => uptoBulk d + 1
 end
def uptoSmall : (H : Type) → List (DataW H) → Bool := fun _ ds => decide (uptoBulkAll ds ≤ 1048576)
def OpenSpec.upto (s : _root_.Go.ChangeSpec) : _root_.Go.OpenSpec := { _root_.Go.OpenSpec.ofChange s with cond := some uptoSmall }

/-- 'lapidarylaw03.FrameWrites', WHERE WHAT IT READS IS OF BULK AT MOST 1048576: true; the input reads as it did. -/
def frameWritesUptoRow : OpenClaim := { program := "ytimdikfllbbdoaa", sum := "c2f78a809e53bd884b460bc63ab1684641259d1f6a276fc00fed0a1463972ce5", func := "lapidary/lapidarylaw03.FrameWrites", spec := "frameWrites", apart := false, narrowed := true }
def FrameWritesUptoSaid : Prop := frameWritesUptoRow.holds Try.pinned (OpenSpec.upto frameWritesSpec)

/-- 'lapidarylaw03.FrameReads', WHERE WHAT IT READS IS OF BULK AT MOST 1048576: true; the input reads as it did. -/
def frameReadsUptoRow : OpenClaim := { program := "ytimdikfllbbdoaa", sum := "c2f78a809e53bd884b460bc63ab1684641259d1f6a276fc00fed0a1463972ce5", func := "lapidary/lapidarylaw03.FrameReads", spec := "frameReads", apart := false, narrowed := true }
def FrameReadsUptoSaid : Prop := frameReadsUptoRow.holds Try.pinned (OpenSpec.upto frameReadsSpec)

/-- 'lapidarylaw03.FrameBack', WHERE WHAT IT READS IS OF BULK AT MOST 1048576: true; the input reads as it did. -/
def frameBackUptoRow : OpenClaim := { program := "ytimdikfllbbdoaa", sum := "c2f78a809e53bd884b460bc63ab1684641259d1f6a276fc00fed0a1463972ce5", func := "lapidary/lapidarylaw03.FrameBack", spec := "frameBack", apart := false, narrowed := true }
def FrameBackUptoSaid : Prop := frameBackUptoRow.holds Try.pinned (OpenSpec.upto frameBackSpec)

/-- 'lapidarylaw03.FrameOne', WHERE WHAT IT READS IS OF BULK AT MOST 1048576: true; the input reads as it did. -/
def frameOneUptoRow : OpenClaim := { program := "ytimdikfllbbdoaa", sum := "c2f78a809e53bd884b460bc63ab1684641259d1f6a276fc00fed0a1463972ce5", func := "lapidary/lapidarylaw03.FrameOne", spec := "frameOne", apart := false, narrowed := true }
def FrameOneUptoSaid : Prop := frameOneUptoRow.holds Try.pinned (OpenSpec.upto frameOneSpec)

/-- 'lapidarylaw03.FrameOrder', WHERE WHAT IT READS IS OF BULK AT MOST 1048576: true; the input reads as it did. -/
def frameOrderUptoRow : OpenClaim := { program := "ytimdikfllbbdoaa", sum := "c2f78a809e53bd884b460bc63ab1684641259d1f6a276fc00fed0a1463972ce5", func := "lapidary/lapidarylaw03.FrameOrder", spec := "frameOrder", apart := false, narrowed := true }
def FrameOrderUptoSaid : Prop := frameOrderUptoRow.holds Try.pinned (OpenSpec.upto frameOrderSpec)

end Rows
end Go.Proofs.Ytimdikfllbbdoaa
