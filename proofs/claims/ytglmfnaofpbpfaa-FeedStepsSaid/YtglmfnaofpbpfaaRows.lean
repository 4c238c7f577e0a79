/-
  No cell of these rows narrows 'for every input' (looked for: loops, veiled, ifaces, maps, wideKeys, modest, calm, conditions, laid).
  DERIVED. THE GIVEN ROWS OF THIS SEAT. 4 by the template 'for every input the law returns true; each argument reads behind the call as it read before'; 0 by the template 'total and deterministic' (their statements: YtglmfnaofpbpfaaTotals.lean).
  GIVEN WITH THE SEED: the statements are not yours to turn. If you find one false, say at which input.
  Laid BY PROGRAM, IN A SANDBOX (cutbox-rows.mjs): the forced cells as the released guide's own fill.sh prints them over the translation b2996bec83c0c0f0… (all of the seat's roots in one cut). By AI agents, Wed Nov 11 2026. No macro, syntax, notation, axiom, sorry.
-/
import Derived.Test.YtglmfnaofpbpfaaChecked
import GoSem.Claim
import GoSem.ClaimJoined
import GoSem.ClaimMapViews
import Derived.JoinedTies
import Derived.KernelRfl
namespace Go.Proofs.Ytglmfnaofpbpfaa
/- THE CELL 'sum', in the pinned program and in every row, IS THE sha256 OF THE DUMP (.gsa) THAT YtglmfnaofpbpfaaProg.lean LOADS. Nothing in Lean hashes anything: it is a label: what it is worth is what the hold of that sum in a sandbox is worth. -/
noncomputable def Try.pinned : Pinned := { name := "ytglmfnaofpbpfaa", sum := "b2996bec83c0c0f02f9f63fa32bdc76c418b5ff620c6fd566230909f4fff686f", checked := Try.checked }
namespace Rows
def none {H : Type} : Left H := { results := [], args := [] }

/-- 'lapidarylaw04.FeedSteps': WHATEVER THE INPUT: true; the input reads as it did. -/
def feedStepsSpec : ChangeSpec := { name := "feedSteps", fn := fun _ => fun
  | [d1, d2] => { results := [.lit (.bool true)], args := [d1, d2] }
  | _ => none }
def feedStepsRow : OpenClaim := { program := "ytglmfnaofpbpfaa", sum := "b2996bec83c0c0f02f9f63fa32bdc76c418b5ff620c6fd566230909f4fff686f", func := "lapidary/lapidarylaw04.FeedSteps", spec := "feedSteps", apart := false }
def FeedStepsSaid : Prop := feedStepsRow.holds Try.pinned (OpenSpec.ofChange feedStepsSpec)

/-- ITS FALSE NEIGHBOUR: 'it returns false'. Refute it at one input. -/
def feedStepsWrong : ChangeSpec := { name := "feedSteps", fn := fun _ => fun
  | [d1, d2] => { results := [.lit (.bool false)], args := [d1, d2] }
  | _ => none }
def FeedStepsWrongFalsely : Prop := feedStepsRow.holds Try.pinned (OpenSpec.ofChange feedStepsWrong)

/-- 'lapidarylaw04.FeedWhole': WHATEVER THE INPUT: true; the input reads as it did. -/
def feedWholeSpec : ChangeSpec := { name := "feedWhole", fn := fun _ => fun
  | [d1, d2] => { results := [.lit (.bool true)], args := [d1, d2] }
  | _ => none }
def feedWholeRow : OpenClaim := { program := "ytglmfnaofpbpfaa", sum := "b2996bec83c0c0f02f9f63fa32bdc76c418b5ff620c6fd566230909f4fff686f", func := "lapidary/lapidarylaw04.FeedWhole", spec := "feedWhole", apart := false }
def FeedWholeSaid : Prop := feedWholeRow.holds Try.pinned (OpenSpec.ofChange feedWholeSpec)

/-- ITS FALSE NEIGHBOUR: 'it returns false'. Refute it at one input. -/
def feedWholeWrong : ChangeSpec := { name := "feedWhole", fn := fun _ => fun
  | [d1, d2] => { results := [.lit (.bool false)], args := [d1, d2] }
  | _ => none }
def FeedWholeWrongFalsely : Prop := feedWholeRow.holds Try.pinned (OpenSpec.ofChange feedWholeWrong)

/-- 'lapidarylaw04.FeedBytes': WHATEVER THE INPUT: true; the input reads as it did. -/
def feedBytesSpec : ChangeSpec := { name := "feedBytes", fn := fun _ => fun
  | [d] => { results := [.lit (.bool true)], args := [d] }
  | _ => none }
def feedBytesRow : OpenClaim := { program := "ytglmfnaofpbpfaa", sum := "b2996bec83c0c0f02f9f63fa32bdc76c418b5ff620c6fd566230909f4fff686f", func := "lapidary/lapidarylaw04.FeedBytes", spec := "feedBytes", apart := false }
def FeedBytesSaid : Prop := feedBytesRow.holds Try.pinned (OpenSpec.ofChange feedBytesSpec)

/-- ITS FALSE NEIGHBOUR: 'it returns false'. Refute it at one input. -/
def feedBytesWrong : ChangeSpec := { name := "feedBytes", fn := fun _ => fun
  | [d] => { results := [.lit (.bool false)], args := [d] }
  | _ => none }
def FeedBytesWrongFalsely : Prop := feedBytesRow.holds Try.pinned (OpenSpec.ofChange feedBytesWrong)

/-- 'lapidarylaw04.FeedHolds': WHATEVER THE INPUT: true; the input reads as it did. -/
def feedHoldsSpec : ChangeSpec := { name := "feedHolds", fn := fun _ => fun
  | [d1, d2] => { results := [.lit (.bool true)], args := [d1, d2] }
  | _ => none }
def feedHoldsRow : OpenClaim := { program := "ytglmfnaofpbpfaa", sum := "b2996bec83c0c0f02f9f63fa32bdc76c418b5ff620c6fd566230909f4fff686f", func := "lapidary/lapidarylaw04.FeedHolds", spec := "feedHolds", apart := false }
def FeedHoldsSaid : Prop := feedHoldsRow.holds Try.pinned (OpenSpec.ofChange feedHoldsSpec)

/-- ITS FALSE NEIGHBOUR: 'it returns false'. Refute it at one input. -/
def feedHoldsWrong : ChangeSpec := { name := "feedHolds", fn := fun _ => fun
  | [d1, d2] => { results := [.lit (.bool false)], args := [d1, d2] }
  | _ => none }
def FeedHoldsWrongFalsely : Prop := feedHoldsRow.holds Try.pinned (OpenSpec.ofChange feedHoldsWrong)

/- THE SECOND FORM. 'bulk': how many values and letters a reading holds, each counted each time it is reached (what is shared counts as often as it is met; a slice's spare places count too). A statement '..UptoSaid' is the law's where the arguments, and the package variables that the reading takes, are together of bulk at most 1048576: NARROWER than '..Said'. Prove '..Said' where nothing that the law and all that it calls make is longer than what came in: it says more and counts as full. Else prove '..UptoSaid'. A law counts once. -/
mutual
def uptoBulk {H : Type} : DataW H → Nat
  | .lit (.string bytes) => bytes.length + 1
  | .lit _ => 1
  | .nil => 1
  | .ptr d => uptoBulk d + 1
  | .slice elems spare => uptoBulkAll elems + uptoBulkAll spare + 1
  | .agg parts => uptoBulkAll parts + 1
  | .iface _ d => uptoBulk d + 1
  | .map entries => uptoBulkEntries entries + 1
  | .held _ => 1
def uptoBulkAll {H : Type} : List (DataW H) → Nat
  | [] => 0
  | d :: r => uptoBulk d + uptoBulkAll r
def uptoBulkEntries {H : Type} : List (Lit × DataW H) → Nat
  | [] => 0
  | x :: r => uptoBulkEntry x + uptoBulkEntries r
def uptoBulkEntry {H : Type} : Lit × DataW H → Nat
  | (.string bytes, d) => bytes.length + uptoBulk d + 1
  | (_, d) => uptoBulk d + 1
 end
def uptoSmall : (H : Type) → List (DataW H) → Bool := fun _ ds => decide (uptoBulkAll ds ≤ 1048576)
def OpenSpec.upto (s : _root_.Go.ChangeSpec) : _root_.Go.OpenSpec := { _root_.Go.OpenSpec.ofChange s with cond := some uptoSmall }

/-- 'lapidarylaw04.FeedSteps', WHERE WHAT IT READS IS OF BULK AT MOST 1048576: true; the input reads as it did. -/
def feedStepsUptoRow : OpenClaim := { program := "ytglmfnaofpbpfaa", sum := "b2996bec83c0c0f02f9f63fa32bdc76c418b5ff620c6fd566230909f4fff686f", func := "lapidary/lapidarylaw04.FeedSteps", spec := "feedSteps", apart := false, narrowed := true }
def FeedStepsUptoSaid : Prop := feedStepsUptoRow.holds Try.pinned (OpenSpec.upto feedStepsSpec)

/-- 'lapidarylaw04.FeedWhole', WHERE WHAT IT READS IS OF BULK AT MOST 1048576: true; the input reads as it did. -/
def feedWholeUptoRow : OpenClaim := { program := "ytglmfnaofpbpfaa", sum := "b2996bec83c0c0f02f9f63fa32bdc76c418b5ff620c6fd566230909f4fff686f", func := "lapidary/lapidarylaw04.FeedWhole", spec := "feedWhole", apart := false, narrowed := true }
def FeedWholeUptoSaid : Prop := feedWholeUptoRow.holds Try.pinned (OpenSpec.upto feedWholeSpec)

/-- 'lapidarylaw04.FeedBytes', WHERE WHAT IT READS IS OF BULK AT MOST 1048576: true; the input reads as it did. -/
def feedBytesUptoRow : OpenClaim := { program := "ytglmfnaofpbpfaa", sum := "b2996bec83c0c0f02f9f63fa32bdc76c418b5ff620c6fd566230909f4fff686f", func := "lapidary/lapidarylaw04.FeedBytes", spec := "feedBytes", apart := false, narrowed := true }
def FeedBytesUptoSaid : Prop := feedBytesUptoRow.holds Try.pinned (OpenSpec.upto feedBytesSpec)

/-- 'lapidarylaw04.FeedHolds', WHERE WHAT IT READS IS OF BULK AT MOST 1048576: true; the input reads as it did. -/
def feedHoldsUptoRow : OpenClaim := { program := "ytglmfnaofpbpfaa", sum := "b2996bec83c0c0f02f9f63fa32bdc76c418b5ff620c6fd566230909f4fff686f", func := "lapidary/lapidarylaw04.FeedHolds", spec := "feedHolds", apart := false, narrowed := true }
def FeedHoldsUptoSaid : Prop := feedHoldsUptoRow.holds Try.pinned (OpenSpec.upto feedHoldsSpec)

end Rows
end Go.Proofs.Ytglmfnaofpbpfaa
