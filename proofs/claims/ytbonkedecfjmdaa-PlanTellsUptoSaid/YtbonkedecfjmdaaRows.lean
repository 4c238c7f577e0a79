/-
  No cell of these rows narrows 'for every input' (looked for: loops, veiled, ifaces, maps, wideKeys, modest, calm, conditions, laid).
  DERIVED. THE GIVEN ROWS OF THIS SEAT. 4 by the template 'for every input the law returns true; each argument reads behind the call as it read before'; 0 by the template 'total and deterministic' (their statements: YtbonkedecfjmdaaTotals.lean).
  GIVEN WITH THE SEED: the statements are not yours to turn. If you find one false, say at which input.
  Laid BY PROGRAM, IN A SANDBOX (cutbox-rows.mjs): the forced cells as the released guide's own fill.sh prints them over the translation 156272c77edaeec3… (all of the seat's roots in one cut). By AI agents, Wed Nov 11 2026. No macro, syntax, notation, axiom, sorry.
-/
import Derived.Test.YtbonkedecfjmdaaChecked
import GoSem.Claim
import GoSem.ClaimJoined
import GoSem.ClaimMapViews
import Derived.JoinedTies
import Derived.KernelRfl
namespace Go.Proofs.Ytbonkedecfjmdaa
/- THE CELL 'sum', in the pinned program and in every row, IS THE sha256 OF THE DUMP (.gsa) THAT YtbonkedecfjmdaaProg.lean LOADS. Nothing in Lean hashes anything: it is a label: what it is worth is what the hold of that sum in a sandbox is worth. -/
noncomputable def Try.pinned : Pinned := { name := "ytbonkedecfjmdaa", sum := "156272c77edaeec349ea5503f589f0eb49ec0228484cd7c66be3fc558acb71b7", checked := Try.checked }
namespace Rows
def none {H : Type} : Left H := { results := [], args := [] }

/-- 'lapidarylaw17.PlanWheres': WHATEVER THE INPUT: true; the input reads as it did. -/
def planWheresSpec : ChangeSpec := { name := "planWheres", fn := fun _ => fun
  | [d1, d2] => { results := [.lit (.bool true)], args := [d1, d2] }
  | _ => none }
def planWheresRow : OpenClaim := { program := "ytbonkedecfjmdaa", sum := "156272c77edaeec349ea5503f589f0eb49ec0228484cd7c66be3fc558acb71b7", func := "lapidary/lapidarylaw17.PlanWheres", spec := "planWheres", inPlace := ["math/bits.Add64"], unfollowed := true, recurses := true, apart := false }
def PlanWheresSaid : Prop := planWheresRow.holds Try.pinned (OpenSpec.ofChange planWheresSpec)

/-- ITS FALSE NEIGHBOUR: 'it returns false'. Refute it at one input. -/
def planWheresWrong : ChangeSpec := { name := "planWheres", fn := fun _ => fun
  | [d1, d2] => { results := [.lit (.bool false)], args := [d1, d2] }
  | _ => none }
def PlanWheresWrongFalsely : Prop := planWheresRow.holds Try.pinned (OpenSpec.ofChange planWheresWrong)

/-- 'lapidarylaw17.PlanParts': WHATEVER THE INPUT: true; the input reads as it did. -/
def planPartsSpec : ChangeSpec := { name := "planParts", fn := fun _ => fun
  | [d] => { results := [.lit (.bool true)], args := [d] }
  | _ => none }
def planPartsRow : OpenClaim := { program := "ytbonkedecfjmdaa", sum := "156272c77edaeec349ea5503f589f0eb49ec0228484cd7c66be3fc558acb71b7", func := "lapidary/lapidarylaw17.PlanParts", spec := "planParts", inPlace := ["math/bits.Add64"], unfollowed := true, recurses := true, apart := false }
def PlanPartsSaid : Prop := planPartsRow.holds Try.pinned (OpenSpec.ofChange planPartsSpec)

/-- ITS FALSE NEIGHBOUR: 'it returns false'. Refute it at one input. -/
def planPartsWrong : ChangeSpec := { name := "planParts", fn := fun _ => fun
  | [d] => { results := [.lit (.bool false)], args := [d] }
  | _ => none }
def PlanPartsWrongFalsely : Prop := planPartsRow.holds Try.pinned (OpenSpec.ofChange planPartsWrong)

/-- 'lapidarylaw17.PlanTells': WHATEVER THE INPUT: true; the input reads as it did. -/
def planTellsSpec : ChangeSpec := { name := "planTells", fn := fun _ => fun
  | [d1, d2] => { results := [.lit (.bool true)], args := [d1, d2] }
  | _ => none }
def planTellsRow : OpenClaim := { program := "ytbonkedecfjmdaa", sum := "156272c77edaeec349ea5503f589f0eb49ec0228484cd7c66be3fc558acb71b7", func := "lapidary/lapidarylaw17.PlanTells", spec := "planTells", inPlace := ["math/bits.Add64"], unfollowed := true, recurses := true, apart := false }
def PlanTellsSaid : Prop := planTellsRow.holds Try.pinned (OpenSpec.ofChange planTellsSpec)

/-- ITS FALSE NEIGHBOUR: 'it returns false'. Refute it at one input. -/
def planTellsWrong : ChangeSpec := { name := "planTells", fn := fun _ => fun
  | [d1, d2] => { results := [.lit (.bool false)], args := [d1, d2] }
  | _ => none }
def PlanTellsWrongFalsely : Prop := planTellsRow.holds Try.pinned (OpenSpec.ofChange planTellsWrong)

/-- 'lapidarylaw17.PlanAreas': WHATEVER THE INPUT: true; the input reads as it did. -/
def planAreasSpec : ChangeSpec := { name := "planAreas", fn := fun _ => fun
  | [d1, d2] => { results := [.lit (.bool true)], args := [d1, d2] }
  | _ => none }
def planAreasRow : OpenClaim := { program := "ytbonkedecfjmdaa", sum := "156272c77edaeec349ea5503f589f0eb49ec0228484cd7c66be3fc558acb71b7", func := "lapidary/lapidarylaw17.PlanAreas", spec := "planAreas", inPlace := ["math/bits.Add64"], unfollowed := true, recurses := true, apart := false }
def PlanAreasSaid : Prop := planAreasRow.holds Try.pinned (OpenSpec.ofChange planAreasSpec)

/-- ITS FALSE NEIGHBOUR: 'it returns false'. Refute it at one input. -/
def planAreasWrong : ChangeSpec := { name := "planAreas", fn := fun _ => fun
  | [d1, d2] => { results := [.lit (.bool false)], args := [d1, d2] }
  | _ => none }
def PlanAreasWrongFalsely : Prop := planAreasRow.holds Try.pinned (OpenSpec.ofChange planAreasWrong)

/- THE SECOND FORM. 'bulk': how many values and letters a reading holds, each counted each time it is reached (what is shared counts as often as it is met; a slice's spare places count too). A statement '..UptoSaid' is the law's where the arguments, and the package variables that the reading takes, are together of bulk at most 1048576: NARROWER than '..Said'. Prove '..Said' where nothing that the law and all that it calls make is longer than what came in: it says more and counts as full. Else prove '..UptoSaid'. A law counts once. -/
mutual
def uptoBulk {H : Type} : DataW H → Nat
  | .lit (.string bytes) => bytes.length + 1
  | .lit _ => 1
  | .nil => 1
  | .ptr d => uptoBulk d + 1
  | .slice elems spare => uptoBulkAll elems + uptoBulkAll spare + 1
  | .agg parts => uptoBulkAll parts + 1
  | .iface _ d => uptoBulk d + 1
  | .map entries => uptoBulkEntries entries + 1
  | .held _ => 1
def uptoBulkAll {H : Type} : List (DataW H) → Nat
  | [] => 0
  | d :: r => uptoBulk d + uptoBulkAll r
def uptoBulkEntries {H : Type} : List (Lit × DataW H) → Nat
  | [] => 0
  | x :: r => uptoBulkEntry x + uptoBulkEntries r
def uptoBulkEntry {H : Type} : Lit × DataW H → Nat
  | (.string bytes, d) => bytes.length + uptoBulk d + 1
  | (_, d) => uptoBulk d + 1
 end
def uptoSmall : (H : Type) → List (DataW H) → Bool := fun _ ds => decide (uptoBulkAll ds ≤ 1048576)
def OpenSpec.upto (s : _root_.Go.ChangeSpec) : _root_.Go.OpenSpec := { _root_.Go.OpenSpec.ofChange s with cond := some uptoSmall }

/-- 'lapidarylaw17.PlanWheres', WHERE WHAT IT READS IS OF BULK AT MOST 1048576: true; the input reads as it did. -/
def planWheresUptoRow : OpenClaim := { program := "ytbonkedecfjmdaa", sum := "156272c77edaeec349ea5503f589f0eb49ec0228484cd7c66be3fc558acb71b7", func := "lapidary/lapidarylaw17.PlanWheres", spec := "planWheres", inPlace := ["math/bits.Add64"], unfollowed := true, recurses := true, apart := false, narrowed := true }
def PlanWheresUptoSaid : Prop := planWheresUptoRow.holds Try.pinned (OpenSpec.upto planWheresSpec)

/-- 'lapidarylaw17.PlanParts', WHERE WHAT IT READS IS OF BULK AT MOST 1048576: true; the input reads as it did. -/
def planPartsUptoRow : OpenClaim := { program := "ytbonkedecfjmdaa", sum := "156272c77edaeec349ea5503f589f0eb49ec0228484cd7c66be3fc558acb71b7", func := "lapidary/lapidarylaw17.PlanParts", spec := "planParts", inPlace := ["math/bits.Add64"], unfollowed := true, recurses := true, apart := false, narrowed := true }
def PlanPartsUptoSaid : Prop := planPartsUptoRow.holds Try.pinned (OpenSpec.upto planPartsSpec)

/-- 'lapidarylaw17.PlanTells', WHERE WHAT IT READS IS OF BULK AT MOST 1048576: true; the input reads as it did. -/
def planTellsUptoRow : OpenClaim := { program := "ytbonkedecfjmdaa", sum := "156272c77edaeec349ea5503f589f0eb49ec0228484cd7c66be3fc558acb71b7", func := "lapidary/lapidarylaw17.PlanTells", spec := "planTells", inPlace := ["math/bits.Add64"], unfollowed := true, recurses := true, apart := false, narrowed := true }
def PlanTellsUptoSaid : Prop := planTellsUptoRow.holds Try.pinned (OpenSpec.upto planTellsSpec)

/-- 'lapidarylaw17.PlanAreas', WHERE WHAT IT READS IS OF BULK AT MOST 1048576: true; the input reads as it did. -/
def planAreasUptoRow : OpenClaim := { program := "ytbonkedecfjmdaa", sum := "156272c77edaeec349ea5503f589f0eb49ec0228484cd7c66be3fc558acb71b7", func := "lapidary/lapidarylaw17.PlanAreas", spec := "planAreas", inPlace := ["math/bits.Add64"], unfollowed := true, recurses := true, apart := false, narrowed := true }
def PlanAreasUptoSaid : Prop := planAreasUptoRow.holds Try.pinned (OpenSpec.upto planAreasSpec)

end Rows
end Go.Proofs.Ytbonkedecfjmdaa
