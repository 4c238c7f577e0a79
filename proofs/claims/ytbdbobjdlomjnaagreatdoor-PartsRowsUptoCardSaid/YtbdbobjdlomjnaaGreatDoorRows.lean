/-
  NARROWER THAN 'FOR EVERY INPUT', by the rows' own cells (each row's printed sentence says how): PartsMeshes: laid · PartsRows: laid · PartsWraps: laid · PartsReads: laid · PartsMaps: laid · PartsBack: laid · PartsShort: laid.
  DERIVED. THE GIVEN ROWS OF THIS SEAT. 7 by the template 'for every input the law returns true; each argument reads behind the call as it read before'; 0 by the template 'total and deterministic' (their statements: YtbdbobjdlomjnaaGreatDoorTotals.lean).
  GIVEN WITH THE SEED: the statements are not yours to turn. If you find one false, say at which input.
  Laid BY PROGRAM, IN A SANDBOX (cutbox-rows.mjs): the forced cells as the released guide's own fill.sh prints them over the translation 13ef6b194e720f51… (all of the seat's roots in one cut). By AI agents, Wed Nov 11 2026. No macro, syntax, notation, axiom, sorry.
-/
import Derived.Test.YtbdbobjdlomjnaaGreatDoorChecked
import GoSem.Claim
import GoSem.ClaimJoined
import GoSem.ClaimMapViews
import Derived.JoinedTies
import Derived.KernelRfl
namespace Go.Proofs.YtbdbobjdlomjnaaGreatDoor
/- THE CELL 'sum', in the pinned program and in every row, IS THE sha256 OF THE DUMP (.gsa) THAT YtbdbobjdlomjnaaGreatDoorProg.lean LOADS. Nothing in Lean hashes anything: it is a label: what it is worth is what the hold of that sum in a sandbox is worth. -/
noncomputable def Tryz.pinned : Pinned := { name := "ytbdbobjdlomjnaagreatdoor", sum := "13ef6b194e720f510c80663c811bb18e105db1b165cb57ab304209fd1a1646ab", checked := Tryz.checked }
namespace Rows
def none {H : Type} : Left H := { results := [], args := [] }

/- WHAT THE LISTED PACKAGE-LEVEL VARIABLES READ AS WHEN THE CALL BEGINS. Each datum BY PROGRAM (the guide's laid-datum.mjs) off the statement by which the dump's own 'gosem.cut.vars' lays the variable. In a bare row this is a premise. The card (YtbdbobjdlomjnaaGreatDoorCards.lean) ties it to the program's text. -/
def laid_lapidary_mesh_next {H : Type} : DataW H := .agg [.lit (.int .i64 1), .lit (.int .i64 2), .lit (.int .i64 0)]

/-- 'lapidarylaw18.PartsMeshes': WHATEVER THE INPUT: true; the input reads as it did. -/
def partsMeshesSpec : ChangeSpec := { name := "partsMeshes", fn := fun _ => fun
  | [d1, d2] => { results := [.lit (.bool true)], args := [d1, d2] }
  | _ => none }
def partsMeshesRow : OpenClaim := { program := "ytbdbobjdlomjnaagreatdoor", sum := "13ef6b194e720f510c80663c811bb18e105db1b165cb57ab304209fd1a1646ab", func := "lapidary/lapidarylaw18.PartsMeshes", spec := "partsMeshes", unfollowed := true, recurses := true, named := ["lapidary/mesh.next"], plainKeys := false, apart := false, laid := [("lapidary/mesh.next", laid_lapidary_mesh_next)] }
def PartsMeshesSaid : Prop := partsMeshesRow.holds Tryz.pinned (OpenSpec.ofChange partsMeshesSpec)

/-- ITS FALSE NEIGHBOUR: 'it returns false'. Refute it at one input. -/
def partsMeshesWrong : ChangeSpec := { name := "partsMeshes", fn := fun _ => fun
  | [d1, d2] => { results := [.lit (.bool false)], args := [d1, d2] }
  | _ => none }
def PartsMeshesWrongFalsely : Prop := partsMeshesRow.holds Tryz.pinned (OpenSpec.ofChange partsMeshesWrong)

/-- 'lapidarylaw18.PartsRows': WHATEVER THE INPUT: true; the input reads as it did. -/
def partsRowsSpec : ChangeSpec := { name := "partsRows", fn := fun _ => fun
  | [d1, d2, d3] => { results := [.lit (.bool true)], args := [d1, d2, d3] }
  | _ => none }
def partsRowsRow : OpenClaim := { program := "ytbdbobjdlomjnaagreatdoor", sum := "13ef6b194e720f510c80663c811bb18e105db1b165cb57ab304209fd1a1646ab", func := "lapidary/lapidarylaw18.PartsRows", spec := "partsRows", unfollowed := true, recurses := true, named := ["lapidary/mesh.next"], plainKeys := false, apart := false, laid := [("lapidary/mesh.next", laid_lapidary_mesh_next)] }
def PartsRowsSaid : Prop := partsRowsRow.holds Tryz.pinned (OpenSpec.ofChange partsRowsSpec)

/-- ITS FALSE NEIGHBOUR: 'it returns false'. Refute it at one input. -/
def partsRowsWrong : ChangeSpec := { name := "partsRows", fn := fun _ => fun
  | [d1, d2, d3] => { results := [.lit (.bool false)], args := [d1, d2, d3] }
  | _ => none }
def PartsRowsWrongFalsely : Prop := partsRowsRow.holds Tryz.pinned (OpenSpec.ofChange partsRowsWrong)

/-- 'lapidarylaw18.PartsWraps': WHATEVER THE INPUT: true; the input reads as it did. -/
def partsWrapsSpec : ChangeSpec := { name := "partsWraps", fn := fun _ => fun
  | [d1, d2, d3] => { results := [.lit (.bool true)], args := [d1, d2, d3] }
  | _ => none }
def partsWrapsRow : OpenClaim := { program := "ytbdbobjdlomjnaagreatdoor", sum := "13ef6b194e720f510c80663c811bb18e105db1b165cb57ab304209fd1a1646ab", func := "lapidary/lapidarylaw18.PartsWraps", spec := "partsWraps", unfollowed := true, recurses := true, named := ["lapidary/mesh.next"], plainKeys := false, apart := false, laid := [("lapidary/mesh.next", laid_lapidary_mesh_next)] }
def PartsWrapsSaid : Prop := partsWrapsRow.holds Tryz.pinned (OpenSpec.ofChange partsWrapsSpec)

/-- ITS FALSE NEIGHBOUR: 'it returns false'. Refute it at one input. -/
def partsWrapsWrong : ChangeSpec := { name := "partsWraps", fn := fun _ => fun
  | [d1, d2, d3] => { results := [.lit (.bool false)], args := [d1, d2, d3] }
  | _ => none }
def PartsWrapsWrongFalsely : Prop := partsWrapsRow.holds Tryz.pinned (OpenSpec.ofChange partsWrapsWrong)

/-- 'lapidarylaw18.PartsReads': WHATEVER THE INPUT: true; the input reads as it did. -/
def partsReadsSpec : ChangeSpec := { name := "partsReads", fn := fun _ => fun
  | [d] => { results := [.lit (.bool true)], args := [d] }
  | _ => none }
def partsReadsRow : OpenClaim := { program := "ytbdbobjdlomjnaagreatdoor", sum := "13ef6b194e720f510c80663c811bb18e105db1b165cb57ab304209fd1a1646ab", func := "lapidary/lapidarylaw18.PartsReads", spec := "partsReads", inPlace := ["math/bits.Add64"], unfollowed := true, recurses := true, named := ["lapidary/mesh.next"], plainKeys := false, apart := false, laid := [("lapidary/mesh.next", laid_lapidary_mesh_next)] }
def PartsReadsSaid : Prop := partsReadsRow.holds Tryz.pinned (OpenSpec.ofChange partsReadsSpec)

/-- ITS FALSE NEIGHBOUR: 'it returns false'. Refute it at one input. -/
def partsReadsWrong : ChangeSpec := { name := "partsReads", fn := fun _ => fun
  | [d] => { results := [.lit (.bool false)], args := [d] }
  | _ => none }
def PartsReadsWrongFalsely : Prop := partsReadsRow.holds Tryz.pinned (OpenSpec.ofChange partsReadsWrong)

/-- 'lapidarylaw18.PartsMaps': WHATEVER THE INPUT: true; the input reads as it did. -/
def partsMapsSpec : ChangeSpec := { name := "partsMaps", fn := fun _ => fun
  | [d1, d2] => { results := [.lit (.bool true)], args := [d1, d2] }
  | _ => none }
def partsMapsRow : OpenClaim := { program := "ytbdbobjdlomjnaagreatdoor", sum := "13ef6b194e720f510c80663c811bb18e105db1b165cb57ab304209fd1a1646ab", func := "lapidary/lapidarylaw18.PartsMaps", spec := "partsMaps", inPlace := ["math/bits.Add64"], unfollowed := true, recurses := true, named := ["lapidary/mesh.next"], plainKeys := false, apart := false, laid := [("lapidary/mesh.next", laid_lapidary_mesh_next)] }
def PartsMapsSaid : Prop := partsMapsRow.holds Tryz.pinned (OpenSpec.ofChange partsMapsSpec)

/-- ITS FALSE NEIGHBOUR: 'it returns false'. Refute it at one input. -/
def partsMapsWrong : ChangeSpec := { name := "partsMaps", fn := fun _ => fun
  | [d1, d2] => { results := [.lit (.bool false)], args := [d1, d2] }
  | _ => none }
def PartsMapsWrongFalsely : Prop := partsMapsRow.holds Tryz.pinned (OpenSpec.ofChange partsMapsWrong)

/-- 'lapidarylaw18.PartsBack': WHATEVER THE INPUT: true; the input reads as it did. -/
def partsBackSpec : ChangeSpec := { name := "partsBack", fn := fun _ => fun
  | [d1, d2, d3] => { results := [.lit (.bool true)], args := [d1, d2, d3] }
  | _ => none }
def partsBackRow : OpenClaim := { program := "ytbdbobjdlomjnaagreatdoor", sum := "13ef6b194e720f510c80663c811bb18e105db1b165cb57ab304209fd1a1646ab", func := "lapidary/lapidarylaw18.PartsBack", spec := "partsBack", inPlace := ["math/bits.Add64"], unfollowed := true, recurses := true, named := ["lapidary/mesh.next"], plainKeys := false, apart := false, laid := [("lapidary/mesh.next", laid_lapidary_mesh_next)] }
def PartsBackSaid : Prop := partsBackRow.holds Tryz.pinned (OpenSpec.ofChange partsBackSpec)

/-- ITS FALSE NEIGHBOUR: 'it returns false'. Refute it at one input. -/
def partsBackWrong : ChangeSpec := { name := "partsBack", fn := fun _ => fun
  | [d1, d2, d3] => { results := [.lit (.bool false)], args := [d1, d2, d3] }
  | _ => none }
def PartsBackWrongFalsely : Prop := partsBackRow.holds Tryz.pinned (OpenSpec.ofChange partsBackWrong)

/-- 'lapidarylaw18.PartsShort': WHATEVER THE INPUT: true; the input reads as it did. -/
def partsShortSpec : ChangeSpec := { name := "partsShort", fn := fun _ => fun
  | [d1, d2, d3, d4] => { results := [.lit (.bool true)], args := [d1, d2, d3, d4] }
  | _ => none }
def partsShortRow : OpenClaim := { program := "ytbdbobjdlomjnaagreatdoor", sum := "13ef6b194e720f510c80663c811bb18e105db1b165cb57ab304209fd1a1646ab", func := "lapidary/lapidarylaw18.PartsShort", spec := "partsShort", inPlace := ["math/bits.Add64"], unfollowed := true, recurses := true, named := ["lapidary/mesh.next"], plainKeys := false, apart := false, laid := [("lapidary/mesh.next", laid_lapidary_mesh_next)] }
def PartsShortSaid : Prop := partsShortRow.holds Tryz.pinned (OpenSpec.ofChange partsShortSpec)

/-- ITS FALSE NEIGHBOUR: 'it returns false'. Refute it at one input. -/
def partsShortWrong : ChangeSpec := { name := "partsShort", fn := fun _ => fun
  | [d1, d2, d3, d4] => { results := [.lit (.bool false)], args := [d1, d2, d3, d4] }
  | _ => none }
def PartsShortWrongFalsely : Prop := partsShortRow.holds Tryz.pinned (OpenSpec.ofChange partsShortWrong)

/- THE SECOND FORM. 'bulk': how many values and letters a reading holds, each counted each time it is reached (what is shared counts as often as it is met; a slice's spare places count too). A statement '..UptoSaid' is the law's where the arguments, and the package variables that the reading takes, are together of bulk at most 1048576: NARROWER than '..Said'. Prove '..Said' where nothing that the law and all that it calls make is longer than what came in: it says more and counts as full. Else prove '..UptoSaid'. A law counts once. -/
mutual
def uptoBulk {H : Type} : DataW H → Nat
  | .lit (.string bytes) => bytes.length + 1
  | .lit _ => 1
  | .nil => 1
  | .ptr d => uptoBulk d + 1
  | .slice elems spare => uptoBulkAll elems + uptoBulkAll spare + 1
  | .agg parts => uptoBulkAll parts + 1
  | .iface _ d => uptoBulk d + 1
  | .map entries => uptoBulkEntries entries + 1
  | .held _ => 1
def uptoBulkAll {H : Type} : List (DataW H) → Nat
  | [] => 0
  | d :: r => uptoBulk d + uptoBulkAll r
def uptoBulkEntries {H : Type} : List (Lit × DataW H) → Nat
  | [] => 0
  | x :: r => uptoBulkEntry x + uptoBulkEntries r
def uptoBulkEntry {H : Type} : Lit × DataW H → Nat
  | (.string bytes, d) => bytes.length + uptoBulk d + 1
  | (_, d) => uptoBulk d + 1
 end
def uptoSmall : (H : Type) → List (DataW H) → Bool := fun _ ds => decide (uptoBulkAll ds ≤ 1048576)
def OpenSpec.upto (s : _root_.Go.ChangeSpec) : _root_.Go.OpenSpec := { _root_.Go.OpenSpec.ofChange s with cond := some uptoSmall }

/-- 'lapidarylaw18.PartsMeshes', WHERE WHAT IT READS IS OF BULK AT MOST 1048576: true; the input reads as it did. -/
def partsMeshesUptoRow : OpenClaim := { program := "ytbdbobjdlomjnaagreatdoor", sum := "13ef6b194e720f510c80663c811bb18e105db1b165cb57ab304209fd1a1646ab", func := "lapidary/lapidarylaw18.PartsMeshes", spec := "partsMeshes", unfollowed := true, recurses := true, named := ["lapidary/mesh.next"], plainKeys := false, apart := false, laid := [("lapidary/mesh.next", laid_lapidary_mesh_next)], narrowed := true }
def PartsMeshesUptoSaid : Prop := partsMeshesUptoRow.holds Tryz.pinned (OpenSpec.upto partsMeshesSpec)

/-- 'lapidarylaw18.PartsRows', WHERE WHAT IT READS IS OF BULK AT MOST 1048576: true; the input reads as it did. -/
def partsRowsUptoRow : OpenClaim := { program := "ytbdbobjdlomjnaagreatdoor", sum := "13ef6b194e720f510c80663c811bb18e105db1b165cb57ab304209fd1a1646ab", func := "lapidary/lapidarylaw18.PartsRows", spec := "partsRows", unfollowed := true, recurses := true, named := ["lapidary/mesh.next"], plainKeys := false, apart := false, laid := [("lapidary/mesh.next", laid_lapidary_mesh_next)], narrowed := true }
def PartsRowsUptoSaid : Prop := partsRowsUptoRow.holds Tryz.pinned (OpenSpec.upto partsRowsSpec)

/-- 'lapidarylaw18.PartsWraps', WHERE WHAT IT READS IS OF BULK AT MOST 1048576: true; the input reads as it did. -/
def partsWrapsUptoRow : OpenClaim := { program := "ytbdbobjdlomjnaagreatdoor", sum := "13ef6b194e720f510c80663c811bb18e105db1b165cb57ab304209fd1a1646ab", func := "lapidary/lapidarylaw18.PartsWraps", spec := "partsWraps", unfollowed := true, recurses := true, named := ["lapidary/mesh.next"], plainKeys := false, apart := false, laid := [("lapidary/mesh.next", laid_lapidary_mesh_next)], narrowed := true }
def PartsWrapsUptoSaid : Prop := partsWrapsUptoRow.holds Tryz.pinned (OpenSpec.upto partsWrapsSpec)

/-- 'lapidarylaw18.PartsReads', WHERE WHAT IT READS IS OF BULK AT MOST 1048576: true; the input reads as it did. -/
def partsReadsUptoRow : OpenClaim := { program := "ytbdbobjdlomjnaagreatdoor", sum := "13ef6b194e720f510c80663c811bb18e105db1b165cb57ab304209fd1a1646ab", func := "lapidary/lapidarylaw18.PartsReads", spec := "partsReads", inPlace := ["math/bits.Add64"], unfollowed := true, recurses := true, named := ["lapidary/mesh.next"], plainKeys := false, apart := false, laid := [("lapidary/mesh.next", laid_lapidary_mesh_next)], narrowed := true }
def PartsReadsUptoSaid : Prop := partsReadsUptoRow.holds Tryz.pinned (OpenSpec.upto partsReadsSpec)

/-- 'lapidarylaw18.PartsMaps', WHERE WHAT IT READS IS OF BULK AT MOST 1048576: true; the input reads as it did. -/
def partsMapsUptoRow : OpenClaim := { program := "ytbdbobjdlomjnaagreatdoor", sum := "13ef6b194e720f510c80663c811bb18e105db1b165cb57ab304209fd1a1646ab", func := "lapidary/lapidarylaw18.PartsMaps", spec := "partsMaps", inPlace := ["math/bits.Add64"], unfollowed := true, recurses := true, named := ["lapidary/mesh.next"], plainKeys := false, apart := false, laid := [("lapidary/mesh.next", laid_lapidary_mesh_next)], narrowed := true }
def PartsMapsUptoSaid : Prop := partsMapsUptoRow.holds Tryz.pinned (OpenSpec.upto partsMapsSpec)

/-- 'lapidarylaw18.PartsBack', WHERE WHAT IT READS IS OF BULK AT MOST 1048576: true; the input reads as it did. -/
def partsBackUptoRow : OpenClaim := { program := "ytbdbobjdlomjnaagreatdoor", sum := "13ef6b194e720f510c80663c811bb18e105db1b165cb57ab304209fd1a1646ab", func := "lapidary/lapidarylaw18.PartsBack", spec := "partsBack", inPlace := ["math/bits.Add64"], unfollowed := true, recurses := true, named := ["lapidary/mesh.next"], plainKeys := false, apart := false, laid := [("lapidary/mesh.next", laid_lapidary_mesh_next)], narrowed := true }
def PartsBackUptoSaid : Prop := partsBackUptoRow.holds Tryz.pinned (OpenSpec.upto partsBackSpec)

/-- 'lapidarylaw18.PartsShort', WHERE WHAT IT READS IS OF BULK AT MOST 1048576: true; the input reads as it did. -/
def partsShortUptoRow : OpenClaim := { program := "ytbdbobjdlomjnaagreatdoor", sum := "13ef6b194e720f510c80663c811bb18e105db1b165cb57ab304209fd1a1646ab", func := "lapidary/lapidarylaw18.PartsShort", spec := "partsShort", inPlace := ["math/bits.Add64"], unfollowed := true, recurses := true, named := ["lapidary/mesh.next"], plainKeys := false, apart := false, laid := [("lapidary/mesh.next", laid_lapidary_mesh_next)], narrowed := true }
def PartsShortUptoSaid : Prop := partsShortUptoRow.holds Tryz.pinned (OpenSpec.upto partsShortSpec)

end Rows
end Go.Proofs.YtbdbobjdlomjnaaGreatDoor
