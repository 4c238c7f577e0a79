/-
  No cell of these rows narrows 'for every input' (looked for: loops, veiled, ifaces, maps, wideKeys, modest, calm, conditions, laid).
  DERIVED. THE GIVEN ROWS OF THIS SEAT. 5 by the template 'for every input the law returns true; each argument reads behind the call as it read before'; 0 by the template 'total and deterministic' (their statements: YtfbkjgedaadlmaaTotals.lean).
  GIVEN WITH THE SEED: the statements are not yours to turn. If you find one false, say at which input.
  Laid BY PROGRAM, IN A SANDBOX (cutbox-rows.mjs): the forced cells as the released guide's own fill.sh prints them over the translation 442d8f314894da78… (all of the seat's roots in one cut). By AI agents, Wed Nov 11 2026. No macro, syntax, notation, axiom, sorry.
-/
import Derived.Test.YtfbkjgedaadlmaaChecked
import GoSem.Claim
import GoSem.ClaimJoined
import GoSem.ClaimMapViews
import Derived.JoinedTies
import Derived.KernelRfl
namespace Go.Proofs.Ytfbkjgedaadlmaa
/- THE CELL 'sum', in the pinned program and in every row, IS THE sha256 OF THE DUMP (.gsa) THAT YtfbkjgedaadlmaaProg.lean LOADS. Nothing in Lean hashes anything: it is a label: what it is worth is what the hold of that sum in a sandbox is worth. -/
noncomputable def Try.pinned : Pinned := { name := "ytfbkjgedaadlmaa", sum := "442d8f314894da78e8243c698c97034b6199f68dd27617df43ae5f761cf456f4", checked := Try.checked }
namespace Rows
def none {H : Type} : Left H := { results := [], args := [] }

/-- 'lapidarylaw16.RingPoints': WHATEVER THE INPUT: true; the input reads as it did. -/
def ringPointsSpec : ChangeSpec := { name := "ringPoints", fn := fun _ => fun
  | [d1, d2, d3] => { results := [.lit (.bool true)], args := [d1, d2, d3] }
  | _ => none }
def ringPointsRow : OpenClaim := { program := "ytfbkjgedaadlmaa", sum := "442d8f314894da78e8243c698c97034b6199f68dd27617df43ae5f761cf456f4", func := "lapidary/lapidarylaw16.RingPoints", spec := "ringPoints", unfollowed := true, recurses := true, apart := false }
def RingPointsSaid : Prop := ringPointsRow.holds Try.pinned (OpenSpec.ofChange ringPointsSpec)

/-- ITS FALSE NEIGHBOUR: 'it returns false'. Refute it at one input. -/
def ringPointsWrong : ChangeSpec := { name := "ringPoints", fn := fun _ => fun
  | [d1, d2, d3] => { results := [.lit (.bool false)], args := [d1, d2, d3] }
  | _ => none }
def RingPointsWrongFalsely : Prop := ringPointsRow.holds Try.pinned (OpenSpec.ofChange ringPointsWrong)

/-- 'lapidarylaw16.RingFlips': WHATEVER THE INPUT: true; the input reads as it did. -/
def ringFlipsSpec : ChangeSpec := { name := "ringFlips", fn := fun _ => fun
  | [d1, d2] => { results := [.lit (.bool true)], args := [d1, d2] }
  | _ => none }
def ringFlipsRow : OpenClaim := { program := "ytfbkjgedaadlmaa", sum := "442d8f314894da78e8243c698c97034b6199f68dd27617df43ae5f761cf456f4", func := "lapidary/lapidarylaw16.RingFlips", spec := "ringFlips", unfollowed := true, recurses := true, apart := false }
def RingFlipsSaid : Prop := ringFlipsRow.holds Try.pinned (OpenSpec.ofChange ringFlipsSpec)

/-- ITS FALSE NEIGHBOUR: 'it returns false'. Refute it at one input. -/
def ringFlipsWrong : ChangeSpec := { name := "ringFlips", fn := fun _ => fun
  | [d1, d2] => { results := [.lit (.bool false)], args := [d1, d2] }
  | _ => none }
def RingFlipsWrongFalsely : Prop := ringFlipsRow.holds Try.pinned (OpenSpec.ofChange ringFlipsWrong)

/-- 'lapidarylaw16.RingArcs': WHATEVER THE INPUT: true; the input reads as it did. -/
def ringArcsSpec : ChangeSpec := { name := "ringArcs", fn := fun _ => fun
  | [d1, d2] => { results := [.lit (.bool true)], args := [d1, d2] }
  | _ => none }
def ringArcsRow : OpenClaim := { program := "ytfbkjgedaadlmaa", sum := "442d8f314894da78e8243c698c97034b6199f68dd27617df43ae5f761cf456f4", func := "lapidary/lapidarylaw16.RingArcs", spec := "ringArcs", unfollowed := true, recurses := true, apart := false }
def RingArcsSaid : Prop := ringArcsRow.holds Try.pinned (OpenSpec.ofChange ringArcsSpec)

/-- ITS FALSE NEIGHBOUR: 'it returns false'. Refute it at one input. -/
def ringArcsWrong : ChangeSpec := { name := "ringArcs", fn := fun _ => fun
  | [d1, d2] => { results := [.lit (.bool false)], args := [d1, d2] }
  | _ => none }
def RingArcsWrongFalsely : Prop := ringArcsRow.holds Try.pinned (OpenSpec.ofChange ringArcsWrong)

/-- 'lapidarylaw16.RingTurns': WHATEVER THE INPUT: true; the input reads as it did. -/
def ringTurnsSpec : ChangeSpec := { name := "ringTurns", fn := fun _ => fun
  | [d1, d2, d3] => { results := [.lit (.bool true)], args := [d1, d2, d3] }
  | _ => none }
def ringTurnsRow : OpenClaim := { program := "ytfbkjgedaadlmaa", sum := "442d8f314894da78e8243c698c97034b6199f68dd27617df43ae5f761cf456f4", func := "lapidary/lapidarylaw16.RingTurns", spec := "ringTurns", unfollowed := true, recurses := true, apart := false }
def RingTurnsSaid : Prop := ringTurnsRow.holds Try.pinned (OpenSpec.ofChange ringTurnsSpec)

/-- ITS FALSE NEIGHBOUR: 'it returns false'. Refute it at one input. -/
def ringTurnsWrong : ChangeSpec := { name := "ringTurns", fn := fun _ => fun
  | [d1, d2, d3] => { results := [.lit (.bool false)], args := [d1, d2, d3] }
  | _ => none }
def RingTurnsWrongFalsely : Prop := ringTurnsRow.holds Try.pinned (OpenSpec.ofChange ringTurnsWrong)

/-- 'lapidarylaw16.RingSame': WHATEVER THE INPUT: true; the input reads as it did. -/
def ringSameSpec : ChangeSpec := { name := "ringSame", fn := fun _ => fun
  | [d1, d2] => { results := [.lit (.bool true)], args := [d1, d2] }
  | _ => none }
def ringSameRow : OpenClaim := { program := "ytfbkjgedaadlmaa", sum := "442d8f314894da78e8243c698c97034b6199f68dd27617df43ae5f761cf456f4", func := "lapidary/lapidarylaw16.RingSame", spec := "ringSame", unfollowed := true, recurses := true, apart := false }
def RingSameSaid : Prop := ringSameRow.holds Try.pinned (OpenSpec.ofChange ringSameSpec)

/-- ITS FALSE NEIGHBOUR: 'it returns false'. Refute it at one input. -/
def ringSameWrong : ChangeSpec := { name := "ringSame", fn := fun _ => fun
  | [d1, d2] => { results := [.lit (.bool false)], args := [d1, d2] }
  | _ => none }
def RingSameWrongFalsely : Prop := ringSameRow.holds Try.pinned (OpenSpec.ofChange ringSameWrong)

/- THE SECOND FORM. 'bulk': how many values and letters a reading holds, each counted each time it is reached (what is shared counts as often as it is met; a slice's spare places count too). A statement '..UptoSaid' is the law's where the arguments, and the package variables that the reading takes, are together of bulk at most 1048576: NARROWER than '..Said'. Prove '..Said' where nothing that the law and all that it calls make is longer than what came in: it says more and counts as full. Else prove '..UptoSaid'. A law counts once. -/
mutual
def uptoBulk {H : Type} : DataW H → Nat
  | .lit (.string bytes) => bytes.length + 1
  | .lit _ => 1
  | .nil => 1
  | .ptr d => uptoBulk d + 1
  | .slice elems spare => uptoBulkAll elems + uptoBulkAll spare + 1
  | .agg parts => uptoBulkAll parts + 1
  | .iface _ d => uptoBulk d + 1
  | .map entries => uptoBulkEntries entries + 1
  | .held _ => 1
def uptoBulkAll {H : Type} : List (DataW H) → Nat
  | [] => 0
  | d :: r => uptoBulk d + uptoBulkAll r
def uptoBulkEntries {H : Type} : List (Lit × DataW H) → Nat
  | [] => 0
  | x :: r => uptoBulkEntry x + uptoBulkEntries r
def uptoBulkEntry {H : Type} : Lit × DataW H → Nat
  | (.string bytes, d) => bytes.length + uptoBulk d + 1
  | (_, d) => uptoBulk d + 1
 end
def uptoSmall : (H : Type) → List (DataW H) → Bool := fun _ ds => decide (uptoBulkAll ds ≤ 1048576)
def OpenSpec.upto (s : _root_.Go.ChangeSpec) : _root_.Go.OpenSpec := { _root_.Go.OpenSpec.ofChange s with cond := some uptoSmall }

/-- 'lapidarylaw16.RingPoints', WHERE WHAT IT READS IS OF BULK AT MOST 1048576: true; the input reads as it did. -/
def ringPointsUptoRow : OpenClaim := { program := "ytfbkjgedaadlmaa", sum := "442d8f314894da78e8243c698c97034b6199f68dd27617df43ae5f761cf456f4", func := "lapidary/lapidarylaw16.RingPoints", spec := "ringPoints", unfollowed := true, recurses := true, apart := false, narrowed := true }
def RingPointsUptoSaid : Prop := ringPointsUptoRow.holds Try.pinned (OpenSpec.upto ringPointsSpec)

/-- 'lapidarylaw16.RingFlips', WHERE WHAT IT READS IS OF BULK AT MOST 1048576: true; the input reads as it did. -/
def ringFlipsUptoRow : OpenClaim := { program := "ytfbkjgedaadlmaa", sum := "442d8f314894da78e8243c698c97034b6199f68dd27617df43ae5f761cf456f4", func := "lapidary/lapidarylaw16.RingFlips", spec := "ringFlips", unfollowed := true, recurses := true, apart := false, narrowed := true }
def RingFlipsUptoSaid : Prop := ringFlipsUptoRow.holds Try.pinned (OpenSpec.upto ringFlipsSpec)

/-- 'lapidarylaw16.RingArcs', WHERE WHAT IT READS IS OF BULK AT MOST 1048576: true; the input reads as it did. -/
def ringArcsUptoRow : OpenClaim := { program := "ytfbkjgedaadlmaa", sum := "442d8f314894da78e8243c698c97034b6199f68dd27617df43ae5f761cf456f4", func := "lapidary/lapidarylaw16.RingArcs", spec := "ringArcs", unfollowed := true, recurses := true, apart := false, narrowed := true }
def RingArcsUptoSaid : Prop := ringArcsUptoRow.holds Try.pinned (OpenSpec.upto ringArcsSpec)

/-- 'lapidarylaw16.RingTurns', WHERE WHAT IT READS IS OF BULK AT MOST 1048576: true; the input reads as it did. -/
def ringTurnsUptoRow : OpenClaim := { program := "ytfbkjgedaadlmaa", sum := "442d8f314894da78e8243c698c97034b6199f68dd27617df43ae5f761cf456f4", func := "lapidary/lapidarylaw16.RingTurns", spec := "ringTurns", unfollowed := true, recurses := true, apart := false, narrowed := true }
def RingTurnsUptoSaid : Prop := ringTurnsUptoRow.holds Try.pinned (OpenSpec.upto ringTurnsSpec)

/-- 'lapidarylaw16.RingSame', WHERE WHAT IT READS IS OF BULK AT MOST 1048576: true; the input reads as it did. -/
def ringSameUptoRow : OpenClaim := { program := "ytfbkjgedaadlmaa", sum := "442d8f314894da78e8243c698c97034b6199f68dd27617df43ae5f761cf456f4", func := "lapidary/lapidarylaw16.RingSame", spec := "ringSame", unfollowed := true, recurses := true, apart := false, narrowed := true }
def RingSameUptoSaid : Prop := ringSameUptoRow.holds Try.pinned (OpenSpec.upto ringSameSpec)

end Rows
end Go.Proofs.Ytfbkjgedaadlmaa
