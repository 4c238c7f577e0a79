/-
  DERIVED. GIVEN WITH THE SEED: THE CARDS: each row of YtbdbobjdlomjnaaGreatDoorRows.lean that lists a variable, with what it lists TIED to the program's text (the seventh form; the later family's looks); each row that meets fmt, with fmt's text TOLD by the authors' own Lean function (tested against real Go, not proved from fmt's source: count such statements apart). THE CARD IS WHAT COUNTS. Prove the row's statement (the work); the ties are given (YtbdbobjdlomjnaaGreatDoorTie.lean); close each card by the builder's one call (the guide's Derived/Test/ToyasCard.lean, 'card_holds'). Laid BY PROGRAM, IN A SANDBOX (cutbox-door.mjs). By AI agents, Wed Nov 11 2026. No macro, syntax, notation, axiom, sorry.
-/
import Derived.Test.YtbdbobjdlomjnaaGreatDoorRows
import GoSem.ClaimSeven
namespace Go.Proofs.YtbdbobjdlomjnaaGreatDoor
namespace Rows

/-- THE TIED CARD OF 'lapidarylaw18.PartsMeshes'. -/
def partsMeshesCard : Claim7 := { stood := { row := partsMeshesRow, standIns := [], harness := (true, "a830cf106b6316cc684621fda6d8bad405ce7f085ce442bf3cd95b744e841898"), looks := false }, kinds := [], alts := [], laidByText := true, laidKinds := [.data], laidTests := true, laidLooks := .later }
def PartsMeshesCardSaid : Prop := Claim7.holds Tryz.pinned (.plain (OpenSpec.ofChange partsMeshesSpec)) partsMeshesCard

/-- THE TIED CARD OF 'lapidarylaw18.PartsRows'. -/
def partsRowsCard : Claim7 := { stood := { row := partsRowsRow, standIns := [], harness := (true, "a830cf106b6316cc684621fda6d8bad405ce7f085ce442bf3cd95b744e841898"), looks := false }, kinds := [], alts := [], laidByText := true, laidKinds := [.data], laidTests := true, laidLooks := .later }
def PartsRowsCardSaid : Prop := Claim7.holds Tryz.pinned (.plain (OpenSpec.ofChange partsRowsSpec)) partsRowsCard

/-- THE TIED CARD OF 'lapidarylaw18.PartsWraps'. -/
def partsWrapsCard : Claim7 := { stood := { row := partsWrapsRow, standIns := [], harness := (true, "a830cf106b6316cc684621fda6d8bad405ce7f085ce442bf3cd95b744e841898"), looks := false }, kinds := [], alts := [], laidByText := true, laidKinds := [.data], laidTests := true, laidLooks := .later }
def PartsWrapsCardSaid : Prop := Claim7.holds Tryz.pinned (.plain (OpenSpec.ofChange partsWrapsSpec)) partsWrapsCard

/-- THE TIED CARD OF 'lapidarylaw18.PartsReads'. -/
def partsReadsCard : Claim7 := { stood := { row := partsReadsRow, standIns := [], harness := (true, "a830cf106b6316cc684621fda6d8bad405ce7f085ce442bf3cd95b744e841898"), looks := false }, kinds := [], alts := [], laidByText := true, laidKinds := [.data], laidTests := true, laidLooks := .later }
def PartsReadsCardSaid : Prop := Claim7.holds Tryz.pinned (.plain (OpenSpec.ofChange partsReadsSpec)) partsReadsCard

/-- THE TIED CARD OF 'lapidarylaw18.PartsMaps'. -/
def partsMapsCard : Claim7 := { stood := { row := partsMapsRow, standIns := [], harness := (true, "a830cf106b6316cc684621fda6d8bad405ce7f085ce442bf3cd95b744e841898"), looks := false }, kinds := [], alts := [], laidByText := true, laidKinds := [.data], laidTests := true, laidLooks := .later }
def PartsMapsCardSaid : Prop := Claim7.holds Tryz.pinned (.plain (OpenSpec.ofChange partsMapsSpec)) partsMapsCard

/-- THE TIED CARD OF 'lapidarylaw18.PartsBack'. -/
def partsBackCard : Claim7 := { stood := { row := partsBackRow, standIns := [], harness := (true, "a830cf106b6316cc684621fda6d8bad405ce7f085ce442bf3cd95b744e841898"), looks := false }, kinds := [], alts := [], laidByText := true, laidKinds := [.data], laidTests := true, laidLooks := .later }
def PartsBackCardSaid : Prop := Claim7.holds Tryz.pinned (.plain (OpenSpec.ofChange partsBackSpec)) partsBackCard

/-- THE TIED CARD OF 'lapidarylaw18.PartsShort'. -/
def partsShortCard : Claim7 := { stood := { row := partsShortRow, standIns := [], harness := (true, "a830cf106b6316cc684621fda6d8bad405ce7f085ce442bf3cd95b744e841898"), looks := false }, kinds := [], alts := [], laidByText := true, laidKinds := [.data], laidTests := true, laidLooks := .later }
def PartsShortCardSaid : Prop := Claim7.holds Tryz.pinned (.plain (OpenSpec.ofChange partsShortSpec)) partsShortCard

/-- THE SECOND FORM's CARD OF 'lapidarylaw18.PartsMeshes'. -/
def partsMeshesUptoCard : Claim7 := { stood := { row := partsMeshesUptoRow, standIns := [], harness := (true, "a830cf106b6316cc684621fda6d8bad405ce7f085ce442bf3cd95b744e841898"), looks := false }, kinds := [], alts := [], laidByText := true, laidKinds := [.data], laidTests := true, laidLooks := .later }
def PartsMeshesUptoCardSaid : Prop := Claim7.holds Tryz.pinned (.plain (OpenSpec.upto partsMeshesSpec)) partsMeshesUptoCard

/-- THE SECOND FORM's CARD OF 'lapidarylaw18.PartsRows'. -/
def partsRowsUptoCard : Claim7 := { stood := { row := partsRowsUptoRow, standIns := [], harness := (true, "a830cf106b6316cc684621fda6d8bad405ce7f085ce442bf3cd95b744e841898"), looks := false }, kinds := [], alts := [], laidByText := true, laidKinds := [.data], laidTests := true, laidLooks := .later }
def PartsRowsUptoCardSaid : Prop := Claim7.holds Tryz.pinned (.plain (OpenSpec.upto partsRowsSpec)) partsRowsUptoCard

/-- THE SECOND FORM's CARD OF 'lapidarylaw18.PartsWraps'. -/
def partsWrapsUptoCard : Claim7 := { stood := { row := partsWrapsUptoRow, standIns := [], harness := (true, "a830cf106b6316cc684621fda6d8bad405ce7f085ce442bf3cd95b744e841898"), looks := false }, kinds := [], alts := [], laidByText := true, laidKinds := [.data], laidTests := true, laidLooks := .later }
def PartsWrapsUptoCardSaid : Prop := Claim7.holds Tryz.pinned (.plain (OpenSpec.upto partsWrapsSpec)) partsWrapsUptoCard

/-- THE SECOND FORM's CARD OF 'lapidarylaw18.PartsReads'. -/
def partsReadsUptoCard : Claim7 := { stood := { row := partsReadsUptoRow, standIns := [], harness := (true, "a830cf106b6316cc684621fda6d8bad405ce7f085ce442bf3cd95b744e841898"), looks := false }, kinds := [], alts := [], laidByText := true, laidKinds := [.data], laidTests := true, laidLooks := .later }
def PartsReadsUptoCardSaid : Prop := Claim7.holds Tryz.pinned (.plain (OpenSpec.upto partsReadsSpec)) partsReadsUptoCard

/-- THE SECOND FORM's CARD OF 'lapidarylaw18.PartsMaps'. -/
def partsMapsUptoCard : Claim7 := { stood := { row := partsMapsUptoRow, standIns := [], harness := (true, "a830cf106b6316cc684621fda6d8bad405ce7f085ce442bf3cd95b744e841898"), looks := false }, kinds := [], alts := [], laidByText := true, laidKinds := [.data], laidTests := true, laidLooks := .later }
def PartsMapsUptoCardSaid : Prop := Claim7.holds Tryz.pinned (.plain (OpenSpec.upto partsMapsSpec)) partsMapsUptoCard

/-- THE SECOND FORM's CARD OF 'lapidarylaw18.PartsBack'. -/
def partsBackUptoCard : Claim7 := { stood := { row := partsBackUptoRow, standIns := [], harness := (true, "a830cf106b6316cc684621fda6d8bad405ce7f085ce442bf3cd95b744e841898"), looks := false }, kinds := [], alts := [], laidByText := true, laidKinds := [.data], laidTests := true, laidLooks := .later }
def PartsBackUptoCardSaid : Prop := Claim7.holds Tryz.pinned (.plain (OpenSpec.upto partsBackSpec)) partsBackUptoCard

/-- THE SECOND FORM's CARD OF 'lapidarylaw18.PartsShort'. -/
def partsShortUptoCard : Claim7 := { stood := { row := partsShortUptoRow, standIns := [], harness := (true, "a830cf106b6316cc684621fda6d8bad405ce7f085ce442bf3cd95b744e841898"), looks := false }, kinds := [], alts := [], laidByText := true, laidKinds := [.data], laidTests := true, laidLooks := .later }
def PartsShortUptoCardSaid : Prop := Claim7.holds Tryz.pinned (.plain (OpenSpec.upto partsShortSpec)) partsShortUptoCard
end Rows
end Go.Proofs.YtbdbobjdlomjnaaGreatDoor
