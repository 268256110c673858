/-
  DERIVED. GIVEN WITH THE SEED: THE CARDS: each row of YtdimdjcnkmkbjaaDoorRows.lean that lists a variable, with what it lists TIED to the program's text (the seventh form; the later family's looks); each row that meets fmt, with fmt's text TOLD by the authors' own Lean function (tested against real Go, not proved from fmt's source: count such statements apart). THE CARD IS WHAT COUNTS. Prove the row's statement (the work); the ties are given (YtdimdjcnkmkbjaaDoorTie.lean); close each card by the builder's one call (the guide's Derived/Test/ToyasCard.lean, 'card_holds'). Laid BY PROGRAM, IN A SANDBOX (cutbox-door.mjs). By AI agents, Wed Nov 11 2026. No macro, syntax, notation, axiom, sorry.
-/
import Derived.Test.YtdimdjcnkmkbjaaDoorRows
import GoSem.ClaimSeven
namespace Go.Proofs.YtdimdjcnkmkbjaaDoor
namespace Rows

/-- THE TIED CARD OF 'repriselaw18.KeysPlay'. -/
def keysPlayCard : Claim7 := { stood := { row := keysPlayRow, standIns := [], harness := (true, "a1bc8c5d6961f6cdb0c82d3c1cdb63de28e2f3ab11d65ac5832cd6aace56799e"), looks := false }, kinds := [], alts := [], laidByText := true, laidKinds := [.data, .pinned], laidTests := true, laidLooks := .later }
def KeysPlayCardSaid : Prop := Claim7.holds Tryd.pinned (.plain (OpenSpec.ofChange keysPlaySpec)) keysPlayCard

/-- THE TIED CARD OF 'repriselaw18.KeysPaste'. -/
def keysPasteCard : Claim7 := { stood := { row := keysPasteRow, standIns := [], harness := (true, "a1bc8c5d6961f6cdb0c82d3c1cdb63de28e2f3ab11d65ac5832cd6aace56799e"), looks := false }, kinds := [], alts := [], laidByText := true, laidKinds := [.data, .pinned], laidTests := true, laidLooks := .later }
def KeysPasteCardSaid : Prop := Claim7.holds Tryd.pinned (.plain (OpenSpec.ofChange keysPasteSpec)) keysPasteCard

/-- THE TIED CARD OF 'repriselaw18.KeysSeqs'. -/
def keysSeqsCard : Claim7 := { stood := { row := keysSeqsRow, standIns := [], harness := (true, "a1bc8c5d6961f6cdb0c82d3c1cdb63de28e2f3ab11d65ac5832cd6aace56799e"), looks := false }, kinds := [], alts := [], laidByText := true, laidKinds := [.data, .pinned], laidTests := true, laidLooks := .later }
def KeysSeqsCardSaid : Prop := Claim7.holds Tryd.pinned (.plain (OpenSpec.ofChange keysSeqsSpec)) keysSeqsCard

/-- THE TIED CARD OF 'repriselaw18.KeysRunes'. -/
def keysRunesCard : Claim7 := { stood := { row := keysRunesRow, standIns := [], harness := (true, "a1bc8c5d6961f6cdb0c82d3c1cdb63de28e2f3ab11d65ac5832cd6aace56799e"), looks := false }, kinds := [], alts := [], laidByText := true, laidKinds := [.data, .pinned], laidTests := true, laidLooks := .later }
def KeysRunesCardSaid : Prop := Claim7.holds Tryd.pinned (.plain (OpenSpec.ofChange keysRunesSpec)) keysRunesCard

/-- THE TIED CARD OF 'repriselaw18.KeysTimes'. -/
def keysTimesCard : Claim7 := { stood := { row := keysTimesRow, standIns := [], harness := (true, "a1bc8c5d6961f6cdb0c82d3c1cdb63de28e2f3ab11d65ac5832cd6aace56799e"), looks := false }, kinds := [], alts := [], laidByText := true, laidKinds := [.data, .pinned], laidTests := true, laidLooks := .later }
def KeysTimesCardSaid : Prop := Claim7.holds Tryd.pinned (.plain (OpenSpec.ofChange keysTimesSpec)) keysTimesCard

/-- THE SECOND FORM's CARD OF 'repriselaw18.KeysPlay'. -/
def keysPlayUptoCard : Claim7 := { stood := { row := keysPlayUptoRow, standIns := [], harness := (true, "a1bc8c5d6961f6cdb0c82d3c1cdb63de28e2f3ab11d65ac5832cd6aace56799e"), looks := false }, kinds := [], alts := [], laidByText := true, laidKinds := [.data, .pinned], laidTests := true, laidLooks := .later }
def KeysPlayUptoCardSaid : Prop := Claim7.holds Tryd.pinned (.plain (OpenSpec.upto keysPlaySpec)) keysPlayUptoCard

/-- THE SECOND FORM's CARD OF 'repriselaw18.KeysPaste'. -/
def keysPasteUptoCard : Claim7 := { stood := { row := keysPasteUptoRow, standIns := [], harness := (true, "a1bc8c5d6961f6cdb0c82d3c1cdb63de28e2f3ab11d65ac5832cd6aace56799e"), looks := false }, kinds := [], alts := [], laidByText := true, laidKinds := [.data, .pinned], laidTests := true, laidLooks := .later }
def KeysPasteUptoCardSaid : Prop := Claim7.holds Tryd.pinned (.plain (OpenSpec.upto keysPasteSpec)) keysPasteUptoCard

/-- THE SECOND FORM's CARD OF 'repriselaw18.KeysSeqs'. -/
def keysSeqsUptoCard : Claim7 := { stood := { row := keysSeqsUptoRow, standIns := [], harness := (true, "a1bc8c5d6961f6cdb0c82d3c1cdb63de28e2f3ab11d65ac5832cd6aace56799e"), looks := false }, kinds := [], alts := [], laidByText := true, laidKinds := [.data, .pinned], laidTests := true, laidLooks := .later }
def KeysSeqsUptoCardSaid : Prop := Claim7.holds Tryd.pinned (.plain (OpenSpec.upto keysSeqsSpec)) keysSeqsUptoCard

/-- THE SECOND FORM's CARD OF 'repriselaw18.KeysRunes'. -/
def keysRunesUptoCard : Claim7 := { stood := { row := keysRunesUptoRow, standIns := [], harness := (true, "a1bc8c5d6961f6cdb0c82d3c1cdb63de28e2f3ab11d65ac5832cd6aace56799e"), looks := false }, kinds := [], alts := [], laidByText := true, laidKinds := [.data, .pinned], laidTests := true, laidLooks := .later }
def KeysRunesUptoCardSaid : Prop := Claim7.holds Tryd.pinned (.plain (OpenSpec.upto keysRunesSpec)) keysRunesUptoCard

/-- THE SECOND FORM's CARD OF 'repriselaw18.KeysTimes'. -/
def keysTimesUptoCard : Claim7 := { stood := { row := keysTimesUptoRow, standIns := [], harness := (true, "a1bc8c5d6961f6cdb0c82d3c1cdb63de28e2f3ab11d65ac5832cd6aace56799e"), looks := false }, kinds := [], alts := [], laidByText := true, laidKinds := [.data, .pinned], laidTests := true, laidLooks := .later }
def KeysTimesUptoCardSaid : Prop := Claim7.holds Tryd.pinned (.plain (OpenSpec.upto keysTimesSpec)) keysTimesUptoCard
end Rows
end Go.Proofs.YtdimdjcnkmkbjaaDoor
