/-
  DERIVED. GIVEN WITH THE SEED: THE CARDS: each row of YteemmpghpdaloaaDoorRows.lean that lists a variable, with what it lists TIED to the program's text (the seventh form; the later family's looks); each row that meets fmt, with fmt's text TOLD by the authors' own Lean function (tested against real Go, not proved from fmt's source: count such statements apart). THE CARD IS WHAT COUNTS. Prove the row's statement (the work); the ties are given (YteemmpghpdaloaaDoorTie.lean); close each card by the builder's one call (the guide's Derived/Test/ToyasCard.lean, 'card_holds'). Laid BY PROGRAM, IN A SANDBOX (cutbox-door.mjs). By AI agents, Wed Nov 11 2026. No macro, syntax, notation, axiom, sorry.
-/
import Derived.Test.YteemmpghpdaloaaDoorRows
import GoSem.ClaimSeven
namespace Go.Proofs.YteemmpghpdaloaaDoor
namespace Rows

/-- THE TIED CARD OF 'repriselaw3.UtfTells'. -/
def utfTellsCard : Claim7 := { stood := { row := utfTellsRow, standIns := [], harness := (true, "3ad0a594bc7124713a56b71b0daaacc420f9bf2aeb4a88a0b39ea554db719634"), looks := false }, kinds := [], alts := [], laidByText := true, laidKinds := [.data, .pinned], laidTests := true, laidLooks := .later }
def UtfTellsCardSaid : Prop := Claim7.holds Tryd.pinned (.plain (OpenSpec.ofChange utfTellsSpec)) utfTellsCard

/-- THE TIED CARD OF 'repriselaw3.UtfEdges'. -/
def utfEdgesCard : Claim7 := { stood := { row := utfEdgesRow, standIns := [], harness := (true, "3ad0a594bc7124713a56b71b0daaacc420f9bf2aeb4a88a0b39ea554db719634"), looks := false }, kinds := [], alts := [], laidByText := true, laidKinds := [.data, .pinned], laidTests := true, laidLooks := .later }
def UtfEdgesCardSaid : Prop := Claim7.holds Tryd.pinned (.plain (OpenSpec.ofChange utfEdgesSpec)) utfEdgesCard

/-- THE TIED CARD OF 'repriselaw3.UtfBack'. -/
def utfBackCard : Claim7 := { stood := { row := utfBackRow, standIns := [], harness := (true, "3ad0a594bc7124713a56b71b0daaacc420f9bf2aeb4a88a0b39ea554db719634"), looks := false }, kinds := [], alts := [], laidByText := true, laidKinds := [.data, .pinned], laidTests := true, laidLooks := .later }
def UtfBackCardSaid : Prop := Claim7.holds Tryd.pinned (.plain (OpenSpec.ofChange utfBackSpec)) utfBackCard

/-- THE TIED CARD OF 'repriselaw3.UtfParts'. -/
def utfPartsCard : Claim7 := { stood := { row := utfPartsRow, standIns := [], harness := (true, "3ad0a594bc7124713a56b71b0daaacc420f9bf2aeb4a88a0b39ea554db719634"), looks := false }, kinds := [], alts := [], laidByText := true, laidKinds := [.data, .pinned], laidTests := true, laidLooks := .later }
def UtfPartsCardSaid : Prop := Claim7.holds Tryd.pinned (.plain (OpenSpec.ofChange utfPartsSpec)) utfPartsCard

/-- THE TIED CARD OF 'repriselaw7.VtTells'. -/
def vtTellsCard : Claim7 := { stood := { row := vtTellsRow, standIns := [], harness := (true, "3ad0a594bc7124713a56b71b0daaacc420f9bf2aeb4a88a0b39ea554db719634"), looks := false }, kinds := [], alts := [], laidByText := true, laidKinds := [.data, .pinned], laidTests := true, laidLooks := .later }
def VtTellsCardSaid : Prop := Claim7.holds Tryd.pinned (.plain (OpenSpec.ofChange vtTellsSpec)) vtTellsCard

/-- THE TIED CARD OF 'repriselaw7.VtParts'. -/
def vtPartsCard : Claim7 := { stood := { row := vtPartsRow, standIns := [], harness := (true, "3ad0a594bc7124713a56b71b0daaacc420f9bf2aeb4a88a0b39ea554db719634"), looks := false }, kinds := [], alts := [], laidByText := true, laidKinds := [.data, .pinned], laidTests := true, laidLooks := .later }
def VtPartsCardSaid : Prop := Claim7.holds Tryd.pinned (.plain (OpenSpec.ofChange vtPartsSpec)) vtPartsCard

/-- THE TIED CARD OF 'repriselaw7.VtEnds'. -/
def vtEndsCard : Claim7 := { stood := { row := vtEndsRow, standIns := [], harness := (true, "3ad0a594bc7124713a56b71b0daaacc420f9bf2aeb4a88a0b39ea554db719634"), looks := false }, kinds := [], alts := [], laidByText := true, laidKinds := [.data, .pinned], laidTests := true, laidLooks := .later }
def VtEndsCardSaid : Prop := Claim7.holds Tryd.pinned (.plain (OpenSpec.ofChange vtEndsSpec)) vtEndsCard

/-- THE TIED CARD OF 'repriselaw7.VtParams'. -/
def vtParamsCard : Claim7 := { stood := { row := vtParamsRow, standIns := [], harness := (true, "3ad0a594bc7124713a56b71b0daaacc420f9bf2aeb4a88a0b39ea554db719634"), looks := false }, kinds := [], alts := [], laidByText := true, laidKinds := [.data, .pinned], laidTests := true, laidLooks := .later }
def VtParamsCardSaid : Prop := Claim7.holds Tryd.pinned (.plain (OpenSpec.ofChange vtParamsSpec)) vtParamsCard

/-- THE TIED CARD OF 'repriselaw7.VtStrings'. -/
def vtStringsCard : Claim7 := { stood := { row := vtStringsRow, standIns := [], harness := (true, "3ad0a594bc7124713a56b71b0daaacc420f9bf2aeb4a88a0b39ea554db719634"), looks := false }, kinds := [], alts := [], laidByText := true, laidKinds := [.data, .pinned], laidTests := true, laidLooks := .later }
def VtStringsCardSaid : Prop := Claim7.holds Tryd.pinned (.plain (OpenSpec.ofChange vtStringsSpec)) vtStringsCard

/-- THE SECOND FORM's CARD OF 'repriselaw3.UtfTells'. -/
def utfTellsUptoCard : Claim7 := { stood := { row := utfTellsUptoRow, standIns := [], harness := (true, "3ad0a594bc7124713a56b71b0daaacc420f9bf2aeb4a88a0b39ea554db719634"), looks := false }, kinds := [], alts := [], laidByText := true, laidKinds := [.data, .pinned], laidTests := true, laidLooks := .later }
def UtfTellsUptoCardSaid : Prop := Claim7.holds Tryd.pinned (.plain (OpenSpec.upto utfTellsSpec)) utfTellsUptoCard

/-- THE SECOND FORM's CARD OF 'repriselaw3.UtfEdges'. -/
def utfEdgesUptoCard : Claim7 := { stood := { row := utfEdgesUptoRow, standIns := [], harness := (true, "3ad0a594bc7124713a56b71b0daaacc420f9bf2aeb4a88a0b39ea554db719634"), looks := false }, kinds := [], alts := [], laidByText := true, laidKinds := [.data, .pinned], laidTests := true, laidLooks := .later }
def UtfEdgesUptoCardSaid : Prop := Claim7.holds Tryd.pinned (.plain (OpenSpec.upto utfEdgesSpec)) utfEdgesUptoCard

/-- THE SECOND FORM's CARD OF 'repriselaw3.UtfBack'. -/
def utfBackUptoCard : Claim7 := { stood := { row := utfBackUptoRow, standIns := [], harness := (true, "3ad0a594bc7124713a56b71b0daaacc420f9bf2aeb4a88a0b39ea554db719634"), looks := false }, kinds := [], alts := [], laidByText := true, laidKinds := [.data, .pinned], laidTests := true, laidLooks := .later }
def UtfBackUptoCardSaid : Prop := Claim7.holds Tryd.pinned (.plain (OpenSpec.upto utfBackSpec)) utfBackUptoCard

/-- THE SECOND FORM's CARD OF 'repriselaw3.UtfParts'. -/
def utfPartsUptoCard : Claim7 := { stood := { row := utfPartsUptoRow, standIns := [], harness := (true, "3ad0a594bc7124713a56b71b0daaacc420f9bf2aeb4a88a0b39ea554db719634"), looks := false }, kinds := [], alts := [], laidByText := true, laidKinds := [.data, .pinned], laidTests := true, laidLooks := .later }
def UtfPartsUptoCardSaid : Prop := Claim7.holds Tryd.pinned (.plain (OpenSpec.upto utfPartsSpec)) utfPartsUptoCard

/-- THE SECOND FORM's CARD OF 'repriselaw7.VtTells'. -/
def vtTellsUptoCard : Claim7 := { stood := { row := vtTellsUptoRow, standIns := [], harness := (true, "3ad0a594bc7124713a56b71b0daaacc420f9bf2aeb4a88a0b39ea554db719634"), looks := false }, kinds := [], alts := [], laidByText := true, laidKinds := [.data, .pinned], laidTests := true, laidLooks := .later }
def VtTellsUptoCardSaid : Prop := Claim7.holds Tryd.pinned (.plain (OpenSpec.upto vtTellsSpec)) vtTellsUptoCard

/-- THE SECOND FORM's CARD OF 'repriselaw7.VtParts'. -/
def vtPartsUptoCard : Claim7 := { stood := { row := vtPartsUptoRow, standIns := [], harness := (true, "3ad0a594bc7124713a56b71b0daaacc420f9bf2aeb4a88a0b39ea554db719634"), looks := false }, kinds := [], alts := [], laidByText := true, laidKinds := [.data, .pinned], laidTests := true, laidLooks := .later }
def VtPartsUptoCardSaid : Prop := Claim7.holds Tryd.pinned (.plain (OpenSpec.upto vtPartsSpec)) vtPartsUptoCard

/-- THE SECOND FORM's CARD OF 'repriselaw7.VtEnds'. -/
def vtEndsUptoCard : Claim7 := { stood := { row := vtEndsUptoRow, standIns := [], harness := (true, "3ad0a594bc7124713a56b71b0daaacc420f9bf2aeb4a88a0b39ea554db719634"), looks := false }, kinds := [], alts := [], laidByText := true, laidKinds := [.data, .pinned], laidTests := true, laidLooks := .later }
def VtEndsUptoCardSaid : Prop := Claim7.holds Tryd.pinned (.plain (OpenSpec.upto vtEndsSpec)) vtEndsUptoCard

/-- THE SECOND FORM's CARD OF 'repriselaw7.VtParams'. -/
def vtParamsUptoCard : Claim7 := { stood := { row := vtParamsUptoRow, standIns := [], harness := (true, "3ad0a594bc7124713a56b71b0daaacc420f9bf2aeb4a88a0b39ea554db719634"), looks := false }, kinds := [], alts := [], laidByText := true, laidKinds := [.data, .pinned], laidTests := true, laidLooks := .later }
def VtParamsUptoCardSaid : Prop := Claim7.holds Tryd.pinned (.plain (OpenSpec.upto vtParamsSpec)) vtParamsUptoCard

/-- THE SECOND FORM's CARD OF 'repriselaw7.VtStrings'. -/
def vtStringsUptoCard : Claim7 := { stood := { row := vtStringsUptoRow, standIns := [], harness := (true, "3ad0a594bc7124713a56b71b0daaacc420f9bf2aeb4a88a0b39ea554db719634"), looks := false }, kinds := [], alts := [], laidByText := true, laidKinds := [.data, .pinned], laidTests := true, laidLooks := .later }
def VtStringsUptoCardSaid : Prop := Claim7.holds Tryd.pinned (.plain (OpenSpec.upto vtStringsSpec)) vtStringsUptoCard
end Rows
end Go.Proofs.YteemmpghpdaloaaDoor
