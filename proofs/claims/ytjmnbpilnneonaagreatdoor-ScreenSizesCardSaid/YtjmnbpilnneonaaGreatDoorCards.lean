/-
  DERIVED. GIVEN WITH THE SEED: THE CARDS: each row of YtjmnbpilnneonaaGreatDoorRows.lean that lists a variable, with what it lists TIED to the program's text (the seventh form; the later family's looks); each row that meets fmt, with fmt's text TOLD by the authors' own Lean function (tested against real Go, not proved from fmt's source: count such statements apart). THE CARD IS WHAT COUNTS. Prove the row's statement (the work); the ties are given (YtjmnbpilnneonaaGreatDoorTie.lean); close each card by the builder's one call (the guide's Derived/Test/ToyasCard.lean, 'card_holds'). Laid BY PROGRAM, IN A SANDBOX (cutbox-door.mjs). By AI agents, Wed Nov 11 2026. No macro, syntax, notation, axiom, sorry.
-/
import Derived.Test.YtjmnbpilnneonaaGreatDoorRows
import GoSem.ClaimSeven
namespace Go.Proofs.YtjmnbpilnneonaaGreatDoor
namespace Rows

/-- THE TIED CARD OF 'repriselaw9.ScreenTells'. -/
def screenTellsCard : Claim7 := { stood := { row := screenTellsRow, standIns := [], harness := (true, "1068f4af0ff393c9d201014992796c131c7950604c974d4f433dedea49f41828"), looks := false }, kinds := [], alts := [], laidByText := true, laidKinds := [.data, .pinned], laidTests := true, laidLooks := .later }
def ScreenTellsCardSaid : Prop := Claim7.holds Tryz.pinned (.plain (OpenSpec.ofChange screenTellsSpec)) screenTellsCard

/-- THE TIED CARD OF 'repriselaw9.ScreenRights'. -/
def screenRightsCard : Claim7 := { stood := { row := screenRightsRow, standIns := [], harness := (true, "1068f4af0ff393c9d201014992796c131c7950604c974d4f433dedea49f41828"), looks := false }, kinds := [], alts := [], laidByText := true, laidKinds := [.data, .pinned], laidTests := true, laidLooks := .later }
def ScreenRightsCardSaid : Prop := Claim7.holds Tryz.pinned (.plain (OpenSpec.ofChange screenRightsSpec)) screenRightsCard

/-- THE TIED CARD OF 'repriselaw9.ScreenAlts'. -/
def screenAltsCard : Claim7 := { stood := { row := screenAltsRow, standIns := [], harness := (true, "1068f4af0ff393c9d201014992796c131c7950604c974d4f433dedea49f41828"), looks := false }, kinds := [], alts := [], laidByText := true, laidKinds := [.data, .pinned], laidTests := true, laidLooks := .later }
def ScreenAltsCardSaid : Prop := Claim7.holds Tryz.pinned (.plain (OpenSpec.ofChange screenAltsSpec)) screenAltsCard

/-- THE TIED CARD OF 'repriselaw9.ScreenParts'. -/
def screenPartsCard : Claim7 := { stood := { row := screenPartsRow, standIns := [], harness := (true, "1068f4af0ff393c9d201014992796c131c7950604c974d4f433dedea49f41828"), looks := false }, kinds := [], alts := [], laidByText := true, laidKinds := [.data, .pinned], laidTests := true, laidLooks := .later }
def ScreenPartsCardSaid : Prop := Claim7.holds Tryz.pinned (.plain (OpenSpec.ofChange screenPartsSpec)) screenPartsCard

/-- THE TIED CARD OF 'repriselaw9.ScreenSizes'. -/
def screenSizesCard : Claim7 := { stood := { row := screenSizesRow, standIns := [], harness := (true, "1068f4af0ff393c9d201014992796c131c7950604c974d4f433dedea49f41828"), looks := false }, kinds := [], alts := [], laidByText := true, laidKinds := [.data, .pinned], laidTests := true, laidLooks := .later }
def ScreenSizesCardSaid : Prop := Claim7.holds Tryz.pinned (.plain (OpenSpec.ofChange screenSizesSpec)) screenSizesCard

/-- THE SECOND FORM's CARD OF 'repriselaw9.ScreenTells'. -/
def screenTellsUptoCard : Claim7 := { stood := { row := screenTellsUptoRow, standIns := [], harness := (true, "1068f4af0ff393c9d201014992796c131c7950604c974d4f433dedea49f41828"), looks := false }, kinds := [], alts := [], laidByText := true, laidKinds := [.data, .pinned], laidTests := true, laidLooks := .later }
def ScreenTellsUptoCardSaid : Prop := Claim7.holds Tryz.pinned (.plain (OpenSpec.upto screenTellsSpec)) screenTellsUptoCard

/-- THE SECOND FORM's CARD OF 'repriselaw9.ScreenRights'. -/
def screenRightsUptoCard : Claim7 := { stood := { row := screenRightsUptoRow, standIns := [], harness := (true, "1068f4af0ff393c9d201014992796c131c7950604c974d4f433dedea49f41828"), looks := false }, kinds := [], alts := [], laidByText := true, laidKinds := [.data, .pinned], laidTests := true, laidLooks := .later }
def ScreenRightsUptoCardSaid : Prop := Claim7.holds Tryz.pinned (.plain (OpenSpec.upto screenRightsSpec)) screenRightsUptoCard

/-- THE SECOND FORM's CARD OF 'repriselaw9.ScreenAlts'. -/
def screenAltsUptoCard : Claim7 := { stood := { row := screenAltsUptoRow, standIns := [], harness := (true, "1068f4af0ff393c9d201014992796c131c7950604c974d4f433dedea49f41828"), looks := false }, kinds := [], alts := [], laidByText := true, laidKinds := [.data, .pinned], laidTests := true, laidLooks := .later }
def ScreenAltsUptoCardSaid : Prop := Claim7.holds Tryz.pinned (.plain (OpenSpec.upto screenAltsSpec)) screenAltsUptoCard

/-- THE SECOND FORM's CARD OF 'repriselaw9.ScreenParts'. -/
def screenPartsUptoCard : Claim7 := { stood := { row := screenPartsUptoRow, standIns := [], harness := (true, "1068f4af0ff393c9d201014992796c131c7950604c974d4f433dedea49f41828"), looks := false }, kinds := [], alts := [], laidByText := true, laidKinds := [.data, .pinned], laidTests := true, laidLooks := .later }
def ScreenPartsUptoCardSaid : Prop := Claim7.holds Tryz.pinned (.plain (OpenSpec.upto screenPartsSpec)) screenPartsUptoCard

/-- THE SECOND FORM's CARD OF 'repriselaw9.ScreenSizes'. -/
def screenSizesUptoCard : Claim7 := { stood := { row := screenSizesUptoRow, standIns := [], harness := (true, "1068f4af0ff393c9d201014992796c131c7950604c974d4f433dedea49f41828"), looks := false }, kinds := [], alts := [], laidByText := true, laidKinds := [.data, .pinned], laidTests := true, laidLooks := .later }
def ScreenSizesUptoCardSaid : Prop := Claim7.holds Tryz.pinned (.plain (OpenSpec.upto screenSizesSpec)) screenSizesUptoCard
end Rows
end Go.Proofs.YtjmnbpilnneonaaGreatDoor
