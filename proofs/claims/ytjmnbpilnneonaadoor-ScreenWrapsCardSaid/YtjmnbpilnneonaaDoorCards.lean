/-
  DERIVED. GIVEN WITH THE SEED: THE CARDS: each row of YtjmnbpilnneonaaDoorRows.lean that lists a variable, with what it lists TIED to the program's text (the seventh form; the later family's looks); each row that meets fmt, with fmt's text TOLD by the authors' own Lean function (tested against real Go, not proved from fmt's source: count such statements apart). THE CARD IS WHAT COUNTS. Prove the row's statement (the work); the ties are given (YtjmnbpilnneonaaDoorTie.lean); close each card by the builder's one call (the guide's Derived/Test/ToyasCard.lean, 'card_holds'). Laid BY PROGRAM, IN A SANDBOX (cutbox-door.mjs). By AI agents, Wed Nov 11 2026. No macro, syntax, notation, axiom, sorry.
-/
import Derived.Test.YtjmnbpilnneonaaDoorRows
import GoSem.ClaimSeven
namespace Go.Proofs.YtjmnbpilnneonaaDoor
namespace Rows

/-- THE TIED CARD OF 'repriselaw9.ScreenWraps'. -/
def screenWrapsCard : Claim7 := { stood := { row := screenWrapsRow, standIns := [], harness := (true, "95669131e0c1fa7e6bb00f7e60ad4f64487bc732c6e667b3fb4ed8393140dee6"), looks := false }, kinds := [], alts := [], laidByText := true, laidKinds := [.data, .pinned], laidTests := true, laidLooks := .later }
def ScreenWrapsCardSaid : Prop := Claim7.holds Tryd.pinned (.plain (OpenSpec.ofChange screenWrapsSpec)) screenWrapsCard

/-- THE TIED CARD OF 'repriselaw9.ScreenScrolls'. -/
def screenScrollsCard : Claim7 := { stood := { row := screenScrollsRow, standIns := [], harness := (true, "95669131e0c1fa7e6bb00f7e60ad4f64487bc732c6e667b3fb4ed8393140dee6"), looks := false }, kinds := [], alts := [], laidByText := true, laidKinds := [.data, .pinned], laidTests := true, laidLooks := .later }
def ScreenScrollsCardSaid : Prop := Claim7.holds Tryd.pinned (.plain (OpenSpec.ofChange screenScrollsSpec)) screenScrollsCard

/-- THE TIED CARD OF 'repriselaw9.ScreenMoves'. -/
def screenMovesCard : Claim7 := { stood := { row := screenMovesRow, standIns := [], harness := (true, "95669131e0c1fa7e6bb00f7e60ad4f64487bc732c6e667b3fb4ed8393140dee6"), looks := false }, kinds := [], alts := [], laidByText := true, laidKinds := [.data, .pinned], laidTests := true, laidLooks := .later }
def ScreenMovesCardSaid : Prop := Claim7.holds Tryd.pinned (.plain (OpenSpec.ofChange screenMovesSpec)) screenMovesCard

/-- THE TIED CARD OF 'repriselaw9.ScreenLooks'. -/
def screenLooksCard : Claim7 := { stood := { row := screenLooksRow, standIns := [], harness := (true, "95669131e0c1fa7e6bb00f7e60ad4f64487bc732c6e667b3fb4ed8393140dee6"), looks := false }, kinds := [], alts := [], laidByText := true, laidKinds := [.data, .pinned], laidTests := true, laidLooks := .later }
def ScreenLooksCardSaid : Prop := Claim7.holds Tryd.pinned (.plain (OpenSpec.ofChange screenLooksSpec)) screenLooksCard

/-- THE SECOND FORM's CARD OF 'repriselaw9.ScreenWraps'. -/
def screenWrapsUptoCard : Claim7 := { stood := { row := screenWrapsUptoRow, standIns := [], harness := (true, "95669131e0c1fa7e6bb00f7e60ad4f64487bc732c6e667b3fb4ed8393140dee6"), looks := false }, kinds := [], alts := [], laidByText := true, laidKinds := [.data, .pinned], laidTests := true, laidLooks := .later }
def ScreenWrapsUptoCardSaid : Prop := Claim7.holds Tryd.pinned (.plain (OpenSpec.upto screenWrapsSpec)) screenWrapsUptoCard

/-- THE SECOND FORM's CARD OF 'repriselaw9.ScreenScrolls'. -/
def screenScrollsUptoCard : Claim7 := { stood := { row := screenScrollsUptoRow, standIns := [], harness := (true, "95669131e0c1fa7e6bb00f7e60ad4f64487bc732c6e667b3fb4ed8393140dee6"), looks := false }, kinds := [], alts := [], laidByText := true, laidKinds := [.data, .pinned], laidTests := true, laidLooks := .later }
def ScreenScrollsUptoCardSaid : Prop := Claim7.holds Tryd.pinned (.plain (OpenSpec.upto screenScrollsSpec)) screenScrollsUptoCard

/-- THE SECOND FORM's CARD OF 'repriselaw9.ScreenMoves'. -/
def screenMovesUptoCard : Claim7 := { stood := { row := screenMovesUptoRow, standIns := [], harness := (true, "95669131e0c1fa7e6bb00f7e60ad4f64487bc732c6e667b3fb4ed8393140dee6"), looks := false }, kinds := [], alts := [], laidByText := true, laidKinds := [.data, .pinned], laidTests := true, laidLooks := .later }
def ScreenMovesUptoCardSaid : Prop := Claim7.holds Tryd.pinned (.plain (OpenSpec.upto screenMovesSpec)) screenMovesUptoCard

/-- THE SECOND FORM's CARD OF 'repriselaw9.ScreenLooks'. -/
def screenLooksUptoCard : Claim7 := { stood := { row := screenLooksUptoRow, standIns := [], harness := (true, "95669131e0c1fa7e6bb00f7e60ad4f64487bc732c6e667b3fb4ed8393140dee6"), looks := false }, kinds := [], alts := [], laidByText := true, laidKinds := [.data, .pinned], laidTests := true, laidLooks := .later }
def ScreenLooksUptoCardSaid : Prop := Claim7.holds Tryd.pinned (.plain (OpenSpec.upto screenLooksSpec)) screenLooksUptoCard
end Rows
end Go.Proofs.YtjmnbpilnneonaaDoor
