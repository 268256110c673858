/-
  NARROWER THAN 'FOR EVERY INPUT', by the rows' own cells (each row's printed sentence says how): ScreenTells: laid · ScreenRights: laid · ScreenAlts: laid · ScreenParts: laid · ScreenSizes: laid.
  DERIVED. THE GIVEN ROWS OF THIS SEAT. 5 by the template 'for every input the law returns true; each argument reads behind the call as it read before'; 0 by the template 'total and deterministic' (their statements: YtjmnbpilnneonaaGreatDoorTotals.lean).
  GIVEN WITH THE SEED: the statements are not yours to turn. If you find one false, say at which input.
  Laid BY PROGRAM, IN A SANDBOX (cutbox-rows.mjs): the forced cells as the released guide's own fill.sh prints them over the translation 41c5f4af7071aca1… (all of the seat's roots in one cut). By AI agents, Wed Nov 11 2026. No macro, syntax, notation, axiom, sorry.
-/
import Derived.Test.YtjmnbpilnneonaaGreatDoorChecked
import GoSem.PinnedTables
import GoSem.Claim
import GoSem.ClaimJoined
import GoSem.ClaimMapViews
import Derived.JoinedTies
import Derived.KernelRfl
namespace Go.Proofs.YtjmnbpilnneonaaGreatDoor
/- THE CELL 'sum', in the pinned program and in every row, IS THE sha256 OF THE DUMP (.gsa) THAT YtjmnbpilnneonaaGreatDoorProg.lean LOADS. Nothing in Lean hashes anything: it is a label: what it is worth is what the hold of that sum in a sandbox is worth. -/
noncomputable def Tryz.pinned : Pinned := { name := "ytjmnbpilnneonaagreatdoor", sum := "41c5f4af7071aca18bba2faae55f81c26e2426c27b2d0db7214987b07af9a610", checked := Tryz.checked }
namespace Rows
def none {H : Type} : Left H := { results := [], args := [] }

/- WHAT THE LISTED PACKAGE-LEVEL VARIABLES READ AS WHEN THE CALL BEGINS. Each datum BY PROGRAM (the guide's laid-datum.mjs) off the statement by which the dump's own 'gosem.cut.vars' lays the variable. In a bare row this is a premise. The card (YtjmnbpilnneonaaGreatDoorCards.lean) ties it to the program's text. -/
def laid_unicode_utf8_acceptRanges {H : Type} : DataW H := .agg [.agg [.lit (.int .u8 128), .lit (.int .u8 191)], .agg [.lit (.int .u8 160), .lit (.int .u8 191)], .agg [.lit (.int .u8 128), .lit (.int .u8 159)], .agg [.lit (.int .u8 144), .lit (.int .u8 191)], .agg [.lit (.int .u8 128), .lit (.int .u8 143)], .agg [.lit (.int .u8 0), .lit (.int .u8 0)], .agg [.lit (.int .u8 0), .lit (.int .u8 0)], .agg [.lit (.int .u8 0), .lit (.int .u8 0)], .agg [.lit (.int .u8 0), .lit (.int .u8 0)], .agg [.lit (.int .u8 0), .lit (.int .u8 0)], .agg [.lit (.int .u8 0), .lit (.int .u8 0)], .agg [.lit (.int .u8 0), .lit (.int .u8 0)], .agg [.lit (.int .u8 0), .lit (.int .u8 0)], .agg [.lit (.int .u8 0), .lit (.int .u8 0)], .agg [.lit (.int .u8 0), .lit (.int .u8 0)], .agg [.lit (.int .u8 0), .lit (.int .u8 0)]]
/-- One of Go's own tables, pinned by name: the form's constant. -/
def laid_unicode_utf8_first : DataW Unit := Go.Pinned.utf8First

/-- 'repriselaw9.ScreenTells': WHATEVER THE INPUT: true; the input reads as it did. -/
def screenTellsSpec : ChangeSpec := { name := "screenTells", fn := fun _ => fun
  | [d1, d2, d3, d4, d5] => { results := [.lit (.bool true)], args := [d1, d2, d3, d4, d5] }
  | _ => none }
def screenTellsRow : OpenClaim := { program := "ytjmnbpilnneonaagreatdoor", sum := "41c5f4af7071aca18bba2faae55f81c26e2426c27b2d0db7214987b07af9a610", func := "reprise/repriselaw9.ScreenTells", spec := "screenTells", unfollowed := true, recurses := true, named := ["unicode/utf8.first", "unicode/utf8.acceptRanges"], apart := false, laid := [("unicode/utf8.acceptRanges", laid_unicode_utf8_acceptRanges), ("unicode/utf8.first", laid_unicode_utf8_first)] }
def ScreenTellsSaid : Prop := screenTellsRow.holds Tryz.pinned (OpenSpec.ofChange screenTellsSpec)

/-- ITS FALSE NEIGHBOUR: 'it returns false'. Refute it at one input. -/
def screenTellsWrong : ChangeSpec := { name := "screenTells", fn := fun _ => fun
  | [d1, d2, d3, d4, d5] => { results := [.lit (.bool false)], args := [d1, d2, d3, d4, d5] }
  | _ => none }
def ScreenTellsWrongFalsely : Prop := screenTellsRow.holds Tryz.pinned (OpenSpec.ofChange screenTellsWrong)

/-- 'repriselaw9.ScreenRights': WHATEVER THE INPUT: true; the input reads as it did. -/
def screenRightsSpec : ChangeSpec := { name := "screenRights", fn := fun _ => fun
  | [d1, d2, d3, d4, d5, d6, d7] => { results := [.lit (.bool true)], args := [d1, d2, d3, d4, d5, d6, d7] }
  | _ => none }
def screenRightsRow : OpenClaim := { program := "ytjmnbpilnneonaagreatdoor", sum := "41c5f4af7071aca18bba2faae55f81c26e2426c27b2d0db7214987b07af9a610", func := "reprise/repriselaw9.ScreenRights", spec := "screenRights", unfollowed := true, recurses := true, named := ["unicode/utf8.first", "unicode/utf8.acceptRanges"], apart := false, laid := [("unicode/utf8.acceptRanges", laid_unicode_utf8_acceptRanges), ("unicode/utf8.first", laid_unicode_utf8_first)] }
def ScreenRightsSaid : Prop := screenRightsRow.holds Tryz.pinned (OpenSpec.ofChange screenRightsSpec)

/-- ITS FALSE NEIGHBOUR: 'it returns false'. Refute it at one input. -/
def screenRightsWrong : ChangeSpec := { name := "screenRights", fn := fun _ => fun
  | [d1, d2, d3, d4, d5, d6, d7] => { results := [.lit (.bool false)], args := [d1, d2, d3, d4, d5, d6, d7] }
  | _ => none }
def ScreenRightsWrongFalsely : Prop := screenRightsRow.holds Tryz.pinned (OpenSpec.ofChange screenRightsWrong)

/-- 'repriselaw9.ScreenAlts': WHATEVER THE INPUT: true; the input reads as it did. -/
def screenAltsSpec : ChangeSpec := { name := "screenAlts", fn := fun _ => fun
  | [d1, d2, d3, d4] => { results := [.lit (.bool true)], args := [d1, d2, d3, d4] }
  | _ => none }
def screenAltsRow : OpenClaim := { program := "ytjmnbpilnneonaagreatdoor", sum := "41c5f4af7071aca18bba2faae55f81c26e2426c27b2d0db7214987b07af9a610", func := "reprise/repriselaw9.ScreenAlts", spec := "screenAlts", unfollowed := true, recurses := true, named := ["unicode/utf8.first", "unicode/utf8.acceptRanges"], apart := false, laid := [("unicode/utf8.acceptRanges", laid_unicode_utf8_acceptRanges), ("unicode/utf8.first", laid_unicode_utf8_first)] }
def ScreenAltsSaid : Prop := screenAltsRow.holds Tryz.pinned (OpenSpec.ofChange screenAltsSpec)

/-- ITS FALSE NEIGHBOUR: 'it returns false'. Refute it at one input. -/
def screenAltsWrong : ChangeSpec := { name := "screenAlts", fn := fun _ => fun
  | [d1, d2, d3, d4] => { results := [.lit (.bool false)], args := [d1, d2, d3, d4] }
  | _ => none }
def ScreenAltsWrongFalsely : Prop := screenAltsRow.holds Tryz.pinned (OpenSpec.ofChange screenAltsWrong)

/-- 'repriselaw9.ScreenParts': WHATEVER THE INPUT: true; the input reads as it did. -/
def screenPartsSpec : ChangeSpec := { name := "screenParts", fn := fun _ => fun
  | [d1, d2, d3, d4, d5] => { results := [.lit (.bool true)], args := [d1, d2, d3, d4, d5] }
  | _ => none }
def screenPartsRow : OpenClaim := { program := "ytjmnbpilnneonaagreatdoor", sum := "41c5f4af7071aca18bba2faae55f81c26e2426c27b2d0db7214987b07af9a610", func := "reprise/repriselaw9.ScreenParts", spec := "screenParts", unfollowed := true, recurses := true, named := ["unicode/utf8.first", "unicode/utf8.acceptRanges"], apart := false, laid := [("unicode/utf8.acceptRanges", laid_unicode_utf8_acceptRanges), ("unicode/utf8.first", laid_unicode_utf8_first)] }
def ScreenPartsSaid : Prop := screenPartsRow.holds Tryz.pinned (OpenSpec.ofChange screenPartsSpec)

/-- ITS FALSE NEIGHBOUR: 'it returns false'. Refute it at one input. -/
def screenPartsWrong : ChangeSpec := { name := "screenParts", fn := fun _ => fun
  | [d1, d2, d3, d4, d5] => { results := [.lit (.bool false)], args := [d1, d2, d3, d4, d5] }
  | _ => none }
def ScreenPartsWrongFalsely : Prop := screenPartsRow.holds Tryz.pinned (OpenSpec.ofChange screenPartsWrong)

/-- 'repriselaw9.ScreenSizes': WHATEVER THE INPUT: true; the input reads as it did. -/
def screenSizesSpec : ChangeSpec := { name := "screenSizes", fn := fun _ => fun
  | [d1, d2, d3, d4, d5, d6, d7] => { results := [.lit (.bool true)], args := [d1, d2, d3, d4, d5, d6, d7] }
  | _ => none }
def screenSizesRow : OpenClaim := { program := "ytjmnbpilnneonaagreatdoor", sum := "41c5f4af7071aca18bba2faae55f81c26e2426c27b2d0db7214987b07af9a610", func := "reprise/repriselaw9.ScreenSizes", spec := "screenSizes", unfollowed := true, recurses := true, named := ["unicode/utf8.first", "unicode/utf8.acceptRanges"], apart := false, laid := [("unicode/utf8.acceptRanges", laid_unicode_utf8_acceptRanges), ("unicode/utf8.first", laid_unicode_utf8_first)] }
def ScreenSizesSaid : Prop := screenSizesRow.holds Tryz.pinned (OpenSpec.ofChange screenSizesSpec)

/-- ITS FALSE NEIGHBOUR: 'it returns false'. Refute it at one input. -/
def screenSizesWrong : ChangeSpec := { name := "screenSizes", fn := fun _ => fun
  | [d1, d2, d3, d4, d5, d6, d7] => { results := [.lit (.bool false)], args := [d1, d2, d3, d4, d5, d6, d7] }
  | _ => none }
def ScreenSizesWrongFalsely : Prop := screenSizesRow.holds Tryz.pinned (OpenSpec.ofChange screenSizesWrong)

/- THE SECOND FORM. 'bulk': how many values and letters a reading holds, each counted each time it is reached (what is shared counts as often as it is met; a slice's spare places count too). A statement '..UptoSaid' is the law's where the arguments, and the package variables that the reading takes, are together of bulk at most 1048576: NARROWER than '..Said'. Prove '..Said' where nothing that the law and all that it calls make is longer than what came in: it says more and counts as full. Else prove '..UptoSaid'. A law counts once. -/
mutual
def uptoBulk {H : Type} : DataW H → Nat
  | .lit (.string bytes) => bytes.length + 1
  | .lit _ => 1
  | .nil => 1
  | .ptr d => uptoBulk d + 1
  | .slice elems spare => uptoBulkAll elems + uptoBulkAll spare + 1
  | .agg parts => uptoBulkAll parts + 1
  | .iface _ d => uptoBulk d + 1
  | .map entries => uptoBulkEntries entries + 1
  | .held _ => 1
def uptoBulkAll {H : Type} : List (DataW H) → Nat
  | [] => 0
  | d :: r => uptoBulk d + uptoBulkAll r
def uptoBulkEntries {H : Type} : List (Lit × DataW H) → Nat
  | [] => 0
  | x :: r => uptoBulkEntry x + uptoBulkEntries r
def uptoBulkEntry {H : Type} : Lit × DataW H → Nat
  | (.string bytes, d) => bytes.length + uptoBulk d + 1
  | (_, d) => uptoBulk d + 1
 end
def uptoSmall : (H : Type) → List (DataW H) → Bool := fun _ ds => decide (uptoBulkAll ds ≤ 1048576)
def OpenSpec.upto (s : _root_.Go.ChangeSpec) : _root_.Go.OpenSpec := { _root_.Go.OpenSpec.ofChange s with cond := some uptoSmall }

/-- 'repriselaw9.ScreenTells', WHERE WHAT IT READS IS OF BULK AT MOST 1048576: true; the input reads as it did. -/
def screenTellsUptoRow : OpenClaim := { program := "ytjmnbpilnneonaagreatdoor", sum := "41c5f4af7071aca18bba2faae55f81c26e2426c27b2d0db7214987b07af9a610", func := "reprise/repriselaw9.ScreenTells", spec := "screenTells", unfollowed := true, recurses := true, named := ["unicode/utf8.first", "unicode/utf8.acceptRanges"], apart := false, laid := [("unicode/utf8.acceptRanges", laid_unicode_utf8_acceptRanges), ("unicode/utf8.first", laid_unicode_utf8_first)], narrowed := true }
def ScreenTellsUptoSaid : Prop := screenTellsUptoRow.holds Tryz.pinned (OpenSpec.upto screenTellsSpec)

/-- 'repriselaw9.ScreenRights', WHERE WHAT IT READS IS OF BULK AT MOST 1048576: true; the input reads as it did. -/
def screenRightsUptoRow : OpenClaim := { program := "ytjmnbpilnneonaagreatdoor", sum := "41c5f4af7071aca18bba2faae55f81c26e2426c27b2d0db7214987b07af9a610", func := "reprise/repriselaw9.ScreenRights", spec := "screenRights", unfollowed := true, recurses := true, named := ["unicode/utf8.first", "unicode/utf8.acceptRanges"], apart := false, laid := [("unicode/utf8.acceptRanges", laid_unicode_utf8_acceptRanges), ("unicode/utf8.first", laid_unicode_utf8_first)], narrowed := true }
def ScreenRightsUptoSaid : Prop := screenRightsUptoRow.holds Tryz.pinned (OpenSpec.upto screenRightsSpec)

/-- 'repriselaw9.ScreenAlts', WHERE WHAT IT READS IS OF BULK AT MOST 1048576: true; the input reads as it did. -/
def screenAltsUptoRow : OpenClaim := { program := "ytjmnbpilnneonaagreatdoor", sum := "41c5f4af7071aca18bba2faae55f81c26e2426c27b2d0db7214987b07af9a610", func := "reprise/repriselaw9.ScreenAlts", spec := "screenAlts", unfollowed := true, recurses := true, named := ["unicode/utf8.first", "unicode/utf8.acceptRanges"], apart := false, laid := [("unicode/utf8.acceptRanges", laid_unicode_utf8_acceptRanges), ("unicode/utf8.first", laid_unicode_utf8_first)], narrowed := true }
def ScreenAltsUptoSaid : Prop := screenAltsUptoRow.holds Tryz.pinned (OpenSpec.upto screenAltsSpec)

/-- 'repriselaw9.ScreenParts', WHERE WHAT IT READS IS OF BULK AT MOST 1048576: true; the input reads as it did. -/
def screenPartsUptoRow : OpenClaim := { program := "ytjmnbpilnneonaagreatdoor", sum := "41c5f4af7071aca18bba2faae55f81c26e2426c27b2d0db7214987b07af9a610", func := "reprise/repriselaw9.ScreenParts", spec := "screenParts", unfollowed := true, recurses := true, named := ["unicode/utf8.first", "unicode/utf8.acceptRanges"], apart := false, laid := [("unicode/utf8.acceptRanges", laid_unicode_utf8_acceptRanges), ("unicode/utf8.first", laid_unicode_utf8_first)], narrowed := true }
def ScreenPartsUptoSaid : Prop := screenPartsUptoRow.holds Tryz.pinned (OpenSpec.upto screenPartsSpec)

/-- 'repriselaw9.ScreenSizes', WHERE WHAT IT READS IS OF BULK AT MOST 1048576: true; the input reads as it did. -/
def screenSizesUptoRow : OpenClaim := { program := "ytjmnbpilnneonaagreatdoor", sum := "41c5f4af7071aca18bba2faae55f81c26e2426c27b2d0db7214987b07af9a610", func := "reprise/repriselaw9.ScreenSizes", spec := "screenSizes", unfollowed := true, recurses := true, named := ["unicode/utf8.first", "unicode/utf8.acceptRanges"], apart := false, laid := [("unicode/utf8.acceptRanges", laid_unicode_utf8_acceptRanges), ("unicode/utf8.first", laid_unicode_utf8_first)], narrowed := true }
def ScreenSizesUptoSaid : Prop := screenSizesUptoRow.holds Tryz.pinned (OpenSpec.upto screenSizesSpec)

end Rows
end Go.Proofs.YtjmnbpilnneonaaGreatDoor
