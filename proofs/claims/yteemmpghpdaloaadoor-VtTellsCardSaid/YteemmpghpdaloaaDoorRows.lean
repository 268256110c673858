/-
  NARROWER THAN 'FOR EVERY INPUT', by the rows' own cells (each row's printed sentence says how): UtfTells: laid · UtfEdges: laid · UtfBack: laid · UtfParts: laid · VtTells: laid · VtParts: laid · VtEnds: laid · VtParams: laid · VtStrings: laid.
  DERIVED. THE GIVEN ROWS OF THIS SEAT. 9 by the template 'for every input the law returns true; each argument reads behind the call as it read before'; 0 by the template 'total and deterministic' (their statements: YteemmpghpdaloaaDoorTotals.lean).
  GIVEN WITH THE SEED: the statements are not yours to turn. If you find one false, say at which input.
  Laid BY PROGRAM, IN A SANDBOX (cutbox-rows.mjs): the forced cells as the released guide's own fill.sh prints them over the translation edee12bd6f1472e5… (all of the seat's roots in one cut). By AI agents, Wed Nov 11 2026. No macro, syntax, notation, axiom, sorry.
-/
import Derived.Test.YteemmpghpdaloaaDoorChecked
import GoSem.PinnedTables
import GoSem.Claim
import GoSem.ClaimJoined
import GoSem.ClaimMapViews
import Derived.JoinedTies
import Derived.KernelRfl
namespace Go.Proofs.YteemmpghpdaloaaDoor
/- THE CELL 'sum', in the pinned program and in every row, IS THE sha256 OF THE DUMP (.gsa) THAT YteemmpghpdaloaaDoorProg.lean LOADS. Nothing in Lean hashes anything: it is a label: what it is worth is what the hold of that sum in a sandbox is worth. -/
noncomputable def Tryd.pinned : Pinned := { name := "yteemmpghpdaloaadoor", sum := "edee12bd6f1472e5f6564b9fdadad35dcc43c547d0d920af34b88dbe114af084", checked := Tryd.checked }
namespace Rows
def none {H : Type} : Left H := { results := [], args := [] }

/- WHAT THE LISTED PACKAGE-LEVEL VARIABLES READ AS WHEN THE CALL BEGINS. Each datum BY PROGRAM (the guide's laid-datum.mjs) off the statement by which the dump's own 'gosem.cut.vars' lays the variable. In a bare row this is a premise. The card (YteemmpghpdaloaaDoorCards.lean) ties it to the program's text. -/
def laid_unicode_utf8_acceptRanges {H : Type} : DataW H := .agg [.agg [.lit (.int .u8 128), .lit (.int .u8 191)], .agg [.lit (.int .u8 160), .lit (.int .u8 191)], .agg [.lit (.int .u8 128), .lit (.int .u8 159)], .agg [.lit (.int .u8 144), .lit (.int .u8 191)], .agg [.lit (.int .u8 128), .lit (.int .u8 143)], .agg [.lit (.int .u8 0), .lit (.int .u8 0)], .agg [.lit (.int .u8 0), .lit (.int .u8 0)], .agg [.lit (.int .u8 0), .lit (.int .u8 0)], .agg [.lit (.int .u8 0), .lit (.int .u8 0)], .agg [.lit (.int .u8 0), .lit (.int .u8 0)], .agg [.lit (.int .u8 0), .lit (.int .u8 0)], .agg [.lit (.int .u8 0), .lit (.int .u8 0)], .agg [.lit (.int .u8 0), .lit (.int .u8 0)], .agg [.lit (.int .u8 0), .lit (.int .u8 0)], .agg [.lit (.int .u8 0), .lit (.int .u8 0)], .agg [.lit (.int .u8 0), .lit (.int .u8 0)]]
/-- One of Go's own tables, pinned by name: the form's constant. -/
def laid_unicode_utf8_first : DataW Unit := Go.Pinned.utf8First

/-- 'repriselaw3.UtfTells': WHATEVER THE INPUT: true; the input reads as it did. -/
def utfTellsSpec : ChangeSpec := { name := "utfTells", fn := fun _ => fun
  | [d1, d2, d3, d4, d5] => { results := [.lit (.bool true)], args := [d1, d2, d3, d4, d5] }
  | _ => none }
def utfTellsRow : OpenClaim := { program := "yteemmpghpdaloaadoor", sum := "edee12bd6f1472e5f6564b9fdadad35dcc43c547d0d920af34b88dbe114af084", func := "reprise/repriselaw3.UtfTells", spec := "utfTells", recurses := true, named := ["unicode/utf8.first", "unicode/utf8.acceptRanges"], apart := false, laid := [("unicode/utf8.acceptRanges", laid_unicode_utf8_acceptRanges), ("unicode/utf8.first", laid_unicode_utf8_first)] }
def UtfTellsSaid : Prop := utfTellsRow.holds Tryd.pinned (OpenSpec.ofChange utfTellsSpec)

/-- ITS FALSE NEIGHBOUR: 'it returns false'. Refute it at one input. -/
def utfTellsWrong : ChangeSpec := { name := "utfTells", fn := fun _ => fun
  | [d1, d2, d3, d4, d5] => { results := [.lit (.bool false)], args := [d1, d2, d3, d4, d5] }
  | _ => none }
def UtfTellsWrongFalsely : Prop := utfTellsRow.holds Tryd.pinned (OpenSpec.ofChange utfTellsWrong)

/-- 'repriselaw3.UtfEdges': WHATEVER THE INPUT: true; the input reads as it did. -/
def utfEdgesSpec : ChangeSpec := { name := "utfEdges", fn := fun _ => fun
  | [d1, d2, d3, d4] => { results := [.lit (.bool true)], args := [d1, d2, d3, d4] }
  | _ => none }
def utfEdgesRow : OpenClaim := { program := "yteemmpghpdaloaadoor", sum := "edee12bd6f1472e5f6564b9fdadad35dcc43c547d0d920af34b88dbe114af084", func := "reprise/repriselaw3.UtfEdges", spec := "utfEdges", recurses := true, named := ["unicode/utf8.first", "unicode/utf8.acceptRanges"], apart := false, laid := [("unicode/utf8.acceptRanges", laid_unicode_utf8_acceptRanges), ("unicode/utf8.first", laid_unicode_utf8_first)] }
def UtfEdgesSaid : Prop := utfEdgesRow.holds Tryd.pinned (OpenSpec.ofChange utfEdgesSpec)

/-- ITS FALSE NEIGHBOUR: 'it returns false'. Refute it at one input. -/
def utfEdgesWrong : ChangeSpec := { name := "utfEdges", fn := fun _ => fun
  | [d1, d2, d3, d4] => { results := [.lit (.bool false)], args := [d1, d2, d3, d4] }
  | _ => none }
def UtfEdgesWrongFalsely : Prop := utfEdgesRow.holds Tryd.pinned (OpenSpec.ofChange utfEdgesWrong)

/-- 'repriselaw3.UtfBack': WHATEVER THE INPUT: true; the input reads as it did. -/
def utfBackSpec : ChangeSpec := { name := "utfBack", fn := fun _ => fun
  | [d1, d2] => { results := [.lit (.bool true)], args := [d1, d2] }
  | _ => none }
def utfBackRow : OpenClaim := { program := "yteemmpghpdaloaadoor", sum := "edee12bd6f1472e5f6564b9fdadad35dcc43c547d0d920af34b88dbe114af084", func := "reprise/repriselaw3.UtfBack", spec := "utfBack", recurses := true, named := ["unicode/utf8.first", "unicode/utf8.acceptRanges"], apart := false, laid := [("unicode/utf8.acceptRanges", laid_unicode_utf8_acceptRanges), ("unicode/utf8.first", laid_unicode_utf8_first)] }
def UtfBackSaid : Prop := utfBackRow.holds Tryd.pinned (OpenSpec.ofChange utfBackSpec)

/-- ITS FALSE NEIGHBOUR: 'it returns false'. Refute it at one input. -/
def utfBackWrong : ChangeSpec := { name := "utfBack", fn := fun _ => fun
  | [d1, d2] => { results := [.lit (.bool false)], args := [d1, d2] }
  | _ => none }
def UtfBackWrongFalsely : Prop := utfBackRow.holds Tryd.pinned (OpenSpec.ofChange utfBackWrong)

/-- 'repriselaw3.UtfParts': WHATEVER THE INPUT: true; the input reads as it did. -/
def utfPartsSpec : ChangeSpec := { name := "utfParts", fn := fun _ => fun
  | [d1, d2, d3] => { results := [.lit (.bool true)], args := [d1, d2, d3] }
  | _ => none }
def utfPartsRow : OpenClaim := { program := "yteemmpghpdaloaadoor", sum := "edee12bd6f1472e5f6564b9fdadad35dcc43c547d0d920af34b88dbe114af084", func := "reprise/repriselaw3.UtfParts", spec := "utfParts", recurses := true, named := ["unicode/utf8.first", "unicode/utf8.acceptRanges"], apart := false, laid := [("unicode/utf8.acceptRanges", laid_unicode_utf8_acceptRanges), ("unicode/utf8.first", laid_unicode_utf8_first)] }
def UtfPartsSaid : Prop := utfPartsRow.holds Tryd.pinned (OpenSpec.ofChange utfPartsSpec)

/-- ITS FALSE NEIGHBOUR: 'it returns false'. Refute it at one input. -/
def utfPartsWrong : ChangeSpec := { name := "utfParts", fn := fun _ => fun
  | [d1, d2, d3] => { results := [.lit (.bool false)], args := [d1, d2, d3] }
  | _ => none }
def UtfPartsWrongFalsely : Prop := utfPartsRow.holds Tryd.pinned (OpenSpec.ofChange utfPartsWrong)

/-- 'repriselaw7.VtTells': WHATEVER THE INPUT: true; the input reads as it did. -/
def vtTellsSpec : ChangeSpec := { name := "vtTells", fn := fun _ => fun
  | [d1, d2, d3, d4, d5, d6] => { results := [.lit (.bool true)], args := [d1, d2, d3, d4, d5, d6] }
  | _ => none }
def vtTellsRow : OpenClaim := { program := "yteemmpghpdaloaadoor", sum := "edee12bd6f1472e5f6564b9fdadad35dcc43c547d0d920af34b88dbe114af084", func := "reprise/repriselaw7.VtTells", spec := "vtTells", unfollowed := true, recurses := true, named := ["unicode/utf8.first", "unicode/utf8.acceptRanges"], apart := false, laid := [("unicode/utf8.acceptRanges", laid_unicode_utf8_acceptRanges), ("unicode/utf8.first", laid_unicode_utf8_first)] }
def VtTellsSaid : Prop := vtTellsRow.holds Tryd.pinned (OpenSpec.ofChange vtTellsSpec)

/-- ITS FALSE NEIGHBOUR: 'it returns false'. Refute it at one input. -/
def vtTellsWrong : ChangeSpec := { name := "vtTells", fn := fun _ => fun
  | [d1, d2, d3, d4, d5, d6] => { results := [.lit (.bool false)], args := [d1, d2, d3, d4, d5, d6] }
  | _ => none }
def VtTellsWrongFalsely : Prop := vtTellsRow.holds Tryd.pinned (OpenSpec.ofChange vtTellsWrong)

/-- 'repriselaw7.VtParts': WHATEVER THE INPUT: true; the input reads as it did. -/
def vtPartsSpec : ChangeSpec := { name := "vtParts", fn := fun _ => fun
  | [d1, d2] => { results := [.lit (.bool true)], args := [d1, d2] }
  | _ => none }
def vtPartsRow : OpenClaim := { program := "yteemmpghpdaloaadoor", sum := "edee12bd6f1472e5f6564b9fdadad35dcc43c547d0d920af34b88dbe114af084", func := "reprise/repriselaw7.VtParts", spec := "vtParts", unfollowed := true, recurses := true, named := ["unicode/utf8.first", "unicode/utf8.acceptRanges"], apart := false, laid := [("unicode/utf8.acceptRanges", laid_unicode_utf8_acceptRanges), ("unicode/utf8.first", laid_unicode_utf8_first)] }
def VtPartsSaid : Prop := vtPartsRow.holds Tryd.pinned (OpenSpec.ofChange vtPartsSpec)

/-- ITS FALSE NEIGHBOUR: 'it returns false'. Refute it at one input. -/
def vtPartsWrong : ChangeSpec := { name := "vtParts", fn := fun _ => fun
  | [d1, d2] => { results := [.lit (.bool false)], args := [d1, d2] }
  | _ => none }
def VtPartsWrongFalsely : Prop := vtPartsRow.holds Tryd.pinned (OpenSpec.ofChange vtPartsWrong)

/-- 'repriselaw7.VtEnds': WHATEVER THE INPUT: true; the input reads as it did. -/
def vtEndsSpec : ChangeSpec := { name := "vtEnds", fn := fun _ => fun
  | [d1, d2, d3] => { results := [.lit (.bool true)], args := [d1, d2, d3] }
  | _ => none }
def vtEndsRow : OpenClaim := { program := "yteemmpghpdaloaadoor", sum := "edee12bd6f1472e5f6564b9fdadad35dcc43c547d0d920af34b88dbe114af084", func := "reprise/repriselaw7.VtEnds", spec := "vtEnds", unfollowed := true, recurses := true, named := ["unicode/utf8.first", "unicode/utf8.acceptRanges"], apart := false, laid := [("unicode/utf8.acceptRanges", laid_unicode_utf8_acceptRanges), ("unicode/utf8.first", laid_unicode_utf8_first)] }
def VtEndsSaid : Prop := vtEndsRow.holds Tryd.pinned (OpenSpec.ofChange vtEndsSpec)

/-- ITS FALSE NEIGHBOUR: 'it returns false'. Refute it at one input. -/
def vtEndsWrong : ChangeSpec := { name := "vtEnds", fn := fun _ => fun
  | [d1, d2, d3] => { results := [.lit (.bool false)], args := [d1, d2, d3] }
  | _ => none }
def VtEndsWrongFalsely : Prop := vtEndsRow.holds Tryd.pinned (OpenSpec.ofChange vtEndsWrong)

/-- 'repriselaw7.VtParams': WHATEVER THE INPUT: true; the input reads as it did. -/
def vtParamsSpec : ChangeSpec := { name := "vtParams", fn := fun _ => fun
  | [d1, d2, d3] => { results := [.lit (.bool true)], args := [d1, d2, d3] }
  | _ => none }
def vtParamsRow : OpenClaim := { program := "yteemmpghpdaloaadoor", sum := "edee12bd6f1472e5f6564b9fdadad35dcc43c547d0d920af34b88dbe114af084", func := "reprise/repriselaw7.VtParams", spec := "vtParams", unfollowed := true, recurses := true, named := ["unicode/utf8.first", "unicode/utf8.acceptRanges"], apart := false, laid := [("unicode/utf8.acceptRanges", laid_unicode_utf8_acceptRanges), ("unicode/utf8.first", laid_unicode_utf8_first)] }
def VtParamsSaid : Prop := vtParamsRow.holds Tryd.pinned (OpenSpec.ofChange vtParamsSpec)

/-- ITS FALSE NEIGHBOUR: 'it returns false'. Refute it at one input. -/
def vtParamsWrong : ChangeSpec := { name := "vtParams", fn := fun _ => fun
  | [d1, d2, d3] => { results := [.lit (.bool false)], args := [d1, d2, d3] }
  | _ => none }
def VtParamsWrongFalsely : Prop := vtParamsRow.holds Tryd.pinned (OpenSpec.ofChange vtParamsWrong)

/-- 'repriselaw7.VtStrings': WHATEVER THE INPUT: true; the input reads as it did. -/
def vtStringsSpec : ChangeSpec := { name := "vtStrings", fn := fun _ => fun
  | [d1, d2, d3] => { results := [.lit (.bool true)], args := [d1, d2, d3] }
  | _ => none }
def vtStringsRow : OpenClaim := { program := "yteemmpghpdaloaadoor", sum := "edee12bd6f1472e5f6564b9fdadad35dcc43c547d0d920af34b88dbe114af084", func := "reprise/repriselaw7.VtStrings", spec := "vtStrings", unfollowed := true, recurses := true, named := ["unicode/utf8.first", "unicode/utf8.acceptRanges"], apart := false, laid := [("unicode/utf8.acceptRanges", laid_unicode_utf8_acceptRanges), ("unicode/utf8.first", laid_unicode_utf8_first)] }
def VtStringsSaid : Prop := vtStringsRow.holds Tryd.pinned (OpenSpec.ofChange vtStringsSpec)

/-- ITS FALSE NEIGHBOUR: 'it returns false'. Refute it at one input. -/
def vtStringsWrong : ChangeSpec := { name := "vtStrings", fn := fun _ => fun
  | [d1, d2, d3] => { results := [.lit (.bool false)], args := [d1, d2, d3] }
  | _ => none }
def VtStringsWrongFalsely : Prop := vtStringsRow.holds Tryd.pinned (OpenSpec.ofChange vtStringsWrong)

/- THE SECOND FORM. 'bulk': how many values and letters a reading holds, each counted each time it is reached (what is shared counts as often as it is met; a slice's spare places count too). A statement '..UptoSaid' is the law's where the arguments, and the package variables that the reading takes, are together of bulk at most 1048576: NARROWER than '..Said'. Prove '..Said' where nothing that the law and all that it calls make is longer than what came in: it says more and counts as full. Else prove '..UptoSaid'. A law counts once. -/
mutual
def uptoBulk {H : Type} : DataW H → Nat
  | .lit (.string bytes) => bytes.length + 1
  | .lit _ => 1
  | .nil => 1
  | .ptr d => uptoBulk d + 1
  | .slice elems spare => uptoBulkAll elems + uptoBulkAll spare + 1
  | .agg parts => uptoBulkAll parts + 1
  | .iface _ d => uptoBulk d + 1
  | .map entries => uptoBulkEntries entries + 1
  | .held _ => 1
def uptoBulkAll {H : Type} : List (DataW H) → Nat
  | [] => 0
  | d :: r => uptoBulk d + uptoBulkAll r
def uptoBulkEntries {H : Type} : List (Lit × DataW H) → Nat
  | [] => 0
  | x :: r => uptoBulkEntry x + uptoBulkEntries r
def uptoBulkEntry {H : Type} : Lit × DataW H → Nat
  | (.string bytes, d) => bytes.length + uptoBulk d + 1
  | (_, d) => uptoBulk d + 1
 end
def uptoSmall : (H : Type) → List (DataW H) → Bool := fun _ ds => decide (uptoBulkAll ds ≤ 1048576)
def OpenSpec.upto (s : _root_.Go.ChangeSpec) : _root_.Go.OpenSpec := { _root_.Go.OpenSpec.ofChange s with cond := some uptoSmall }

/-- 'repriselaw3.UtfTells', WHERE WHAT IT READS IS OF BULK AT MOST 1048576: true; the input reads as it did. -/
def utfTellsUptoRow : OpenClaim := { program := "yteemmpghpdaloaadoor", sum := "edee12bd6f1472e5f6564b9fdadad35dcc43c547d0d920af34b88dbe114af084", func := "reprise/repriselaw3.UtfTells", spec := "utfTells", recurses := true, named := ["unicode/utf8.first", "unicode/utf8.acceptRanges"], apart := false, laid := [("unicode/utf8.acceptRanges", laid_unicode_utf8_acceptRanges), ("unicode/utf8.first", laid_unicode_utf8_first)], narrowed := true }
def UtfTellsUptoSaid : Prop := utfTellsUptoRow.holds Tryd.pinned (OpenSpec.upto utfTellsSpec)

/-- 'repriselaw3.UtfEdges', WHERE WHAT IT READS IS OF BULK AT MOST 1048576: true; the input reads as it did. -/
def utfEdgesUptoRow : OpenClaim := { program := "yteemmpghpdaloaadoor", sum := "edee12bd6f1472e5f6564b9fdadad35dcc43c547d0d920af34b88dbe114af084", func := "reprise/repriselaw3.UtfEdges", spec := "utfEdges", recurses := true, named := ["unicode/utf8.first", "unicode/utf8.acceptRanges"], apart := false, laid := [("unicode/utf8.acceptRanges", laid_unicode_utf8_acceptRanges), ("unicode/utf8.first", laid_unicode_utf8_first)], narrowed := true }
def UtfEdgesUptoSaid : Prop := utfEdgesUptoRow.holds Tryd.pinned (OpenSpec.upto utfEdgesSpec)

/-- 'repriselaw3.UtfBack', WHERE WHAT IT READS IS OF BULK AT MOST 1048576: true; the input reads as it did. -/
def utfBackUptoRow : OpenClaim := { program := "yteemmpghpdaloaadoor", sum := "edee12bd6f1472e5f6564b9fdadad35dcc43c547d0d920af34b88dbe114af084", func := "reprise/repriselaw3.UtfBack", spec := "utfBack", recurses := true, named := ["unicode/utf8.first", "unicode/utf8.acceptRanges"], apart := false, laid := [("unicode/utf8.acceptRanges", laid_unicode_utf8_acceptRanges), ("unicode/utf8.first", laid_unicode_utf8_first)], narrowed := true }
def UtfBackUptoSaid : Prop := utfBackUptoRow.holds Tryd.pinned (OpenSpec.upto utfBackSpec)

/-- 'repriselaw3.UtfParts', WHERE WHAT IT READS IS OF BULK AT MOST 1048576: true; the input reads as it did. -/
def utfPartsUptoRow : OpenClaim := { program := "yteemmpghpdaloaadoor", sum := "edee12bd6f1472e5f6564b9fdadad35dcc43c547d0d920af34b88dbe114af084", func := "reprise/repriselaw3.UtfParts", spec := "utfParts", recurses := true, named := ["unicode/utf8.first", "unicode/utf8.acceptRanges"], apart := false, laid := [("unicode/utf8.acceptRanges", laid_unicode_utf8_acceptRanges), ("unicode/utf8.first", laid_unicode_utf8_first)], narrowed := true }
def UtfPartsUptoSaid : Prop := utfPartsUptoRow.holds Tryd.pinned (OpenSpec.upto utfPartsSpec)

/-- 'repriselaw7.VtTells', WHERE WHAT IT READS IS OF BULK AT MOST 1048576: true; the input reads as it did. -/
def vtTellsUptoRow : OpenClaim := { program := "yteemmpghpdaloaadoor", sum := "edee12bd6f1472e5f6564b9fdadad35dcc43c547d0d920af34b88dbe114af084", func := "reprise/repriselaw7.VtTells", spec := "vtTells", unfollowed := true, recurses := true, named := ["unicode/utf8.first", "unicode/utf8.acceptRanges"], apart := false, laid := [("unicode/utf8.acceptRanges", laid_unicode_utf8_acceptRanges), ("unicode/utf8.first", laid_unicode_utf8_first)], narrowed := true }
def VtTellsUptoSaid : Prop := vtTellsUptoRow.holds Tryd.pinned (OpenSpec.upto vtTellsSpec)

/-- 'repriselaw7.VtParts', WHERE WHAT IT READS IS OF BULK AT MOST 1048576: true; the input reads as it did. -/
def vtPartsUptoRow : OpenClaim := { program := "yteemmpghpdaloaadoor", sum := "edee12bd6f1472e5f6564b9fdadad35dcc43c547d0d920af34b88dbe114af084", func := "reprise/repriselaw7.VtParts", spec := "vtParts", unfollowed := true, recurses := true, named := ["unicode/utf8.first", "unicode/utf8.acceptRanges"], apart := false, laid := [("unicode/utf8.acceptRanges", laid_unicode_utf8_acceptRanges), ("unicode/utf8.first", laid_unicode_utf8_first)], narrowed := true }
def VtPartsUptoSaid : Prop := vtPartsUptoRow.holds Tryd.pinned (OpenSpec.upto vtPartsSpec)

/-- 'repriselaw7.VtEnds', WHERE WHAT IT READS IS OF BULK AT MOST 1048576: true; the input reads as it did. -/
def vtEndsUptoRow : OpenClaim := { program := "yteemmpghpdaloaadoor", sum := "edee12bd6f1472e5f6564b9fdadad35dcc43c547d0d920af34b88dbe114af084", func := "reprise/repriselaw7.VtEnds", spec := "vtEnds", unfollowed := true, recurses := true, named := ["unicode/utf8.first", "unicode/utf8.acceptRanges"], apart := false, laid := [("unicode/utf8.acceptRanges", laid_unicode_utf8_acceptRanges), ("unicode/utf8.first", laid_unicode_utf8_first)], narrowed := true }
def VtEndsUptoSaid : Prop := vtEndsUptoRow.holds Tryd.pinned (OpenSpec.upto vtEndsSpec)

/-- 'repriselaw7.VtParams', WHERE WHAT IT READS IS OF BULK AT MOST 1048576: true; the input reads as it did. -/
def vtParamsUptoRow : OpenClaim := { program := "yteemmpghpdaloaadoor", sum := "edee12bd6f1472e5f6564b9fdadad35dcc43c547d0d920af34b88dbe114af084", func := "reprise/repriselaw7.VtParams", spec := "vtParams", unfollowed := true, recurses := true, named := ["unicode/utf8.first", "unicode/utf8.acceptRanges"], apart := false, laid := [("unicode/utf8.acceptRanges", laid_unicode_utf8_acceptRanges), ("unicode/utf8.first", laid_unicode_utf8_first)], narrowed := true }
def VtParamsUptoSaid : Prop := vtParamsUptoRow.holds Tryd.pinned (OpenSpec.upto vtParamsSpec)

/-- 'repriselaw7.VtStrings', WHERE WHAT IT READS IS OF BULK AT MOST 1048576: true; the input reads as it did. -/
def vtStringsUptoRow : OpenClaim := { program := "yteemmpghpdaloaadoor", sum := "edee12bd6f1472e5f6564b9fdadad35dcc43c547d0d920af34b88dbe114af084", func := "reprise/repriselaw7.VtStrings", spec := "vtStrings", unfollowed := true, recurses := true, named := ["unicode/utf8.first", "unicode/utf8.acceptRanges"], apart := false, laid := [("unicode/utf8.acceptRanges", laid_unicode_utf8_acceptRanges), ("unicode/utf8.first", laid_unicode_utf8_first)], narrowed := true }
def VtStringsUptoSaid : Prop := vtStringsUptoRow.holds Tryd.pinned (OpenSpec.upto vtStringsSpec)

end Rows
end Go.Proofs.YteemmpghpdaloaaDoor
