/-
  NARROWER THAN 'FOR EVERY INPUT', by the rows' own cells (each row's printed sentence says how): KeysPlay: laid · KeysPaste: laid · KeysSeqs: laid · KeysRunes: laid · KeysTimes: laid.
  DERIVED. THE GIVEN ROWS OF THIS SEAT. 5 by the template 'for every input the law returns true; each argument reads behind the call as it read before'; 0 by the template 'total and deterministic' (their statements: YtdimdjcnkmkbjaaDoorTotals.lean).
  GIVEN WITH THE SEED: the statements are not yours to turn. If you find one false, say at which input.
  Laid BY PROGRAM, IN A SANDBOX (cutbox-rows.mjs): the forced cells as the released guide's own fill.sh prints them over the translation 2af8e9ececa9a45a… (all of the seat's roots in one cut). By AI agents, Wed Nov 11 2026. No macro, syntax, notation, axiom, sorry.
-/
import Derived.Test.YtdimdjcnkmkbjaaDoorChecked
import GoSem.PinnedTables
import GoSem.Claim
import GoSem.ClaimJoined
import GoSem.ClaimMapViews
import Derived.JoinedTies
import Derived.KernelRfl
namespace Go.Proofs.YtdimdjcnkmkbjaaDoor
/- THE CELL 'sum', in the pinned program and in every row, IS THE sha256 OF THE DUMP (.gsa) THAT YtdimdjcnkmkbjaaDoorProg.lean LOADS. Nothing in Lean hashes anything: it is a label: what it is worth is what the hold of that sum in a sandbox is worth. -/
noncomputable def Tryd.pinned : Pinned := { name := "ytdimdjcnkmkbjaadoor", sum := "2af8e9ececa9a45af96319057056b20ed45d501e08fac072508791927c9be5b8", checked := Tryd.checked }
namespace Rows
def none {H : Type} : Left H := { results := [], args := [] }

/- WHAT THE LISTED PACKAGE-LEVEL VARIABLES READ AS WHEN THE CALL BEGINS. Each datum BY PROGRAM (the guide's laid-datum.mjs) off the statement by which the dump's own 'gosem.cut.vars' lays the variable. In a bare row this is a premise. The card (YtdimdjcnkmkbjaaDoorCards.lean) ties it to the program's text. -/
def laid_unicode_utf8_acceptRanges {H : Type} : DataW H := .agg [.agg [.lit (.int .u8 128), .lit (.int .u8 191)], .agg [.lit (.int .u8 160), .lit (.int .u8 191)], .agg [.lit (.int .u8 128), .lit (.int .u8 159)], .agg [.lit (.int .u8 144), .lit (.int .u8 191)], .agg [.lit (.int .u8 128), .lit (.int .u8 143)], .agg [.lit (.int .u8 0), .lit (.int .u8 0)], .agg [.lit (.int .u8 0), .lit (.int .u8 0)], .agg [.lit (.int .u8 0), .lit (.int .u8 0)], .agg [.lit (.int .u8 0), .lit (.int .u8 0)], .agg [.lit (.int .u8 0), .lit (.int .u8 0)], .agg [.lit (.int .u8 0), .lit (.int .u8 0)], .agg [.lit (.int .u8 0), .lit (.int .u8 0)], .agg [.lit (.int .u8 0), .lit (.int .u8 0)], .agg [.lit (.int .u8 0), .lit (.int .u8 0)], .agg [.lit (.int .u8 0), .lit (.int .u8 0)], .agg [.lit (.int .u8 0), .lit (.int .u8 0)]]
/-- One of Go's own tables, pinned by name: the form's constant. -/
def laid_unicode_utf8_first : DataW Unit := Go.Pinned.utf8First

/-- 'repriselaw18.KeysPlay': WHATEVER THE INPUT: true; the input reads as it did. -/
def keysPlaySpec : ChangeSpec := { name := "keysPlay", fn := fun _ => fun
  | [d1, d2, d3, d4, d5, d6] => { results := [.lit (.bool true)], args := [d1, d2, d3, d4, d5, d6] }
  | _ => none }
def keysPlayRow : OpenClaim := { program := "ytdimdjcnkmkbjaadoor", sum := "2af8e9ececa9a45af96319057056b20ed45d501e08fac072508791927c9be5b8", func := "reprise/repriselaw18.KeysPlay", spec := "keysPlay", inPlace := ["internal/bytealg.IndexByte", "internal/bytealg.Index"], recurses := true, named := ["internal/bytealg.MaxLen", "unicode/utf8.first", "unicode/utf8.acceptRanges"], apart := false, laid := [("unicode/utf8.acceptRanges", laid_unicode_utf8_acceptRanges), ("unicode/utf8.first", laid_unicode_utf8_first)] }
def KeysPlaySaid : Prop := keysPlayRow.holds Tryd.pinned (OpenSpec.ofChange keysPlaySpec)

/-- ITS FALSE NEIGHBOUR: 'it returns false'. Refute it at one input. -/
def keysPlayWrong : ChangeSpec := { name := "keysPlay", fn := fun _ => fun
  | [d1, d2, d3, d4, d5, d6] => { results := [.lit (.bool false)], args := [d1, d2, d3, d4, d5, d6] }
  | _ => none }
def KeysPlayWrongFalsely : Prop := keysPlayRow.holds Tryd.pinned (OpenSpec.ofChange keysPlayWrong)

/-- 'repriselaw18.KeysPaste': WHATEVER THE INPUT: true; the input reads as it did. -/
def keysPasteSpec : ChangeSpec := { name := "keysPaste", fn := fun _ => fun
  | [d1, d2] => { results := [.lit (.bool true)], args := [d1, d2] }
  | _ => none }
def keysPasteRow : OpenClaim := { program := "ytdimdjcnkmkbjaadoor", sum := "2af8e9ececa9a45af96319057056b20ed45d501e08fac072508791927c9be5b8", func := "reprise/repriselaw18.KeysPaste", spec := "keysPaste", inPlace := ["internal/bytealg.IndexByte", "internal/bytealg.Index"], recurses := true, named := ["internal/bytealg.MaxLen", "unicode/utf8.first", "unicode/utf8.acceptRanges"], apart := false, laid := [("unicode/utf8.acceptRanges", laid_unicode_utf8_acceptRanges), ("unicode/utf8.first", laid_unicode_utf8_first)] }
def KeysPasteSaid : Prop := keysPasteRow.holds Tryd.pinned (OpenSpec.ofChange keysPasteSpec)

/-- ITS FALSE NEIGHBOUR: 'it returns false'. Refute it at one input. -/
def keysPasteWrong : ChangeSpec := { name := "keysPaste", fn := fun _ => fun
  | [d1, d2] => { results := [.lit (.bool false)], args := [d1, d2] }
  | _ => none }
def KeysPasteWrongFalsely : Prop := keysPasteRow.holds Tryd.pinned (OpenSpec.ofChange keysPasteWrong)

/-- 'repriselaw18.KeysSeqs': WHATEVER THE INPUT: true; the input reads as it did. -/
def keysSeqsSpec : ChangeSpec := { name := "keysSeqs", fn := fun _ => fun
  | [d1, d2, d3] => { results := [.lit (.bool true)], args := [d1, d2, d3] }
  | _ => none }
def keysSeqsRow : OpenClaim := { program := "ytdimdjcnkmkbjaadoor", sum := "2af8e9ececa9a45af96319057056b20ed45d501e08fac072508791927c9be5b8", func := "reprise/repriselaw18.KeysSeqs", spec := "keysSeqs", inPlace := ["internal/bytealg.IndexByte", "internal/bytealg.Index"], recurses := true, named := ["internal/bytealg.MaxLen", "unicode/utf8.first", "unicode/utf8.acceptRanges"], apart := false, laid := [("unicode/utf8.acceptRanges", laid_unicode_utf8_acceptRanges), ("unicode/utf8.first", laid_unicode_utf8_first)] }
def KeysSeqsSaid : Prop := keysSeqsRow.holds Tryd.pinned (OpenSpec.ofChange keysSeqsSpec)

/-- ITS FALSE NEIGHBOUR: 'it returns false'. Refute it at one input. -/
def keysSeqsWrong : ChangeSpec := { name := "keysSeqs", fn := fun _ => fun
  | [d1, d2, d3] => { results := [.lit (.bool false)], args := [d1, d2, d3] }
  | _ => none }
def KeysSeqsWrongFalsely : Prop := keysSeqsRow.holds Tryd.pinned (OpenSpec.ofChange keysSeqsWrong)

/-- 'repriselaw18.KeysRunes': WHATEVER THE INPUT: true; the input reads as it did. -/
def keysRunesSpec : ChangeSpec := { name := "keysRunes", fn := fun _ => fun
  | [d1, d2] => { results := [.lit (.bool true)], args := [d1, d2] }
  | _ => none }
def keysRunesRow : OpenClaim := { program := "ytdimdjcnkmkbjaadoor", sum := "2af8e9ececa9a45af96319057056b20ed45d501e08fac072508791927c9be5b8", func := "reprise/repriselaw18.KeysRunes", spec := "keysRunes", inPlace := ["internal/bytealg.IndexByte", "internal/bytealg.Index"], recurses := true, named := ["internal/bytealg.MaxLen", "unicode/utf8.first", "unicode/utf8.acceptRanges"], apart := false, laid := [("unicode/utf8.acceptRanges", laid_unicode_utf8_acceptRanges), ("unicode/utf8.first", laid_unicode_utf8_first)] }
def KeysRunesSaid : Prop := keysRunesRow.holds Tryd.pinned (OpenSpec.ofChange keysRunesSpec)

/-- ITS FALSE NEIGHBOUR: 'it returns false'. Refute it at one input. -/
def keysRunesWrong : ChangeSpec := { name := "keysRunes", fn := fun _ => fun
  | [d1, d2] => { results := [.lit (.bool false)], args := [d1, d2] }
  | _ => none }
def KeysRunesWrongFalsely : Prop := keysRunesRow.holds Tryd.pinned (OpenSpec.ofChange keysRunesWrong)

/-- 'repriselaw18.KeysTimes': WHATEVER THE INPUT: true; the input reads as it did. -/
def keysTimesSpec : ChangeSpec := { name := "keysTimes", fn := fun _ => fun
  | [d1, d2, d3] => { results := [.lit (.bool true)], args := [d1, d2, d3] }
  | _ => none }
def keysTimesRow : OpenClaim := { program := "ytdimdjcnkmkbjaadoor", sum := "2af8e9ececa9a45af96319057056b20ed45d501e08fac072508791927c9be5b8", func := "reprise/repriselaw18.KeysTimes", spec := "keysTimes", inPlace := ["internal/bytealg.IndexByte", "internal/bytealg.Index"], recurses := true, named := ["internal/bytealg.MaxLen", "unicode/utf8.first", "unicode/utf8.acceptRanges"], apart := false, laid := [("unicode/utf8.acceptRanges", laid_unicode_utf8_acceptRanges), ("unicode/utf8.first", laid_unicode_utf8_first)] }
def KeysTimesSaid : Prop := keysTimesRow.holds Tryd.pinned (OpenSpec.ofChange keysTimesSpec)

/-- ITS FALSE NEIGHBOUR: 'it returns false'. Refute it at one input. -/
def keysTimesWrong : ChangeSpec := { name := "keysTimes", fn := fun _ => fun
  | [d1, d2, d3] => { results := [.lit (.bool false)], args := [d1, d2, d3] }
  | _ => none }
def KeysTimesWrongFalsely : Prop := keysTimesRow.holds Tryd.pinned (OpenSpec.ofChange keysTimesWrong)

/- THE SECOND FORM. 'bulk': how many values and letters a reading holds, each counted each time it is reached (what is shared counts as often as it is met; a slice's spare places count too). A statement '..UptoSaid' is the law's where the arguments, and the package variables that the reading takes, are together of bulk at most 1048576: NARROWER than '..Said'. Prove '..Said' where nothing that the law and all that it calls make is longer than what came in: it says more and counts as full. Else prove '..UptoSaid'. A law counts once. -/
mutual
def uptoBulk {H : Type} : DataW H → Nat
  | .lit (.string bytes) => bytes.length + 1
  | .lit _ => 1
  | .nil => 1
  | .ptr d => uptoBulk d + 1
  | .slice elems spare => uptoBulkAll elems + uptoBulkAll spare + 1
  | .agg parts => uptoBulkAll parts + 1
  | .iface _ d => uptoBulk d + 1
  | .map entries => uptoBulkEntries entries + 1
  | .held _ => 1
def uptoBulkAll {H : Type} : List (DataW H) → Nat
  | [] => 0
  | d :: r => uptoBulk d + uptoBulkAll r
def uptoBulkEntries {H : Type} : List (Lit × DataW H) → Nat
  | [] => 0
  | x :: r => uptoBulkEntry x + uptoBulkEntries r
def uptoBulkEntry {H : Type} : Lit × DataW H → Nat
  | (.string bytes, d) => bytes.length + uptoBulk d + 1
  | (_, d) => uptoBulk d + 1
 end
def uptoSmall : (H : Type) → List (DataW H) → Bool := fun _ ds => decide (uptoBulkAll ds ≤ 1048576)
def OpenSpec.upto (s : _root_.Go.ChangeSpec) : _root_.Go.OpenSpec := { _root_.Go.OpenSpec.ofChange s with cond := some uptoSmall }

/-- 'repriselaw18.KeysPlay', WHERE WHAT IT READS IS OF BULK AT MOST 1048576: true; the input reads as it did. -/
def keysPlayUptoRow : OpenClaim := { program := "ytdimdjcnkmkbjaadoor", sum := "2af8e9ececa9a45af96319057056b20ed45d501e08fac072508791927c9be5b8", func := "reprise/repriselaw18.KeysPlay", spec := "keysPlay", inPlace := ["internal/bytealg.IndexByte", "internal/bytealg.Index"], recurses := true, named := ["internal/bytealg.MaxLen", "unicode/utf8.first", "unicode/utf8.acceptRanges"], apart := false, laid := [("unicode/utf8.acceptRanges", laid_unicode_utf8_acceptRanges), ("unicode/utf8.first", laid_unicode_utf8_first)], narrowed := true }
def KeysPlayUptoSaid : Prop := keysPlayUptoRow.holds Tryd.pinned (OpenSpec.upto keysPlaySpec)

/-- 'repriselaw18.KeysPaste', WHERE WHAT IT READS IS OF BULK AT MOST 1048576: true; the input reads as it did. -/
def keysPasteUptoRow : OpenClaim := { program := "ytdimdjcnkmkbjaadoor", sum := "2af8e9ececa9a45af96319057056b20ed45d501e08fac072508791927c9be5b8", func := "reprise/repriselaw18.KeysPaste", spec := "keysPaste", inPlace := ["internal/bytealg.IndexByte", "internal/bytealg.Index"], recurses := true, named := ["internal/bytealg.MaxLen", "unicode/utf8.first", "unicode/utf8.acceptRanges"], apart := false, laid := [("unicode/utf8.acceptRanges", laid_unicode_utf8_acceptRanges), ("unicode/utf8.first", laid_unicode_utf8_first)], narrowed := true }
def KeysPasteUptoSaid : Prop := keysPasteUptoRow.holds Tryd.pinned (OpenSpec.upto keysPasteSpec)

/-- 'repriselaw18.KeysSeqs', WHERE WHAT IT READS IS OF BULK AT MOST 1048576: true; the input reads as it did. -/
def keysSeqsUptoRow : OpenClaim := { program := "ytdimdjcnkmkbjaadoor", sum := "2af8e9ececa9a45af96319057056b20ed45d501e08fac072508791927c9be5b8", func := "reprise/repriselaw18.KeysSeqs", spec := "keysSeqs", inPlace := ["internal/bytealg.IndexByte", "internal/bytealg.Index"], recurses := true, named := ["internal/bytealg.MaxLen", "unicode/utf8.first", "unicode/utf8.acceptRanges"], apart := false, laid := [("unicode/utf8.acceptRanges", laid_unicode_utf8_acceptRanges), ("unicode/utf8.first", laid_unicode_utf8_first)], narrowed := true }
def KeysSeqsUptoSaid : Prop := keysSeqsUptoRow.holds Tryd.pinned (OpenSpec.upto keysSeqsSpec)

/-- 'repriselaw18.KeysRunes', WHERE WHAT IT READS IS OF BULK AT MOST 1048576: true; the input reads as it did. -/
def keysRunesUptoRow : OpenClaim := { program := "ytdimdjcnkmkbjaadoor", sum := "2af8e9ececa9a45af96319057056b20ed45d501e08fac072508791927c9be5b8", func := "reprise/repriselaw18.KeysRunes", spec := "keysRunes", inPlace := ["internal/bytealg.IndexByte", "internal/bytealg.Index"], recurses := true, named := ["internal/bytealg.MaxLen", "unicode/utf8.first", "unicode/utf8.acceptRanges"], apart := false, laid := [("unicode/utf8.acceptRanges", laid_unicode_utf8_acceptRanges), ("unicode/utf8.first", laid_unicode_utf8_first)], narrowed := true }
def KeysRunesUptoSaid : Prop := keysRunesUptoRow.holds Tryd.pinned (OpenSpec.upto keysRunesSpec)

/-- 'repriselaw18.KeysTimes', WHERE WHAT IT READS IS OF BULK AT MOST 1048576: true; the input reads as it did. -/
def keysTimesUptoRow : OpenClaim := { program := "ytdimdjcnkmkbjaadoor", sum := "2af8e9ececa9a45af96319057056b20ed45d501e08fac072508791927c9be5b8", func := "reprise/repriselaw18.KeysTimes", spec := "keysTimes", inPlace := ["internal/bytealg.IndexByte", "internal/bytealg.Index"], recurses := true, named := ["internal/bytealg.MaxLen", "unicode/utf8.first", "unicode/utf8.acceptRanges"], apart := false, laid := [("unicode/utf8.acceptRanges", laid_unicode_utf8_acceptRanges), ("unicode/utf8.first", laid_unicode_utf8_first)], narrowed := true }
def KeysTimesUptoSaid : Prop := keysTimesUptoRow.holds Tryd.pinned (OpenSpec.upto keysTimesSpec)

end Rows
end Go.Proofs.YtdimdjcnkmkbjaaDoor
