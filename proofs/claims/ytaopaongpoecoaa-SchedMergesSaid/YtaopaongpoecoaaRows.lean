/-
  No cell of these rows narrows 'for every input' (looked for: loops, veiled, ifaces, maps, wideKeys, modest, calm, conditions, laid).
  DERIVED. THE GIVEN ROWS OF THIS SEAT. 3 by the template 'for every input the law returns true; each argument reads behind the call as it read before'; 0 by the template 'total and deterministic' (their statements: YtaopaongpoecoaaTotals.lean).
  GIVEN WITH THE SEED: the statements are not yours to turn. If you find one false, say at which input.
  Laid BY PROGRAM, IN A SANDBOX (cutbox-rows.mjs): the forced cells as the released guide's own fill.sh prints them over the translation 61a18aed91406262… (all of the seat's roots in one cut). By AI agents, Wed Nov 11 2026. No macro, syntax, notation, axiom, sorry.
-/
import Derived.Test.YtaopaongpoecoaaChecked
import GoSem.Claim
import GoSem.ClaimJoined
import GoSem.ClaimMapViews
import Derived.JoinedTies
import Derived.KernelRfl
namespace Go.Proofs.Ytaopaongpoecoaa
/- THE CELL 'sum', in the pinned program and in every row, IS THE sha256 OF THE DUMP (.gsa) THAT YtaopaongpoecoaaProg.lean LOADS. Nothing in Lean hashes anything: it is a label: what it is worth is what the hold of that sum in a sandbox is worth. -/
noncomputable def Try.pinned : Pinned := { name := "ytaopaongpoecoaa", sum := "61a18aed9140626229ec467eed8a826366a67e98ed4f5b69fb9d520a43da741b", checked := Try.checked }
namespace Rows
def none {H : Type} : Left H := { results := [], args := [] }

/-- 'repriselaw22.SchedPlays': WHATEVER THE INPUT: true; the input reads as it did. -/
def schedPlaysSpec : ChangeSpec := { name := "schedPlays", fn := fun _ => fun
  | [d] => { results := [.lit (.bool true)], args := [d] }
  | _ => none }
def schedPlaysRow : OpenClaim := { program := "ytaopaongpoecoaa", sum := "61a18aed9140626229ec467eed8a826366a67e98ed4f5b69fb9d520a43da741b", func := "reprise/repriselaw22.SchedPlays", spec := "schedPlays", unfollowed := true, recurses := true, apart := false }
def SchedPlaysSaid : Prop := schedPlaysRow.holds Try.pinned (OpenSpec.ofChange schedPlaysSpec)

/-- ITS FALSE NEIGHBOUR: 'it returns false'. Refute it at one input. -/
def schedPlaysWrong : ChangeSpec := { name := "schedPlays", fn := fun _ => fun
  | [d] => { results := [.lit (.bool false)], args := [d] }
  | _ => none }
def SchedPlaysWrongFalsely : Prop := schedPlaysRow.holds Try.pinned (OpenSpec.ofChange schedPlaysWrong)

/-- 'repriselaw22.SchedSorts': WHATEVER THE INPUT: true; the input reads as it did. -/
def schedSortsSpec : ChangeSpec := { name := "schedSorts", fn := fun _ => fun
  | [d] => { results := [.lit (.bool true)], args := [d] }
  | _ => none }
def schedSortsRow : OpenClaim := { program := "ytaopaongpoecoaa", sum := "61a18aed9140626229ec467eed8a826366a67e98ed4f5b69fb9d520a43da741b", func := "reprise/repriselaw22.SchedSorts", spec := "schedSorts", unfollowed := true, recurses := true, apart := false }
def SchedSortsSaid : Prop := schedSortsRow.holds Try.pinned (OpenSpec.ofChange schedSortsSpec)

/-- ITS FALSE NEIGHBOUR: 'it returns false'. Refute it at one input. -/
def schedSortsWrong : ChangeSpec := { name := "schedSorts", fn := fun _ => fun
  | [d] => { results := [.lit (.bool false)], args := [d] }
  | _ => none }
def SchedSortsWrongFalsely : Prop := schedSortsRow.holds Try.pinned (OpenSpec.ofChange schedSortsWrong)

/-- 'repriselaw22.SchedMerges': WHATEVER THE INPUT: true; the input reads as it did. -/
def schedMergesSpec : ChangeSpec := { name := "schedMerges", fn := fun _ => fun
  | [d1, d2, d3, d4] => { results := [.lit (.bool true)], args := [d1, d2, d3, d4] }
  | _ => none }
def schedMergesRow : OpenClaim := { program := "ytaopaongpoecoaa", sum := "61a18aed9140626229ec467eed8a826366a67e98ed4f5b69fb9d520a43da741b", func := "reprise/repriselaw22.SchedMerges", spec := "schedMerges", unfollowed := true, recurses := true, apart := false }
def SchedMergesSaid : Prop := schedMergesRow.holds Try.pinned (OpenSpec.ofChange schedMergesSpec)

/-- ITS FALSE NEIGHBOUR: 'it returns false'. Refute it at one input. -/
def schedMergesWrong : ChangeSpec := { name := "schedMerges", fn := fun _ => fun
  | [d1, d2, d3, d4] => { results := [.lit (.bool false)], args := [d1, d2, d3, d4] }
  | _ => none }
def SchedMergesWrongFalsely : Prop := schedMergesRow.holds Try.pinned (OpenSpec.ofChange schedMergesWrong)

/- THE SECOND FORM. 'bulk': how many values and letters a reading holds, each counted each time it is reached (what is shared counts as often as it is met; a slice's spare places count too). A statement '..UptoSaid' is the law's where the arguments, and the package variables that the reading takes, are together of bulk at most 1048576: NARROWER than '..Said'. Prove '..Said' where nothing that the law and all that it calls make is longer than what came in: it says more and counts as full. Else prove '..UptoSaid'. A law counts once. -/
mutual
def uptoBulk {H : Type} : DataW H → Nat
  | .lit (.string bytes) => bytes.length + 1
  | .lit _ => 1
  | .nil => 1
  | .ptr d => uptoBulk d + 1
  | .slice elems spare => uptoBulkAll elems + uptoBulkAll spare + 1
  | .agg parts => uptoBulkAll parts + 1
  | .iface _ d => uptoBulk d + 1
  | .map entries => uptoBulkEntries entries + 1
  | .held _ => 1
def uptoBulkAll {H : Type} : List (DataW H) → Nat
  | [] => 0
  | d :: r => uptoBulk d + uptoBulkAll r
def uptoBulkEntries {H : Type} : List (Lit × DataW H) → Nat
  | [] => 0
  | x :: r => uptoBulkEntry x + uptoBulkEntries r
def uptoBulkEntry {H : Type} : Lit × DataW H → Nat
  | (.string bytes, d) => bytes.length + uptoBulk d + 1
  | (_, d) => uptoBulk d + 1
 end
def uptoSmall : (H : Type) → List (DataW H) → Bool := fun _ ds => decide (uptoBulkAll ds ≤ 1048576)
def OpenSpec.upto (s : _root_.Go.ChangeSpec) : _root_.Go.OpenSpec := { _root_.Go.OpenSpec.ofChange s with cond := some uptoSmall }

/-- 'repriselaw22.SchedPlays', WHERE WHAT IT READS IS OF BULK AT MOST 1048576: true; the input reads as it did. -/
def schedPlaysUptoRow : OpenClaim := { program := "ytaopaongpoecoaa", sum := "61a18aed9140626229ec467eed8a826366a67e98ed4f5b69fb9d520a43da741b", func := "reprise/repriselaw22.SchedPlays", spec := "schedPlays", unfollowed := true, recurses := true, apart := false, narrowed := true }
def SchedPlaysUptoSaid : Prop := schedPlaysUptoRow.holds Try.pinned (OpenSpec.upto schedPlaysSpec)

/-- 'repriselaw22.SchedSorts', WHERE WHAT IT READS IS OF BULK AT MOST 1048576: true; the input reads as it did. -/
def schedSortsUptoRow : OpenClaim := { program := "ytaopaongpoecoaa", sum := "61a18aed9140626229ec467eed8a826366a67e98ed4f5b69fb9d520a43da741b", func := "reprise/repriselaw22.SchedSorts", spec := "schedSorts", unfollowed := true, recurses := true, apart := false, narrowed := true }
def SchedSortsUptoSaid : Prop := schedSortsUptoRow.holds Try.pinned (OpenSpec.upto schedSortsSpec)

/-- 'repriselaw22.SchedMerges', WHERE WHAT IT READS IS OF BULK AT MOST 1048576: true; the input reads as it did. -/
def schedMergesUptoRow : OpenClaim := { program := "ytaopaongpoecoaa", sum := "61a18aed9140626229ec467eed8a826366a67e98ed4f5b69fb9d520a43da741b", func := "reprise/repriselaw22.SchedMerges", spec := "schedMerges", unfollowed := true, recurses := true, apart := false, narrowed := true }
def SchedMergesUptoSaid : Prop := schedMergesUptoRow.holds Try.pinned (OpenSpec.upto schedMergesSpec)

end Rows
end Go.Proofs.Ytaopaongpoecoaa
