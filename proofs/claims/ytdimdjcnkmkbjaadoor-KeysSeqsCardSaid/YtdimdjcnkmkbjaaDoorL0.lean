/- What the listed tables hold when a law is called. -/
import Derived.Test.YtdimdjcnkmkbjaaDoorM4
import Derived.Test.YtdimdjcnkmkbjaaDoorM3
import Derived.Test.YtdimdjcnkmkbjaaDoorCards
import Derived.Test.YtdimdjcnkmkbjaaDoorTie
import Derived.WalkKit
import Derived.ProofKit
import Derived.OpenShut
set_option linter.unusedVariables false
set_option linter.unusedSimpArgs false
set_option maxRecDepth 100000
namespace Go.Proofs.YtdimdjcnkmkbjaaDoor
open Go.ChangeShapes Go.WideShapes Go.ChangeAt Go.RowKit
theorem own : ownKnob Tryd.prog.godebug = none := by kernel_rfl
theorem gFirst : Tryd.prog.globalNamed "unicode/utf8.first" = some 1 := by kernel_rfl
theorem gAcc : Tryd.prog.globalNamed "unicode/utf8.acceptRanges" = some 2 := by kernel_rfl
theorem gFirstT : ((Tryd.prog.globals[1]?).map (·.type)).map (flatT Tryd.prog 4) = some true := by kernel_rfl
theorem gAccT : ((Tryd.prog.globals[2]?).map (·.type)).map (flatT Tryd.prog 4) = some true := by kernel_rfl
def dvV : DV → Value
  | .int k n => .int k n
  | .bool b => .bool b
  | _ => Go.undef
theorem flat_first : flat 4 Rows.laid_unicode_utf8_first = firstRow.map dvV := by kernel_rfl
theorem flat_acc : flat 4 (Rows.laid_unicode_utf8_acceptRanges (H := Unit)) = accRow.map dvV := by kernel_rfl
theorem rp_laid {w : World} {g : Nat} {row : List DV} {d : DataW Unit} (h : ∀ i, w.cell? ⟨g, i, none⟩ = (flat 4 d)[i]?) (hf : flat 4 d = row.map dvV) (hr : ∀ d ∈ row, (∃ k n, d = .int k n)) :
    Rel (Gh.all w) (.rp row 0) (.pointer (some ⟨g, 0, none⟩)) := by
  refine rp_of_cells (vs := row.map dvV) (fun i => by rw [h i, hf]) (by simp) fun i d v h1 h2 => ?_
  rw [List.getElem?_map, h1] at h2
  obtain rfl := Option.some.inj h2
  obtain ⟨k, n, rfl⟩ := hr d (List.mem_of_getElem? h1)
  exact ⟨.int k n, rfl⟩
theorem glob_of_laid {w : World} {laid : List (String × DataW Unit)} (h : laidMetH Tryd.prog laid w) (hl : laid = [("unicode/utf8.acceptRanges", Rows.laid_unicode_utf8_acceptRanges), ("unicode/utf8.first", Rows.laid_unicode_utf8_first)]) : GlobOk PG (Gh.all w) := by
  subst hl
  intro g row hg
  simp only [PG] at hg
  split at hg
  · rename_i e
    subst e
    obtain rfl := Option.some.inj hg
    cases ht : (Tryd.prog.globals[1]?).map (·.type) with
    | none => have := gFirstT; rw [ht] at this; cases this
    | some t =>
      have h2 := gFirstT
      rw [ht] at h2
      refine rp_laid (laid_cells h (by kernel_rfl) (name := "unicode/utf8.first") (by simp) gFirst ht (n := 4) (Option.some.inj h2)) flat_first fun d hd => ?_
      simp only [firstRow, List.mem_map] at hd
      obtain ⟨i, _, rfl⟩ := hd
      exact ⟨_, _, rfl⟩
  · split at hg
    · rename_i e
      subst e
      obtain rfl := Option.some.inj hg
      cases ht : (Tryd.prog.globals[2]?).map (·.type) with
      | none => have := gAccT; rw [ht] at this; cases this
      | some t =>
        have h2 := gAccT
        rw [ht] at h2
        refine rp_laid (laid_cells h (by kernel_rfl) (name := "unicode/utf8.acceptRanges") (by simp) gAcc ht (n := 4) (Option.some.inj h2)) flat_acc fun d hd => ?_
        simp only [accRow, List.mem_map] at hd
        obtain ⟨i, _, rfl⟩ := hd
        exact ⟨_, _, rfl⟩
    · cases hg
/-- A world for the witness: the settled one, the tables laid. -/
noncomputable def layRow (row : List DV) (x : Obj) : Obj :=
  match x with
  | .cells _ t frozen => .cells (row.map dvV).toArray t frozen
  | o => o
noncomputable def laidWorld (os : Os) : World :=
  { World.holding Tryd.prog os ⟨#[], #[], []⟩ with heap := ((World.holding Tryd.prog os ⟨#[], #[], []⟩).heap.modify 1 (layRow firstRow)).modify 2 (layRow accRow) }
end Go.Proofs.YtdimdjcnkmkbjaaDoor
