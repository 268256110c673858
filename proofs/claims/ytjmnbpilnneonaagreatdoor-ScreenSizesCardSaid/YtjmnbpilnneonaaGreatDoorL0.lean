/- What the listed tables hold when a law is called. -/
import Derived.Test.YtjmnbpilnneonaaGreatDoorM4
import Derived.Test.YtjmnbpilnneonaaGreatDoorM3
import Derived.Test.YtjmnbpilnneonaaGreatDoorCards
import Derived.Test.YtjmnbpilnneonaaGreatDoorTie
import Derived.WalkKit
import Derived.ProofKit
import Derived.OpenShut
set_option linter.unusedVariables false
set_option linter.unusedSimpArgs false
set_option maxRecDepth 100000
namespace Go.Proofs.YtjmnbpilnneonaaGreatDoor
open Go.ChangeShapes Go.WideShapes Go.ChangeAt Go.RowKit
theorem own : ownKnob Tryz.prog.godebug = none := by kernel_rfl
theorem gFirst : Tryz.prog.globalNamed "unicode/utf8.first" = some 0 := by kernel_rfl
theorem gAcc : Tryz.prog.globalNamed "unicode/utf8.acceptRanges" = some 1 := by kernel_rfl
theorem Ml : ((Tryz.prog.globals[0]?).map (·.type)).map (vX Tryz.prog 4) = some true := by kernel_rfl
theorem aai : ((Tryz.prog.globals[1]?).map (·.type)).map (vX Tryz.prog 4) = some true := by kernel_rfl
def dvV : DV → Value
  | .int k n => .int k n
  | .bool b => .bool b
  | _ => Go.undef
theorem flat_first : flat 4 Rows.laid_unicode_utf8_first = kW.map dvV := by kernel_rfl
theorem flat_acc : flat 4 (Rows.laid_unicode_utf8_acceptRanges (H := Unit)) = qQ.map dvV := by kernel_rfl
theorem rp_laid {w : World} {g : Nat} {row : List DV} {d : DataW Unit} (h : ∀ i, w.cell? ⟨g, i, none⟩ = (flat 4 d)[i]?) (hf : flat 4 d = row.map dvV) (hr : ∀ d ∈ row, (∃ k n, d = .int k n)) :
    Rel (Gh.all w) (.rp row 0) (.pointer (some ⟨g, 0, none⟩)) := by
  refine Gn (vs := row.map dvV) (fun i => by rw [h i, hf]) (by simp) fun i d v h1 h2 => ?_
  rw [List.getElem?_map, h1] at h2
  obtain rfl := Option.some.inj h2
  obtain ⟨k, n, rfl⟩ := hr d (List.mem_of_getElem? h1)
  exact ⟨.int k n, rfl⟩
theorem glob_of_laid {w : World} {laid : List (String × DataW Unit)} (h : laidMetH Tryz.prog laid w) (hl : laid = [("unicode/utf8.acceptRanges", Rows.laid_unicode_utf8_acceptRanges), ("unicode/utf8.first", Rows.laid_unicode_utf8_first)]) : GlobOk PG (Gh.all w) := by
  subst hl
  intro g row hg
  simp only [PG] at hg
  split at hg
  · rename_i e
    subst e
    obtain rfl := Option.some.inj hg
    cases ht : (Tryz.prog.globals[0]?).map (·.type) with
    | none => have := Ml; rw [ht] at this; cases this
    | some t =>
      have h2 := Ml
      rw [ht] at h2
      refine rp_laid (laid_cells h (by kernel_rfl) (name := "unicode/utf8.first") (by simp) gFirst ht (n := 4) (Option.some.inj h2)) flat_first fun d hd => ?_
      simp only [kW, List.mem_map] at hd
      obtain ⟨i, _, rfl⟩ := hd
      exact ⟨_, _, rfl⟩
  · split at hg
    · rename_i e
      subst e
      obtain rfl := Option.some.inj hg
      cases ht : (Tryz.prog.globals[1]?).map (·.type) with
      | none => have := aai; rw [ht] at this; cases this
      | some t =>
        have h2 := aai
        rw [ht] at h2
        refine rp_laid (laid_cells h (by kernel_rfl) (name := "unicode/utf8.acceptRanges") (by simp) gAcc ht (n := 4) (Option.some.inj h2)) flat_acc fun d hd => ?_
        simp only [qQ, List.mem_map] at hd
        obtain ⟨i, _, rfl⟩ := hd
        exact ⟨_, _, rfl⟩
    · cases hg
/-- A world for the witness: the settled one, the tables laid. -/
noncomputable def SW (row : List DV) (x : Obj) : Obj :=
  match x with
  | .cells _ t frozen => .cells (row.map dvV).toArray t frozen
  | o => o
noncomputable def xj (os : Os) : World :=
  { World.holding Tryz.prog os ⟨#[], #[], []⟩ with heap := ((World.holding Tryz.prog os ⟨#[], #[], []⟩).heap.modify 0 (SW kW)).modify 1 (SW qQ) }
end Go.Proofs.YtjmnbpilnneonaaGreatDoor
