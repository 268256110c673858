/- 'reprise/repriselaw22.SchedMerges' answers true for every input .
   Conditions: those of the given row. -/
import Derived.Test.YtaopaongpoecoaaS28
import Derived.Test.YtaopaongpoecoaaLS0
set_option linter.unusedVariables false
set_option linter.unusedSimpArgs false
namespace Go.Proofs.Ytaopaongpoecoaa.schedMerges
open Go.ChangeShapes Go.WideShapes Go.ChangeAt Go.RowKit
theorem laid_met (os : Os) : laidMet Try.prog Rows.schedMergesRow.laid ((laidWorld os).forCall (fun _ _ => 0) ⟨#[], #[.slice none 0 0, .slice none 0 0, .slice none 0 0, .slice none 0 0], []⟩).memory :=
  laidMet_of_run' 8 (by kernel_rfl) (by kernel_rfl)
def dat (H : Type) : List (DataW H) := [.nil, .nil, .nil, .nil]
theorem reads (os : Os) {H : Type} (enc : TypeId × Value → H) : ∃ places, DataW.whole enc Try.prog ((laidWorld os).forCall (fun _ _ => 0) ⟨#[], #[.slice none 0 0, .slice none 0 0, .slice none 0 0, .slice none 0 0], []⟩).memory Try.f5.params.toList Rows.schedMergesSpec.vars false (#[.slice none 0 0, .slice none 0 0, .slice none 0 0, .slice none 0 0] : Array Value).toList 8 = some (dat H, [], places) :=
  ⟨[], by kernel_rfl⟩
theorem shapes : asAll PG.P Try.f5.params.toList = some [(false, [.sl [.int .u8]]), (false, [.sl [.int .u8]]), (false, [.sl [.int .u8]]), (false, [.sl [.int .i64, .int .i64, .sl [.int .u8], .int .i64, .int .i64]])] := by kernel_rfl
set_option maxRecDepth 100000 in
theorem lifted (os : Os) (started : os.Started) (H : Type) (enc : TypeId × Value → H) (F : Stop.Interp) :
    ReturnsInHanded {} Try.checked os 5 .any ((OpenSpec.ofChange Rows.schedMergesSpec).preRow enc Try.prog Try.f5 Rows.schedMergesRow.domain false Rows.schedMergesRow.laid) (((OpenSpec.ofChange Rows.schedMergesSpec).at F).post enc Try.prog Try.f5 false true false false) := by
  obtain ⟨places, hx⟩ := reads os enc
  refine returnsInHanded_of_row (C := Try.checked) (s := (OpenSpec.ofChange Rows.schedMergesSpec)) own started (by kernel_rfl) Try.func5
    (witness_row_at (enc := enc) (C := Try.checked) false (laidWorld os) #[.slice none 0 0, .slice none 0 0, .slice none 0 0, .slice none 0 0] rfl (by kernel_rfl) (by kernel_rfl) (by kernel_rfl)
      (OpenSpec.preRow_of_cond 8 hx (by kernel_rfl) (fun k hk => by cases hk) (by kernel_rfl) (laid_met os))) ?_
  intro W base args ds gs before hval hW _ _ _ hL _ _
  exact law_contractG (E := PG) (k := 4) (tb := 4) (l := [(false, [.sl [.int .u8]]), (false, [.sl [.int .u8]]), (false, [.sl [.int .u8]]), (false, [.sl [.int .i64, .int .i64, .sl [.int .u8], .int .i64, .int .i64]])]) (by kernel_rfl) (by kernel_rfl)
    (fun ds h => by
      match ds, h with
      | [d0, d1, d2, d3], _ => rfl) rfl (by kernel_rfl) shapes (fun g row h => by cases h) (fun dv hc => CallK.g (schedMerges_true dv hc (K := fun r _ => r = .bool true) fun _ => rfl) fun _ _ h => h) hval hW
theorem said : Rows.SchedMergesSaid :=
  OpenClaim.holds_of_cond 5 Try.f5 rfl rfl rfl rfl rfl rfl rfl ⟨rfl, rfl, rfl, rfl, rfl⟩ rfl rfl rfl rfl rfl (by kernel_rfl) Try.func5 (by kernel_rfl)
    (of_decide_eq_true (by kernel_rfl)) (by unfold Func.isWrapper; first | (rw [if_pos (by decide +kernel)]; kernel_rfl) | (rw [if_neg (by decide +kernel)]; exact ⟨rfl, rfl⟩))
    (fun os started H enc _ F => by rw [OpenClaim.pre_eq_preRow]; exact lifted os started H enc F)
end Go.Proofs.Ytaopaongpoecoaa.schedMerges
namespace Go.Proofs.Ytaopaongpoecoaa
theorem schedMerges_holds : Rows.SchedMergesSaid := schedMerges.said
end Go.Proofs.Ytaopaongpoecoaa
