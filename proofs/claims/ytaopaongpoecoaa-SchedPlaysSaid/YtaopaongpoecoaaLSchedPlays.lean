/- 'reprise/repriselaw22.SchedPlays' answers true for every input .
   Conditions: those of the given row. -/
import Derived.Test.YtaopaongpoecoaaS19
import Derived.Test.YtaopaongpoecoaaLS0
set_option linter.unusedVariables false
set_option linter.unusedSimpArgs false
namespace Go.Proofs.Ytaopaongpoecoaa.schedPlays
open Go.ChangeShapes Go.WideShapes Go.ChangeAt Go.RowKit
theorem laid_met (os : Os) : laidMet Try.prog Rows.schedPlaysRow.laid ((laidWorld os).forCall (fun _ _ => 0) ⟨#[], #[.slice none 0 0], []⟩).memory :=
  laidMet_of_run' 8 (by kernel_rfl) (by kernel_rfl)
def dat (H : Type) : List (DataW H) := [.nil]
theorem reads (os : Os) {H : Type} (enc : TypeId × Value → H) : ∃ places, DataW.whole enc Try.prog ((laidWorld os).forCall (fun _ _ => 0) ⟨#[], #[.slice none 0 0], []⟩).memory Try.f3.params.toList Rows.schedPlaysSpec.vars false (#[.slice none 0 0] : Array Value).toList 8 = some (dat H, [], places) :=
  ⟨[], by kernel_rfl⟩
theorem shapes : asAll PG.P Try.f3.params.toList = some [(false, [.sl [.int .u8, .int .i64, .int .i64]])] := by kernel_rfl
set_option maxRecDepth 100000 in
theorem lifted (os : Os) (started : os.Started) (H : Type) (enc : TypeId × Value → H) (F : Stop.Interp) :
    ReturnsInHanded {} Try.checked os 3 .any ((OpenSpec.ofChange Rows.schedPlaysSpec).preRow enc Try.prog Try.f3 Rows.schedPlaysRow.domain false Rows.schedPlaysRow.laid) (((OpenSpec.ofChange Rows.schedPlaysSpec).at F).post enc Try.prog Try.f3 false true false false) := by
  obtain ⟨places, hx⟩ := reads os enc
  refine returnsInHanded_of_row (C := Try.checked) (s := (OpenSpec.ofChange Rows.schedPlaysSpec)) own started (by kernel_rfl) Try.func3
    (witness_row_at (enc := enc) (C := Try.checked) false (laidWorld os) #[.slice none 0 0] rfl (by kernel_rfl) (by kernel_rfl) (by kernel_rfl)
      (OpenSpec.preRow_of_cond 8 hx (by kernel_rfl) (fun k hk => by cases hk) (by kernel_rfl) (laid_met os))) ?_
  intro W base args ds gs before hval hW _ _ _ hL _ _
  exact law_contractG (E := PG) (k := 1) (tb := 4) (l := [(false, [.sl [.int .u8, .int .i64, .int .i64]])]) (by kernel_rfl) (by kernel_rfl)
    (fun ds h => by
      match ds, h with
      | [d0], _ => rfl) rfl (by kernel_rfl) shapes (fun g row h => by cases h) (fun dv hc => CallK.g (schedPlays_true dv hc (K := fun r _ => r = .bool true) fun _ => rfl) fun _ _ h => h) hval hW
theorem said : Rows.SchedPlaysSaid :=
  OpenClaim.holds_of_cond 3 Try.f3 rfl rfl rfl rfl rfl rfl rfl ⟨rfl, rfl, rfl, rfl, rfl⟩ rfl rfl rfl rfl rfl (by kernel_rfl) Try.func3 (by kernel_rfl)
    (of_decide_eq_true (by kernel_rfl)) (by unfold Func.isWrapper; first | (rw [if_pos (by decide +kernel)]; kernel_rfl) | (rw [if_neg (by decide +kernel)]; exact ⟨rfl, rfl⟩))
    (fun os started H enc _ F => by rw [OpenClaim.pre_eq_preRow]; exact lifted os started H enc F)
end Go.Proofs.Ytaopaongpoecoaa.schedPlays
namespace Go.Proofs.Ytaopaongpoecoaa
theorem schedPlays_holds : Rows.SchedPlaysSaid := schedPlays.said
end Go.Proofs.Ytaopaongpoecoaa
