/- 'reprise/repriselaw9.ScreenWraps' answers true for every input (its card: the tables of utf8 as the program's text lays them).
   Conditions: those of the given row. -/
import Derived.Test.YtjmnbpilnneonaaDoorNW
import Derived.Test.YtjmnbpilnneonaaDoorL0
set_option linter.unusedVariables false
set_option linter.unusedSimpArgs false
namespace Go.Proofs.YtjmnbpilnneonaaDoor.screenWraps
open Go.ChangeShapes Go.WideShapes Go.ChangeAt Go.RowKit
theorem laid_met (os : Os) : laidMet Tryd.prog Rows.screenWrapsRow.laid ((laidWorld os).forCall (fun _ _ => 0) ⟨#[], #[.int .u8 0, .int .u8 0], []⟩).memory :=
  laidMet_of_run' 8 (by kernel_rfl) (by kernel_rfl)
def dat (H : Type) : List (DataW H) := [.lit (.int .u8 0), .lit (.int .u8 0)]
theorem reads (os : Os) {H : Type} (enc : TypeId × Value → H) : ∃ places, DataW.whole enc Tryd.prog ((laidWorld os).forCall (fun _ _ => 0) ⟨#[], #[.int .u8 0, .int .u8 0], []⟩).memory Tryd.f3.params.toList Rows.screenWrapsSpec.vars false (#[.int .u8 0, .int .u8 0] : Array Value).toList 8 = some (dat H, [], places) :=
  ⟨[], by kernel_rfl⟩
theorem shapes : asAll PG.P Tryd.f3.params.toList = some [(false, [.int .u8]), (false, [.int .u8])] := by kernel_rfl
set_option maxRecDepth 100000 in
theorem lifted (os : Os) (started : os.Started) (H : Type) (enc : TypeId × Value → H) (F : Stop.Interp) :
    ReturnsInHanded {} Tryd.checked os 3 .any ((OpenSpec.ofChange Rows.screenWrapsSpec).preRow enc Tryd.prog Tryd.f3 Rows.screenWrapsRow.domain false Rows.screenWrapsRow.laid) (((OpenSpec.ofChange Rows.screenWrapsSpec).at F).post enc Tryd.prog Tryd.f3 false true false false) := by
  obtain ⟨places, hx⟩ := reads os enc
  refine returnsInHanded_of_row (C := Tryd.checked) (s := (OpenSpec.ofChange Rows.screenWrapsSpec)) own started (by kernel_rfl) Tryd.func3
    (witness_row_at (enc := enc) (C := Tryd.checked) false (laidWorld os) #[.int .u8 0, .int .u8 0] rfl (by kernel_rfl) (by kernel_rfl) (by kernel_rfl)
      (OpenSpec.preRow_of_cond 8 hx (by kernel_rfl) (fun k hk => by cases hk) (by kernel_rfl) (laid_met os))) ?_
  intro W base args ds gs before hval hW _ _ _ hL _ _
  exact law_contractG (E := PG) (k := 2) (tb := 4) (l := [(false, [.int .u8]), (false, [.int .u8])]) (by kernel_rfl) (by kernel_rfl)
    (fun ds h => by
      match ds, h with
      | [d0, d1], _ => rfl) rfl (by kernel_rfl) shapes (glob_of_laid hL rfl) (fun dv hc => CallK.g (screenWraps_true dv hc (K := fun r _ => r = .bool true) fun _ => rfl) fun _ _ h => h) hval hW
theorem said : Rows.ScreenWrapsSaid :=
  OpenClaim.holds_of_cond 3 Tryd.f3 rfl rfl rfl rfl rfl rfl rfl ⟨rfl, rfl, rfl, rfl, rfl⟩ rfl rfl rfl rfl rfl (by kernel_rfl) Tryd.func3 (by kernel_rfl)
    (of_decide_eq_true (by kernel_rfl)) (by unfold Func.isWrapper; first | (rw [if_pos (by decide +kernel)]; kernel_rfl) | (rw [if_neg (by decide +kernel)]; exact ⟨rfl, rfl⟩))
    (fun os started H enc _ F => by rw [OpenClaim.pre_eq_preRow]; exact lifted os started H enc F)
theorem plain (f : FuncId) (fn : Func) (hf : Tryd.pinned.checked.prog.funcNamed "reprise/repriselaw9.ScreenWraps" = some f) (hfn : Tryd.pinned.checked.prog.funcs[f]? = some fn) :
    false = Tryd.pinned.checked.prog.looks [] ∧ ∀ (j : Nat) t, fn.params[j]? = some t → Tryd.pinned.checked.prog.wantsStandIn t = false := by
  obtain rfl : f = 3 := Option.some.inj ((show Tryd.prog.funcNamed "reprise/repriselaw9.ScreenWraps" = some 3 by kernel_rfl).symm.trans hf) |>.symm
  obtain rfl : fn = Tryd.f3 := (Option.some.inj (Tryd.func3.symm.trans hfn)).symm
  refine ⟨by kernel_rfl, fun j t ht => ?_⟩
  have key : Tryd.f3.params.toList.all (fun t => !Tryd.prog.wantsStandIn t) = true := by kernel_rfl
  have := List.all_eq_true.1 key t (by simpa using Array.mem_of_getElem? ht)
  exact (show Tryd.prog.wantsStandIn t = false by simpa using this)
theorem card : Rows.ScreenWrapsCardSaid :=
  Claim7.holds_tied_plain_at .later [] _ _ _ _ said (fun _ h => by cases h) (by kernel_rfl) (fun _ h => by cases h) screenWraps_row_tie rfl ⟨rfl, rfl⟩ (by kernel_rfl) rfl plain (by kernel_rfl)
end Go.Proofs.YtjmnbpilnneonaaDoor.screenWraps
namespace Go.Proofs.YtjmnbpilnneonaaDoor
theorem screenWraps_card : Rows.ScreenWrapsCardSaid := screenWraps.card
end Go.Proofs.YtjmnbpilnneonaaDoor
