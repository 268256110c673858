/- 'reprise/repriselaw9.ScreenSizes' answers true for every input (its card: the tables of utf8 as the program's text lays them).
   Conditions: those of the given row. -/
import Derived.Test.YtjmnbpilnneonaaGreatDoorNM
import Derived.Test.YtjmnbpilnneonaaGreatDoorL0
set_option linter.unusedVariables false
set_option linter.unusedSimpArgs false
namespace Go.Proofs.YtjmnbpilnneonaaGreatDoor.screenSizes
open Go.ChangeShapes Go.WideShapes Go.ChangeAt Go.RowKit
theorem SX (os : Os) : laidMet Tryz.prog Rows.screenSizesRow.laid ((xj os).forCall (fun _ _ => 0) ⟨#[], #[.int .u8 0, .int .u8 0, .slice none 0 0, .int .u8 0, .int .u8 0, .int .i64 0, .int .i64 0], []⟩).memory :=
  laidMet_of_run' 8 (by kernel_rfl) (by kernel_rfl)
def dat (H : Type) : List (DataW H) := [.lit (.int .u8 0), .lit (.int .u8 0), .nil, .lit (.int .u8 0), .lit (.int .u8 0), .lit (.int .i64 0), .lit (.int .i64 0)]
theorem reads (os : Os) {H : Type} (enc : TypeId × Value → H) : ∃ places, DataW.whole enc Tryz.prog ((xj os).forCall (fun _ _ => 0) ⟨#[], #[.int .u8 0, .int .u8 0, .slice none 0 0, .int .u8 0, .int .u8 0, .int .i64 0, .int .i64 0], []⟩).memory Tryz.f7.params.toList Rows.screenSizesSpec.vars false (#[.int .u8 0, .int .u8 0, .slice none 0 0, .int .u8 0, .int .u8 0, .int .i64 0, .int .i64 0] : Array Value).toList 8 = some (dat H, [], places) :=
  ⟨[], by kernel_rfl⟩
theorem aaL : A4 PG.P Tryz.f7.params.toList = some [(false, [.int .u8]), (false, [.int .u8]), (false, [.sl [.int .u8]]), (false, [.int .u8]), (false, [.int .u8]), (false, [.int .i64]), (false, [.int .i64])] := by kernel_rfl
set_option maxRecDepth 100000 in
theorem lifted (os : Os) (started : os.Started) (H : Type) (enc : TypeId × Value → H) (F : Stop.Interp) :
    ReturnsInHanded {} Tryz.checked os 7 .any ((OpenSpec.ofChange Rows.screenSizesSpec).preRow enc Tryz.prog Tryz.f7 Rows.screenSizesRow.domain false Rows.screenSizesRow.laid) (((OpenSpec.ofChange Rows.screenSizesSpec).at F).post enc Tryz.prog Tryz.f7 false true false false) := by
  obtain ⟨places, hx⟩ := reads os enc
  refine returnsInHanded_of_row (C := Tryz.checked) (s := (OpenSpec.ofChange Rows.screenSizesSpec)) own started (by kernel_rfl) Tryz.func7
    (witness_row_at (enc := enc) (C := Tryz.checked) false (xj os) #[.int .u8 0, .int .u8 0, .slice none 0 0, .int .u8 0, .int .u8 0, .int .i64 0, .int .i64 0] rfl (by kernel_rfl) (by kernel_rfl) (by kernel_rfl)
      (OpenSpec.preRow_of_cond 8 hx (by kernel_rfl) (fun k hk => by cases hk) (by kernel_rfl) (SX os))) ?_
  intro W base args ds gs before hval hW _ _ _ hL _ _
  exact BW (E := PG) (k := 7) (tb := 4) (l := [(false, [.int .u8]), (false, [.int .u8]), (false, [.sl [.int .u8]]), (false, [.int .u8]), (false, [.int .u8]), (false, [.int .i64]), (false, [.int .i64])]) (by kernel_rfl) (by kernel_rfl)
    (fun ds h => by
      match ds, h with
      | [d0, d1, d2, d3, d4, d5, d6], _ => rfl) rfl (by kernel_rfl) aaL (glob_of_laid hL rfl) (fun dv hc => aj.g (afb dv hc (K := fun r _ => r = .bool true) fun _ => rfl) fun _ _ h => h) hval hW
theorem said : Rows.ScreenSizesSaid :=
  OpenClaim.holds_of_cond 7 Tryz.f7 rfl rfl rfl rfl rfl rfl rfl ⟨rfl, rfl, rfl, rfl, rfl⟩ rfl rfl rfl rfl rfl (by kernel_rfl) Tryz.func7 (by kernel_rfl)
    (of_decide_eq_true (by kernel_rfl)) (by unfold Func.isWrapper; first | (rw [if_pos (by decide +kernel)]; kernel_rfl) | (rw [if_neg (by decide +kernel)]; exact ⟨rfl, rfl⟩))
    (fun os started H enc _ F => by rw [OpenClaim.pre_eq_preRow]; exact lifted os started H enc F)
theorem plain (f : FuncId) (fn : Func) (hf : Tryz.pinned.checked.prog.funcNamed "reprise/repriselaw9.ScreenSizes" = some f) (hfn : Tryz.pinned.checked.prog.funcs[f]? = some fn) :
    false = Tryz.pinned.checked.prog.looks [] ∧ ∀ (j : Nat) t, fn.params[j]? = some t → Tryz.pinned.checked.prog.wantsStandIn t = false := by
  obtain rfl : f = 7 := Option.some.inj ((show Tryz.prog.funcNamed "reprise/repriselaw9.ScreenSizes" = some 7 by kernel_rfl).symm.trans hf) |>.symm
  obtain rfl : fn = Tryz.f7 := (Option.some.inj (Tryz.func7.symm.trans hfn)).symm
  refine ⟨by kernel_rfl, fun j t ht => ?_⟩
  have key : Tryz.f7.params.toList.all (fun t => !Tryz.prog.wantsStandIn t) = true := by kernel_rfl
  have := List.all_eq_true.1 key t (by simpa using Array.mem_of_getElem? ht)
  exact (show Tryz.prog.wantsStandIn t = false by simpa using this)
theorem aeA : Rows.ScreenSizesCardSaid :=
  Claim7.holds_tied_plain_at .later [] _ _ _ _ said (fun _ h => by cases h) (by kernel_rfl) (fun _ h => by cases h) screenSizes_row_tie rfl ⟨rfl, rfl⟩ (by kernel_rfl) rfl plain (by kernel_rfl)
end Go.Proofs.YtjmnbpilnneonaaGreatDoor.screenSizes
namespace Go.Proofs.YtjmnbpilnneonaaGreatDoor
theorem screenSizes_card : Rows.ScreenSizesCardSaid := screenSizes.aeA
end Go.Proofs.YtjmnbpilnneonaaGreatDoor
