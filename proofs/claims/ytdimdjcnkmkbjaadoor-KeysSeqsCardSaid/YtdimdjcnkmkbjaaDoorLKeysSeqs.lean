/- 'reprise/repriselaw18.KeysSeqs' answers true for every input (its card: the tables of utf8 as the program's text lays them).
   Conditions: those of the given row. -/
import Derived.Test.YtdimdjcnkmkbjaaDoorN6
import Derived.Test.YtdimdjcnkmkbjaaDoorL0
set_option linter.unusedVariables false
set_option linter.unusedSimpArgs false
namespace Go.Proofs.YtdimdjcnkmkbjaaDoor.keysSeqs
open Go.ChangeShapes Go.WideShapes Go.ChangeAt Go.RowKit
theorem laid_met (os : Os) : laidMet Tryd.prog Rows.keysSeqsRow.laid ((laidWorld os).forCall (fun _ _ => 0) ⟨#[], #[.int .u8 0, .int .u8 0, .slice none 0 0], []⟩).memory :=
  laidMet_of_run' 8 (by kernel_rfl) (by kernel_rfl)
def dat (H : Type) : List (DataW H) := [.lit (.int .u8 0), .lit (.int .u8 0), .nil]
theorem reads (os : Os) {H : Type} (enc : TypeId × Value → H) : ∃ places, DataW.whole enc Tryd.prog ((laidWorld os).forCall (fun _ _ => 0) ⟨#[], #[.int .u8 0, .int .u8 0, .slice none 0 0], []⟩).memory Tryd.f5.params.toList Rows.keysSeqsSpec.vars false (#[.int .u8 0, .int .u8 0, .slice none 0 0] : Array Value).toList 8 = some (dat H, [], places) :=
  ⟨[], by kernel_rfl⟩
theorem shapes : asAll PG.P Tryd.f5.params.toList = some [(false, [.int .u8]), (false, [.int .u8]), (false, [.sl [.int .u8]])] := by kernel_rfl
set_option maxRecDepth 100000 in
theorem lifted (os : Os) (started : os.Started) (H : Type) (enc : TypeId × Value → H) (F : Stop.Interp) :
    ReturnsInHanded {} Tryd.checked os 5 .any ((OpenSpec.ofChange Rows.keysSeqsSpec).preRow enc Tryd.prog Tryd.f5 Rows.keysSeqsRow.domain false Rows.keysSeqsRow.laid) (((OpenSpec.ofChange Rows.keysSeqsSpec).at F).post enc Tryd.prog Tryd.f5 false true false false) := by
  obtain ⟨places, hx⟩ := reads os enc
  refine returnsInHanded_of_row (C := Tryd.checked) (s := (OpenSpec.ofChange Rows.keysSeqsSpec)) own started (by kernel_rfl) Tryd.func5
    (witness_row_at (enc := enc) (C := Tryd.checked) false (laidWorld os) #[.int .u8 0, .int .u8 0, .slice none 0 0] rfl (by kernel_rfl) (by kernel_rfl) (by kernel_rfl)
      (OpenSpec.preRow_of_cond 8 hx (by kernel_rfl) (fun k hk => by cases hk) (by kernel_rfl) (laid_met os))) ?_
  intro W base args ds gs before hval hW _ _ _ hL _ _
  exact law_contractG (E := PG) (k := 3) (tb := 4) (l := [(false, [.int .u8]), (false, [.int .u8]), (false, [.sl [.int .u8]])]) (by kernel_rfl) (by kernel_rfl)
    (fun ds h => by
      match ds, h with
      | [d0, d1, d2], _ => rfl) rfl (by kernel_rfl) shapes (glob_of_laid hL rfl) (fun dv hc => CallK.g (keysSeqs_true dv hc (K := fun r _ => r = .bool true) fun _ => rfl) fun _ _ h => h) hval hW
theorem said : Rows.KeysSeqsSaid :=
  OpenClaim.holds_of_cond 5 Tryd.f5 rfl rfl rfl rfl rfl rfl rfl ⟨rfl, rfl, rfl, rfl, rfl⟩ rfl rfl rfl rfl rfl (by kernel_rfl) Tryd.func5 (by kernel_rfl)
    (of_decide_eq_true (by kernel_rfl)) (by unfold Func.isWrapper; first | (rw [if_pos (by decide +kernel)]; kernel_rfl) | (rw [if_neg (by decide +kernel)]; exact ⟨rfl, rfl⟩))
    (fun os started H enc _ F => by rw [OpenClaim.pre_eq_preRow]; exact lifted os started H enc F)
theorem plain (f : FuncId) (fn : Func) (hf : Tryd.pinned.checked.prog.funcNamed "reprise/repriselaw18.KeysSeqs" = some f) (hfn : Tryd.pinned.checked.prog.funcs[f]? = some fn) :
    false = Tryd.pinned.checked.prog.looks [] ∧ ∀ (j : Nat) t, fn.params[j]? = some t → Tryd.pinned.checked.prog.wantsStandIn t = false := by
  obtain rfl : f = 5 := Option.some.inj ((show Tryd.prog.funcNamed "reprise/repriselaw18.KeysSeqs" = some 5 by kernel_rfl).symm.trans hf) |>.symm
  obtain rfl : fn = Tryd.f5 := (Option.some.inj (Tryd.func5.symm.trans hfn)).symm
  refine ⟨by kernel_rfl, fun j t ht => ?_⟩
  have key : Tryd.f5.params.toList.all (fun t => !Tryd.prog.wantsStandIn t) = true := by kernel_rfl
  have := List.all_eq_true.1 key t (by simpa using Array.mem_of_getElem? ht)
  exact (show Tryd.prog.wantsStandIn t = false by simpa using this)
theorem card : Rows.KeysSeqsCardSaid :=
  Claim7.holds_tied_plain_at .later [] _ _ _ _ said (fun _ h => by cases h) (by kernel_rfl) (fun _ h => by cases h) keysSeqs_row_tie rfl ⟨rfl, rfl⟩ (by kernel_rfl) rfl plain (by kernel_rfl)
end Go.Proofs.YtdimdjcnkmkbjaaDoor.keysSeqs
namespace Go.Proofs.YtdimdjcnkmkbjaaDoor
theorem keysSeqs_card : Rows.KeysSeqsCardSaid := keysSeqs.card
end Go.Proofs.YtdimdjcnkmkbjaaDoor
