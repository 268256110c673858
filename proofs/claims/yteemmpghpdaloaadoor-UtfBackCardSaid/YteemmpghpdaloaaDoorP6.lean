/- utf.Step of any bytes; utf.Put. -/
import Derived.Test.YteemmpghpdaloaaDoorP5
set_option linter.unusedVariables false
set_option linter.unusedSimpArgs false
set_option maxRecDepth 10000
namespace Go.Proofs.YteemmpghpdaloaaDoor
open Go.RowKit

theorem ustep_nil (b : Int) : ustep [] b = ustepA [] b := by simp [ustep, ubeg]
theorem step_any {sz : Nat} {k : SK} {b : Int} {l : List Int} (hs : sz = 1 ∨ l = []) (hk : inK .u8 l) (hl : l.length ≤ 1000000) (hb : 0 ≤ b ∧ b ≤ 255) :
    PCalls PG 17 [.sl sz (intRows .u8 l) k, .int .u8 b] fun n r os => r = .tup [.sl 1 (intRows .u8 (ustep l b).1) .any, .sl 1 (intRows .i32 (ustep l b).2) .any] ∧ os = [] := by
  refine PCalls.any_arg (i := 0) rfl (fun h => ?_) ?_
  · have hn : l = [] := by simpa [intRows] using h
    subst hn
    rw [ustep_nil]
    exact step0_P hb
  · exact step_P hs hk hl hb
def F_step : List DV → Option FSpec
  | [.sl sz rows k, .int .u8 b] => some ⟨isInts .u8 (.sl sz rows k) ∧ rows.length ≤ 1000000 ∧ 0 ≤ b ∧ b ≤ 255, fun n => (.tup [.sl 1 (intRows .u8 (ustep (ints rows) b).1) .any, .sl 1 (intRows .i32 (ustep (ints rows) b).2) .any], [])⟩
  | _ => none
theorem F_step_1 (sz : Nat) (rows : List (List DV)) (k : SK) (b : Int) : F_step [.sl sz rows k, .int .u8 b] = some ⟨isInts .u8 (.sl sz rows k) ∧ rows.length ≤ 1000000 ∧ 0 ≤ b ∧ b ≤ 255, fun n => (.tup [.sl 1 (intRows .u8 (ustep (ints rows) b).1) .any, .sl 1 (intRows .i32 (ustep (ints rows) b).2) .any], [])⟩ := nrfl _
theorem fstep_ok (args : List DV) (s : FSpec) (hs : F_step args = some s) (hp : s.pre) : PCalls PG 17 args fun n r os => r = (s.res n).1 ∧ os = (s.res n).2 := by
  unfold F_step at hs
  split at hs
  · rename_i sz rows k b
    obtain rfl := Option.some.inj hs
    obtain ⟨⟨h1, h2, h3⟩, h4, h5, h6⟩ := hp
    have h7 : (ints rows).length = rows.length := by simp [ints]
    have := step_any (sz := sz) (k := k) (l := ints rows) (h2.imp id fun h => by simp [h, ints]) h3 (by omega) ⟨h5, h6⟩
    rw [← h1] at this
    exact this
  · cases hs

def F_appNon : List DV → Option FSpec
  | [.sl sz [] .nil, .int .i32 r] => some ⟨(-2147483648 ≤ r ∧ r ≤ 2147483647) ∧ ¬ (0 ≤ r ∧ r ≤ 127), fun n => (.own n 0 (enc r).length, [some (.arr 1 (intRows .u8 (enc r)))])⟩
  | _ => none
theorem F_appNon_1 (sz : Nat) (r : Int) : F_appNon [.sl sz [] .nil, .int .i32 r] = some ⟨(-2147483648 ≤ r ∧ r ≤ 2147483647) ∧ ¬ (0 ≤ r ∧ r ≤ 127), fun n => (.own n 0 (enc r).length, [some (.arr 1 (intRows .u8 (enc r)))])⟩ := nrfl _
theorem appNon_ok (args : List DV) (s : FSpec) (hs : F_appNon args = some s) (hp : s.pre) : PCalls PG 50 args fun n r os => r = (s.res n).1 ∧ os = (s.res n).2 := by
  unfold F_appNon at hs
  split at hs
  · obtain rfl := Option.some.inj hs
    exact appNon_P hp.1 hp.2
  · cases hs
def T5 : List (Nat × (List DV → Option FSpec)) := (50, F_appNon) :: (17, F_step) :: T3
theorem T5_ok : FOk PG (tab T5) := FOk.cons (FOk.cons T3_ok fstep_ok) appNon_ok

theorem appRune_P {sz : Nat} {r : Int} (hr : -2147483648 ≤ r ∧ r ≤ 2147483647) :
    PCalls PG 39 [.sl sz [] .nil, .int .i32 r] fun n d os => d = .own n 0 (enc r).length ∧ os = [some (.arr 1 (intRows .u8 (enc r)))] := by
  refine PCalls.by_fn (res := fun n => (.own n 0 (enc r).length, [some (.arr 1 (intRows .u8 (enc r)))])) T5_ok rc_appRune_ok (by simp [rc_appRune]) fun n => ?_
  unfold rc_appRune T5
  dsimp only
  simp -implicitDefEqProofs only [tab_cons, F_appNon_1, vcA1, vcA2, vcA3, vcA4, vcA5, vcA6, vcA7, ↓vcP1, ↓vcP2, ↓reduceIte, Option.map_some, Option.map_none, Option.bind_some, Option.bind_none, if_true, if_false, reduceCtorEq, beq_true, beq_false, Bool.not_true, Bool.not_false, BEq.rfl, Bool.true_beq, Bool.false_beq, and_true, true_and, and_self, decide_true, decide_false, List.length_cons, List.length_nil, List.all_cons, List.all_nil, Bool.and_true, Bool.and_self, List.getElem?_cons_zero, List.getElem?_cons_succ, List.set_cons_zero, List.set_cons_succ, List.nil_append, List.cons_append, List.append_nil, List.map_cons, List.map_nil, not_true_eq_false, not_false_eq_true, false_implies, true_implies, implies_true, List.take_succ_cons, List.take_zero, List.take_nil, List.drop_succ_cons, List.drop_zero, List.drop_nil, Nat.reduceLT, Nat.reduceLeDiff, Nat.reduceEqDiff, Nat.reduceAdd, Nat.reduceSub, Nat.reduceMul, Int.reduceLT, Int.reduceLE, Int.reduceEq, Int.reduceToNat, Int.reduceAdd, Int.reduceSub, Int.reduceNeg, List.reduceReplicate, List.replicate_zero, List.replicate_succ, ne_eq, List.flatMap_cons, List.flatMap_nil, List.length_replicate, List.length_append, Nat.le_refl, Nat.le_add_right, Nat.add_assoc, List.append_assoc, or_true, true_or, or_false, false_or, and_false, false_and, exists_eq_left, exists_eq_left', Option.some.injEq, DV.int.injEq, DV.bool.injEq, DV.sl.injEq, DV.own.injEq, DV.tup.injEq, List.cons.injEq, Ob.arr.injEq, Ob.box.injEq, Option.map_map, Int.toNat_natCast, Int.toNat_zero, Nat.reducePow, Int.toNat_one, Int.reduceMul, Nat.mul_one, Nat.zero_add, Nat.add_zero, Function.comp_apply, List.map_append, List.map_replicate, Int.cast_ofNat_Int, Nat.left_eq_add, Nat.add_eq_left, Nat.add_left_cancel_iff]
  have hu : IntKind.u32.wrap r = r % 4294967296 := IntKind.wrap_u32 r
  have h8 : IntKind.u8.wrap r = r % 256 := IntKind.wrap_u8 r
  refine ⟨fun h => ?_, fun h => ⟨hr, ?_⟩⟩
  · have h1 : 0 ≤ r ∧ r ≤ 127 := by omega
    have : enc r = [r] := by unfold enc; rw [if_pos h1]
    rw [this, h8, show r % 256 = r by omega]
    exact ⟨rfl, rfl⟩
  · omega
def F_appRune : List DV → Option FSpec
  | [.sl sz [] .nil, .int .i32 r] => some ⟨-2147483648 ≤ r ∧ r ≤ 2147483647, fun n => (.own n 0 (enc r).length, [some (.arr 1 (intRows .u8 (enc r)))])⟩
  | _ => none
theorem F_appRune_1 (sz : Nat) (r : Int) : F_appRune [.sl sz [] .nil, .int .i32 r] = some ⟨-2147483648 ≤ r ∧ r ≤ 2147483647, fun n => (.own n 0 (enc r).length, [some (.arr 1 (intRows .u8 (enc r)))])⟩ := nrfl _
theorem appRune_ok (args : List DV) (s : FSpec) (hs : F_appRune args = some s) (hp : s.pre) : PCalls PG 39 args fun n r os => r = (s.res n).1 ∧ os = (s.res n).2 := by
  unfold F_appRune at hs
  split at hs
  · obtain rfl := Option.some.inj hs
    exact appRune_P hp
  · cases hs
def T6 : List (Nat × (List DV → Option FSpec)) := (39, F_appRune) :: T5
theorem T6_ok : FOk PG (tab T6) := FOk.cons T5_ok appRune_ok
theorem put_P {r : Int} (hr : -2147483648 ≤ r ∧ r ≤ 2147483647) :
    PCalls PG 21 [.int .i32 r] fun n d os => d = .own n 0 (enc r).length ∧ os = [some (.arr 1 (intRows .u8 (enc r)))] := by
  refine PCalls.by_fn (res := fun n => (.own n 0 (enc r).length, [some (.arr 1 (intRows .u8 (enc r)))])) T6_ok rc_uput_ok (by simp [rc_uput]) fun n => ?_
  unfold rc_uput T6
  dsimp only
  simp -implicitDefEqProofs only [tab_cons, F_appRune_1, vcA1, vcA2, vcA3, vcA4, vcA5, vcA6, vcA7, ↓vcP1, ↓vcP2, ↓reduceIte, Option.map_some, Option.map_none, Option.bind_some, Option.bind_none, if_true, if_false, reduceCtorEq, beq_true, beq_false, Bool.not_true, Bool.not_false, BEq.rfl, Bool.true_beq, Bool.false_beq, and_true, true_and, and_self, decide_true, decide_false, List.length_cons, List.length_nil, List.all_cons, List.all_nil, Bool.and_true, Bool.and_self, List.getElem?_cons_zero, List.getElem?_cons_succ, List.set_cons_zero, List.set_cons_succ, List.nil_append, List.cons_append, List.append_nil, List.map_cons, List.map_nil, not_true_eq_false, not_false_eq_true, false_implies, true_implies, implies_true, List.take_succ_cons, List.take_zero, List.take_nil, List.drop_succ_cons, List.drop_zero, List.drop_nil, Nat.reduceLT, Nat.reduceLeDiff, Nat.reduceEqDiff, Nat.reduceAdd, Nat.reduceSub, Nat.reduceMul, Int.reduceLT, Int.reduceLE, Int.reduceEq, Int.reduceToNat, Int.reduceAdd, Int.reduceSub, Int.reduceNeg, List.reduceReplicate, List.replicate_zero, List.replicate_succ, ne_eq, List.flatMap_cons, List.flatMap_nil, List.length_replicate, List.length_append, Nat.le_refl, Nat.le_add_right, Nat.add_assoc, List.append_assoc, or_true, true_or, or_false, false_or, and_false, false_and, exists_eq_left, exists_eq_left', Option.some.injEq, DV.int.injEq, DV.bool.injEq, DV.sl.injEq, DV.own.injEq, DV.tup.injEq, List.cons.injEq, Ob.arr.injEq, Ob.box.injEq, Option.map_map, Int.toNat_natCast, Int.toNat_zero, Nat.reducePow, Int.toNat_one, Int.reduceMul, Nat.mul_one, Nat.zero_add, Nat.add_zero, Function.comp_apply, List.map_append, List.map_replicate, Int.cast_ofNat_Int, Nat.left_eq_add, Nat.add_eq_left, Nat.add_left_cancel_iff]
  exact hr

end Go.Proofs.YteemmpghpdaloaaDoor
