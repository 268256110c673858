/- sched: New. -/
import Derived.Test.YtaopaongpoecoaaS7
import Derived.Test.YtaopaongpoecoaaM3
set_option linter.unusedVariables false
set_option linter.unusedSimpArgs false
set_option maxRecDepth 10000
namespace Go.Proofs.Ytaopaongpoecoaa
open Go.RowKit
theorem snew_K {T : Objs} {K : DV → Objs → Prop} (h : K (.ptr T.length 0 0) (T ++ [some (.box [.own (T.length + 1) 0 0, .int .i64 0]), some (.arr 3 (itRows []))])) : CallK PG 7 [] T K := by
  refine CallK.all (GCalls.nilbox (GCalls.of_fn FOk.nil rc_snew_ok (by simp [rc_snew]) ?_))
  unfold rc_snew
  dsimp only
  simp -implicitDefEqProofs -dsimp only [vcB1, vcB2, vcB3, vcB4, vcS, app_geti, app_get0, vcA1, vcA2, vcA3, vcA4, vcA5, vcA6, vcA7, ↓vcP1, ↓vcP2, ↓reduceIte, Option.map_some, Option.map_none, Option.bind_some, Option.bind_none, if_true, if_false, reduceCtorEq, beq_true, beq_false, Bool.not_true, Bool.not_false, BEq.rfl, Bool.true_beq, Bool.false_beq, and_true, true_and, and_self, decide_true, decide_false, List.length_cons, List.length_nil, List.all_cons, List.all_nil, Bool.and_true, Bool.and_self, List.getElem?_cons_zero, List.getElem?_cons_succ, List.set_cons_zero, List.set_cons_succ, List.nil_append, List.cons_append, List.append_nil, List.map_cons, List.map_nil, not_true_eq_false, not_false_eq_true, false_implies, true_implies, implies_true, List.take_succ_cons, List.take_zero, List.take_nil, List.drop_succ_cons, List.drop_zero, List.drop_nil, Nat.reduceLT, Nat.reduceLeDiff, Nat.reduceEqDiff, Nat.reduceAdd, Nat.reduceSub, Nat.reduceMul, Int.reduceLT, Int.reduceLE, Int.reduceEq, Int.reduceToNat, Int.reduceAdd, Int.reduceSub, Int.reduceNeg, List.reduceReplicate, List.replicate_zero, List.replicate_succ, ne_eq, List.flatMap_cons, List.flatMap_nil, List.length_replicate, List.length_append, Nat.le_refl, Nat.le_add_right, Nat.add_assoc, List.append_assoc, or_true, true_or, or_false, false_or, and_false, false_and, exists_eq_left, exists_eq_left', Option.some.injEq, DV.int.injEq, DV.bool.injEq, DV.sl.injEq, DV.own.injEq, DV.tup.injEq, List.cons.injEq, Ob.arr.injEq, Ob.box.injEq, Option.map_map, Int.toNat_natCast, Int.toNat_zero, Nat.reducePow, Int.toNat_one, Int.reduceMul, Nat.mul_one, Nat.zero_add, Nat.add_zero, Function.comp_apply, List.map_append, List.map_replicate, Int.cast_ofNat_Int, Nat.left_eq_add, Nat.add_eq_left, Nat.add_left_cancel_iff]
  refine ⟨T.length, 0, 3, [.int .i64 0], app_at _ _, ?_⟩
  rw [app_setl]
  simpa [itRows] using h
end Go.Proofs.Ytaopaongpoecoaa
