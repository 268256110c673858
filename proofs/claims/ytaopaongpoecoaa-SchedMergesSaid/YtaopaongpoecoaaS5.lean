/- sched: heap.Push, Pop, Init. -/
import Derived.Test.YtaopaongpoecoaaS4
set_option linter.unusedVariables false
set_option linter.unusedSimpArgs false
set_option maxRecDepth 10000
namespace Go.Proofs.Ytaopaongpoecoaa
open Go.RowKit
theorem app_get3 {α : Type} {A : List α} {n : Nat} (hA : A.length = n) (a b : α) : (A ++ [a] ++ [b])[n + 1]? = some b := by subst hA; exact app_at3 A a b
theorem app_set3 {α : Type} {A : List α} {n : Nat} (hA : A.length = n) (a b y : α) : (A ++ [a] ++ [b]).set (n + 1) y = A ++ [a] ++ [y] := by
  subst hA
  rw [List.set_append_right _ _ (by simp)]
  simp
theorem upF_len : ∀ (j : Nat) (L : List It), (upF L j).length = L.length := by
  intro j
  induction j using Nat.strongRecOn with
  | _ j ih =>
    intro L
    cases j with
    | zero => rw [upF_0]
    | succ k =>
      rw [upF_s]
      split
      · rw [ih _ (by omega), swapI_len]
      · rfl
theorem hpush_K {T : Objs} {K : DV → Objs → Prop} {o q : Nat} {L : List It} {x : It} {m : DV} (ho : T[o]? = some (some (.box [.own q 0 L.length, m]))) (hT : T[q]? = some (some (.arr 3 (itRows L)))) (hl : L.length < 1000000)
    (h : ∀ A, K (.tup []) ((T.set q none).set o (some (.box [.own (T.length + 1) 0 (L.length + 1), m])) ++ [A] ++ [some (.arr 3 (itRows (upF (L ++ [x]) L.length)))])) : CallK PG 18 [.wrap (.ifc 55) [.ptr o 0 0], .wrap (.ifa 57) [.int .i64 x.at', .int .i64 x.id, .int .i64 x.n]] T K := by
  have hlt : q < T.length := (List.getElem?_eq_some_iff.1 hT).1
  have hlo : o < T.length := (List.getElem?_eq_some_iff.1 ho).1
  refine CallK.of_fn FOk.nil rc_hpush_ok (by simp [rc_hpush]) ?_
  unfold rc_hpush
  dsimp only
  simp -implicitDefEqProofs -dsimp only [vcB1, vcB2, vcB3, vcB4, vcS, vcA1, vcA2, vcA3, vcA4, vcA5, vcA6, vcA7, ↓vcP1, ↓vcP2, ↓reduceIte, Option.map_some, Option.map_none, Option.bind_some, Option.bind_none, if_true, if_false, reduceCtorEq, beq_true, beq_false, Bool.not_true, Bool.not_false, BEq.rfl, Bool.true_beq, Bool.false_beq, and_true, true_and, and_self, decide_true, decide_false, List.length_cons, List.length_nil, List.all_cons, List.all_nil, Bool.and_true, Bool.and_self, List.getElem?_cons_zero, List.getElem?_cons_succ, List.set_cons_zero, List.set_cons_succ, List.nil_append, List.cons_append, List.append_nil, List.map_cons, List.map_nil, not_true_eq_false, not_false_eq_true, false_implies, true_implies, implies_true, List.take_succ_cons, List.take_zero, List.take_nil, List.drop_succ_cons, List.drop_zero, List.drop_nil, Nat.reduceLT, Nat.reduceLeDiff, Nat.reduceEqDiff, Nat.reduceAdd, Nat.reduceSub, Nat.reduceMul, Int.reduceLT, Int.reduceLE, Int.reduceEq, Int.reduceToNat, Int.reduceAdd, Int.reduceSub, Int.reduceNeg, List.reduceReplicate, List.replicate_zero, List.replicate_succ, ne_eq, List.flatMap_cons, List.flatMap_nil, List.length_replicate, List.length_append, Nat.le_refl, Nat.le_add_right, Nat.add_assoc, List.append_assoc, or_true, true_or, or_false, false_or, and_false, false_and, exists_eq_left, exists_eq_left', Option.some.injEq, DV.int.injEq, DV.bool.injEq, DV.sl.injEq, DV.own.injEq, DV.tup.injEq, List.cons.injEq, Ob.arr.injEq, Ob.box.injEq, Option.map_map, Int.toNat_natCast, Int.toNat_zero, Nat.reducePow, Int.toNat_one, Int.reduceMul, Nat.mul_one, Nat.zero_add, Nat.add_zero, Function.comp_apply, List.map_append, List.map_replicate, Int.cast_ofNat_Int, Nat.left_eq_add, Nat.add_eq_left, Nat.add_left_cancel_iff]
  refine ipush_K ho hT (by omega) ?_
  have hA : ((T.set q none).set o (some (Ob.box [.own (T.length + 1) 0 (L.length + 1), m]))).length = T.length := by simp
  have f1 : ((T.set q none).set o (some (Ob.box [.own (T.length + 1) 0 (L.length + 1), m])) ++ [some (Ob.arr 3 [[.int .i64 x.at', .int .i64 x.id, .int .i64 x.n]])] ++ [some (Ob.arr 3 (itRows (L ++ [x])))])[o]? = some (some (Ob.box [.own (T.length + 1) 0 (L ++ [x]).length, m])) := by
    rw [List.append_assoc, app_lt (by rw [hA]; exact hlo), List.getElem?_set_self (by rw [List.length_set]; exact hlo)]
    simp
  have f2 := app_get3 hA (some (Ob.arr 3 [[.int .i64 x.at', .int .i64 x.id, .int .i64 x.n]])) (some (Ob.arr 3 (itRows (L ++ [x]))))
  have f3 := app_set3 hA (some (Ob.arr 3 [[.int .i64 x.at', .int .i64 x.id, .int .i64 x.n]])) (some (Ob.arr 3 (itRows (L ++ [x])))) (some (Ob.arr 3 (itRows (upF (L ++ [x]) L.length))))
  have f4 : T.length ≤ ((T.set q none).set o (some (Ob.box [.own (T.length + 1) 0 (L.length + 1), m])) ++ [some (Ob.arr 3 [[.int .i64 x.at', .int .i64 x.id, .int .i64 x.n]])] ++ [some (Ob.arr 3 (itRows (L ++ [x])))]).length := by simp
  generalize ((T.set q none).set o (some (Ob.box [.own (T.length + 1) 0 (L.length + 1), m])) ++ [some (Ob.arr 3 [[.int .i64 x.at', .int .i64 x.id, .int .i64 x.n]])] ++ [some (Ob.arr 3 (itRows (L ++ [x])))]) = T2 at f1 f2 f3 f4 ⊢
  have hl2 : (L ++ [x]).length = L.length + 1 := by simp
  have hw : IntKind.i64.wrap (((L ++ [x]).length : Int) - 1) = (L.length : Int) := by rw [hl2, wI64 (by omega) (by omega)]; omega
  simp -implicitDefEqProofs -dsimp only [vcB1, vcB2, vcB3, vcB4, vcS, f1, f2, vcA1, vcA2, vcA3, vcA4, vcA5, vcA6, vcA7, ↓vcP1, ↓vcP2, ↓reduceIte, Option.map_some, Option.map_none, Option.bind_some, Option.bind_none, if_true, if_false, reduceCtorEq, beq_true, beq_false, Bool.not_true, Bool.not_false, BEq.rfl, Bool.true_beq, Bool.false_beq, and_true, true_and, and_self, decide_true, decide_false, List.length_cons, List.length_nil, List.all_cons, List.all_nil, Bool.and_true, Bool.and_self, List.getElem?_cons_zero, List.getElem?_cons_succ, List.set_cons_zero, List.set_cons_succ, List.nil_append, List.cons_append, List.append_nil, List.map_cons, List.map_nil, not_true_eq_false, not_false_eq_true, false_implies, true_implies, implies_true, List.take_succ_cons, List.take_zero, List.take_nil, List.drop_succ_cons, List.drop_zero, List.drop_nil, Nat.reduceLT, Nat.reduceLeDiff, Nat.reduceEqDiff, Nat.reduceAdd, Nat.reduceSub, Nat.reduceMul, Int.reduceLT, Int.reduceLE, Int.reduceEq, Int.reduceToNat, Int.reduceAdd, Int.reduceSub, Int.reduceNeg, List.reduceReplicate, List.replicate_zero, List.replicate_succ, ne_eq, List.flatMap_cons, List.flatMap_nil, List.length_replicate, List.length_append, Nat.le_refl, Nat.le_add_right, Nat.add_assoc, List.append_assoc, or_true, true_or, or_false, false_or, and_false, false_and, exists_eq_left, exists_eq_left', Option.some.injEq, DV.int.injEq, DV.bool.injEq, DV.sl.injEq, DV.own.injEq, DV.tup.injEq, List.cons.injEq, Ob.arr.injEq, Ob.box.injEq, Option.map_map, Int.toNat_natCast, Int.toNat_zero, Nat.reducePow, Int.toNat_one, Int.reduceMul, Nat.mul_one, Nat.zero_add, Nat.add_zero, Function.comp_apply, List.map_append, List.map_replicate, Int.cast_ofNat_Int, Nat.left_eq_add, Nat.add_eq_left, Nat.add_left_cancel_iff]
  refine ilen_K ?_
  rw [hl2] at hw
  simp -implicitDefEqProofs -dsimp only [vcB1, vcB2, vcB3, vcB4, vcS, f1, f2, hw, vcA1, vcA2, vcA3, vcA4, vcA5, vcA6, vcA7, ↓vcP1, ↓vcP2, ↓reduceIte, Option.map_some, Option.map_none, Option.bind_some, Option.bind_none, if_true, if_false, reduceCtorEq, beq_true, beq_false, Bool.not_true, Bool.not_false, BEq.rfl, Bool.true_beq, Bool.false_beq, and_true, true_and, and_self, decide_true, decide_false, List.length_cons, List.length_nil, List.all_cons, List.all_nil, Bool.and_true, Bool.and_self, List.getElem?_cons_zero, List.getElem?_cons_succ, List.set_cons_zero, List.set_cons_succ, List.nil_append, List.cons_append, List.append_nil, List.map_cons, List.map_nil, not_true_eq_false, not_false_eq_true, false_implies, true_implies, implies_true, List.take_succ_cons, List.take_zero, List.take_nil, List.drop_succ_cons, List.drop_zero, List.drop_nil, Nat.reduceLT, Nat.reduceLeDiff, Nat.reduceEqDiff, Nat.reduceAdd, Nat.reduceSub, Nat.reduceMul, Int.reduceLT, Int.reduceLE, Int.reduceEq, Int.reduceToNat, Int.reduceAdd, Int.reduceSub, Int.reduceNeg, List.reduceReplicate, List.replicate_zero, List.replicate_succ, ne_eq, List.flatMap_cons, List.flatMap_nil, List.length_replicate, List.length_append, Nat.le_refl, Nat.le_add_right, Nat.add_assoc, List.append_assoc, or_true, true_or, or_false, false_or, and_false, false_and, exists_eq_left, exists_eq_left', Option.some.injEq, DV.int.injEq, DV.bool.injEq, DV.sl.injEq, DV.own.injEq, DV.tup.injEq, List.cons.injEq, Ob.arr.injEq, Ob.box.injEq, Option.map_map, Int.toNat_natCast, Int.toNat_zero, Nat.reducePow, Int.toNat_one, Int.reduceMul, Nat.mul_one, Nat.zero_add, Nat.add_zero, Function.comp_apply, List.map_append, List.map_replicate, Int.cast_ofNat_Int, Nat.left_eq_add, Nat.add_eq_left, Nat.add_left_cancel_iff]
  refine hup_K f1 f2 (by omega) (by omega) ?_
  rw [f3]
  exact ⟨by simp, h _⟩
end Go.Proofs.Ytaopaongpoecoaa
