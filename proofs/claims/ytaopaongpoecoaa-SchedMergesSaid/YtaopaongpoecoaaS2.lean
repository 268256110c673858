/- sched: items: Len, Less, Swap. -/
import Derived.Test.YtaopaongpoecoaaS1
import Derived.Test.YtaopaongpoecoaaM3
set_option linter.unusedVariables false
set_option linter.unusedSimpArgs false
set_option maxRecDepth 10000
namespace Go.Proofs.Ytaopaongpoecoaa
open Go.RowKit
/-- An item: when, whose, how many ahead of it. -/
structure It where
  at' : Int
  id : Int
  n : Int
  deriving DecidableEq, Inhabited
def It.row (x : It) : List DV := [.int .i64 x.at', .int .i64 x.id, .int .i64 x.n]
def itRows (L : List It) : List (List DV) := L.map It.row
theorem itRows_len (L : List It) : (itRows L).length = L.length := by simp [itRows]
theorem It.row_inj {a b : It} (h : a.row = b.row) : a = b := by
  cases a; cases b; simp [It.row] at h; simp [h]
theorem itRows_inj : ∀ {a b : List It}, itRows a = itRows b → a = b
  | [], [], _ => rfl
  | [], _ :: _, h => by cases h
  | _ :: _, [], h => by cases h
  | x :: a, y :: b, h => by
    simp only [itRows, List.map_cons, List.cons.injEq] at h
    rw [It.row_inj h.1, itRows_inj h.2]
/-- The i-th item. -/
def itI (L : List It) (i : Int) : It := L.getD i.toNat ⟨0, 0, 0⟩
theorem itRows_get {L : List It} {i : Nat} (h : i < L.length) : (itRows L)[i]? = some (itI L i).row := by
  simp [itRows, itI, h]
theorem itRows_getI {L : List It} {i : Int} (h0 : 0 ≤ i) (h : i < L.length) : (itRows L)[i.toNat]? = some [.int .i64 (itI L i).at', .int .i64 (itI L i).id, .int .i64 (itI L i).n] := by
  rw [itRows_get (by omega), Int.toNat_of_nonneg h0]; rfl
def lessI (a b : It) : Bool := if a.at' = b.at' then decide (a.n < b.n) else decide (a.at' < b.at')
def swapI (L : List It) (i j : Int) : List It := (L.set i.toNat (itI L j)).set j.toNat (itI L i)
theorem swapI_len (L : List It) (i j : Int) : (swapI L i j).length = L.length := by simp [swapI]
theorem itRows_set (L : List It) (i : Nat) (x : It) : itRows (L.set i x) = (itRows L).set i x.row := by simp [itRows, List.map_set]

theorem ilen_K {T : Objs} {K : DV → Objs → Prop} {q o n : Nat} (h : K (.int .i64 n) T) : CallK PG 48 [.own q o n] T K := by
  refine CallK.of_fn FOk.nil rc_ilen_ok (by simp [rc_ilen]) ?_
  unfold rc_ilen
  dsimp only
  simp -implicitDefEqProofs -dsimp only [vcB1, vcB2, vcB3, vcB4, vcA1, vcA2, vcA3, vcA4, vcA5, vcA6, vcA7, ↓vcP1, ↓vcP2, ↓reduceIte, Option.map_some, Option.map_none, Option.bind_some, Option.bind_none, if_true, if_false, reduceCtorEq, beq_true, beq_false, Bool.not_true, Bool.not_false, BEq.rfl, Bool.true_beq, Bool.false_beq, and_true, true_and, and_self, decide_true, decide_false, List.length_cons, List.length_nil, List.all_cons, List.all_nil, Bool.and_true, Bool.and_self, List.getElem?_cons_zero, List.getElem?_cons_succ, List.set_cons_zero, List.set_cons_succ, List.nil_append, List.cons_append, List.append_nil, List.map_cons, List.map_nil, not_true_eq_false, not_false_eq_true, false_implies, true_implies, implies_true, List.take_succ_cons, List.take_zero, List.take_nil, List.drop_succ_cons, List.drop_zero, List.drop_nil, Nat.reduceLT, Nat.reduceLeDiff, Nat.reduceEqDiff, Nat.reduceAdd, Nat.reduceSub, Nat.reduceMul, Int.reduceLT, Int.reduceLE, Int.reduceEq, Int.reduceToNat, Int.reduceAdd, Int.reduceSub, Int.reduceNeg, List.reduceReplicate, List.replicate_zero, List.replicate_succ, ne_eq, List.flatMap_cons, List.flatMap_nil, List.length_replicate, List.length_append, Nat.le_refl, Nat.le_add_right, Nat.add_assoc, List.append_assoc, or_true, true_or, or_false, false_or, and_false, false_and, exists_eq_left, exists_eq_left', Option.some.injEq, DV.int.injEq, DV.bool.injEq, DV.sl.injEq, DV.own.injEq, DV.tup.injEq, List.cons.injEq, Ob.arr.injEq, Ob.box.injEq, Option.map_map, Int.toNat_natCast, Int.toNat_zero, Nat.reducePow, Int.toNat_one, Int.reduceMul, Nat.mul_one, Nat.zero_add, Nat.add_zero, Function.comp_apply, List.map_append, List.map_replicate, Int.cast_ofNat_Int, Nat.left_eq_add, Nat.add_eq_left, Nat.add_left_cancel_iff]
  exact h
theorem iless_K {T : Objs} {K : DV → Objs → Prop} {q : Nat} {L : List It} {i j : Int} (hT : T[q]? = some (some (.arr 3 (itRows L)))) (hi0 : 0 ≤ i) (hi : i < L.length) (hj0 : 0 ≤ j) (hj : j < L.length)
    (h : K (.bool (lessI (itI L i) (itI L j))) T) : CallK PG 49 [.own q 0 L.length, .int .i64 i, .int .i64 j] T K := by
  refine CallK.of_fn FOk.nil rc_iless_ok (by simp [rc_iless]) ?_
  unfold rc_iless
  dsimp only
  simp -implicitDefEqProofs -dsimp only [vcB1, vcB2, vcB3, vcB4, hT, hi0, hi, hj0, hj, itRows_getI hi0 hi, itRows_getI hj0 hj, Nat.zero_add, rowsOf_own, vcA1, vcA2, vcA3, vcA4, vcA5, vcA6, vcA7, ↓vcP1, ↓vcP2, ↓reduceIte, Option.map_some, Option.map_none, Option.bind_some, Option.bind_none, if_true, if_false, reduceCtorEq, beq_true, beq_false, Bool.not_true, Bool.not_false, BEq.rfl, Bool.true_beq, Bool.false_beq, and_true, true_and, and_self, decide_true, decide_false, List.length_cons, List.length_nil, List.all_cons, List.all_nil, Bool.and_true, Bool.and_self, List.getElem?_cons_zero, List.getElem?_cons_succ, List.set_cons_zero, List.set_cons_succ, List.nil_append, List.cons_append, List.append_nil, List.map_cons, List.map_nil, not_true_eq_false, not_false_eq_true, false_implies, true_implies, implies_true, List.take_succ_cons, List.take_zero, List.take_nil, List.drop_succ_cons, List.drop_zero, List.drop_nil, Nat.reduceLT, Nat.reduceLeDiff, Nat.reduceEqDiff, Nat.reduceAdd, Nat.reduceSub, Nat.reduceMul, Int.reduceLT, Int.reduceLE, Int.reduceEq, Int.reduceToNat, Int.reduceAdd, Int.reduceSub, Int.reduceNeg, List.reduceReplicate, List.replicate_zero, List.replicate_succ, ne_eq, List.flatMap_cons, List.flatMap_nil, List.length_replicate, List.length_append, Nat.le_refl, Nat.le_add_right, Nat.add_assoc, List.append_assoc, or_true, true_or, or_false, false_or, and_false, false_and, exists_eq_left, exists_eq_left', Option.some.injEq, DV.int.injEq, DV.bool.injEq, DV.sl.injEq, DV.own.injEq, DV.tup.injEq, List.cons.injEq, Ob.arr.injEq, Ob.box.injEq, Option.map_map, Int.toNat_natCast, Int.toNat_zero, Nat.reducePow, Int.toNat_one, Int.reduceMul, Nat.mul_one, Nat.zero_add, Nat.add_zero, Function.comp_apply, List.map_append, List.map_replicate, Int.cast_ofNat_Int, Nat.left_eq_add, Nat.add_eq_left, Nat.add_left_cancel_iff]
  grind [lessI]
theorem resOf_0 (st : St) : resOf st [] = some (.tup []) := nrfl _
theorem bindO_itRows (L : List It) (n : Nat) (f : List DV → Prop) : bindO (itRows L)[n]? f = (n < L.length ∧ f [.int .i64 (itI L n).at', .int .i64 (itI L n).id, .int .i64 (itI L n).n]) := by
  by_cases h : n < L.length
  · rw [itRows_get h, bindO_some]; simp [h, It.row]
  · simp [itRows, h, bindO]
theorem itRows_setRow (L : List It) (i : Nat) (x : It) : (itRows L).set i [.int .i64 x.at', .int .i64 x.id, .int .i64 x.n] = itRows (L.set i x) := (itRows_set L i x).symm
theorem iswap_K {T : Objs} {K : DV → Objs → Prop} {q : Nat} {L : List It} {i j : Int} (hT : T[q]? = some (some (.arr 3 (itRows L)))) (hi0 : 0 ≤ i) (hi : i < L.length) (hj0 : 0 ≤ j) (hj : j < L.length)
    (h : K (.tup []) (T.set q (some (.arr 3 (itRows (swapI L i j)))))) : CallK PG 50 [.own q 0 L.length, .int .i64 i, .int .i64 j] T K := by
  have hlt : q < T.length := (List.getElem?_eq_some_iff.1 hT).1
  have hjn : j.toNat < L.length := by omega
  refine CallK.of_fn FOk.nil rc_iswap_ok (by simp [rc_iswap]) ?_
  unfold rc_iswap
  dsimp only
  simp -implicitDefEqProofs -dsimp only [vcB1, vcB2, vcB3, vcB4, hT, hi0, hi, hj0, hj, hjn, hlt, itRows_getI hi0 hi, itRows_getI hj0 hj, Nat.zero_add, rowsOf_own, List.getElem?_set_self, List.length_set, itRows_setRow, bindO_itRows, resOf_0, List.set_set, List.drop_succ_cons, List.drop_zero, Nat.le_refl, vcA1, vcA2, vcA3, vcA4, vcA5, vcA6, vcA7, ↓vcP1, ↓vcP2, ↓reduceIte, Option.map_some, Option.map_none, Option.bind_some, Option.bind_none, if_true, if_false, reduceCtorEq, beq_true, beq_false, Bool.not_true, Bool.not_false, BEq.rfl, Bool.true_beq, Bool.false_beq, and_true, true_and, and_self, decide_true, decide_false, List.length_cons, List.length_nil, List.all_cons, List.all_nil, Bool.and_true, Bool.and_self, List.getElem?_cons_zero, List.getElem?_cons_succ, List.set_cons_zero, List.set_cons_succ, List.nil_append, List.cons_append, List.append_nil, List.map_cons, List.map_nil, not_true_eq_false, not_false_eq_true, false_implies, true_implies, implies_true, List.take_succ_cons, List.take_zero, List.take_nil, List.drop_succ_cons, List.drop_zero, List.drop_nil, Nat.reduceLT, Nat.reduceLeDiff, Nat.reduceEqDiff, Nat.reduceAdd, Nat.reduceSub, Nat.reduceMul, Int.reduceLT, Int.reduceLE, Int.reduceEq, Int.reduceToNat, Int.reduceAdd, Int.reduceSub, Int.reduceNeg, List.reduceReplicate, List.replicate_zero, List.replicate_succ, ne_eq, List.flatMap_cons, List.flatMap_nil, List.length_replicate, List.length_append, Nat.le_refl, Nat.le_add_right, Nat.add_assoc, List.append_assoc, or_true, true_or, or_false, false_or, and_false, false_and, exists_eq_left, exists_eq_left', Option.some.injEq, DV.int.injEq, DV.bool.injEq, DV.sl.injEq, DV.own.injEq, DV.tup.injEq, List.cons.injEq, Ob.arr.injEq, Ob.box.injEq, Option.map_map, Int.toNat_natCast, Int.toNat_zero, Nat.reducePow, Int.toNat_one, Int.reduceMul, Nat.mul_one, Nat.zero_add, Nat.add_zero, Function.comp_apply, List.map_append, List.map_replicate, Int.cast_ofNat_Int, Nat.left_eq_add, Nat.add_eq_left, Nat.add_left_cancel_iff]
  exact h
theorem app_at {α : Type} (T : List α) (x : α) : (T ++ [x])[T.length]? = some x := by simp
theorem app_at2 {α : Type} (T : List α) (x y : α) : (T ++ [x] ++ [y])[T.length]? = some x := by simp
theorem app_at3 {α : Type} (T : List α) (x y : α) : (T ++ [x] ++ [y])[T.length + 1]? = some y := by simp [List.getElem?_append_right]
theorem app_lt {α : Type} {T l : List α} {q : Nat} (h : q < T.length) : (T ++ l)[q]? = T[q]? := List.getElem?_append_left h
theorem app_set {α : Type} {T l : List α} {q : Nat} {x : α} (h : q < T.length) : (T ++ l).set q x = T.set q x ++ l := List.set_append_left _ _ h
theorem ob_ne {T : Objs} {o q : Nat} {r : List DV} {s : Nat} {rows : List (List DV)} (ho : T[o]? = some (some (.box r))) (hT : T[q]? = some (some (.arr s rows))) : q ≠ o := fun e => by subst e; rw [ho] at hT; cases hT
theorem itRows_app (L : List It) (x : It) : itRows L ++ [[.int .i64 x.at', .int .i64 x.id, .int .i64 x.n]] = itRows (L ++ [x]) := by simp [itRows, It.row]
theorem app_atS {α : Type} (T : List α) (o : Nat) (x y : α) : (T.set o x ++ [y])[T.length]? = some y := by
  have := app_at (T.set o x) y
  rwa [List.length_set] at this
theorem app_setl {α : Type} (T : List α) (x y : α) : (T ++ [x]).set T.length y = T ++ [y] := by simp
/-- Push: one is appended, under a name of its own. -/
theorem ipush_K {T : Objs} {K : DV → Objs → Prop} {o q : Nat} {L : List It} {x : It} {m : DV} (ho : T[o]? = some (some (.box [.own q 0 L.length, m]))) (hT : T[q]? = some (some (.arr 3 (itRows L)))) (hl : L.length ≤ 1000000)
    (h : K (.tup []) (((T.set q none).set o (some (.box [.own (T.length + 1) 0 (L.length + 1), m]))) ++ [some (.arr 3 [[.int .i64 x.at', .int .i64 x.id, .int .i64 x.n]])] ++ [some (.arr 3 (itRows (L ++ [x])))])) : CallK PG 52 [.ptr o 0 0, .wrap (.ifa 57) [.int .i64 x.at', .int .i64 x.id, .int .i64 x.n]] T K := by
  have hlt : q < T.length := (List.getElem?_eq_some_iff.1 hT).1
  have hlo : o < T.length := (List.getElem?_eq_some_iff.1 ho).1
  have hne : q ≠ o := ob_ne ho hT
  have hlo1 : o < T.length + 1 := by omega
  have hb1 : (L.length + 1) * 24 ≤ 140737488355328 := by omega
  have hb2 : L.length + 1 ≤ 4611686018427387904 := by omega
  refine CallK.of_fn FOk.nil rc_ipush_ok (by simp [rc_ipush]) ?_
  unfold rc_ipush
  dsimp only
  simp -implicitDefEqProofs -dsimp only [vcB1, vcB2, vcB3, vcB4, hT, ho, hlt, hlo, hlo1, hb1, hb2, app_at, app_lt, app_set, List.getElem?_set_ne hne, itRows_len, itRows_app, Nat.zero_add, rowsOf_own, List.getElem?_set_self, List.length_set, List.length_append, itRows_setRow, bindO_itRows, resOf_0, List.set_set, List.drop_succ_cons, List.drop_zero, List.take_succ_cons, List.take_zero, Nat.le_refl, vcA1, vcA2, vcA3, vcA4, vcA5, vcA6, vcA7, ↓vcP1, ↓vcP2, ↓reduceIte, Option.map_some, Option.map_none, Option.bind_some, Option.bind_none, if_true, if_false, reduceCtorEq, beq_true, beq_false, Bool.not_true, Bool.not_false, BEq.rfl, Bool.true_beq, Bool.false_beq, and_true, true_and, and_self, decide_true, decide_false, List.length_cons, List.length_nil, List.all_cons, List.all_nil, Bool.and_true, Bool.and_self, List.getElem?_cons_zero, List.getElem?_cons_succ, List.set_cons_zero, List.set_cons_succ, List.nil_append, List.cons_append, List.append_nil, List.map_cons, List.map_nil, not_true_eq_false, not_false_eq_true, false_implies, true_implies, implies_true, List.take_succ_cons, List.take_zero, List.take_nil, List.drop_succ_cons, List.drop_zero, List.drop_nil, Nat.reduceLT, Nat.reduceLeDiff, Nat.reduceEqDiff, Nat.reduceAdd, Nat.reduceSub, Nat.reduceMul, Int.reduceLT, Int.reduceLE, Int.reduceEq, Int.reduceToNat, Int.reduceAdd, Int.reduceSub, Int.reduceNeg, List.reduceReplicate, List.replicate_zero, List.replicate_succ, ne_eq, List.flatMap_cons, List.flatMap_nil, List.length_replicate, List.length_append, Nat.le_refl, Nat.le_add_right, Nat.add_assoc, List.append_assoc, or_true, true_or, or_false, false_or, and_false, false_and, exists_eq_left, exists_eq_left', Option.some.injEq, DV.int.injEq, DV.bool.injEq, DV.sl.injEq, DV.own.injEq, DV.tup.injEq, List.cons.injEq, Ob.arr.injEq, Ob.box.injEq, Option.map_map, Int.toNat_natCast, Int.toNat_zero, Nat.reducePow, Int.toNat_one, Int.reduceMul, Nat.mul_one, Nat.zero_add, Nat.add_zero, Function.comp_apply, List.map_append, List.map_replicate, Int.cast_ofNat_Int, Nat.left_eq_add, Nat.add_eq_left, Nat.add_left_cancel_iff]
  simpa only [List.append_assoc, List.cons_append, List.nil_append] using h
/-- Pop: the last one. -/
theorem ipop_K {T : Objs} {K : DV → Objs → Prop} {o q k : Nat} {L : List It} {m : DV} (ho : T[o]? = some (some (.box [.own q 0 L.length, m]))) (hT : T[q]? = some (some (.arr 3 (itRows L)))) (h0 : L.length = k + 1) (hl : L.length ≤ 1000000)
    (h : ∀ B : Option Ob, K (.wrap (.ifa 57) [.int .i64 (itI L k).at', .int .i64 (itI L k).id, .int .i64 (itI L k).n]) ((T.set o (some (.box [.own q 0 k, m])) ++ [B]).set q (some (Ob.arr 3 (itRows (L.take k)))))) : CallK PG 51 [.ptr o 0 0] T K := by
  have hlt : q < T.length := (List.getElem?_eq_some_iff.1 hT).1
  have hlo : o < T.length := (List.getElem?_eq_some_iff.1 ho).1
  have hne : q ≠ o := ob_ne ho hT
  have hlo1 : o < T.length + 1 := by omega
  have hw : IntKind.i64.wrap ((L.length : Int) - 1) = (k : Int) := by
    rw [h0]; simp [IntKind.wrap, IntKind.bits, IntKind.signed]; omega
  have hk : k < L.length := by omega
  have hk' : (k : Int) < L.length := by omega
  have hk2 : k ≤ L.length := by omega
  have hk3 : (k : Int) ≤ L.length := by omega
  refine CallK.of_fnT FOk.nil rc_ipop_ok (by simp [rc_ipop]) ?_
  unfold rc_ipop
  dsimp only
  simp -implicitDefEqProofs -dsimp only [vcB1, vcB2, vcB3, vcB4, hT, ho, hlt, hlo, hlo1, hw, hk, hk', hk2, hk3, Int.natCast_nonneg, Int.toNat_natCast, app_setl, app_at, app_lt, app_set, List.getElem?_set_ne hne, itRows_len, itRows_app, Nat.zero_add, rowsOf_own, List.getElem?_set_self, List.length_set, List.length_append, itRows_setRow, bindO_itRows, resOf_0, List.set_set, List.drop_succ_cons, List.drop_zero, List.take_succ_cons, List.take_zero, Nat.le_refl, app_atS, Nat.sub_zero, Nat.zero_le, vcA1, vcA2, vcA3, vcA4, vcA5, vcA6, vcA7, ↓vcP1, ↓vcP2, ↓reduceIte, Option.map_some, Option.map_none, Option.bind_some, Option.bind_none, if_true, if_false, reduceCtorEq, beq_true, beq_false, Bool.not_true, Bool.not_false, BEq.rfl, Bool.true_beq, Bool.false_beq, and_true, true_and, and_self, decide_true, decide_false, List.length_cons, List.length_nil, List.all_cons, List.all_nil, Bool.and_true, Bool.and_self, List.getElem?_cons_zero, List.getElem?_cons_succ, List.set_cons_zero, List.set_cons_succ, List.nil_append, List.cons_append, List.append_nil, List.map_cons, List.map_nil, not_true_eq_false, not_false_eq_true, false_implies, true_implies, implies_true, List.take_succ_cons, List.take_zero, List.take_nil, List.drop_succ_cons, List.drop_zero, List.drop_nil, Nat.reduceLT, Nat.reduceLeDiff, Nat.reduceEqDiff, Nat.reduceAdd, Nat.reduceSub, Nat.reduceMul, Int.reduceLT, Int.reduceLE, Int.reduceEq, Int.reduceToNat, Int.reduceAdd, Int.reduceSub, Int.reduceNeg, List.reduceReplicate, List.replicate_zero, List.replicate_succ, ne_eq, List.flatMap_cons, List.flatMap_nil, List.length_replicate, List.length_append, Nat.le_refl, Nat.le_add_right, Nat.add_assoc, List.append_assoc, or_true, true_or, or_false, false_or, and_false, false_and, exists_eq_left, exists_eq_left', Option.some.injEq, DV.int.injEq, DV.bool.injEq, DV.sl.injEq, DV.own.injEq, DV.tup.injEq, List.cons.injEq, Ob.arr.injEq, Ob.box.injEq, Option.map_map, Int.toNat_natCast, Int.toNat_zero, Nat.reducePow, Int.toNat_one, Int.reduceMul, Nat.mul_one, Nat.zero_add, Nat.add_zero, Function.comp_apply, List.map_append, List.map_replicate, Int.cast_ofNat_Int, Nat.left_eq_add, Nat.add_eq_left, Nat.add_left_cancel_iff]
  refine ⟨_, Trims.arr (q := q) (s := 3) (rows := itRows L) k ?_, ?_⟩
  · rw [app_lt (by simp; exact hlt), List.getElem?_set_ne (Ne.symm hne)]; exact hT
  · have := h (some (.box [.int .i64 (itI L k).at', .int .i64 (itI L k).id, .int .i64 (itI L k).n]))
    simpa only [itRows, List.map_take] using this
end Go.Proofs.Ytaopaongpoecoaa
