/- sched: heap.up. -/
import Derived.Test.YtaopaongpoecoaaS2
set_option linter.unusedVariables false
set_option linter.unusedSimpArgs false
set_option maxRecDepth 10000
namespace Go.Proofs.Ytaopaongpoecoaa
open Go.RowKit
@[congr] theorem CallK_congr {E : Prg} {f : Nat} {vals : List DV} {vals' : Unit → List DV} {T : Objs} {T' : Unit → Objs} {K : DV → Objs → Prop} (h : ∀ u, vals = vals' u) (h2 : ∀ u, T = T' u) : CallK E f vals T K = CallK E f (vals' ()) (T' ()) K := by rw [← h (), ← h2 ()]
theorem callV_none {E : Prg} {f : Nat} {args : List DV} {T : Objs} {K : DV → Objs → Prop} : callV E none false f args T K = CallK E f args T K := nrfl _
theorem tab_none (f : Nat) (args : List DV) : tab [] f args = none := nrfl _
theorem mr_less : methRow PG.P 55 "Less" = some (49, some (false, 1)) := by kernel_rfl
theorem mr_len : methRow PG.P 55 "Len" = some (48, some (false, 1)) := by kernel_rfl
theorem mr_swap : methRow PG.P 55 "Swap" = some (50, some (false, 1)) := by kernel_rfl
theorem mr_push : methRow PG.P 55 "Push" = some (52, none) := by kernel_rfl
theorem mr_pop : methRow PG.P 55 "Pop" = some (51, none) := by kernel_rfl
theorem hb_less : hasBody PG.P 49 = true := by kernel_rfl
theorem hb_len : hasBody PG.P 48 = true := by kernel_rfl
theorem hb_swap : hasBody PG.P 50 = true := by kernel_rfl
theorem hb_push : hasBody PG.P 52 = true := by kernel_rfl
theorem hb_pop : hasBody PG.P 51 = true := by kernel_rfl
theorem vcS : type_of% (And.intro @mr_less <| And.intro @mr_len <| And.intro @mr_swap <| And.intro @mr_push <| And.intro @mr_pop <| And.intro @hb_less <| And.intro @hb_len <| And.intro @hb_swap <| And.intro @hb_push <| And.intro @hb_pop <| And.intro @callV_none <| And.intro @tab_none <| @resOf_0) :=
  And.intro @mr_less <| And.intro @mr_len <| And.intro @mr_swap <| And.intro @mr_push <| And.intro @mr_pop <| And.intro @hb_less <| And.intro @hb_len <| And.intro @hb_swap <| And.intro @hb_push <| And.intro @hb_pop <| And.intro @callV_none <| And.intro @tab_none <| @resOf_0
/-- One goes up, to where it stands right. -/
def upF (L : List It) (j : Nat) : List It :=
  if h : j = 0 then L else if lessI (itI L j) (itI L ((j - 1) / 2 : Nat)) = true then upF (swapI L ((j - 1) / 2 : Nat) j) ((j - 1) / 2) else L
termination_by j
decreasing_by omega
theorem upF_0 (L : List It) : upF L 0 = L := by rw [upF]; simp
theorem upF_s (L : List It) (k : Nat) : upF L (k + 1) = if lessI (itI L (k + 1 : Nat)) (itI L (k / 2 : Nat)) = true then upF (swapI L (k / 2 : Nat) (k + 1 : Nat)) (k / 2) else L := by
  rw [upF]; simp
theorem set_same {α : Type} {T : List α} {q : Nat} {x : α} (h : T[q]? = some x) : T.set q x = T := by
  apply List.ext_getElem?
  intro i
  rw [List.getElem?_set]
  split
  · rename_i e; subst e
    rw [h]; simp [(List.getElem?_eq_some_iff.1 h).1]
  · rfl
theorem wkT_self (d : DV) : wkT d d = True := eq_true (wkT_refl d)
theorem hup_K {T : Objs} {K : DV → Objs → Prop} {o q j : Nat} {L : List It} {m : DV} (ho : T[o]? = some (some (.box [.own q 0 L.length, m]))) (hT : T[q]? = some (some (.arr 3 (itRows L)))) (hj : j < L.length) (hl : L.length ≤ 1000000)
    (h : K (.tup []) (T.set q (some (.arr 3 (itRows (upF L j)))))) : CallK PG 24 [.wrap (.ifc 55) [.ptr o 0 0], .int .i64 j] T K := by
  refine CallK.of_fn FOk.nil rc_hup_ok (by simp [rc_hup]) ?_
  unfold rc_hup
  dsimp only
  simp -implicitDefEqProofs -dsimp only [vcB1, vcB2, vcB3, vcB4, vcS, vcA1, vcA2, vcA3, vcA4, vcA5, vcA6, vcA7, ↓vcP1, ↓vcP2, ↓reduceIte, Option.map_some, Option.map_none, Option.bind_some, Option.bind_none, if_true, if_false, reduceCtorEq, beq_true, beq_false, Bool.not_true, Bool.not_false, BEq.rfl, Bool.true_beq, Bool.false_beq, and_true, true_and, and_self, decide_true, decide_false, List.length_cons, List.length_nil, List.all_cons, List.all_nil, Bool.and_true, Bool.and_self, List.getElem?_cons_zero, List.getElem?_cons_succ, List.set_cons_zero, List.set_cons_succ, List.nil_append, List.cons_append, List.append_nil, List.map_cons, List.map_nil, not_true_eq_false, not_false_eq_true, false_implies, true_implies, implies_true, List.take_succ_cons, List.take_zero, List.take_nil, List.drop_succ_cons, List.drop_zero, List.drop_nil, Nat.reduceLT, Nat.reduceLeDiff, Nat.reduceEqDiff, Nat.reduceAdd, Nat.reduceSub, Nat.reduceMul, Int.reduceLT, Int.reduceLE, Int.reduceEq, Int.reduceToNat, Int.reduceAdd, Int.reduceSub, Int.reduceNeg, List.reduceReplicate, List.replicate_zero, List.replicate_succ, ne_eq, List.flatMap_cons, List.flatMap_nil, List.length_replicate, List.length_append, Nat.le_refl, Nat.le_add_right, Nat.add_assoc, List.append_assoc, or_true, true_or, or_false, false_or, and_false, false_and, exists_eq_left, exists_eq_left', Option.some.injEq, DV.int.injEq, DV.bool.injEq, DV.sl.injEq, DV.own.injEq, DV.tup.injEq, List.cons.injEq, Ob.arr.injEq, Ob.box.injEq, Option.map_map, Int.toNat_natCast, Int.toNat_zero, Nat.reducePow, Int.toNat_one, Int.reduceMul, Nat.mul_one, Nat.zero_add, Nat.add_zero, Function.comp_apply, List.map_append, List.map_replicate, Int.cast_ofNat_Int, Nat.left_eq_add, Nat.add_eq_left, Nat.add_left_cancel_iff]
  refine LoopWp.inv FOk.nil (S := fun s : Objs × List It × Nat => ⟨[(0, .wrap (.ifc 55) [.ptr o 0 0]), (1, .int .i64 s.2.2)], s.1⟩)
    (I := fun s => s.1[q]? = some (some (.arr 3 (itRows s.2.1))) ∧ s.1[o]? = some (some (.box [.own q 0 s.2.1.length, m])) ∧ s.2.2 < s.2.1.length ∧ s.2.1.length ≤ 1000000 ∧ s.1.length = T.length ∧ s.1.set q (some (.arr 3 (itRows (upF s.2.1 s.2.2)))) = T.set q (some (.arr 3 (itRows (upF L j)))))
    (μ := fun s => s.2.2) (T, L, j) ⟨hT, ho, hj, hl, rfl, rfl⟩ ?_ ?_
  · simp -implicitDefEqProofs -dsimp only [vcB1, vcB2, vcB3, vcB4, vcS, wkT_self, vcA1, vcA2, vcA3, vcA4, vcA5, vcA6, vcA7, ↓vcP1, ↓vcP2, ↓reduceIte, Option.map_some, Option.map_none, Option.bind_some, Option.bind_none, if_true, if_false, reduceCtorEq, beq_true, beq_false, Bool.not_true, Bool.not_false, BEq.rfl, Bool.true_beq, Bool.false_beq, and_true, true_and, and_self, decide_true, decide_false, List.length_cons, List.length_nil, List.all_cons, List.all_nil, Bool.and_true, Bool.and_self, List.getElem?_cons_zero, List.getElem?_cons_succ, List.set_cons_zero, List.set_cons_succ, List.nil_append, List.cons_append, List.append_nil, List.map_cons, List.map_nil, not_true_eq_false, not_false_eq_true, false_implies, true_implies, implies_true, List.take_succ_cons, List.take_zero, List.take_nil, List.drop_succ_cons, List.drop_zero, List.drop_nil, Nat.reduceLT, Nat.reduceLeDiff, Nat.reduceEqDiff, Nat.reduceAdd, Nat.reduceSub, Nat.reduceMul, Int.reduceLT, Int.reduceLE, Int.reduceEq, Int.reduceToNat, Int.reduceAdd, Int.reduceSub, Int.reduceNeg, List.reduceReplicate, List.replicate_zero, List.replicate_succ, ne_eq, List.flatMap_cons, List.flatMap_nil, List.length_replicate, List.length_append, Nat.le_refl, Nat.le_add_right, Nat.add_assoc, List.append_assoc, or_true, true_or, or_false, false_or, and_false, false_and, exists_eq_left, exists_eq_left', Option.some.injEq, DV.int.injEq, DV.bool.injEq, DV.sl.injEq, DV.own.injEq, DV.tup.injEq, List.cons.injEq, Ob.arr.injEq, Ob.box.injEq, Option.map_map, Int.toNat_natCast, Int.toNat_zero, Nat.reducePow, Int.toNat_one, Int.reduceMul, Nat.mul_one, Nat.zero_add, Nat.add_zero, Function.comp_apply, List.map_append, List.map_replicate, Int.cast_ofNat_Int, Nat.left_eq_add, Nat.add_eq_left, Nat.add_left_cancel_iff]
  · intro ⟨T', L', j'⟩ ⟨h1, h2, h3, h4, h5, h6⟩
    dsimp only at h1 h2 h3 h4 h5 h6 ⊢
    unfold rc_hup_l0
    cases j' with
    | zero =>
      have hw : IntKind.i64.wrap ((IntKind.i64.wrap (-1)).tdiv 2) = 0 := by decide
      simp -implicitDefEqProofs -dsimp only [vcB1, vcB2, vcB3, vcB4, vcS, hw, vcA1, vcA2, vcA3, vcA4, vcA5, vcA6, vcA7, ↓vcP1, ↓vcP2, ↓reduceIte, Option.map_some, Option.map_none, Option.bind_some, Option.bind_none, if_true, if_false, reduceCtorEq, beq_true, beq_false, Bool.not_true, Bool.not_false, BEq.rfl, Bool.true_beq, Bool.false_beq, and_true, true_and, and_self, decide_true, decide_false, List.length_cons, List.length_nil, List.all_cons, List.all_nil, Bool.and_true, Bool.and_self, List.getElem?_cons_zero, List.getElem?_cons_succ, List.set_cons_zero, List.set_cons_succ, List.nil_append, List.cons_append, List.append_nil, List.map_cons, List.map_nil, not_true_eq_false, not_false_eq_true, false_implies, true_implies, implies_true, List.take_succ_cons, List.take_zero, List.take_nil, List.drop_succ_cons, List.drop_zero, List.drop_nil, Nat.reduceLT, Nat.reduceLeDiff, Nat.reduceEqDiff, Nat.reduceAdd, Nat.reduceSub, Nat.reduceMul, Int.reduceLT, Int.reduceLE, Int.reduceEq, Int.reduceToNat, Int.reduceAdd, Int.reduceSub, Int.reduceNeg, List.reduceReplicate, List.replicate_zero, List.replicate_succ, ne_eq, List.flatMap_cons, List.flatMap_nil, List.length_replicate, List.length_append, Nat.le_refl, Nat.le_add_right, Nat.add_assoc, List.append_assoc, or_true, true_or, or_false, false_or, and_false, false_and, exists_eq_left, exists_eq_left', Option.some.injEq, DV.int.injEq, DV.bool.injEq, DV.sl.injEq, DV.own.injEq, DV.tup.injEq, List.cons.injEq, Ob.arr.injEq, Ob.box.injEq, Option.map_map, Int.toNat_natCast, Int.toNat_zero, Nat.reducePow, Int.toNat_one, Int.reduceMul, Nat.mul_one, Nat.zero_add, Nat.add_zero, Function.comp_apply, List.map_append, List.map_replicate, Int.cast_ofNat_Int, Nat.left_eq_add, Nat.add_eq_left, Nat.add_left_cancel_iff]
      rw [upF_0, set_same h1] at h6
      rw [h6]
      exact ⟨by simp, h⟩
    | succ k =>
      have hw : IntKind.i64.wrap ((IntKind.i64.wrap (((k + 1 : Nat) : Int) - 1)).tdiv 2) = ((k / 2 : Nat) : Int) := by
        rw [wI64 (n := ((k + 1 : Nat) : Int) - 1) (by omega) (by omega), show ((k + 1 : Nat) : Int) - 1 = (k : Int) by omega, Int.tdiv_eq_ediv_of_nonneg (by omega), wI64 (by omega) (by omega)]
        omega
      have hne : ¬ ((k / 2 : Nat) : Int) = ((k + 1 : Nat) : Int) := by omega
      simp -implicitDefEqProofs -dsimp only [vcB1, vcB2, vcB3, vcB4, vcS, h1, h2, hw, hne, wkT_self, vcA1, vcA2, vcA3, vcA4, vcA5, vcA6, vcA7, ↓vcP1, ↓vcP2, ↓reduceIte, Option.map_some, Option.map_none, Option.bind_some, Option.bind_none, if_true, if_false, reduceCtorEq, beq_true, beq_false, Bool.not_true, Bool.not_false, BEq.rfl, Bool.true_beq, Bool.false_beq, and_true, true_and, and_self, decide_true, decide_false, List.length_cons, List.length_nil, List.all_cons, List.all_nil, Bool.and_true, Bool.and_self, List.getElem?_cons_zero, List.getElem?_cons_succ, List.set_cons_zero, List.set_cons_succ, List.nil_append, List.cons_append, List.append_nil, List.map_cons, List.map_nil, not_true_eq_false, not_false_eq_true, false_implies, true_implies, implies_true, List.take_succ_cons, List.take_zero, List.take_nil, List.drop_succ_cons, List.drop_zero, List.drop_nil, Nat.reduceLT, Nat.reduceLeDiff, Nat.reduceEqDiff, Nat.reduceAdd, Nat.reduceSub, Nat.reduceMul, Int.reduceLT, Int.reduceLE, Int.reduceEq, Int.reduceToNat, Int.reduceAdd, Int.reduceSub, Int.reduceNeg, List.reduceReplicate, List.replicate_zero, List.replicate_succ, ne_eq, List.flatMap_cons, List.flatMap_nil, List.length_replicate, List.length_append, Nat.le_refl, Nat.le_add_right, Nat.add_assoc, List.append_assoc, or_true, true_or, or_false, false_or, and_false, false_and, exists_eq_left, exists_eq_left', Option.some.injEq, DV.int.injEq, DV.bool.injEq, DV.sl.injEq, DV.own.injEq, DV.tup.injEq, List.cons.injEq, Ob.arr.injEq, Ob.box.injEq, Option.map_map, Int.toNat_natCast, Int.toNat_zero, Nat.reducePow, Int.toNat_one, Int.reduceMul, Nat.mul_one, Nat.zero_add, Nat.add_zero, Function.comp_apply, List.map_append, List.map_replicate, Int.cast_ofNat_Int, Nat.left_eq_add, Nat.add_eq_left, Nat.add_left_cancel_iff]
      refine iless_K h1 (by omega) (by omega) (by omega) (by omega) ?_
      have hlt : q < T'.length := (List.getElem?_eq_some_iff.1 h1).1
      have hqo : q ≠ o := ob_ne h2 h1
      rw [upF_s] at h6
      cases hb : lessI (itI L' (k + 1 : Nat)) (itI L' (k / 2 : Nat)) with
      | false =>
        simp -implicitDefEqProofs -dsimp only [vcB1, vcB2, vcB3, vcB4, vcS, h1, h2, hw, hne, wkT_self, hb, vcA1, vcA2, vcA3, vcA4, vcA5, vcA6, vcA7, ↓vcP1, ↓vcP2, ↓reduceIte, Option.map_some, Option.map_none, Option.bind_some, Option.bind_none, if_true, if_false, reduceCtorEq, beq_true, beq_false, Bool.not_true, Bool.not_false, BEq.rfl, Bool.true_beq, Bool.false_beq, and_true, true_and, and_self, decide_true, decide_false, List.length_cons, List.length_nil, List.all_cons, List.all_nil, Bool.and_true, Bool.and_self, List.getElem?_cons_zero, List.getElem?_cons_succ, List.set_cons_zero, List.set_cons_succ, List.nil_append, List.cons_append, List.append_nil, List.map_cons, List.map_nil, not_true_eq_false, not_false_eq_true, false_implies, true_implies, implies_true, List.take_succ_cons, List.take_zero, List.take_nil, List.drop_succ_cons, List.drop_zero, List.drop_nil, Nat.reduceLT, Nat.reduceLeDiff, Nat.reduceEqDiff, Nat.reduceAdd, Nat.reduceSub, Nat.reduceMul, Int.reduceLT, Int.reduceLE, Int.reduceEq, Int.reduceToNat, Int.reduceAdd, Int.reduceSub, Int.reduceNeg, List.reduceReplicate, List.replicate_zero, List.replicate_succ, ne_eq, List.flatMap_cons, List.flatMap_nil, List.length_replicate, List.length_append, Nat.le_refl, Nat.le_add_right, Nat.add_assoc, List.append_assoc, or_true, true_or, or_false, false_or, and_false, false_and, exists_eq_left, exists_eq_left', Option.some.injEq, DV.int.injEq, DV.bool.injEq, DV.sl.injEq, DV.own.injEq, DV.tup.injEq, List.cons.injEq, Ob.arr.injEq, Ob.box.injEq, Option.map_map, Int.toNat_natCast, Int.toNat_zero, Nat.reducePow, Int.toNat_one, Int.reduceMul, Nat.mul_one, Nat.zero_add, Nat.add_zero, Function.comp_apply, List.map_append, List.map_replicate, Int.cast_ofNat_Int, Nat.left_eq_add, Nat.add_eq_left, Nat.add_left_cancel_iff]
        rw [hb, if_neg (by simp), set_same h1] at h6
        rw [h6]
        exact ⟨by simp, h⟩
      | true =>
        simp -implicitDefEqProofs -dsimp only [vcB1, vcB2, vcB3, vcB4, vcS, h1, h2, hw, hne, wkT_self, hb, vcA1, vcA2, vcA3, vcA4, vcA5, vcA6, vcA7, ↓vcP1, ↓vcP2, ↓reduceIte, Option.map_some, Option.map_none, Option.bind_some, Option.bind_none, if_true, if_false, reduceCtorEq, beq_true, beq_false, Bool.not_true, Bool.not_false, BEq.rfl, Bool.true_beq, Bool.false_beq, and_true, true_and, and_self, decide_true, decide_false, List.length_cons, List.length_nil, List.all_cons, List.all_nil, Bool.and_true, Bool.and_self, List.getElem?_cons_zero, List.getElem?_cons_succ, List.set_cons_zero, List.set_cons_succ, List.nil_append, List.cons_append, List.append_nil, List.map_cons, List.map_nil, not_true_eq_false, not_false_eq_true, false_implies, true_implies, implies_true, List.take_succ_cons, List.take_zero, List.take_nil, List.drop_succ_cons, List.drop_zero, List.drop_nil, Nat.reduceLT, Nat.reduceLeDiff, Nat.reduceEqDiff, Nat.reduceAdd, Nat.reduceSub, Nat.reduceMul, Int.reduceLT, Int.reduceLE, Int.reduceEq, Int.reduceToNat, Int.reduceAdd, Int.reduceSub, Int.reduceNeg, List.reduceReplicate, List.replicate_zero, List.replicate_succ, ne_eq, List.flatMap_cons, List.flatMap_nil, List.length_replicate, List.length_append, Nat.le_refl, Nat.le_add_right, Nat.add_assoc, List.append_assoc, or_true, true_or, or_false, false_or, and_false, false_and, exists_eq_left, exists_eq_left', Option.some.injEq, DV.int.injEq, DV.bool.injEq, DV.sl.injEq, DV.own.injEq, DV.tup.injEq, List.cons.injEq, Ob.arr.injEq, Ob.box.injEq, Option.map_map, Int.toNat_natCast, Int.toNat_zero, Nat.reducePow, Int.toNat_one, Int.reduceMul, Nat.mul_one, Nat.zero_add, Nat.add_zero, Function.comp_apply, List.map_append, List.map_replicate, Int.cast_ofNat_Int, Nat.left_eq_add, Nat.add_eq_left, Nat.add_left_cancel_iff]
        rw [hb, if_pos rfl] at h6
        refine iswap_K h1 (by omega) (by omega) (by omega) (by omega) ?_
        refine ⟨(T'.set q (some (.arr 3 (itRows (swapI L' (k / 2 : Nat) (k + 1 : Nat))))), swapI L' (k / 2 : Nat) (k + 1 : Nat), k / 2), ⟨rfl, ?_⟩, ⟨?_, ?_, ?_, ?_, ?_, ?_⟩, ?_⟩
        · exact objsWk_refl _
        · dsimp only; rw [List.getElem?_set_self hlt]
        · dsimp only; rw [List.getElem?_set_ne hqo, swapI_len]; exact h2
        · dsimp only; rw [swapI_len]; omega
        · dsimp only; rw [swapI_len]; omega
        · dsimp only; rw [List.length_set]; omega
        · dsimp only; rw [List.set_set]; exact h6
        · dsimp only; omega
end Go.Proofs.Ytaopaongpoecoaa
