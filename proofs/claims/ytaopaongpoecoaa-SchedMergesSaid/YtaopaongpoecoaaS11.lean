/- sched: Heap.Drop. -/
import Derived.Test.YtaopaongpoecoaaS10
set_option linter.unusedVariables false
set_option linter.unusedSimpArgs false
set_option maxRecDepth 10000
namespace Go.Proofs.Ytaopaongpoecoaa
open Go.RowKit
/-- All but those of an Id. -/
def notI (id : Int) (L : List It) : List It := L.filter fun x => decide (x.id ≠ id)
theorem sdrop_K {T : Objs} {K : DV → Objs → Prop} {o q : Nat} {L : List It} {m : DV} {id : Int} (ho : T[o]? = some (some (.box [.own q 0 L.length, m]))) (hT : T[q]? = some (some (.arr 3 (itRows L)))) (hl : L.length ≤ 1000000)
    (h : ∀ ext p, ext[p]? = some (some (.arr 3 (itRows (initF ((notI id L).length / 2) (notI id L))))) → K (.int .i64 ((L.length : Int) - (notI id L).length)) (T.set o (some (.box [.own (T.length + p) 0 (notI id L).length, m])) ++ ext)) : CallK PG 12 [.ptr o 0 0, .int .i64 id] T K := by
  have hlt : q < T.length := (List.getElem?_eq_some_iff.1 hT).1
  have hlo : o < T.length := (List.getElem?_eq_some_iff.1 ho).1
  refine CallK.of_fn FOk.nil rc_sdrop_ok (by simp [rc_sdrop]) ?_
  unfold rc_sdrop
  dsimp only
  simp -implicitDefEqProofs -dsimp only [vcB1, vcB2, vcB3, vcB4, vcS, ho, vcA1, vcA2, vcA3, vcA4, vcA5, vcA6, vcA7, ↓vcP1, ↓vcP2, ↓reduceIte, Option.map_some, Option.map_none, Option.bind_some, Option.bind_none, if_true, if_false, reduceCtorEq, beq_true, beq_false, Bool.not_true, Bool.not_false, BEq.rfl, Bool.true_beq, Bool.false_beq, and_true, true_and, and_self, decide_true, decide_false, List.length_cons, List.length_nil, List.all_cons, List.all_nil, Bool.and_true, Bool.and_self, List.getElem?_cons_zero, List.getElem?_cons_succ, List.set_cons_zero, List.set_cons_succ, List.nil_append, List.cons_append, List.append_nil, List.map_cons, List.map_nil, not_true_eq_false, not_false_eq_true, false_implies, true_implies, implies_true, List.take_succ_cons, List.take_zero, List.take_nil, List.drop_succ_cons, List.drop_zero, List.drop_nil, Nat.reduceLT, Nat.reduceLeDiff, Nat.reduceEqDiff, Nat.reduceAdd, Nat.reduceSub, Nat.reduceMul, Int.reduceLT, Int.reduceLE, Int.reduceEq, Int.reduceToNat, Int.reduceAdd, Int.reduceSub, Int.reduceNeg, List.reduceReplicate, List.replicate_zero, List.replicate_succ, ne_eq, List.flatMap_cons, List.flatMap_nil, List.length_replicate, List.length_append, Nat.le_refl, Nat.le_add_right, Nat.add_assoc, List.append_assoc, or_true, true_or, or_false, false_or, and_false, false_and, exists_eq_left, exists_eq_left', Option.some.injEq, DV.int.injEq, DV.bool.injEq, DV.sl.injEq, DV.own.injEq, DV.tup.injEq, List.cons.injEq, Ob.arr.injEq, Ob.box.injEq, Option.map_map, Int.toNat_natCast, Int.toNat_zero, Nat.reducePow, Int.toNat_one, Int.reduceMul, Nat.mul_one, Nat.zero_add, Nat.add_zero, Function.comp_apply, List.map_append, List.map_replicate, Int.cast_ofNat_Int, Nat.left_eq_add, Nat.add_eq_left, Nat.add_left_cancel_iff]
  refine LoopWp.own 5 3 rfl (.inl rfl) ?_
  refine LoopWp.inv FOk.nil (S := fun s : Objs × Nat × Nat => ⟨[(0, .ptr o 0 0), (1, .int .i64 id), (5, .own (T.length + s.2.1) 0 (notI id (L.take s.2.2)).length), (12, .own q 0 L.length), (13, .int .i64 L.length), (14, .int .i64 s.2.2)], T ++ s.1⟩)
    (I := fun s => s.1[s.2.1]? = some (some (.arr 3 (itRows (notI id (L.take s.2.2))))) ∧ s.2.2 ≤ L.length)
    (μ := fun s => L.length - s.2.2) ([some (.arr 3 [])], 0, 0) ⟨by simp [notI, itRows], by simp⟩ ?_ ?_
  · simp -implicitDefEqProofs -dsimp only [vcB1, vcB2, vcB3, vcB4, vcS, wkT_self, vcA1, vcA2, vcA3, vcA4, vcA5, vcA6, vcA7, ↓vcP1, ↓vcP2, ↓reduceIte, Option.map_some, Option.map_none, Option.bind_some, Option.bind_none, if_true, if_false, reduceCtorEq, beq_true, beq_false, Bool.not_true, Bool.not_false, BEq.rfl, Bool.true_beq, Bool.false_beq, and_true, true_and, and_self, decide_true, decide_false, List.length_cons, List.length_nil, List.all_cons, List.all_nil, Bool.and_true, Bool.and_self, List.getElem?_cons_zero, List.getElem?_cons_succ, List.set_cons_zero, List.set_cons_succ, List.nil_append, List.cons_append, List.append_nil, List.map_cons, List.map_nil, not_true_eq_false, not_false_eq_true, false_implies, true_implies, implies_true, List.take_succ_cons, List.take_zero, List.take_nil, List.drop_succ_cons, List.drop_zero, List.drop_nil, Nat.reduceLT, Nat.reduceLeDiff, Nat.reduceEqDiff, Nat.reduceAdd, Nat.reduceSub, Nat.reduceMul, Int.reduceLT, Int.reduceLE, Int.reduceEq, Int.reduceToNat, Int.reduceAdd, Int.reduceSub, Int.reduceNeg, List.reduceReplicate, List.replicate_zero, List.replicate_succ, ne_eq, List.flatMap_cons, List.flatMap_nil, List.length_replicate, List.length_append, Nat.le_refl, Nat.le_add_right, Nat.add_assoc, List.append_assoc, or_true, true_or, or_false, false_or, and_false, false_and, exists_eq_left, exists_eq_left', Option.some.injEq, DV.int.injEq, DV.bool.injEq, DV.sl.injEq, DV.own.injEq, DV.tup.injEq, List.cons.injEq, Ob.arr.injEq, Ob.box.injEq, Option.map_map, Int.toNat_natCast, Int.toNat_zero, Nat.reducePow, Int.toNat_one, Int.reduceMul, Nat.mul_one, Nat.zero_add, Nat.add_zero, Function.comp_apply, List.map_append, List.map_replicate, Int.cast_ofNat_Int, Nat.left_eq_add, Nat.add_eq_left, Nat.add_left_cancel_iff]
    simp [notI]
  · intro ⟨ext, p, i⟩ ⟨h1, h2⟩
    dsimp only at h1 h2 ⊢
    unfold rc_sdrop_l0
    by_cases hi : i < L.length
    · have hii : (i : Int) < L.length := by omega
      have hg : (itRows L)[i]? = some [.int .i64 (itI L i).at', .int .i64 (itI L i).id, .int .i64 (itI L i).n] := itRows_get hi
      have hi0 : (0 : Int) ≤ (i : Int) := by omega
      have hw : IntKind.i64.wrap ((i : Int) + 1) = ((i + 1 : Nat) : Int) := by rw [wI64 (by omega) (by omega)]; omega
      have htake : L.take (i + 1) = L.take i ++ [itI L i] := by rw [List.take_succ_eq_append_getElem hi, itI_nat hi]
      have hpe : p < ext.length := (List.getElem?_eq_some_iff.1 h1).1
      cases hc : decide ((itI L i).id = id) with
      | true =>
        have hc' : (itI L i).id = id := of_decide_eq_true hc
        have hn : notI id (L.take (i + 1)) = notI id (L.take i) := by simp [htake, notI, hc']
        simp -implicitDefEqProofs -dsimp only [vcB1, vcB2, vcB3, vcB4, vcS, hii, hi0, hg, hw, hT, app_lt, hlt, itRows_len, Nat.zero_add, app_geti, app_seti, app_at, app_setl, h1, hc', vcA1, vcA2, vcA3, vcA4, vcA5, vcA6, vcA7, ↓vcP1, ↓vcP2, ↓reduceIte, Option.map_some, Option.map_none, Option.bind_some, Option.bind_none, if_true, if_false, reduceCtorEq, beq_true, beq_false, Bool.not_true, Bool.not_false, BEq.rfl, Bool.true_beq, Bool.false_beq, and_true, true_and, and_self, decide_true, decide_false, List.length_cons, List.length_nil, List.all_cons, List.all_nil, Bool.and_true, Bool.and_self, List.getElem?_cons_zero, List.getElem?_cons_succ, List.set_cons_zero, List.set_cons_succ, List.nil_append, List.cons_append, List.append_nil, List.map_cons, List.map_nil, not_true_eq_false, not_false_eq_true, false_implies, true_implies, implies_true, List.take_succ_cons, List.take_zero, List.take_nil, List.drop_succ_cons, List.drop_zero, List.drop_nil, Nat.reduceLT, Nat.reduceLeDiff, Nat.reduceEqDiff, Nat.reduceAdd, Nat.reduceSub, Nat.reduceMul, Int.reduceLT, Int.reduceLE, Int.reduceEq, Int.reduceToNat, Int.reduceAdd, Int.reduceSub, Int.reduceNeg, List.reduceReplicate, List.replicate_zero, List.replicate_succ, ne_eq, List.flatMap_cons, List.flatMap_nil, List.length_replicate, List.length_append, Nat.le_refl, Nat.le_add_right, Nat.add_assoc, List.append_assoc, or_true, true_or, or_false, false_or, and_false, false_and, exists_eq_left, exists_eq_left', Option.some.injEq, DV.int.injEq, DV.bool.injEq, DV.sl.injEq, DV.own.injEq, DV.tup.injEq, List.cons.injEq, Ob.arr.injEq, Ob.box.injEq, Option.map_map, Int.toNat_natCast, Int.toNat_zero, Nat.reducePow, Int.toNat_one, Int.reduceMul, Nat.mul_one, Nat.zero_add, Nat.add_zero, Function.comp_apply, List.map_append, List.map_replicate, Int.cast_ofNat_Int, Nat.left_eq_add, Nat.add_eq_left, Nat.add_left_cancel_iff]
        refine ⟨(ext ++ [some (.box [.int .i64 (itI L i).at', .int .i64 id, .int .i64 (itI L i).n])], p, i + 1), ?_⟩
        dsimp only
        rw [hn]
        exact ⟨⟨⟨⟨rfl, rfl⟩, rfl⟩, objsWk_refl _⟩, ⟨by rw [app_lt hpe]; exact h1, by omega⟩, by omega⟩
      | false =>
        have hc' : ¬ (itI L i).id = id := of_decide_eq_false hc
        have hn : notI id (L.take (i + 1)) = notI id (L.take i) ++ [itI L i] := by simp [htake, notI, hc']
        have hb := List.length_filter_le (fun x : It => decide (x.id ≠ id)) (L.take i)
        rw [List.length_take] at hb
        have hb1 : ((notI id (L.take i)).length + 1) * 24 ≤ 140737488355328 := by unfold notI; omega
        have hb2 : (notI id (L.take i)).length + 1 ≤ 4611686018427387904 := by unfold notI; omega
        have hq1 : ∀ l : Objs, p < (ext ++ l).length := fun l => by simp; omega
        simp -implicitDefEqProofs -dsimp only [vcB1, vcB2, vcB3, vcB4, vcS, hii, hi0, hg, hw, hT, app_lt, hlt, hpe, itRows_len, Nat.zero_add, app_geti, app_get0, app_set0, app_seti, app_at, app_setl, h1, hc', hb1, hb2, itRows_app, vcA1, vcA2, vcA3, vcA4, vcA5, vcA6, vcA7, ↓vcP1, ↓vcP2, ↓reduceIte, Option.map_some, Option.map_none, Option.bind_some, Option.bind_none, if_true, if_false, reduceCtorEq, beq_true, beq_false, Bool.not_true, Bool.not_false, BEq.rfl, Bool.true_beq, Bool.false_beq, and_true, true_and, and_self, decide_true, decide_false, List.length_cons, List.length_nil, List.all_cons, List.all_nil, Bool.and_true, Bool.and_self, List.getElem?_cons_zero, List.getElem?_cons_succ, List.set_cons_zero, List.set_cons_succ, List.nil_append, List.cons_append, List.append_nil, List.map_cons, List.map_nil, not_true_eq_false, not_false_eq_true, false_implies, true_implies, implies_true, List.take_succ_cons, List.take_zero, List.take_nil, List.drop_succ_cons, List.drop_zero, List.drop_nil, Nat.reduceLT, Nat.reduceLeDiff, Nat.reduceEqDiff, Nat.reduceAdd, Nat.reduceSub, Nat.reduceMul, Int.reduceLT, Int.reduceLE, Int.reduceEq, Int.reduceToNat, Int.reduceAdd, Int.reduceSub, Int.reduceNeg, List.reduceReplicate, List.replicate_zero, List.replicate_succ, ne_eq, List.flatMap_cons, List.flatMap_nil, List.length_replicate, List.length_append, Nat.le_refl, Nat.le_add_right, Nat.add_assoc, List.append_assoc, or_true, true_or, or_false, false_or, and_false, false_and, exists_eq_left, exists_eq_left', Option.some.injEq, DV.int.injEq, DV.bool.injEq, DV.sl.injEq, DV.own.injEq, DV.tup.injEq, List.cons.injEq, Ob.arr.injEq, Ob.box.injEq, Option.map_map, Int.toNat_natCast, Int.toNat_zero, Nat.reducePow, Int.toNat_one, Int.reduceMul, Nat.mul_one, Nat.zero_add, Nat.add_zero, Function.comp_apply, List.map_append, List.map_replicate, Int.cast_ofNat_Int, Nat.left_eq_add, Nat.add_eq_left, Nat.add_left_cancel_iff]
        generalize hA : some (Ob.box [.int .i64 (itI L i).at', .int .i64 (itI L i).id, .int .i64 (itI L i).n]) = A
        generalize hB : some (Ob.arr 3 [[.int .i64 (itI L i).at', .int .i64 (itI L i).id, .int .i64 (itI L i).n]]) = B
        refine ⟨((ext ++ [A, B]).set p none ++ [some (.arr 3 (itRows (notI id (L.take i) ++ [itI L i])))], ext.length + 2, i + 1), ⟨⟨⟨rfl, ?_⟩, rfl⟩, objsWk_refl _⟩, ⟨?_, ?_⟩, ?_⟩
        · dsimp only; rw [hn]; simp
        · dsimp only
          rw [hn]
          have : ((ext ++ [A, B]).set p none).length = ext.length + 2 := by simp
          rw [← this]
          exact app_at _ _
        · dsimp only; omega
        · dsimp only; omega
    · have hii : ¬ (i : Int) < L.length := by omega
      have htk : L.take i = L := List.take_of_length_le (by omega)
      rw [htk] at h1 ⊢
      have hpe : p < ext.length := (List.getElem?_eq_some_iff.1 h1).1
      have hb := List.length_filter_le (fun x : It => decide (x.id ≠ id)) L
      have hw : IntKind.i64.wrap ((L.length : Int) - ((notI id L).length : Int)) = (L.length : Int) - ((notI id L).length : Int) := by unfold notI; rw [wI64 (by omega) (by omega)]
      simp -implicitDefEqProofs -dsimp only [vcB1, vcB2, vcB3, vcB4, vcS, hii, ho, hw, app_lt, app_set, hlo, app_geti, h1, vcA1, vcA2, vcA3, vcA4, vcA5, vcA6, vcA7, ↓vcP1, ↓vcP2, ↓reduceIte, Option.map_some, Option.map_none, Option.bind_some, Option.bind_none, if_true, if_false, reduceCtorEq, beq_true, beq_false, Bool.not_true, Bool.not_false, BEq.rfl, Bool.true_beq, Bool.false_beq, and_true, true_and, and_self, decide_true, decide_false, List.length_cons, List.length_nil, List.all_cons, List.all_nil, Bool.and_true, Bool.and_self, List.getElem?_cons_zero, List.getElem?_cons_succ, List.set_cons_zero, List.set_cons_succ, List.nil_append, List.cons_append, List.append_nil, List.map_cons, List.map_nil, not_true_eq_false, not_false_eq_true, false_implies, true_implies, implies_true, List.take_succ_cons, List.take_zero, List.take_nil, List.drop_succ_cons, List.drop_zero, List.drop_nil, Nat.reduceLT, Nat.reduceLeDiff, Nat.reduceEqDiff, Nat.reduceAdd, Nat.reduceSub, Nat.reduceMul, Int.reduceLT, Int.reduceLE, Int.reduceEq, Int.reduceToNat, Int.reduceAdd, Int.reduceSub, Int.reduceNeg, List.reduceReplicate, List.replicate_zero, List.replicate_succ, ne_eq, List.flatMap_cons, List.flatMap_nil, List.length_replicate, List.length_append, Nat.le_refl, Nat.le_add_right, Nat.add_assoc, List.append_assoc, or_true, true_or, or_false, false_or, and_false, false_and, exists_eq_left, exists_eq_left', Option.some.injEq, DV.int.injEq, DV.bool.injEq, DV.sl.injEq, DV.own.injEq, DV.tup.injEq, List.cons.injEq, Ob.arr.injEq, Ob.box.injEq, Option.map_map, Int.toNat_natCast, Int.toNat_zero, Nat.reducePow, Int.toNat_one, Int.reduceMul, Nat.mul_one, Nat.zero_add, Nat.add_zero, Function.comp_apply, List.map_append, List.map_replicate, Int.cast_ofNat_Int, Nat.left_eq_add, Nat.add_eq_left, Nat.add_left_cancel_iff]
      have hTl : (T.set o (some (Ob.box [.own (T.length + p) 0 (notI id L).length, m]))).length = T.length := by simp
      refine hinit_K (o := o) (q := T.length + p) (L := notI id L) (m := m) ?_ ?_ (by unfold notI; omega) ?_
      · rw [app_lt (by rw [hTl]; exact hlo), List.getElem?_set_self hlo]
      · have := app_geti (T.set o (some (Ob.box [.own (T.length + p) 0 (notI id L).length, m]))) ext p
        rw [hTl] at this
        rw [this]; exact h1
      · have := app_seti (T.set o (some (Ob.box [.own (T.length + p) 0 (notI id L).length, m]))) ext p (some (.arr 3 (itRows (initF ((notI id L).length / 2) (notI id L)))))
        rw [hTl] at this
        rw [this]
        exact ⟨by simp, h _ p (List.getElem?_set_self hpe)⟩
end Go.Proofs.Ytaopaongpoecoaa
