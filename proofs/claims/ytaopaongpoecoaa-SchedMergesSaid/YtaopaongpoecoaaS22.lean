/- sched: Merge's code, the program's: whole. -/
import Derived.Test.YtaopaongpoecoaaS21
set_option linter.unusedVariables false
set_option linter.unusedSimpArgs false
set_option maxRecDepth 10000
namespace Go.Proofs.Ytaopaongpoecoaa
open Go.RowKit
theorem mrgF_none {LL : List (List Ev)} {at' : List Nat} (h : bestF LL at' LL.length = none) : ∀ m, mrgF LL m at' = []
  | 0 => rfl
  | m + 1 => by simp only [mrgF, h]
/-- A new event's data is let go of. -/
theorem frz_ev {A : Objs} {env : List (Nat × DV)} {bx mk : Option Ob} {out : List Ev} {e : Ev} (b p : Nat) (hp : p = A.length + 1) :
    Frzs ⟨env, A ++ [bx, some (.arr 1 (intRows .u8 e.data)), mk, some (.arr 5 (evRows out ++ [[.int .i64 e.tick, .int .i64 e.kind, .own p 0 e.data.length, .int .i64 e.rows, .int .i64 e.cols]]))]⟩
      ⟨env, A ++ [bx, none, mk, some (.arr 5 (evRows (out ++ [e])))]⟩ := by
  subst hp
  have := Frzs.inner (env := env) (T := A ++ [bx, some (.arr 1 (intRows .u8 e.data)), mk, some (.arr 5 (evRows out ++ [[.int .i64 e.tick, .int .i64 e.kind, .own (A.length + 1) 0 e.data.length, .int .i64 e.rows, .int .i64 e.cols]]))])
    (p := A.length + 1) (q := A.length + 3) (rows' := evRows (out ++ [e])) (tb_geti _ _ 1) (tb_geti _ _ 3) (by omega) ⟨by simp [evRows], fun i row' hr => ?_⟩
  · rw [tb_seti, tb_seti] at this
    exact this
  · rw [← evRows_app] at hr
    rcases Nat.lt_or_ge i (evRows out).length with h | h
    · rw [List.getElem?_append_left h] at hr
      exact ⟨row', by rw [List.getElem?_append_left h]; exact hr, frRow.refl (fr0.refl _ _ _) _⟩
    · rw [List.getElem?_append_right h] at hr
      refine ⟨_, by rw [List.getElem?_append_right h]; exact List.getElem?_eq_getElem (by have := (List.getElem?_eq_some_iff.1 hr).1; simpa [evRows] using this), ?_⟩
      have hi : i - (evRows out).length = 0 := by have := (List.getElem?_eq_some_iff.1 hr).1; simp [evRows] at this ⊢; omega
      simp only [hi] at hr ⊢
      obtain rfl : evRow e = row' := by simpa [evRows] using hr
      refine ⟨rfl, fun j c' hj => ?_⟩
      match j with
      | 0 => exact ⟨_, rfl, .inl (by simpa [evRow] using hj.symm)⟩
      | 1 => exact ⟨_, rfl, .inl (by simpa [evRow] using hj.symm)⟩
      | 2 =>
        refine ⟨_, rfl, .inr ?_⟩
        simp [evRow] at hj
        subst hj
        have : (intRows .u8 e.data).take e.data.length = intRows .u8 e.data := List.take_of_length_le (by simp [intRows])
        simp [DV.frz0, intRows_length, this]
      | 3 => exact ⟨_, rfl, .inl (by simpa [evRow] using hj.symm)⟩
      | 4 => exact ⟨_, rfl, .inl (by simpa [evRow] using hj.symm)⟩
      | j + 5 => simp [evRow] at hj
theorem ints8 {l : List Int} (h : inK .u8 l) : l.length ≤ 4611686018427387904 := h.1
theorem len_total : ∀ {LL : List (List Ev)} {L : List Ev}, L ∈ LL → L.length ≤ total LL
  | [], _, h => by cases h
  | A :: LL, L, h => by
    rcases List.mem_cons.1 h with rfl | h
    · simp [total]
    · have := len_total h
      simp only [total, List.map_cons, List.sum_cons] at this ⊢
      omega
theorem merge_K {T : Objs} {sz : Nat} {k : SK} {K : DV → Objs → Prop} {LL : List (List Ev)} (hs : sz = 1 ∨ LL = []) (hl : LL.length ≤ 1000) (htot : total LL ≤ 1000000) (hd : ∀ L ∈ LL, ∀ e ∈ L, e.data.length ≤ 1000000) (h : ∀ T', Keep T T' [] → K (.sl 5 (evRows (mergeF LL)) .any) T') : CallK PG 15 [.sl sz (evLists LL) k] T K := by
  refine CallK.of_fnF FOk.nil rc_merge_ok (by simp [rc_merge]) ?_
  unfold rc_merge
  dsimp only
  have z1 : (0 : Int) ≤ LL.length ∧ (LL.length : Int) * 8 ≤ 140737488355328 ∧ (LL.length : Int) ≤ 4611686018427387904 := by omega
  simp -implicitDefEqProofs -dsimp only [evLists_len, z1, natRows_rep, Int.le_refl, vcB1, vcB2, vcB3, vcB4, vcB5, vcA1, vcA2, vcA3, vcA4, vcA5, vcA6, vcA7, ↓vcP1, ↓vcP2, ↓reduceIte, Option.map_some, Option.map_none, Option.bind_some, Option.bind_none, if_true, if_false, reduceCtorEq, beq_true, beq_false, Bool.not_true, Bool.not_false, BEq.rfl, Bool.true_beq, Bool.false_beq, and_true, true_and, and_self, decide_true, decide_false, List.length_cons, List.length_nil, List.all_cons, List.all_nil, Bool.and_true, Bool.and_self, List.getElem?_cons_zero, List.getElem?_cons_succ, List.set_cons_zero, List.set_cons_succ, List.nil_append, List.cons_append, List.append_nil, List.map_cons, List.map_nil, not_true_eq_false, not_false_eq_true, false_implies, true_implies, implies_true, List.take_succ_cons, List.take_zero, List.take_nil, List.drop_succ_cons, List.drop_zero, List.drop_nil, Nat.reduceLT, Nat.reduceLeDiff, Nat.reduceEqDiff, Nat.reduceAdd, Nat.reduceSub, Nat.reduceMul, Int.reduceLT, Int.reduceLE, Int.reduceEq, Int.reduceToNat, Int.reduceAdd, Int.reduceSub, Int.reduceNeg, List.reduceReplicate, List.replicate_zero, List.replicate_succ, ne_eq, List.flatMap_cons, List.flatMap_nil, List.length_replicate, List.length_append, Nat.le_refl, Nat.le_add_right, Nat.add_assoc, List.append_assoc, or_true, true_or, or_false, false_or, and_false, false_and, exists_eq_left, exists_eq_left', Option.some.injEq, DV.int.injEq, DV.bool.injEq, DV.sl.injEq, DV.own.injEq, DV.tup.injEq, List.cons.injEq, Ob.arr.injEq, Ob.box.injEq, Option.map_map, Int.toNat_natCast, Int.toNat_zero, Nat.reducePow, Int.toNat_one, Int.reduceMul, Nat.mul_one, Nat.zero_add, Nat.add_zero, Function.comp_apply, List.map_append, List.map_replicate, Int.cast_ofNat_Int, Nat.left_eq_add, Nat.add_eq_left, Nat.add_left_cancel_iff]
  refine LoopWp.own 4 5 rfl (.inl rfl) ?_
  refine LoopWp.invF FOk.nil (S := fun s : Objs × Nat × List Nat × List Ev × Nat => ⟨[(0, .sl sz (evLists LL) k), (3, .own T.length 0 LL.length), (4, .own s.2.1 0 s.2.2.2.1.length)], s.1⟩)
    (I := fun s => s.1[T.length]? = some (some (.arr 1 (natRows s.2.2.1))) ∧ s.1[s.2.1]? = some (some (.arr 5 (evRows s.2.2.2.1))) ∧ OkAt LL s.2.2.1 ∧ s.2.2.1.sum + s.2.2.2.2 = total LL ∧ s.2.2.2.1 ++ mrgF LL s.2.2.2.2 s.2.2.1 = mergeF LL ∧ Keep T s.1 [] ∧ s.2.2.2.1.length + s.2.2.2.2 = total LL ∧ T.length < s.2.1)
    (μ := fun s => s.2.2.2.2) (T ++ [some (.arr 1 (natRows (List.replicate LL.length 0))), some (.arr 5 [])], T.length + 1, List.replicate LL.length 0, [], total LL)
    ⟨tb_get0 _ _ _, tb_geti _ _ 1, okAt_0 LL, by simp, rfl, Keep.app _ _ _, by simp, by simp⟩ ?_ ?_
  · simp -implicitDefEqProofs -dsimp only [vcB1, vcB2, vcB3, vcB4, vcB5, vcA1, vcA2, vcA3, vcA4, vcA5, vcA6, vcA7, ↓vcP1, ↓vcP2, ↓reduceIte, Option.map_some, Option.map_none, Option.bind_some, Option.bind_none, if_true, if_false, reduceCtorEq, beq_true, beq_false, Bool.not_true, Bool.not_false, BEq.rfl, Bool.true_beq, Bool.false_beq, and_true, true_and, and_self, decide_true, decide_false, List.length_cons, List.length_nil, List.all_cons, List.all_nil, Bool.and_true, Bool.and_self, List.getElem?_cons_zero, List.getElem?_cons_succ, List.set_cons_zero, List.set_cons_succ, List.nil_append, List.cons_append, List.append_nil, List.map_cons, List.map_nil, not_true_eq_false, not_false_eq_true, false_implies, true_implies, implies_true, List.take_succ_cons, List.take_zero, List.take_nil, List.drop_succ_cons, List.drop_zero, List.drop_nil, Nat.reduceLT, Nat.reduceLeDiff, Nat.reduceEqDiff, Nat.reduceAdd, Nat.reduceSub, Nat.reduceMul, Int.reduceLT, Int.reduceLE, Int.reduceEq, Int.reduceToNat, Int.reduceAdd, Int.reduceSub, Int.reduceNeg, List.reduceReplicate, List.replicate_zero, List.replicate_succ, ne_eq, List.flatMap_cons, List.flatMap_nil, List.length_replicate, List.length_append, Nat.le_refl, Nat.le_add_right, Nat.add_assoc, List.append_assoc, or_true, true_or, or_false, false_or, and_false, false_and, exists_eq_left, exists_eq_left', Option.some.injEq, DV.int.injEq, DV.bool.injEq, DV.sl.injEq, DV.own.injEq, DV.tup.injEq, List.cons.injEq, Ob.arr.injEq, Ob.box.injEq, Option.map_map, Int.toNat_natCast, Int.toNat_zero, Nat.reducePow, Int.toNat_one, Int.reduceMul, Nat.mul_one, Nat.zero_add, Nat.add_zero, Function.comp_apply, List.map_append, List.map_replicate, Int.cast_ofNat_Int, Nat.left_eq_add, Nat.add_eq_left, Nat.add_left_cancel_iff]
    exact .refl _
  · intro ⟨T1, p, at', out, m⟩ ⟨i1, i2, i3, i4, i5, i6, i7, i8⟩
    dsimp only at i1 i2 i3 i4 i5 i6 i7 i8 ⊢
    unfold rc_merge_l1
    simp -implicitDefEqProofs -dsimp only [evLists_len, vcB1, vcB2, vcB3, vcB4, vcB5, vcA1, vcA2, vcA3, vcA4, vcA5, vcA6, vcA7, ↓vcP1, ↓vcP2, ↓reduceIte, Option.map_some, Option.map_none, Option.bind_some, Option.bind_none, if_true, if_false, reduceCtorEq, beq_true, beq_false, Bool.not_true, Bool.not_false, BEq.rfl, Bool.true_beq, Bool.false_beq, and_true, true_and, and_self, decide_true, decide_false, List.length_cons, List.length_nil, List.all_cons, List.all_nil, Bool.and_true, Bool.and_self, List.getElem?_cons_zero, List.getElem?_cons_succ, List.set_cons_zero, List.set_cons_succ, List.nil_append, List.cons_append, List.append_nil, List.map_cons, List.map_nil, not_true_eq_false, not_false_eq_true, false_implies, true_implies, implies_true, List.take_succ_cons, List.take_zero, List.take_nil, List.drop_succ_cons, List.drop_zero, List.drop_nil, Nat.reduceLT, Nat.reduceLeDiff, Nat.reduceEqDiff, Nat.reduceAdd, Nat.reduceSub, Nat.reduceMul, Int.reduceLT, Int.reduceLE, Int.reduceEq, Int.reduceToNat, Int.reduceAdd, Int.reduceSub, Int.reduceNeg, List.reduceReplicate, List.replicate_zero, List.replicate_succ, ne_eq, List.flatMap_cons, List.flatMap_nil, List.length_replicate, List.length_append, Nat.le_refl, Nat.le_add_right, Nat.add_assoc, List.append_assoc, or_true, true_or, or_false, false_or, and_false, false_and, exists_eq_left, exists_eq_left', Option.some.injEq, DV.int.injEq, DV.bool.injEq, DV.sl.injEq, DV.own.injEq, DV.tup.injEq, List.cons.injEq, Ob.arr.injEq, Ob.box.injEq, Option.map_map, Int.toNat_natCast, Int.toNat_zero, Nat.reducePow, Int.toNat_one, Int.reduceMul, Nat.mul_one, Nat.zero_add, Nat.add_zero, Function.comp_apply, List.map_append, List.map_replicate, Int.cast_ofNat_Int, Nat.left_eq_add, Nat.add_eq_left, Nat.add_left_cancel_iff]
    refine merge_in hs hl i3 i1 ?_
    cases hb : bestF LL at' LL.length with
    | none =>
      simp -implicitDefEqProofs -dsimp only [bestN_none, vcB1, vcB2, vcB3, vcB4, vcB5, vcA1, vcA2, vcA3, vcA4, vcA5, vcA6, vcA7, ↓vcP1, ↓vcP2, ↓reduceIte, Option.map_some, Option.map_none, Option.bind_some, Option.bind_none, if_true, if_false, reduceCtorEq, beq_true, beq_false, Bool.not_true, Bool.not_false, BEq.rfl, Bool.true_beq, Bool.false_beq, and_true, true_and, and_self, decide_true, decide_false, List.length_cons, List.length_nil, List.all_cons, List.all_nil, Bool.and_true, Bool.and_self, List.getElem?_cons_zero, List.getElem?_cons_succ, List.set_cons_zero, List.set_cons_succ, List.nil_append, List.cons_append, List.append_nil, List.map_cons, List.map_nil, not_true_eq_false, not_false_eq_true, false_implies, true_implies, implies_true, List.take_succ_cons, List.take_zero, List.take_nil, List.drop_succ_cons, List.drop_zero, List.drop_nil, Nat.reduceLT, Nat.reduceLeDiff, Nat.reduceEqDiff, Nat.reduceAdd, Nat.reduceSub, Nat.reduceMul, Int.reduceLT, Int.reduceLE, Int.reduceEq, Int.reduceToNat, Int.reduceAdd, Int.reduceSub, Int.reduceNeg, List.reduceReplicate, List.replicate_zero, List.replicate_succ, ne_eq, List.flatMap_cons, List.flatMap_nil, List.length_replicate, List.length_append, Nat.le_refl, Nat.le_add_right, Nat.add_assoc, List.append_assoc, or_true, true_or, or_false, false_or, and_false, false_and, exists_eq_left, exists_eq_left', Option.some.injEq, DV.int.injEq, DV.bool.injEq, DV.sl.injEq, DV.own.injEq, DV.tup.injEq, List.cons.injEq, Ob.arr.injEq, Ob.box.injEq, Option.map_map, Int.toNat_natCast, Int.toNat_zero, Nat.reducePow, Int.toNat_one, Int.reduceMul, Nat.mul_one, Nat.zero_add, Nat.add_zero, Function.comp_apply, List.map_append, List.map_replicate, Int.cast_ofNat_Int, Nat.left_eq_add, Nat.add_eq_left, Nat.add_left_cancel_iff]
      rw [mrgF_none hb, List.append_nil] at i5
      subst i5
      have hp := tb_lt i2
      refine ⟨by have := i6.1; omega, _, _, Frzs.own i2 (by simp [evRows_len]), ?_⟩
      rw [List.drop_zero, List.take_of_length_le (by simp [evRows_len])]
      exact h _ (i6.new (j := [p]) ⟨by simp, fun k ob hk ho => tb_ne ho _ (by simpa using hk)⟩ (by simp; omega))
    | some b =>
      obtain ⟨c1, c2, c3⟩ := best_some hb
      have hz : sz = 1 := hs.resolve_right (by intro e; subst e; simp at c1)
      subst hz
      have hb0 : ¬ (b : Int) < 0 := by omega
      have hb1 : (0 : Int) ≤ (b : Int) := by omega
      have hb2 : (b : Int) < LL.length := by omega
      have hgb := evLists_get (LL := LL) (i := b) (by omega)
      have hgnb := natRows_get (l := at') (i := b) (by rw [i3.1]; omega)
      simp only [hasE, decide_eq_true_eq] at c2
      have hnb : ((at'.getD b 0 : Nat) : Int) < ((LL.getD b []).length : Nat) := by omega
      have hnb0 : (0 : Int) ≤ ((at'.getD b 0 : Nat) : Int) := by omega
      have heb := evRows_get c2
      have hal : at'.length = LL.length := i3.1
      have hw1 : IntKind.i64.wrap (((at'.getD b 0 : Nat) : Int) + 1) = ((at'.getD b 0 + 1 : Nat) : Int) := by
        have hlL : (LL.getD b []).length ≤ total LL := by
          have : LL.getD b [] ∈ LL := by
            rw [List.getD_eq_getElem?_getD, List.getElem?_eq_getElem c1]; exact List.getElem_mem c1
          exact len_total this
        rw [wI64 (by omega) (by omega)]; omega
      have hdat : ((LL.getD b []).getD (at'.getD b 0) default).data.length ≤ 1000000 := by
        have h1 : LL.getD b [] ∈ LL := by
          rw [List.getD_eq_getElem?_getD, List.getElem?_eq_getElem c1]; exact List.getElem_mem c1
        have h2 : (LL.getD b []).getD (at'.getD b 0) default ∈ LL.getD b [] := by
          have := List.getElem_mem c2
          rwa [show (LL.getD b [])[at'.getD b 0] = (LL.getD b []).getD (at'.getD b 0) default by rw [List.getD_eq_getElem?_getD (l := LL.getD b []), List.getElem?_eq_getElem c2]; rfl] at this
        exact hd _ h1 _ h2
      have hbT := fun y => tb_all (tb_ne i1 y (show T.length ≠ p by omega))
      have hm : m ≠ 0 := fun e => by
        subst e
        have := sum_set at' b (by omega)
        have := sum_le (okAt_step LL i3 c1 (by simpa only [hasE, decide_eq_true_eq] using c2))
        omega
      obtain ⟨m, rfl⟩ := Nat.exists_eq_succ_of_ne_zero hm
      have hcon : mrgF LL (m + 1) at' = headE LL at' b :: mrgF LL m (at'.set b (at'.getD b 0 + 1)) := by simp only [mrgF, hb]
      simp -implicitDefEqProofs -dsimp only [bestN_some, tb_all i1, tb_all i2, evLists_len, natRows_len, evRows_len, hal, hb0, hb1, hb2, hgb, hgnb, hnb, hnb0, heb, hw1, hbT, natRows_set, tb_at, Nat.zero_add, Nat.le_refl, vcB1, vcB2, vcB3, vcB4, vcB5, vcA1, vcA2, vcA3, vcA4, vcA5, vcA6, vcA7, ↓vcP1, ↓vcP2, ↓reduceIte, Option.map_some, Option.map_none, Option.bind_some, Option.bind_none, if_true, if_false, reduceCtorEq, beq_true, beq_false, Bool.not_true, Bool.not_false, BEq.rfl, Bool.true_beq, Bool.false_beq, and_true, true_and, and_self, decide_true, decide_false, List.length_cons, List.length_nil, List.all_cons, List.all_nil, Bool.and_true, Bool.and_self, List.getElem?_cons_zero, List.getElem?_cons_succ, List.set_cons_zero, List.set_cons_succ, List.nil_append, List.cons_append, List.append_nil, List.map_cons, List.map_nil, not_true_eq_false, not_false_eq_true, false_implies, true_implies, implies_true, List.take_succ_cons, List.take_zero, List.take_nil, List.drop_succ_cons, List.drop_zero, List.drop_nil, Nat.reduceLT, Nat.reduceLeDiff, Nat.reduceEqDiff, Nat.reduceAdd, Nat.reduceSub, Nat.reduceMul, Int.reduceLT, Int.reduceLE, Int.reduceEq, Int.reduceToNat, Int.reduceAdd, Int.reduceSub, Int.reduceNeg, List.reduceReplicate, List.replicate_zero, List.replicate_succ, ne_eq, List.flatMap_cons, List.flatMap_nil, List.length_replicate, List.length_append, Nat.le_refl, Nat.le_add_right, Nat.add_assoc, List.append_assoc, or_true, true_or, or_false, false_or, and_false, false_and, exists_eq_left, exists_eq_left', Option.some.injEq, DV.int.injEq, DV.bool.injEq, DV.sl.injEq, DV.own.injEq, DV.tup.injEq, List.cons.injEq, Ob.arr.injEq, Ob.box.injEq, Option.map_map, Int.toNat_natCast, Int.toNat_zero, Nat.reducePow, Int.toNat_one, Int.reduceMul, Nat.mul_one, Nat.zero_add, Nat.add_zero, Function.comp_apply, List.map_append, List.map_replicate, Int.cast_ofNat_Int, Nat.left_eq_add, Nat.add_eq_left, Nat.add_left_cancel_iff]
      generalize he : (LL.getD b []).getD (at'.getD b 0) default = e at *
      refine ⟨by omega, by omega, ?_⟩
      have hp1 := tb_lt i2
      have hT1 := tb_lt i1
      generalize hBX : some (Ob.box [.int .i64 e.tick, .int .i64 e.kind, .own (T1.length + 1) 0 e.data.length, .int .i64 e.rows, .int .i64 e.cols]) = BX
      generalize hMK : some (Ob.arr 5 [[.int .i64 e.tick, .int .i64 e.kind, .own (T1.length + 1) 0 e.data.length, .int .i64 e.rows, .int .i64 e.cols]]) = MK
      refine ⟨((T1.set p none).set T.length (some (.arr 1 (natRows (at'.set b (at'.getD b 0 + 1))))) ++ [BX, none, MK, some (.arr 5 (evRows (out ++ [e])))], T1.length + 3, at'.set b (at'.getD b 0 + 1), out ++ [e], m), ?_, ⟨?_, ?_, okAt_step LL i3 c1 (by simpa only [hasE, decide_eq_true_eq] using c2), ?_, ?_, ?_, ?_, ?_⟩, Nat.lt_succ_self m⟩
      · have := frz_ev (A := (T1.set p none).set T.length (some (.arr 1 (natRows (at'.set b (at'.getD b 0 + 1)))))) (env := [(0, .sl 1 (evLists LL) k), (3, .own T.length 0 LL.length), (4, .own (T1.length + 3) 0 (out.length + 1))]) (bx := BX) (mk := MK) (out := out) (e := e) b (T1.length + 1) (by simp)
        simpa only [List.length_append, List.length_cons, List.length_nil] using this
      · exact tb_f (tb_ss (tb_ne i1 _ (by omega)) _) _
      · have := tb_geti ((T1.set p none).set T.length (some (Ob.arr 1 (natRows (at'.set b (at'.getD b 0 + 1)))))) [BX, none, MK, some (.arr 5 (evRows (out ++ [e])))] 3
        simp only [List.length_set] at this
        exact this
      · dsimp only
        rw [sum_set _ _ (by omega)]; omega
      · dsimp only
        rw [List.append_assoc, ← i5, hcon, headE, he]; rfl
      · refine i6.new (j := [p, T.length]) ⟨by simp, fun k ob hk ho => ?_⟩ (by simp; omega)
        simp at hk
        exact tb_f (tb_ne (tb_ne ho _ hk.1) _ hk.2) _
      · dsimp only; simp; omega
      · dsimp only; omega
end Go.Proofs.Ytaopaongpoecoaa
