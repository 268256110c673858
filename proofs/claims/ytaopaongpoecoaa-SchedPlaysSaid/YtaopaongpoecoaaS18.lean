/- sched: the law SchedPlays. -/
import Derived.Test.YtaopaongpoecoaaS17
set_option linter.unusedVariables false
set_option linter.unusedSimpArgs false
set_option maxRecDepth 10000
namespace Go.Proofs.Ytaopaongpoecoaa
open Go.RowKit
/-- One comes ahead of another. -/
def ltI (a b : It) : Prop := a.at' < b.at' ∨ (a.at' = b.at' ∧ a.n < b.n)
/-- What a story's list and heap are. -/
structure Plays (T0 T : Objs) (o q wq : Nat) (L W : List It) (c i : Nat) : Prop where
  hp : HpAt T o q L c
  hpf : HpF 0 L.length L
  arr : T[wq]? = some (some (.arr 2 (tmRows W)))
  ord : W.Pairwise ltI
  perm : W.Perm L
  le : ∀ x ∈ W, x.n ≤ c
  ci : c ≤ i
  len : W.length ≤ i
  keep : Keep T0 T []
  qT : T0.length ≤ q
  oT : T0.length ≤ o
  wo : wq ≠ o
  wq' : wq ≠ q
def actRows (l : List (Int × Int × Int)) : List (List DV) := l.map fun x => [.int .u8 x.1, .int .i64 x.2.1, .int .i64 x.2.2]
theorem actRows_len (l : List (Int × Int × Int)) : (actRows l).length = l.length := by simp [actRows]
theorem actRows_get {l : List (Int × Int × Int)} {i : Nat} (h : i < l.length) : (actRows l)[i]? = some [.int .u8 (l[i]).1, .int .i64 (l[i]).2.1, .int .i64 (l[i]).2.2] := by simp [actRows, h]
theorem ins_ord {W : List It} {k : Nat} {a id : Int} {c : Int} (hW : W.Pairwise ltI) (hn : ∀ x ∈ W, x.n ≤ c) (h1 : ∀ j : Nat, j < k → (itI W j).at' ≤ a) (h2 : k < W.length → a < (itI W k).at') :
    (W.take k ++ (⟨a, id, c + 1⟩ : It) :: W.drop k).Pairwise ltI := by
  have ht : ∀ x ∈ W.take k, x.at' ≤ a := fun x hx => by
    obtain ⟨j, hj, rfl⟩ := List.mem_iff_getElem.1 hx
    have hj' := hj
    rw [List.length_take] at hj'
    rw [List.getElem_take, ← itI_nat (by omega)]
    exact h1 j (by omega)
  have hd : ∀ x ∈ W.drop k, a < x.at' := fun x hx => by
    obtain ⟨j, hj, rfl⟩ := List.mem_iff_getElem.1 hx
    have hj' := hj
    rw [List.length_drop] at hj'
    have h3 := h2 (by omega)
    rw [itI_nat (by omega)] at h3
    rw [List.getElem_drop]
    rcases Nat.eq_zero_or_pos j with rfl | h0
    · exact h3
    · have := List.pairwise_iff_getElem.1 hW k (k + j) (by omega) (by omega) (by omega)
      rcases this with h | ⟨h, _⟩ <;> omega
  rw [List.pairwise_append]
  refine ⟨hW.sublist (List.take_sublist _ _), ?_, ?_⟩
  · rw [List.pairwise_cons]
    exact ⟨fun x hx => .inl (hd x hx), hW.sublist (List.drop_sublist _ _)⟩
  · intro x hx y hy
    rcases List.mem_cons.1 hy with rfl | hy
    · have h3 := ht x hx
      have h4 := hn x (List.mem_of_mem_take hx)
      show x.at' < a ∨ (x.at' = a ∧ x.n < c + 1)
      omega
    · exact .inl (Int.lt_of_le_of_lt (ht x hx) (hd y hy))
theorem plays_b2 {T T3 : Objs} {d0 : DV} {o q wq ba : Nat} {L W : List It} {c i : Nat} {x1 x2 x3 md : Int} {Q : Exit → St → Prop} (P : Plays T T3 o q wq L W c i) (hi : i < 1000) (hb : T3[ba]? = some (some (.box [.int .u8 x1, .int .i64 x2, .int .i64 x3])))
    (hmd : 0 ≤ md ∧ md < 7) (hba : ba ≠ o ∧ ba ≠ q)
    (hQ : ∀ T' q' wq' L' W' c', Plays T T' o q' wq' L' W' c' (i + 1) → Q .normal ⟨[(0, d0), (3, .ptr o 0 0), (4, .own wq' 0 W'.length), (5, .int .i64 i)], T'⟩)
    (hQ2 : ∀ T' q' wq' L' W' c' b, Plays T T' o q' wq' L' W' c' (i + 1) → Q .normal ⟨[(0, d0), (3, .ptr o 0 0), (4, .own wq' 0 W'.length), (5, .int .i64 i), (11, .ptr b 0 0), (154, .bool false)], T'⟩) :
    WpH PG (tab TPl) 168 rc_plays_b2 Q ⟨[(0, d0), (3, .ptr o 0 0), (4, .own wq 0 W.length), (5, .int .i64 i), (6, .ptr ba 0 0), (44, .int .u8 md)], T3⟩ := by
  unfold WpH rc_plays_b2
  have hw := P.arr
  have hWL := P.len
  have hPerm := P.perm.length_eq
  have hci := P.ci
  rcases (show (md = 0 ∨ md = 1 ∨ md = 2 ∨ md = 3) ∨ (md = 4 ∨ md = 5) ∨ md = 6 by omega) with hm | hm | rfl
  · rcases hm with rfl | rfl | rfl | rfl
    all_goals
      simp -implicitDefEqProofs -dsimp only [TPl_l, tb_all hb, tb_at, vcB1, vcB2, vcB3, vcB4, vcB5, vcA1, vcA2, vcA3, vcA4, vcA5, vcA6, vcA7, ↓vcP1, ↓vcP2, ↓reduceIte, Option.map_some, Option.map_none, Option.bind_some, Option.bind_none, if_true, if_false, reduceCtorEq, beq_true, beq_false, Bool.not_true, Bool.not_false, BEq.rfl, Bool.true_beq, Bool.false_beq, and_true, true_and, and_self, decide_true, decide_false, List.length_cons, List.length_nil, List.all_cons, List.all_nil, Bool.and_true, Bool.and_self, List.getElem?_cons_zero, List.getElem?_cons_succ, List.set_cons_zero, List.set_cons_succ, List.nil_append, List.cons_append, List.append_nil, List.map_cons, List.map_nil, not_true_eq_false, not_false_eq_true, false_implies, true_implies, implies_true, List.take_succ_cons, List.take_zero, List.take_nil, List.drop_succ_cons, List.drop_zero, List.drop_nil, Nat.reduceLT, Nat.reduceLeDiff, Nat.reduceEqDiff, Nat.reduceAdd, Nat.reduceSub, Nat.reduceMul, Int.reduceLT, Int.reduceLE, Int.reduceEq, Int.reduceToNat, Int.reduceAdd, Int.reduceSub, Int.reduceNeg, List.reduceReplicate, List.replicate_zero, List.replicate_succ, ne_eq, List.flatMap_cons, List.flatMap_nil, List.length_replicate, List.length_append, Nat.le_refl, Nat.le_add_right, Nat.add_assoc, List.append_assoc, or_true, true_or, or_false, false_or, and_false, false_and, exists_eq_left, exists_eq_left', Option.some.injEq, DV.int.injEq, DV.bool.injEq, DV.sl.injEq, DV.own.injEq, DV.tup.injEq, List.cons.injEq, Ob.arr.injEq, Ob.box.injEq, Option.map_map, Int.toNat_natCast, Int.toNat_zero, Nat.reducePow, Int.toNat_one, Int.reduceMul, Nat.mul_one, Nat.zero_add, Nat.add_zero, Function.comp_apply, List.map_append, List.map_replicate, Int.cast_ofNat_Int, Nat.left_eq_add, Nat.add_eq_left, Nat.add_left_cancel_iff]
      refine push_H (P.hp.app _) (by omega) (by omega) fun T4 q4 H4 l4 k4 => ?_
      simp -implicitDefEqProofs -dsimp only [TPl_l, tb_all hb, tb_at, vcB1, vcB2, vcB3, vcB4, vcB5, vcA1, vcA2, vcA3, vcA4, vcA5, vcA6, vcA7, ↓vcP1, ↓vcP2, ↓reduceIte, Option.map_some, Option.map_none, Option.bind_some, Option.bind_none, if_true, if_false, reduceCtorEq, beq_true, beq_false, Bool.not_true, Bool.not_false, BEq.rfl, Bool.true_beq, Bool.false_beq, and_true, true_and, and_self, decide_true, decide_false, List.length_cons, List.length_nil, List.all_cons, List.all_nil, Bool.and_true, Bool.and_self, List.getElem?_cons_zero, List.getElem?_cons_succ, List.set_cons_zero, List.set_cons_succ, List.nil_append, List.cons_append, List.append_nil, List.map_cons, List.map_nil, not_true_eq_false, not_false_eq_true, false_implies, true_implies, implies_true, List.take_succ_cons, List.take_zero, List.take_nil, List.drop_succ_cons, List.drop_zero, List.drop_nil, Nat.reduceLT, Nat.reduceLeDiff, Nat.reduceEqDiff, Nat.reduceAdd, Nat.reduceSub, Nat.reduceMul, Int.reduceLT, Int.reduceLE, Int.reduceEq, Int.reduceToNat, Int.reduceAdd, Int.reduceSub, Int.reduceNeg, List.reduceReplicate, List.replicate_zero, List.replicate_succ, ne_eq, List.flatMap_cons, List.flatMap_nil, List.length_replicate, List.length_append, Nat.le_refl, Nat.le_add_right, Nat.add_assoc, List.append_assoc, or_true, true_or, or_false, false_or, and_false, false_and, exists_eq_left, exists_eq_left', Option.some.injEq, DV.int.injEq, DV.bool.injEq, DV.sl.injEq, DV.own.injEq, DV.tup.injEq, List.cons.injEq, Ob.arr.injEq, Ob.box.injEq, Option.map_map, Int.toNat_natCast, Int.toNat_zero, Nat.reducePow, Int.toNat_one, Int.reduceMul, Nat.mul_one, Nat.zero_add, Nat.add_zero, Function.comp_apply, List.map_append, List.map_replicate, Int.cast_ofNat_Int, Nat.left_eq_add, Nat.add_eq_left, Nat.add_left_cancel_iff]
      have nwo := P.wo
      have nwq := P.wq'
      have ltw := tb_lt hw
      have g1 := k4.at (tb_f hw _) (by simp; omega)
      have g2 := k4.at (tb_get0 T3 [] (some (Ob.box [.int .i64 x2, .int .i64 x3]))) (by simp; have := P.hp.lto; have := P.hp.ltq; omega)
      refine ins_L g1 g2 (by omega) fun k hk hk1 hk2 => ?_
      have hkI : (0 : Int) ≤ k := by omega
      have hmin : min k W.length = k := by omega
      have hmin2 : min (W.length - k) (W.length - k) = W.length - k := by omega
      have hmin3 : k + (W.length - k) = W.length := by omega
      have htk : (W.drop k).take (W.length - k) = W.drop k := List.take_of_length_le (by simp)
      have hne4 : ∀ j : Nat, ¬ wq = T4.length + j := fun j => by have := tb_lt g1; omega
      have hne5 : ¬ wq = T4.length := by have := tb_lt g1; omega
      have e1 : k * 16 ≤ 140737488355328 ∧ k ≤ 4611686018427387904 ∧ (k + 1) * 16 ≤ 140737488355328 ∧ k + 1 ≤ 4611686018427387904 ∧ (k + (1 + (W.length - k))) * 16 ≤ 140737488355328 ∧ k + (1 + (W.length - k)) ≤ 4611686018427387904 := by omega
      have hkW : (k : Int) ≤ W.length := by omega
      simp -implicitDefEqProofs -dsimp only [TPl_l, tb_all g1, tb_all g2, hk, hkI, hkW, tmRows_len, tmRows_take, tmRows_drop, tmRows_app, rc_plays_ob, tb_at, Nat.sub_zero, Nat.zero_le, List.length_take, List.length_drop, hmin, hmin2, hmin3, htk, hne4, hne5, e1, vcB1, vcB2, vcB3, vcB4, vcB5, vcA1, vcA2, vcA3, vcA4, vcA5, vcA6, vcA7, ↓vcP1, ↓vcP2, ↓reduceIte, Option.map_some, Option.map_none, Option.bind_some, Option.bind_none, if_true, if_false, reduceCtorEq, beq_true, beq_false, Bool.not_true, Bool.not_false, BEq.rfl, Bool.true_beq, Bool.false_beq, and_true, true_and, and_self, decide_true, decide_false, List.length_cons, List.length_nil, List.all_cons, List.all_nil, Bool.and_true, Bool.and_self, List.getElem?_cons_zero, List.getElem?_cons_succ, List.set_cons_zero, List.set_cons_succ, List.nil_append, List.cons_append, List.append_nil, List.map_cons, List.map_nil, not_true_eq_false, not_false_eq_true, false_implies, true_implies, implies_true, List.take_succ_cons, List.take_zero, List.take_nil, List.drop_succ_cons, List.drop_zero, List.drop_nil, Nat.reduceLT, Nat.reduceLeDiff, Nat.reduceEqDiff, Nat.reduceAdd, Nat.reduceSub, Nat.reduceMul, Int.reduceLT, Int.reduceLE, Int.reduceEq, Int.reduceToNat, Int.reduceAdd, Int.reduceSub, Int.reduceNeg, List.reduceReplicate, List.replicate_zero, List.replicate_succ, ne_eq, List.flatMap_cons, List.flatMap_nil, List.length_replicate, List.length_append, Nat.le_refl, Nat.le_add_right, Nat.add_assoc, List.append_assoc, or_true, true_or, or_false, false_or, and_false, false_and, exists_eq_left, exists_eq_left', Option.some.injEq, DV.int.injEq, DV.bool.injEq, DV.sl.injEq, DV.own.injEq, DV.tup.injEq, List.cons.injEq, Ob.arr.injEq, Ob.box.injEq, Option.map_map, Int.toNat_natCast, Int.toNat_zero, Nat.reducePow, Int.toNat_one, Int.reduceMul, Nat.mul_one, Nat.zero_add, Nat.add_zero, Function.comp_apply, List.map_append, List.map_replicate, Int.cast_ofNat_Int, Nat.left_eq_add, Nat.add_eq_left, Nat.add_left_cancel_iff]
      have hins := ins_ord (id := x3) P.ord P.le hk1 hk2
      have key : ∀ a b c', Q .normal ⟨[(0, d0), (3, .ptr o 0 0), (4, .own (T4.length + 3) 0 (k + (1 + (W.length - k)))), (5, .int .i64 i)], T4 ++ [a, b, c', some (.arr 2 (tmRows (W.take k) ++ [.int .i64 x2, .int .i64 x3] :: tmRows (W.drop k)))]⟩ := fun a b c' => by
        have := hQ (T4 ++ [a, b, c', some (.arr 2 (tmRows (W.take k ++ (⟨x2, x3, c + 1⟩ : It) :: W.drop k)))]) q4 (T4.length + 3) (upF (L ++ [⟨x2, x3, c + 1⟩]) L.length) (W.take k ++ (⟨x2, x3, c + 1⟩ : It) :: W.drop k) (c + 1) ?_
        · simpa [tmRows, List.length_take, hmin, Nat.add_comm 1] using this
        have hp := push_ok ⟨x2, x3, c + 1⟩ P.hpf
        have hT := P.keep.1
        refine ⟨H4.app _, ?_, tb_geti _ _ _, hins, ?_, ?_, by omega, ?_, ((P.keep.newApp _).new k4 (by simp; have := P.qT; have := P.oT; omega)).newApp _, ?_, P.oT, ?_, ?_⟩
        · have := hp.2.length_eq
          rw [this, List.length_append]; exact hp.1
        · refine List.Perm.trans ?_ hp.2.symm
          refine List.Perm.trans (List.perm_middle) ?_
          rw [List.take_append_drop]
          exact (List.perm_cons_append_cons _ (l₁ := L) (l₂ := []) (by simpa using P.perm)).trans (by simp)
        · intro x hx
          simp only [List.mem_append, List.mem_cons] at hx
          have hcc : ((c + 1 : Nat) : Int) = c + 1 := by omega
          rcases hx with hx | rfl | hx
          · have := P.le x (List.mem_of_mem_take hx); omega
          · simp
          · have := P.le x (List.mem_of_mem_drop hx); omega
        · simp [hmin]; omega
        · have := l4; simp at this; omega
        · have := H4.lto; omega
        · have := H4.ltq; omega
      repeat' (first | exact key _ _ _ | apply And.intro)
  · rcases hm with rfl | rfl
    all_goals
      simp -implicitDefEqProofs -dsimp only [TPl_l, tb_all hb, tb_at, vcB1, vcB2, vcB3, vcB4, vcB5, vcA1, vcA2, vcA3, vcA4, vcA5, vcA6, vcA7, ↓vcP1, ↓vcP2, ↓reduceIte, Option.map_some, Option.map_none, Option.bind_some, Option.bind_none, if_true, if_false, reduceCtorEq, beq_true, beq_false, Bool.not_true, Bool.not_false, BEq.rfl, Bool.true_beq, Bool.false_beq, and_true, true_and, and_self, decide_true, decide_false, List.length_cons, List.length_nil, List.all_cons, List.all_nil, Bool.and_true, Bool.and_self, List.getElem?_cons_zero, List.getElem?_cons_succ, List.set_cons_zero, List.set_cons_succ, List.nil_append, List.cons_append, List.append_nil, List.map_cons, List.map_nil, not_true_eq_false, not_false_eq_true, false_implies, true_implies, implies_true, List.take_succ_cons, List.take_zero, List.take_nil, List.drop_succ_cons, List.drop_zero, List.drop_nil, Nat.reduceLT, Nat.reduceLeDiff, Nat.reduceEqDiff, Nat.reduceAdd, Nat.reduceSub, Nat.reduceMul, Int.reduceLT, Int.reduceLE, Int.reduceEq, Int.reduceToNat, Int.reduceAdd, Int.reduceSub, Int.reduceNeg, List.reduceReplicate, List.replicate_zero, List.replicate_succ, ne_eq, List.flatMap_cons, List.flatMap_nil, List.length_replicate, List.length_append, Nat.le_refl, Nat.le_add_right, Nat.add_assoc, List.append_assoc, or_true, true_or, or_false, false_or, and_false, false_and, exists_eq_left, exists_eq_left', Option.some.injEq, DV.int.injEq, DV.bool.injEq, DV.sl.injEq, DV.own.injEq, DV.tup.injEq, List.cons.injEq, Ob.arr.injEq, Ob.box.injEq, Option.map_map, Int.toNat_natCast, Int.toNat_zero, Nat.reducePow, Int.toNat_one, Int.reduceMul, Nat.mul_one, Nat.zero_add, Nat.add_zero, Function.comp_apply, List.map_append, List.map_replicate, Int.cast_ofNat_Int, Nat.left_eq_add, Nat.add_eq_left, Nat.add_left_cancel_iff]
      refine next_H P.hp fun T4 H4 k4 => ?_
      have g1 := k4.at hw (by simp)
      have nwo := P.wo
      have nwq := P.wq'
      have hoq := H4.lto
      have hqq := H4.ltq
      cases hWc : W with
      | nil =>
        subst hWc
        have hL : L = [] := List.length_eq_zero_iff.1 (by simpa using hPerm.symm)
        subst hL
        have hd : decide (([] : List It) ≠ []) = false := by simp
        have hz : itI [] 0 = ⟨0, 0, 0⟩ := rfl
        rw [hd, hz]
        simp -implicitDefEqProofs -dsimp only [TPl_l, tb_at, vcB1, vcB2, vcB3, vcB4, vcB5, vcA1, vcA2, vcA3, vcA4, vcA5, vcA6, vcA7, ↓vcP1, ↓vcP2, ↓reduceIte, Option.map_some, Option.map_none, Option.bind_some, Option.bind_none, if_true, if_false, reduceCtorEq, beq_true, beq_false, Bool.not_true, Bool.not_false, BEq.rfl, Bool.true_beq, Bool.false_beq, and_true, true_and, and_self, decide_true, decide_false, List.length_cons, List.length_nil, List.all_cons, List.all_nil, Bool.and_true, Bool.and_self, List.getElem?_cons_zero, List.getElem?_cons_succ, List.set_cons_zero, List.set_cons_succ, List.nil_append, List.cons_append, List.append_nil, List.map_cons, List.map_nil, not_true_eq_false, not_false_eq_true, false_implies, true_implies, implies_true, List.take_succ_cons, List.take_zero, List.take_nil, List.drop_succ_cons, List.drop_zero, List.drop_nil, Nat.reduceLT, Nat.reduceLeDiff, Nat.reduceEqDiff, Nat.reduceAdd, Nat.reduceSub, Nat.reduceMul, Int.reduceLT, Int.reduceLE, Int.reduceEq, Int.reduceToNat, Int.reduceAdd, Int.reduceSub, Int.reduceNeg, List.reduceReplicate, List.replicate_zero, List.replicate_succ, ne_eq, List.flatMap_cons, List.flatMap_nil, List.length_replicate, List.length_append, Nat.le_refl, Nat.le_add_right, Nat.add_assoc, List.append_assoc, or_true, true_or, or_false, false_or, and_false, false_and, exists_eq_left, exists_eq_left', Option.some.injEq, DV.int.injEq, DV.bool.injEq, DV.sl.injEq, DV.own.injEq, DV.tup.injEq, List.cons.injEq, Ob.arr.injEq, Ob.box.injEq, Option.map_map, Int.toNat_natCast, Int.toNat_zero, Nat.reducePow, Int.toNat_one, Int.reduceMul, Nat.mul_one, Nat.zero_add, Nat.add_zero, Function.comp_apply, List.map_append, List.map_replicate, Int.cast_ofNat_Int, Nat.left_eq_add, Nat.add_eq_left, Nat.add_left_cancel_iff]
        refine pop_H0 (H4.app _) fun T5 H5 k5 => ?_
        have g2 := k5.at (tb_f g1 _) (by simp)
        have g3 := k5.at (tb_get0 T4 [] (some (Ob.box [.int .i64 0, .int .i64 0]))) (by simp)
        simp -implicitDefEqProofs -dsimp only [TPl_l, tb_all g3, tb_at, List.length_nil, Int.natCast_zero, Int.lt_irrefl, vcB1, vcB2, vcB3, vcB4, vcB5, vcA1, vcA2, vcA3, vcA4, vcA5, vcA6, vcA7, ↓vcP1, ↓vcP2, ↓reduceIte, Option.map_some, Option.map_none, Option.bind_some, Option.bind_none, if_true, if_false, reduceCtorEq, beq_true, beq_false, Bool.not_true, Bool.not_false, BEq.rfl, Bool.true_beq, Bool.false_beq, and_true, true_and, and_self, decide_true, decide_false, List.length_cons, List.length_nil, List.all_cons, List.all_nil, Bool.and_true, Bool.and_self, List.getElem?_cons_zero, List.getElem?_cons_succ, List.set_cons_zero, List.set_cons_succ, List.nil_append, List.cons_append, List.append_nil, List.map_cons, List.map_nil, not_true_eq_false, not_false_eq_true, false_implies, true_implies, implies_true, List.take_succ_cons, List.take_zero, List.take_nil, List.drop_succ_cons, List.drop_zero, List.drop_nil, Nat.reduceLT, Nat.reduceLeDiff, Nat.reduceEqDiff, Nat.reduceAdd, Nat.reduceSub, Nat.reduceMul, Int.reduceLT, Int.reduceLE, Int.reduceEq, Int.reduceToNat, Int.reduceAdd, Int.reduceSub, Int.reduceNeg, List.reduceReplicate, List.replicate_zero, List.replicate_succ, ne_eq, List.flatMap_cons, List.flatMap_nil, List.length_replicate, List.length_append, Nat.le_refl, Nat.le_add_right, Nat.add_assoc, List.append_assoc, or_true, true_or, or_false, false_or, and_false, false_and, exists_eq_left, exists_eq_left', Option.some.injEq, DV.int.injEq, DV.bool.injEq, DV.sl.injEq, DV.own.injEq, DV.tup.injEq, List.cons.injEq, Ob.arr.injEq, Ob.box.injEq, Option.map_map, Int.toNat_natCast, Int.toNat_zero, Nat.reducePow, Int.toNat_one, Int.reduceMul, Nat.mul_one, Nat.zero_add, Nat.add_zero, Function.comp_apply, List.map_append, List.map_replicate, Int.cast_ofNat_Int, Nat.left_eq_add, Nat.add_eq_left, Nat.add_left_cancel_iff]
        exact hQ2 _ _ _ [] [] _ _ ⟨H5.app _, P.hpf, tb_f g2 _, .nil, .nil, by simp, by omega, by simp, ((P.keep.new k4 (by simp)).newApp _ |>.new k5 (by simp)).newApp _, P.qT, P.oT, nwo, nwq⟩
      | cons x W1 =>
        subst hWc
        have hmem : x ∈ L := P.perm.subset (by simp)
        have hLn : L ≠ [] := fun e => by subst e; cases hmem
        have hd : decide (L ≠ []) = true := decide_eq_true hLn
        obtain ⟨kk, hkk⟩ : ∃ kk, L.length = kk + 1 := ⟨L.length - 1, by have := List.length_pos_iff.2 hLn; omega⟩
        have hx : itI L 0 = x := by
          obtain ⟨j, hj, hjx⟩ := List.mem_iff_getElem.1 hmem
          have h1 : leI (itI L (0 : Int)) (itI L (j : Nat)) := root_le P.hpf j hj
          rw [itI_nat hj, hjx] at h1
          have h2 : itI L 0 ∈ x :: W1 := P.perm.symm.subset (by
            have := itI_nat (L := L) (k := 0) (by omega)
            rw [show itI L (0 : Int) = itI L ((0 : Nat) : Int) from rfl, this]
            simp)
          rcases List.mem_cons.1 h2 with h3 | h3
          · exact h3
          · have h4 := (List.pairwise_cons.1 P.ord).1 _ h3
            have h5 := (leI_iff _ _).1 h1
            unfold ltI at h4
            omega
        rw [hd, hx]
        simp -implicitDefEqProofs -dsimp only [TPl_l, tb_at, vcB1, vcB2, vcB3, vcB4, vcB5, vcA1, vcA2, vcA3, vcA4, vcA5, vcA6, vcA7, ↓vcP1, ↓vcP2, ↓reduceIte, Option.map_some, Option.map_none, Option.bind_some, Option.bind_none, if_true, if_false, reduceCtorEq, beq_true, beq_false, Bool.not_true, Bool.not_false, BEq.rfl, Bool.true_beq, Bool.false_beq, and_true, true_and, and_self, decide_true, decide_false, List.length_cons, List.length_nil, List.all_cons, List.all_nil, Bool.and_true, Bool.and_self, List.getElem?_cons_zero, List.getElem?_cons_succ, List.set_cons_zero, List.set_cons_succ, List.nil_append, List.cons_append, List.append_nil, List.map_cons, List.map_nil, not_true_eq_false, not_false_eq_true, false_implies, true_implies, implies_true, List.take_succ_cons, List.take_zero, List.take_nil, List.drop_succ_cons, List.drop_zero, List.drop_nil, Nat.reduceLT, Nat.reduceLeDiff, Nat.reduceEqDiff, Nat.reduceAdd, Nat.reduceSub, Nat.reduceMul, Int.reduceLT, Int.reduceLE, Int.reduceEq, Int.reduceToNat, Int.reduceAdd, Int.reduceSub, Int.reduceNeg, List.reduceReplicate, List.replicate_zero, List.replicate_succ, ne_eq, List.flatMap_cons, List.flatMap_nil, List.length_replicate, List.length_append, Nat.le_refl, Nat.le_add_right, Nat.add_assoc, List.append_assoc, or_true, true_or, or_false, false_or, and_false, false_and, exists_eq_left, exists_eq_left', Option.some.injEq, DV.int.injEq, DV.bool.injEq, DV.sl.injEq, DV.own.injEq, DV.tup.injEq, List.cons.injEq, Ob.arr.injEq, Ob.box.injEq, Option.map_map, Int.toNat_natCast, Int.toNat_zero, Nat.reducePow, Int.toNat_one, Int.reduceMul, Nat.mul_one, Nat.zero_add, Nat.add_zero, Function.comp_apply, List.map_append, List.map_replicate, Int.cast_ofNat_Int, Nat.left_eq_add, Nat.add_eq_left, Nat.add_left_cancel_iff]
        refine pop_H (H4.app _) hkk (by omega) fun T5 H5 k5 => ?_
        have g2 := k5.at (tb_f g1 _) (by simp; omega)
        have g3 := k5.at (tb_get0 T4 [] (some (Ob.box [.int .i64 x.at', .int .i64 x.id]))) (by simp; omega)
        rw [hx]
        have hg0 : (tmRows (x :: W1))[0]? = some [.int .i64 x.at', .int .i64 x.id] := rfl
        have hd1 : (tmRows (x :: W1)).drop 1 = tmRows W1 := rfl
        have htk : (tmRows W1).take W1.length = tmRows W1 := List.take_of_length_le (by simp [tmRows])
        have hp0 : (0 : Int) < ((W1.length + 1 : Nat) : Int) := by omega
        have hp1 : (1 : Int) ≤ ((W1.length + 1 : Nat) : Int) := by omega
        have hl1 : W1.length + 1 ≤ 1000 := by simp at hWL; omega
        have e1 : W1.length * 16 ≤ 140737488355328 ∧ W1.length ≤ 4611686018427387904 := by omega
        simp -implicitDefEqProofs -dsimp only [TPl_l, tb_all g2, tb_all g3, tb_at, List.length_cons, hg0, hd1, htk, hp0, hp1, e1, tmRows_len, Nat.add_sub_cancel, Int.toNat_one, vcB1, vcB2, vcB3, vcB4, vcB5, vcA1, vcA2, vcA3, vcA4, vcA5, vcA6, vcA7, ↓vcP1, ↓vcP2, ↓reduceIte, Option.map_some, Option.map_none, Option.bind_some, Option.bind_none, if_true, if_false, reduceCtorEq, beq_true, beq_false, Bool.not_true, Bool.not_false, BEq.rfl, Bool.true_beq, Bool.false_beq, and_true, true_and, and_self, decide_true, decide_false, List.length_cons, List.length_nil, List.all_cons, List.all_nil, Bool.and_true, Bool.and_self, List.getElem?_cons_zero, List.getElem?_cons_succ, List.set_cons_zero, List.set_cons_succ, List.nil_append, List.cons_append, List.append_nil, List.map_cons, List.map_nil, not_true_eq_false, not_false_eq_true, false_implies, true_implies, implies_true, List.take_succ_cons, List.take_zero, List.take_nil, List.drop_succ_cons, List.drop_zero, List.drop_nil, Nat.reduceLT, Nat.reduceLeDiff, Nat.reduceEqDiff, Nat.reduceAdd, Nat.reduceSub, Nat.reduceMul, Int.reduceLT, Int.reduceLE, Int.reduceEq, Int.reduceToNat, Int.reduceAdd, Int.reduceSub, Int.reduceNeg, List.reduceReplicate, List.replicate_zero, List.replicate_succ, ne_eq, List.flatMap_cons, List.flatMap_nil, List.length_replicate, List.length_append, Nat.le_refl, Nat.le_add_right, Nat.add_assoc, List.append_assoc, or_true, true_or, or_false, false_or, and_false, false_and, exists_eq_left, exists_eq_left', Option.some.injEq, DV.int.injEq, DV.bool.injEq, DV.sl.injEq, DV.own.injEq, DV.tup.injEq, List.cons.injEq, Ob.arr.injEq, Ob.box.injEq, Option.map_map, Int.toNat_natCast, Int.toNat_zero, Nat.reducePow, Int.toNat_one, Int.reduceMul, Nat.mul_one, Nat.zero_add, Nat.add_zero, Function.comp_apply, List.map_append, List.map_replicate, Int.cast_ofNat_Int, Nat.left_eq_add, Nat.add_eq_left, Nat.add_left_cancel_iff]
        have pp := pop_ok hkk P.hpf
        rw [hx] at pp
        refine ⟨by omega, hQ _ _ (T5.length + 1) _ W1 c ⟨H5.app _, ?_, tb_geti _ _ 1, (List.pairwise_cons.1 P.ord).2, ?_, fun y hy => P.le y (List.mem_cons_of_mem _ hy), by omega, by simp at hWL ⊢; omega, (((P.keep.new k4 (by simp)).newApp _).new k5 (by simp; exact ⟨P.oT, P.qT⟩)).newApp _, P.qT, P.oT, ?_, ?_⟩⟩
        · rw [pp.2.1]; exact pp.1
        · exact (List.perm_cons x).1 (P.perm.trans pp.2.2.symm)
        · have := H5.lto; omega
        · have := H5.ltq; omega
  · simp -implicitDefEqProofs -dsimp only [TPl_l, tb_all hb, tb_at, vcB1, vcB2, vcB3, vcB4, vcB5, vcA1, vcA2, vcA3, vcA4, vcA5, vcA6, vcA7, ↓vcP1, ↓vcP2, ↓reduceIte, Option.map_some, Option.map_none, Option.bind_some, Option.bind_none, if_true, if_false, reduceCtorEq, beq_true, beq_false, Bool.not_true, Bool.not_false, BEq.rfl, Bool.true_beq, Bool.false_beq, and_true, true_and, and_self, decide_true, decide_false, List.length_cons, List.length_nil, List.all_cons, List.all_nil, Bool.and_true, Bool.and_self, List.getElem?_cons_zero, List.getElem?_cons_succ, List.set_cons_zero, List.set_cons_succ, List.nil_append, List.cons_append, List.append_nil, List.map_cons, List.map_nil, not_true_eq_false, not_false_eq_true, false_implies, true_implies, implies_true, List.take_succ_cons, List.take_zero, List.take_nil, List.drop_succ_cons, List.drop_zero, List.drop_nil, Nat.reduceLT, Nat.reduceLeDiff, Nat.reduceEqDiff, Nat.reduceAdd, Nat.reduceSub, Nat.reduceMul, Int.reduceLT, Int.reduceLE, Int.reduceEq, Int.reduceToNat, Int.reduceAdd, Int.reduceSub, Int.reduceNeg, List.reduceReplicate, List.replicate_zero, List.replicate_succ, ne_eq, List.flatMap_cons, List.flatMap_nil, List.length_replicate, List.length_append, Nat.le_refl, Nat.le_add_right, Nat.add_assoc, List.append_assoc, or_true, true_or, or_false, false_or, and_false, false_and, exists_eq_left, exists_eq_left', Option.some.injEq, DV.int.injEq, DV.bool.injEq, DV.sl.injEq, DV.own.injEq, DV.tup.injEq, List.cons.injEq, Ob.arr.injEq, Ob.box.injEq, Option.map_map, Int.toNat_natCast, Int.toNat_zero, Nat.reducePow, Int.toNat_one, Int.reduceMul, Nat.mul_one, Nat.zero_add, Nat.add_zero, Function.comp_apply, List.map_append, List.map_replicate, Int.cast_ofNat_Int, Nat.left_eq_add, Nat.add_eq_left, Nat.add_left_cancel_iff]
    refine drop_L hw hb (by omega) fun ext p hp => ?_
    simp -implicitDefEqProofs -dsimp only [TPl_l, tb_all hb, tb_at, vcB1, vcB2, vcB3, vcB4, vcB5, vcA1, vcA2, vcA3, vcA4, vcA5, vcA6, vcA7, ↓vcP1, ↓vcP2, ↓reduceIte, Option.map_some, Option.map_none, Option.bind_some, Option.bind_none, if_true, if_false, reduceCtorEq, beq_true, beq_false, Bool.not_true, Bool.not_false, BEq.rfl, Bool.true_beq, Bool.false_beq, and_true, true_and, and_self, decide_true, decide_false, List.length_cons, List.length_nil, List.all_cons, List.all_nil, Bool.and_true, Bool.and_self, List.getElem?_cons_zero, List.getElem?_cons_succ, List.set_cons_zero, List.set_cons_succ, List.nil_append, List.cons_append, List.append_nil, List.map_cons, List.map_nil, not_true_eq_false, not_false_eq_true, false_implies, true_implies, implies_true, List.take_succ_cons, List.take_zero, List.take_nil, List.drop_succ_cons, List.drop_zero, List.drop_nil, Nat.reduceLT, Nat.reduceLeDiff, Nat.reduceEqDiff, Nat.reduceAdd, Nat.reduceSub, Nat.reduceMul, Int.reduceLT, Int.reduceLE, Int.reduceEq, Int.reduceToNat, Int.reduceAdd, Int.reduceSub, Int.reduceNeg, List.reduceReplicate, List.replicate_zero, List.replicate_succ, ne_eq, List.flatMap_cons, List.flatMap_nil, List.length_replicate, List.length_append, Nat.le_refl, Nat.le_add_right, Nat.add_assoc, List.append_assoc, or_true, true_or, or_false, false_or, and_false, false_and, exists_eq_left, exists_eq_left', Option.some.injEq, DV.int.injEq, DV.bool.injEq, DV.sl.injEq, DV.own.injEq, DV.tup.injEq, List.cons.injEq, Ob.arr.injEq, Ob.box.injEq, Option.map_map, Int.toNat_natCast, Int.toNat_zero, Nat.reducePow, Int.toNat_one, Int.reduceMul, Nat.mul_one, Nat.zero_add, Nat.add_zero, Function.comp_apply, List.map_append, List.map_replicate, Int.cast_ofNat_Int, Nat.left_eq_add, Nat.add_eq_left, Nat.add_left_cancel_iff]
    refine drop_H (P.hp.app _) (by omega) fun T4 q4 H4 l4 k4 => ?_
    have hf : (notI x3 W).Perm (notI x3 L) := P.perm.filter _
    have hfl := hf.length_eq
    have hfle : (notI x3 W).length ≤ W.length := List.length_filter_le _ _
    have hwr : IntKind.i64.wrap ((W.length : Int) - (notI x3 W).length) = (L.length : Int) - (notI x3 L).length := by rw [wI64 (by omega) (by omega)]; omega
    simp -implicitDefEqProofs -dsimp only [TPl_l, tb_all hb, tb_at, hwr, vcB1, vcB2, vcB3, vcB4, vcB5, vcA1, vcA2, vcA3, vcA4, vcA5, vcA6, vcA7, ↓vcP1, ↓vcP2, ↓reduceIte, Option.map_some, Option.map_none, Option.bind_some, Option.bind_none, if_true, if_false, reduceCtorEq, beq_true, beq_false, Bool.not_true, Bool.not_false, BEq.rfl, Bool.true_beq, Bool.false_beq, and_true, true_and, and_self, decide_true, decide_false, List.length_cons, List.length_nil, List.all_cons, List.all_nil, Bool.and_true, Bool.and_self, List.getElem?_cons_zero, List.getElem?_cons_succ, List.set_cons_zero, List.set_cons_succ, List.nil_append, List.cons_append, List.append_nil, List.map_cons, List.map_nil, not_true_eq_false, not_false_eq_true, false_implies, true_implies, implies_true, List.take_succ_cons, List.take_zero, List.take_nil, List.drop_succ_cons, List.drop_zero, List.drop_nil, Nat.reduceLT, Nat.reduceLeDiff, Nat.reduceEqDiff, Nat.reduceAdd, Nat.reduceSub, Nat.reduceMul, Int.reduceLT, Int.reduceLE, Int.reduceEq, Int.reduceToNat, Int.reduceAdd, Int.reduceSub, Int.reduceNeg, List.reduceReplicate, List.replicate_zero, List.replicate_succ, ne_eq, List.flatMap_cons, List.flatMap_nil, List.length_replicate, List.length_append, Nat.le_refl, Nat.le_add_right, Nat.add_assoc, List.append_assoc, or_true, true_or, or_false, false_or, and_false, false_and, exists_eq_left, exists_eq_left', Option.some.injEq, DV.int.injEq, DV.bool.injEq, DV.sl.injEq, DV.own.injEq, DV.tup.injEq, List.cons.injEq, Ob.arr.injEq, Ob.box.injEq, Option.map_map, Int.toNat_natCast, Int.toNat_zero, Nat.reducePow, Int.toNat_one, Int.reduceMul, Nat.mul_one, Nat.zero_add, Nat.add_zero, Function.comp_apply, List.map_append, List.map_replicate, Int.cast_ofNat_Int, Nat.left_eq_add, Nat.add_eq_left, Nat.add_left_cancel_iff]
    have hp' : (T3 ++ ext)[T3.length + p]? = some (some (.arr 2 (tmRows (notI x3 W)))) := by rw [tb_geti]; exact hp
    have hlt := tb_lt hp'
    have i1 := init_ok (notI x3 L)
    have := P.hp.lto
    refine hQ T4 q4 (T3.length + p) (initF ((notI x3 L).length / 2) (notI x3 L)) (notI x3 W) c ⟨H4, ?_, k4.at hp' (by simp; omega), P.ord.sublist List.filter_sublist, hf.trans i1.2.symm, fun x hx => P.le x ((List.mem_filter.1 hx).1), by omega, by omega, (P.keep.newApp _).new k4 (by simp; exact P.oT), ?_, P.oT, by omega, ?_⟩
    · rw [i1.2.length_eq]; exact i1.1
    · have := P.keep.1; simp at l4; omega
    · simp at l4 hlt; omega
theorem plays_K {T : Objs} {K : DV → Objs → Prop} {l : List (Int × Int × Int)} {k : SK} (hu : ∀ x ∈ l, 0 ≤ x.1 ∧ x.1 ≤ 255 ∧ (-9223372036854775808 ≤ x.2.2 ∧ x.2.2 ≤ 9223372036854775807)) (h : ∀ T', Keep T T' [] → K (.bool true) T') : CallK PG 3 [.sl 3 (actRows l) k] T K := by
  refine CallK.of_fn TPl_ok rc_plays_ok (by simp [rc_plays]) ?_
  unfold rc_plays
  dsimp only
  simp -implicitDefEqProofs -dsimp only [TPl_l, vcB1, vcB2, vcB3, vcB4, vcB5, vcA1, vcA2, vcA3, vcA4, vcA5, vcA6, vcA7, ↓vcP1, ↓vcP2, ↓reduceIte, Option.map_some, Option.map_none, Option.bind_some, Option.bind_none, if_true, if_false, reduceCtorEq, beq_true, beq_false, Bool.not_true, Bool.not_false, BEq.rfl, Bool.true_beq, Bool.false_beq, and_true, true_and, and_self, decide_true, decide_false, List.length_cons, List.length_nil, List.all_cons, List.all_nil, Bool.and_true, Bool.and_self, List.getElem?_cons_zero, List.getElem?_cons_succ, List.set_cons_zero, List.set_cons_succ, List.nil_append, List.cons_append, List.append_nil, List.map_cons, List.map_nil, not_true_eq_false, not_false_eq_true, false_implies, true_implies, implies_true, List.take_succ_cons, List.take_zero, List.take_nil, List.drop_succ_cons, List.drop_zero, List.drop_nil, Nat.reduceLT, Nat.reduceLeDiff, Nat.reduceEqDiff, Nat.reduceAdd, Nat.reduceSub, Nat.reduceMul, Int.reduceLT, Int.reduceLE, Int.reduceEq, Int.reduceToNat, Int.reduceAdd, Int.reduceSub, Int.reduceNeg, List.reduceReplicate, List.replicate_zero, List.replicate_succ, ne_eq, List.flatMap_cons, List.flatMap_nil, List.length_replicate, List.length_append, Nat.le_refl, Nat.le_add_right, Nat.add_assoc, List.append_assoc, or_true, true_or, or_false, false_or, and_false, false_and, exists_eq_left, exists_eq_left', Option.some.injEq, DV.int.injEq, DV.bool.injEq, DV.sl.injEq, DV.own.injEq, DV.tup.injEq, List.cons.injEq, Ob.arr.injEq, Ob.box.injEq, Option.map_map, Int.toNat_natCast, Int.toNat_zero, Nat.reducePow, Int.toNat_one, Int.reduceMul, Nat.mul_one, Nat.zero_add, Nat.add_zero, Function.comp_apply, List.map_append, List.map_replicate, Int.cast_ofNat_Int, Nat.left_eq_add, Nat.add_eq_left, Nat.add_left_cancel_iff]
  refine known_K fun T1 k1 => ?_
  simp -implicitDefEqProofs -dsimp only [TPl_l, actRows_len, vcB1, vcB2, vcB3, vcB4, vcB5, vcA1, vcA2, vcA3, vcA4, vcA5, vcA6, vcA7, ↓vcP1, ↓vcP2, ↓reduceIte, Option.map_some, Option.map_none, Option.bind_some, Option.bind_none, if_true, if_false, reduceCtorEq, beq_true, beq_false, Bool.not_true, Bool.not_false, BEq.rfl, Bool.true_beq, Bool.false_beq, and_true, true_and, and_self, decide_true, decide_false, List.length_cons, List.length_nil, List.all_cons, List.all_nil, Bool.and_true, Bool.and_self, List.getElem?_cons_zero, List.getElem?_cons_succ, List.set_cons_zero, List.set_cons_succ, List.nil_append, List.cons_append, List.append_nil, List.map_cons, List.map_nil, not_true_eq_false, not_false_eq_true, false_implies, true_implies, implies_true, List.take_succ_cons, List.take_zero, List.take_nil, List.drop_succ_cons, List.drop_zero, List.drop_nil, Nat.reduceLT, Nat.reduceLeDiff, Nat.reduceEqDiff, Nat.reduceAdd, Nat.reduceSub, Nat.reduceMul, Int.reduceLT, Int.reduceLE, Int.reduceEq, Int.reduceToNat, Int.reduceAdd, Int.reduceSub, Int.reduceNeg, List.reduceReplicate, List.replicate_zero, List.replicate_succ, ne_eq, List.flatMap_cons, List.flatMap_nil, List.length_replicate, List.length_append, Nat.le_refl, Nat.le_add_right, Nat.add_assoc, List.append_assoc, or_true, true_or, or_false, false_or, and_false, false_and, exists_eq_left, exists_eq_left', Option.some.injEq, DV.int.injEq, DV.bool.injEq, DV.sl.injEq, DV.own.injEq, DV.tup.injEq, List.cons.injEq, Ob.arr.injEq, Ob.box.injEq, Option.map_map, Int.toNat_natCast, Int.toNat_zero, Nat.reducePow, Int.toNat_one, Int.reduceMul, Nat.mul_one, Nat.zero_add, Nat.add_zero, Function.comp_apply, List.map_append, List.map_replicate, Int.cast_ofNat_Int, Nat.left_eq_add, Nat.add_eq_left, Nat.add_left_cancel_iff]
  refine ⟨fun _ => ⟨k1.1, h _ k1⟩, fun hl80 => ?_⟩
  refine new_H fun T2 q2 H2 l2 k2 => ?_
  simp -implicitDefEqProofs -dsimp only [TPl_l, vcB1, vcB2, vcB3, vcB4, vcB5, vcA1, vcA2, vcA3, vcA4, vcA5, vcA6, vcA7, ↓vcP1, ↓vcP2, ↓reduceIte, Option.map_some, Option.map_none, Option.bind_some, Option.bind_none, if_true, if_false, reduceCtorEq, beq_true, beq_false, Bool.not_true, Bool.not_false, BEq.rfl, Bool.true_beq, Bool.false_beq, and_true, true_and, and_self, decide_true, decide_false, List.length_cons, List.length_nil, List.all_cons, List.all_nil, Bool.and_true, Bool.and_self, List.getElem?_cons_zero, List.getElem?_cons_succ, List.set_cons_zero, List.set_cons_succ, List.nil_append, List.cons_append, List.append_nil, List.map_cons, List.map_nil, not_true_eq_false, not_false_eq_true, false_implies, true_implies, implies_true, List.take_succ_cons, List.take_zero, List.take_nil, List.drop_succ_cons, List.drop_zero, List.drop_nil, Nat.reduceLT, Nat.reduceLeDiff, Nat.reduceEqDiff, Nat.reduceAdd, Nat.reduceSub, Nat.reduceMul, Int.reduceLT, Int.reduceLE, Int.reduceEq, Int.reduceToNat, Int.reduceAdd, Int.reduceSub, Int.reduceNeg, List.reduceReplicate, List.replicate_zero, List.replicate_succ, ne_eq, List.flatMap_cons, List.flatMap_nil, List.length_replicate, List.length_append, Nat.le_refl, Nat.le_add_right, Nat.add_assoc, List.append_assoc, or_true, true_or, or_false, false_or, and_false, false_and, exists_eq_left, exists_eq_left', Option.some.injEq, DV.int.injEq, DV.bool.injEq, DV.sl.injEq, DV.own.injEq, DV.tup.injEq, List.cons.injEq, Ob.arr.injEq, Ob.box.injEq, Option.map_map, Int.toNat_natCast, Int.toNat_zero, Nat.reducePow, Int.toNat_one, Int.reduceMul, Nat.mul_one, Nat.zero_add, Nat.add_zero, Function.comp_apply, List.map_append, List.map_replicate, Int.cast_ofNat_Int, Nat.left_eq_add, Nat.add_eq_left, Nat.add_left_cancel_iff]
  refine LoopWp.own 4 2 rfl (.inl rfl) ?_
  refine LoopWp.inv TPl_ok (S := fun s : Objs × Nat × Nat × List It × List It × Nat × Nat => ⟨[(0, .sl 3 (actRows l) k), (3, .ptr T1.length 0 0), (4, .own s.2.2.1 0 s.2.2.2.2.1.length), (5, .int .i64 s.2.2.2.2.2.2)], s.1⟩)
    (I := fun s => Plays T s.1 T1.length s.2.1 s.2.2.1 s.2.2.2.1 s.2.2.2.2.1 s.2.2.2.2.2.1 s.2.2.2.2.2.2 ∧ s.2.2.2.2.2.2 ≤ l.length)
    (μ := fun s => l.length - s.2.2.2.2.2.2) (T2 ++ [some (.arr 2 [])], q2, T2.length, [], [], 0, 0) ⟨⟨H2.app _, fun k hk hkn => by simp at hkn, tb_get0 _ _ _, .nil, .nil, by simp, by simp, by simp, (k1.new k2 (by simp)).newApp _, by have := k1.1; dsimp only; omega, k1.1, by have := H2.lto; dsimp only; omega, by have := H2.ltq; dsimp only; omega⟩, by simp⟩ ?_ ?_
  · simp -implicitDefEqProofs -dsimp only [wkT_self, TPl_l, vcB1, vcB2, vcB3, vcB4, vcB5, vcA1, vcA2, vcA3, vcA4, vcA5, vcA6, vcA7, ↓vcP1, ↓vcP2, ↓reduceIte, Option.map_some, Option.map_none, Option.bind_some, Option.bind_none, if_true, if_false, reduceCtorEq, beq_true, beq_false, Bool.not_true, Bool.not_false, BEq.rfl, Bool.true_beq, Bool.false_beq, and_true, true_and, and_self, decide_true, decide_false, List.length_cons, List.length_nil, List.all_cons, List.all_nil, Bool.and_true, Bool.and_self, List.getElem?_cons_zero, List.getElem?_cons_succ, List.set_cons_zero, List.set_cons_succ, List.nil_append, List.cons_append, List.append_nil, List.map_cons, List.map_nil, not_true_eq_false, not_false_eq_true, false_implies, true_implies, implies_true, List.take_succ_cons, List.take_zero, List.take_nil, List.drop_succ_cons, List.drop_zero, List.drop_nil, Nat.reduceLT, Nat.reduceLeDiff, Nat.reduceEqDiff, Nat.reduceAdd, Nat.reduceSub, Nat.reduceMul, Int.reduceLT, Int.reduceLE, Int.reduceEq, Int.reduceToNat, Int.reduceAdd, Int.reduceSub, Int.reduceNeg, List.reduceReplicate, List.replicate_zero, List.replicate_succ, ne_eq, List.flatMap_cons, List.flatMap_nil, List.length_replicate, List.length_append, Nat.le_refl, Nat.le_add_right, Nat.add_assoc, List.append_assoc, or_true, true_or, or_false, false_or, and_false, false_and, exists_eq_left, exists_eq_left', Option.some.injEq, DV.int.injEq, DV.bool.injEq, DV.sl.injEq, DV.own.injEq, DV.tup.injEq, List.cons.injEq, Ob.arr.injEq, Ob.box.injEq, Option.map_map, Int.toNat_natCast, Int.toNat_zero, Nat.reducePow, Int.toNat_one, Int.reduceMul, Nat.mul_one, Nat.zero_add, Nat.add_zero, Function.comp_apply, List.map_append, List.map_replicate, Int.cast_ofNat_Int, Nat.left_eq_add, Nat.add_eq_left, Nat.add_left_cancel_iff]
  · intro ⟨T3, q, wq, L, W, c, i⟩ ⟨P, hi0⟩
    dsimp only at P hi0 ⊢
    unfold rc_plays_l2
    by_cases hi : i < l.length
    · have hii : (i : Int) < l.length := by omega
      have hg := actRows_get hi
      have hw := P.arr
      have hw1 : IntKind.i64.wrap ((i : Int) + 1) = ((i + 1 : Nat) : Int) := by rw [wI64 (by omega) (by omega)]; omega
      have hrng := hu (l[i]) (by simp)
      generalize hx : l[i] = x at *
      obtain ⟨x1, x2, x3⟩ := x
      dsimp only at hrng hg
      have hiN : (0 : Int) ≤ i := by omega
      simp -implicitDefEqProofs -dsimp only [TPl_l, actRows_len, hii, hg, hiN, tb_at, ↓rc_plays_b2_s, vcB1, vcB2, vcB3, vcB4, vcB5, vcA1, vcA2, vcA3, vcA4, vcA5, vcA6, vcA7, ↓vcP1, ↓vcP2, ↓reduceIte, Option.map_some, Option.map_none, Option.bind_some, Option.bind_none, if_true, if_false, reduceCtorEq, beq_true, beq_false, Bool.not_true, Bool.not_false, BEq.rfl, Bool.true_beq, Bool.false_beq, and_true, true_and, and_self, decide_true, decide_false, List.length_cons, List.length_nil, List.all_cons, List.all_nil, Bool.and_true, Bool.and_self, List.getElem?_cons_zero, List.getElem?_cons_succ, List.set_cons_zero, List.set_cons_succ, List.nil_append, List.cons_append, List.append_nil, List.map_cons, List.map_nil, not_true_eq_false, not_false_eq_true, false_implies, true_implies, implies_true, List.take_succ_cons, List.take_zero, List.take_nil, List.drop_succ_cons, List.drop_zero, List.drop_nil, Nat.reduceLT, Nat.reduceLeDiff, Nat.reduceEqDiff, Nat.reduceAdd, Nat.reduceSub, Nat.reduceMul, Int.reduceLT, Int.reduceLE, Int.reduceEq, Int.reduceToNat, Int.reduceAdd, Int.reduceSub, Int.reduceNeg, List.reduceReplicate, List.replicate_zero, List.replicate_succ, ne_eq, List.flatMap_cons, List.flatMap_nil, List.length_replicate, List.length_append, Nat.le_refl, Nat.le_add_right, Nat.add_assoc, List.append_assoc, or_true, true_or, or_false, false_or, and_false, false_and, exists_eq_left, exists_eq_left', Option.some.injEq, DV.int.injEq, DV.bool.injEq, DV.sl.injEq, DV.own.injEq, DV.tup.injEq, List.cons.injEq, Ob.arr.injEq, Ob.box.injEq, Option.map_map, Int.toNat_natCast, Int.toNat_zero, Nat.reducePow, Int.toNat_one, Int.reduceMul, Nat.mul_one, Nat.zero_add, Nat.add_zero, Function.comp_apply, List.map_append, List.map_replicate, Int.cast_ofNat_Int, Nat.left_eq_add, Nat.add_eq_left, Nat.add_left_cancel_iff]
      have hm7 : x1.tmod 7 = x1 % 7 := Int.tmod_eq_emod_of_nonneg hrng.1
      have hlw := P.hp.lto
      have hlq := P.hp.ltq
      have hmd : 0 ≤ x1.tmod 7 ∧ x1.tmod 7 < 7 := by rw [hm7]; omega
      have PP : ∀ A, Plays T (T3 ++ [A]) T1.length q wq L W c i := fun A => ⟨P.hp.app _, P.hpf, tb_f hw _, P.ord, P.perm, P.le, P.ci, P.len, P.keep.newApp _, P.qT, P.oT, P.wo, P.wq'⟩
      refine ⟨fun _ => ⟨hrng.2.2, plays_b2 (c := c) (PP _) (by omega) (tb_get0 _ _ _) hmd (by omega) ?_ ?_⟩, fun _ => plays_b2 (c := c) (PP _) (by omega) (tb_get0 _ _ _) hmd (by omega) ?_ ?_⟩
      all_goals
        intros
        rename_i P'
        simp -implicitDefEqProofs -dsimp only [TPl_l, vcB1, vcB2, vcB3, vcB4, vcB5, vcA1, vcA2, vcA3, vcA4, vcA5, vcA6, vcA7, ↓vcP1, ↓vcP2, ↓reduceIte, Option.map_some, Option.map_none, Option.bind_some, Option.bind_none, if_true, if_false, reduceCtorEq, beq_true, beq_false, Bool.not_true, Bool.not_false, BEq.rfl, Bool.true_beq, Bool.false_beq, and_true, true_and, and_self, decide_true, decide_false, List.length_cons, List.length_nil, List.all_cons, List.all_nil, Bool.and_true, Bool.and_self, List.getElem?_cons_zero, List.getElem?_cons_succ, List.set_cons_zero, List.set_cons_succ, List.nil_append, List.cons_append, List.append_nil, List.map_cons, List.map_nil, not_true_eq_false, not_false_eq_true, false_implies, true_implies, implies_true, List.take_succ_cons, List.take_zero, List.take_nil, List.drop_succ_cons, List.drop_zero, List.drop_nil, Nat.reduceLT, Nat.reduceLeDiff, Nat.reduceEqDiff, Nat.reduceAdd, Nat.reduceSub, Nat.reduceMul, Int.reduceLT, Int.reduceLE, Int.reduceEq, Int.reduceToNat, Int.reduceAdd, Int.reduceSub, Int.reduceNeg, List.reduceReplicate, List.replicate_zero, List.replicate_succ, ne_eq, List.flatMap_cons, List.flatMap_nil, List.length_replicate, List.length_append, Nat.le_refl, Nat.le_add_right, Nat.add_assoc, List.append_assoc, or_true, true_or, or_false, false_or, and_false, false_and, exists_eq_left, exists_eq_left', Option.some.injEq, DV.int.injEq, DV.bool.injEq, DV.sl.injEq, DV.own.injEq, DV.tup.injEq, List.cons.injEq, Ob.arr.injEq, Ob.box.injEq, Option.map_map, Int.toNat_natCast, Int.toNat_zero, Nat.reducePow, Int.toNat_one, Int.reduceMul, Nat.mul_one, Nat.zero_add, Nat.add_zero, Function.comp_apply, List.map_append, List.map_replicate, Int.cast_ofNat_Int, Nat.left_eq_add, Nat.add_eq_left, Nat.add_left_cancel_iff]
        refine len_H P'.hp ?_
        have e := P'.perm.length_eq
        simp -implicitDefEqProofs -dsimp only [TPl_l, hw1, e, vcB1, vcB2, vcB3, vcB4, vcB5, vcA1, vcA2, vcA3, vcA4, vcA5, vcA6, vcA7, ↓vcP1, ↓vcP2, ↓reduceIte, Option.map_some, Option.map_none, Option.bind_some, Option.bind_none, if_true, if_false, reduceCtorEq, beq_true, beq_false, Bool.not_true, Bool.not_false, BEq.rfl, Bool.true_beq, Bool.false_beq, and_true, true_and, and_self, decide_true, decide_false, List.length_cons, List.length_nil, List.all_cons, List.all_nil, Bool.and_true, Bool.and_self, List.getElem?_cons_zero, List.getElem?_cons_succ, List.set_cons_zero, List.set_cons_succ, List.nil_append, List.cons_append, List.append_nil, List.map_cons, List.map_nil, not_true_eq_false, not_false_eq_true, false_implies, true_implies, implies_true, List.take_succ_cons, List.take_zero, List.take_nil, List.drop_succ_cons, List.drop_zero, List.drop_nil, Nat.reduceLT, Nat.reduceLeDiff, Nat.reduceEqDiff, Nat.reduceAdd, Nat.reduceSub, Nat.reduceMul, Int.reduceLT, Int.reduceLE, Int.reduceEq, Int.reduceToNat, Int.reduceAdd, Int.reduceSub, Int.reduceNeg, List.reduceReplicate, List.replicate_zero, List.replicate_succ, ne_eq, List.flatMap_cons, List.flatMap_nil, List.length_replicate, List.length_append, Nat.le_refl, Nat.le_add_right, Nat.add_assoc, List.append_assoc, or_true, true_or, or_false, false_or, and_false, false_and, exists_eq_left, exists_eq_left', Option.some.injEq, DV.int.injEq, DV.bool.injEq, DV.sl.injEq, DV.own.injEq, DV.tup.injEq, List.cons.injEq, Ob.arr.injEq, Ob.box.injEq, Option.map_map, Int.toNat_natCast, Int.toNat_zero, Nat.reducePow, Int.toNat_one, Int.reduceMul, Nat.mul_one, Nat.zero_add, Nat.add_zero, Function.comp_apply, List.map_append, List.map_replicate, Int.cast_ofNat_Int, Nat.left_eq_add, Nat.add_eq_left, Nat.add_left_cancel_iff]
        exact ⟨(_, _, _, _, _, _, i + 1), ⟨⟨⟨rfl, by rw [e]⟩, rfl⟩, objsWk_refl _⟩, ⟨P', hi⟩, by dsimp only; omega⟩
    · have hii : ¬ (i : Int) < l.length := by omega
      simp -implicitDefEqProofs -dsimp only [TPl_l, actRows_len, hii, vcB1, vcB2, vcB3, vcB4, vcB5, vcA1, vcA2, vcA3, vcA4, vcA5, vcA6, vcA7, ↓vcP1, ↓vcP2, ↓reduceIte, Option.map_some, Option.map_none, Option.bind_some, Option.bind_none, if_true, if_false, reduceCtorEq, beq_true, beq_false, Bool.not_true, Bool.not_false, BEq.rfl, Bool.true_beq, Bool.false_beq, and_true, true_and, and_self, decide_true, decide_false, List.length_cons, List.length_nil, List.all_cons, List.all_nil, Bool.and_true, Bool.and_self, List.getElem?_cons_zero, List.getElem?_cons_succ, List.set_cons_zero, List.set_cons_succ, List.nil_append, List.cons_append, List.append_nil, List.map_cons, List.map_nil, not_true_eq_false, not_false_eq_true, false_implies, true_implies, implies_true, List.take_succ_cons, List.take_zero, List.take_nil, List.drop_succ_cons, List.drop_zero, List.drop_nil, Nat.reduceLT, Nat.reduceLeDiff, Nat.reduceEqDiff, Nat.reduceAdd, Nat.reduceSub, Nat.reduceMul, Int.reduceLT, Int.reduceLE, Int.reduceEq, Int.reduceToNat, Int.reduceAdd, Int.reduceSub, Int.reduceNeg, List.reduceReplicate, List.replicate_zero, List.replicate_succ, ne_eq, List.flatMap_cons, List.flatMap_nil, List.length_replicate, List.length_append, Nat.le_refl, Nat.le_add_right, Nat.add_assoc, List.append_assoc, or_true, true_or, or_false, false_or, and_false, false_and, exists_eq_left, exists_eq_left', Option.some.injEq, DV.int.injEq, DV.bool.injEq, DV.sl.injEq, DV.own.injEq, DV.tup.injEq, List.cons.injEq, Ob.arr.injEq, Ob.box.injEq, Option.map_map, Int.toNat_natCast, Int.toNat_zero, Nat.reducePow, Int.toNat_one, Int.reduceMul, Nat.mul_one, Nat.zero_add, Nat.add_zero, Function.comp_apply, List.map_append, List.map_replicate, Int.cast_ofNat_Int, Nat.left_eq_add, Nat.add_eq_left, Nat.add_left_cancel_iff]
      exact ⟨P.keep.1, h _ P.keep⟩
end Go.Proofs.Ytaopaongpoecoaa
