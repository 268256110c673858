/- utf.All. -/
import Derived.Test.YteemmpghpdaloaaDoorP6
set_option linter.unusedVariables false
set_option linter.unusedSimpArgs false
set_option maxRecDepth 10000
namespace Go.Proofs.YteemmpghpdaloaaDoor
open Go.RowKit

noncomputable def rc_uall_l0 : RC := (.seq (.reg [⟨(some 12), (.bin .lss (.t 11) (.t 10)), none, false⟩] 0 [4, 5, 9, 10, 11, 12]) (.seq (.cond (.t 12) .skip (.ext 0)) (.seq (.blk 1 (.seq (.reg [⟨(some 13), (.iaddr 1 (.t 9) (.t 11)), none, false⟩, ⟨(some 14), (.load false 1 (.t 13)), none, false⟩, ⟨(some 7), (.mov (.t 14)), none, false⟩] 0 [4, 5, 7, 9, 10, 11]) (.seq (.reg [⟨(some 8), (.mov (.c (.sl 0 [] .nil))), none, false⟩] 0 [4, 5, 7, 9, 10, 11]) (.seq (.reg [⟨(some 16), (.mov (.t 5)), none, false⟩, ⟨(some 17), (.mov (.t 7)), none, false⟩, ⟨(some 18), (.call 17 [(.t 16), (.t 17)]), none, false⟩, ⟨(some 15), (.mov (.t 18)), none, false⟩, ⟨(some 19), (.ext (.t 15) 0), none, false⟩, ⟨(some 20), (.ext (.t 15) 1), none, false⟩, ⟨(some 5), (.mov (.t 19)), none, false⟩, ⟨(some 8), (.mov (.t 20)), none, false⟩] 0 [4, 5, 8, 9, 10, 11]) (.reg [⟨(some 21), (.mov (.t 4)), none, false⟩, ⟨(some 22), (.mov (.t 8)), none, false⟩, ⟨(some 23), (.append 1 4 (.t 21) (.t 22)), none, false⟩, ⟨(some 4), (.mov (.t 23)), none, false⟩] 0 [4, 5, 9, 10, 11]))))) (.reg [⟨(some 24), (.bin .add (.t 11) (.c (.int .i64 1))), none, false⟩, ⟨(some 11), (.mov (.t 24)), none, false⟩] 0 [4, 5, 9, 10, 11]))))
noncomputable def rc_uall : RFn := ⟨1, 27, (.seq (.reg [⟨(some 2), (.mov (.c (.sl 0 [] .nil))), none, false⟩, ⟨(some 3), (.mov (.c (.sl 0 [] .nil))), none, false⟩] 0 [0]) (.seq (.reg [⟨(some 4), (.mov (.c (.sl 0 [] .nil))), none, false⟩] 0 [0, 4]) (.seq (.reg [⟨(some 5), (.mov (.c (.sl 0 [] .nil))), none, false⟩] 0 [0, 4, 5]) (.seq (.seq (.reg [⟨(some 9), (.mov (.t 0)), none, false⟩, ⟨(some 10), (.len (.t 9)), none, false⟩, ⟨(some 11), (.mov (.c (.int .i64 0))), none, false⟩] 0 [4, 5, 9, 10, 11]) (.blk 0 (.loop rc_uall_l0))) (.seq (.reg [⟨(some 25), (.mov (.t 4)), none, false⟩, ⟨(some 26), (.mov (.t 5)), none, false⟩, ⟨(some 2), (.mov (.t 25)), none, true⟩, ⟨(some 3), (.mov (.t 26)), none, false⟩] 0 [2, 3]) .ret))))), [(.t 2), (.t 3)]⟩
theorem rc_uall_ok : compFn PG.P [⟨0, 0, [0], []⟩, ⟨1, 0, [0, 4], []⟩, ⟨2, 0, [0, 4, 5], []⟩, ⟨3, 0, [4, 5, 9, 10, 11], []⟩, ⟨4, 0, [4, 5, 9, 10, 11, 12], []⟩, ⟨5, 0, [4, 5, 7, 9, 10, 11], []⟩, ⟨6, 0, [4, 5, 7, 9, 10, 11], []⟩, ⟨7, 0, [4, 5, 8, 9, 10, 11], []⟩, ⟨8, 0, [4, 5, 9, 10, 11], []⟩, ⟨9, 0, [4, 5, 9, 10, 11], []⟩, ⟨10, 0, [2, 3], [2]⟩] 14 = some rc_uall := by kernel_rfl

/-- All bytes, one by one: the runes, what is pending. -/
def uallF (l : List Int) : List Int × List Int := l.foldl (fun a b => (a.1 ++ (ustep a.2 b).2, (ustep a.2 b).1)) ([], [])
theorem uallF_snoc (l : List Int) (b : Int) : uallF (l ++ [b]) = ((uallF l).1 ++ (ustep (uallF l).2 b).2, (ustep (uallF l).2 b).1) := by simp [uallF]
theorem ustepA_len (p : List Int) (b : Int) : (ustepA p b).2.length ≤ 1 := by unfold ustepA; split <;> (try split) <;> simp
theorem ubeg_len {l : List Int} (h : ubeg l = true) : 0 < l.length ∧ l.length < 4 := by
  simp only [ubeg, Bool.and_eq_true, decide_eq_true_eq] at h
  omega
theorem ustepA_in {b : Int} (hb : 0 ≤ b ∧ b ≤ 255) : inK .u8 (ustepA [] b).1 := by
  unfold ustepA
  split
  · exact inK_nil _
  · split
    · exact inK_u8 (by simp) (by simpa using hb)
    · exact inK_nil _
theorem ustep_len (p : List Int) (b : Int) : (ustep p b).2.length ≤ 2 := by
  have := ustepA_len [] b
  unfold ustep
  split
  · omega
  · split
    · simp
    · split
      · simp
      · simp; omega
theorem ustep_in {p : List Int} {b : Int} (hp : inK .u8 p) (hb : 0 ≤ b ∧ b ≤ 255) (hl : p.length ≤ 1000000) : inK .u8 (ustep p b).1 := by
  unfold ustep
  split
  · exact ustepA_in hb
  · split
    · exact inK_nil _
    · split
      · exact hp.append (inK_u8 (by simp) (by simpa using hb)) (by simp; omega)
      · exact ustepA_in hb
theorem ustep_pl (p : List Int) (b : Int) : (ustep p b).1.length ≤ 3 := by
  have h0 : (ustepA [] b).1.length ≤ 3 := by unfold ustepA; split <;> (try split) <;> simp
  unfold ustep
  split
  · exact h0
  · split
    · simp
    · split
      · rename_i h; have := ubeg_len h; show (p ++ [b]).length ≤ 3; omega
      · exact h0
theorem uallF_take {l : List Int} (h : inK .u8 l) : ∀ i, i ≤ l.length → inK .u8 (uallF (l.take i)).2 ∧ (uallF (l.take i)).2.length ≤ 3 ∧ (uallF (l.take i)).1.length ≤ 2 * i
  | 0, _ => ⟨inK_nil _, by simp [uallF], by simp [uallF]⟩
  | i + 1, hi => by
    have hb : 0 ≤ l[i] ∧ l[i] ≤ 255 := h.u8 (List.getElem_mem (by omega))
    obtain ⟨h1, h2, h3⟩ := uallF_take h i (by omega)
    rw [List.take_succ_eq_append_getElem (by omega), uallF_snoc]
    have h4 := ustep_len (uallF (l.take i)).2 l[i]
    exact ⟨ustep_in h1 hb (by omega), ustep_pl _ _, by simp; omega⟩

theorem uall_P {sz : Nat} {k_l : SK} {l : List Int} (hs : sz = 1 ∨ l = []) (hk : inK .u8 l) (hl : l.length ≤ 10000000) :
    PCalls PG 14 [.sl sz (intRows .u8 l) k_l] fun n r os => r = .tup [.sl 1 (intRows .i32 (uallF l).1) .any, .sl 1 (intRows .u8 (uallF l).2) .any] ∧ os = [] := by
  refine PCalls.by_fn (res := fun n => (.tup [.sl 1 (intRows .i32 (uallF l).1) .any, .sl 1 (intRows .u8 (uallF l).2) .any], [])) T6_ok rc_uall_ok (by simp [rc_uall]) fun n => ?_
  unfold rc_uall
  dsimp only
  simp -implicitDefEqProofs only [tab_cons, vcA1, vcA2, vcA3, vcA4, vcA5, vcA6, vcA7, ↓vcP1, ↓vcP2, ↓reduceIte, Option.map_some, Option.map_none, Option.bind_some, Option.bind_none, if_true, if_false, reduceCtorEq, beq_true, beq_false, Bool.not_true, Bool.not_false, BEq.rfl, Bool.true_beq, Bool.false_beq, and_true, true_and, and_self, decide_true, decide_false, List.length_cons, List.length_nil, List.all_cons, List.all_nil, Bool.and_true, Bool.and_self, List.getElem?_cons_zero, List.getElem?_cons_succ, List.set_cons_zero, List.set_cons_succ, List.nil_append, List.cons_append, List.append_nil, List.map_cons, List.map_nil, not_true_eq_false, not_false_eq_true, false_implies, true_implies, implies_true, List.take_succ_cons, List.take_zero, List.take_nil, List.drop_succ_cons, List.drop_zero, List.drop_nil, Nat.reduceLT, Nat.reduceLeDiff, Nat.reduceEqDiff, Nat.reduceAdd, Nat.reduceSub, Nat.reduceMul, Int.reduceLT, Int.reduceLE, Int.reduceEq, Int.reduceToNat, Int.reduceAdd, Int.reduceSub, Int.reduceNeg, List.reduceReplicate, List.replicate_zero, List.replicate_succ, ne_eq, List.flatMap_cons, List.flatMap_nil, List.length_replicate, List.length_append, Nat.le_refl, Nat.le_add_right, Nat.add_assoc, List.append_assoc, or_true, true_or, or_false, false_or, and_false, false_and, exists_eq_left, exists_eq_left', Option.some.injEq, DV.int.injEq, DV.bool.injEq, DV.sl.injEq, DV.own.injEq, DV.tup.injEq, List.cons.injEq, Ob.arr.injEq, Ob.box.injEq, Option.map_map, Int.toNat_natCast, Int.toNat_zero, Nat.reducePow, Int.toNat_one, Int.reduceMul, Nat.mul_one, Nat.zero_add, Nat.add_zero, Function.comp_apply, List.map_append, List.map_replicate, Int.cast_ofNat_Int, Nat.left_eq_add, Nat.add_eq_left, Nat.add_left_cancel_iff]
  refine LoopWp.inv T6_ok (S := fun i : Nat => match i with
    | 0 => ⟨[(4, .sl 0 [] .nil), (5, .sl 1 (intRows .u8 (uallF (l.take 0)).2) .any), (9, .sl sz (intRows .u8 l) k_l), (10, .int .i64 l.length), (11, .int .i64 0)], List.replicate n none⟩
    | i + 1 => ⟨[(4, .own (n + i) 0 (uallF (l.take (i + 1))).1.length), (5, .sl 1 (intRows .u8 (uallF (l.take (i + 1))).2) .any), (9, .sl sz (intRows .u8 l) k_l), (10, .int .i64 l.length), (11, .int .i64 (i + 1))],
        List.replicate (n + i) none ++ [some (.arr 1 (intRows .i32 (uallF (l.take (i + 1))).1))]⟩) (I := fun i => i ≤ l.length) (μ := fun i => l.length - i) 0 (by omega) ?_ ?_
  · dsimp only
    simp -implicitDefEqProofs only [List.take_zero, vcA1, vcA2, vcA3, vcA4, vcA5, vcA6, vcA7, ↓vcP1, ↓vcP2, ↓reduceIte, Option.map_some, Option.map_none, Option.bind_some, Option.bind_none, if_true, if_false, reduceCtorEq, beq_true, beq_false, Bool.not_true, Bool.not_false, BEq.rfl, Bool.true_beq, Bool.false_beq, and_true, true_and, and_self, decide_true, decide_false, List.length_cons, List.length_nil, List.all_cons, List.all_nil, Bool.and_true, Bool.and_self, List.getElem?_cons_zero, List.getElem?_cons_succ, List.set_cons_zero, List.set_cons_succ, List.nil_append, List.cons_append, List.append_nil, List.map_cons, List.map_nil, not_true_eq_false, not_false_eq_true, false_implies, true_implies, implies_true, List.take_succ_cons, List.take_zero, List.take_nil, List.drop_succ_cons, List.drop_zero, List.drop_nil, Nat.reduceLT, Nat.reduceLeDiff, Nat.reduceEqDiff, Nat.reduceAdd, Nat.reduceSub, Nat.reduceMul, Int.reduceLT, Int.reduceLE, Int.reduceEq, Int.reduceToNat, Int.reduceAdd, Int.reduceSub, Int.reduceNeg, List.reduceReplicate, List.replicate_zero, List.replicate_succ, ne_eq, List.flatMap_cons, List.flatMap_nil, List.length_replicate, List.length_append, Nat.le_refl, Nat.le_add_right, Nat.add_assoc, List.append_assoc, or_true, true_or, or_false, false_or, and_false, false_and, exists_eq_left, exists_eq_left', Option.some.injEq, DV.int.injEq, DV.bool.injEq, DV.sl.injEq, DV.own.injEq, DV.tup.injEq, List.cons.injEq, Ob.arr.injEq, Ob.box.injEq, Option.map_map, Int.toNat_natCast, Int.toNat_zero, Nat.reducePow, Int.toNat_one, Int.reduceMul, Nat.mul_one, Nat.zero_add, Nat.add_zero, Function.comp_apply, List.map_append, List.map_replicate, Int.cast_ofNat_Int, Nat.left_eq_add, Nat.add_eq_left, Nat.add_left_cancel_iff]
    rfl
  · intro i hi
    unfold rc_uall_l0 T6 T5
    obtain ⟨g1, g2, g3⟩ := uallF_take hk i hi
    have hw : ∀ i : Nat, i < l.length → IntKind.i64.wrap ((i : Int) + 1) = (i : Int) + 1 := fun i h => wI64 (by omega) (by omega)
    have hgd : ∀ i (h : i < l.length), l.getD i 0 = l[i] := fun i h => by rw [List.getD_eq_getElem?_getD, List.getElem?_eq_getElem h]; rfl
    cases i with
    | zero =>
      dsimp only
      simp -implicitDefEqProofs only [tab_cons, F_step_1, isInts_sl, ints_intRows, vcA1, vcA2, vcA3, vcA4, vcA5, vcA6, vcA7, ↓vcP1, ↓vcP2, ↓reduceIte, Option.map_some, Option.map_none, Option.bind_some, Option.bind_none, if_true, if_false, reduceCtorEq, beq_true, beq_false, Bool.not_true, Bool.not_false, BEq.rfl, Bool.true_beq, Bool.false_beq, and_true, true_and, and_self, decide_true, decide_false, List.length_cons, List.length_nil, List.all_cons, List.all_nil, Bool.and_true, Bool.and_self, List.getElem?_cons_zero, List.getElem?_cons_succ, List.set_cons_zero, List.set_cons_succ, List.nil_append, List.cons_append, List.append_nil, List.map_cons, List.map_nil, not_true_eq_false, not_false_eq_true, false_implies, true_implies, implies_true, List.take_succ_cons, List.take_zero, List.take_nil, List.drop_succ_cons, List.drop_zero, List.drop_nil, Nat.reduceLT, Nat.reduceLeDiff, Nat.reduceEqDiff, Nat.reduceAdd, Nat.reduceSub, Nat.reduceMul, Int.reduceLT, Int.reduceLE, Int.reduceEq, Int.reduceToNat, Int.reduceAdd, Int.reduceSub, Int.reduceNeg, List.reduceReplicate, List.replicate_zero, List.replicate_succ, ne_eq, List.flatMap_cons, List.flatMap_nil, List.length_replicate, List.length_append, Nat.le_refl, Nat.le_add_right, Nat.add_assoc, List.append_assoc, or_true, true_or, or_false, false_or, and_false, false_and, exists_eq_left, exists_eq_left', Option.some.injEq, DV.int.injEq, DV.bool.injEq, DV.sl.injEq, DV.own.injEq, DV.tup.injEq, List.cons.injEq, Ob.arr.injEq, Ob.box.injEq, Option.map_map, Int.toNat_natCast, Int.toNat_zero, Nat.reducePow, Int.toNat_one, Int.reduceMul, Nat.mul_one, Nat.zero_add, Nat.add_zero, Function.comp_apply, List.map_append, List.map_replicate, Int.cast_ofNat_Int, Nat.left_eq_add, Nat.add_eq_left, Nat.add_left_cancel_iff]
      refine ⟨fun h => ?_, fun h => ?_⟩
      · have h0 : 0 < l.length := by omega
        have hsz : sz = 1 := hs.resolve_right fun e => by simp [e] at h0
        have hb := hk.u8 (List.getElem_mem h0)
        have e : uallF (l.take (0 + 1)) = ((ustep [] l[0]).2, (ustep [] l[0]).1) := by
          rw [List.take_succ_eq_append_getElem h0, uallF_snoc]
          simp [uallF]
        have h2 := ustep_len [] l[0]
        have e0 : (uallF []).2 = [] := rfl
        rw [hgd 0 h0, e0]
        refine ⟨⟨h, hsz⟩, h0, ⟨inK_nil _, by simp, hb⟩, ⟨by omega, by omega⟩, 0 + 1, ?_, by omega, by omega⟩
        dsimp only
        have hw0 : IntKind.i64.wrap 1 = 1 := rfl
        simp -implicitDefEqProofs only [e, hw0, vcA1, vcA2, vcA3, vcA4, vcA5, vcA6, vcA7, ↓vcP1, ↓vcP2, ↓reduceIte, Option.map_some, Option.map_none, Option.bind_some, Option.bind_none, if_true, if_false, reduceCtorEq, beq_true, beq_false, Bool.not_true, Bool.not_false, BEq.rfl, Bool.true_beq, Bool.false_beq, and_true, true_and, and_self, decide_true, decide_false, List.length_cons, List.length_nil, List.all_cons, List.all_nil, Bool.and_true, Bool.and_self, List.getElem?_cons_zero, List.getElem?_cons_succ, List.set_cons_zero, List.set_cons_succ, List.nil_append, List.cons_append, List.append_nil, List.map_cons, List.map_nil, not_true_eq_false, not_false_eq_true, false_implies, true_implies, implies_true, List.take_succ_cons, List.take_zero, List.take_nil, List.drop_succ_cons, List.drop_zero, List.drop_nil, Nat.reduceLT, Nat.reduceLeDiff, Nat.reduceEqDiff, Nat.reduceAdd, Nat.reduceSub, Nat.reduceMul, Int.reduceLT, Int.reduceLE, Int.reduceEq, Int.reduceToNat, Int.reduceAdd, Int.reduceSub, Int.reduceNeg, List.reduceReplicate, List.replicate_zero, List.replicate_succ, ne_eq, List.flatMap_cons, List.flatMap_nil, List.length_replicate, List.length_append, Nat.le_refl, Nat.le_add_right, Nat.add_assoc, List.append_assoc, or_true, true_or, or_false, false_or, and_false, false_and, exists_eq_left, exists_eq_left', Option.some.injEq, DV.int.injEq, DV.bool.injEq, DV.sl.injEq, DV.own.injEq, DV.tup.injEq, List.cons.injEq, Ob.arr.injEq, Ob.box.injEq, Option.map_map, Int.toNat_natCast, Int.toNat_zero, Nat.reducePow, Int.toNat_one, Int.reduceMul, Nat.mul_one, Nat.zero_add, Nat.add_zero, Function.comp_apply, List.map_append, List.map_replicate, Int.cast_ofNat_Int, Nat.left_eq_add, Nat.add_eq_left, Nat.add_left_cancel_iff]
      · have : l = [] := List.eq_nil_of_length_eq_zero (by omega)
        subst this
        exact ⟨rfl, rfl⟩
    | succ i =>
      dsimp only
      simp -implicitDefEqProofs only [tab_cons, F_step_1, isInts_sl, ints_intRows, vcA1, vcA2, vcA3, vcA4, vcA5, vcA6, vcA7, ↓vcP1, ↓vcP2, ↓reduceIte, Option.map_some, Option.map_none, Option.bind_some, Option.bind_none, if_true, if_false, reduceCtorEq, beq_true, beq_false, Bool.not_true, Bool.not_false, BEq.rfl, Bool.true_beq, Bool.false_beq, and_true, true_and, and_self, decide_true, decide_false, List.length_cons, List.length_nil, List.all_cons, List.all_nil, Bool.and_true, Bool.and_self, List.getElem?_cons_zero, List.getElem?_cons_succ, List.set_cons_zero, List.set_cons_succ, List.nil_append, List.cons_append, List.append_nil, List.map_cons, List.map_nil, not_true_eq_false, not_false_eq_true, false_implies, true_implies, implies_true, List.take_succ_cons, List.take_zero, List.take_nil, List.drop_succ_cons, List.drop_zero, List.drop_nil, Nat.reduceLT, Nat.reduceLeDiff, Nat.reduceEqDiff, Nat.reduceAdd, Nat.reduceSub, Nat.reduceMul, Int.reduceLT, Int.reduceLE, Int.reduceEq, Int.reduceToNat, Int.reduceAdd, Int.reduceSub, Int.reduceNeg, List.reduceReplicate, List.replicate_zero, List.replicate_succ, ne_eq, List.flatMap_cons, List.flatMap_nil, List.length_replicate, List.length_append, Nat.le_refl, Nat.le_add_right, Nat.add_assoc, List.append_assoc, or_true, true_or, or_false, false_or, and_false, false_and, exists_eq_left, exists_eq_left', Option.some.injEq, DV.int.injEq, DV.bool.injEq, DV.sl.injEq, DV.own.injEq, DV.tup.injEq, List.cons.injEq, Ob.arr.injEq, Ob.box.injEq, Option.map_map, Int.toNat_natCast, Int.toNat_zero, Nat.reducePow, Int.toNat_one, Int.reduceMul, Nat.mul_one, Nat.zero_add, Nat.add_zero, Function.comp_apply, List.map_append, List.map_replicate, Int.cast_ofNat_Int, Nat.left_eq_add, Nat.add_eq_left, Nat.add_left_cancel_iff]
      have hti : ((i : Int) + 1).toNat = i + 1 := by omega
      rw [hti]
      refine ⟨fun h => ?_, fun h => ?_⟩
      · have h0 : i + 1 < l.length := by omega
        have hsz : sz = 1 := hs.resolve_right fun e => by simp [e] at h0
        have hb := hk.u8 (List.getElem_mem h0)
        have e : uallF (l.take (i + 1 + 1)) = ((uallF (l.take (i + 1))).1 ++ (ustep (uallF (l.take (i + 1))).2 l[i + 1]).2, (ustep (uallF (l.take (i + 1))).2 l[i + 1]).1) := by
          rw [List.take_succ_eq_append_getElem h0, uallF_snoc]
        have h2 := ustep_len (uallF (l.take (i + 1))).2 l[i + 1]
        rw [hgd (i + 1) h0]
        refine ⟨⟨by omega, h, hsz⟩, h0, ⟨g1, by omega, hb⟩, ⟨by omega, by omega⟩, i + 1 + 1, ?_, by omega, by omega⟩
        dsimp only
        have hw0 := hw (i + 1) h0
        simp -implicitDefEqProofs only [e, vcA1, vcA2, vcA3, vcA4, vcA5, vcA6, vcA7, ↓vcP1, ↓vcP2, ↓reduceIte, Option.map_some, Option.map_none, Option.bind_some, Option.bind_none, if_true, if_false, reduceCtorEq, beq_true, beq_false, Bool.not_true, Bool.not_false, BEq.rfl, Bool.true_beq, Bool.false_beq, and_true, true_and, and_self, decide_true, decide_false, List.length_cons, List.length_nil, List.all_cons, List.all_nil, Bool.and_true, Bool.and_self, List.getElem?_cons_zero, List.getElem?_cons_succ, List.set_cons_zero, List.set_cons_succ, List.nil_append, List.cons_append, List.append_nil, List.map_cons, List.map_nil, not_true_eq_false, not_false_eq_true, false_implies, true_implies, implies_true, List.take_succ_cons, List.take_zero, List.take_nil, List.drop_succ_cons, List.drop_zero, List.drop_nil, Nat.reduceLT, Nat.reduceLeDiff, Nat.reduceEqDiff, Nat.reduceAdd, Nat.reduceSub, Nat.reduceMul, Int.reduceLT, Int.reduceLE, Int.reduceEq, Int.reduceToNat, Int.reduceAdd, Int.reduceSub, Int.reduceNeg, List.reduceReplicate, List.replicate_zero, List.replicate_succ, ne_eq, List.flatMap_cons, List.flatMap_nil, List.length_replicate, List.length_append, Nat.le_refl, Nat.le_add_right, Nat.add_assoc, List.append_assoc, or_true, true_or, or_false, false_or, and_false, false_and, exists_eq_left, exists_eq_left', Option.some.injEq, DV.int.injEq, DV.bool.injEq, DV.sl.injEq, DV.own.injEq, DV.tup.injEq, List.cons.injEq, Ob.arr.injEq, Ob.box.injEq, Option.map_map, Int.toNat_natCast, Int.toNat_zero, Nat.reducePow, Int.toNat_one, Int.reduceMul, Nat.mul_one, Nat.zero_add, Nat.add_zero, Function.comp_apply, List.map_append, List.map_replicate, Int.cast_ofNat_Int, Nat.left_eq_add, Nat.add_eq_left, Nat.add_left_cancel_iff]
        refine ⟨by rw [wI64] <;> omega, ?_⟩
        exact objsWk_RO (n := n + i) (m := 1) (l := [none]) (objsWk_refl _) rfl
      · rw [List.take_length, List.take_of_length_le (show l.length ≤ i + 1 by omega)]
        exact ⟨rfl, rfl⟩

end Go.Proofs.YteemmpghpdaloaaDoor
