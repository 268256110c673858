/- 'UtfParts'. -/
import Derived.Test.YteemmpghpdaloaaDoorP14
set_option linter.unusedVariables false
set_option linter.unusedSimpArgs false
set_option maxRecDepth 10000
namespace Go.Proofs.YteemmpghpdaloaaDoor
open Go.RowKit

noncomputable def rc_uallO_l0 : RC := (.seq (.reg [⟨(some 12), (.bin .lss (.t 11) (.t 10)), none, false⟩] 0 [4, 5, 9, 10, 11, 12]) (.seq (.cond (.t 12) .skip (.ext 0)) (.seq (.blk 1 (.seq (.reg [⟨(some 13), (.iaddr 1 (.t 9) (.t 11)), none, false⟩, ⟨(some 14), (.load false 1 (.t 13)), none, false⟩, ⟨(some 7), (.mov (.t 14)), none, false⟩] 0 [4, 5, 7, 9, 10, 11]) (.seq (.reg [⟨(some 8), (.mov (.c (.sl 0 [] .nil))), none, false⟩] 0 [4, 5, 7, 9, 10, 11]) (.seq (.reg [⟨(some 16), (.mov (.t 5)), none, false⟩, ⟨(some 17), (.mov (.t 7)), none, false⟩, ⟨(some 18), (.call 17 [(.t 16), (.t 17)]), none, false⟩, ⟨(some 15), (.mov (.t 18)), none, false⟩, ⟨(some 19), (.ext (.t 15) 0), none, false⟩, ⟨(some 20), (.ext (.t 15) 1), none, false⟩, ⟨(some 5), (.mov (.t 19)), none, false⟩, ⟨(some 8), (.mov (.t 20)), none, false⟩] 0 [4, 5, 8, 9, 10, 11]) (.reg [⟨(some 21), (.mov (.t 4)), none, false⟩, ⟨(some 22), (.mov (.t 8)), none, false⟩, ⟨(some 23), (.append 1 4 (.t 21) (.t 22)), none, false⟩, ⟨(some 4), (.mov (.t 23)), none, false⟩] 0 [4, 5, 9, 10, 11]))))) (.reg [⟨(some 24), (.bin .add (.t 11) (.c (.int .i64 1))), none, false⟩, ⟨(some 11), (.mov (.t 24)), none, false⟩] 0 [4, 5, 9, 10, 11]))))
noncomputable def rc_uallO : RFn := ⟨1, 27, (.seq (.reg [⟨(some 2), (.mov (.c (.sl 0 [] .nil))), none, false⟩, ⟨(some 3), (.mov (.c (.sl 0 [] .nil))), none, false⟩] 0 [0]) (.seq (.reg [⟨(some 4), (.mov (.c (.sl 0 [] .nil))), none, false⟩] 0 [0, 4]) (.seq (.reg [⟨(some 5), (.mov (.c (.sl 0 [] .nil))), none, false⟩] 0 [0, 4, 5]) (.seq (.seq (.reg [⟨(some 9), (.mov (.t 0)), none, false⟩, ⟨(some 10), (.len (.t 9)), none, false⟩, ⟨(some 11), (.mov (.c (.int .i64 0))), none, false⟩] 0 [4, 5, 9, 10, 11]) (.blk 0 (.loop rc_uallO_l0))) (.seq (.reg [⟨(some 25), (.mov (.t 4)), none, false⟩, ⟨(some 26), (.mov (.t 5)), none, false⟩, ⟨(some 2), (.mov (.t 25)), none, false⟩, ⟨(some 3), (.mov (.t 26)), none, true⟩] 0 [2, 3]) .ret))))), [(.t 2), (.t 3)]⟩
theorem rc_uallO_ok : compFn PG.P [⟨0, 0, [0], []⟩, ⟨1, 0, [0, 4], []⟩, ⟨2, 0, [0, 4, 5], []⟩, ⟨3, 0, [4, 5, 9, 10, 11], []⟩, ⟨4, 0, [4, 5, 9, 10, 11, 12], []⟩, ⟨5, 0, [4, 5, 7, 9, 10, 11], []⟩, ⟨6, 0, [4, 5, 7, 9, 10, 11], []⟩, ⟨7, 0, [4, 5, 8, 9, 10, 11], []⟩, ⟨8, 0, [4, 5, 9, 10, 11], []⟩, ⟨9, 0, [4, 5, 9, 10, 11], []⟩, ⟨10, 0, [2, 3], [3]⟩] 14 = some rc_uallO := by kernel_rfl
noncomputable def rc_some3O_l0 : RC := (.seq (.seq (.reg [⟨(some 7), (.mov (.t 5)), none, false⟩, ⟨(some 8), (.mov (.t 0)), none, false⟩, ⟨(some 9), (.len (.t 8)), none, false⟩, ⟨(some 10), (.bin .lss (.t 7) (.t 9)), none, false⟩] 0 [0, 3, 4, 5, 10]) (.cond (.t 10) .skip (.ext 0))) (.seq (.blk 1 (.reg [⟨(some 13), (.mov (.t 4)), none, false⟩, ⟨(some 14), (.mov (.t 3)), none, false⟩, ⟨(some 15), (.mov (.t 0)), none, false⟩, ⟨(some 16), (.mov (.t 5)), none, false⟩, ⟨(some 17), (.iaddr 1 (.t 15) (.t 16)), none, false⟩, ⟨(some 18), (.load false 1 (.t 17)), none, false⟩, ⟨(some 19), (.conv (.i2i .i64) (.t 18)), none, false⟩, ⟨(some 20), (.mov (.t 3)), none, false⟩, ⟨(some 21), (.len (.t 20)), none, false⟩, ⟨(some 22), (.bin .rem (.t 19) (.t 21)), none, false⟩, ⟨(some 23), (.iaddr 1 (.t 14) (.t 22)), none, false⟩, ⟨(some 24), (.load false 1 (.t 23)), none, false⟩, ⟨(some 25), (.append 1 1 (.t 13) (.t 24)), none, false⟩, ⟨(some 4), (.mov (.t 25)), none, false⟩] 0 [0, 3, 4, 5])) (.reg [⟨(some 11), (.mov (.t 5)), none, false⟩, ⟨(some 12), (.bin .add (.t 11) (.c (.int .i64 1))), none, false⟩, ⟨(some 5), (.mov (.t 12)), none, false⟩] 0 [0, 3, 4, 5])))
noncomputable def rc_some3O : RFn := ⟨1, 27, (.seq (.reg [⟨(some 2), (.mov (.c (.sl 0 [] .nil))), none, false⟩] 0 [0]) (.seq (.reg [⟨(some 6), (.mkrow 1 [(.str [])] 17 [(0, (.c (.str [(97)]))), (1, (.c (.str [(195), (169)]))), (2, (.c (.str [(230), (188), (162)]))), (3, (.c (.str [(240), (159), (152), (128)]))), (4, (.c (.str [(255)]))), (5, (.c (.str [(195)]))), (6, (.c (.str [(230)]))), (7, (.c (.str [(230), (188)]))), (8, (.c (.str [(240), (159)]))), (9, (.c (.str [(237), (160), (128)]))), (10, (.c (.str [(192), (128)]))), (11, (.c (.str [(244), (144)]))), (12, (.c (.str [(128)]))), (13, (.c (.str [(224), (159)]))), (14, (.c (.str [(240), (143)]))), (15, (.c (.str [(239), (191), (189)]))), (16, (.c (.str [(245)])))]), none, false⟩, ⟨(some 3), (.mov (.t 6)), none, true⟩] 0 [0, 3]) (.seq (.reg [⟨(some 4), (.mov (.c (.sl 0 [] .nil))), none, false⟩] 0 [0, 3, 4]) (.seq (.seq (.reg [⟨(some 5), (.mov (.c (.int .i64 0))), none, false⟩] 0 [0, 3, 4, 5]) (.blk 0 (.loop rc_some3O_l0))) (.seq (.reg [⟨(some 26), (.mov (.t 4)), none, false⟩, ⟨(some 2), (.mov (.t 26)), none, false⟩] 0 [2]) .ret))))), [(.t 2)]⟩
theorem rc_some3O_ok : compFn PG.P [⟨0, 0, [0], []⟩, ⟨1, 0, [0, 3], [3]⟩, ⟨2, 0, [0, 3, 4], []⟩, ⟨3, 0, [0, 3, 4, 5], []⟩, ⟨4, 0, [0, 3, 4, 5, 10], []⟩, ⟨5, 0, [0, 3, 4, 5], []⟩, ⟨6, 0, [0, 3, 4, 5], []⟩, ⟨7, 0, [2], []⟩] 13 = some rc_some3O := by kernel_rfl
noncomputable def rc_utfParts_l0 : RC := (.seq (.seq (.reg [⟨(some 49), (.mov (.t 13)), none, false⟩, ⟨(some 50), (.mov (.t 7)), none, false⟩, ⟨(some 51), (.len (.t 50)), none, false⟩, ⟨(some 52), (.bin .lss (.t 49) (.t 51)), none, false⟩] 0 [7, 9, 10, 11, 12, 13, 52]) (.cond (.t 52) .skip (.ext 0))) (.seq (.blk 1 (.seq (.reg [⟨(some 56), (.mov (.t 12)), none, false⟩, ⟨(some 57), (.mov (.t 7)), none, false⟩, ⟨(some 58), (.mov (.t 13)), none, false⟩, ⟨(some 59), (.iaddr 1 (.t 57) (.t 58)), none, false⟩, ⟨(some 60), (.load false 1 (.t 59)), none, false⟩, ⟨(some 61), (.call 17 [(.t 56), (.t 60)]), none, false⟩, ⟨(some 55), (.mov (.t 61)), none, false⟩, ⟨(some 62), (.ext (.t 55) 0), none, false⟩, ⟨(some 63), (.ext (.t 55) 1), none, false⟩, ⟨(some 14), (.mov (.t 62)), none, false⟩, ⟨(some 15), (.mov (.t 63)), none, false⟩] 0 [7, 9, 10, 11, 13, 14, 15]) (.reg [⟨(some 64), (.mov (.t 14)), none, false⟩, ⟨(some 65), (.mov (.t 11)), none, false⟩, ⟨(some 66), (.mov (.t 15)), none, false⟩, ⟨(some 67), (.append 1 4 (.t 65) (.t 66)), none, false⟩, ⟨(some 12), (.mov (.t 64)), none, false⟩, ⟨(some 11), (.mov (.t 67)), none, false⟩] 0 [7, 9, 10, 11, 12, 13]))) (.reg [⟨(some 53), (.mov (.t 13)), none, false⟩, ⟨(some 54), (.bin .add (.t 53) (.c (.int .i64 1))), none, false⟩, ⟨(some 13), (.mov (.t 54)), none, false⟩] 0 [7, 9, 10, 11, 12, 13])))
noncomputable def rc_utfParts : RFn := ⟨3, 87, (.seq (.reg [⟨(some 6), (.mov (.c (.bool false))), none, false⟩] 0 [0, 1, 2]) (.seq (.seq (.reg [⟨(some 16), (.call 12 []), none, false⟩, ⟨(some 17), (.un .not (.t 16)), none, false⟩] 0 [0, 1, 2, 17]) (.cond (.t 17) (.seq (.reg [⟨(some 6), (.mov (.c (.bool false))), none, false⟩] 0 [6]) .ret) .skip)) (.seq (.seq (.reg [⟨(some 18), (.mov (.t 0)), none, false⟩, ⟨(some 19), (.len (.t 18)), none, false⟩, ⟨(some 20), (.bin .gtr (.t 19) (.c (.int .i64 60))), none, false⟩, ⟨(some 21), (.mov (.t 20)), none, false⟩, ⟨(some 22), (.mov (.t 1)), (some (21, false)), false⟩, ⟨(some 23), (.len (.t 22)), (some (21, false)), false⟩, ⟨(some 24), (.bin .gtr (.t 23) (.c (.int .i64 30))), (some (21, false)), false⟩, ⟨(some 25), (.pick (.t 21) (.c (.bool true)) (.t 24)), none, false⟩] 0 [0, 1, 2, 25]) (.cond (.t 25) (.seq (.reg [⟨(some 6), (.mov (.c (.bool true))), none, false⟩] 0 [6]) .ret) .skip)) (.seq (.reg [⟨(some 26), (.mov (.t 1)), none, false⟩, ⟨(some 27), (.call 13 [(.t 26)]), none, false⟩, ⟨(some 28), (.mov (.t 0)), none, false⟩, ⟨(some 29), (.append 1 1 (.t 27) (.t 28)), none, false⟩, ⟨(some 7), (.mov (.t 29)), none, true⟩] 0 [2, 7]) (.seq (.reg [⟨(some 30), (.mov (.t 2)), none, false⟩, ⟨(some 31), (.conv (.i2i .i64) (.t 30)), none, false⟩, ⟨(some 32), (.mov (.t 7)), none, false⟩, ⟨(some 33), (.len (.t 32)), none, false⟩, ⟨(some 34), (.bin .add (.t 33) (.c (.int .i64 1))), none, false⟩, ⟨(some 35), (.bin .rem (.t 31) (.t 34)), none, false⟩, ⟨(some 8), (.mov (.t 35)), none, false⟩] 0 [7, 8]) (.seq (.reg [⟨(some 37), (.mov (.t 7)), none, false⟩, ⟨(some 38), (.call 14 [(.t 37)]), none, false⟩, ⟨(some 36), (.mov (.t 38)), none, false⟩, ⟨(some 39), (.ext (.t 36) 0), none, true⟩, ⟨(some 40), (.ext (.t 36) 1), none, false⟩, ⟨(some 9), (.mov (.t 39)), none, false⟩, ⟨(some 10), (.mov (.t 40)), none, false⟩] 0 [7, 8, 9, 10]) (.seq (.reg [⟨(some 42), (.mov (.t 7)), none, false⟩, ⟨(some 43), (.mov (.t 8)), none, false⟩, ⟨(some 44), (.slice 1 (.t 42) none (some (.t 43)) none), none, false⟩, ⟨(some 45), (.call 14 [(.t 44)]), none, false⟩, ⟨(some 41), (.mov (.t 45)), none, false⟩, ⟨(some 46), (.ext (.t 41) 0), none, false⟩, ⟨(some 47), (.ext (.t 41) 1), none, false⟩, ⟨(some 11), (.mov (.t 46)), none, false⟩, ⟨(some 12), (.mov (.t 47)), none, false⟩] 0 [7, 8, 9, 10, 11, 12]) (.seq (.seq (.reg [⟨(some 48), (.mov (.t 8)), none, false⟩, ⟨(some 13), (.mov (.t 48)), none, false⟩] 0 [7, 9, 10, 11, 12, 13]) (.blk 0 (.loop rc_utfParts_l0))) (.seq (.reg [⟨(some 68), (.mov (.t 9)), none, false⟩, ⟨(some 69), (.mov (.t 11)), none, true⟩, ⟨(some 70), (.call 16 [(.t 68), (.t 69)]), none, false⟩, ⟨(some 71), (.mov (.t 70)), none, false⟩, ⟨(some 72), (.mov (.t 12)), (some (71, true)), false⟩, ⟨(some 73), (.conv .b2s (.t 72)), (some (71, true)), false⟩, ⟨(some 74), (.mov (.t 10)), (some (71, true)), false⟩, ⟨(some 75), (.conv .b2s (.t 74)), (some (71, true)), false⟩, ⟨(some 76), (.bin .eql (.t 73) (.t 75)), (some (71, true)), false⟩, ⟨(some 77), (.pick (.t 71) (.t 76) (.c (.bool false))), none, false⟩, ⟨(some 78), (.mov (.t 77)), none, false⟩, ⟨(some 79), (.mov (.t 12)), (some (78, true)), false⟩, ⟨(some 80), (.len (.t 79)), (some (78, true)), false⟩, ⟨(some 81), (.bin .eql (.t 80) (.c (.int .i64 0))), (some (78, true)), false⟩, ⟨(some 82), (.mov (.t 81)), (some (78, true)), false⟩, ⟨(some 83), (.mov (.t 12)), (some (82, false)), false⟩, ⟨(some 84), (.call 19 [(.t 83)]), (some (82, false)), false⟩, ⟨(some 85), (.pick (.t 82) (.c (.bool true)) (.t 84)), (some (78, true)), false⟩, ⟨(some 86), (.pick (.t 78) (.t 85) (.c (.bool false))), none, false⟩, ⟨(some 6), (.mov (.t 86)), none, false⟩] 0 [6]) .ret))))))))), [(.t 6)]⟩
theorem rc_utfParts_ok : compFn PG.P [⟨0, 0, [0, 1, 2], []⟩, ⟨1, 0, [0, 1, 2, 17], []⟩, ⟨2, 0, [6], []⟩, ⟨3, 0, [0, 1, 2, 25], []⟩, ⟨4, 0, [6], []⟩, ⟨5, 0, [2, 7], [7]⟩, ⟨6, 0, [7, 8], []⟩, ⟨7, 0, [7, 8, 9, 10], [39]⟩, ⟨8, 0, [7, 8, 9, 10, 11, 12], []⟩, ⟨9, 0, [7, 9, 10, 11, 12, 13], []⟩, ⟨10, 0, [7, 9, 10, 11, 12, 13, 52], []⟩, ⟨11, 0, [7, 9, 10, 11, 12, 13], []⟩, ⟨12, 0, [7, 9, 10, 11, 13, 14, 15], []⟩, ⟨13, 0, [7, 9, 10, 11, 12, 13], []⟩, ⟨14, 0, [6], [69]⟩] 6 = some rc_utfParts := by kernel_rfl
theorem uallO_P {sz_l : Nat} {k_l : SK} {l : List Int} (hs_l : sz_l = 1 ∨ l = []) (hk_l : inK .u8 l) (hp : l.length ≤ 10000000) :
    PCalls PG 14 [.sl sz_l (intRows .u8 l) k_l] fun n RR OO => RR = .tup [.own n 0 (uallF l).1.length, .sl 1 (intRows .u8 (uallF l).2) .any] ∧ OO = [some (.arr 1 (intRows .i32 (uallF l).1))] := by
  refine PCalls.by_fn (res := fun n => (.tup [.own n 0 (uallF l).1.length, .sl 1 (intRows .u8 (uallF l).2) .any], [some (.arr 1 (intRows .i32 (uallF l).1))])) T16_ok rc_uallO_ok (by simp [rc_uallO]) fun n => ?_
  unfold rc_uallO
  dsimp only
  simp -implicitDefEqProofs only [T16_b, vcA1, vcA2, vcA3, vcA4, vcA5, vcA6, vcA7, ↓vcP1, ↓vcP2, ↓reduceIte, Option.map_some, Option.map_none, Option.bind_some, Option.bind_none, if_true, if_false, reduceCtorEq, beq_true, beq_false, Bool.not_true, Bool.not_false, BEq.rfl, Bool.true_beq, Bool.false_beq, and_true, true_and, and_self, decide_true, decide_false, List.length_cons, List.length_nil, List.all_cons, List.all_nil, Bool.and_true, Bool.and_self, List.getElem?_cons_zero, List.getElem?_cons_succ, List.set_cons_zero, List.set_cons_succ, List.nil_append, List.cons_append, List.append_nil, List.map_cons, List.map_nil, not_true_eq_false, not_false_eq_true, false_implies, true_implies, implies_true, List.take_succ_cons, List.take_zero, List.take_nil, List.drop_succ_cons, List.drop_zero, List.drop_nil, Nat.reduceLT, Nat.reduceLeDiff, Nat.reduceEqDiff, Nat.reduceAdd, Nat.reduceSub, Nat.reduceMul, Int.reduceLT, Int.reduceLE, Int.reduceEq, Int.reduceToNat, Int.reduceAdd, Int.reduceSub, Int.reduceNeg, List.reduceReplicate, List.replicate_zero, List.replicate_succ, ne_eq, List.flatMap_cons, List.flatMap_nil, List.length_replicate, List.length_append, Nat.le_refl, Nat.le_add_right, Nat.add_assoc, List.append_assoc, or_true, true_or, or_false, false_or, and_false, false_and, exists_eq_left, exists_eq_left', Option.some.injEq, DV.int.injEq, DV.bool.injEq, DV.sl.injEq, DV.own.injEq, DV.tup.injEq, List.cons.injEq, Ob.arr.injEq, Ob.box.injEq, Option.map_map, Int.toNat_natCast, Int.toNat_zero, Nat.reducePow, Int.toNat_one, Int.reduceMul, Nat.mul_one, Nat.zero_add, Nat.add_zero, Function.comp_apply, List.map_append, List.map_replicate, Int.cast_ofNat_Int, Nat.left_eq_add, Nat.add_eq_left, Nat.add_left_cancel_iff]
  refine LoopWp.own 4 1 rfl (.inl rfl) ?_
  refine LoopWp.invR T16_ok (S := fun m (i : Nat) => ⟨[(4, .own m 0 (uallF (l.take i)).1.length), (5, .sl 1 (intRows .u8 (uallF (l.take i)).2) .any), (9, .sl sz_l (intRows .u8 l) k_l), (10, .int .i64 l.length), (11, .int .i64 i)],
        List.replicate m none ++ [some (.arr 1 (intRows .i32 (uallF (l.take i)).1))]⟩) (I := fun i => i ≤ l.length) (μ := fun i => l.length - i) n 0 (by omega) ?_ ?_
  · simp -implicitDefEqProofs only [List.take_zero, vcA1, vcA2, vcA3, vcA4, vcA5, vcA6, vcA7, ↓vcP1, ↓vcP2, ↓reduceIte, Option.map_some, Option.map_none, Option.bind_some, Option.bind_none, if_true, if_false, reduceCtorEq, beq_true, beq_false, Bool.not_true, Bool.not_false, BEq.rfl, Bool.true_beq, Bool.false_beq, and_true, true_and, and_self, decide_true, decide_false, List.length_cons, List.length_nil, List.all_cons, List.all_nil, Bool.and_true, Bool.and_self, List.getElem?_cons_zero, List.getElem?_cons_succ, List.set_cons_zero, List.set_cons_succ, List.nil_append, List.cons_append, List.append_nil, List.map_cons, List.map_nil, not_true_eq_false, not_false_eq_true, false_implies, true_implies, implies_true, List.take_succ_cons, List.take_zero, List.take_nil, List.drop_succ_cons, List.drop_zero, List.drop_nil, Nat.reduceLT, Nat.reduceLeDiff, Nat.reduceEqDiff, Nat.reduceAdd, Nat.reduceSub, Nat.reduceMul, Int.reduceLT, Int.reduceLE, Int.reduceEq, Int.reduceToNat, Int.reduceAdd, Int.reduceSub, Int.reduceNeg, List.reduceReplicate, List.replicate_zero, List.replicate_succ, ne_eq, List.flatMap_cons, List.flatMap_nil, List.length_replicate, List.length_append, Nat.le_refl, Nat.le_add_right, Nat.add_assoc, List.append_assoc, or_true, true_or, or_false, false_or, and_false, false_and, exists_eq_left, exists_eq_left', Option.some.injEq, DV.int.injEq, DV.bool.injEq, DV.sl.injEq, DV.own.injEq, DV.tup.injEq, List.cons.injEq, Ob.arr.injEq, Ob.box.injEq, Option.map_map, Int.toNat_natCast, Int.toNat_zero, Nat.reducePow, Int.toNat_one, Int.reduceMul, Nat.mul_one, Nat.zero_add, Nat.add_zero, Function.comp_apply, List.map_append, List.map_replicate, Int.cast_ofNat_Int, Nat.left_eq_add, Nat.add_eq_left, Nat.add_left_cancel_iff]
    exact ⟨⟨rfl, rfl⟩, rfl⟩
  · intro m i hm hi
    unfold rc_uallO_l0
    simp -implicitDefEqProofs only [T16_b, ints_intRows, vcA1, vcA2, vcA3, vcA4, vcA5, vcA6, vcA7, ↓vcP1, ↓vcP2, ↓reduceIte, Option.map_some, Option.map_none, Option.bind_some, Option.bind_none, if_true, if_false, reduceCtorEq, beq_true, beq_false, Bool.not_true, Bool.not_false, BEq.rfl, Bool.true_beq, Bool.false_beq, and_true, true_and, and_self, decide_true, decide_false, List.length_cons, List.length_nil, List.all_cons, List.all_nil, Bool.and_true, Bool.and_self, List.getElem?_cons_zero, List.getElem?_cons_succ, List.set_cons_zero, List.set_cons_succ, List.nil_append, List.cons_append, List.append_nil, List.map_cons, List.map_nil, not_true_eq_false, not_false_eq_true, false_implies, true_implies, implies_true, List.take_succ_cons, List.take_zero, List.take_nil, List.drop_succ_cons, List.drop_zero, List.drop_nil, Nat.reduceLT, Nat.reduceLeDiff, Nat.reduceEqDiff, Nat.reduceAdd, Nat.reduceSub, Nat.reduceMul, Int.reduceLT, Int.reduceLE, Int.reduceEq, Int.reduceToNat, Int.reduceAdd, Int.reduceSub, Int.reduceNeg, List.reduceReplicate, List.replicate_zero, List.replicate_succ, ne_eq, List.flatMap_cons, List.flatMap_nil, List.length_replicate, List.length_append, Nat.le_refl, Nat.le_add_right, Nat.add_assoc, List.append_assoc, or_true, true_or, or_false, false_or, and_false, false_and, exists_eq_left, exists_eq_left', Option.some.injEq, DV.int.injEq, DV.bool.injEq, DV.sl.injEq, DV.own.injEq, DV.tup.injEq, List.cons.injEq, Ob.arr.injEq, Ob.box.injEq, Option.map_map, Int.toNat_natCast, Int.toNat_zero, Nat.reducePow, Int.toNat_one, Int.reduceMul, Nat.mul_one, Nat.zero_add, Nat.add_zero, Function.comp_apply, List.map_append, List.map_replicate, Int.cast_ofNat_Int, Nat.left_eq_add, Nat.add_eq_left, Nat.add_left_cancel_iff]
    obtain ⟨g1, g2, g3⟩ := uallF_take hk_l i hi
    refine ⟨fun h => ?_, fun h => ?_⟩
    · have h0 : i < l.length := by omega
      have hsz : sz_l = 1 := hs_l.resolve_right fun e => by simp [e] at h0
      have hb := getD_lt hk_l h0
      have h2 := ustep_len (uallF (l.take i)).2 (l.getD i 0)
      have hgd : l.getD i 0 = l[i] := by rw [List.getD_eq_getElem?_getD, List.getElem?_eq_getElem h0]; rfl
      have e : uallF (l.take (i + 1)) = ((uallF (l.take i)).1 ++ (ustep (uallF (l.take i)).2 (l.getD i 0)).2, (ustep (uallF (l.take i)).2 (l.getD i 0)).1) := by
        rw [List.take_succ_eq_append_getElem h0, uallF_snoc, hgd]
      refine ⟨⟨by omega, h, hsz⟩, h0, ⟨g1, by omega, hb⟩, ⟨by omega, by omega⟩, by omega, i + 1, ?_, by omega, by omega⟩
      rw [e]
      exact ⟨⟨by simp, rfl, by rw [wI64] <;> omega⟩, rfl⟩
    · have h1 : i = l.length := by omega
      subst h1
      rw [List.take_length]
      (repeat' apply And.intro) <;> first | omega | rfl
def F_uallO : List DV → Option FSpec
  | [a_l] => some ⟨isInts .u8 a_l ∧ (intsD a_l).length ≤ 10000000, fun n => (.tup [.own n 0 (uallF (intsD a_l)).1.length, .sl 1 (intRows .u8 (uallF (intsD a_l)).2) .any], [some (.arr 1 (intRows .i32 (uallF (intsD a_l)).1))])⟩
  | _ => none
theorem F_uallO_1 (a_l : DV) : F_uallO [a_l] = some ⟨isInts .u8 a_l ∧ (intsD a_l).length ≤ 10000000, fun n => (.tup [.own n 0 (uallF (intsD a_l)).1.length, .sl 1 (intRows .u8 (uallF (intsD a_l)).2) .any], [some (.arr 1 (intRows .i32 (uallF (intsD a_l)).1))])⟩ := nrfl _
theorem uallO_ok (args : List DV) (s : FSpec) (hs : F_uallO args = some s) (hp : s.pre) : PCalls PG 14 args fun n r os => r = (s.res n).1 ∧ os = (s.res n).2 := by
  unfold F_uallO at hs
  split at hs
  · rename_i a_l
    obtain rfl := Option.some.inj hs
    obtain ⟨hi_l, hp⟩ := hp
    obtain ⟨s0_l, k0_l, h1_l, h2_l, h3_l⟩ := isInts_inv hi_l
    have this := uallO_P (k_l := k0_l) h2_l h3_l hp
    rw [← h1_l] at this
    exact this
  · cases hs

theorem some3O_P {sz_l : Nat} {k_l : SK} {l : List Int} (hs_l : sz_l = 1 ∨ l = []) (hk_l : inK .u8 l) (hp : l.length ≤ 1000000) :
    PCalls PG 13 [.sl sz_l (intRows .u8 l) k_l] fun n RR OO => RR = .own n 0 (someF l).length ∧ OO = [some (.arr 1 (intRows .u8 (someF l)))] := by
  refine PCalls.by_fn (res := fun n => (.own n 0 (someF l).length, [some (.arr 1 (intRows .u8 (someF l)))])) T16_ok rc_some3O_ok (by simp [rc_some3O]) fun n => ?_
  unfold rc_some3O
  dsimp only
  simp -implicitDefEqProofs only [T16_b, vcA1, vcA2, vcA3, vcA4, vcA5, vcA6, vcA7, ↓vcP1, ↓vcP2, ↓reduceIte, Option.map_some, Option.map_none, Option.bind_some, Option.bind_none, if_true, if_false, reduceCtorEq, beq_true, beq_false, Bool.not_true, Bool.not_false, BEq.rfl, Bool.true_beq, Bool.false_beq, and_true, true_and, and_self, decide_true, decide_false, List.length_cons, List.length_nil, List.all_cons, List.all_nil, Bool.and_true, Bool.and_self, List.getElem?_cons_zero, List.getElem?_cons_succ, List.set_cons_zero, List.set_cons_succ, List.nil_append, List.cons_append, List.append_nil, List.map_cons, List.map_nil, not_true_eq_false, not_false_eq_true, false_implies, true_implies, implies_true, List.take_succ_cons, List.take_zero, List.take_nil, List.drop_succ_cons, List.drop_zero, List.drop_nil, Nat.reduceLT, Nat.reduceLeDiff, Nat.reduceEqDiff, Nat.reduceAdd, Nat.reduceSub, Nat.reduceMul, Int.reduceLT, Int.reduceLE, Int.reduceEq, Int.reduceToNat, Int.reduceAdd, Int.reduceSub, Int.reduceNeg, List.reduceReplicate, List.replicate_zero, List.replicate_succ, ne_eq, List.flatMap_cons, List.flatMap_nil, List.length_replicate, List.length_append, Nat.le_refl, Nat.le_add_right, Nat.add_assoc, List.append_assoc, or_true, true_or, or_false, false_or, and_false, false_and, exists_eq_left, exists_eq_left', Option.some.injEq, DV.int.injEq, DV.bool.injEq, DV.sl.injEq, DV.own.injEq, DV.tup.injEq, List.cons.injEq, Ob.arr.injEq, Ob.box.injEq, Option.map_map, Int.toNat_natCast, Int.toNat_zero, Nat.reducePow, Int.toNat_one, Int.reduceMul, Nat.mul_one, Nat.zero_add, Nat.add_zero, Function.comp_apply, List.map_append, List.map_replicate, Int.cast_ofNat_Int, Nat.left_eq_add, Nat.add_eq_left, Nat.add_left_cancel_iff]
  refine LoopWp.own 4 1 rfl (.inl rfl) ?_
  refine LoopWp.invR T16_ok (S := fun m (i : Nat) => ⟨[(0, .sl sz_l (intRows .u8 l) k_l), (3, .sl 1 (strRows pieces3) .any), (4, .own m 0 (someF (l.take i)).length), (5, .int .i64 i)],
        List.replicate m none ++ [some (.arr 1 (intRows .u8 (someF (l.take i))))]⟩) (I := fun i => i ≤ l.length) (μ := fun i => l.length - i) n 0 (by omega) ?_ ?_
  · simp -implicitDefEqProofs only [List.take_zero, vcA1, vcA2, vcA3, vcA4, vcA5, vcA6, vcA7, ↓vcP1, ↓vcP2, ↓reduceIte, Option.map_some, Option.map_none, Option.bind_some, Option.bind_none, if_true, if_false, reduceCtorEq, beq_true, beq_false, Bool.not_true, Bool.not_false, BEq.rfl, Bool.true_beq, Bool.false_beq, and_true, true_and, and_self, decide_true, decide_false, List.length_cons, List.length_nil, List.all_cons, List.all_nil, Bool.and_true, Bool.and_self, List.getElem?_cons_zero, List.getElem?_cons_succ, List.set_cons_zero, List.set_cons_succ, List.nil_append, List.cons_append, List.append_nil, List.map_cons, List.map_nil, not_true_eq_false, not_false_eq_true, false_implies, true_implies, implies_true, List.take_succ_cons, List.take_zero, List.take_nil, List.drop_succ_cons, List.drop_zero, List.drop_nil, Nat.reduceLT, Nat.reduceLeDiff, Nat.reduceEqDiff, Nat.reduceAdd, Nat.reduceSub, Nat.reduceMul, Int.reduceLT, Int.reduceLE, Int.reduceEq, Int.reduceToNat, Int.reduceAdd, Int.reduceSub, Int.reduceNeg, List.reduceReplicate, List.replicate_zero, List.replicate_succ, ne_eq, List.flatMap_cons, List.flatMap_nil, List.length_replicate, List.length_append, Nat.le_refl, Nat.le_add_right, Nat.add_assoc, List.append_assoc, or_true, true_or, or_false, false_or, and_false, false_and, exists_eq_left, exists_eq_left', Option.some.injEq, DV.int.injEq, DV.bool.injEq, DV.sl.injEq, DV.own.injEq, DV.tup.injEq, List.cons.injEq, Ob.arr.injEq, Ob.box.injEq, Option.map_map, Int.toNat_natCast, Int.toNat_zero, Nat.reducePow, Int.toNat_one, Int.reduceMul, Nat.mul_one, Nat.zero_add, Nat.add_zero, Function.comp_apply, List.map_append, List.map_replicate, Int.cast_ofNat_Int, Nat.left_eq_add, Nat.add_eq_left, Nat.add_left_cancel_iff]
    exact ⟨⟨rfl, rfl⟩, rfl⟩
  · intro m i hm hi
    unfold rc_some3O_l0
    simp -implicitDefEqProofs only [T16_b, strRows_length, pieces3_len, bindO_strRows, ↓bindO_iteN, bytesRows_nums, vcA1, vcA2, vcA3, vcA4, vcA5, vcA6, vcA7, ↓vcP1, ↓vcP2, ↓reduceIte, Option.map_some, Option.map_none, Option.bind_some, Option.bind_none, if_true, if_false, reduceCtorEq, beq_true, beq_false, Bool.not_true, Bool.not_false, BEq.rfl, Bool.true_beq, Bool.false_beq, and_true, true_and, and_self, decide_true, decide_false, List.length_cons, List.length_nil, List.all_cons, List.all_nil, Bool.and_true, Bool.and_self, List.getElem?_cons_zero, List.getElem?_cons_succ, List.set_cons_zero, List.set_cons_succ, List.nil_append, List.cons_append, List.append_nil, List.map_cons, List.map_nil, not_true_eq_false, not_false_eq_true, false_implies, true_implies, implies_true, List.take_succ_cons, List.take_zero, List.take_nil, List.drop_succ_cons, List.drop_zero, List.drop_nil, Nat.reduceLT, Nat.reduceLeDiff, Nat.reduceEqDiff, Nat.reduceAdd, Nat.reduceSub, Nat.reduceMul, Int.reduceLT, Int.reduceLE, Int.reduceEq, Int.reduceToNat, Int.reduceAdd, Int.reduceSub, Int.reduceNeg, List.reduceReplicate, List.replicate_zero, List.replicate_succ, ne_eq, List.flatMap_cons, List.flatMap_nil, List.length_replicate, List.length_append, Nat.le_refl, Nat.le_add_right, Nat.add_assoc, List.append_assoc, or_true, true_or, or_false, false_or, and_false, false_and, exists_eq_left, exists_eq_left', Option.some.injEq, DV.int.injEq, DV.bool.injEq, DV.sl.injEq, DV.own.injEq, DV.tup.injEq, List.cons.injEq, Ob.arr.injEq, Ob.box.injEq, Option.map_map, Int.toNat_natCast, Int.toNat_zero, Nat.reducePow, Int.toNat_one, Int.reduceMul, Nat.mul_one, Nat.zero_add, Nat.add_zero, Function.comp_apply, List.map_append, List.map_replicate, Int.cast_ofNat_Int, Nat.left_eq_add, Nat.add_eq_left, Nat.add_left_cancel_iff]
    have hl4 := someF_len (l.take i)
    have htl : (l.take i).length = i := by rw [List.length_take]; omega
    rw [htl] at hl4
    refine ⟨fun h => ?_, fun h => ?_⟩
    · have h0 : i < l.length := by omega
      have hsz : sz_l = 1 := hs_l.resolve_right fun e => by simp [e] at h0
      have hb := getD_lt hk_l h0
      have hgd : l.getD i 0 = l[i] := by rw [List.getD_eq_getElem?_getD, List.getElem?_eq_getElem h0]; rfl
      have e : someF (l.take (i + 1)) = someF (l.take i) ++ nums (pieces3.getD ((l.getD i 0).tmod 17).toNat []) := by
        rw [List.take_succ_eq_append_getElem h0, someF_snoc, hgd]
      rw [wI64 (n := l.getD i 0) (by omega) (by omega)]
      have hm17 : (l.getD i 0).tmod 17 = l.getD i 0 % 17 := Int.tmod_eq_emod_of_nonneg hb.1
      have hpl := piece_len ((l.getD i 0).tmod 17).toNat
      rw [nums_length]
      refine ⟨⟨by omega, h, hsz⟩, h0, ⟨by omega, by omega⟩, by omega, ⟨by omega, by omega⟩, by omega, i + 1, ?_, by omega, by omega⟩
      rw [e]
      exact ⟨⟨by simp [nums_length], by rw [wI64] <;> omega⟩, rfl⟩
    · have h1 : i = l.length := by omega
      subst h1
      rw [List.take_length]
      (repeat' apply And.intro) <;> first | omega | rfl
def F_some3O : List DV → Option FSpec
  | [a_l] => some ⟨isInts .u8 a_l ∧ (intsD a_l).length ≤ 1000000, fun n => (.own n 0 (someF (intsD a_l)).length, [some (.arr 1 (intRows .u8 (someF (intsD a_l))))])⟩
  | _ => none
theorem F_some3O_1 (a_l : DV) : F_some3O [a_l] = some ⟨isInts .u8 a_l ∧ (intsD a_l).length ≤ 1000000, fun n => (.own n 0 (someF (intsD a_l)).length, [some (.arr 1 (intRows .u8 (someF (intsD a_l))))])⟩ := nrfl _
theorem some3O_ok (args : List DV) (s : FSpec) (hs : F_some3O args = some s) (hp : s.pre) : PCalls PG 13 args fun n r os => r = (s.res n).1 ∧ os = (s.res n).2 := by
  unfold F_some3O at hs
  split at hs
  · rename_i a_l
    obtain rfl := Option.some.inj hs
    obtain ⟨hi_l, hp⟩ := hp
    obtain ⟨s0_l, k0_l, h1_l, h2_l, h3_l⟩ := isInts_inv hi_l
    have this := some3O_P (k_l := k0_l) h2_l h3_l hp
    rw [← h1_l] at this
    exact this
  · cases hs

def T17 : List (Nat × (List DV → Option FSpec)) := (14, F_uallO) :: (13, F_some3O) :: T16
theorem T17_ok : FOk PG (tab T17) := FOk.cons (FOk.cons (T16_ok) some3O_ok) uallO_ok
theorem T17_at_uallO (args : List DV) : tab T17 14 args = F_uallO args := nrfl _
theorem T17_at_some3O (args : List DV) : tab T17 13 args = F_some3O args := nrfl _
theorem T17_at_known3 (args : List DV) : tab T17 12 args = F_known3 args := nrfl _
theorem T17_at_srunes (args : List DV) : tab T17 23 args = F_srunes args := nrfl _
theorem T17_at_srune (args : List DV) : tab T17 40 args = F_srune args := nrfl _
theorem T17_at_rall (args : List DV) : tab T17 15 args = F_rall args := nrfl _
theorem T17_at_rform (args : List DV) : tab T17 22 args = F_rform args := nrfl _
theorem T17_at_rstep (args : List DV) : tab T17 18 args = F_rstep args := nrfl _
theorem T17_at_whole (args : List DV) : tab T17 37 args = F_whole args := nrfl _
theorem T17_at_put (args : List DV) : tab T17 21 args = F_put args := nrfl _
theorem T17_at_rbegins (args : List DV) : tab T17 20 args = F_rbegins args := nrfl _
theorem T17_at_appRune (args : List DV) : tab T17 39 args = F_appRune args := nrfl _
theorem T17_at_appNon (args : List DV) : tab T17 50 args = F_appNon args := nrfl _
theorem T17_at_step (args : List DV) : tab T17 17 args = F_step args := nrfl _
theorem T17_at_ubegins (args : List DV) : tab T17 19 args = F_ubegins args := nrfl _
theorem T17_at_decode (args : List DV) : tab T17 36 args = F_decode args := nrfl _
theorem T17_at_full (args : List DV) : tab T17 38 args = F_full args := nrfl _
theorem T17_at_clone (args : List DV) : tab T17 35 args = F_clone args := nrfl _
theorem T17_at_slow (args : List DV) : tab T17 49 args = F_slow args := nrfl _
theorem T17_at_may (args : List DV) : tab T17 24 args = F_may args := nrfl _
theorem T17_at_runes (args : List DV) : tab T17 16 args = F_runes args := nrfl _
theorem T17_b : type_of% (And.intro @T17_at_uallO <| And.intro @F_uallO_1 <| And.intro @T17_at_some3O <| And.intro @F_some3O_1 <| And.intro @T17_at_known3 <| And.intro @F_known3_1 <| And.intro @T17_at_srunes <| And.intro @F_srunes_1 <| And.intro @T17_at_srune <| And.intro @F_srune_1 <| And.intro @T17_at_rall <| And.intro @F_rall_1 <| And.intro @T17_at_rform <| And.intro @F_rform_1 <| And.intro @T17_at_rstep <| And.intro @F_rstep_1 <| And.intro @T17_at_whole <| And.intro @F_whole_1 <| And.intro @T17_at_put <| And.intro @F_put_1 <| And.intro @T17_at_rbegins <| And.intro @F_rbegins_1 <| And.intro @T17_at_appRune <| And.intro @F_appRune_1 <| And.intro @T17_at_appNon <| And.intro @F_appNon_1 <| And.intro @T17_at_step <| And.intro @F_step_1 <| And.intro @T17_at_ubegins <| And.intro @F_ubegins_1 <| And.intro @T17_at_decode <| And.intro @F_decode_1 <| And.intro @T17_at_full <| And.intro @F_full_1 <| And.intro @T17_at_clone <| And.intro @F_clone_nil <| And.intro @F_clone_non <| And.intro @T17_at_slow <| And.intro @F_slow_1 <| And.intro @T17_at_may <| And.intro @F_may_1 <| And.intro @T17_at_runes <| @F_runes_1) := And.intro @T17_at_uallO <| And.intro @F_uallO_1 <| And.intro @T17_at_some3O <| And.intro @F_some3O_1 <| And.intro @T17_at_known3 <| And.intro @F_known3_1 <| And.intro @T17_at_srunes <| And.intro @F_srunes_1 <| And.intro @T17_at_srune <| And.intro @F_srune_1 <| And.intro @T17_at_rall <| And.intro @F_rall_1 <| And.intro @T17_at_rform <| And.intro @F_rform_1 <| And.intro @T17_at_rstep <| And.intro @F_rstep_1 <| And.intro @T17_at_whole <| And.intro @F_whole_1 <| And.intro @T17_at_put <| And.intro @F_put_1 <| And.intro @T17_at_rbegins <| And.intro @F_rbegins_1 <| And.intro @T17_at_appRune <| And.intro @F_appRune_1 <| And.intro @T17_at_appNon <| And.intro @F_appNon_1 <| And.intro @T17_at_step <| And.intro @F_step_1 <| And.intro @T17_at_ubegins <| And.intro @F_ubegins_1 <| And.intro @T17_at_decode <| And.intro @F_decode_1 <| And.intro @T17_at_full <| And.intro @F_full_1 <| And.intro @T17_at_clone <| And.intro @F_clone_nil <| And.intro @F_clone_non <| And.intro @T17_at_slow <| And.intro @F_slow_1 <| And.intro @T17_at_may <| And.intro @F_may_1 <| And.intro @T17_at_runes <| @F_runes_1

theorem ustep_pend {p : List Int} {b : Int} (hb : 0 ≤ b ∧ b ≤ 255) : (ustep p b).1 = [] ∨ ubeg (ustep p b).1 = true := by
  have h1 : (one b).1 = [] ∨ ubeg (one b).1 = true := by
    unfold one
    split
    · exact .inl rfl
    · split
      · rename_i h; right; show ubeg [b] = true; rw [ubeg1 hb]; simpa using h
      · exact .inl rfl
  rw [ustep_eq hb]
  split
  · exact h1
  · split
    · exact .inl rfl
    · split
      · rename_i h; exact .inr h
      · exact h1
theorem uallF_pend {l : List Int} (h : inK .u8 l) : ∀ i, i ≤ l.length → (uallF (l.take i)).2 = [] ∨ ubeg (uallF (l.take i)).2 = true
  | 0, _ => .inl rfl
  | i + 1, hi => by
    rw [List.take_succ_eq_append_getElem (by omega), uallF_snoc]
    exact ustep_pend (h.u8 (List.getElem_mem (by omega)))
theorem utfParts_true (dv : List DV) (h : ConfL [(false, [.sl [.int .u8]]), (false, [.sl [.int .u8]]), (false, [.int .u16])] dv) : PCalls PG 6 dv fun _ r _ => r = .bool true := by
  obtain ⟨a0, r, rfl, h0, h⟩ := h.cons
  obtain ⟨b0, r, rfl, h1, h⟩ := h.cons
  obtain ⟨c0, r, rfl, h2, h⟩ := h.cons
  obtain rfl := h.nil
  obtain ⟨raw, rfl, hraw⟩ := confA_ints h0
  obtain ⟨l, rfl, hl⟩ := confA_ints h1
  obtain ⟨cut, rfl, hcut⟩ := confA_int h2
  clear h h0 h1 h2
  refine (PCalls.by_fn (res := fun n => (.bool true, [])) T17_ok rc_utfParts_ok (by simp [rc_utfParts]) fun n => ?_).mono fun _ _ _ h => h.1
  unfold rc_utfParts
  dsimp only
  simp -implicitDefEqProofs only [T17_b, ↓bindO_iteN, vcA1, vcA2, vcA3, vcA4, vcA5, vcA6, vcA7, ↓vcP1, ↓vcP2, ↓reduceIte, Option.map_some, Option.map_none, Option.bind_some, Option.bind_none, if_true, if_false, reduceCtorEq, beq_true, beq_false, Bool.not_true, Bool.not_false, BEq.rfl, Bool.true_beq, Bool.false_beq, and_true, true_and, and_self, decide_true, decide_false, List.length_cons, List.length_nil, List.all_cons, List.all_nil, Bool.and_true, Bool.and_self, List.getElem?_cons_zero, List.getElem?_cons_succ, List.set_cons_zero, List.set_cons_succ, List.nil_append, List.cons_append, List.append_nil, List.map_cons, List.map_nil, not_true_eq_false, not_false_eq_true, false_implies, true_implies, implies_true, List.take_succ_cons, List.take_zero, List.take_nil, List.drop_succ_cons, List.drop_zero, List.drop_nil, Nat.reduceLT, Nat.reduceLeDiff, Nat.reduceEqDiff, Nat.reduceAdd, Nat.reduceSub, Nat.reduceMul, Int.reduceLT, Int.reduceLE, Int.reduceEq, Int.reduceToNat, Int.reduceAdd, Int.reduceSub, Int.reduceNeg, List.reduceReplicate, List.replicate_zero, List.replicate_succ, ne_eq, List.flatMap_cons, List.flatMap_nil, List.length_replicate, List.length_append, Nat.le_refl, Nat.le_add_right, Nat.add_assoc, List.append_assoc, or_true, true_or, or_false, false_or, and_false, false_and, exists_eq_left, exists_eq_left', Option.some.injEq, DV.int.injEq, DV.bool.injEq, DV.sl.injEq, DV.own.injEq, DV.tup.injEq, List.cons.injEq, Ob.arr.injEq, Ob.box.injEq, Option.map_map, Int.toNat_natCast, Int.toNat_zero, Nat.reducePow, Int.toNat_one, Int.reduceMul, Nat.mul_one, Nat.zero_add, Nat.add_zero, Function.comp_apply, List.map_append, List.map_replicate, Int.cast_ofNat_Int, Nat.left_eq_add, Nat.add_eq_left, Nat.add_left_cancel_iff]
  refine fun g1 g2 => ?_
  have hl1 : inK .u8 l := inK_of hl (by omega)
  have hr1 : inK .u8 raw := inK_of hraw (by omega)
  have hs1 : inK .u8 (someF l) := someF_in l (by omega)
  have hs2 := someF_len l
  have ht : List.take ((someF l).length + raw.length) (someF l ++ raw) = someF l ++ raw := List.take_of_length_le (by simp)
  rw [ht]
  have hb1 : inK .u8 (someF l ++ raw) := hs1.append hr1 (by omega)
  have hb2 : (someF l ++ raw).length ≤ 200 := by rw [List.length_append]; omega
  refine ⟨⟨hl1, by omega⟩, ⟨by omega, by omega⟩, ?_⟩
  generalize someF l ++ raw = b at hb1 hb2 ⊢
  have hcut2 : 0 ≤ cut ∧ cut ≤ 65535 := hcut
  have hw1 : IntKind.i64.wrap cut = cut := wI64 (by omega) (by omega)
  have hw2 : IntKind.i64.wrap ((b.length : Int) + 1) = (b.length : Int) + 1 := wI64 (by omega) (by omega)
  have hm0 : cut.tmod ((b.length : Int) + 1) = cut % ((b.length : Int) + 1) := Int.tmod_eq_emod_of_nonneg hcut2.1
  obtain ⟨k, hk, hk2⟩ : ∃ k : Nat, cut % ((b.length : Int) + 1) = k ∧ k ≤ b.length := by
    have h1 := Int.emod_nonneg cut (show ((b.length : Int) + 1) ≠ 0 by omega)
    have h2 := Int.emod_lt_of_pos cut (show 0 < ((b.length : Int) + 1) by omega)
    exact ⟨(cut % ((b.length : Int) + 1)).toNat, by omega, by omega⟩
  simp only [hw1, hw2, hm0, hk, Int.toNat_natCast, Nat.sub_zero]
  have hbk : inK .u8 (b.take k) := hb1.take k
  refine ⟨by omega, ⟨hb1, by omega⟩, by omega, ⟨by omega, hk2⟩, ⟨hbk, by rw [List.length_take]; omega⟩, ?_⟩
  refine LoopWp.invR T17_ok (S := fun m (i : Nat) => ⟨[(7, .sl 1 (intRows .u8 b) .any), (9, .sl 1 (intRows .i32 (uallF b).1) .any), (10, .sl 1 (intRows .u8 (uallF b).2) .any), (11, .own m 0 (uallF (b.take i)).1.length),
      (12, .sl 1 (intRows .u8 (uallF (b.take i)).2) .any), (13, .int .i64 i)], List.replicate m none ++ [some (.arr 1 (intRows .i32 (uallF (b.take i)).1))]⟩) (I := fun i => k ≤ i ∧ i ≤ b.length) (μ := fun i => b.length - i) n k ⟨by omega, hk2⟩ ?_ ?_
  · simp -implicitDefEqProofs only [vcA1, vcA2, vcA3, vcA4, vcA5, vcA6, vcA7, ↓vcP1, ↓vcP2, ↓reduceIte, Option.map_some, Option.map_none, Option.bind_some, Option.bind_none, if_true, if_false, reduceCtorEq, beq_true, beq_false, Bool.not_true, Bool.not_false, BEq.rfl, Bool.true_beq, Bool.false_beq, and_true, true_and, and_self, decide_true, decide_false, List.length_cons, List.length_nil, List.all_cons, List.all_nil, Bool.and_true, Bool.and_self, List.getElem?_cons_zero, List.getElem?_cons_succ, List.set_cons_zero, List.set_cons_succ, List.nil_append, List.cons_append, List.append_nil, List.map_cons, List.map_nil, not_true_eq_false, not_false_eq_true, false_implies, true_implies, implies_true, List.take_succ_cons, List.take_zero, List.take_nil, List.drop_succ_cons, List.drop_zero, List.drop_nil, Nat.reduceLT, Nat.reduceLeDiff, Nat.reduceEqDiff, Nat.reduceAdd, Nat.reduceSub, Nat.reduceMul, Int.reduceLT, Int.reduceLE, Int.reduceEq, Int.reduceToNat, Int.reduceAdd, Int.reduceSub, Int.reduceNeg, List.reduceReplicate, List.replicate_zero, List.replicate_succ, ne_eq, List.flatMap_cons, List.flatMap_nil, List.length_replicate, List.length_append, Nat.le_refl, Nat.le_add_right, Nat.add_assoc, List.append_assoc, or_true, true_or, or_false, false_or, and_false, false_and, exists_eq_left, exists_eq_left', Option.some.injEq, DV.int.injEq, DV.bool.injEq, DV.sl.injEq, DV.own.injEq, DV.tup.injEq, List.cons.injEq, Ob.arr.injEq, Ob.box.injEq, Option.map_map, Int.toNat_natCast, Int.toNat_zero, Nat.reducePow, Int.toNat_one, Int.reduceMul, Nat.mul_one, Nat.zero_add, Nat.add_zero, Function.comp_apply, List.map_append, List.map_replicate, Int.cast_ofNat_Int, Nat.left_eq_add, Nat.add_eq_left, Nat.add_left_cancel_iff]
    rw [List.take_length]
  · intro m i hm ⟨i1, i2⟩
    unfold rc_utfParts_l0
    simp -implicitDefEqProofs only [T17_b, ints_intRows, vcA1, vcA2, vcA3, vcA4, vcA5, vcA6, vcA7, ↓vcP1, ↓vcP2, ↓reduceIte, Option.map_some, Option.map_none, Option.bind_some, Option.bind_none, if_true, if_false, reduceCtorEq, beq_true, beq_false, Bool.not_true, Bool.not_false, BEq.rfl, Bool.true_beq, Bool.false_beq, and_true, true_and, and_self, decide_true, decide_false, List.length_cons, List.length_nil, List.all_cons, List.all_nil, Bool.and_true, Bool.and_self, List.getElem?_cons_zero, List.getElem?_cons_succ, List.set_cons_zero, List.set_cons_succ, List.nil_append, List.cons_append, List.append_nil, List.map_cons, List.map_nil, not_true_eq_false, not_false_eq_true, false_implies, true_implies, implies_true, List.take_succ_cons, List.take_zero, List.take_nil, List.drop_succ_cons, List.drop_zero, List.drop_nil, Nat.reduceLT, Nat.reduceLeDiff, Nat.reduceEqDiff, Nat.reduceAdd, Nat.reduceSub, Nat.reduceMul, Int.reduceLT, Int.reduceLE, Int.reduceEq, Int.reduceToNat, Int.reduceAdd, Int.reduceSub, Int.reduceNeg, List.reduceReplicate, List.replicate_zero, List.replicate_succ, ne_eq, List.flatMap_cons, List.flatMap_nil, List.length_replicate, List.length_append, Nat.le_refl, Nat.le_add_right, Nat.add_assoc, List.append_assoc, or_true, true_or, or_false, false_or, and_false, false_and, exists_eq_left, exists_eq_left', Option.some.injEq, DV.int.injEq, DV.bool.injEq, DV.sl.injEq, DV.own.injEq, DV.tup.injEq, List.cons.injEq, Ob.arr.injEq, Ob.box.injEq, Option.map_map, Int.toNat_natCast, Int.toNat_zero, Nat.reducePow, Int.toNat_one, Int.reduceMul, Nat.mul_one, Nat.zero_add, Nat.add_zero, Function.comp_apply, List.map_append, List.map_replicate, Int.cast_ofNat_Int, Nat.left_eq_add, Nat.add_eq_left, Nat.add_left_cancel_iff]
    obtain ⟨q1, q2, q3⟩ := uallF_take hb1 i i2
    refine ⟨fun h => ?_, fun h => ?_⟩
    · have h0 : i < b.length := by omega
      have hb := getD_lt hb1 h0
      have h2 := ustep_len (uallF (b.take i)).2 (b.getD i 0)
      have hgd : b.getD i 0 = b[i] := by rw [List.getD_eq_getElem?_getD, List.getElem?_eq_getElem h0]; rfl
      have e : uallF (b.take (i + 1)) = ((uallF (b.take i)).1 ++ (ustep (uallF (b.take i)).2 (b.getD i 0)).2, (ustep (uallF (b.take i)).2 (b.getD i 0)).1) := by
        rw [List.take_succ_eq_append_getElem h0, uallF_snoc, hgd]
      refine ⟨⟨by omega, h⟩, h0, ⟨q1, by omega, hb⟩, ⟨by omega, by omega⟩, by omega, i + 1, ?_, ⟨by omega, by omega⟩, by omega⟩
      rw [e]
      exact ⟨⟨by simp, rfl, by rw [wI64] <;> omega⟩, rfl⟩
    · have h1 : i = b.length := by omega
      subst h1
      have hp := uallF_pend hb1 b.length (Nat.le_refl _)
      have hu := uallF_in hb1 (by omega)
      simp only [List.take_length] at q1 hp ⊢
      rw [b2n rfl, cnd_true]
      refine ⟨⟨hu, hu⟩, fun _ => ⟨fun _ => by omega, fun h3 => ⟨q1, by omega, ?_⟩⟩, fun h => h trivial⟩
      rcases hp with h4 | h4
      · rw [h4] at h3; exact absurd rfl h3
      · exact h4
end Go.Proofs.YteemmpghpdaloaaDoor
