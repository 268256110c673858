/- VtEnds is true. -/
import Derived.Test.YteemmpghpdaloaaDoorM7
set_option linter.unusedVariables false
set_option linter.unusedSimpArgs false
set_option maxRecDepth 10000
namespace Go.Proofs.YteemmpghpdaloaaDoor
open Go.RowKit

noncomputable def rc_vtEnds : RFn := ⟨3, 78, (.seq (.reg [⟨(some 6), (.mov (.c (.bool false))), none, false⟩] 0 [0, 1, 2]) (.seq (.seq (.reg [⟨(some 11), (.call 25 []), none, false⟩, ⟨(some 12), (.un .not (.t 11)), none, false⟩] 0 [0, 1, 2, 12]) (.cond (.t 12) (.seq (.reg [⟨(some 6), (.mov (.c (.bool false))), none, false⟩] 0 [6]) .ret) .skip)) (.seq (.seq (.reg [⟨(some 13), (.mov (.t 0)), none, false⟩, ⟨(some 14), (.len (.t 13)), none, false⟩, ⟨(some 15), (.bin .gtr (.t 14) (.c (.int .i64 60))), none, false⟩, ⟨(some 16), (.mov (.t 15)), none, false⟩, ⟨(some 17), (.mov (.t 2)), (some (16, false)), false⟩, ⟨(some 18), (.len (.t 17)), (some (16, false)), false⟩, ⟨(some 19), (.bin .gtr (.t 18) (.c (.int .i64 30))), (some (16, false)), false⟩, ⟨(some 20), (.pick (.t 16) (.c (.bool true)) (.t 19)), none, false⟩] 0 [0, 1, 2, 20]) (.cond (.t 20) (.seq (.reg [⟨(some 6), (.mov (.c (.bool true))), none, false⟩] 0 [6]) .ret) .skip)) (.seq (.reg [⟨(some 22), (.mov (.t 1)), none, false⟩, ⟨(some 23), (.mov (.t 2)), none, false⟩, ⟨(some 24), (.call 28 [(.t 22), (.t 23)]), none, false⟩, ⟨(some 25), (.mov (.t 0)), none, false⟩, ⟨(some 26), (.call 34 [(.t 24), (.t 25)]), none, false⟩, ⟨(some 21), (.mov (.t 26)), none, false⟩, ⟨(some 27), (.ext (.t 21) 0), none, false⟩, ⟨(some 28), (.ext (.t 21) 1), none, false⟩, ⟨(some 7), (.alloc [(.int .i64 0), (.int .u8 0), (.sl 0 [] .nil), (.sl 0 [] .nil), (.sl 0 [] .nil)]), none, false⟩, ⟨none, (.store 5 (.t 7) (.t 27)), none, false⟩, ⟨(some 8), (.mov (.t 28)), none, false⟩] 0 [7]) (.seq (.reg [⟨(some 30), (.load true 5 (.t 7)), none, false⟩, ⟨(some 31), (.mkrow 1 [(.int .u8 0)] 3 [(0, (.c (.int .u8 24))), (1, (.c (.int .u8 111))), (2, (.c (.int .u8 107)))]), none, false⟩, ⟨(some 32), (.conv .lit (.t 31)), none, true⟩, ⟨(some 33), (.call 34 [(.t 30), (.t 32)]), none, false⟩, ⟨(some 29), (.mov (.t 33)), none, false⟩, ⟨(some 34), (.ext (.t 29) 0), none, false⟩, ⟨(some 35), (.ext (.t 29) 1), none, false⟩, ⟨(some 9), (.alloc [(.int .i64 0), (.int .u8 0), (.sl 0 [] .nil), (.sl 0 [] .nil), (.sl 0 [] .nil)]), none, false⟩, ⟨none, (.store 5 (.t 9) (.t 34)), none, false⟩, ⟨(some 10), (.mov (.t 35)), none, false⟩] 0 [9, 10]) (.seq (.seq (.reg [⟨(some 36), (.faddr 0 (.t 9)), none, false⟩, ⟨(some 37), (.load false 1 (.t 36)), none, false⟩, ⟨(some 38), (.bin .neq (.t 37) (.c (.int .i64 0))), none, false⟩, ⟨(some 39), (.mov (.t 38)), none, false⟩, ⟨(some 40), (.faddr 4 (.t 9)), (some (39, false)), false⟩, ⟨(some 41), (.load false 1 (.t 40)), (some (39, false)), false⟩, ⟨(some 42), (.len (.t 41)), (some (39, false)), false⟩, ⟨(some 43), (.bin .gtr (.t 42) (.c (.int .i64 0))), (some (39, false)), false⟩, ⟨(some 44), (.pick (.t 39) (.c (.bool true)) (.t 43)), none, false⟩, ⟨(some 45), (.mov (.t 44)), none, false⟩, ⟨(some 46), (.mov (.t 10)), (some (45, false)), false⟩, ⟨(some 47), (.len (.t 46)), (some (45, false)), false⟩, ⟨(some 48), (.bin .lss (.t 47) (.c (.int .i64 2))), (some (45, false)), false⟩, ⟨(some 49), (.pick (.t 45) (.c (.bool true)) (.t 48)), none, false⟩] 0 [10, 49]) (.cond (.t 49) (.seq (.reg [⟨(some 6), (.mov (.c (.bool false))), none, false⟩] 0 [6]) .ret) .skip)) (.seq (.reg [⟨(some 50), (.mov (.t 10)), none, false⟩, ⟨(some 51), (.mov (.t 10)), none, false⟩, ⟨(some 52), (.len (.t 51)), none, false⟩, ⟨(some 53), (.bin .sub (.t 52) (.c (.int .i64 2))), none, false⟩, ⟨(some 54), (.iaddr 6 (.t 50) (.t 53)), none, false⟩, ⟨(some 55), (.faddr 0 (.t 54)), none, false⟩, ⟨(some 56), (.load false 1 (.t 55)), none, false⟩, ⟨(some 57), (.bin .eql (.t 56) (.c (.int .i64 0))), none, false⟩, ⟨(some 58), (.mov (.t 57)), none, false⟩, ⟨(some 59), (.mov (.t 10)), (some (58, true)), false⟩, ⟨(some 60), (.mov (.t 10)), (some (58, true)), false⟩, ⟨(some 61), (.len (.t 60)), (some (58, true)), false⟩, ⟨(some 62), (.bin .sub (.t 61) (.c (.int .i64 2))), (some (58, true)), false⟩, ⟨(some 63), (.iaddr 6 (.t 59) (.t 62)), (some (58, true)), false⟩, ⟨(some 64), (.faddr 1 (.t 63)), (some (58, true)), false⟩, ⟨(some 65), (.load false 1 (.t 64)), (some (58, true)), false⟩, ⟨(some 66), (.bin .eql (.t 65) (.c (.int .i32 111))), (some (58, true)), false⟩, ⟨(some 67), (.pick (.t 58) (.t 66) (.c (.bool false))), none, false⟩, ⟨(some 68), (.mov (.t 67)), none, false⟩, ⟨(some 69), (.mov (.t 10)), (some (68, true)), false⟩, ⟨(some 70), (.mov (.t 10)), (some (68, true)), false⟩, ⟨(some 71), (.len (.t 70)), (some (68, true)), false⟩, ⟨(some 72), (.bin .sub (.t 71) (.c (.int .i64 1))), (some (68, true)), false⟩, ⟨(some 73), (.iaddr 6 (.t 69) (.t 72)), (some (68, true)), false⟩, ⟨(some 74), (.faddr 1 (.t 73)), (some (68, true)), false⟩, ⟨(some 75), (.load false 1 (.t 74)), (some (68, true)), false⟩, ⟨(some 76), (.bin .eql (.t 75) (.c (.int .i32 107))), (some (68, true)), false⟩, ⟨(some 77), (.pick (.t 68) (.t 76) (.c (.bool false))), none, false⟩, ⟨(some 6), (.mov (.t 77)), none, false⟩] 0 [6]) .ret))))))), [(.t 6)]⟩
theorem rc_vtEnds_ok : compFn PG.P [⟨0, 0, [0, 1, 2], []⟩, ⟨1, 0, [0, 1, 2, 12], []⟩, ⟨2, 0, [6], []⟩, ⟨3, 0, [0, 1, 2, 20], []⟩, ⟨4, 0, [6], []⟩, ⟨5, 0, [7], []⟩, ⟨6, 0, [9, 10], [32]⟩, ⟨7, 0, [10, 49], []⟩, ⟨8, 0, [6], []⟩, ⟨9, 0, [6], []⟩] 9 = some rc_vtEnds := by kernel_rfl
theorem ends_t {p : Pa} (h : vcut p 24 = true) : paR (vallF p [] [24, 111, 107]) = .tup [.agg [.int .i64 0, .int .u8 0, .sl 1 [] .any, .sl 1 [] .any, .sl 1 [] .any],
    .sl 6 [[.int .i64 0, .int .i32 65533, .int .u8 0, .int .u8 0, .sl 0 [] .nil, .sl 0 [] .nil], [.int .i64 0, .int .i32 111, .int .u8 0, .int .u8 0, .sl 0 [] .nil, .sl 0 [] .nil], [.int .i64 0, .int .i32 107, .int .u8 0, .int .u8 0, .sl 0 [] .nil, .sl 0 [] .nil]] .any] := by
  have e : vstepF p 24 = (pa0 0, [⟨0, 65533, 0, 0, none, none⟩]) := by unfold vstepF; rw [h, if_pos rfl]; rfl
  simp only [vallF, e]
  rfl
theorem ends_f {p : Pa} (h : vcut p 24 = false) : paR (vallF p [] [24, 111, 107]) = .tup [.agg [.int .i64 0, .int .u8 0, .sl 1 [] .any, .sl 1 [] .any, .sl 1 [] .any],
    .sl 6 [[.int .i64 0, .int .i32 111, .int .u8 0, .int .u8 0, .sl 0 [] .nil, .sl 0 [] .nil], [.int .i64 0, .int .i32 107, .int .u8 0, .int .u8 0, .sl 0 [] .nil, .sl 0 [] .nil]] .any] := by
  have e : vstepF p 24 = (pa0 0, []) := by unfold vstepF; rw [h, if_neg (by decide)]; rfl
  simp only [vallF, e]
  rfl
theorem i64w2 : IntKind.i64.wrap 2 = 2 := by decide
set_option maxHeartbeats 4000000 in
theorem vtEnds_true (dv : List DV) (h : ConfL [(false, [.sl [.int .u8]]), (false, [.int .u8]), (false, [.sl [.int .i64]])] dv) : PCalls PG 9 dv fun _ r _ => r = .bool true := by
  obtain ⟨d0, r0, rfl, c0, h⟩ := h.cons
  obtain ⟨d1, r1, rfl, c1, h⟩ := h.cons
  obtain ⟨d2, r2, rfl, c2, h⟩ := h.cons
  obtain rfl := h.nil
  obtain ⟨l, rfl, hl⟩ := confA_ints c0
  obtain ⟨k, rfl, hk⟩ := confA_int c1
  obtain ⟨m, rfl, hm⟩ := confA_ints c2
  refine PCalls.mono (R := fun n r os => r = .bool true ∧ os = []) ?_ fun n r os h => h.1
  refine PCalls.by_fn (res := fun n => (.bool true, [])) T38_ok rc_vtEnds_ok (by simp [rc_vtEnds]) fun n => ?_
  unfold rc_vtEnds
  dsimp only
  have q1 := paR_eq (vallF ⟨(someP k m).m, (someP k m).pr, (someP k m).P, (someP k m).I, (someP k m).U⟩ [] l)
  generalize hX : vallF ⟨(someP k m).m, (someP k m).pr, (someP k m).P, (someP k m).I, (someP k m).U⟩ [] l = X at q1
  rw [← hX] at q1
  cases hv : vcut ⟨X.1.m, X.1.pr, X.1.P, X.1.I, X.1.U⟩ 24
  · have e := ends_f hv
    rw [← hX] at e
    simp -implicitDefEqProofs only [T38_l, paD_eq, q1, e, i64w0, i64w1, i64w2, isInts_sl, isInts_nil, intsD_nil, intsD_sl, ints_intRows, ints_nil, ↓bindO_iteN, vcB1, vcB2, vcB3, vcA1, vcA2, vcA3, vcA4, vcA5, vcA6, vcA7, ↓vcP1, ↓vcP2, ↓reduceIte, Option.map_some, Option.map_none, Option.bind_some, Option.bind_none, if_true, if_false, reduceCtorEq, beq_true, beq_false, Bool.not_true, Bool.not_false, BEq.rfl, Bool.true_beq, Bool.false_beq, and_true, true_and, and_self, decide_true, decide_false, List.length_cons, List.length_nil, List.all_cons, List.all_nil, Bool.and_true, Bool.and_self, List.getElem?_cons_zero, List.getElem?_cons_succ, List.set_cons_zero, List.set_cons_succ, List.nil_append, List.cons_append, List.append_nil, List.map_cons, List.map_nil, not_true_eq_false, not_false_eq_true, false_implies, true_implies, implies_true, List.take_succ_cons, List.take_zero, List.take_nil, List.drop_succ_cons, List.drop_zero, List.drop_nil, Nat.reduceLT, Nat.reduceLeDiff, Nat.reduceEqDiff, Nat.reduceAdd, Nat.reduceSub, Nat.reduceMul, Int.reduceLT, Int.reduceLE, Int.reduceEq, Int.reduceToNat, Int.reduceAdd, Int.reduceSub, Int.reduceNeg, List.reduceReplicate, List.replicate_zero, List.replicate_succ, ne_eq, List.flatMap_cons, List.flatMap_nil, List.length_replicate, List.length_append, Nat.le_refl, Nat.le_add_right, Nat.add_assoc, List.append_assoc, or_true, true_or, or_false, false_or, and_false, false_and, exists_eq_left, exists_eq_left', Option.some.injEq, DV.int.injEq, DV.bool.injEq, DV.sl.injEq, DV.own.injEq, DV.tup.injEq, List.cons.injEq, Ob.arr.injEq, Ob.box.injEq, Option.map_map, Int.toNat_natCast, Int.toNat_zero, Nat.reducePow, Int.toNat_one, Int.reduceMul, Nat.mul_one, Nat.zero_add, Nat.add_zero, Function.comp_apply, List.map_append, List.map_replicate, Int.cast_ofNat_Int, Nat.left_eq_add, Nat.add_eq_left, Nat.add_left_cancel_iff]
    intro h1 h2
    have hk' : 0 ≤ k ∧ k ≤ 255 := by rw [u8mm.1, u8mm.2] at hk; exact hk
    have hsp := someP_ok m hk'
    have hin : inK .u8 l := inK_of hl (by omega)
    have him : inK .i64 m := inK_of hm (by omega)
    have hXo := vall_ok l _ [] hsp hin
    obtain ⟨a1, a2, a3, a4, a5, a6⟩ := paOk_in hsp
    obtain ⟨b1, b2, b3, b4, b5, b6⟩ := paOk_in hXo
    exact ⟨⟨hk', him, by omega⟩, ⟨a1, a2, a3, hsp, hin, by omega⟩, b1, b2, b3, hXo, by simp, by decide⟩
  · have e := ends_t hv
    rw [← hX] at e
    simp -implicitDefEqProofs only [T38_l, paD_eq, q1, e, i64w0, i64w1, i64w2, isInts_sl, isInts_nil, intsD_nil, intsD_sl, ints_intRows, ints_nil, ↓bindO_iteN, vcB1, vcB2, vcB3, vcA1, vcA2, vcA3, vcA4, vcA5, vcA6, vcA7, ↓vcP1, ↓vcP2, ↓reduceIte, Option.map_some, Option.map_none, Option.bind_some, Option.bind_none, if_true, if_false, reduceCtorEq, beq_true, beq_false, Bool.not_true, Bool.not_false, BEq.rfl, Bool.true_beq, Bool.false_beq, and_true, true_and, and_self, decide_true, decide_false, List.length_cons, List.length_nil, List.all_cons, List.all_nil, Bool.and_true, Bool.and_self, List.getElem?_cons_zero, List.getElem?_cons_succ, List.set_cons_zero, List.set_cons_succ, List.nil_append, List.cons_append, List.append_nil, List.map_cons, List.map_nil, not_true_eq_false, not_false_eq_true, false_implies, true_implies, implies_true, List.take_succ_cons, List.take_zero, List.take_nil, List.drop_succ_cons, List.drop_zero, List.drop_nil, Nat.reduceLT, Nat.reduceLeDiff, Nat.reduceEqDiff, Nat.reduceAdd, Nat.reduceSub, Nat.reduceMul, Int.reduceLT, Int.reduceLE, Int.reduceEq, Int.reduceToNat, Int.reduceAdd, Int.reduceSub, Int.reduceNeg, List.reduceReplicate, List.replicate_zero, List.replicate_succ, ne_eq, List.flatMap_cons, List.flatMap_nil, List.length_replicate, List.length_append, Nat.le_refl, Nat.le_add_right, Nat.add_assoc, List.append_assoc, or_true, true_or, or_false, false_or, and_false, false_and, exists_eq_left, exists_eq_left', Option.some.injEq, DV.int.injEq, DV.bool.injEq, DV.sl.injEq, DV.own.injEq, DV.tup.injEq, List.cons.injEq, Ob.arr.injEq, Ob.box.injEq, Option.map_map, Int.toNat_natCast, Int.toNat_zero, Nat.reducePow, Int.toNat_one, Int.reduceMul, Nat.mul_one, Nat.zero_add, Nat.add_zero, Function.comp_apply, List.map_append, List.map_replicate, Int.cast_ofNat_Int, Nat.left_eq_add, Nat.add_eq_left, Nat.add_left_cancel_iff]
    intro h1 h2
    have hk' : 0 ≤ k ∧ k ≤ 255 := by rw [u8mm.1, u8mm.2] at hk; exact hk
    have hsp := someP_ok m hk'
    have hin : inK .u8 l := inK_of hl (by omega)
    have him : inK .i64 m := inK_of hm (by omega)
    have hXo := vall_ok l _ [] hsp hin
    obtain ⟨a1, a2, a3, a4, a5, a6⟩ := paOk_in hsp
    obtain ⟨b1, b2, b3, b4, b5, b6⟩ := paOk_in hXo
    exact ⟨⟨hk', him, by omega⟩, ⟨a1, a2, a3, hsp, hin, by omega⟩, b1, b2, b3, hXo, by simp, by decide⟩
end Go.Proofs.YteemmpghpdaloaaDoor
