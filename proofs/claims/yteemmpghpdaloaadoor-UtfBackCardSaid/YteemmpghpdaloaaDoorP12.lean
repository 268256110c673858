/- The document's 'All'; the statements' helps. -/
import Derived.Test.YteemmpghpdaloaaDoorP11
set_option linter.unusedVariables false
set_option linter.unusedSimpArgs false
set_option maxRecDepth 10000
namespace Go.Proofs.YteemmpghpdaloaaDoor
open Go.RowKit

noncomputable def rc_some3_l0 : RC := (.seq (.seq (.reg [⟨(some 7), (.mov (.t 5)), none, false⟩, ⟨(some 8), (.mov (.t 0)), none, false⟩, ⟨(some 9), (.len (.t 8)), none, false⟩, ⟨(some 10), (.bin .lss (.t 7) (.t 9)), none, false⟩] 0 [0, 3, 4, 5, 10]) (.cond (.t 10) .skip (.ext 0))) (.seq (.blk 1 (.reg [⟨(some 13), (.mov (.t 4)), none, false⟩, ⟨(some 14), (.mov (.t 3)), none, false⟩, ⟨(some 15), (.mov (.t 0)), none, false⟩, ⟨(some 16), (.mov (.t 5)), none, false⟩, ⟨(some 17), (.iaddr 1 (.t 15) (.t 16)), none, false⟩, ⟨(some 18), (.load false 1 (.t 17)), none, false⟩, ⟨(some 19), (.conv (.i2i .i64) (.t 18)), none, false⟩, ⟨(some 20), (.mov (.t 3)), none, false⟩, ⟨(some 21), (.len (.t 20)), none, false⟩, ⟨(some 22), (.bin .rem (.t 19) (.t 21)), none, false⟩, ⟨(some 23), (.iaddr 1 (.t 14) (.t 22)), none, false⟩, ⟨(some 24), (.load false 1 (.t 23)), none, false⟩, ⟨(some 25), (.append 1 1 (.t 13) (.t 24)), none, false⟩, ⟨(some 4), (.mov (.t 25)), none, false⟩] 0 [0, 3, 4, 5])) (.reg [⟨(some 11), (.mov (.t 5)), none, false⟩, ⟨(some 12), (.bin .add (.t 11) (.c (.int .i64 1))), none, false⟩, ⟨(some 5), (.mov (.t 12)), none, false⟩] 0 [0, 3, 4, 5])))
noncomputable def rc_some3 : RFn := ⟨1, 27, (.seq (.reg [⟨(some 2), (.mov (.c (.sl 0 [] .nil))), none, false⟩] 0 [0]) (.seq (.reg [⟨(some 6), (.mkrow 1 [(.str [])] 17 [(0, (.c (.str [(97)]))), (1, (.c (.str [(195), (169)]))), (2, (.c (.str [(230), (188), (162)]))), (3, (.c (.str [(240), (159), (152), (128)]))), (4, (.c (.str [(255)]))), (5, (.c (.str [(195)]))), (6, (.c (.str [(230)]))), (7, (.c (.str [(230), (188)]))), (8, (.c (.str [(240), (159)]))), (9, (.c (.str [(237), (160), (128)]))), (10, (.c (.str [(192), (128)]))), (11, (.c (.str [(244), (144)]))), (12, (.c (.str [(128)]))), (13, (.c (.str [(224), (159)]))), (14, (.c (.str [(240), (143)]))), (15, (.c (.str [(239), (191), (189)]))), (16, (.c (.str [(245)])))]), none, false⟩, ⟨(some 3), (.mov (.t 6)), none, true⟩] 0 [0, 3]) (.seq (.reg [⟨(some 4), (.mov (.c (.sl 0 [] .nil))), none, false⟩] 0 [0, 3, 4]) (.seq (.seq (.reg [⟨(some 5), (.mov (.c (.int .i64 0))), none, false⟩] 0 [0, 3, 4, 5]) (.blk 0 (.loop rc_some3_l0))) (.seq (.reg [⟨(some 26), (.mov (.t 4)), none, false⟩, ⟨(some 2), (.mov (.t 26)), none, true⟩] 0 [2]) .ret))))), [(.t 2)]⟩
theorem rc_some3_ok : compFn PG.P [⟨0, 0, [0], []⟩, ⟨1, 0, [0, 3], [3]⟩, ⟨2, 0, [0, 3, 4], []⟩, ⟨3, 0, [0, 3, 4, 5], []⟩, ⟨4, 0, [0, 3, 4, 5, 10], []⟩, ⟨5, 0, [0, 3, 4, 5], []⟩, ⟨6, 0, [0, 3, 4, 5], []⟩, ⟨7, 0, [2], [2]⟩] 13 = some rc_some3 := by kernel_rfl
noncomputable def rc_srune : RFn := ⟨1, 8, (.seq (.reg [⟨(some 2), (.mov (.c (.int .i32 0))), none, false⟩] 0 [0]) (.seq (.reg [⟨(some 3), (.mkrow 1 [(.int .i32 0)] 20 [(0, (.c (.int .i32 97))), (1, (.c (.int .i32 98))), (2, (.c (.int .i32 32))), (3, (.c (.int .i32 90))), (4, (.c (.int .i32 48))), (5, (.c (.int .i32 45))), (6, (.c (.int .i32 233))), (7, (.c (.int .i32 28450))), (8, (.c (.int .i32 23383))), (9, (.c (.int .i32 769))), (10, (.c (.int .i32 8203))), (11, (.c (.int .i32 1))), (12, (.c (.int .i32 27))), (13, (.c (.int .i32 127))), (14, (.c (.int .i32 46))), (15, (.c (.int .i32 99))), (16, (.c (.int .i32 128512))), (17, (.c (.int .i32 95))), (18, (.c (.int .i32 65533))), (19, (.c (.int .i32 100)))]), none, false⟩, ⟨(some 4), (.mov (.t 0)), none, false⟩, ⟨(some 5), (.bin .rem (.t 4) (.c (.int .u8 20))), none, false⟩, ⟨(some 6), (.iaddr 1 (.t 3) (.t 5)), none, false⟩, ⟨(some 7), (.load false 1 (.t 6)), none, false⟩, ⟨(some 2), (.mov (.t 7)), none, false⟩] 0 [2]) .ret)), [(.t 2)]⟩
theorem rc_srune_ok : compFn PG.P [⟨0, 0, [0], []⟩, ⟨1, 0, [2], []⟩] 40 = some rc_srune := by kernel_rfl
noncomputable def rc_srunes_l0 : RC := (.seq (.seq (.reg [⟨(some 5), (.mov (.t 4)), none, false⟩, ⟨(some 6), (.mov (.t 0)), none, false⟩, ⟨(some 7), (.len (.t 6)), none, false⟩, ⟨(some 8), (.bin .lss (.t 5) (.t 7)), none, false⟩] 0 [0, 3, 4, 8]) (.cond (.t 8) .skip (.ext 0))) (.seq (.blk 1 (.reg [⟨(some 11), (.mov (.t 3)), none, false⟩, ⟨(some 12), (.mov (.t 0)), none, false⟩, ⟨(some 13), (.mov (.t 4)), none, false⟩, ⟨(some 14), (.iaddr 1 (.t 12) (.t 13)), none, false⟩, ⟨(some 15), (.load false 1 (.t 14)), none, false⟩, ⟨(some 16), (.call 40 [(.t 15)]), none, false⟩, ⟨(some 17), (.mkrow 1 [(.int .i32 0)] 1 [(0, (.t 16))]), none, false⟩, ⟨(some 18), (.append 1 4 (.t 11) (.t 17)), none, false⟩, ⟨(some 3), (.mov (.t 18)), none, false⟩] 0 [0, 3, 4])) (.reg [⟨(some 9), (.mov (.t 4)), none, false⟩, ⟨(some 10), (.bin .add (.t 9) (.c (.int .i64 1))), none, false⟩, ⟨(some 4), (.mov (.t 10)), none, false⟩] 0 [0, 3, 4])))
noncomputable def rc_srunes : RFn := ⟨1, 20, (.seq (.reg [⟨(some 2), (.mov (.c (.sl 0 [] .nil))), none, false⟩] 0 [0]) (.seq (.reg [⟨(some 3), (.mov (.c (.sl 0 [] .nil))), none, false⟩] 0 [0, 3]) (.seq (.seq (.reg [⟨(some 4), (.mov (.c (.int .i64 0))), none, false⟩] 0 [0, 3, 4]) (.blk 0 (.loop rc_srunes_l0))) (.seq (.reg [⟨(some 19), (.mov (.t 3)), none, false⟩, ⟨(some 2), (.mov (.t 19)), none, true⟩] 0 [2]) .ret)))), [(.t 2)]⟩
theorem rc_srunes_ok : compFn PG.P [⟨0, 0, [0], []⟩, ⟨1, 0, [0, 3], []⟩, ⟨2, 0, [0, 3, 4], []⟩, ⟨3, 0, [0, 3, 4, 8], []⟩, ⟨4, 0, [0, 3, 4], []⟩, ⟨5, 0, [0, 3, 4], []⟩, ⟨6, 0, [2], [2]⟩] 23 = some rc_srunes := by kernel_rfl
noncomputable def rc_known3 : RFn := ⟨0, 76, (.seq (.reg [⟨(some 0), (.mov (.c (.bool false))), none, false⟩] 0 []) (.seq (.reg [⟨(some 8), (.call 17 [(.c (.sl 0 [] .nil)), (.c (.int .u8 195))]), none, false⟩, ⟨(some 7), (.mov (.t 8)), none, false⟩, ⟨(some 9), (.ext (.t 7) 0), none, false⟩, ⟨(some 10), (.ext (.t 7) 1), none, false⟩, ⟨(some 1), (.mov (.t 9)), none, false⟩, ⟨(some 2), (.mov (.t 10)), none, false⟩] 0 [1, 2]) (.seq (.reg [⟨(some 12), (.mov (.t 1)), none, false⟩, ⟨(some 13), (.call 17 [(.t 12), (.c (.int .u8 169))]), none, false⟩, ⟨(some 11), (.mov (.t 13)), none, false⟩, ⟨(some 14), (.ext (.t 11) 0), none, false⟩, ⟨(some 15), (.ext (.t 11) 1), none, false⟩, ⟨(some 3), (.mov (.t 14)), none, false⟩, ⟨(some 4), (.mov (.t 15)), none, false⟩] 0 [1, 2, 3, 4]) (.seq (.reg [⟨(some 17), (.mkrow 1 [(.int .u8 0)] 5 [(0, (.c (.int .u8 97))), (1, (.c (.int .u8 255))), (2, (.c (.int .u8 195))), (3, (.c (.int .u8 169))), (4, (.c (.int .u8 230)))]), none, false⟩, ⟨(some 18), (.conv .lit (.t 17)), none, true⟩, ⟨(some 19), (.call 14 [(.t 18)]), none, false⟩, ⟨(some 16), (.mov (.t 19)), none, false⟩, ⟨(some 20), (.ext (.t 16) 0), none, false⟩, ⟨(some 21), (.ext (.t 16) 1), none, false⟩, ⟨(some 5), (.mov (.t 20)), none, false⟩, ⟨(some 6), (.mov (.t 21)), none, false⟩] 0 [1, 2, 3, 4, 5, 6]) (.seq (.reg [⟨(some 22), (.mov (.t 1)), none, false⟩, ⟨(some 23), (.len (.t 22)), none, false⟩, ⟨(some 24), (.bin .eql (.t 23) (.c (.int .i64 1))), none, false⟩, ⟨(some 25), (.mov (.t 24)), none, false⟩, ⟨(some 26), (.mov (.t 2)), (some (25, true)), false⟩, ⟨(some 27), (.len (.t 26)), (some (25, true)), false⟩, ⟨(some 28), (.bin .eql (.t 27) (.c (.int .i64 0))), (some (25, true)), false⟩, ⟨(some 29), (.pick (.t 25) (.t 28) (.c (.bool false))), none, false⟩, ⟨(some 30), (.mov (.t 29)), none, false⟩, ⟨(some 31), (.mov (.t 3)), (some (30, true)), false⟩, ⟨(some 32), (.len (.t 31)), (some (30, true)), false⟩, ⟨(some 33), (.bin .eql (.t 32) (.c (.int .i64 0))), (some (30, true)), false⟩, ⟨(some 34), (.pick (.t 30) (.t 33) (.c (.bool false))), none, false⟩, ⟨(some 35), (.mov (.t 34)), none, false⟩, ⟨(some 36), (.mov (.t 4)), (some (35, true)), false⟩, ⟨(some 37), (.len (.t 36)), (some (35, true)), false⟩, ⟨(some 38), (.bin .eql (.t 37) (.c (.int .i64 1))), (some (35, true)), false⟩, ⟨(some 39), (.pick (.t 35) (.t 38) (.c (.bool false))), none, false⟩, ⟨(some 40), (.mov (.t 39)), none, false⟩, ⟨(some 41), (.mov (.t 4)), (some (40, true)), false⟩, ⟨(some 42), (.iaddr 1 (.t 41) (.c (.int .i64 0))), (some (40, true)), false⟩, ⟨(some 43), (.load false 1 (.t 42)), (some (40, true)), false⟩, ⟨(some 44), (.bin .eql (.t 43) (.c (.int .i32 233))), (some (40, true)), false⟩, ⟨(some 45), (.pick (.t 40) (.t 44) (.c (.bool false))), none, false⟩, ⟨(some 46), (.mov (.t 45)), none, false⟩, ⟨(some 47), (.mov (.t 5)), (some (46, true)), false⟩, ⟨(some 48), (.len (.t 47)), (some (46, true)), false⟩, ⟨(some 49), (.bin .eql (.t 48) (.c (.int .i64 3))), (some (46, true)), false⟩, ⟨(some 50), (.pick (.t 46) (.t 49) (.c (.bool false))), none, false⟩, ⟨(some 51), (.mov (.t 50)), none, false⟩, ⟨(some 52), (.mov (.t 5)), (some (51, true)), false⟩, ⟨(some 53), (.iaddr 1 (.t 52) (.c (.int .i64 1))), (some (51, true)), false⟩, ⟨(some 54), (.load false 1 (.t 53)), (some (51, true)), false⟩, ⟨(some 55), (.bin .eql (.t 54) (.c (.int .i32 65533))), (some (51, true)), false⟩, ⟨(some 56), (.pick (.t 51) (.t 55) (.c (.bool false))), none, false⟩, ⟨(some 57), (.mov (.t 56)), none, false⟩, ⟨(some 58), (.mov (.t 6)), (some (57, true)), false⟩, ⟨(some 59), (.len (.t 58)), (some (57, true)), false⟩, ⟨(some 60), (.bin .eql (.t 59) (.c (.int .i64 1))), (some (57, true)), false⟩, ⟨(some 61), (.pick (.t 57) (.t 60) (.c (.bool false))), none, false⟩, ⟨(some 62), (.mov (.t 61)), none, false⟩, ⟨(some 63), (.call 21 [(.c (.int .i32 28450))]), (some (62, true)), false⟩, ⟨(some 64), (.conv .b2s (.t 63)), (some (62, true)), false⟩, ⟨(some 65), (.bin .eql (.t 64) (.c (.str [(230), (188), (162)]))), (some (62, true)), false⟩, ⟨(some 66), (.pick (.t 62) (.t 65) (.c (.bool false))), none, false⟩, ⟨(some 67), (.mov (.t 66)), none, false⟩, ⟨(some 68), (.mkrow 1 [(.int .u8 0)] 1 [(0, (.c (.int .u8 230)))]), (some (67, true)), true⟩, ⟨(some 69), (.call 19 [(.t 68)]), (some (67, true)), false⟩, ⟨(some 70), (.pick (.t 67) (.t 69) (.c (.bool false))), none, false⟩, ⟨(some 71), (.mov (.t 70)), none, false⟩, ⟨(some 72), (.mkrow 1 [(.int .u8 0)] 1 [(0, (.c (.int .u8 192)))]), (some (71, true)), true⟩, ⟨(some 73), (.call 19 [(.t 72)]), (some (71, true)), false⟩, ⟨(some 74), (.un .not (.t 73)), (some (71, true)), false⟩, ⟨(some 75), (.pick (.t 71) (.t 74) (.c (.bool false))), none, false⟩, ⟨(some 0), (.mov (.t 75)), none, false⟩] 0 [0]) .ret))))), [(.t 0)]⟩
theorem rc_known3_ok : compFn PG.P [⟨0, 0, [], []⟩, ⟨1, 0, [1, 2], []⟩, ⟨2, 0, [1, 2, 3, 4], []⟩, ⟨3, 0, [1, 2, 3, 4, 5, 6], [18]⟩, ⟨4, 0, [0], [68, 72]⟩] 12 = some rc_known3 := by kernel_rfl

def T13 : List (Nat × (List DV → Option FSpec)) := (22, F_rform) :: T12
theorem T13_ok : FOk PG (tab T13) := FOk.cons (T12_ok) rform_ok
theorem T13_at_rform (args : List DV) : tab T13 22 args = F_rform args := nrfl _
theorem T13_at_rstep (args : List DV) : tab T13 18 args = F_rstep args := nrfl _
theorem T13_at_whole (args : List DV) : tab T13 37 args = F_whole args := nrfl _
theorem T13_at_put (args : List DV) : tab T13 21 args = F_put args := nrfl _
theorem T13_at_uall (args : List DV) : tab T13 14 args = F_uall args := nrfl _
theorem T13_at_rbegins (args : List DV) : tab T13 20 args = F_rbegins args := nrfl _
theorem T13_at_appRune (args : List DV) : tab T13 39 args = F_appRune args := nrfl _
theorem T13_at_appNon (args : List DV) : tab T13 50 args = F_appNon args := nrfl _
theorem T13_at_step (args : List DV) : tab T13 17 args = F_step args := nrfl _
theorem T13_at_ubegins (args : List DV) : tab T13 19 args = F_ubegins args := nrfl _
theorem T13_at_decode (args : List DV) : tab T13 36 args = F_decode args := nrfl _
theorem T13_at_full (args : List DV) : tab T13 38 args = F_full args := nrfl _
theorem T13_at_clone (args : List DV) : tab T13 35 args = F_clone args := nrfl _
theorem T13_at_slow (args : List DV) : tab T13 49 args = F_slow args := nrfl _
theorem T13_at_may (args : List DV) : tab T13 24 args = F_may args := nrfl _
theorem T13_at_runes (args : List DV) : tab T13 16 args = F_runes args := nrfl _
theorem T13_b : type_of% (And.intro @T13_at_rform <| And.intro @F_rform_1 <| And.intro @T13_at_rstep <| And.intro @F_rstep_1 <| And.intro @T13_at_whole <| And.intro @F_whole_1 <| And.intro @T13_at_put <| And.intro @F_put_1 <| And.intro @T13_at_uall <| And.intro @F_uall_1 <| And.intro @T13_at_rbegins <| And.intro @F_rbegins_1 <| And.intro @T13_at_appRune <| And.intro @F_appRune_1 <| And.intro @T13_at_appNon <| And.intro @F_appNon_1 <| And.intro @T13_at_step <| And.intro @F_step_1 <| And.intro @T13_at_ubegins <| And.intro @F_ubegins_1 <| And.intro @T13_at_decode <| And.intro @F_decode_1 <| And.intro @T13_at_full <| And.intro @F_full_1 <| And.intro @T13_at_clone <| And.intro @F_clone_nil <| And.intro @F_clone_non <| And.intro @T13_at_slow <| And.intro @F_slow_1 <| And.intro @T13_at_may <| And.intro @F_may_1 <| And.intro @T13_at_runes <| @F_runes_1) := And.intro @T13_at_rform <| And.intro @F_rform_1 <| And.intro @T13_at_rstep <| And.intro @F_rstep_1 <| And.intro @T13_at_whole <| And.intro @F_whole_1 <| And.intro @T13_at_put <| And.intro @F_put_1 <| And.intro @T13_at_uall <| And.intro @F_uall_1 <| And.intro @T13_at_rbegins <| And.intro @F_rbegins_1 <| And.intro @T13_at_appRune <| And.intro @F_appRune_1 <| And.intro @T13_at_appNon <| And.intro @F_appNon_1 <| And.intro @T13_at_step <| And.intro @F_step_1 <| And.intro @T13_at_ubegins <| And.intro @F_ubegins_1 <| And.intro @T13_at_decode <| And.intro @F_decode_1 <| And.intro @T13_at_full <| And.intro @F_full_1 <| And.intro @T13_at_clone <| And.intro @F_clone_nil <| And.intro @F_clone_non <| And.intro @T13_at_slow <| And.intro @F_slow_1 <| And.intro @T13_at_may <| And.intro @F_may_1 <| And.intro @T13_at_runes <| @F_runes_1

theorem rall_P {sz_l : Nat} {k_l : SK} {l : List Int} (hs_l : sz_l = 1 ∨ l = []) (hk_l : inK .u8 l) (hp : l.length ≤ 10000000) :
    PCalls PG 15 [.sl sz_l (intRows .u8 l) k_l] fun n RR OO => RR = ((.tup [.sl 1 (intRows .i32 (uallF l).1) .any, .sl 1 (intRows .u8 (uallF l).2) .any], []) : DV × Objs).1 ∧ OO = ((.tup [.sl 1 (intRows .i32 (uallF l).1) .any, .sl 1 (intRows .u8 (uallF l).2) .any], []) : DV × Objs).2 := by
  refine PCalls.by_fn (res := fun n => (.tup [.sl 1 (intRows .i32 (uallF l).1) .any, .sl 1 (intRows .u8 (uallF l).2) .any], [])) T13_ok rc_rall_ok (by simp [rc_rall]) fun n => ?_
  unfold rc_rall
  dsimp only
  simp -implicitDefEqProofs only [T13_b, vcA1, vcA2, vcA3, vcA4, vcA5, vcA6, vcA7, ↓vcP1, ↓vcP2, ↓reduceIte, Option.map_some, Option.map_none, Option.bind_some, Option.bind_none, if_true, if_false, reduceCtorEq, beq_true, beq_false, Bool.not_true, Bool.not_false, BEq.rfl, Bool.true_beq, Bool.false_beq, and_true, true_and, and_self, decide_true, decide_false, List.length_cons, List.length_nil, List.all_cons, List.all_nil, Bool.and_true, Bool.and_self, List.getElem?_cons_zero, List.getElem?_cons_succ, List.set_cons_zero, List.set_cons_succ, List.nil_append, List.cons_append, List.append_nil, List.map_cons, List.map_nil, not_true_eq_false, not_false_eq_true, false_implies, true_implies, implies_true, List.take_succ_cons, List.take_zero, List.take_nil, List.drop_succ_cons, List.drop_zero, List.drop_nil, Nat.reduceLT, Nat.reduceLeDiff, Nat.reduceEqDiff, Nat.reduceAdd, Nat.reduceSub, Nat.reduceMul, Int.reduceLT, Int.reduceLE, Int.reduceEq, Int.reduceToNat, Int.reduceAdd, Int.reduceSub, Int.reduceNeg, List.reduceReplicate, List.replicate_zero, List.replicate_succ, ne_eq, List.flatMap_cons, List.flatMap_nil, List.length_replicate, List.length_append, Nat.le_refl, Nat.le_add_right, Nat.add_assoc, List.append_assoc, or_true, true_or, or_false, false_or, and_false, false_and, exists_eq_left, exists_eq_left', Option.some.injEq, DV.int.injEq, DV.bool.injEq, DV.sl.injEq, DV.own.injEq, DV.tup.injEq, List.cons.injEq, Ob.arr.injEq, Ob.box.injEq, Option.map_map, Int.toNat_natCast, Int.toNat_zero, Nat.reducePow, Int.toNat_one, Int.reduceMul, Nat.mul_one, Nat.zero_add, Nat.add_zero, Function.comp_apply, List.map_append, List.map_replicate, Int.cast_ofNat_Int, Nat.left_eq_add, Nat.add_eq_left, Nat.add_left_cancel_iff]
  refine LoopWp.own 4 1 rfl (.inl rfl) ?_
  refine LoopWp.invR T13_ok (S := fun m (i : Nat) => ⟨[(0, .sl sz_l (intRows .u8 l) k_l), (4, .own m 0 (uallF (l.take i)).1.length), (5, .sl 1 (intRows .u8 (uallF (l.take i)).2) .any), (6, .int .i64 i)],
        List.replicate m none ++ [some (.arr 1 (intRows .i32 (uallF (l.take i)).1))]⟩) (I := fun i => i ≤ l.length) (μ := fun i => l.length - i) n 0 (by omega) ?_ ?_
  · simp -implicitDefEqProofs only [List.take_zero, vcA1, vcA2, vcA3, vcA4, vcA5, vcA6, vcA7, ↓vcP1, ↓vcP2, ↓reduceIte, Option.map_some, Option.map_none, Option.bind_some, Option.bind_none, if_true, if_false, reduceCtorEq, beq_true, beq_false, Bool.not_true, Bool.not_false, BEq.rfl, Bool.true_beq, Bool.false_beq, and_true, true_and, and_self, decide_true, decide_false, List.length_cons, List.length_nil, List.all_cons, List.all_nil, Bool.and_true, Bool.and_self, List.getElem?_cons_zero, List.getElem?_cons_succ, List.set_cons_zero, List.set_cons_succ, List.nil_append, List.cons_append, List.append_nil, List.map_cons, List.map_nil, not_true_eq_false, not_false_eq_true, false_implies, true_implies, implies_true, List.take_succ_cons, List.take_zero, List.take_nil, List.drop_succ_cons, List.drop_zero, List.drop_nil, Nat.reduceLT, Nat.reduceLeDiff, Nat.reduceEqDiff, Nat.reduceAdd, Nat.reduceSub, Nat.reduceMul, Int.reduceLT, Int.reduceLE, Int.reduceEq, Int.reduceToNat, Int.reduceAdd, Int.reduceSub, Int.reduceNeg, List.reduceReplicate, List.replicate_zero, List.replicate_succ, ne_eq, List.flatMap_cons, List.flatMap_nil, List.length_replicate, List.length_append, Nat.le_refl, Nat.le_add_right, Nat.add_assoc, List.append_assoc, or_true, true_or, or_false, false_or, and_false, false_and, exists_eq_left, exists_eq_left', Option.some.injEq, DV.int.injEq, DV.bool.injEq, DV.sl.injEq, DV.own.injEq, DV.tup.injEq, List.cons.injEq, Ob.arr.injEq, Ob.box.injEq, Option.map_map, Int.toNat_natCast, Int.toNat_zero, Nat.reducePow, Int.toNat_one, Int.reduceMul, Nat.mul_one, Nat.zero_add, Nat.add_zero, Function.comp_apply, List.map_append, List.map_replicate, Int.cast_ofNat_Int, Nat.left_eq_add, Nat.add_eq_left, Nat.add_left_cancel_iff]
    exact ⟨⟨rfl, rfl⟩, rfl⟩
  · intro m i hm hi
    unfold rc_rall_l0
    simp -implicitDefEqProofs only [T13_b, vcA1, vcA2, vcA3, vcA4, vcA5, vcA6, vcA7, ↓vcP1, ↓vcP2, ↓reduceIte, Option.map_some, Option.map_none, Option.bind_some, Option.bind_none, if_true, if_false, reduceCtorEq, beq_true, beq_false, Bool.not_true, Bool.not_false, BEq.rfl, Bool.true_beq, Bool.false_beq, and_true, true_and, and_self, decide_true, decide_false, List.length_cons, List.length_nil, List.all_cons, List.all_nil, Bool.and_true, Bool.and_self, List.getElem?_cons_zero, List.getElem?_cons_succ, List.set_cons_zero, List.set_cons_succ, List.nil_append, List.cons_append, List.append_nil, List.map_cons, List.map_nil, not_true_eq_false, not_false_eq_true, false_implies, true_implies, implies_true, List.take_succ_cons, List.take_zero, List.take_nil, List.drop_succ_cons, List.drop_zero, List.drop_nil, Nat.reduceLT, Nat.reduceLeDiff, Nat.reduceEqDiff, Nat.reduceAdd, Nat.reduceSub, Nat.reduceMul, Int.reduceLT, Int.reduceLE, Int.reduceEq, Int.reduceToNat, Int.reduceAdd, Int.reduceSub, Int.reduceNeg, List.reduceReplicate, List.replicate_zero, List.replicate_succ, ne_eq, List.flatMap_cons, List.flatMap_nil, List.length_replicate, List.length_append, Nat.le_refl, Nat.le_add_right, Nat.add_assoc, List.append_assoc, or_true, true_or, or_false, false_or, and_false, false_and, exists_eq_left, exists_eq_left', Option.some.injEq, DV.int.injEq, DV.bool.injEq, DV.sl.injEq, DV.own.injEq, DV.tup.injEq, List.cons.injEq, Ob.arr.injEq, Ob.box.injEq, Option.map_map, Int.toNat_natCast, Int.toNat_zero, Nat.reducePow, Int.toNat_one, Int.reduceMul, Nat.mul_one, Nat.zero_add, Nat.add_zero, Function.comp_apply, List.map_append, List.map_replicate, Int.cast_ofNat_Int, Nat.left_eq_add, Nat.add_eq_left, Nat.add_left_cancel_iff]
    obtain ⟨g1, g2, g3⟩ := uallF_take hk_l i hi
    refine ⟨fun h => ?_, fun h => ?_⟩
    · have h0 : i < l.length := by omega
      have hsz : sz_l = 1 := hs_l.resolve_right fun e => by simp [e] at h0
      have hb := getD_lt hk_l h0
      have hr := rstep_eq g1 hb
      have h2 := ustep_len (uallF (l.take i)).2 (l.getD i 0)
      have hgd : l.getD i 0 = l[i] := by rw [List.getD_eq_getElem?_getD, List.getElem?_eq_getElem h0]; rfl
      have e : uallF (l.take (i + 1)) = ((uallF (l.take i)).1 ++ (ustep (uallF (l.take i)).2 (l.getD i 0)).2, (ustep (uallF (l.take i)).2 (l.getD i 0)).1) := by
        rw [List.take_succ_eq_append_getElem h0, uallF_snoc, hgd]
      rw [hr]
      refine ⟨⟨by omega, h, hsz⟩, h0, ⟨g1, hb, by omega⟩, ⟨by omega, by omega⟩, by omega, i + 1, ?_, by omega, by omega⟩
      rw [e]
      exact ⟨⟨by simp, rfl, by rw [wI64] <;> omega⟩, rfl⟩
    · have h1 : i = l.length := by omega
      subst h1
      rw [List.take_length, List.take_length]
      exact ⟨by omega, rfl, rfl⟩
def F_rall : List DV → Option FSpec
  | [a_l] => some ⟨isInts .u8 a_l ∧ (intsD a_l).length ≤ 10000000, fun n => (.tup [.sl 1 (intRows .i32 (uallF (intsD a_l)).1) .any, .sl 1 (intRows .u8 (uallF (intsD a_l)).2) .any], [])⟩
  | _ => none
theorem F_rall_1 (a_l : DV) : F_rall [a_l] = some ⟨isInts .u8 a_l ∧ (intsD a_l).length ≤ 10000000, fun n => (.tup [.sl 1 (intRows .i32 (uallF (intsD a_l)).1) .any, .sl 1 (intRows .u8 (uallF (intsD a_l)).2) .any], [])⟩ := nrfl _
theorem rall_ok (args : List DV) (s : FSpec) (hs : F_rall args = some s) (hp : s.pre) : PCalls PG 15 args fun n r os => r = (s.res n).1 ∧ os = (s.res n).2 := by
  unfold F_rall at hs
  split at hs
  · rename_i a_l
    obtain rfl := Option.some.inj hs
    obtain ⟨hi_l, hp⟩ := hp
    obtain ⟨s0_l, k0_l, h1_l, h2_l, h3_l⟩ := isInts_inv hi_l
    have this := rall_P (k_l := k0_l) h2_l h3_l hp
    rw [← h1_l] at this
    exact this
  · cases hs

def T14 : List (Nat × (List DV → Option FSpec)) := (15, F_rall) :: T13
theorem T14_ok : FOk PG (tab T14) := FOk.cons (T13_ok) rall_ok
theorem T14_at_rall (args : List DV) : tab T14 15 args = F_rall args := nrfl _
theorem T14_at_rform (args : List DV) : tab T14 22 args = F_rform args := nrfl _
theorem T14_at_rstep (args : List DV) : tab T14 18 args = F_rstep args := nrfl _
theorem T14_at_whole (args : List DV) : tab T14 37 args = F_whole args := nrfl _
theorem T14_at_put (args : List DV) : tab T14 21 args = F_put args := nrfl _
theorem T14_at_uall (args : List DV) : tab T14 14 args = F_uall args := nrfl _
theorem T14_at_rbegins (args : List DV) : tab T14 20 args = F_rbegins args := nrfl _
theorem T14_at_appRune (args : List DV) : tab T14 39 args = F_appRune args := nrfl _
theorem T14_at_appNon (args : List DV) : tab T14 50 args = F_appNon args := nrfl _
theorem T14_at_step (args : List DV) : tab T14 17 args = F_step args := nrfl _
theorem T14_at_ubegins (args : List DV) : tab T14 19 args = F_ubegins args := nrfl _
theorem T14_at_decode (args : List DV) : tab T14 36 args = F_decode args := nrfl _
theorem T14_at_full (args : List DV) : tab T14 38 args = F_full args := nrfl _
theorem T14_at_clone (args : List DV) : tab T14 35 args = F_clone args := nrfl _
theorem T14_at_slow (args : List DV) : tab T14 49 args = F_slow args := nrfl _
theorem T14_at_may (args : List DV) : tab T14 24 args = F_may args := nrfl _
theorem T14_at_runes (args : List DV) : tab T14 16 args = F_runes args := nrfl _
theorem T14_b : type_of% (And.intro @T14_at_rall <| And.intro @F_rall_1 <| And.intro @T14_at_rform <| And.intro @F_rform_1 <| And.intro @T14_at_rstep <| And.intro @F_rstep_1 <| And.intro @T14_at_whole <| And.intro @F_whole_1 <| And.intro @T14_at_put <| And.intro @F_put_1 <| And.intro @T14_at_uall <| And.intro @F_uall_1 <| And.intro @T14_at_rbegins <| And.intro @F_rbegins_1 <| And.intro @T14_at_appRune <| And.intro @F_appRune_1 <| And.intro @T14_at_appNon <| And.intro @F_appNon_1 <| And.intro @T14_at_step <| And.intro @F_step_1 <| And.intro @T14_at_ubegins <| And.intro @F_ubegins_1 <| And.intro @T14_at_decode <| And.intro @F_decode_1 <| And.intro @T14_at_full <| And.intro @F_full_1 <| And.intro @T14_at_clone <| And.intro @F_clone_nil <| And.intro @F_clone_non <| And.intro @T14_at_slow <| And.intro @F_slow_1 <| And.intro @T14_at_may <| And.intro @F_may_1 <| And.intro @T14_at_runes <| @F_runes_1) := And.intro @T14_at_rall <| And.intro @F_rall_1 <| And.intro @T14_at_rform <| And.intro @F_rform_1 <| And.intro @T14_at_rstep <| And.intro @F_rstep_1 <| And.intro @T14_at_whole <| And.intro @F_whole_1 <| And.intro @T14_at_put <| And.intro @F_put_1 <| And.intro @T14_at_uall <| And.intro @F_uall_1 <| And.intro @T14_at_rbegins <| And.intro @F_rbegins_1 <| And.intro @T14_at_appRune <| And.intro @F_appRune_1 <| And.intro @T14_at_appNon <| And.intro @F_appNon_1 <| And.intro @T14_at_step <| And.intro @F_step_1 <| And.intro @T14_at_ubegins <| And.intro @F_ubegins_1 <| And.intro @T14_at_decode <| And.intro @F_decode_1 <| And.intro @T14_at_full <| And.intro @F_full_1 <| And.intro @T14_at_clone <| And.intro @F_clone_nil <| And.intro @F_clone_non <| And.intro @T14_at_slow <| And.intro @F_slow_1 <| And.intro @T14_at_may <| And.intro @F_may_1 <| And.intro @T14_at_runes <| @F_runes_1

def pieces3 : List (List UInt8) := [[97], [195, 169], [230, 188, 162], [240, 159, 152, 128], [255], [195], [230], [230, 188], [240, 159], [237, 160, 128], [192, 128], [244, 144], [128], [224, 159], [240, 143], [239, 191, 189], [245]]
def strRows (l : List (List UInt8)) : List (List DV) := l.map fun s => [.str s]
theorem strRows_length (l : List (List UInt8)) : (strRows l).length = l.length := by simp [strRows]
theorem pieces3_len : pieces3.length = 17 := rfl
theorem bindO_iteN {α : Type} (c : Prop) [Decidable c] (x : Option α) (f : α → Prop) : bindO (if c then none else x) f = (¬ c ∧ bindO x f) := by
  by_cases h : c <;> simp [h, bindO]
theorem bindO_strRows (l : List (List UInt8)) (n : Nat) (f : List DV → Prop) : bindO (strRows l)[n]? f = (n < l.length ∧ f [.str (l.getD n [])]) := by
  by_cases h : n < l.length
  · simp [strRows, List.getElem?_eq_getElem h, bindO, h]
  · simp [strRows, List.getElem?_eq_none (Nat.le_of_not_lt h), bindO, h]
def nums (s : List UInt8) : List Int := s.map fun b => (b.toNat : Int)
theorem bytesRows_nums (s : List UInt8) : bytesRows s = intRows .u8 (nums s) := by simp [bytesRows, intRows, nums]
theorem nums_length (s : List UInt8) : (nums s).length = s.length := by simp [nums]
theorem nums_in (s : List UInt8) (h : s.length ≤ 1000000) : inK .u8 (nums s) := by
  refine inK_u8 (by simp [nums]; omega) fun n hn => ?_
  simp only [nums, List.mem_map] at hn
  obtain ⟨b, _, rfl⟩ := hn
  have := b.toNat_lt
  omega
def someF (l : List Int) : List Int := l.flatMap fun k => nums (pieces3.getD (k.tmod 17).toNat [])
theorem someF_snoc (l : List Int) (k : Int) : someF (l ++ [k]) = someF l ++ nums (pieces3.getD (k.tmod 17).toNat []) := by simp [someF]
theorem piece_len (n : Nat) : (pieces3.getD n []).length ≤ 4 := by
  by_cases h : n < 17
  · have : ∀ n, n < 17 → (pieces3.getD n []).length ≤ 4 := by decide
    exact this n h
  · rw [List.getD_eq_getElem?_getD, List.getElem?_eq_none (by simp [pieces3]; omega)]; simp
theorem someF_len (l : List Int) : (someF l).length ≤ 4 * l.length := by
  induction l with
  | nil => simp [someF]
  | cons a l ih =>
    have := piece_len (a.tmod 17).toNat
    have e : someF (a :: l) = nums (pieces3.getD (a.tmod 17).toNat []) ++ someF l := by simp [someF]
    rw [e, List.length_append, nums_length, List.length_cons]
    omega
theorem someF_in (l : List Int) (h : l.length ≤ 1000000) : inK .u8 (someF l) := by
  have hl := someF_len l
  refine inK_u8 (by omega) fun n hn => ?_
  simp only [someF, List.mem_flatMap] at hn
  obtain ⟨k, _, hk⟩ := hn
  exact (nums_in (pieces3.getD (k.tmod 17).toNat []) (by have := piece_len (k.tmod 17).toNat; omega)).u8 hk
theorem some3_P {sz_l : Nat} {k_l : SK} {l : List Int} (hs_l : sz_l = 1 ∨ l = []) (hk_l : inK .u8 l) (hp : l.length ≤ 1000000) :
    PCalls PG 13 [.sl sz_l (intRows .u8 l) k_l] fun n RR OO => RR = ((.sl 1 (intRows .u8 (someF l)) .any, []) : DV × Objs).1 ∧ OO = ((.sl 1 (intRows .u8 (someF l)) .any, []) : DV × Objs).2 := by
  refine PCalls.by_fn (res := fun n => (.sl 1 (intRows .u8 (someF l)) .any, [])) T14_ok rc_some3_ok (by simp [rc_some3]) fun n => ?_
  unfold rc_some3
  dsimp only
  simp -implicitDefEqProofs only [T14_b, vcA1, vcA2, vcA3, vcA4, vcA5, vcA6, vcA7, ↓vcP1, ↓vcP2, ↓reduceIte, Option.map_some, Option.map_none, Option.bind_some, Option.bind_none, if_true, if_false, reduceCtorEq, beq_true, beq_false, Bool.not_true, Bool.not_false, BEq.rfl, Bool.true_beq, Bool.false_beq, and_true, true_and, and_self, decide_true, decide_false, List.length_cons, List.length_nil, List.all_cons, List.all_nil, Bool.and_true, Bool.and_self, List.getElem?_cons_zero, List.getElem?_cons_succ, List.set_cons_zero, List.set_cons_succ, List.nil_append, List.cons_append, List.append_nil, List.map_cons, List.map_nil, not_true_eq_false, not_false_eq_true, false_implies, true_implies, implies_true, List.take_succ_cons, List.take_zero, List.take_nil, List.drop_succ_cons, List.drop_zero, List.drop_nil, Nat.reduceLT, Nat.reduceLeDiff, Nat.reduceEqDiff, Nat.reduceAdd, Nat.reduceSub, Nat.reduceMul, Int.reduceLT, Int.reduceLE, Int.reduceEq, Int.reduceToNat, Int.reduceAdd, Int.reduceSub, Int.reduceNeg, List.reduceReplicate, List.replicate_zero, List.replicate_succ, ne_eq, List.flatMap_cons, List.flatMap_nil, List.length_replicate, List.length_append, Nat.le_refl, Nat.le_add_right, Nat.add_assoc, List.append_assoc, or_true, true_or, or_false, false_or, and_false, false_and, exists_eq_left, exists_eq_left', Option.some.injEq, DV.int.injEq, DV.bool.injEq, DV.sl.injEq, DV.own.injEq, DV.tup.injEq, List.cons.injEq, Ob.arr.injEq, Ob.box.injEq, Option.map_map, Int.toNat_natCast, Int.toNat_zero, Nat.reducePow, Int.toNat_one, Int.reduceMul, Nat.mul_one, Nat.zero_add, Nat.add_zero, Function.comp_apply, List.map_append, List.map_replicate, Int.cast_ofNat_Int, Nat.left_eq_add, Nat.add_eq_left, Nat.add_left_cancel_iff]
  refine LoopWp.own 4 1 rfl (.inl rfl) ?_
  refine LoopWp.invR T14_ok (S := fun m (i : Nat) => ⟨[(0, .sl sz_l (intRows .u8 l) k_l), (3, .sl 1 (strRows pieces3) .any), (4, .own m 0 (someF (l.take i)).length), (5, .int .i64 i)],
        List.replicate m none ++ [some (.arr 1 (intRows .u8 (someF (l.take i))))]⟩) (I := fun i => i ≤ l.length) (μ := fun i => l.length - i) n 0 (by omega) ?_ ?_
  · simp -implicitDefEqProofs only [List.take_zero, vcA1, vcA2, vcA3, vcA4, vcA5, vcA6, vcA7, ↓vcP1, ↓vcP2, ↓reduceIte, Option.map_some, Option.map_none, Option.bind_some, Option.bind_none, if_true, if_false, reduceCtorEq, beq_true, beq_false, Bool.not_true, Bool.not_false, BEq.rfl, Bool.true_beq, Bool.false_beq, and_true, true_and, and_self, decide_true, decide_false, List.length_cons, List.length_nil, List.all_cons, List.all_nil, Bool.and_true, Bool.and_self, List.getElem?_cons_zero, List.getElem?_cons_succ, List.set_cons_zero, List.set_cons_succ, List.nil_append, List.cons_append, List.append_nil, List.map_cons, List.map_nil, not_true_eq_false, not_false_eq_true, false_implies, true_implies, implies_true, List.take_succ_cons, List.take_zero, List.take_nil, List.drop_succ_cons, List.drop_zero, List.drop_nil, Nat.reduceLT, Nat.reduceLeDiff, Nat.reduceEqDiff, Nat.reduceAdd, Nat.reduceSub, Nat.reduceMul, Int.reduceLT, Int.reduceLE, Int.reduceEq, Int.reduceToNat, Int.reduceAdd, Int.reduceSub, Int.reduceNeg, List.reduceReplicate, List.replicate_zero, List.replicate_succ, ne_eq, List.flatMap_cons, List.flatMap_nil, List.length_replicate, List.length_append, Nat.le_refl, Nat.le_add_right, Nat.add_assoc, List.append_assoc, or_true, true_or, or_false, false_or, and_false, false_and, exists_eq_left, exists_eq_left', Option.some.injEq, DV.int.injEq, DV.bool.injEq, DV.sl.injEq, DV.own.injEq, DV.tup.injEq, List.cons.injEq, Ob.arr.injEq, Ob.box.injEq, Option.map_map, Int.toNat_natCast, Int.toNat_zero, Nat.reducePow, Int.toNat_one, Int.reduceMul, Nat.mul_one, Nat.zero_add, Nat.add_zero, Function.comp_apply, List.map_append, List.map_replicate, Int.cast_ofNat_Int, Nat.left_eq_add, Nat.add_eq_left, Nat.add_left_cancel_iff]
    exact ⟨⟨rfl, rfl⟩, rfl⟩
  · intro m i hm hi
    unfold rc_some3_l0
    simp -implicitDefEqProofs only [T14_b, strRows_length, pieces3_len, bindO_strRows, ↓bindO_iteN, bytesRows_nums, vcA1, vcA2, vcA3, vcA4, vcA5, vcA6, vcA7, ↓vcP1, ↓vcP2, ↓reduceIte, Option.map_some, Option.map_none, Option.bind_some, Option.bind_none, if_true, if_false, reduceCtorEq, beq_true, beq_false, Bool.not_true, Bool.not_false, BEq.rfl, Bool.true_beq, Bool.false_beq, and_true, true_and, and_self, decide_true, decide_false, List.length_cons, List.length_nil, List.all_cons, List.all_nil, Bool.and_true, Bool.and_self, List.getElem?_cons_zero, List.getElem?_cons_succ, List.set_cons_zero, List.set_cons_succ, List.nil_append, List.cons_append, List.append_nil, List.map_cons, List.map_nil, not_true_eq_false, not_false_eq_true, false_implies, true_implies, implies_true, List.take_succ_cons, List.take_zero, List.take_nil, List.drop_succ_cons, List.drop_zero, List.drop_nil, Nat.reduceLT, Nat.reduceLeDiff, Nat.reduceEqDiff, Nat.reduceAdd, Nat.reduceSub, Nat.reduceMul, Int.reduceLT, Int.reduceLE, Int.reduceEq, Int.reduceToNat, Int.reduceAdd, Int.reduceSub, Int.reduceNeg, List.reduceReplicate, List.replicate_zero, List.replicate_succ, ne_eq, List.flatMap_cons, List.flatMap_nil, List.length_replicate, List.length_append, Nat.le_refl, Nat.le_add_right, Nat.add_assoc, List.append_assoc, or_true, true_or, or_false, false_or, and_false, false_and, exists_eq_left, exists_eq_left', Option.some.injEq, DV.int.injEq, DV.bool.injEq, DV.sl.injEq, DV.own.injEq, DV.tup.injEq, List.cons.injEq, Ob.arr.injEq, Ob.box.injEq, Option.map_map, Int.toNat_natCast, Int.toNat_zero, Nat.reducePow, Int.toNat_one, Int.reduceMul, Nat.mul_one, Nat.zero_add, Nat.add_zero, Function.comp_apply, List.map_append, List.map_replicate, Int.cast_ofNat_Int, Nat.left_eq_add, Nat.add_eq_left, Nat.add_left_cancel_iff]
    have hl4 := someF_len (l.take i)
    have htl : (l.take i).length = i := by rw [List.length_take]; omega
    rw [htl] at hl4
    refine ⟨fun h => ?_, fun h => ?_⟩
    · have h0 : i < l.length := by omega
      have hsz : sz_l = 1 := hs_l.resolve_right fun e => by simp [e] at h0
      have hb := getD_lt hk_l h0
      have hgd : l.getD i 0 = l[i] := by rw [List.getD_eq_getElem?_getD, List.getElem?_eq_getElem h0]; rfl
      have e : someF (l.take (i + 1)) = someF (l.take i) ++ nums (pieces3.getD ((l.getD i 0).tmod 17).toNat []) := by
        rw [List.take_succ_eq_append_getElem h0, someF_snoc, hgd]
      rw [wI64 (n := l.getD i 0) (by omega) (by omega)]
      have hm17 : (l.getD i 0).tmod 17 = l.getD i 0 % 17 := Int.tmod_eq_emod_of_nonneg hb.1
      have hpl := piece_len ((l.getD i 0).tmod 17).toNat
      rw [nums_length]
      refine ⟨⟨by omega, h, hsz⟩, h0, ⟨by omega, by omega⟩, by omega, ⟨by omega, by omega⟩, by omega, i + 1, ?_, by omega, by omega⟩
      rw [e]
      exact ⟨⟨by simp [nums_length], by rw [wI64] <;> omega⟩, rfl⟩
    · have h1 : i = l.length := by omega
      subst h1
      rw [List.take_length, List.take_length]
      exact ⟨by omega, rfl⟩
def F_some3 : List DV → Option FSpec
  | [a_l] => some ⟨isInts .u8 a_l ∧ (intsD a_l).length ≤ 1000000, fun n => (.sl 1 (intRows .u8 (someF (intsD a_l))) .any, [])⟩
  | _ => none
theorem F_some3_1 (a_l : DV) : F_some3 [a_l] = some ⟨isInts .u8 a_l ∧ (intsD a_l).length ≤ 1000000, fun n => (.sl 1 (intRows .u8 (someF (intsD a_l))) .any, [])⟩ := nrfl _
theorem some3_ok (args : List DV) (s : FSpec) (hs : F_some3 args = some s) (hp : s.pre) : PCalls PG 13 args fun n r os => r = (s.res n).1 ∧ os = (s.res n).2 := by
  unfold F_some3 at hs
  split at hs
  · rename_i a_l
    obtain rfl := Option.some.inj hs
    obtain ⟨hi_l, hp⟩ := hp
    obtain ⟨s0_l, k0_l, h1_l, h2_l, h3_l⟩ := isInts_inv hi_l
    have this := some3_P (k_l := k0_l) h2_l h3_l hp
    rw [← h1_l] at this
    exact this
  · cases hs

def runes20 : List Int := [97, 98, 32, 90, 48, 45, 233, 28450, 23383, 769, 8203, 1, 27, 127, 46, 99, 128512, 95, 65533, 100]
theorem srune_P {k : Int} (hb_k : 0 ≤ k ∧ k ≤ 255)  :
    PCalls PG 40 [.int .u8 k] fun n RR OO => RR = ((.int .i32 (runes20.getD (k.tmod 20).toNat 0), []) : DV × Objs).1 ∧ OO = ((.int .i32 (runes20.getD (k.tmod 20).toNat 0), []) : DV × Objs).2 := by
  refine PCalls.by_fn (res := fun n => (.int .i32 (runes20.getD (k.tmod 20).toNat 0), [])) T14_ok rc_srune_ok (by simp [rc_srune]) fun n => ?_
  unfold rc_srune
  dsimp only
  simp -implicitDefEqProofs only [T14_b, vcA1, vcA2, vcA3, vcA4, vcA5, vcA6, vcA7, ↓vcP1, ↓vcP2, ↓reduceIte, Option.map_some, Option.map_none, Option.bind_some, Option.bind_none, if_true, if_false, reduceCtorEq, beq_true, beq_false, Bool.not_true, Bool.not_false, BEq.rfl, Bool.true_beq, Bool.false_beq, and_true, true_and, and_self, decide_true, decide_false, List.length_cons, List.length_nil, List.all_cons, List.all_nil, Bool.and_true, Bool.and_self, List.getElem?_cons_zero, List.getElem?_cons_succ, List.set_cons_zero, List.set_cons_succ, List.nil_append, List.cons_append, List.append_nil, List.map_cons, List.map_nil, not_true_eq_false, not_false_eq_true, false_implies, true_implies, implies_true, List.take_succ_cons, List.take_zero, List.take_nil, List.drop_succ_cons, List.drop_zero, List.drop_nil, Nat.reduceLT, Nat.reduceLeDiff, Nat.reduceEqDiff, Nat.reduceAdd, Nat.reduceSub, Nat.reduceMul, Int.reduceLT, Int.reduceLE, Int.reduceEq, Int.reduceToNat, Int.reduceAdd, Int.reduceSub, Int.reduceNeg, List.reduceReplicate, List.replicate_zero, List.replicate_succ, ne_eq, List.flatMap_cons, List.flatMap_nil, List.length_replicate, List.length_append, Nat.le_refl, Nat.le_add_right, Nat.add_assoc, List.append_assoc, or_true, true_or, or_false, false_or, and_false, false_and, exists_eq_left, exists_eq_left', Option.some.injEq, DV.int.injEq, DV.bool.injEq, DV.sl.injEq, DV.own.injEq, DV.tup.injEq, List.cons.injEq, Ob.arr.injEq, Ob.box.injEq, Option.map_map, Int.toNat_natCast, Int.toNat_zero, Nat.reducePow, Int.toNat_one, Int.reduceMul, Nat.mul_one, Nat.zero_add, Nat.add_zero, Function.comp_apply, List.map_append, List.map_replicate, Int.cast_ofNat_Int, Nat.left_eq_add, Nat.add_eq_left, Nat.add_left_cancel_iff]
  have : k.tmod 20 = k % 20 := Int.tmod_eq_emod_of_nonneg hb_k.1
  exact ⟨⟨by omega, by omega⟩, by omega, rfl⟩
def F_srune : List DV → Option FSpec
  | [.int .u8 k] => some ⟨(0 ≤ k ∧ k ≤ 255) ∧ True, fun n => (.int .i32 (runes20.getD (k.tmod 20).toNat 0), [])⟩
  | _ => none
theorem F_srune_1 (k : Int) : F_srune [.int .u8 k] = some ⟨(0 ≤ k ∧ k ≤ 255) ∧ True, fun n => (.int .i32 (runes20.getD (k.tmod 20).toNat 0), [])⟩ := nrfl _
theorem srune_ok (args : List DV) (s : FSpec) (hs : F_srune args = some s) (hp : s.pre) : PCalls PG 40 args fun n r os => r = (s.res n).1 ∧ os = (s.res n).2 := by
  unfold F_srune at hs
  split at hs
  · rename_i k
    obtain rfl := Option.some.inj hs
    obtain ⟨hb_k, hp⟩ := hp
    have this := srune_P  hb_k 
    exact this
  · cases hs

def T15 : List (Nat × (List DV → Option FSpec)) := (13, F_some3) :: (40, F_srune) :: T14
theorem T15_ok : FOk PG (tab T15) := FOk.cons (FOk.cons (T14_ok) srune_ok) some3_ok
theorem T15_at_some3 (args : List DV) : tab T15 13 args = F_some3 args := nrfl _
theorem T15_at_srune (args : List DV) : tab T15 40 args = F_srune args := nrfl _
theorem T15_at_rall (args : List DV) : tab T15 15 args = F_rall args := nrfl _
theorem T15_at_rform (args : List DV) : tab T15 22 args = F_rform args := nrfl _
theorem T15_at_rstep (args : List DV) : tab T15 18 args = F_rstep args := nrfl _
theorem T15_at_whole (args : List DV) : tab T15 37 args = F_whole args := nrfl _
theorem T15_at_put (args : List DV) : tab T15 21 args = F_put args := nrfl _
theorem T15_at_uall (args : List DV) : tab T15 14 args = F_uall args := nrfl _
theorem T15_at_rbegins (args : List DV) : tab T15 20 args = F_rbegins args := nrfl _
theorem T15_at_appRune (args : List DV) : tab T15 39 args = F_appRune args := nrfl _
theorem T15_at_appNon (args : List DV) : tab T15 50 args = F_appNon args := nrfl _
theorem T15_at_step (args : List DV) : tab T15 17 args = F_step args := nrfl _
theorem T15_at_ubegins (args : List DV) : tab T15 19 args = F_ubegins args := nrfl _
theorem T15_at_decode (args : List DV) : tab T15 36 args = F_decode args := nrfl _
theorem T15_at_full (args : List DV) : tab T15 38 args = F_full args := nrfl _
theorem T15_at_clone (args : List DV) : tab T15 35 args = F_clone args := nrfl _
theorem T15_at_slow (args : List DV) : tab T15 49 args = F_slow args := nrfl _
theorem T15_at_may (args : List DV) : tab T15 24 args = F_may args := nrfl _
theorem T15_at_runes (args : List DV) : tab T15 16 args = F_runes args := nrfl _
theorem T15_b : type_of% (And.intro @T15_at_some3 <| And.intro @F_some3_1 <| And.intro @T15_at_srune <| And.intro @F_srune_1 <| And.intro @T15_at_rall <| And.intro @F_rall_1 <| And.intro @T15_at_rform <| And.intro @F_rform_1 <| And.intro @T15_at_rstep <| And.intro @F_rstep_1 <| And.intro @T15_at_whole <| And.intro @F_whole_1 <| And.intro @T15_at_put <| And.intro @F_put_1 <| And.intro @T15_at_uall <| And.intro @F_uall_1 <| And.intro @T15_at_rbegins <| And.intro @F_rbegins_1 <| And.intro @T15_at_appRune <| And.intro @F_appRune_1 <| And.intro @T15_at_appNon <| And.intro @F_appNon_1 <| And.intro @T15_at_step <| And.intro @F_step_1 <| And.intro @T15_at_ubegins <| And.intro @F_ubegins_1 <| And.intro @T15_at_decode <| And.intro @F_decode_1 <| And.intro @T15_at_full <| And.intro @F_full_1 <| And.intro @T15_at_clone <| And.intro @F_clone_nil <| And.intro @F_clone_non <| And.intro @T15_at_slow <| And.intro @F_slow_1 <| And.intro @T15_at_may <| And.intro @F_may_1 <| And.intro @T15_at_runes <| @F_runes_1) := And.intro @T15_at_some3 <| And.intro @F_some3_1 <| And.intro @T15_at_srune <| And.intro @F_srune_1 <| And.intro @T15_at_rall <| And.intro @F_rall_1 <| And.intro @T15_at_rform <| And.intro @F_rform_1 <| And.intro @T15_at_rstep <| And.intro @F_rstep_1 <| And.intro @T15_at_whole <| And.intro @F_whole_1 <| And.intro @T15_at_put <| And.intro @F_put_1 <| And.intro @T15_at_uall <| And.intro @F_uall_1 <| And.intro @T15_at_rbegins <| And.intro @F_rbegins_1 <| And.intro @T15_at_appRune <| And.intro @F_appRune_1 <| And.intro @T15_at_appNon <| And.intro @F_appNon_1 <| And.intro @T15_at_step <| And.intro @F_step_1 <| And.intro @T15_at_ubegins <| And.intro @F_ubegins_1 <| And.intro @T15_at_decode <| And.intro @F_decode_1 <| And.intro @T15_at_full <| And.intro @F_full_1 <| And.intro @T15_at_clone <| And.intro @F_clone_nil <| And.intro @F_clone_non <| And.intro @T15_at_slow <| And.intro @F_slow_1 <| And.intro @T15_at_may <| And.intro @F_may_1 <| And.intro @T15_at_runes <| @F_runes_1

def sruneF (k : Int) : Int := runes20.getD (k.tmod 20).toNat 0
theorem sruneF_in (k : Int) : 0 ≤ sruneF k ∧ sruneF k ≤ 1114111 := by
  unfold sruneF
  generalize (k.tmod 20).toNat = n
  by_cases h : n < 20
  · have : ∀ n, n < 20 → 0 ≤ runes20.getD n 0 ∧ runes20.getD n 0 ≤ 1114111 := by decide
    exact this n h
  · rw [List.getD_eq_getElem?_getD, List.getElem?_eq_none (by simp [runes20]; omega)]; simp
theorem srunes_P {sz_l : Nat} {k_l : SK} {l : List Int} (hs_l : sz_l = 1 ∨ l = []) (hk_l : inK .u8 l) (hp : l.length ≤ 10000000) :
    PCalls PG 23 [.sl sz_l (intRows .u8 l) k_l] fun n RR OO => RR = ((.sl 1 (intRows .i32 (l.map sruneF)) .any, []) : DV × Objs).1 ∧ OO = ((.sl 1 (intRows .i32 (l.map sruneF)) .any, []) : DV × Objs).2 := by
  refine PCalls.by_fn (res := fun n => (.sl 1 (intRows .i32 (l.map sruneF)) .any, [])) T15_ok rc_srunes_ok (by simp [rc_srunes]) fun n => ?_
  unfold rc_srunes
  dsimp only
  simp -implicitDefEqProofs only [T15_b, vcA1, vcA2, vcA3, vcA4, vcA5, vcA6, vcA7, ↓vcP1, ↓vcP2, ↓reduceIte, Option.map_some, Option.map_none, Option.bind_some, Option.bind_none, if_true, if_false, reduceCtorEq, beq_true, beq_false, Bool.not_true, Bool.not_false, BEq.rfl, Bool.true_beq, Bool.false_beq, and_true, true_and, and_self, decide_true, decide_false, List.length_cons, List.length_nil, List.all_cons, List.all_nil, Bool.and_true, Bool.and_self, List.getElem?_cons_zero, List.getElem?_cons_succ, List.set_cons_zero, List.set_cons_succ, List.nil_append, List.cons_append, List.append_nil, List.map_cons, List.map_nil, not_true_eq_false, not_false_eq_true, false_implies, true_implies, implies_true, List.take_succ_cons, List.take_zero, List.take_nil, List.drop_succ_cons, List.drop_zero, List.drop_nil, Nat.reduceLT, Nat.reduceLeDiff, Nat.reduceEqDiff, Nat.reduceAdd, Nat.reduceSub, Nat.reduceMul, Int.reduceLT, Int.reduceLE, Int.reduceEq, Int.reduceToNat, Int.reduceAdd, Int.reduceSub, Int.reduceNeg, List.reduceReplicate, List.replicate_zero, List.replicate_succ, ne_eq, List.flatMap_cons, List.flatMap_nil, List.length_replicate, List.length_append, Nat.le_refl, Nat.le_add_right, Nat.add_assoc, List.append_assoc, or_true, true_or, or_false, false_or, and_false, false_and, exists_eq_left, exists_eq_left', Option.some.injEq, DV.int.injEq, DV.bool.injEq, DV.sl.injEq, DV.own.injEq, DV.tup.injEq, List.cons.injEq, Ob.arr.injEq, Ob.box.injEq, Option.map_map, Int.toNat_natCast, Int.toNat_zero, Nat.reducePow, Int.toNat_one, Int.reduceMul, Nat.mul_one, Nat.zero_add, Nat.add_zero, Function.comp_apply, List.map_append, List.map_replicate, Int.cast_ofNat_Int, Nat.left_eq_add, Nat.add_eq_left, Nat.add_left_cancel_iff]
  refine LoopWp.own 3 1 rfl (.inl rfl) ?_
  refine LoopWp.invR T15_ok (S := fun m (i : Nat) => ⟨[(0, .sl sz_l (intRows .u8 l) k_l), (3, .own m 0 ((l.take i).map sruneF).length), (4, .int .i64 i)],
        List.replicate m none ++ [some (.arr 1 (intRows .i32 ((l.take i).map sruneF)))]⟩) (I := fun i => i ≤ l.length) (μ := fun i => l.length - i) n 0 (by omega) ?_ ?_
  · simp -implicitDefEqProofs only [List.take_zero, vcA1, vcA2, vcA3, vcA4, vcA5, vcA6, vcA7, ↓vcP1, ↓vcP2, ↓reduceIte, Option.map_some, Option.map_none, Option.bind_some, Option.bind_none, if_true, if_false, reduceCtorEq, beq_true, beq_false, Bool.not_true, Bool.not_false, BEq.rfl, Bool.true_beq, Bool.false_beq, and_true, true_and, and_self, decide_true, decide_false, List.length_cons, List.length_nil, List.all_cons, List.all_nil, Bool.and_true, Bool.and_self, List.getElem?_cons_zero, List.getElem?_cons_succ, List.set_cons_zero, List.set_cons_succ, List.nil_append, List.cons_append, List.append_nil, List.map_cons, List.map_nil, not_true_eq_false, not_false_eq_true, false_implies, true_implies, implies_true, List.take_succ_cons, List.take_zero, List.take_nil, List.drop_succ_cons, List.drop_zero, List.drop_nil, Nat.reduceLT, Nat.reduceLeDiff, Nat.reduceEqDiff, Nat.reduceAdd, Nat.reduceSub, Nat.reduceMul, Int.reduceLT, Int.reduceLE, Int.reduceEq, Int.reduceToNat, Int.reduceAdd, Int.reduceSub, Int.reduceNeg, List.reduceReplicate, List.replicate_zero, List.replicate_succ, ne_eq, List.flatMap_cons, List.flatMap_nil, List.length_replicate, List.length_append, Nat.le_refl, Nat.le_add_right, Nat.add_assoc, List.append_assoc, or_true, true_or, or_false, false_or, and_false, false_and, exists_eq_left, exists_eq_left', Option.some.injEq, DV.int.injEq, DV.bool.injEq, DV.sl.injEq, DV.own.injEq, DV.tup.injEq, List.cons.injEq, Ob.arr.injEq, Ob.box.injEq, Option.map_map, Int.toNat_natCast, Int.toNat_zero, Nat.reducePow, Int.toNat_one, Int.reduceMul, Nat.mul_one, Nat.zero_add, Nat.add_zero, Function.comp_apply, List.map_append, List.map_replicate, Int.cast_ofNat_Int, Nat.left_eq_add, Nat.add_eq_left, Nat.add_left_cancel_iff]
  · intro m i hm hi
    have htl : ((l.take i).map sruneF).length = i := by rw [List.length_map, List.length_take]; omega
    unfold rc_srunes_l0
    simp -implicitDefEqProofs only [T15_b, vcA1, vcA2, vcA3, vcA4, vcA5, vcA6, vcA7, ↓vcP1, ↓vcP2, ↓reduceIte, Option.map_some, Option.map_none, Option.bind_some, Option.bind_none, if_true, if_false, reduceCtorEq, beq_true, beq_false, Bool.not_true, Bool.not_false, BEq.rfl, Bool.true_beq, Bool.false_beq, and_true, true_and, and_self, decide_true, decide_false, List.length_cons, List.length_nil, List.all_cons, List.all_nil, Bool.and_true, Bool.and_self, List.getElem?_cons_zero, List.getElem?_cons_succ, List.set_cons_zero, List.set_cons_succ, List.nil_append, List.cons_append, List.append_nil, List.map_cons, List.map_nil, not_true_eq_false, not_false_eq_true, false_implies, true_implies, implies_true, List.take_succ_cons, List.take_zero, List.take_nil, List.drop_succ_cons, List.drop_zero, List.drop_nil, Nat.reduceLT, Nat.reduceLeDiff, Nat.reduceEqDiff, Nat.reduceAdd, Nat.reduceSub, Nat.reduceMul, Int.reduceLT, Int.reduceLE, Int.reduceEq, Int.reduceToNat, Int.reduceAdd, Int.reduceSub, Int.reduceNeg, List.reduceReplicate, List.replicate_zero, List.replicate_succ, ne_eq, List.flatMap_cons, List.flatMap_nil, List.length_replicate, List.length_append, Nat.le_refl, Nat.le_add_right, Nat.add_assoc, List.append_assoc, or_true, true_or, or_false, false_or, and_false, false_and, exists_eq_left, exists_eq_left', Option.some.injEq, DV.int.injEq, DV.bool.injEq, DV.sl.injEq, DV.own.injEq, DV.tup.injEq, List.cons.injEq, Ob.arr.injEq, Ob.box.injEq, Option.map_map, Int.toNat_natCast, Int.toNat_zero, Nat.reducePow, Int.toNat_one, Int.reduceMul, Nat.mul_one, Nat.zero_add, Nat.add_zero, Function.comp_apply, List.map_append, List.map_replicate, Int.cast_ofNat_Int, Nat.left_eq_add, Nat.add_eq_left, Nat.add_left_cancel_iff]
    refine ⟨fun h => ?_, fun h => ?_⟩
    · have h0 : i < l.length := by omega
      have hsz : sz_l = 1 := hs_l.resolve_right fun e => by simp [e] at h0
      have hb := getD_lt hk_l h0
      have hgd : l.getD i 0 = l[i] := by rw [List.getD_eq_getElem?_getD, List.getElem?_eq_getElem h0]; rfl
      have e : (l.take (i + 1)).map sruneF = (l.take i).map sruneF ++ [sruneF (l.getD i 0)] := by
        rw [List.take_succ_eq_append_getElem h0, List.map_append, hgd]; rfl
      refine ⟨⟨by omega, h, hsz⟩, h0, hb, ⟨by omega, by omega⟩, by omega, i + 1, ?_, by omega, by omega⟩
      rw [e]
      exact ⟨⟨by simp, by rw [wI64] <;> omega⟩, rfl⟩
    · have h1 : i = l.length := by omega
      subst h1
      rw [List.take_length, List.take_length]
      exact ⟨by omega, rfl⟩
def F_srunes : List DV → Option FSpec
  | [a_l] => some ⟨isInts .u8 a_l ∧ (intsD a_l).length ≤ 10000000, fun n => (.sl 1 (intRows .i32 ((intsD a_l).map sruneF)) .any, [])⟩
  | _ => none
theorem F_srunes_1 (a_l : DV) : F_srunes [a_l] = some ⟨isInts .u8 a_l ∧ (intsD a_l).length ≤ 10000000, fun n => (.sl 1 (intRows .i32 ((intsD a_l).map sruneF)) .any, [])⟩ := nrfl _
theorem srunes_ok (args : List DV) (s : FSpec) (hs : F_srunes args = some s) (hp : s.pre) : PCalls PG 23 args fun n r os => r = (s.res n).1 ∧ os = (s.res n).2 := by
  unfold F_srunes at hs
  split at hs
  · rename_i a_l
    obtain rfl := Option.some.inj hs
    obtain ⟨hi_l, hp⟩ := hp
    obtain ⟨s0_l, k0_l, h1_l, h2_l, h3_l⟩ := isInts_inv hi_l
    have this := srunes_P (k_l := k0_l) h2_l h3_l hp
    rw [← h1_l] at this
    exact this
  · cases hs

theorem ints_nil : ints [] = [] := nrfl _
theorem k3a : ustep [] 195 = ([195], []) := by decide
theorem k3b : ustep [195] 169 = ([], [233]) := by decide
theorem k3c : uallF [97, 255, 195, 169, 230] = ([97, 65533, 233], [230]) := by decide
theorem k3d : enc 28450 = [230, 188, 162] := by decide
theorem k3e : ubeg [230] = true := by decide
theorem k3f : ubeg [192] = false := by decide
theorem inK_lit (l : List Int) (k : IntKind) : inK k l = (l.length ≤ 4611686018427387904 ∧ ∀ n ∈ l, k.min ≤ n ∧ n ≤ k.max) := nrfl _
theorem known3_P : PCalls PG 12 [] fun n r os => r = .bool true ∧ os = [] := by
  refine PCalls.by_fn (res := fun n => (.bool true, [])) T15_ok rc_known3_ok (by simp [rc_known3]) fun n => ?_
  unfold rc_known3
  dsimp only
  simp -implicitDefEqProofs only [T15_b, ints_intRows, ints_nil, k3a, k3b, k3c, k3d, k3e, k3f, vcA1, vcA2, vcA3, vcA4, vcA5, vcA6, vcA7, ↓vcP1, ↓vcP2, ↓reduceIte, Option.map_some, Option.map_none, Option.bind_some, Option.bind_none, if_true, if_false, reduceCtorEq, beq_true, beq_false, Bool.not_true, Bool.not_false, BEq.rfl, Bool.true_beq, Bool.false_beq, and_true, true_and, and_self, decide_true, decide_false, List.length_cons, List.length_nil, List.all_cons, List.all_nil, Bool.and_true, Bool.and_self, List.getElem?_cons_zero, List.getElem?_cons_succ, List.set_cons_zero, List.set_cons_succ, List.nil_append, List.cons_append, List.append_nil, List.map_cons, List.map_nil, not_true_eq_false, not_false_eq_true, false_implies, true_implies, implies_true, List.take_succ_cons, List.take_zero, List.take_nil, List.drop_succ_cons, List.drop_zero, List.drop_nil, Nat.reduceLT, Nat.reduceLeDiff, Nat.reduceEqDiff, Nat.reduceAdd, Nat.reduceSub, Nat.reduceMul, Int.reduceLT, Int.reduceLE, Int.reduceEq, Int.reduceToNat, Int.reduceAdd, Int.reduceSub, Int.reduceNeg, List.reduceReplicate, List.replicate_zero, List.replicate_succ, ne_eq, List.flatMap_cons, List.flatMap_nil, List.length_replicate, List.length_append, Nat.le_refl, Nat.le_add_right, Nat.add_assoc, List.append_assoc, or_true, true_or, or_false, false_or, and_false, false_and, exists_eq_left, exists_eq_left', Option.some.injEq, DV.int.injEq, DV.bool.injEq, DV.sl.injEq, DV.own.injEq, DV.tup.injEq, List.cons.injEq, Ob.arr.injEq, Ob.box.injEq, Option.map_map, Int.toNat_natCast, Int.toNat_zero, Nat.reducePow, Int.toNat_one, Int.reduceMul, Nat.mul_one, Nat.zero_add, Nat.add_zero, Function.comp_apply, List.map_append, List.map_replicate, Int.cast_ofNat_Int, Nat.left_eq_add, Nat.add_eq_left, Nat.add_left_cancel_iff]
  have hc : ([UInt8.ofNat 230, UInt8.ofNat 188, UInt8.ofNat 162] == [230, 188, 162]) = true := by decide
  rw [hc, cnd_true]
  refine ⟨inK_u8 (by decide) (by decide), inK_u8 (by decide) (by decide), inK_u8 (by decide) (by decide), inK_u8 (by decide) (by decide)⟩
def F_known3 : List DV → Option FSpec
  | [] => some ⟨True, fun n => (.bool true, [])⟩
  | _ => none
theorem F_known3_1 : F_known3 [] = some ⟨True, fun n => (.bool true, [])⟩ := nrfl _
theorem known3_ok (args : List DV) (s : FSpec) (hs : F_known3 args = some s) (hp : s.pre) : PCalls PG 12 args fun n r os => r = (s.res n).1 ∧ os = (s.res n).2 := by
  unfold F_known3 at hs
  split at hs
  · obtain rfl := Option.some.inj hs
    exact known3_P
  · cases hs
def T16 : List (Nat × (List DV → Option FSpec)) := (12, F_known3) :: (23, F_srunes) :: T15
theorem T16_ok : FOk PG (tab T16) := FOk.cons (FOk.cons (T15_ok) srunes_ok) known3_ok
theorem T16_at_known3 (args : List DV) : tab T16 12 args = F_known3 args := nrfl _
theorem T16_at_srunes (args : List DV) : tab T16 23 args = F_srunes args := nrfl _
theorem T16_at_some3 (args : List DV) : tab T16 13 args = F_some3 args := nrfl _
theorem T16_at_srune (args : List DV) : tab T16 40 args = F_srune args := nrfl _
theorem T16_at_rall (args : List DV) : tab T16 15 args = F_rall args := nrfl _
theorem T16_at_rform (args : List DV) : tab T16 22 args = F_rform args := nrfl _
theorem T16_at_rstep (args : List DV) : tab T16 18 args = F_rstep args := nrfl _
theorem T16_at_whole (args : List DV) : tab T16 37 args = F_whole args := nrfl _
theorem T16_at_put (args : List DV) : tab T16 21 args = F_put args := nrfl _
theorem T16_at_uall (args : List DV) : tab T16 14 args = F_uall args := nrfl _
theorem T16_at_rbegins (args : List DV) : tab T16 20 args = F_rbegins args := nrfl _
theorem T16_at_appRune (args : List DV) : tab T16 39 args = F_appRune args := nrfl _
theorem T16_at_appNon (args : List DV) : tab T16 50 args = F_appNon args := nrfl _
theorem T16_at_step (args : List DV) : tab T16 17 args = F_step args := nrfl _
theorem T16_at_ubegins (args : List DV) : tab T16 19 args = F_ubegins args := nrfl _
theorem T16_at_decode (args : List DV) : tab T16 36 args = F_decode args := nrfl _
theorem T16_at_full (args : List DV) : tab T16 38 args = F_full args := nrfl _
theorem T16_at_clone (args : List DV) : tab T16 35 args = F_clone args := nrfl _
theorem T16_at_slow (args : List DV) : tab T16 49 args = F_slow args := nrfl _
theorem T16_at_may (args : List DV) : tab T16 24 args = F_may args := nrfl _
theorem T16_at_runes (args : List DV) : tab T16 16 args = F_runes args := nrfl _
theorem T16_b : type_of% (And.intro @T16_at_known3 <| And.intro @F_known3_1 <| And.intro @T16_at_srunes <| And.intro @F_srunes_1 <| And.intro @T16_at_some3 <| And.intro @F_some3_1 <| And.intro @T16_at_srune <| And.intro @F_srune_1 <| And.intro @T16_at_rall <| And.intro @F_rall_1 <| And.intro @T16_at_rform <| And.intro @F_rform_1 <| And.intro @T16_at_rstep <| And.intro @F_rstep_1 <| And.intro @T16_at_whole <| And.intro @F_whole_1 <| And.intro @T16_at_put <| And.intro @F_put_1 <| And.intro @T16_at_uall <| And.intro @F_uall_1 <| And.intro @T16_at_rbegins <| And.intro @F_rbegins_1 <| And.intro @T16_at_appRune <| And.intro @F_appRune_1 <| And.intro @T16_at_appNon <| And.intro @F_appNon_1 <| And.intro @T16_at_step <| And.intro @F_step_1 <| And.intro @T16_at_ubegins <| And.intro @F_ubegins_1 <| And.intro @T16_at_decode <| And.intro @F_decode_1 <| And.intro @T16_at_full <| And.intro @F_full_1 <| And.intro @T16_at_clone <| And.intro @F_clone_nil <| And.intro @F_clone_non <| And.intro @T16_at_slow <| And.intro @F_slow_1 <| And.intro @T16_at_may <| And.intro @F_may_1 <| And.intro @T16_at_runes <| @F_runes_1) := And.intro @T16_at_known3 <| And.intro @F_known3_1 <| And.intro @T16_at_srunes <| And.intro @F_srunes_1 <| And.intro @T16_at_some3 <| And.intro @F_some3_1 <| And.intro @T16_at_srune <| And.intro @F_srune_1 <| And.intro @T16_at_rall <| And.intro @F_rall_1 <| And.intro @T16_at_rform <| And.intro @F_rform_1 <| And.intro @T16_at_rstep <| And.intro @F_rstep_1 <| And.intro @T16_at_whole <| And.intro @F_whole_1 <| And.intro @T16_at_put <| And.intro @F_put_1 <| And.intro @T16_at_uall <| And.intro @F_uall_1 <| And.intro @T16_at_rbegins <| And.intro @F_rbegins_1 <| And.intro @T16_at_appRune <| And.intro @F_appRune_1 <| And.intro @T16_at_appNon <| And.intro @F_appNon_1 <| And.intro @T16_at_step <| And.intro @F_step_1 <| And.intro @T16_at_ubegins <| And.intro @F_ubegins_1 <| And.intro @T16_at_decode <| And.intro @F_decode_1 <| And.intro @T16_at_full <| And.intro @F_full_1 <| And.intro @T16_at_clone <| And.intro @F_clone_nil <| And.intro @F_clone_non <| And.intro @T16_at_slow <| And.intro @F_slow_1 <| And.intro @T16_at_may <| And.intro @F_may_1 <| And.intro @T16_at_runes <| @F_runes_1

end Go.Proofs.YteemmpghpdaloaaDoor
