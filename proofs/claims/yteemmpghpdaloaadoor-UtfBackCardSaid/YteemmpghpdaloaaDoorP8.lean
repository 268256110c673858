/- The document's functions of chapter 3. -/
import Derived.Test.YteemmpghpdaloaaDoorP7
set_option linter.unusedVariables false
set_option linter.unusedSimpArgs false
set_option maxRecDepth 10000
namespace Go.Proofs.YteemmpghpdaloaaDoor
open Go.RowKit

noncomputable def rc_rbegins_l0 : RC := (.seq (.seq (.reg [⟨(some 39), (.mov (.t 4)), none, false⟩, ⟨(some 40), (.mov (.t 0)), none, false⟩, ⟨(some 41), (.len (.t 40)), none, false⟩, ⟨(some 42), (.bin .lss (.t 39) (.t 41)), none, false⟩] 0 [0, 4, 42]) (.cond (.t 42) .skip (.ext 0))) (.seq (.blk 1 (.seq (.reg [⟨(some 45), (.mov (.t 0)), none, false⟩, ⟨(some 46), (.mov (.t 4)), none, false⟩, ⟨(some 47), (.iaddr 1 (.t 45) (.t 46)), none, false⟩, ⟨(some 48), (.load false 1 (.t 47)), none, false⟩, ⟨(some 49), (.bin .and (.t 48) (.c (.int .u8 192))), none, false⟩, ⟨(some 50), (.bin .neq (.t 49) (.c (.int .u8 128))), none, false⟩] 0 [0, 4, 50]) (.cond (.t 50) (.seq (.reg [⟨(some 2), (.mov (.c (.bool false))), none, false⟩] 0 [2]) .ret) .skip))) (.reg [⟨(some 43), (.mov (.t 4)), none, false⟩, ⟨(some 44), (.bin .add (.t 43) (.c (.int .i64 1))), none, false⟩, ⟨(some 4), (.mov (.t 44)), none, false⟩] 0 [0, 4])))
noncomputable def rc_rbegins : RFn := ⟨1, 77, (.seq (.reg [⟨(some 2), (.mov (.c (.bool false))), none, false⟩] 0 [0]) (.seq (.seq (.reg [⟨(some 7), (.mov (.t 0)), none, false⟩, ⟨(some 8), (.len (.t 7)), none, false⟩, ⟨(some 9), (.bin .lss (.t 8) (.c (.int .i64 1))), none, false⟩, ⟨(some 10), (.mov (.t 9)), none, false⟩, ⟨(some 11), (.mov (.t 0)), (some (10, false)), false⟩, ⟨(some 12), (.len (.t 11)), (some (10, false)), false⟩, ⟨(some 13), (.bin .gtr (.t 12) (.c (.int .i64 3))), (some (10, false)), false⟩, ⟨(some 14), (.pick (.t 10) (.c (.bool true)) (.t 13)), none, false⟩, ⟨(some 15), (.mov (.t 14)), none, false⟩, ⟨(some 16), (.mov (.t 0)), (some (15, false)), false⟩, ⟨(some 17), (.iaddr 1 (.t 16) (.c (.int .i64 0))), (some (15, false)), false⟩, ⟨(some 18), (.load false 1 (.t 17)), (some (15, false)), false⟩, ⟨(some 19), (.bin .lss (.t 18) (.c (.int .u8 194))), (some (15, false)), false⟩, ⟨(some 20), (.pick (.t 15) (.c (.bool true)) (.t 19)), none, false⟩, ⟨(some 21), (.mov (.t 20)), none, false⟩, ⟨(some 22), (.mov (.t 0)), (some (21, false)), false⟩, ⟨(some 23), (.iaddr 1 (.t 22) (.c (.int .i64 0))), (some (21, false)), false⟩, ⟨(some 24), (.load false 1 (.t 23)), (some (21, false)), false⟩, ⟨(some 25), (.bin .gtr (.t 24) (.c (.int .u8 244))), (some (21, false)), false⟩, ⟨(some 26), (.pick (.t 21) (.c (.bool true)) (.t 25)), none, false⟩] 0 [0, 26]) (.cond (.t 26) (.seq (.reg [⟨(some 2), (.mov (.c (.bool false))), none, false⟩] 0 [2]) .ret) .skip)) (.seq (.reg [⟨(some 3), (.mov (.c (.int .i64 2))), none, false⟩] 0 [0, 3]) (.seq (.seq (.reg [⟨(some 27), (.mov (.t 0)), none, false⟩, ⟨(some 28), (.iaddr 1 (.t 27) (.c (.int .i64 0))), none, false⟩, ⟨(some 29), (.load false 1 (.t 28)), none, false⟩, ⟨(some 30), (.bin .geq (.t 29) (.c (.int .u8 224))), none, false⟩] 0 [0, 3, 30]) (.cond (.t 30) (.reg [⟨(some 3), (.mov (.c (.int .i64 3))), none, false⟩] 0 [0, 3]) .skip)) (.seq (.seq (.reg [⟨(some 31), (.mov (.t 0)), none, false⟩, ⟨(some 32), (.iaddr 1 (.t 31) (.c (.int .i64 0))), none, false⟩, ⟨(some 33), (.load false 1 (.t 32)), none, false⟩, ⟨(some 34), (.bin .geq (.t 33) (.c (.int .u8 240))), none, false⟩] 0 [0, 3, 34]) (.cond (.t 34) (.reg [⟨(some 3), (.mov (.c (.int .i64 4))), none, false⟩] 0 [0, 3]) .skip)) (.seq (.seq (.reg [⟨(some 35), (.mov (.t 0)), none, false⟩, ⟨(some 36), (.len (.t 35)), none, false⟩, ⟨(some 37), (.mov (.t 3)), none, false⟩, ⟨(some 38), (.bin .geq (.t 36) (.t 37)), none, false⟩] 0 [0, 38]) (.cond (.t 38) (.seq (.reg [⟨(some 2), (.mov (.c (.bool false))), none, false⟩] 0 [2]) .ret) .skip)) (.seq (.seq (.reg [⟨(some 4), (.mov (.c (.int .i64 1))), none, false⟩] 0 [0, 4]) (.blk 0 (.loop rc_rbegins_l0))) (.seq (.seq (.reg [⟨(some 51), (.mov (.t 0)), none, false⟩, ⟨(some 52), (.len (.t 51)), none, false⟩, ⟨(some 53), (.bin .eql (.t 52) (.c (.int .i64 1))), none, false⟩] 0 [0, 53]) (.cond (.t 53) (.seq (.reg [⟨(some 2), (.mov (.c (.bool true))), none, false⟩] 0 [2]) .ret) .skip)) (.seq (.reg [⟨(some 5), (.mov (.c (.int .u8 128))), none, false⟩, ⟨(some 6), (.mov (.c (.int .u8 191))), none, false⟩] 0 [0, 5, 6]) (.seq (.seq (.reg [⟨(some 54), (.mov (.t 0)), none, false⟩, ⟨(some 55), (.iaddr 1 (.t 54) (.c (.int .i64 0))), none, false⟩, ⟨(some 56), (.load false 1 (.t 55)), none, false⟩] 0 [0, 5, 6, 56]) (.blk 2 (.seq (.reg [⟨(some 58), (.bin .eql (.t 56) (.c (.int .u8 224))), none, false⟩, ⟨(some 57), (.mov (.t 58)), none, false⟩] 0 [0, 5, 6, 56, 57]) (.cond (.t 57) (.reg [⟨(some 5), (.mov (.c (.int .u8 160))), none, false⟩] 0 [0, 5, 6]) (.seq (.reg [⟨(some 60), (.bin .eql (.t 56) (.c (.int .u8 237))), none, false⟩, ⟨(some 59), (.mov (.t 60)), none, false⟩] 0 [0, 5, 6, 56, 59]) (.cond (.t 59) (.reg [⟨(some 6), (.mov (.c (.int .u8 159))), none, false⟩] 0 [0, 5, 6]) (.seq (.reg [⟨(some 62), (.bin .eql (.t 56) (.c (.int .u8 240))), none, false⟩, ⟨(some 61), (.mov (.t 62)), none, false⟩] 0 [0, 5, 6, 56, 61]) (.cond (.t 61) (.reg [⟨(some 5), (.mov (.c (.int .u8 144))), none, false⟩] 0 [0, 5, 6]) (.seq (.reg [⟨(some 64), (.bin .eql (.t 56) (.c (.int .u8 244))), none, false⟩, ⟨(some 63), (.mov (.t 64)), none, false⟩] 0 [0, 5, 6, 63]) (.cond (.t 63) (.reg [⟨(some 6), (.mov (.c (.int .u8 143))), none, false⟩] 0 [0, 5, 6]) .skip)))))))))) (.seq (.reg [⟨(some 65), (.mov (.t 0)), none, false⟩, ⟨(some 66), (.iaddr 1 (.t 65) (.c (.int .i64 1))), none, false⟩, ⟨(some 67), (.load false 1 (.t 66)), none, false⟩, ⟨(some 68), (.mov (.t 5)), none, false⟩, ⟨(some 69), (.bin .geq (.t 67) (.t 68)), none, false⟩, ⟨(some 70), (.mov (.t 69)), none, false⟩, ⟨(some 71), (.mov (.t 0)), (some (70, true)), false⟩, ⟨(some 72), (.iaddr 1 (.t 71) (.c (.int .i64 1))), (some (70, true)), false⟩, ⟨(some 73), (.load false 1 (.t 72)), (some (70, true)), false⟩, ⟨(some 74), (.mov (.t 6)), (some (70, true)), false⟩, ⟨(some 75), (.bin .leq (.t 73) (.t 74)), (some (70, true)), false⟩, ⟨(some 76), (.pick (.t 70) (.t 75) (.c (.bool false))), none, false⟩, ⟨(some 2), (.mov (.t 76)), none, false⟩] 0 [2]) .ret))))))))))), [(.t 2)]⟩
theorem rc_rbegins_ok : compFn PG.P [⟨0, 0, [0], []⟩, ⟨1, 0, [0, 26], []⟩, ⟨2, 0, [2], []⟩, ⟨3, 0, [0, 3], []⟩, ⟨4, 0, [0, 3, 30], []⟩, ⟨5, 0, [0, 3], []⟩, ⟨6, 0, [0, 3, 34], []⟩, ⟨7, 0, [0, 3], []⟩, ⟨8, 0, [0, 38], []⟩, ⟨9, 0, [2], []⟩, ⟨10, 0, [0, 4], []⟩, ⟨11, 0, [0, 4, 42], []⟩, ⟨12, 0, [0, 4], []⟩, ⟨13, 0, [0, 4, 50], []⟩, ⟨14, 0, [2], []⟩, ⟨15, 0, [0, 53], []⟩, ⟨16, 0, [2], []⟩, ⟨17, 0, [0, 5, 6], []⟩, ⟨18, 0, [0, 5, 6, 56], []⟩, ⟨19, 0, [0, 5, 6, 56, 57], []⟩, ⟨20, 0, [0, 5, 6], []⟩, ⟨21, 0, [0, 5, 6, 56, 59], []⟩, ⟨22, 0, [0, 5, 6], []⟩, ⟨23, 0, [0, 5, 6, 56, 61], []⟩, ⟨24, 0, [0, 5, 6], []⟩, ⟨25, 0, [0, 5, 6, 63], []⟩, ⟨26, 0, [0, 5, 6], []⟩, ⟨27, 0, [2], []⟩] 20 = some rc_rbegins := by kernel_rfl

/-- The document's 'Begins'. -/
def rlo (b : Int) : Int := if b = 224 then 160 else if b = 240 then 144 else 128
def rhi (b : Int) : Int := if b = 237 then 159 else if b = 244 then 143 else 191
def rnum (b : Int) : Int := if 240 ≤ b then 4 else if 224 ≤ b then 3 else 2
def cont (l : List Int) : Prop := ∀ i, 1 ≤ i → i < l.length → 128 ≤ l.getD i 0 ∧ l.getD i 0 < 192
theorem rbegins_P {sz : Nat} {k_l : SK} {l : List Int} (hs : sz = 1 ∨ l = []) (hk : inK .u8 l) :
    PCalls PG 20 [.sl sz (intRows .u8 l) k_l] fun n r os => r = .bool (ubeg l) ∧ os = [] := by
  refine PCalls.by_fn (res := fun n => (.bool (ubeg l), [])) T6_ok rc_rbegins_ok (by simp [rc_rbegins]) fun n => ?_
  unfold rc_rbegins
  dsimp only
  simp -implicitDefEqProofs only [tab_cons, vcA1, vcA2, vcA3, vcA4, vcA5, vcA6, vcA7, ↓vcP1, ↓vcP2, ↓reduceIte, Option.map_some, Option.map_none, Option.bind_some, Option.bind_none, if_true, if_false, reduceCtorEq, beq_true, beq_false, Bool.not_true, Bool.not_false, BEq.rfl, Bool.true_beq, Bool.false_beq, and_true, true_and, and_self, decide_true, decide_false, List.length_cons, List.length_nil, List.all_cons, List.all_nil, Bool.and_true, Bool.and_self, List.getElem?_cons_zero, List.getElem?_cons_succ, List.set_cons_zero, List.set_cons_succ, List.nil_append, List.cons_append, List.append_nil, List.map_cons, List.map_nil, not_true_eq_false, not_false_eq_true, false_implies, true_implies, implies_true, List.take_succ_cons, List.take_zero, List.take_nil, List.drop_succ_cons, List.drop_zero, List.drop_nil, Nat.reduceLT, Nat.reduceLeDiff, Nat.reduceEqDiff, Nat.reduceAdd, Nat.reduceSub, Nat.reduceMul, Int.reduceLT, Int.reduceLE, Int.reduceEq, Int.reduceToNat, Int.reduceAdd, Int.reduceSub, Int.reduceNeg, List.reduceReplicate, List.replicate_zero, List.replicate_succ, ne_eq, List.flatMap_cons, List.flatMap_nil, List.length_replicate, List.length_append, Nat.le_refl, Nat.le_add_right, Nat.add_assoc, List.append_assoc, or_true, true_or, or_false, false_or, and_false, false_and, exists_eq_left, exists_eq_left', Option.some.injEq, DV.int.injEq, DV.bool.injEq, DV.sl.injEq, DV.own.injEq, DV.tup.injEq, List.cons.injEq, Ob.arr.injEq, Ob.box.injEq, Option.map_map, Int.toNat_natCast, Int.toNat_zero, Nat.reducePow, Int.toNat_one, Int.reduceMul, Nat.mul_one, Nat.zero_add, Nat.add_zero, Function.comp_apply, List.map_append, List.map_replicate, Int.cast_ofNat_Int, Nat.left_eq_add, Nat.add_eq_left, Nat.add_left_cancel_iff]
  by_cases h0 : l.length = 0
  · have : ubeg l = false := by simp [ubeg, h0]
    simp [h0, this]
  have hsz : sz = 1 := hs.resolve_right fun e => h0 (by simp [e])
  have hb0 : ∀ i, i < l.length → 0 ≤ l.getD i 0 ∧ l.getD i 0 ≤ 255 := fun i hi => by
    rw [List.getD_eq_getElem?_getD, List.getElem?_eq_getElem hi]
    exact hk.u8 (List.getElem_mem hi)
  have hl0 : 0 < l.length := by omega
  have hbad : firstF (l.getD 0 0) = 241 → ubeg l = false := fun hf => by
    have : full l = true := by
      unfold full
      rw [if_neg h0, hf, if_pos (by omega)]
    simp [ubeg, this]
  refine ⟨fun h => by omega, fun _ => ⟨fun h => ?_, fun h3 => ⟨⟨by omega, hsz⟩, hl0, fun h => ?_, fun h194 => ⟨⟨by omega, hsz⟩, hl0, fun h => ?_, fun h244 => ⟨⟨by omega, hsz⟩, hl0, ?_⟩⟩⟩⟩⟩
  · simp [ubeg, show ¬ l.length < 4 by omega]
  · by_cases hs : l.getD 0 0 < 128
    · have : ubeg l = false := by simp only [ubeg, decide_eq_false (show ¬ 128 ≤ l.getD 0 0 by omega), Bool.and_false, Bool.false_and]
      rw [this]
    · exact (hbad (by unfold firstF; rw [if_neg hs, if_pos h])).symm
  · exact (hbad (by unfold firstF; repeat (first | rw [if_neg (by omega)] | rfl))).symm
  have hnum : firstF (l.getD 0 0) % 8 = rnum (l.getD 0 0) := by
    unfold firstF rnum
    repeat (first | rw [if_neg (by omega)] | split | rfl | omega)
  have hfull : rnum (l.getD 0 0) ≤ (l.length : Int) → false = ubeg l := fun h => by
    have : full l = true := by
      unfold full
      rw [if_neg h0, hnum, if_pos h]
    simp [ubeg, this]
  have r4 : 240 ≤ l.getD 0 0 → rnum (l.getD 0 0) = 4 := fun h => by unfold rnum; rw [if_pos h]
  have r3 : ¬ 240 ≤ l.getD 0 0 → 224 ≤ l.getD 0 0 → rnum (l.getD 0 0) = 3 := fun h h2 => by unfold rnum; rw [if_neg h, if_pos h2]
  have r2 : ¬ 224 ≤ l.getD 0 0 → rnum (l.getD 0 0) = 2 := fun h => by unfold rnum; rw [if_neg (by omega), if_neg h]
  have hlo : accLo (firstF (l.getD 0 0) / 16) = rlo (l.getD 0 0) ∧ accHi (firstF (l.getD 0 0) / 16) = rhi (l.getD 0 0) := by
    have hd : l.getD 0 0 < 224 ∨ l.getD 0 0 = 224 ∨ (224 < l.getD 0 0 ∧ l.getD 0 0 < 237) ∨ l.getD 0 0 = 237 ∨ (237 < l.getD 0 0 ∧ l.getD 0 0 < 240) ∨ l.getD 0 0 = 240 ∨ (240 < l.getD 0 0 ∧ l.getD 0 0 < 244) ∨ l.getD 0 0 = 244 := by omega
    generalize l.getD 0 0 = b at hd h194 ⊢
    unfold firstF rlo rhi
    rcases hd with h | h | h | h | h | h | h | h <;> (repeat (first | rw [if_neg (by omega)] | rw [if_pos (by omega)])) <;> (first | exact ⟨rfl, rfl⟩ | (constructor <;> (repeat (first | rw [if_neg (by omega)] | rw [if_pos (by omega)])) <;> rfl))
  have hU : (l.length : Int) < rnum (l.getD 0 0) → ubeg l = decide (¬ (1 < l.length ∧ (l.getD 1 0 < rlo (l.getD 0 0) ∨ rhi (l.getD 0 0) < l.getD 1 0)) ∧ ¬ (2 < l.length ∧ (l.getD 2 0 < 128 ∨ 191 < l.getD 2 0))) := fun h => by
    have e1 : decide (0 < l.length) = true := by simp; omega
    have e2 : decide (l.length < 4) = true := by simp; omega
    have e3 : decide (128 ≤ l.getD 0 0) = true := by simp only [decide_eq_true_eq]; omega
    unfold ubeg full
    rw [e1, e2, e3, if_neg h0, hnum, if_neg (by omega), hlo.1, hlo.2]
    split
    · rename_i h5; simp only [h5]; simp
    · rename_i h5
      split
      · rename_i h6; simp only [h6]; simp
      · rename_i h6; simp only [h5, h6]; simp
  refine ⟨fun h2 => ⟨⟨by omega, hsz⟩, hl0, fun h4 => ⟨fun h => hfull (by rw [r4 h4]; exact h), fun hL => ?_⟩, fun h4 => ⟨fun h => hfull (by rw [r3 h4 h2]; exact h), fun hL => ?_⟩⟩, fun h2 => ⟨⟨by omega, hsz⟩, hl0, fun h4 => by omega, fun h4 => ⟨fun h => hfull (by rw [r2 h2]; exact h), fun hL => ?_⟩⟩⟩
  all_goals
    have hlt : (l.length : Int) < rnum (l.getD 0 0) := by first | (rw [r4 h4]; omega) | (rw [r3 h4 h2]; omega) | (rw [r2 h2]; omega)
    clear hL hbad
    refine LoopWp.inv T6_ok (S := fun i : Nat => ⟨[(0, .sl sz (intRows .u8 l) k_l), (4, .int .i64 i)], List.replicate n none⟩) (I := fun i => 1 ≤ i ∧ i ≤ l.length ∧ ∀ j, 1 ≤ j → j < i → 128 ≤ l.getD j 0 ∧ l.getD j 0 < 192) (μ := fun i => l.length - i) 1 ⟨by omega, by omega, fun j a b => by omega⟩ ?_ ?_
  case refine_1.refine_1 =>
    simp -implicitDefEqProofs only [vcA1, vcA2, vcA3, vcA4, vcA5, vcA6, vcA7, ↓vcP1, ↓vcP2, ↓reduceIte, Option.map_some, Option.map_none, Option.bind_some, Option.bind_none, if_true, if_false, reduceCtorEq, beq_true, beq_false, Bool.not_true, Bool.not_false, BEq.rfl, Bool.true_beq, Bool.false_beq, and_true, true_and, and_self, decide_true, decide_false, List.length_cons, List.length_nil, List.all_cons, List.all_nil, Bool.and_true, Bool.and_self, List.getElem?_cons_zero, List.getElem?_cons_succ, List.set_cons_zero, List.set_cons_succ, List.nil_append, List.cons_append, List.append_nil, List.map_cons, List.map_nil, not_true_eq_false, not_false_eq_true, false_implies, true_implies, implies_true, List.take_succ_cons, List.take_zero, List.take_nil, List.drop_succ_cons, List.drop_zero, List.drop_nil, Nat.reduceLT, Nat.reduceLeDiff, Nat.reduceEqDiff, Nat.reduceAdd, Nat.reduceSub, Nat.reduceMul, Int.reduceLT, Int.reduceLE, Int.reduceEq, Int.reduceToNat, Int.reduceAdd, Int.reduceSub, Int.reduceNeg, List.reduceReplicate, List.replicate_zero, List.replicate_succ, ne_eq, List.flatMap_cons, List.flatMap_nil, List.length_replicate, List.length_append, Nat.le_refl, Nat.le_add_right, Nat.add_assoc, List.append_assoc, or_true, true_or, or_false, false_or, and_false, false_and, exists_eq_left, exists_eq_left', Option.some.injEq, DV.int.injEq, DV.bool.injEq, DV.sl.injEq, DV.own.injEq, DV.tup.injEq, List.cons.injEq, Ob.arr.injEq, Ob.box.injEq, Option.map_map, Int.toNat_natCast, Int.toNat_zero, Nat.reducePow, Int.toNat_one, Int.reduceMul, Nat.mul_one, Nat.zero_add, Nat.add_zero, Function.comp_apply, List.map_append, List.map_replicate, Int.cast_ofNat_Int, Nat.left_eq_add, Nat.add_eq_left, Nat.add_left_cancel_iff]
  case refine_2.refine_1 =>
    simp -implicitDefEqProofs only [vcA1, vcA2, vcA3, vcA4, vcA5, vcA6, vcA7, ↓vcP1, ↓vcP2, ↓reduceIte, Option.map_some, Option.map_none, Option.bind_some, Option.bind_none, if_true, if_false, reduceCtorEq, beq_true, beq_false, Bool.not_true, Bool.not_false, BEq.rfl, Bool.true_beq, Bool.false_beq, and_true, true_and, and_self, decide_true, decide_false, List.length_cons, List.length_nil, List.all_cons, List.all_nil, Bool.and_true, Bool.and_self, List.getElem?_cons_zero, List.getElem?_cons_succ, List.set_cons_zero, List.set_cons_succ, List.nil_append, List.cons_append, List.append_nil, List.map_cons, List.map_nil, not_true_eq_false, not_false_eq_true, false_implies, true_implies, implies_true, List.take_succ_cons, List.take_zero, List.take_nil, List.drop_succ_cons, List.drop_zero, List.drop_nil, Nat.reduceLT, Nat.reduceLeDiff, Nat.reduceEqDiff, Nat.reduceAdd, Nat.reduceSub, Nat.reduceMul, Int.reduceLT, Int.reduceLE, Int.reduceEq, Int.reduceToNat, Int.reduceAdd, Int.reduceSub, Int.reduceNeg, List.reduceReplicate, List.replicate_zero, List.replicate_succ, ne_eq, List.flatMap_cons, List.flatMap_nil, List.length_replicate, List.length_append, Nat.le_refl, Nat.le_add_right, Nat.add_assoc, List.append_assoc, or_true, true_or, or_false, false_or, and_false, false_and, exists_eq_left, exists_eq_left', Option.some.injEq, DV.int.injEq, DV.bool.injEq, DV.sl.injEq, DV.own.injEq, DV.tup.injEq, List.cons.injEq, Ob.arr.injEq, Ob.box.injEq, Option.map_map, Int.toNat_natCast, Int.toNat_zero, Nat.reducePow, Int.toNat_one, Int.reduceMul, Nat.mul_one, Nat.zero_add, Nat.add_zero, Function.comp_apply, List.map_append, List.map_replicate, Int.cast_ofNat_Int, Nat.left_eq_add, Nat.add_eq_left, Nat.add_left_cancel_iff]
  case refine_3.refine_1 =>
    simp -implicitDefEqProofs only [vcA1, vcA2, vcA3, vcA4, vcA5, vcA6, vcA7, ↓vcP1, ↓vcP2, ↓reduceIte, Option.map_some, Option.map_none, Option.bind_some, Option.bind_none, if_true, if_false, reduceCtorEq, beq_true, beq_false, Bool.not_true, Bool.not_false, BEq.rfl, Bool.true_beq, Bool.false_beq, and_true, true_and, and_self, decide_true, decide_false, List.length_cons, List.length_nil, List.all_cons, List.all_nil, Bool.and_true, Bool.and_self, List.getElem?_cons_zero, List.getElem?_cons_succ, List.set_cons_zero, List.set_cons_succ, List.nil_append, List.cons_append, List.append_nil, List.map_cons, List.map_nil, not_true_eq_false, not_false_eq_true, false_implies, true_implies, implies_true, List.take_succ_cons, List.take_zero, List.take_nil, List.drop_succ_cons, List.drop_zero, List.drop_nil, Nat.reduceLT, Nat.reduceLeDiff, Nat.reduceEqDiff, Nat.reduceAdd, Nat.reduceSub, Nat.reduceMul, Int.reduceLT, Int.reduceLE, Int.reduceEq, Int.reduceToNat, Int.reduceAdd, Int.reduceSub, Int.reduceNeg, List.reduceReplicate, List.replicate_zero, List.replicate_succ, ne_eq, List.flatMap_cons, List.flatMap_nil, List.length_replicate, List.length_append, Nat.le_refl, Nat.le_add_right, Nat.add_assoc, List.append_assoc, or_true, true_or, or_false, false_or, and_false, false_and, exists_eq_left, exists_eq_left', Option.some.injEq, DV.int.injEq, DV.bool.injEq, DV.sl.injEq, DV.own.injEq, DV.tup.injEq, List.cons.injEq, Ob.arr.injEq, Ob.box.injEq, Option.map_map, Int.toNat_natCast, Int.toNat_zero, Nat.reducePow, Int.toNat_one, Int.reduceMul, Nat.mul_one, Nat.zero_add, Nat.add_zero, Function.comp_apply, List.map_append, List.map_replicate, Int.cast_ofNat_Int, Nat.left_eq_add, Nat.add_eq_left, Nat.add_left_cancel_iff]
  all_goals
    intro i hi
    unfold rc_rbegins_l0
    simp -implicitDefEqProofs only [and192_u8, vcA1, vcA2, vcA3, vcA4, vcA5, vcA6, vcA7, ↓vcP1, ↓vcP2, ↓reduceIte, Option.map_some, Option.map_none, Option.bind_some, Option.bind_none, if_true, if_false, reduceCtorEq, beq_true, beq_false, Bool.not_true, Bool.not_false, BEq.rfl, Bool.true_beq, Bool.false_beq, and_true, true_and, and_self, decide_true, decide_false, List.length_cons, List.length_nil, List.all_cons, List.all_nil, Bool.and_true, Bool.and_self, List.getElem?_cons_zero, List.getElem?_cons_succ, List.set_cons_zero, List.set_cons_succ, List.nil_append, List.cons_append, List.append_nil, List.map_cons, List.map_nil, not_true_eq_false, not_false_eq_true, false_implies, true_implies, implies_true, List.take_succ_cons, List.take_zero, List.take_nil, List.drop_succ_cons, List.drop_zero, List.drop_nil, Nat.reduceLT, Nat.reduceLeDiff, Nat.reduceEqDiff, Nat.reduceAdd, Nat.reduceSub, Nat.reduceMul, Int.reduceLT, Int.reduceLE, Int.reduceEq, Int.reduceToNat, Int.reduceAdd, Int.reduceSub, Int.reduceNeg, List.reduceReplicate, List.replicate_zero, List.replicate_succ, ne_eq, List.flatMap_cons, List.flatMap_nil, List.length_replicate, List.length_append, Nat.le_refl, Nat.le_add_right, Nat.add_assoc, List.append_assoc, or_true, true_or, or_false, false_or, and_false, false_and, exists_eq_left, exists_eq_left', Option.some.injEq, DV.int.injEq, DV.bool.injEq, DV.sl.injEq, DV.own.injEq, DV.tup.injEq, List.cons.injEq, Ob.arr.injEq, Ob.box.injEq, Option.map_map, Int.toNat_natCast, Int.toNat_zero, Nat.reducePow, Int.toNat_one, Int.reduceMul, Nat.mul_one, Nat.zero_add, Nat.add_zero, Function.comp_apply, List.map_append, List.map_replicate, Int.cast_ofNat_Int, Nat.left_eq_add, Nat.add_eq_left, Nat.add_left_cancel_iff]
    rw [hU hlt]
    obtain ⟨i1, i2, i3⟩ := hi
    have hrl : 128 ≤ rlo (l.getD 0 0) ∧ rhi (l.getD 0 0) ≤ 191 := by
      unfold rlo rhi
      constructor <;> (repeat (first | split | omega))
    refine ⟨fun h => ⟨⟨by omega, h, hsz⟩, by omega, fun hc => ⟨i + 1, by rw [wI64] <;> omega, ⟨by omega, by omega, fun j a b => ?_⟩, by omega⟩, fun hc => ?_⟩, fun h => ?_⟩
    · by_cases hj : j = i
      · subst hj
        have := hb0 j (by omega)
        omega
      · exact i3 j a (by omega)
    · symm
      apply decide_eq_false
      have h12 : i = 1 ∨ i = 2 := by omega
      rcases h12 with rfl | rfl
      · have := hb0 1 (by omega); intro hh; apply hh.1; exact ⟨by omega, by omega⟩
      · have := hb0 2 (by omega); intro hh; apply hh.2; exact ⟨by omega, by omega⟩
    · have c1 : 1 < l.length → 128 ≤ l.getD 1 0 ∧ l.getD 1 0 < 192 := fun hh => i3 1 (by omega) (by omega)
      have c2 : 2 < l.length → 128 ≤ l.getD 2 0 ∧ l.getD 2 0 < 192 := fun hh => i3 2 (by omega) (by omega)
      clear i3 hU hlo hnum hfull r4 r3 r2 hlt hb0 hk hs hrl
      unfold rlo rhi
      generalize l.getD 0 0 = b0 at *
      generalize l.getD 1 0 = b1 at *
      generalize l.getD 2 0 = b2 at *
      refine ⟨fun h1 => ?_, fun h1 => ⟨⟨by omega, hsz⟩, hl0, fun e => ⟨⟨by omega, hsz⟩, by omega, fun e2 => ⟨⟨by omega, hsz⟩, by omega, ?_⟩, fun e2 => ?_⟩, fun e => ⟨fun f => ⟨⟨by omega, hsz⟩, by omega, fun e2 => ⟨⟨by omega, hsz⟩, by omega, ?_⟩, fun e2 => ?_⟩,
        fun f => ⟨fun g => ⟨⟨by omega, hsz⟩, by omega, fun e2 => ⟨⟨by omega, hsz⟩, by omega, ?_⟩, fun e2 => ?_⟩, fun g => ⟨fun q => ⟨⟨by omega, hsz⟩, by omega, fun e2 => ⟨⟨by omega, hsz⟩, by omega, ?_⟩, fun e2 => ?_⟩, fun q => ⟨⟨by omega, hsz⟩, by omega, fun e2 => ⟨⟨by omega, hsz⟩, by omega, ?_⟩, fun e2 => ?_⟩⟩⟩⟩⟩⟩
      all_goals first
        | (symm; apply decide_eq_true; constructor <;> intro hh <;> omega)
        | (symm; apply decide_eq_false; intro hh; apply hh.1; refine ⟨by omega, ?_⟩; omega)
        | (rw [decide_eq_decide]; grind)
        | grind

end Go.Proofs.YteemmpghpdaloaaDoor
