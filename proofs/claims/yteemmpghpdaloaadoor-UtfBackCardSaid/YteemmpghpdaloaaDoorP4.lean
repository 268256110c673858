/- utf's functions. -/
import Derived.Test.YteemmpghpdaloaaDoorP3
set_option linter.unusedVariables false
set_option linter.unusedSimpArgs false
set_option maxRecDepth 10000
namespace Go.Proofs.YteemmpghpdaloaaDoor
open Go.RowKit

noncomputable def rc_cloneB : RFn := ⟨1, 8, (.seq (.reg [⟨(some 2), (.mov (.c (.sl 0 [] .nil))), none, false⟩] 0 [0]) (.seq (.seq (.reg [⟨(some 3), (.mov (.t 0)), none, false⟩, ⟨(some 4), (.eqNil false (.t 3) (.c (.sl 0 [] .nil))), none, false⟩] 0 [0, 4]) (.cond (.t 4) (.seq (.reg [⟨(some 2), (.mov (.c (.sl 0 [] .nil))), none, false⟩] 0 [2]) .ret) .skip)) (.seq (.reg [⟨(some 5), (.mkrow 1 [(.int .u8 0)] 0 []), none, false⟩, ⟨(some 6), (.mov (.t 0)), none, false⟩, ⟨(some 7), (.append 1 1 (.t 5) (.t 6)), none, false⟩, ⟨(some 2), (.mov (.t 7)), none, false⟩] 0 [2]) .ret))), [(.t 2)]⟩
theorem rc_cloneB_ok : compFn PG.P [⟨0, 0, [0], []⟩, ⟨1, 0, [0, 4], []⟩, ⟨2, 0, [2], []⟩, ⟨3, 0, [2], []⟩] 35 = some rc_cloneB := by kernel_rfl
noncomputable def rc_ubegins : RFn := ⟨1, 22, (.seq (.reg [⟨(some 2), (.mov (.c (.bool false))), none, false⟩] 0 [0]) (.seq (.reg [⟨(some 3), (.mov (.t 0)), none, false⟩, ⟨(some 4), (.len (.t 3)), none, false⟩, ⟨(some 5), (.bin .gtr (.t 4) (.c (.int .i64 0))), none, false⟩, ⟨(some 6), (.mov (.t 5)), none, false⟩, ⟨(some 7), (.mov (.t 0)), (some (6, true)), false⟩, ⟨(some 8), (.len (.t 7)), (some (6, true)), false⟩, ⟨(some 9), (.bin .lss (.t 8) (.c (.int .i64 4))), (some (6, true)), false⟩, ⟨(some 10), (.pick (.t 6) (.t 9) (.c (.bool false))), none, false⟩, ⟨(some 11), (.mov (.t 10)), none, false⟩, ⟨(some 12), (.mov (.t 0)), (some (11, true)), false⟩, ⟨(some 13), (.iaddr 1 (.t 12) (.c (.int .i64 0))), (some (11, true)), false⟩, ⟨(some 14), (.load false 1 (.t 13)), (some (11, true)), false⟩, ⟨(some 15), (.bin .geq (.t 14) (.c (.int .u8 128))), (some (11, true)), false⟩, ⟨(some 16), (.pick (.t 11) (.t 15) (.c (.bool false))), none, false⟩, ⟨(some 17), (.mov (.t 16)), none, false⟩, ⟨(some 18), (.mov (.t 0)), (some (17, true)), false⟩, ⟨(some 19), (.call 38 [(.t 18)]), (some (17, true)), false⟩, ⟨(some 20), (.un .not (.t 19)), (some (17, true)), false⟩, ⟨(some 21), (.pick (.t 17) (.t 20) (.c (.bool false))), none, false⟩, ⟨(some 2), (.mov (.t 21)), none, false⟩] 0 [2]) .ret)), [(.t 2)]⟩
theorem rc_ubegins_ok : compFn PG.P [⟨0, 0, [0], []⟩, ⟨1, 0, [2], []⟩] 19 = some rc_ubegins := by kernel_rfl
noncomputable def rc_appNon : RFn := ⟨2, 78, (.seq (.reg [⟨(some 4), (.mov (.c (.sl 0 [] .nil))), none, false⟩] 0 [0, 1]) (.seq (.reg [⟨(some 6), (.mov (.t 1)), none, false⟩, ⟨(some 7), (.conv (.i2i .u32) (.t 6)), none, false⟩, ⟨(some 5), (.mov (.t 7)), none, false⟩] 0 [0, 1, 5]) (.blk 0 (.seq (.reg [⟨(some 12), (.mov (.t 5)), none, false⟩, ⟨(some 13), (.bin .leq (.t 12) (.c (.int .u32 2047))), none, false⟩, ⟨(some 11), (.mov (.t 13)), none, false⟩] 0 [0, 1, 5, 11]) (.cond (.t 11) (.seq (.reg [⟨(some 14), (.mov (.t 0)), none, false⟩, ⟨(some 15), (.mov (.t 1)), none, false⟩, ⟨(some 16), (.bin .shr (.t 15) (.c (.int .u64 6))), none, false⟩, ⟨(some 17), (.conv (.i2i .u8) (.t 16)), none, false⟩, ⟨(some 18), (.bin .or (.c (.int .u8 192)) (.t 17)), none, false⟩, ⟨(some 19), (.mov (.t 1)), none, false⟩, ⟨(some 20), (.conv (.i2i .u8) (.t 19)), none, false⟩, ⟨(some 21), (.bin .and (.t 20) (.c (.int .u8 63))), none, false⟩, ⟨(some 22), (.bin .or (.c (.int .u8 128)) (.t 21)), none, false⟩, ⟨(some 23), (.mkrow 1 [(.int .u8 0)] 2 [(0, (.t 18)), (1, (.t 22))]), none, false⟩, ⟨(some 24), (.append 1 1 (.t 14) (.t 23)), none, false⟩, ⟨(some 4), (.mov (.t 24)), none, false⟩] 0 [4]) .ret) (.seq (.seq (.reg [⟨(some 26), (.mov (.t 5)), none, false⟩, ⟨(some 27), (.bin .lss (.t 26) (.c (.int .u32 55296))), none, false⟩, ⟨(some 25), (.mov (.t 27)), none, false⟩] 0 [0, 1, 5, 25]) (.cond (.t 25) .skip (.reg [⟨(some 28), (.mov (.t 5)), none, false⟩, ⟨(some 29), (.bin .lss (.c (.int .u32 57343)) (.t 28)), none, false⟩, ⟨(some 30), (.mov (.t 29)), none, false⟩, ⟨(some 31), (.mov (.t 5)), (some (30, true)), false⟩, ⟨(some 32), (.bin .leq (.t 31) (.c (.int .u32 65535))), (some (30, true)), false⟩, ⟨(some 33), (.pick (.t 30) (.t 32) (.c (.bool false))), none, false⟩, ⟨(some 25), (.mov (.t 33)), none, false⟩] 0 [0, 1, 5, 25]))) (.cond (.t 25) (.seq (.reg [⟨(some 34), (.mov (.t 0)), none, false⟩, ⟨(some 35), (.mov (.t 1)), none, false⟩, ⟨(some 36), (.bin .shr (.t 35) (.c (.int .u64 12))), none, false⟩, ⟨(some 37), (.conv (.i2i .u8) (.t 36)), none, false⟩, ⟨(some 38), (.bin .or (.c (.int .u8 224)) (.t 37)), none, false⟩, ⟨(some 39), (.mov (.t 1)), none, false⟩, ⟨(some 40), (.bin .shr (.t 39) (.c (.int .u64 6))), none, false⟩, ⟨(some 41), (.conv (.i2i .u8) (.t 40)), none, false⟩, ⟨(some 42), (.bin .and (.t 41) (.c (.int .u8 63))), none, false⟩, ⟨(some 43), (.bin .or (.c (.int .u8 128)) (.t 42)), none, false⟩, ⟨(some 44), (.mov (.t 1)), none, false⟩, ⟨(some 45), (.conv (.i2i .u8) (.t 44)), none, false⟩, ⟨(some 46), (.bin .and (.t 45) (.c (.int .u8 63))), none, false⟩, ⟨(some 47), (.bin .or (.c (.int .u8 128)) (.t 46)), none, false⟩, ⟨(some 48), (.mkrow 1 [(.int .u8 0)] 3 [(0, (.t 38)), (1, (.t 43)), (2, (.t 47))]), none, false⟩, ⟨(some 49), (.append 1 1 (.t 34) (.t 48)), none, false⟩, ⟨(some 4), (.mov (.t 49)), none, false⟩] 0 [4]) .ret) (.seq (.reg [⟨(some 51), (.mov (.t 5)), none, false⟩, ⟨(some 52), (.bin .gtr (.t 51) (.c (.int .u32 65535))), none, false⟩, ⟨(some 53), (.mov (.t 52)), none, false⟩, ⟨(some 54), (.mov (.t 5)), (some (53, true)), false⟩, ⟨(some 55), (.bin .leq (.t 54) (.c (.int .u32 1114111))), (some (53, true)), false⟩, ⟨(some 56), (.pick (.t 53) (.t 55) (.c (.bool false))), none, false⟩, ⟨(some 50), (.mov (.t 56)), none, false⟩] 0 [0, 1, 50]) (.cond (.t 50) (.seq (.reg [⟨(some 57), (.mov (.t 0)), none, false⟩, ⟨(some 58), (.mov (.t 1)), none, false⟩, ⟨(some 59), (.bin .shr (.t 58) (.c (.int .u64 18))), none, false⟩, ⟨(some 60), (.conv (.i2i .u8) (.t 59)), none, false⟩, ⟨(some 61), (.bin .or (.c (.int .u8 240)) (.t 60)), none, false⟩, ⟨(some 62), (.mov (.t 1)), none, false⟩, ⟨(some 63), (.bin .shr (.t 62) (.c (.int .u64 12))), none, false⟩, ⟨(some 64), (.conv (.i2i .u8) (.t 63)), none, false⟩, ⟨(some 65), (.bin .and (.t 64) (.c (.int .u8 63))), none, false⟩, ⟨(some 66), (.bin .or (.c (.int .u8 128)) (.t 65)), none, false⟩, ⟨(some 67), (.mov (.t 1)), none, false⟩, ⟨(some 68), (.bin .shr (.t 67) (.c (.int .u64 6))), none, false⟩, ⟨(some 69), (.conv (.i2i .u8) (.t 68)), none, false⟩, ⟨(some 70), (.bin .and (.t 69) (.c (.int .u8 63))), none, false⟩, ⟨(some 71), (.bin .or (.c (.int .u8 128)) (.t 70)), none, false⟩, ⟨(some 72), (.mov (.t 1)), none, false⟩, ⟨(some 73), (.conv (.i2i .u8) (.t 72)), none, false⟩, ⟨(some 74), (.bin .and (.t 73) (.c (.int .u8 63))), none, false⟩, ⟨(some 75), (.bin .or (.c (.int .u8 128)) (.t 74)), none, false⟩, ⟨(some 76), (.mkrow 1 [(.int .u8 0)] 4 [(0, (.t 61)), (1, (.t 66)), (2, (.t 71)), (3, (.t 75))]), none, false⟩, ⟨(some 77), (.append 1 1 (.t 57) (.t 76)), none, false⟩, ⟨(some 4), (.mov (.t 77)), none, false⟩] 0 [4]) .ret) (.seq (.reg [⟨(some 8), (.mov (.t 0)), none, false⟩, ⟨(some 9), (.mkrow 1 [(.int .u8 0)] 3 [(0, (.c (.int .u8 239))), (1, (.c (.int .u8 191))), (2, (.c (.int .u8 189)))]), none, false⟩, ⟨(some 10), (.append 1 1 (.t 8) (.t 9)), none, false⟩, ⟨(some 4), (.mov (.t 10)), none, false⟩] 0 [4]) .ret)))))))))), [(.t 4)]⟩
theorem rc_appNon_ok : compFn PG.P [⟨0, 0, [0, 1], []⟩, ⟨1, 0, [0, 1, 5], []⟩, ⟨2, 0, [4], []⟩, ⟨3, 0, [0, 1, 5, 11], []⟩, ⟨4, 0, [4], []⟩, ⟨5, 0, [0, 1, 5, 25], []⟩, ⟨6, 0, [0, 1, 5, 25], []⟩, ⟨7, 0, [4], []⟩, ⟨8, 0, [0, 1, 50], []⟩, ⟨9, 0, [4], []⟩] 50 = some rc_appNon := by kernel_rfl
noncomputable def rc_appRune : RFn := ⟨2, 16, (.seq (.reg [⟨(some 4), (.mov (.c (.sl 0 [] .nil))), none, false⟩] 0 [0, 1]) (.seq (.seq (.reg [⟨(some 5), (.mov (.t 1)), none, false⟩, ⟨(some 6), (.conv (.i2i .u32) (.t 5)), none, false⟩, ⟨(some 7), (.bin .leq (.t 6) (.c (.int .u32 127))), none, false⟩] 0 [0, 1, 7]) (.cond (.t 7) (.seq (.reg [⟨(some 8), (.mov (.t 0)), none, false⟩, ⟨(some 9), (.mov (.t 1)), none, false⟩, ⟨(some 10), (.conv (.i2i .u8) (.t 9)), none, false⟩, ⟨(some 11), (.mkrow 1 [(.int .u8 0)] 1 [(0, (.t 10))]), none, false⟩, ⟨(some 12), (.append 1 1 (.t 8) (.t 11)), none, false⟩, ⟨(some 4), (.mov (.t 12)), none, false⟩] 0 [4]) .ret) .skip)) (.seq (.reg [⟨(some 13), (.mov (.t 0)), none, false⟩, ⟨(some 14), (.mov (.t 1)), none, false⟩, ⟨(some 15), (.call 50 [(.t 13), (.t 14)]), none, false⟩, ⟨(some 4), (.mov (.t 15)), none, false⟩] 0 [4]) .ret))), [(.t 4)]⟩
theorem rc_appRune_ok : compFn PG.P [⟨0, 0, [0, 1], []⟩, ⟨1, 0, [0, 1, 7], []⟩, ⟨2, 0, [4], []⟩, ⟨3, 0, [4], []⟩] 39 = some rc_appRune := by kernel_rfl
noncomputable def rc_uput : RFn := ⟨1, 5, (.seq (.reg [⟨(some 2), (.mov (.c (.sl 0 [] .nil))), none, false⟩] 0 [0]) (.seq (.reg [⟨(some 3), (.mov (.t 0)), none, false⟩, ⟨(some 4), (.call 39 [(.c (.sl 0 [] .nil)), (.t 3)]), none, false⟩, ⟨(some 2), (.mov (.t 4)), none, false⟩] 0 [2]) .ret)), [(.t 2)]⟩
theorem rc_uput_ok : compFn PG.P [⟨0, 0, [0], []⟩, ⟨1, 0, [2], []⟩] 21 = some rc_uput := by kernel_rfl

theorem cloneB_nil {sz : Nat} : PCalls PG 35 [.sl sz [] .nil] fun n r os => r = .sl 0 [] .nil ∧ os = [] := by
  refine FSpec.by_fn (s := ⟨True, fun n => (.sl 0 [] .nil, [])⟩) FOk.nil rc_cloneB_ok (by simp [rc_cloneB]) fun n => ?_
  unfold rc_cloneB
  dsimp only
  simp -implicitDefEqProofs only [vcA1, vcA2, vcA3, vcA4, vcA5, vcA6, vcA7, ↓vcP1, ↓vcP2, ↓reduceIte, Option.map_some, Option.map_none, Option.bind_some, Option.bind_none, if_true, if_false, reduceCtorEq, beq_true, beq_false, Bool.not_true, Bool.not_false, BEq.rfl, Bool.true_beq, Bool.false_beq, and_true, true_and, and_self, decide_true, decide_false, List.length_cons, List.length_nil, List.all_cons, List.all_nil, Bool.and_true, Bool.and_self, List.getElem?_cons_zero, List.getElem?_cons_succ, List.set_cons_zero, List.set_cons_succ, List.nil_append, List.cons_append, List.append_nil, List.map_cons, List.map_nil, not_true_eq_false, not_false_eq_true, false_implies, true_implies, implies_true, List.take_succ_cons, List.take_zero, List.take_nil, List.drop_succ_cons, List.drop_zero, List.drop_nil, Nat.reduceLT, Nat.reduceLeDiff, Nat.reduceEqDiff, Nat.reduceAdd, Nat.reduceSub, Nat.reduceMul, Int.reduceLT, Int.reduceLE, Int.reduceEq, Int.reduceToNat, Int.reduceAdd, Int.reduceSub, Int.reduceNeg, List.reduceReplicate, List.replicate_zero, List.replicate_succ, ne_eq, List.flatMap_cons, List.flatMap_nil, List.length_replicate, List.length_append, Nat.le_refl, Nat.le_add_right, Nat.add_assoc, List.append_assoc, or_true, true_or, or_false, false_or, and_false, false_and, exists_eq_left, exists_eq_left', Option.some.injEq, DV.int.injEq, DV.bool.injEq, DV.sl.injEq, DV.own.injEq, DV.tup.injEq, List.cons.injEq, Ob.arr.injEq, Ob.box.injEq, Option.map_map, Int.toNat_natCast, Int.toNat_zero, Nat.reducePow, Int.toNat_one, Int.reduceMul, Nat.mul_one, Nat.zero_add, Nat.add_zero, Function.comp_apply, List.map_append, List.map_replicate, Int.cast_ofNat_Int, Nat.left_eq_add, Nat.add_eq_left, Nat.add_left_cancel_iff]
theorem cloneB_P {sz : Nat} {l : List Int} (hs : sz = 1 ∨ l = []) (hk : inK .u8 l) (hl : l.length ≤ 140737488355328) : PCalls PG 35 [.sl sz (intRows .u8 l) .nonnil] fun n r os => r = .own n 0 l.length ∧ os = [some (.arr 1 (intRows .u8 l))] := by
  refine FSpec.by_fn (s := ⟨True, fun n => (.own n 0 l.length, [some (.arr 1 (intRows .u8 l))])⟩) FOk.nil rc_cloneB_ok (by simp [rc_cloneB]) fun n => ?_
  unfold rc_cloneB
  dsimp only
  simp -implicitDefEqProofs only [vcA1, vcA2, vcA3, vcA4, vcA5, vcA6, vcA7, ↓vcP1, ↓vcP2, ↓reduceIte, Option.map_some, Option.map_none, Option.bind_some, Option.bind_none, if_true, if_false, reduceCtorEq, beq_true, beq_false, Bool.not_true, Bool.not_false, BEq.rfl, Bool.true_beq, Bool.false_beq, and_true, true_and, and_self, decide_true, decide_false, List.length_cons, List.length_nil, List.all_cons, List.all_nil, Bool.and_true, Bool.and_self, List.getElem?_cons_zero, List.getElem?_cons_succ, List.set_cons_zero, List.set_cons_succ, List.nil_append, List.cons_append, List.append_nil, List.map_cons, List.map_nil, not_true_eq_false, not_false_eq_true, false_implies, true_implies, implies_true, List.take_succ_cons, List.take_zero, List.take_nil, List.drop_succ_cons, List.drop_zero, List.drop_nil, Nat.reduceLT, Nat.reduceLeDiff, Nat.reduceEqDiff, Nat.reduceAdd, Nat.reduceSub, Nat.reduceMul, Int.reduceLT, Int.reduceLE, Int.reduceEq, Int.reduceToNat, Int.reduceAdd, Int.reduceSub, Int.reduceNeg, List.reduceReplicate, List.replicate_zero, List.replicate_succ, ne_eq, List.flatMap_cons, List.flatMap_nil, List.length_replicate, List.length_append, Nat.le_refl, Nat.le_add_right, Nat.add_assoc, List.append_assoc, or_true, true_or, or_false, false_or, and_false, false_and, exists_eq_left, exists_eq_left', Option.some.injEq, DV.int.injEq, DV.bool.injEq, DV.sl.injEq, DV.own.injEq, DV.tup.injEq, List.cons.injEq, Ob.arr.injEq, Ob.box.injEq, Option.map_map, Int.toNat_natCast, Int.toNat_zero, Nat.reducePow, Int.toNat_one, Int.reduceMul, Nat.mul_one, Nat.zero_add, Nat.add_zero, Function.comp_apply, List.map_append, List.map_replicate, Int.cast_ofNat_Int, Nat.left_eq_add, Nat.add_eq_left, Nat.add_left_cancel_iff]
  exact ⟨hs.imp id fun h => by simp [h, intRows], hl, by omega⟩
def F_clone : List DV → Option FSpec
  | [.sl sz rows k] => match k with
    | .nil => some ⟨rows = [], fun _ => (.sl 0 [] .nil, [])⟩
    | .nonnil => some ⟨isInts .u8 (.sl sz rows .nonnil) ∧ rows.length ≤ 140737488355328, fun n => (.own n 0 rows.length, [some (.arr 1 rows)])⟩
    | _ => none
  | _ => none
theorem F_clone_nil (sz : Nat) (rows : List (List DV)) : F_clone [.sl sz rows .nil] = some ⟨rows = [], fun _ => (.sl 0 [] .nil, [])⟩ := nrfl _
theorem F_clone_non (sz : Nat) (rows : List (List DV)) : F_clone [.sl sz rows .nonnil] = some ⟨isInts .u8 (.sl sz rows .nonnil) ∧ rows.length ≤ 140737488355328, fun n => (.own n 0 rows.length, [some (.arr 1 rows)])⟩ := nrfl _
theorem clone_ok (args : List DV) (s : FSpec) (hs : F_clone args = some s) (hp : s.pre) : PCalls PG 35 args fun n r os => r = (s.res n).1 ∧ os = (s.res n).2 := by
  unfold F_clone at hs
  split at hs
  · rename_i sz rows k
    split at hs
    · obtain rfl := Option.some.inj hs
      have hp : rows = [] := hp
      subst hp
      exact cloneB_nil
    · obtain rfl := Option.some.inj hs
      obtain ⟨⟨h1, h2, h3⟩, h4⟩ := hp
      have h5 : rows.length = (ints rows).length := by simp [ints]
      have := cloneB_P (sz := sz) (l := ints rows) (h2.imp id fun h => by simp [h, ints]) h3 (by omega)
      rw [← h1, ← h5] at this
      exact this
    · cases hs
  · cases hs

def F_full : List DV → Option FSpec
  | [a] => some ⟨isInts .u8 a, fun _ => (.bool (full (intsD a)), [])⟩
  | _ => none
theorem F_full_1 (a : DV) : F_full [a] = some ⟨isInts .u8 a, fun _ => (.bool (full (intsD a)), [])⟩ := nrfl _
theorem full_ok (args : List DV) (s : FSpec) (hs : F_full args = some s) (hp : s.pre) : PCalls PG 38 args fun n r os => r = (s.res n).1 ∧ os = (s.res n).2 := by
  unfold F_full at hs
  split at hs
  · rename_i a
    obtain rfl := Option.some.inj hs
    obtain ⟨sa, ka, ha, ha2, ha3⟩ := isInts_inv hp
    have := full_P (k := ka) ha2 ha3
    rw [← ha] at this
    exact this
  · cases hs
def T2 : List (Nat × (List DV → Option FSpec)) := (36, F_decode) :: (38, F_full) :: (35, F_clone) :: T1
theorem T2_ok : FOk PG (tab T2) := FOk.cons (FOk.cons (FOk.cons T1_ok clone_ok) full_ok) decode_ok

/-- Do bytes begin a rune's longer form? -/
def ubeg (l : List Int) : Bool := decide (0 < l.length) && decide (l.length < 4) && decide (128 ≤ l.getD 0 0) && !full l
theorem ubegins_P {sz : Nat} {k : SK} {l : List Int} (hs : sz = 1 ∨ l = []) (hk : inK .u8 l) :
    PCalls PG 19 [.sl sz (intRows .u8 l) k] fun n r os => r = .bool (ubeg l) ∧ os = [] := by
  refine FSpec.by_fn (s := ⟨True, fun n => (.bool (ubeg l), [])⟩) T2_ok rc_ubegins_ok (by simp [rc_ubegins]) fun n => ?_
  unfold rc_ubegins T2
  dsimp only
  simp -implicitDefEqProofs only [tab_cons, F_full_1, vcA1, vcA2, vcA3, vcA4, vcA5, vcA6, vcA7, ↓vcP1, ↓vcP2, ↓reduceIte, Option.map_some, Option.map_none, Option.bind_some, Option.bind_none, if_true, if_false, reduceCtorEq, beq_true, beq_false, Bool.not_true, Bool.not_false, BEq.rfl, Bool.true_beq, Bool.false_beq, and_true, true_and, and_self, decide_true, decide_false, List.length_cons, List.length_nil, List.all_cons, List.all_nil, Bool.and_true, Bool.and_self, List.getElem?_cons_zero, List.getElem?_cons_succ, List.set_cons_zero, List.set_cons_succ, List.nil_append, List.cons_append, List.append_nil, List.map_cons, List.map_nil, not_true_eq_false, not_false_eq_true, false_implies, true_implies, implies_true, List.take_succ_cons, List.take_zero, List.take_nil, List.drop_succ_cons, List.drop_zero, List.drop_nil, Nat.reduceLT, Nat.reduceLeDiff, Nat.reduceEqDiff, Nat.reduceAdd, Nat.reduceSub, Nat.reduceMul, Int.reduceLT, Int.reduceLE, Int.reduceEq, Int.reduceToNat, Int.reduceAdd, Int.reduceSub, Int.reduceNeg, List.reduceReplicate, List.replicate_zero, List.replicate_succ, ne_eq, List.flatMap_cons, List.flatMap_nil, List.length_replicate, List.length_append, Nat.le_refl, Nat.le_add_right, Nat.add_assoc, List.append_assoc, or_true, true_or, or_false, false_or, and_false, false_and, exists_eq_left, exists_eq_left', Option.some.injEq, DV.int.injEq, DV.bool.injEq, DV.sl.injEq, DV.own.injEq, DV.tup.injEq, List.cons.injEq, Ob.arr.injEq, Ob.box.injEq, Option.map_map, Int.toNat_natCast, Int.toNat_zero, Nat.reducePow, Int.toNat_one, Int.reduceMul, Nat.mul_one, Nat.zero_add, Nat.add_zero, Function.comp_apply, List.map_append, List.map_replicate, Int.cast_ofNat_Int, Nat.left_eq_add, Nat.add_eq_left, Nat.add_left_cancel_iff]
  have hi : isInts .u8 (.sl sz (intRows .u8 l) k) := isInts_mk hs hk
  have hne : 0 < l.length → sz = 1 := fun h => hs.resolve_right fun e => by simp [e] at h
  simp only [hi, ubeg]
  grind

def enc (r : Int) : List Int :=
  if 0 ≤ r ∧ r ≤ 127 then [r]
  else if 0 ≤ r ∧ r ≤ 2047 then [192 + r / 64, 128 + r % 64]
  else if (0 ≤ r ∧ r < 55296) ∨ (57343 < r ∧ r ≤ 65535) then [224 + r / 4096, 128 + r / 64 % 64, 128 + r % 64]
  else if 65535 < r ∧ r ≤ 1114111 then [240 + r / 262144, 128 + r / 4096 % 64, 128 + r / 64 % 64, 128 + r % 64]
  else [239, 191, 189]
theorem appNon_P {sz : Nat} {r : Int} (hr : -2147483648 ≤ r ∧ r ≤ 2147483647) (hr2 : ¬ (0 ≤ r ∧ r ≤ 127)) :
    PCalls PG 50 [.sl sz [] .nil, .int .i32 r] fun n d os => d = .own n 0 (enc r).length ∧ os = [some (.arr 1 (intRows .u8 (enc r)))] := by
  refine FSpec.by_fn (s := ⟨True, fun n => (.own n 0 (enc r).length, [some (.arr 1 (intRows .u8 (enc r)))])⟩) FOk.nil rc_appNon_ok (by simp [rc_appNon]) fun n => ?_
  unfold rc_appNon
  dsimp only
  simp -implicitDefEqProofs only [and7_u8, and15_u8, and31_u8, and63_u8, vcA1, vcA2, vcA3, vcA4, vcA5, vcA6, vcA7, ↓vcP1, ↓vcP2, ↓reduceIte, Option.map_some, Option.map_none, Option.bind_some, Option.bind_none, if_true, if_false, reduceCtorEq, beq_true, beq_false, Bool.not_true, Bool.not_false, BEq.rfl, Bool.true_beq, Bool.false_beq, and_true, true_and, and_self, decide_true, decide_false, List.length_cons, List.length_nil, List.all_cons, List.all_nil, Bool.and_true, Bool.and_self, List.getElem?_cons_zero, List.getElem?_cons_succ, List.set_cons_zero, List.set_cons_succ, List.nil_append, List.cons_append, List.append_nil, List.map_cons, List.map_nil, not_true_eq_false, not_false_eq_true, false_implies, true_implies, implies_true, List.take_succ_cons, List.take_zero, List.take_nil, List.drop_succ_cons, List.drop_zero, List.drop_nil, Nat.reduceLT, Nat.reduceLeDiff, Nat.reduceEqDiff, Nat.reduceAdd, Nat.reduceSub, Nat.reduceMul, Int.reduceLT, Int.reduceLE, Int.reduceEq, Int.reduceToNat, Int.reduceAdd, Int.reduceSub, Int.reduceNeg, List.reduceReplicate, List.replicate_zero, List.replicate_succ, ne_eq, List.flatMap_cons, List.flatMap_nil, List.length_replicate, List.length_append, Nat.le_refl, Nat.le_add_right, Nat.add_assoc, List.append_assoc, or_true, true_or, or_false, false_or, and_false, false_and, exists_eq_left, exists_eq_left', Option.some.injEq, DV.int.injEq, DV.bool.injEq, DV.sl.injEq, DV.own.injEq, DV.tup.injEq, List.cons.injEq, Ob.arr.injEq, Ob.box.injEq, Option.map_map, Int.toNat_natCast, Int.toNat_zero, Nat.reducePow, Int.toNat_one, Int.reduceMul, Nat.mul_one, Nat.zero_add, Nat.add_zero, Function.comp_apply, List.map_append, List.map_replicate, Int.cast_ofNat_Int, Nat.left_eq_add, Nat.add_eq_left, Nat.add_left_cancel_iff]
  have e6 : r.fdiv (2 ^ min 6 IntKind.i32.bits) = r / 64 := Int.fdiv_eq_ediv_of_nonneg r (by decide)
  have e12 : r.fdiv (2 ^ min 12 IntKind.i32.bits) = r / 4096 := Int.fdiv_eq_ediv_of_nonneg r (by decide)
  have e18 : r.fdiv (2 ^ min 18 IntKind.i32.bits) = r / 262144 := Int.fdiv_eq_ediv_of_nonneg r (by decide)
  have o1 : ∀ x : Int, IntKind.u8.wrap (BitVec.ofInt IntKind.u8.bits 128 ||| BitVec.ofInt IntKind.u8.bits (x % 64)).toNat = 128 + x % 64 := fun x => or_u8 6 128 _ (by decide) (by decide) (by omega) (by omega) (by omega)
  have o2 : 0 ≤ r → r ≤ 2047 → IntKind.u8.wrap (BitVec.ofInt IntKind.u8.bits 192 ||| BitVec.ofInt IntKind.u8.bits (r / 64 % 256)).toNat = 192 + r / 64 := fun a b => by
    rw [show r / 64 % 256 = r / 64 by omega]
    exact or_u8 6 192 _ (by decide) (by decide) (by omega) (by omega) (by omega)
  have o3 : 0 ≤ r → r ≤ 65535 → IntKind.u8.wrap (BitVec.ofInt IntKind.u8.bits 224 ||| BitVec.ofInt IntKind.u8.bits (r / 4096 % 256)).toNat = 224 + r / 4096 := fun a b => by
    rw [show r / 4096 % 256 = r / 4096 by omega]
    exact or_u8 5 224 _ (by decide) (by decide) (by omega) (by omega) (by omega)
  have o4 : 0 ≤ r → r ≤ 1114111 → IntKind.u8.wrap (BitVec.ofInt IntKind.u8.bits 240 ||| BitVec.ofInt IntKind.u8.bits (r / 262144 % 256)).toNat = 240 + r / 262144 := fun a b => by
    rw [show r / 262144 % 256 = r / 262144 by omega]
    exact or_u8 4 240 _ (by decide) (by decide) (by omega) (by omega) (by omega)
  have hu : IntKind.u32.wrap r = r % 4294967296 := IntKind.wrap_u32 r
  have m1 : ∀ x : Int, x % 256 % 64 = x % 64 := fun x => by omega
  simp only [e6, e12, e18, IntKind.wrap_u8 r, IntKind.wrap_u8 (r / 64), IntKind.wrap_u8 (r / 4096), IntKind.wrap_u8 (r / 262144), m1, o1, hu]
  by_cases h0 : 0 ≤ r
  · have hm : r % 4294967296 = r := by omega
    rw [hm]
    refine ⟨fun h => ?_, fun h => ⟨fun h2 => ?_, fun h2 => ⟨fun h3 => ⟨fun h4 => ?_, fun h4 => ⟨fun h5 => ⟨fun h6 => ?_, fun h6 => ?_⟩, fun h5 => ?_⟩⟩, fun h3 => ⟨fun h4 => ⟨fun h5 => ?_, fun h5 => ?_⟩, fun h4 => ?_⟩⟩⟩⟩
    all_goals first
      | (exfalso; omega)
      | skip
    · rw [o2 h0 h]; have : enc r = [192 + r / 64, 128 + r % 64] := by unfold enc; rw [if_neg hr2, if_pos ⟨h0, h⟩]
      simp [this, intRows]
    · rw [o3 h0 (by omega)]; have : enc r = [224 + r / 4096, 128 + r / 64 % 64, 128 + r % 64] := by unfold enc; rw [if_neg hr2, if_neg (by omega), if_pos (.inl ⟨h0, h2⟩)]
      simp [this, intRows]
    · rw [o3 h0 (by omega)]; have : enc r = [224 + r / 4096, 128 + r / 64 % 64, 128 + r % 64] := by unfold enc; rw [if_neg hr2, if_neg (by omega), if_pos (.inr ⟨h3, h4⟩)]
      simp [this, intRows]
    · rw [o4 h0 h6]; have : enc r = [240 + r / 262144, 128 + r / 4096 % 64, 128 + r / 64 % 64, 128 + r % 64] := by unfold enc; rw [if_neg hr2, if_neg (by omega), if_neg (by omega), if_pos ⟨h5, h6⟩]
      simp [this, intRows]
    all_goals
      have : enc r = [239, 191, 189] := by unfold enc; rw [if_neg hr2, if_neg (by omega), if_neg (by omega), if_neg (by omega)]
      simp [this, intRows]
  · have : enc r = [239, 191, 189] := by unfold enc; rw [if_neg (by omega), if_neg (by omega), if_neg (by omega), if_neg (by omega)]
    have hm : 1114111 < r % 4294967296 := by omega
    refine ⟨fun h => by omega, fun h => ⟨fun h2 => by omega, fun h2 => ⟨fun h3 => ⟨fun h4 => by omega, fun h4 => ⟨fun h5 => ⟨fun h6 => by omega, fun h6 => ?_⟩, fun h5 => by omega⟩⟩, fun h3 => by omega⟩⟩⟩
    simp [this, intRows]

end Go.Proofs.YteemmpghpdaloaaDoor
