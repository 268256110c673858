/- utf8's other functions. -/
import Derived.Test.YteemmpghpdaloaaDoorP2
set_option linter.unusedVariables false
set_option linter.unusedSimpArgs false
set_option maxRecDepth 10000
namespace Go.Proofs.YteemmpghpdaloaaDoor
open Go.RowKit

noncomputable def rc_decode_l0 : RC := (.seq (.reg [⟨(some 9), (.bin .lss (.t 8) (.t 7)), none, false⟩] 0 [0, 6, 8, 9]) (.seq (.cond (.t 9) .skip (.ext 0)) (.seq (.blk 1 (.seq (.reg [⟨(some 10), (.iaddr 1 (.t 6) (.t 8)), none, false⟩, ⟨(some 11), (.load false 1 (.t 10)), none, false⟩, ⟨(some 5), (.mov (.t 11)), none, false⟩] 0 [0, 5]) (.seq (.seq (.reg [⟨(some 12), (.mov (.t 5)), none, false⟩, ⟨(some 13), (.bin .lss (.t 12) (.c (.int .u8 128))), none, false⟩] 0 [0, 5, 13]) (.cond (.t 13) (.seq (.reg [⟨(some 14), (.mov (.t 5)), none, false⟩, ⟨(some 15), (.conv (.i2i .i32) (.t 14)), none, false⟩, ⟨(some 2), (.mov (.t 15)), none, false⟩, ⟨(some 3), (.mov (.c (.int .i64 1))), none, false⟩] 0 [2, 3]) .ret) .skip)) (.ext 0)))) (.reg [⟨(some 16), (.bin .add (.t 8) (.c (.int .i64 1))), none, false⟩, ⟨(some 8), (.mov (.t 16)), none, false⟩] 0 [0, 6, 7, 8]))))
noncomputable def rc_decode : RFn := ⟨1, 22, (.seq (.reg [⟨(some 2), (.mov (.c (.int .i32 0))), none, false⟩, ⟨(some 3), (.mov (.c (.int .i64 0))), none, false⟩] 0 [0]) (.seq (.seq (.reg [⟨(some 6), (.mov (.t 0)), none, false⟩, ⟨(some 7), (.len (.t 6)), none, false⟩, ⟨(some 8), (.mov (.c (.int .i64 0))), none, false⟩] 0 [0, 6, 7, 8]) (.blk 0 (.loop rc_decode_l0))) (.seq (.reg [⟨(some 18), (.mov (.t 0)), none, false⟩, ⟨(some 19), (.call 49 [(.t 18)]), none, false⟩, ⟨(some 17), (.mov (.t 19)), none, false⟩, ⟨(some 20), (.ext (.t 17) 0), none, false⟩, ⟨(some 21), (.ext (.t 17) 1), none, false⟩, ⟨(some 2), (.mov (.t 20)), none, false⟩, ⟨(some 3), (.mov (.t 21)), none, false⟩] 0 [2, 3]) .ret))), [(.t 2), (.t 3)]⟩
theorem rc_decode_ok : compFn PG.P [⟨0, 0, [0], []⟩, ⟨1, 0, [0, 6, 7, 8], []⟩, ⟨2, 0, [0, 6, 8, 9], []⟩, ⟨3, 0, [0, 5], []⟩, ⟨4, 0, [0, 5, 13], []⟩, ⟨5, 0, [2, 3], []⟩, ⟨6, 0, [0, 6, 7, 8], []⟩, ⟨7, 0, [2, 3], []⟩] 36 = some rc_decode := by kernel_rfl
noncomputable def rc_full : RFn := ⟨1, 56, (.seq (.reg [⟨(some 2), (.mov (.c (.bool false))), none, false⟩] 0 [0]) (.seq (.reg [⟨(some 6), (.mov (.t 0)), none, false⟩, ⟨(some 7), (.len (.t 6)), none, false⟩, ⟨(some 3), (.mov (.t 7)), none, false⟩] 0 [0, 3]) (.seq (.seq (.reg [⟨(some 8), (.mov (.t 3)), none, false⟩, ⟨(some 9), (.bin .eql (.t 8) (.c (.int .i64 0))), none, false⟩] 0 [0, 3, 9]) (.cond (.t 9) (.seq (.reg [⟨(some 2), (.mov (.c (.bool false))), none, false⟩] 0 [2]) .ret) .skip)) (.seq (.reg [⟨(some 10), (.mov (.t 0)), none, false⟩, ⟨(some 11), (.iaddr 1 (.t 10) (.c (.int .i64 0))), none, false⟩, ⟨(some 12), (.load false 1 (.t 11)), none, false⟩, ⟨(some 13), (.iaddrA 256 1 (.g 0) (.t 12)), none, false⟩, ⟨(some 14), (.load false 1 (.t 13)), none, false⟩, ⟨(some 4), (.mov (.t 14)), none, false⟩] 0 [0, 3, 4]) (.seq (.seq (.reg [⟨(some 15), (.mov (.t 3)), none, false⟩, ⟨(some 16), (.mov (.t 4)), none, false⟩, ⟨(some 17), (.bin .and (.t 16) (.c (.int .u8 7))), none, false⟩, ⟨(some 18), (.conv (.i2i .i64) (.t 17)), none, false⟩, ⟨(some 19), (.bin .geq (.t 15) (.t 18)), none, false⟩] 0 [0, 3, 4, 19]) (.cond (.t 19) (.seq (.reg [⟨(some 2), (.mov (.c (.bool true))), none, false⟩] 0 [2]) .ret) .skip)) (.seq (.reg [⟨(some 20), (.mov (.t 4)), none, false⟩, ⟨(some 21), (.bin .shr (.t 20) (.c (.int .u64 4))), none, false⟩, ⟨(some 22), (.iaddrA 16 2 (.g 1) (.t 21)), none, false⟩, ⟨(some 23), (.load true 2 (.t 22)), none, false⟩, ⟨(some 5), (.alloc [(.int .u8 0), (.int .u8 0)]), none, false⟩, ⟨none, (.store 2 (.t 5) (.t 23)), none, false⟩] 0 [0, 3, 5]) (.seq (.seq (.regD (.take ⟨(some 24), (.mov (.t 3)), none, false⟩ [] (.take ⟨(some 25), (.bin .gtr (.t 24) (.c (.int .i64 1))), none, false⟩ [] (.take ⟨(some 26), (.mov (.t 25)), none, false⟩ [] (.take ⟨(some 27), (.mov (.t 0)), (some (26, true)), false⟩ [] (.take ⟨(some 28), (.iaddr 1 (.t 27) (.c (.int .i64 1))), (some (26, true)), false⟩ [] (.take ⟨(some 29), (.load false 1 (.t 28)), (some (26, true)), false⟩ [] (.take ⟨(some 30), (.faddr 0 (.t 5)), (some (26, true)), false⟩ [] (.take ⟨(some 31), (.load false 1 (.t 30)), (some (26, true)), false⟩ [] (.take ⟨(some 32), (.bin .lss (.t 29) (.t 31)), (some (26, true)), false⟩ [] (.take ⟨(some 33), (.mov (.t 32)), (some (26, true)), false⟩ [] (.take ⟨(some 34), (.faddr 1 (.t 5)), (some (33, false)), false⟩ [] (.take ⟨(some 35), (.load false 1 (.t 34)), (some (33, false)), false⟩ [] (.take ⟨(some 36), (.mov (.t 0)), (some (33, false)), false⟩ [] (.take ⟨(some 37), (.iaddr 1 (.t 36) (.c (.int .i64 1))), (some (33, false)), false⟩ [] (.take ⟨(some 38), (.load false 1 (.t 37)), (some (33, false)), false⟩ [] (.take ⟨(some 39), (.bin .lss (.t 35) (.t 38)), (some (33, false)), false⟩ [] (.take ⟨(some 40), (.pick (.t 33) (.c (.bool true)) (.t 39)), (some (26, true)), false⟩ [] (.take ⟨(some 41), (.pick (.t 26) (.t 40) (.c (.bool false))), none, false⟩ [] .done)))))))))))))))))) 0 [0, 3, 41]) (.cond (.t 41) (.seq (.reg [⟨(some 2), (.mov (.c (.bool true))), none, false⟩] 0 [2]) .ret) (.seq (.reg [⟨(some 42), (.mov (.t 3)), none, false⟩, ⟨(some 43), (.bin .gtr (.t 42) (.c (.int .i64 2))), none, false⟩, ⟨(some 44), (.mov (.t 43)), none, false⟩, ⟨(some 45), (.mov (.t 0)), (some (44, true)), false⟩, ⟨(some 46), (.iaddr 1 (.t 45) (.c (.int .i64 2))), (some (44, true)), false⟩, ⟨(some 47), (.load false 1 (.t 46)), (some (44, true)), false⟩, ⟨(some 48), (.bin .lss (.t 47) (.c (.int .u8 128))), (some (44, true)), false⟩, ⟨(some 49), (.mov (.t 48)), (some (44, true)), false⟩, ⟨(some 50), (.mov (.t 0)), (some (49, false)), false⟩, ⟨(some 51), (.iaddr 1 (.t 50) (.c (.int .i64 2))), (some (49, false)), false⟩, ⟨(some 52), (.load false 1 (.t 51)), (some (49, false)), false⟩, ⟨(some 53), (.bin .lss (.c (.int .u8 191)) (.t 52)), (some (49, false)), false⟩, ⟨(some 54), (.pick (.t 49) (.c (.bool true)) (.t 53)), (some (44, true)), false⟩, ⟨(some 55), (.pick (.t 44) (.t 54) (.c (.bool false))), none, false⟩] 0 [55]) (.cond (.t 55) (.seq (.reg [⟨(some 2), (.mov (.c (.bool true))), none, false⟩] 0 [2]) .ret) .skip)))) (.seq (.reg [⟨(some 2), (.mov (.c (.bool false))), none, false⟩] 0 [2]) .ret)))))))), [(.t 2)]⟩
theorem rc_full_ok : compFn PG.P [⟨0, 0, [0], []⟩, ⟨1, 0, [0, 3], []⟩, ⟨2, 0, [0, 3, 9], []⟩, ⟨3, 0, [2], []⟩, ⟨4, 0, [0, 3, 4], []⟩, ⟨5, 0, [0, 3, 4, 19], []⟩, ⟨6, 0, [2], []⟩, ⟨7, 0, [0, 3, 5], []⟩, ⟨8, 0, [0, 3, 41], []⟩, ⟨9, 0, [2], []⟩, ⟨10, 0, [55], []⟩, ⟨11, 0, [2], []⟩, ⟨12, 0, [2], []⟩] 38 = some rc_full := by kernel_rfl

theorem tab_cons (f : Nat) (g : List DV → Option FSpec) (l : List (Nat × (List DV → Option FSpec))) (k : Nat) (args : List DV) : tab ((f, g) :: l) k args = if k = f then g args else tab l k args := by
  unfold tab
  simp only [List.lookup]
  by_cases e : k = f
  · subst e; simp
  · rw [beq_false_of_ne e, if_neg e]

def F_slow : List DV → Option FSpec
  | [a] => some ⟨isInts .u8 a, fun _ => (.tup [.int .i32 (dec (intsD a)).1, .int .i64 (dec (intsD a)).2], [])⟩
  | _ => none
theorem F_slow_1 (a : DV) : F_slow [a] = some ⟨isInts .u8 a, fun _ => (.tup [.int .i32 (dec (intsD a)).1, .int .i64 (dec (intsD a)).2], [])⟩ := nrfl _
theorem slow_ok (args : List DV) (s : FSpec) (hs : F_slow args = some s) (hp : s.pre) : PCalls PG 49 args fun n r os => r = (s.res n).1 ∧ os = (s.res n).2 := by
  unfold F_slow at hs
  split at hs
  · rename_i a
    obtain rfl := Option.some.inj hs
    obtain ⟨sa, ka, ha, ha2, ha3⟩ := isInts_inv hp
    have := slow_P (k := ka) ha2 ha3
    rw [← ha] at this
    exact this
  · cases hs
theorem isInts_mk {k : IntKind} {sz : Nat} {l : List Int} {s : SK} (hs : sz = 1 ∨ l = []) (hk : inK k l) : isInts k (.sl sz (intRows k l) s) := by
  simp only [isInts, ints_intRows, intRows_eq_nil]
  exact ⟨trivial, hs, hk⟩
def T1 : List (Nat × (List DV → Option FSpec)) := [(49, F_slow), (24, F_may), (16, F_runes)]
theorem T1_ok : FOk PG (tab T1) := FOk.cons (FOk.cons (FOk.cons FOk.nil runes_ok) may_ok) slow_ok

theorem decode_P {sz : Nat} {k : SK} {l : List Int} (hs : sz = 1 ∨ l = []) (hk : inK .u8 l) :
    PCalls PG 36 [.sl sz (intRows .u8 l) k] fun n r os => r = .tup [.int .i32 (dec l).1, .int .i64 (dec l).2] ∧ os = [] := by
  refine FSpec.by_fn (s := ⟨True, fun n => (.tup [.int .i32 (dec l).1, .int .i64 (dec l).2], [])⟩) T1_ok rc_decode_ok (by simp [rc_decode]) fun n => ?_
  unfold rc_decode
  dsimp only
  simp -implicitDefEqProofs only [vcA1, vcA2, vcA3, vcA4, vcA5, vcA6, vcA7, ↓vcP1, ↓vcP2, ↓reduceIte, Option.map_some, Option.map_none, Option.bind_some, Option.bind_none, if_true, if_false, reduceCtorEq, beq_true, beq_false, Bool.not_true, Bool.not_false, BEq.rfl, Bool.true_beq, Bool.false_beq, and_true, true_and, and_self, decide_true, decide_false, List.length_cons, List.length_nil, List.all_cons, List.all_nil, Bool.and_true, Bool.and_self, List.getElem?_cons_zero, List.getElem?_cons_succ, List.set_cons_zero, List.set_cons_succ, List.nil_append, List.cons_append, List.append_nil, List.map_cons, List.map_nil, not_true_eq_false, not_false_eq_true, false_implies, true_implies, implies_true, List.take_succ_cons, List.take_zero, List.take_nil, List.drop_succ_cons, List.drop_zero, List.drop_nil, Nat.reduceLT, Nat.reduceLeDiff, Nat.reduceEqDiff, Nat.reduceAdd, Nat.reduceSub, Nat.reduceMul, Int.reduceLT, Int.reduceLE, Int.reduceEq, Int.reduceToNat, Int.reduceAdd, Int.reduceSub, Int.reduceNeg, List.reduceReplicate, List.replicate_zero, List.replicate_succ, ne_eq, List.flatMap_cons, List.flatMap_nil, List.length_replicate, List.length_append, Nat.le_refl, Nat.le_add_right, Nat.add_assoc, List.append_assoc, or_true, true_or, or_false, false_or, and_false, false_and, exists_eq_left, exists_eq_left', Option.some.injEq, DV.int.injEq, DV.bool.injEq, DV.sl.injEq, DV.own.injEq, DV.tup.injEq, List.cons.injEq, Ob.arr.injEq, Ob.box.injEq, Option.map_map, Int.toNat_natCast, Int.toNat_zero, Nat.reducePow, Int.toNat_one, Int.reduceMul, Nat.mul_one, Nat.zero_add, Nat.add_zero, Function.comp_apply, List.map_append, List.map_replicate, Int.cast_ofNat_Int, Nat.left_eq_add, Nat.add_eq_left, Nat.add_left_cancel_iff]
  refine LoopWp.inv T1_ok (S := fun _ : Unit => ⟨[(0, .sl sz (intRows .u8 l) k), (6, .sl sz (intRows .u8 l) k), (7, .int .i64 l.length), (8, .int .i64 0)], List.replicate n none⟩) (I := fun _ => True) (μ := fun _ => 0) () trivial ?_ ?_
  · simp -implicitDefEqProofs only [vcA1, vcA2, vcA3, vcA4, vcA5, vcA6, vcA7, ↓vcP1, ↓vcP2, ↓reduceIte, Option.map_some, Option.map_none, Option.bind_some, Option.bind_none, if_true, if_false, reduceCtorEq, beq_true, beq_false, Bool.not_true, Bool.not_false, BEq.rfl, Bool.true_beq, Bool.false_beq, and_true, true_and, and_self, decide_true, decide_false, List.length_cons, List.length_nil, List.all_cons, List.all_nil, Bool.and_true, Bool.and_self, List.getElem?_cons_zero, List.getElem?_cons_succ, List.set_cons_zero, List.set_cons_succ, List.nil_append, List.cons_append, List.append_nil, List.map_cons, List.map_nil, not_true_eq_false, not_false_eq_true, false_implies, true_implies, implies_true, List.take_succ_cons, List.take_zero, List.take_nil, List.drop_succ_cons, List.drop_zero, List.drop_nil, Nat.reduceLT, Nat.reduceLeDiff, Nat.reduceEqDiff, Nat.reduceAdd, Nat.reduceSub, Nat.reduceMul, Int.reduceLT, Int.reduceLE, Int.reduceEq, Int.reduceToNat, Int.reduceAdd, Int.reduceSub, Int.reduceNeg, List.reduceReplicate, List.replicate_zero, List.replicate_succ, ne_eq, List.flatMap_cons, List.flatMap_nil, List.length_replicate, List.length_append, Nat.le_refl, Nat.le_add_right, Nat.add_assoc, List.append_assoc, or_true, true_or, or_false, false_or, and_false, false_and, exists_eq_left, exists_eq_left', Option.some.injEq, DV.int.injEq, DV.bool.injEq, DV.sl.injEq, DV.own.injEq, DV.tup.injEq, List.cons.injEq, Ob.arr.injEq, Ob.box.injEq, Option.map_map, Int.toNat_natCast, Int.toNat_zero, Nat.reducePow, Int.toNat_one, Int.reduceMul, Nat.mul_one, Nat.zero_add, Nat.add_zero, Function.comp_apply, List.map_append, List.map_replicate, Int.cast_ofNat_Int, Nat.left_eq_add, Nat.add_eq_left, Nat.add_left_cancel_iff]
  · intro _ _
    unfold rc_decode_l0 T1
    simp -implicitDefEqProofs only [tab_cons, F_slow_1, isInts_sl, vcA1, vcA2, vcA3, vcA4, vcA5, vcA6, vcA7, ↓vcP1, ↓vcP2, ↓reduceIte, Option.map_some, Option.map_none, Option.bind_some, Option.bind_none, if_true, if_false, reduceCtorEq, beq_true, beq_false, Bool.not_true, Bool.not_false, BEq.rfl, Bool.true_beq, Bool.false_beq, and_true, true_and, and_self, decide_true, decide_false, List.length_cons, List.length_nil, List.all_cons, List.all_nil, Bool.and_true, Bool.and_self, List.getElem?_cons_zero, List.getElem?_cons_succ, List.set_cons_zero, List.set_cons_succ, List.nil_append, List.cons_append, List.append_nil, List.map_cons, List.map_nil, not_true_eq_false, not_false_eq_true, false_implies, true_implies, implies_true, List.take_succ_cons, List.take_zero, List.take_nil, List.drop_succ_cons, List.drop_zero, List.drop_nil, Nat.reduceLT, Nat.reduceLeDiff, Nat.reduceEqDiff, Nat.reduceAdd, Nat.reduceSub, Nat.reduceMul, Int.reduceLT, Int.reduceLE, Int.reduceEq, Int.reduceToNat, Int.reduceAdd, Int.reduceSub, Int.reduceNeg, List.reduceReplicate, List.replicate_zero, List.replicate_succ, ne_eq, List.flatMap_cons, List.flatMap_nil, List.length_replicate, List.length_append, Nat.le_refl, Nat.le_add_right, Nat.add_assoc, List.append_assoc, or_true, true_or, or_false, false_or, and_false, false_and, exists_eq_left, exists_eq_left', Option.some.injEq, DV.int.injEq, DV.bool.injEq, DV.sl.injEq, DV.own.injEq, DV.tup.injEq, List.cons.injEq, Ob.arr.injEq, Ob.box.injEq, Option.map_map, Int.toNat_natCast, Int.toNat_zero, Nat.reducePow, Int.toNat_one, Int.reduceMul, Nat.mul_one, Nat.zero_add, Nat.add_zero, Function.comp_apply, List.map_append, List.map_replicate, Int.cast_ofNat_Int, Nat.left_eq_add, Nat.add_eq_left, Nat.add_left_cancel_iff]
    have hi : isInts .u8 (.sl sz (intRows .u8 l) k) := isInts_mk hs hk
    refine ⟨fun h => ?_, fun _ => hi⟩
    have h0 : 0 < l.length := by omega
    have hne : l ≠ [] := fun e => by simp [e] at h0
    have hb : 0 ≤ l.getD 0 0 ∧ l.getD 0 0 ≤ 255 := by
      rw [List.getD_eq_getElem?_getD, List.getElem?_eq_getElem h0]
      exact hk.u8 (List.getElem_mem h0)
    refine ⟨⟨by omega, hs.resolve_right hne⟩, h0, fun h => ?_, fun _ => hi⟩
    have hf : firstF (l.getD 0 0) = 240 := by unfold firstF; rw [if_pos h]
    rw [w32 hb.1 (by omega)]
    simp only [dec, hf]
    have : ¬ l.length = 0 := by omega
    simp [this]
def F_decode : List DV → Option FSpec
  | [a] => some ⟨isInts .u8 a, fun _ => (.tup [.int .i32 (dec (intsD a)).1, .int .i64 (dec (intsD a)).2], [])⟩
  | _ => none
theorem F_decode_1 (a : DV) : F_decode [a] = some ⟨isInts .u8 a, fun _ => (.tup [.int .i32 (dec (intsD a)).1, .int .i64 (dec (intsD a)).2], [])⟩ := nrfl _
theorem decode_ok (args : List DV) (s : FSpec) (hs : F_decode args = some s) (hp : s.pre) : PCalls PG 36 args fun n r os => r = (s.res n).1 ∧ os = (s.res n).2 := by
  unfold F_decode at hs
  split at hs
  · rename_i a
    obtain rfl := Option.some.inj hs
    obtain ⟨sa, ka, ha, ha2, ha3⟩ := isInts_inv hp
    have := decode_P (k := ka) ha2 ha3
    rw [← ha] at this
    exact this
  · cases hs

/-- Do bytes begin with a whole rune, or with none? -/
def full (p : List Int) : Bool :=
  if p.length = 0 then false
  else if firstF (p.getD 0 0) % 8 ≤ (p.length : Int) then true
  else if 1 < p.length ∧ (p.getD 1 0 < accLo (firstF (p.getD 0 0) / 16) ∨ accHi (firstF (p.getD 0 0) / 16) < p.getD 1 0) then true
  else if 2 < p.length ∧ (p.getD 2 0 < 128 ∨ 191 < p.getD 2 0) then true
  else false
theorem full_P {sz : Nat} {k : SK} {l : List Int} (hs : sz = 1 ∨ l = []) (hk : inK .u8 l) :
    PCalls PG 38 [.sl sz (intRows .u8 l) k] fun n r os => r = .bool (full l) ∧ os = [] := by
  refine FSpec.by_fn (s := ⟨True, fun n => (.bool (full l), [])⟩) FOk.nil rc_full_ok (by simp [rc_full]) fun n => ?_
  unfold rc_full
  dsimp only
  simp -implicitDefEqProofs only [gv_first, gv_acc, ↓bindO_first, ↓rowAt_acc, and7_u8, and15_u8, and31_u8, and63_u8, vcA1, vcA2, vcA3, vcA4, vcA5, vcA6, vcA7, ↓vcP1, ↓vcP2, ↓reduceIte, Option.map_some, Option.map_none, Option.bind_some, Option.bind_none, if_true, if_false, reduceCtorEq, beq_true, beq_false, Bool.not_true, Bool.not_false, BEq.rfl, Bool.true_beq, Bool.false_beq, and_true, true_and, and_self, decide_true, decide_false, List.length_cons, List.length_nil, List.all_cons, List.all_nil, Bool.and_true, Bool.and_self, List.getElem?_cons_zero, List.getElem?_cons_succ, List.set_cons_zero, List.set_cons_succ, List.nil_append, List.cons_append, List.append_nil, List.map_cons, List.map_nil, not_true_eq_false, not_false_eq_true, false_implies, true_implies, implies_true, List.take_succ_cons, List.take_zero, List.take_nil, List.drop_succ_cons, List.drop_zero, List.drop_nil, Nat.reduceLT, Nat.reduceLeDiff, Nat.reduceEqDiff, Nat.reduceAdd, Nat.reduceSub, Nat.reduceMul, Int.reduceLT, Int.reduceLE, Int.reduceEq, Int.reduceToNat, Int.reduceAdd, Int.reduceSub, Int.reduceNeg, List.reduceReplicate, List.replicate_zero, List.replicate_succ, ne_eq, List.flatMap_cons, List.flatMap_nil, List.length_replicate, List.length_append, Nat.le_refl, Nat.le_add_right, Nat.add_assoc, List.append_assoc, or_true, true_or, or_false, false_or, and_false, false_and, exists_eq_left, exists_eq_left', Option.some.injEq, DV.int.injEq, DV.bool.injEq, DV.sl.injEq, DV.own.injEq, DV.tup.injEq, List.cons.injEq, Ob.arr.injEq, Ob.box.injEq, Option.map_map, Int.toNat_natCast, Int.toNat_zero, Nat.reducePow, Int.toNat_one, Int.reduceMul, Nat.mul_one, Nat.zero_add, Nat.add_zero, Function.comp_apply, List.map_append, List.map_replicate, Int.cast_ofNat_Int, Nat.left_eq_add, Nat.add_eq_left, Nat.add_left_cancel_iff]
  by_cases h0 : l.length = 0
  · have : full l = false := by simp [full, h0]
    rw [this]
    refine ⟨fun _ => rfl, fun h => absurd h (by omega)⟩
  have hsz : sz = 1 := hs.resolve_right fun e => h0 (by simp [e])
  have hb0 : ∀ i, i < l.length → 0 ≤ l.getD i 0 ∧ l.getD i 0 ≤ 255 := fun i hi => by
    rw [List.getD_eq_getElem?_getD, List.getElem?_eq_getElem hi]
    exact hk.u8 (List.getElem_mem hi)
  obtain ⟨h00, h01⟩ := hb0 0 (by omega)
  refine ⟨fun h => absurd h (by omega), fun _ => ⟨⟨by omega, hsz⟩, by omega, ⟨h00, by omega⟩, by omega, ?_⟩⟩
  rw [Int.toNat_of_nonneg h00]
  have hw : ∀ x : Int, IntKind.i64.wrap (x % 8) = x % 8 := fun x => wI64 (by omega) (by omega)
  have hfd : ∀ x : Int, x.fdiv (2 ^ min 4 IntKind.u8.bits) = x / 16 := fun x => Int.fdiv_eq_ediv_of_nonneg x (by decide)
  simp only [hw, hfd]
  rcases firstF_in (l.getD 0 0) with hX | hX | hX | hX | hX | hX | hX | hX | hX <;> simp only [full, h0, hX, if_false] <;> clear hX
  all_goals simp [hsz, accLo, accHi]
  all_goals grind

end Go.Proofs.YteemmpghpdaloaaDoor
