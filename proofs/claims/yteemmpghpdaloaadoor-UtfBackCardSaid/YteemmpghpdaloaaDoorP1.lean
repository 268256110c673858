/- The program, its tables; plain functions. -/
import Derived.Test.YteemmpghpdaloaaDoorAb28
import Derived.Test.YteemmpghpdaloaaDoorProg
set_option linter.unusedVariables false
set_option linter.unusedSimpArgs false
set_option maxRecDepth 10000
namespace Go.Proofs.YteemmpghpdaloaaDoor
open Go.RowKit

/-- utf8's table of first bytes, and of the second ones' bounds. -/
def firstF (b : Int) : Int := if b < 128 then 240 else if b < 194 then 241 else if b < 224 then 2 else if b = 224 then 19 else if b < 237 then 3 else if b = 237 then 35 else if b < 240 then 3 else if b = 240 then 52 else if b < 244 then 4 else if b = 244 then 68 else 241
def accLo (a : Int) : Int := if a = 0 then 128 else if a = 1 then 160 else if a = 2 then 128 else if a = 3 then 144 else if a = 4 then 128 else 0
def accHi (a : Int) : Int := if a = 0 then 191 else if a = 1 then 191 else if a = 2 then 159 else if a = 3 then 191 else if a = 4 then 143 else 0
def firstRow : List DV := (List.range 256).map fun i : Nat => .int .u8 (firstF (i : Int))
def accRow : List DV := (List.range 32).map fun i : Nat => .int .u8 (if i % 2 = 0 then accLo ((i / 2 : Nat) : Int) else accHi ((i / 2 : Nat) : Int))
noncomputable def PG : Prg := ⟨Tryd.prog, fun g => if g = 0 then some firstRow else if g = 1 then some accRow else none⟩
theorem gv_first (st : St) : Opd.ev PG st (.g 0) = .rp firstRow 0 := by simp [Opd.ev, PG]
theorem gv_acc (st : St) : Opd.ev PG st (.g 1) = .rp accRow 0 := by simp [Opd.ev, PG]
theorem firstRow_len : firstRow.length = 256 := by simp [firstRow]
theorem accRow_len : accRow.length = 32 := by simp [accRow]
theorem first_get {b : Int} (h : 0 ≤ b) (h2 : b ≤ 255) : firstRow[b.toNat]? = some (.int .u8 (firstF b)) := by
  have : b.toNat < 256 := by omega
  simp [firstRow, this, Int.toNat_of_nonneg h]


theorem bindO_first (n : Nat) (f : DV → Prop) : bindO firstRow[n]? f = (n < 256 ∧ f (.int .u8 (firstF n))) := by
  by_cases h : n < 256
  · simp [firstRow, h, bindO]
  · simp [firstRow, h, bindO]
theorem rowAt_acc (n : Nat) : rowAt true 2 accRow (n * 2) = if n < 16 then some (.agg [.int .u8 (accLo n), .int .u8 (accHi n)]) else none := by
  by_cases h : n < 16
  · have : n = 0 ∨ n = 1 ∨ n = 2 ∨ n = 3 ∨ n = 4 ∨ n = 5 ∨ n = 6 ∨ n = 7 ∨ n = 8 ∨ n = 9 ∨ n = 10 ∨ n = 11 ∨ n = 12 ∨ n = 13 ∨ n = 14 ∨ n = 15 := by omega
    rcases this with rfl | rfl | rfl | rfl | rfl | rfl | rfl | rfl | rfl | rfl | rfl | rfl | rfl | rfl | rfl | rfl <;> rfl
  · rw [if_neg h, rowAt_t, if_neg (by rw [accRow_len]; omega)]

noncomputable def rc_may : RFn := ⟨1, 17, (.seq (.reg [⟨(some 2), (.mov (.c (.bool false))), none, false⟩] 0 [0]) (.seq (.reg [⟨(some 3), (.mov (.t 0)), none, false⟩, ⟨(some 4), (.bin .geq (.t 3) (.c (.int .i32 0))), none, false⟩, ⟨(some 5), (.mov (.t 4)), none, false⟩, ⟨(some 6), (.mov (.t 0)), (some (5, true)), false⟩, ⟨(some 7), (.bin .leq (.t 6) (.c (.int .i32 1114111))), (some (5, true)), false⟩, ⟨(some 8), (.pick (.t 5) (.t 7) (.c (.bool false))), none, false⟩, ⟨(some 9), (.mov (.t 8)), none, false⟩, ⟨(some 10), (.mov (.t 0)), (some (9, true)), false⟩, ⟨(some 11), (.bin .lss (.t 10) (.c (.int .i32 55296))), (some (9, true)), false⟩, ⟨(some 12), (.mov (.t 11)), (some (9, true)), false⟩, ⟨(some 13), (.mov (.t 0)), (some (12, false)), false⟩, ⟨(some 14), (.bin .gtr (.t 13) (.c (.int .i32 57343))), (some (12, false)), false⟩, ⟨(some 15), (.pick (.t 12) (.c (.bool true)) (.t 14)), (some (9, true)), false⟩, ⟨(some 16), (.pick (.t 9) (.t 15) (.c (.bool false))), none, false⟩, ⟨(some 2), (.mov (.t 16)), none, false⟩] 0 [2]) .ret)), [(.t 2)]⟩
theorem rc_may_ok : compFn PG.P [⟨0, 0, [0], []⟩, ⟨1, 0, [2], []⟩] 24 = some rc_may := by kernel_rfl
noncomputable def rc_runes_l0 : RC := (.seq (.seq (.reg [⟨(some 11), (.mov (.t 5)), none, false⟩, ⟨(some 12), (.mov (.t 0)), none, false⟩, ⟨(some 13), (.len (.t 12)), none, false⟩, ⟨(some 14), (.bin .lss (.t 11) (.t 13)), none, false⟩] 0 [0, 1, 5, 14]) (.cond (.t 14) .skip (.ext 0))) (.seq (.blk 1 (.seq (.regD (.take ⟨(some 17), (.mov (.t 0)), none, false⟩ [] (.take ⟨(some 18), (.mov (.t 5)), none, false⟩ [] (.take ⟨(some 19), (.iaddr 1 (.t 17) (.t 18)), none, false⟩ [] (.take ⟨(some 20), (.load false 1 (.t 19)), none, false⟩ [] (.take ⟨(some 21), (.mov (.t 1)), none, false⟩ [] (.take ⟨(some 22), (.mov (.t 5)), none, false⟩ [] (.take ⟨(some 23), (.iaddr 1 (.t 21) (.t 22)), none, false⟩ [] (.take ⟨(some 24), (.load false 1 (.t 23)), none, false⟩ [] (.take ⟨(some 25), (.bin .neq (.t 20) (.t 24)), none, false⟩ [] .done))))))))) 0 [0, 1, 5, 25]) (.cond (.t 25) (.seq (.reg [⟨(some 4), (.mov (.c (.bool false))), none, false⟩] 0 [4]) .ret) .skip))) (.reg [⟨(some 15), (.mov (.t 5)), none, false⟩, ⟨(some 16), (.bin .add (.t 15) (.c (.int .i64 1))), none, false⟩, ⟨(some 5), (.mov (.t 16)), none, false⟩] 0 [0, 1, 5])))
noncomputable def rc_runes : RFn := ⟨2, 26, (.seq (.reg [⟨(some 4), (.mov (.c (.bool false))), none, false⟩] 0 [0, 1]) (.seq (.seq (.reg [⟨(some 6), (.mov (.t 0)), none, false⟩, ⟨(some 7), (.len (.t 6)), none, false⟩, ⟨(some 8), (.mov (.t 1)), none, false⟩, ⟨(some 9), (.len (.t 8)), none, false⟩, ⟨(some 10), (.bin .neq (.t 7) (.t 9)), none, false⟩] 0 [0, 1, 10]) (.cond (.t 10) (.seq (.reg [⟨(some 4), (.mov (.c (.bool false))), none, false⟩] 0 [4]) .ret) .skip)) (.seq (.seq (.reg [⟨(some 5), (.mov (.c (.int .i64 0))), none, false⟩] 0 [0, 1, 5]) (.blk 0 (.loop rc_runes_l0))) (.seq (.reg [⟨(some 4), (.mov (.c (.bool true))), none, false⟩] 0 [4]) .ret)))), [(.t 4)]⟩
theorem rc_runes_ok : compFn PG.P [⟨0, 0, [0, 1], []⟩, ⟨1, 0, [0, 1, 10], []⟩, ⟨2, 0, [4], []⟩, ⟨3, 0, [0, 1, 5], []⟩, ⟨4, 0, [0, 1, 5, 14], []⟩, ⟨5, 0, [0, 1, 5], []⟩, ⟨6, 0, [0, 1, 5, 25], []⟩, ⟨7, 0, [4], []⟩, ⟨8, 0, [4], []⟩] 16 = some rc_runes := by kernel_rfl

def may (r : Int) : Bool := decide (0 ≤ r) && decide (r ≤ 1114111) && (decide (r < 55296) || decide (57343 < r))
def F_may : List DV → Option FSpec
  | [.int .i32 r] => some ⟨True, fun _ => (.bool (may r), [])⟩
  | _ => none
theorem may_ok (args : List DV) (s : FSpec) (hs : F_may args = some s) (hp : s.pre) : PCalls PG 24 args fun n r os => r = (s.res n).1 ∧ os = (s.res n).2 := by
  unfold F_may at hs
  split at hs
  · obtain rfl := Option.some.inj hs
    refine FSpec.by_fn FOk.nil rc_may_ok (by simp [rc_may]) fun n => ?_
    unfold rc_may
    dsimp only
    simp -implicitDefEqProofs only [vcA1, vcA2, vcA3, vcA4, vcA5, vcA6, vcA7, ↓vcP1, ↓vcP2, ↓reduceIte, Option.map_some, Option.map_none, Option.bind_some, Option.bind_none, if_true, if_false, reduceCtorEq, beq_true, beq_false, Bool.not_true, Bool.not_false, BEq.rfl, Bool.true_beq, Bool.false_beq, and_true, true_and, and_self, decide_true, decide_false, List.length_cons, List.length_nil, List.all_cons, List.all_nil, Bool.and_true, Bool.and_self, List.getElem?_cons_zero, List.getElem?_cons_succ, List.set_cons_zero, List.set_cons_succ, List.nil_append, List.cons_append, List.append_nil, List.map_cons, List.map_nil, not_true_eq_false, not_false_eq_true, false_implies, true_implies, implies_true, List.take_succ_cons, List.take_zero, List.take_nil, List.drop_succ_cons, List.drop_zero, List.drop_nil, Nat.reduceLT, Nat.reduceLeDiff, Nat.reduceEqDiff, Nat.reduceAdd, Nat.reduceSub, Nat.reduceMul, Int.reduceLT, Int.reduceLE, Int.reduceEq, Int.reduceToNat, Int.reduceAdd, Int.reduceSub, Int.reduceNeg, List.reduceReplicate, List.replicate_zero, List.replicate_succ, ne_eq, List.flatMap_cons, List.flatMap_nil, List.length_replicate, List.length_append, Nat.le_refl, Nat.le_add_right, Nat.add_assoc, List.append_assoc, or_true, true_or, or_false, false_or, and_false, false_and, exists_eq_left, exists_eq_left', Option.some.injEq, DV.int.injEq, DV.bool.injEq, DV.sl.injEq, DV.own.injEq, DV.tup.injEq, List.cons.injEq, Ob.arr.injEq, Ob.box.injEq, Option.map_map, Int.toNat_natCast, Int.toNat_zero, Nat.reducePow, Int.toNat_one, Int.reduceMul, Nat.mul_one, Nat.zero_add, Nat.add_zero, Function.comp_apply, List.map_append, List.map_replicate, Int.cast_ofNat_Int, Nat.left_eq_add, Nat.add_eq_left, Nat.add_left_cancel_iff]
    grind [may]
  · cases hs

/-- What bytes begin with: a rune, and of how many bytes. -/
def dec (p : List Int) : Int × Int :=
  if p.length = 0 then (65533, 0)
  else if 240 ≤ firstF (p.getD 0 0) then (if firstF (p.getD 0 0) = 241 then 65533 else p.getD 0 0, 1)
  else if (p.length : Int) < firstF (p.getD 0 0) % 8 then (65533, 1)
  else if p.getD 1 0 < accLo (firstF (p.getD 0 0) / 16) ∨ accHi (firstF (p.getD 0 0) / 16) < p.getD 1 0 then (65533, 1)
  else if firstF (p.getD 0 0) % 8 ≤ 2 then (p.getD 0 0 % 32 * 64 + p.getD 1 0 % 64, 2)
  else if p.getD 2 0 < 128 ∨ 191 < p.getD 2 0 then (65533, 1)
  else if firstF (p.getD 0 0) % 8 ≤ 3 then (p.getD 0 0 % 16 * 4096 + p.getD 1 0 % 64 * 64 + p.getD 2 0 % 64, 3)
  else if p.getD 3 0 < 128 ∨ 191 < p.getD 3 0 then (65533, 1)
  else (p.getD 0 0 % 8 * 262144 + p.getD 1 0 % 64 * 4096 + p.getD 2 0 % 64 * 64 + p.getD 3 0 % 64, 4)

theorem runes_P {sa sb : Nat} {ka kb : SK} {la lb : List Int} (ha : sa = 1 ∨ la = []) (hb : sb = 1 ∨ lb = []) (hka : inK .i32 la) (hkb : inK .i32 lb) :
    PCalls PG 16 [.sl sa (intRows .i32 la) ka, .sl sb (intRows .i32 lb) kb] fun n r os => r = .bool (decide (la = lb)) ∧ os = [] := by
  refine FSpec.by_fn (s := ⟨True, fun n => (.bool (decide (la = lb)), [])⟩) FOk.nil rc_runes_ok (by simp [rc_runes]) fun n => ?_
  unfold rc_runes
  dsimp only
  simp -implicitDefEqProofs only [vcA1, vcA2, vcA3, vcA4, vcA5, vcA6, vcA7, ↓vcP1, ↓vcP2, ↓reduceIte, Option.map_some, Option.map_none, Option.bind_some, Option.bind_none, if_true, if_false, reduceCtorEq, beq_true, beq_false, Bool.not_true, Bool.not_false, BEq.rfl, Bool.true_beq, Bool.false_beq, and_true, true_and, and_self, decide_true, decide_false, List.length_cons, List.length_nil, List.all_cons, List.all_nil, Bool.and_true, Bool.and_self, List.getElem?_cons_zero, List.getElem?_cons_succ, List.set_cons_zero, List.set_cons_succ, List.nil_append, List.cons_append, List.append_nil, List.map_cons, List.map_nil, not_true_eq_false, not_false_eq_true, false_implies, true_implies, implies_true, List.take_succ_cons, List.take_zero, List.take_nil, List.drop_succ_cons, List.drop_zero, List.drop_nil, Nat.reduceLT, Nat.reduceLeDiff, Nat.reduceEqDiff, Nat.reduceAdd, Nat.reduceSub, Nat.reduceMul, Int.reduceLT, Int.reduceLE, Int.reduceEq, Int.reduceToNat, Int.reduceAdd, Int.reduceSub, Int.reduceNeg, List.reduceReplicate, List.replicate_zero, List.replicate_succ, ne_eq, List.flatMap_cons, List.flatMap_nil, List.length_replicate, List.length_append, Nat.le_refl, Nat.le_add_right, Nat.add_assoc, List.append_assoc, or_true, true_or, or_false, false_or, and_false, false_and, exists_eq_left, exists_eq_left', Option.some.injEq, DV.int.injEq, DV.bool.injEq, DV.sl.injEq, DV.own.injEq, DV.tup.injEq, List.cons.injEq, Ob.arr.injEq, Ob.box.injEq, Option.map_map, Int.toNat_natCast, Int.toNat_zero, Nat.reducePow, Int.toNat_one, Int.reduceMul, Nat.mul_one, Nat.zero_add, Nat.add_zero, Function.comp_apply, List.map_append, List.map_replicate, Int.cast_ofNat_Int, Nat.left_eq_add, Nat.add_eq_left, Nat.add_left_cancel_iff]
  refine ⟨fun hl => ?_, fun hl => ?_⟩
  · refine LoopWp.inv FOk.nil (S := fun i : Nat => ⟨[(0, .sl sa (intRows .i32 la) ka), (1, .sl sb (intRows .i32 lb) kb), (5, .int .i64 i)], List.replicate n none⟩) (I := fun i => i ≤ la.length ∧ la.take i = lb.take i) (μ := fun i => la.length - i) 0 ⟨by omega, by simp⟩ ?_ ?_
    · simp -implicitDefEqProofs only [vcA1, vcA2, vcA3, vcA4, vcA5, vcA6, vcA7, ↓vcP1, ↓vcP2, ↓reduceIte, Option.map_some, Option.map_none, Option.bind_some, Option.bind_none, if_true, if_false, reduceCtorEq, beq_true, beq_false, Bool.not_true, Bool.not_false, BEq.rfl, Bool.true_beq, Bool.false_beq, and_true, true_and, and_self, decide_true, decide_false, List.length_cons, List.length_nil, List.all_cons, List.all_nil, Bool.and_true, Bool.and_self, List.getElem?_cons_zero, List.getElem?_cons_succ, List.set_cons_zero, List.set_cons_succ, List.nil_append, List.cons_append, List.append_nil, List.map_cons, List.map_nil, not_true_eq_false, not_false_eq_true, false_implies, true_implies, implies_true, List.take_succ_cons, List.take_zero, List.take_nil, List.drop_succ_cons, List.drop_zero, List.drop_nil, Nat.reduceLT, Nat.reduceLeDiff, Nat.reduceEqDiff, Nat.reduceAdd, Nat.reduceSub, Nat.reduceMul, Int.reduceLT, Int.reduceLE, Int.reduceEq, Int.reduceToNat, Int.reduceAdd, Int.reduceSub, Int.reduceNeg, List.reduceReplicate, List.replicate_zero, List.replicate_succ, ne_eq, List.flatMap_cons, List.flatMap_nil, List.length_replicate, List.length_append, Nat.le_refl, Nat.le_add_right, Nat.add_assoc, List.append_assoc, or_true, true_or, or_false, false_or, and_false, false_and, exists_eq_left, exists_eq_left', Option.some.injEq, DV.int.injEq, DV.bool.injEq, DV.sl.injEq, DV.own.injEq, DV.tup.injEq, List.cons.injEq, Ob.arr.injEq, Ob.box.injEq, Option.map_map, Int.toNat_natCast, Int.toNat_zero, Nat.reducePow, Int.toNat_one, Int.reduceMul, Nat.mul_one, Nat.zero_add, Nat.add_zero, Function.comp_apply, List.map_append, List.map_replicate, Int.cast_ofNat_Int, Nat.left_eq_add, Nat.add_eq_left, Nat.add_left_cancel_iff]
    · intro i ⟨hi, hpre⟩
      unfold rc_runes_l0
      simp -implicitDefEqProofs only [vcA1, vcA2, vcA3, vcA4, vcA5, vcA6, vcA7, ↓vcP1, ↓vcP2, ↓reduceIte, Option.map_some, Option.map_none, Option.bind_some, Option.bind_none, if_true, if_false, reduceCtorEq, beq_true, beq_false, Bool.not_true, Bool.not_false, BEq.rfl, Bool.true_beq, Bool.false_beq, and_true, true_and, and_self, decide_true, decide_false, List.length_cons, List.length_nil, List.all_cons, List.all_nil, Bool.and_true, Bool.and_self, List.getElem?_cons_zero, List.getElem?_cons_succ, List.set_cons_zero, List.set_cons_succ, List.nil_append, List.cons_append, List.append_nil, List.map_cons, List.map_nil, not_true_eq_false, not_false_eq_true, false_implies, true_implies, implies_true, List.take_succ_cons, List.take_zero, List.take_nil, List.drop_succ_cons, List.drop_zero, List.drop_nil, Nat.reduceLT, Nat.reduceLeDiff, Nat.reduceEqDiff, Nat.reduceAdd, Nat.reduceSub, Nat.reduceMul, Int.reduceLT, Int.reduceLE, Int.reduceEq, Int.reduceToNat, Int.reduceAdd, Int.reduceSub, Int.reduceNeg, List.reduceReplicate, List.replicate_zero, List.replicate_succ, ne_eq, List.flatMap_cons, List.flatMap_nil, List.length_replicate, List.length_append, Nat.le_refl, Nat.le_add_right, Nat.add_assoc, List.append_assoc, or_true, true_or, or_false, false_or, and_false, false_and, exists_eq_left, exists_eq_left', Option.some.injEq, DV.int.injEq, DV.bool.injEq, DV.sl.injEq, DV.own.injEq, DV.tup.injEq, List.cons.injEq, Ob.arr.injEq, Ob.box.injEq, Option.map_map, Int.toNat_natCast, Int.toNat_zero, Nat.reducePow, Int.toNat_one, Int.reduceMul, Nat.mul_one, Nat.zero_add, Nat.add_zero, Function.comp_apply, List.map_append, List.map_replicate, Int.cast_ofNat_Int, Nat.left_eq_add, Nat.add_eq_left, Nat.add_left_cancel_iff]
      have hk := hka.1
      refine ⟨fun h => ?_, fun h => ?_⟩
      · have h1 : i < la.length := by omega
        have h2 : i < lb.length := by omega
        have hna : la ≠ [] := fun e => by simp [e] at h1
        have hnb : lb ≠ [] := fun e => by simp [e] at h2
        refine ⟨⟨by omega, h, ha.resolve_right hna⟩, h1, ⟨by omega, by omega, hb.resolve_right hnb⟩, h2, ?_⟩
        simp only [List.getD_eq_getElem?_getD, List.getElem?_eq_getElem h1, List.getElem?_eq_getElem h2, Option.getD_some]
        refine ⟨fun e => ⟨i + 1, by rw [wI64] <;> omega, ⟨by omega, ?_⟩, by omega⟩, fun e => ?_⟩
        · rw [List.take_succ_eq_append_getElem h1, List.take_succ_eq_append_getElem h2, hpre, e]
        · symm
          apply decide_eq_false
          intro e2
          subst e2
          exact e rfl
      · have h1 : i = la.length := by omega
        have h2 : i = lb.length := by omega
        rw [h1, List.take_length, ← h1, h2, List.take_length] at hpre
        simp [hpre]
  · symm
    apply decide_eq_false
    intro e
    subst e
    exact hl rfl
def F_runes : List DV → Option FSpec
  | [a, b] => some ⟨isInts .i32 a ∧ isInts .i32 b, fun _ => (.bool (decide (intsD a = intsD b)), [])⟩
  | _ => none
theorem runes_ok (args : List DV) (s : FSpec) (hs : F_runes args = some s) (hp : s.pre) : PCalls PG 16 args fun n r os => r = (s.res n).1 ∧ os = (s.res n).2 := by
  unfold F_runes at hs
  split at hs
  · rename_i a b
    obtain rfl := Option.some.inj hs
    obtain ⟨sa, ka, ha, ha2, ha3⟩ := isInts_inv hp.1
    obtain ⟨sb, kb, hb, hb2, hb3⟩ := isInts_inv hp.2
    have := runes_P (ka := ka) (kb := kb) ha2 hb2 ha3 hb3
    rw [← ha, ← hb] at this
    exact this
  · cases hs

end Go.Proofs.YteemmpghpdaloaaDoor
