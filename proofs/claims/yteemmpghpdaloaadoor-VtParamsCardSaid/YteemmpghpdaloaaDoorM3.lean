/- Texts P1, P2, P3, P4, P5, P6, P7, P8, P9 in one. -/
import Derived.Test.YteemmpghpdaloaaDoorM2
import Derived.Test.YteemmpghpdaloaaDoorProg
section
/- The program, its tables; plain functions. -/
set_option linter.unusedVariables false
set_option linter.unusedSimpArgs false
set_option maxRecDepth 10000
namespace Go.Proofs.YteemmpghpdaloaaDoor
open Go.RowKit

/-- utf8's table of first bytes, and of the second ones' bounds. -/
def firstF (b : Int) : Int := if b < 128 then 240 else if b < 194 then 241 else if b < 224 then 2 else if b = 224 then 19 else if b < 237 then 3 else if b = 237 then 35 else if b < 240 then 3 else if b = 240 then 52 else if b < 244 then 4 else if b = 244 then 68 else 241
def accLo (a : Int) : Int := if a = 0 then 128 else if a = 1 then 160 else if a = 2 then 128 else if a = 3 then 144 else if a = 4 then 128 else 0
def accHi (a : Int) : Int := if a = 0 then 191 else if a = 1 then 191 else if a = 2 then 159 else if a = 3 then 191 else if a = 4 then 143 else 0
def firstRow : List DV := (List.range 256).map fun i : Nat => .int .u8 (firstF (i : Int))
def accRow : List DV := (List.range 32).map fun i : Nat => .int .u8 (if i % 2 = 0 then accLo ((i / 2 : Nat) : Int) else accHi ((i / 2 : Nat) : Int))
noncomputable def PG : Prg := ⟨Tryd.prog, fun g => if g = 0 then some firstRow else if g = 1 then some accRow else none⟩
theorem gv_first (st : St) : Opd.ev PG st (.g 0) = .rp firstRow 0 := by simp [Opd.ev, PG]
theorem gv_acc (st : St) : Opd.ev PG st (.g 1) = .rp accRow 0 := by simp [Opd.ev, PG]
theorem firstRow_len : firstRow.length = 256 := by simp [firstRow]
theorem accRow_len : accRow.length = 32 := by simp [accRow]
theorem first_get {b : Int} (h : 0 ≤ b) (h2 : b ≤ 255) : firstRow[b.toNat]? = some (.int .u8 (firstF b)) := by
  have : b.toNat < 256 := by omega
  simp [firstRow, this, Int.toNat_of_nonneg h]


theorem bindO_first (n : Nat) (f : DV → Prop) : bindO firstRow[n]? f = (n < 256 ∧ f (.int .u8 (firstF n))) := by
  by_cases h : n < 256
  · simp [firstRow, h, bindO]
  · simp [firstRow, h, bindO]
theorem rowAt_acc (n : Nat) : rowAt true 2 accRow (n * 2) = if n < 16 then some (.agg [.int .u8 (accLo n), .int .u8 (accHi n)]) else none := by
  by_cases h : n < 16
  · have : n = 0 ∨ n = 1 ∨ n = 2 ∨ n = 3 ∨ n = 4 ∨ n = 5 ∨ n = 6 ∨ n = 7 ∨ n = 8 ∨ n = 9 ∨ n = 10 ∨ n = 11 ∨ n = 12 ∨ n = 13 ∨ n = 14 ∨ n = 15 := by omega
    rcases this with rfl | rfl | rfl | rfl | rfl | rfl | rfl | rfl | rfl | rfl | rfl | rfl | rfl | rfl | rfl | rfl <;> rfl
  · rw [if_neg h, rowAt_t, if_neg (by rw [accRow_len]; omega)]

noncomputable def rc_may : RFn := ⟨1, 17, (.seq (.reg [⟨(some 2), (.mov (.c (.bool false))), none, false⟩] 0 [0]) (.seq (.reg [⟨(some 3), (.mov (.t 0)), none, false⟩, ⟨(some 4), (.bin .geq (.t 3) (.c (.int .i32 0))), none, false⟩, ⟨(some 5), (.mov (.t 4)), none, false⟩, ⟨(some 6), (.mov (.t 0)), (some (5, true)), false⟩, ⟨(some 7), (.bin .leq (.t 6) (.c (.int .i32 1114111))), (some (5, true)), false⟩, ⟨(some 8), (.pick (.t 5) (.t 7) (.c (.bool false))), none, false⟩, ⟨(some 9), (.mov (.t 8)), none, false⟩, ⟨(some 10), (.mov (.t 0)), (some (9, true)), false⟩, ⟨(some 11), (.bin .lss (.t 10) (.c (.int .i32 55296))), (some (9, true)), false⟩, ⟨(some 12), (.mov (.t 11)), (some (9, true)), false⟩, ⟨(some 13), (.mov (.t 0)), (some (12, false)), false⟩, ⟨(some 14), (.bin .gtr (.t 13) (.c (.int .i32 57343))), (some (12, false)), false⟩, ⟨(some 15), (.pick (.t 12) (.c (.bool true)) (.t 14)), (some (9, true)), false⟩, ⟨(some 16), (.pick (.t 9) (.t 15) (.c (.bool false))), none, false⟩, ⟨(some 2), (.mov (.t 16)), none, false⟩] 0 [2]) .ret)), [(.t 2)]⟩
theorem rc_may_ok : compFn PG.P [⟨0, 0, [0], []⟩, ⟨1, 0, [2], []⟩] 24 = some rc_may := by kernel_rfl
noncomputable def rc_runes_l0 : RC := (.seq (.seq (.reg [⟨(some 11), (.mov (.t 5)), none, false⟩, ⟨(some 12), (.mov (.t 0)), none, false⟩, ⟨(some 13), (.len (.t 12)), none, false⟩, ⟨(some 14), (.bin .lss (.t 11) (.t 13)), none, false⟩] 0 [0, 1, 5, 14]) (.cond (.t 14) .skip (.ext 0))) (.seq (.blk 1 (.seq (.regD (.take ⟨(some 17), (.mov (.t 0)), none, false⟩ [] (.take ⟨(some 18), (.mov (.t 5)), none, false⟩ [] (.take ⟨(some 19), (.iaddr 1 (.t 17) (.t 18)), none, false⟩ [] (.take ⟨(some 20), (.load false 1 (.t 19)), none, false⟩ [] (.take ⟨(some 21), (.mov (.t 1)), none, false⟩ [] (.take ⟨(some 22), (.mov (.t 5)), none, false⟩ [] (.take ⟨(some 23), (.iaddr 1 (.t 21) (.t 22)), none, false⟩ [] (.take ⟨(some 24), (.load false 1 (.t 23)), none, false⟩ [] (.take ⟨(some 25), (.bin .neq (.t 20) (.t 24)), none, false⟩ [] .done))))))))) 0 [0, 1, 5, 25]) (.cond (.t 25) (.seq (.reg [⟨(some 4), (.mov (.c (.bool false))), none, false⟩] 0 [4]) .ret) .skip))) (.reg [⟨(some 15), (.mov (.t 5)), none, false⟩, ⟨(some 16), (.bin .add (.t 15) (.c (.int .i64 1))), none, false⟩, ⟨(some 5), (.mov (.t 16)), none, false⟩] 0 [0, 1, 5])))
noncomputable def rc_runes : RFn := ⟨2, 26, (.seq (.reg [⟨(some 4), (.mov (.c (.bool false))), none, false⟩] 0 [0, 1]) (.seq (.seq (.reg [⟨(some 6), (.mov (.t 0)), none, false⟩, ⟨(some 7), (.len (.t 6)), none, false⟩, ⟨(some 8), (.mov (.t 1)), none, false⟩, ⟨(some 9), (.len (.t 8)), none, false⟩, ⟨(some 10), (.bin .neq (.t 7) (.t 9)), none, false⟩] 0 [0, 1, 10]) (.cond (.t 10) (.seq (.reg [⟨(some 4), (.mov (.c (.bool false))), none, false⟩] 0 [4]) .ret) .skip)) (.seq (.seq (.reg [⟨(some 5), (.mov (.c (.int .i64 0))), none, false⟩] 0 [0, 1, 5]) (.blk 0 (.loop rc_runes_l0))) (.seq (.reg [⟨(some 4), (.mov (.c (.bool true))), none, false⟩] 0 [4]) .ret)))), [(.t 4)]⟩
theorem rc_runes_ok : compFn PG.P [⟨0, 0, [0, 1], []⟩, ⟨1, 0, [0, 1, 10], []⟩, ⟨2, 0, [4], []⟩, ⟨3, 0, [0, 1, 5], []⟩, ⟨4, 0, [0, 1, 5, 14], []⟩, ⟨5, 0, [0, 1, 5], []⟩, ⟨6, 0, [0, 1, 5, 25], []⟩, ⟨7, 0, [4], []⟩, ⟨8, 0, [4], []⟩] 16 = some rc_runes := by kernel_rfl

def may (r : Int) : Bool := decide (0 ≤ r) && decide (r ≤ 1114111) && (decide (r < 55296) || decide (57343 < r))
def F_may : List DV → Option FSpec
  | [.int .i32 r] => some ⟨True, fun _ => (.bool (may r), [])⟩
  | _ => none
theorem may_ok (args : List DV) (s : FSpec) (hs : F_may args = some s) (hp : s.pre) : PCalls PG 24 args fun n r os => r = (s.res n).1 ∧ os = (s.res n).2 := by
  unfold F_may at hs
  split at hs
  · obtain rfl := Option.some.inj hs
    refine FSpec.by_fn FOk.nil rc_may_ok (by simp [rc_may]) fun n => ?_
    unfold rc_may
    dsimp only
    simp -implicitDefEqProofs only [vcA1, vcA2, vcA3, vcA4, vcA5, vcA6, vcA7, ↓vcP1, ↓vcP2, ↓reduceIte, Option.map_some, Option.map_none, Option.bind_some, Option.bind_none, if_true, if_false, reduceCtorEq, beq_true, beq_false, Bool.not_true, Bool.not_false, BEq.rfl, Bool.true_beq, Bool.false_beq, and_true, true_and, and_self, decide_true, decide_false, List.length_cons, List.length_nil, List.all_cons, List.all_nil, Bool.and_true, Bool.and_self, List.getElem?_cons_zero, List.getElem?_cons_succ, List.set_cons_zero, List.set_cons_succ, List.nil_append, List.cons_append, List.append_nil, List.map_cons, List.map_nil, not_true_eq_false, not_false_eq_true, false_implies, true_implies, implies_true, List.take_succ_cons, List.take_zero, List.take_nil, List.drop_succ_cons, List.drop_zero, List.drop_nil, Nat.reduceLT, Nat.reduceLeDiff, Nat.reduceEqDiff, Nat.reduceAdd, Nat.reduceSub, Nat.reduceMul, Int.reduceLT, Int.reduceLE, Int.reduceEq, Int.reduceToNat, Int.reduceAdd, Int.reduceSub, Int.reduceNeg, List.reduceReplicate, List.replicate_zero, List.replicate_succ, ne_eq, List.flatMap_cons, List.flatMap_nil, List.length_replicate, List.length_append, Nat.le_refl, Nat.le_add_right, Nat.add_assoc, List.append_assoc, or_true, true_or, or_false, false_or, and_false, false_and, exists_eq_left, exists_eq_left', Option.some.injEq, DV.int.injEq, DV.bool.injEq, DV.sl.injEq, DV.own.injEq, DV.tup.injEq, List.cons.injEq, Ob.arr.injEq, Ob.box.injEq, Option.map_map, Int.toNat_natCast, Int.toNat_zero, Nat.reducePow, Int.toNat_one, Int.reduceMul, Nat.mul_one, Nat.zero_add, Nat.add_zero, Function.comp_apply, List.map_append, List.map_replicate, Int.cast_ofNat_Int, Nat.left_eq_add, Nat.add_eq_left, Nat.add_left_cancel_iff]
    grind [may]
  · cases hs

/-- What bytes begin with: a rune, and of how many bytes. -/
def dec (p : List Int) : Int × Int :=
  if p.length = 0 then (65533, 0)
  else if 240 ≤ firstF (p.getD 0 0) then (if firstF (p.getD 0 0) = 241 then 65533 else p.getD 0 0, 1)
  else if (p.length : Int) < firstF (p.getD 0 0) % 8 then (65533, 1)
  else if p.getD 1 0 < accLo (firstF (p.getD 0 0) / 16) ∨ accHi (firstF (p.getD 0 0) / 16) < p.getD 1 0 then (65533, 1)
  else if firstF (p.getD 0 0) % 8 ≤ 2 then (p.getD 0 0 % 32 * 64 + p.getD 1 0 % 64, 2)
  else if p.getD 2 0 < 128 ∨ 191 < p.getD 2 0 then (65533, 1)
  else if firstF (p.getD 0 0) % 8 ≤ 3 then (p.getD 0 0 % 16 * 4096 + p.getD 1 0 % 64 * 64 + p.getD 2 0 % 64, 3)
  else if p.getD 3 0 < 128 ∨ 191 < p.getD 3 0 then (65533, 1)
  else (p.getD 0 0 % 8 * 262144 + p.getD 1 0 % 64 * 4096 + p.getD 2 0 % 64 * 64 + p.getD 3 0 % 64, 4)

theorem runes_P {sa sb : Nat} {ka kb : SK} {la lb : List Int} (ha : sa = 1 ∨ la = []) (hb : sb = 1 ∨ lb = []) (hka : inK .i32 la) (hkb : inK .i32 lb) :
    PCalls PG 16 [.sl sa (intRows .i32 la) ka, .sl sb (intRows .i32 lb) kb] fun n r os => r = .bool (decide (la = lb)) ∧ os = [] := by
  refine FSpec.by_fn (s := ⟨True, fun n => (.bool (decide (la = lb)), [])⟩) FOk.nil rc_runes_ok (by simp [rc_runes]) fun n => ?_
  unfold rc_runes
  dsimp only
  simp -implicitDefEqProofs only [vcA1, vcA2, vcA3, vcA4, vcA5, vcA6, vcA7, ↓vcP1, ↓vcP2, ↓reduceIte, Option.map_some, Option.map_none, Option.bind_some, Option.bind_none, if_true, if_false, reduceCtorEq, beq_true, beq_false, Bool.not_true, Bool.not_false, BEq.rfl, Bool.true_beq, Bool.false_beq, and_true, true_and, and_self, decide_true, decide_false, List.length_cons, List.length_nil, List.all_cons, List.all_nil, Bool.and_true, Bool.and_self, List.getElem?_cons_zero, List.getElem?_cons_succ, List.set_cons_zero, List.set_cons_succ, List.nil_append, List.cons_append, List.append_nil, List.map_cons, List.map_nil, not_true_eq_false, not_false_eq_true, false_implies, true_implies, implies_true, List.take_succ_cons, List.take_zero, List.take_nil, List.drop_succ_cons, List.drop_zero, List.drop_nil, Nat.reduceLT, Nat.reduceLeDiff, Nat.reduceEqDiff, Nat.reduceAdd, Nat.reduceSub, Nat.reduceMul, Int.reduceLT, Int.reduceLE, Int.reduceEq, Int.reduceToNat, Int.reduceAdd, Int.reduceSub, Int.reduceNeg, List.reduceReplicate, List.replicate_zero, List.replicate_succ, ne_eq, List.flatMap_cons, List.flatMap_nil, List.length_replicate, List.length_append, Nat.le_refl, Nat.le_add_right, Nat.add_assoc, List.append_assoc, or_true, true_or, or_false, false_or, and_false, false_and, exists_eq_left, exists_eq_left', Option.some.injEq, DV.int.injEq, DV.bool.injEq, DV.sl.injEq, DV.own.injEq, DV.tup.injEq, List.cons.injEq, Ob.arr.injEq, Ob.box.injEq, Option.map_map, Int.toNat_natCast, Int.toNat_zero, Nat.reducePow, Int.toNat_one, Int.reduceMul, Nat.mul_one, Nat.zero_add, Nat.add_zero, Function.comp_apply, List.map_append, List.map_replicate, Int.cast_ofNat_Int, Nat.left_eq_add, Nat.add_eq_left, Nat.add_left_cancel_iff]
  refine ⟨fun hl => ?_, fun hl => ?_⟩
  · refine LoopWp.inv FOk.nil (S := fun i : Nat => ⟨[(0, .sl sa (intRows .i32 la) ka), (1, .sl sb (intRows .i32 lb) kb), (5, .int .i64 i)], List.replicate n none⟩) (I := fun i => i ≤ la.length ∧ la.take i = lb.take i) (μ := fun i => la.length - i) 0 ⟨by omega, by simp⟩ ?_ ?_
    · simp -implicitDefEqProofs only [vcA1, vcA2, vcA3, vcA4, vcA5, vcA6, vcA7, ↓vcP1, ↓vcP2, ↓reduceIte, Option.map_some, Option.map_none, Option.bind_some, Option.bind_none, if_true, if_false, reduceCtorEq, beq_true, beq_false, Bool.not_true, Bool.not_false, BEq.rfl, Bool.true_beq, Bool.false_beq, and_true, true_and, and_self, decide_true, decide_false, List.length_cons, List.length_nil, List.all_cons, List.all_nil, Bool.and_true, Bool.and_self, List.getElem?_cons_zero, List.getElem?_cons_succ, List.set_cons_zero, List.set_cons_succ, List.nil_append, List.cons_append, List.append_nil, List.map_cons, List.map_nil, not_true_eq_false, not_false_eq_true, false_implies, true_implies, implies_true, List.take_succ_cons, List.take_zero, List.take_nil, List.drop_succ_cons, List.drop_zero, List.drop_nil, Nat.reduceLT, Nat.reduceLeDiff, Nat.reduceEqDiff, Nat.reduceAdd, Nat.reduceSub, Nat.reduceMul, Int.reduceLT, Int.reduceLE, Int.reduceEq, Int.reduceToNat, Int.reduceAdd, Int.reduceSub, Int.reduceNeg, List.reduceReplicate, List.replicate_zero, List.replicate_succ, ne_eq, List.flatMap_cons, List.flatMap_nil, List.length_replicate, List.length_append, Nat.le_refl, Nat.le_add_right, Nat.add_assoc, List.append_assoc, or_true, true_or, or_false, false_or, and_false, false_and, exists_eq_left, exists_eq_left', Option.some.injEq, DV.int.injEq, DV.bool.injEq, DV.sl.injEq, DV.own.injEq, DV.tup.injEq, List.cons.injEq, Ob.arr.injEq, Ob.box.injEq, Option.map_map, Int.toNat_natCast, Int.toNat_zero, Nat.reducePow, Int.toNat_one, Int.reduceMul, Nat.mul_one, Nat.zero_add, Nat.add_zero, Function.comp_apply, List.map_append, List.map_replicate, Int.cast_ofNat_Int, Nat.left_eq_add, Nat.add_eq_left, Nat.add_left_cancel_iff]
    · intro i ⟨hi, hpre⟩
      unfold rc_runes_l0
      simp -implicitDefEqProofs only [vcA1, vcA2, vcA3, vcA4, vcA5, vcA6, vcA7, ↓vcP1, ↓vcP2, ↓reduceIte, Option.map_some, Option.map_none, Option.bind_some, Option.bind_none, if_true, if_false, reduceCtorEq, beq_true, beq_false, Bool.not_true, Bool.not_false, BEq.rfl, Bool.true_beq, Bool.false_beq, and_true, true_and, and_self, decide_true, decide_false, List.length_cons, List.length_nil, List.all_cons, List.all_nil, Bool.and_true, Bool.and_self, List.getElem?_cons_zero, List.getElem?_cons_succ, List.set_cons_zero, List.set_cons_succ, List.nil_append, List.cons_append, List.append_nil, List.map_cons, List.map_nil, not_true_eq_false, not_false_eq_true, false_implies, true_implies, implies_true, List.take_succ_cons, List.take_zero, List.take_nil, List.drop_succ_cons, List.drop_zero, List.drop_nil, Nat.reduceLT, Nat.reduceLeDiff, Nat.reduceEqDiff, Nat.reduceAdd, Nat.reduceSub, Nat.reduceMul, Int.reduceLT, Int.reduceLE, Int.reduceEq, Int.reduceToNat, Int.reduceAdd, Int.reduceSub, Int.reduceNeg, List.reduceReplicate, List.replicate_zero, List.replicate_succ, ne_eq, List.flatMap_cons, List.flatMap_nil, List.length_replicate, List.length_append, Nat.le_refl, Nat.le_add_right, Nat.add_assoc, List.append_assoc, or_true, true_or, or_false, false_or, and_false, false_and, exists_eq_left, exists_eq_left', Option.some.injEq, DV.int.injEq, DV.bool.injEq, DV.sl.injEq, DV.own.injEq, DV.tup.injEq, List.cons.injEq, Ob.arr.injEq, Ob.box.injEq, Option.map_map, Int.toNat_natCast, Int.toNat_zero, Nat.reducePow, Int.toNat_one, Int.reduceMul, Nat.mul_one, Nat.zero_add, Nat.add_zero, Function.comp_apply, List.map_append, List.map_replicate, Int.cast_ofNat_Int, Nat.left_eq_add, Nat.add_eq_left, Nat.add_left_cancel_iff]
      have hk := hka.1
      refine ⟨fun h => ?_, fun h => ?_⟩
      · have h1 : i < la.length := by omega
        have h2 : i < lb.length := by omega
        have hna : la ≠ [] := fun e => by simp [e] at h1
        have hnb : lb ≠ [] := fun e => by simp [e] at h2
        refine ⟨⟨by omega, h, ha.resolve_right hna⟩, h1, ⟨by omega, by omega, hb.resolve_right hnb⟩, h2, ?_⟩
        simp only [List.getD_eq_getElem?_getD, List.getElem?_eq_getElem h1, List.getElem?_eq_getElem h2, Option.getD_some]
        refine ⟨fun e => ⟨i + 1, by rw [wI64] <;> omega, ⟨by omega, ?_⟩, by omega⟩, fun e => ?_⟩
        · rw [List.take_succ_eq_append_getElem h1, List.take_succ_eq_append_getElem h2, hpre, e]
        · symm
          apply decide_eq_false
          intro e2
          subst e2
          exact e rfl
      · have h1 : i = la.length := by omega
        have h2 : i = lb.length := by omega
        rw [h1, List.take_length, ← h1, h2, List.take_length] at hpre
        simp [hpre]
  · symm
    apply decide_eq_false
    intro e
    subst e
    exact hl rfl
def F_runes : List DV → Option FSpec
  | [a, b] => some ⟨isInts .i32 a ∧ isInts .i32 b, fun _ => (.bool (decide (intsD a = intsD b)), [])⟩
  | _ => none
theorem runes_ok (args : List DV) (s : FSpec) (hs : F_runes args = some s) (hp : s.pre) : PCalls PG 16 args fun n r os => r = (s.res n).1 ∧ os = (s.res n).2 := by
  unfold F_runes at hs
  split at hs
  · rename_i a b
    obtain rfl := Option.some.inj hs
    obtain ⟨sa, ka, ha, ha2, ha3⟩ := isInts_inv hp.1
    obtain ⟨sb, kb, hb, hb2, hb3⟩ := isInts_inv hp.2
    have := runes_P (ka := ka) (kb := kb) ha2 hb2 ha3 hb3
    rw [← ha, ← hb] at this
    exact this
  · cases hs

end Go.Proofs.YteemmpghpdaloaaDoor
end
section
/- utf8: tables, decoding. -/
set_option linter.unusedVariables false
set_option linter.unusedSimpArgs false
set_option maxRecDepth 10000
namespace Go.Proofs.YteemmpghpdaloaaDoor
open Go.RowKit

noncomputable def rc_slow : RFn := ⟨1, 122, (.seq (.reg [⟨(some 2), (.mov (.c (.int .i32 0))), none, false⟩, ⟨(some 3), (.mov (.c (.int .i64 0))), none, false⟩] 0 [0]) (.seq (.reg [⟨(some 13), (.mov (.t 0)), none, false⟩, ⟨(some 14), (.len (.t 13)), none, false⟩, ⟨(some 4), (.mov (.t 14)), none, false⟩] 0 [0, 4]) (.seq (.seq (.reg [⟨(some 15), (.mov (.t 4)), none, false⟩, ⟨(some 16), (.bin .lss (.t 15) (.c (.int .i64 1))), none, false⟩] 0 [0, 4, 16]) (.cond (.t 16) (.seq (.reg [⟨(some 2), (.mov (.c (.int .i32 65533))), none, false⟩, ⟨(some 3), (.mov (.c (.int .i64 0))), none, false⟩] 0 [2, 3]) .ret) .skip)) (.seq (.reg [⟨(some 17), (.mov (.t 0)), none, false⟩, ⟨(some 18), (.iaddr 1 (.t 17) (.c (.int .i64 0))), none, false⟩, ⟨(some 19), (.load false 1 (.t 18)), none, false⟩, ⟨(some 5), (.mov (.t 19)), none, false⟩] 0 [0, 4, 5]) (.seq (.reg [⟨(some 20), (.mov (.t 5)), none, false⟩, ⟨(some 21), (.iaddrA 256 1 (.g 0) (.t 20)), none, false⟩, ⟨(some 22), (.load false 1 (.t 21)), none, false⟩, ⟨(some 6), (.mov (.t 22)), none, false⟩] 0 [0, 4, 5, 6]) (.seq (.seq (.reg [⟨(some 23), (.mov (.t 6)), none, false⟩, ⟨(some 24), (.bin .geq (.t 23) (.c (.int .u8 240))), none, false⟩] 0 [0, 4, 5, 6, 24]) (.cond (.t 24) (.seq (.reg [⟨(some 25), (.mov (.t 6)), none, false⟩, ⟨(some 26), (.conv (.i2i .i32) (.t 25)), none, false⟩, ⟨(some 27), (.bin .shl (.t 26) (.c (.int .u64 31))), none, false⟩, ⟨(some 28), (.bin .shr (.t 27) (.c (.int .u64 31))), none, false⟩, ⟨(some 7), (.mov (.t 28)), none, false⟩] 0 [0, 7]) (.seq (.reg [⟨(some 29), (.mov (.t 0)), none, false⟩, ⟨(some 30), (.iaddr 1 (.t 29) (.c (.int .i64 0))), none, false⟩, ⟨(some 31), (.load false 1 (.t 30)), none, false⟩, ⟨(some 32), (.conv (.i2i .i32) (.t 31)), none, false⟩, ⟨(some 33), (.mov (.t 7)), none, false⟩, ⟨(some 34), (.bin .andNot (.t 32) (.t 33)), none, false⟩, ⟨(some 35), (.mov (.t 7)), none, false⟩, ⟨(some 36), (.bin .and (.c (.int .i32 65533)) (.t 35)), none, false⟩, ⟨(some 37), (.bin .or (.t 34) (.t 36)), none, false⟩, ⟨(some 2), (.mov (.t 37)), none, false⟩, ⟨(some 3), (.mov (.c (.int .i64 1))), none, false⟩] 0 [2, 3]) .ret)) .skip)) (.seq (.reg [⟨(some 38), (.mov (.t 6)), none, false⟩, ⟨(some 39), (.bin .and (.t 38) (.c (.int .u8 7))), none, false⟩, ⟨(some 40), (.conv (.i2i .i64) (.t 39)), none, false⟩, ⟨(some 8), (.mov (.t 40)), none, false⟩] 0 [0, 4, 5, 6, 8]) (.seq (.reg [⟨(some 41), (.mov (.t 6)), none, false⟩, ⟨(some 42), (.bin .shr (.t 41) (.c (.int .u64 4))), none, false⟩, ⟨(some 43), (.iaddrA 16 2 (.g 1) (.t 42)), none, false⟩, ⟨(some 44), (.load true 2 (.t 43)), none, false⟩, ⟨(some 9), (.alloc [(.int .u8 0), (.int .u8 0)]), none, false⟩, ⟨none, (.store 2 (.t 9) (.t 44)), none, false⟩] 0 [0, 4, 5, 8, 9]) (.seq (.seq (.reg [⟨(some 45), (.mov (.t 4)), none, false⟩, ⟨(some 46), (.mov (.t 8)), none, false⟩, ⟨(some 47), (.bin .lss (.t 45) (.t 46)), none, false⟩] 0 [0, 5, 8, 9, 47]) (.cond (.t 47) (.seq (.reg [⟨(some 2), (.mov (.c (.int .i32 65533))), none, false⟩, ⟨(some 3), (.mov (.c (.int .i64 1))), none, false⟩] 0 [2, 3]) .ret) .skip)) (.seq (.reg [⟨(some 48), (.mov (.t 0)), none, false⟩, ⟨(some 49), (.iaddr 1 (.t 48) (.c (.int .i64 1))), none, false⟩, ⟨(some 50), (.load false 1 (.t 49)), none, false⟩, ⟨(some 10), (.mov (.t 50)), none, false⟩] 0 [0, 5, 8, 9, 10]) (.seq (.seq (.reg [⟨(some 51), (.mov (.t 10)), none, false⟩, ⟨(some 52), (.faddr 0 (.t 9)), none, false⟩, ⟨(some 53), (.load false 1 (.t 52)), none, false⟩, ⟨(some 54), (.bin .lss (.t 51) (.t 53)), none, false⟩, ⟨(some 55), (.mov (.t 54)), none, false⟩, ⟨(some 56), (.faddr 1 (.t 9)), (some (55, false)), false⟩, ⟨(some 57), (.load false 1 (.t 56)), (some (55, false)), false⟩, ⟨(some 58), (.mov (.t 10)), (some (55, false)), false⟩, ⟨(some 59), (.bin .lss (.t 57) (.t 58)), (some (55, false)), false⟩, ⟨(some 60), (.pick (.t 55) (.c (.bool true)) (.t 59)), none, false⟩] 0 [0, 5, 8, 10, 60]) (.cond (.t 60) (.seq (.reg [⟨(some 2), (.mov (.c (.int .i32 65533))), none, false⟩, ⟨(some 3), (.mov (.c (.int .i64 1))), none, false⟩] 0 [2, 3]) .ret) .skip)) (.seq (.seq (.reg [⟨(some 61), (.mov (.t 8)), none, false⟩, ⟨(some 62), (.bin .leq (.t 61) (.c (.int .i64 2))), none, false⟩] 0 [0, 5, 8, 10, 62]) (.cond (.t 62) (.seq (.reg [⟨(some 63), (.mov (.t 5)), none, false⟩, ⟨(some 64), (.bin .and (.t 63) (.c (.int .u8 31))), none, false⟩, ⟨(some 65), (.conv (.i2i .i32) (.t 64)), none, false⟩, ⟨(some 66), (.bin .shl (.t 65) (.c (.int .u64 6))), none, false⟩, ⟨(some 67), (.mov (.t 10)), none, false⟩, ⟨(some 68), (.bin .and (.t 67) (.c (.int .u8 63))), none, false⟩, ⟨(some 69), (.conv (.i2i .i32) (.t 68)), none, false⟩, ⟨(some 70), (.bin .or (.t 66) (.t 69)), none, false⟩, ⟨(some 2), (.mov (.t 70)), none, false⟩, ⟨(some 3), (.mov (.c (.int .i64 2))), none, false⟩] 0 [2, 3]) .ret) .skip)) (.seq (.reg [⟨(some 71), (.mov (.t 0)), none, false⟩, ⟨(some 72), (.iaddr 1 (.t 71) (.c (.int .i64 2))), none, false⟩, ⟨(some 73), (.load false 1 (.t 72)), none, false⟩, ⟨(some 11), (.mov (.t 73)), none, false⟩] 0 [0, 5, 8, 10, 11]) (.seq (.seq (.reg [⟨(some 74), (.mov (.t 11)), none, false⟩, ⟨(some 75), (.bin .lss (.t 74) (.c (.int .u8 128))), none, false⟩, ⟨(some 76), (.mov (.t 75)), none, false⟩, ⟨(some 77), (.mov (.t 11)), (some (76, false)), false⟩, ⟨(some 78), (.bin .lss (.c (.int .u8 191)) (.t 77)), (some (76, false)), false⟩, ⟨(some 79), (.pick (.t 76) (.c (.bool true)) (.t 78)), none, false⟩] 0 [0, 5, 8, 10, 11, 79]) (.cond (.t 79) (.seq (.reg [⟨(some 2), (.mov (.c (.int .i32 65533))), none, false⟩, ⟨(some 3), (.mov (.c (.int .i64 1))), none, false⟩] 0 [2, 3]) .ret) .skip)) (.seq (.seq (.reg [⟨(some 80), (.mov (.t 8)), none, false⟩, ⟨(some 81), (.bin .leq (.t 80) (.c (.int .i64 3))), none, false⟩] 0 [0, 5, 10, 11, 81]) (.cond (.t 81) (.seq (.reg [⟨(some 82), (.mov (.t 5)), none, false⟩, ⟨(some 83), (.bin .and (.t 82) (.c (.int .u8 15))), none, false⟩, ⟨(some 84), (.conv (.i2i .i32) (.t 83)), none, false⟩, ⟨(some 85), (.bin .shl (.t 84) (.c (.int .u64 12))), none, false⟩, ⟨(some 86), (.mov (.t 10)), none, false⟩, ⟨(some 87), (.bin .and (.t 86) (.c (.int .u8 63))), none, false⟩, ⟨(some 88), (.conv (.i2i .i32) (.t 87)), none, false⟩, ⟨(some 89), (.bin .shl (.t 88) (.c (.int .u64 6))), none, false⟩, ⟨(some 90), (.bin .or (.t 85) (.t 89)), none, false⟩, ⟨(some 91), (.mov (.t 11)), none, false⟩, ⟨(some 92), (.bin .and (.t 91) (.c (.int .u8 63))), none, false⟩, ⟨(some 93), (.conv (.i2i .i32) (.t 92)), none, false⟩, ⟨(some 94), (.bin .or (.t 90) (.t 93)), none, false⟩, ⟨(some 2), (.mov (.t 94)), none, false⟩, ⟨(some 3), (.mov (.c (.int .i64 3))), none, false⟩] 0 [2, 3]) .ret) .skip)) (.seq (.reg [⟨(some 95), (.mov (.t 0)), none, false⟩, ⟨(some 96), (.iaddr 1 (.t 95) (.c (.int .i64 3))), none, false⟩, ⟨(some 97), (.load false 1 (.t 96)), none, false⟩, ⟨(some 12), (.mov (.t 97)), none, false⟩] 0 [5, 10, 11, 12]) (.seq (.seq (.reg [⟨(some 98), (.mov (.t 12)), none, false⟩, ⟨(some 99), (.bin .lss (.t 98) (.c (.int .u8 128))), none, false⟩, ⟨(some 100), (.mov (.t 99)), none, false⟩, ⟨(some 101), (.mov (.t 12)), (some (100, false)), false⟩, ⟨(some 102), (.bin .lss (.c (.int .u8 191)) (.t 101)), (some (100, false)), false⟩, ⟨(some 103), (.pick (.t 100) (.c (.bool true)) (.t 102)), none, false⟩] 0 [5, 10, 11, 12, 103]) (.cond (.t 103) (.seq (.reg [⟨(some 2), (.mov (.c (.int .i32 65533))), none, false⟩, ⟨(some 3), (.mov (.c (.int .i64 1))), none, false⟩] 0 [2, 3]) .ret) .skip)) (.seq (.reg [⟨(some 104), (.mov (.t 5)), none, false⟩, ⟨(some 105), (.bin .and (.t 104) (.c (.int .u8 7))), none, false⟩, ⟨(some 106), (.conv (.i2i .i32) (.t 105)), none, false⟩, ⟨(some 107), (.bin .shl (.t 106) (.c (.int .u64 18))), none, false⟩, ⟨(some 108), (.mov (.t 10)), none, false⟩, ⟨(some 109), (.bin .and (.t 108) (.c (.int .u8 63))), none, false⟩, ⟨(some 110), (.conv (.i2i .i32) (.t 109)), none, false⟩, ⟨(some 111), (.bin .shl (.t 110) (.c (.int .u64 12))), none, false⟩, ⟨(some 112), (.bin .or (.t 107) (.t 111)), none, false⟩, ⟨(some 113), (.mov (.t 11)), none, false⟩, ⟨(some 114), (.bin .and (.t 113) (.c (.int .u8 63))), none, false⟩, ⟨(some 115), (.conv (.i2i .i32) (.t 114)), none, false⟩, ⟨(some 116), (.bin .shl (.t 115) (.c (.int .u64 6))), none, false⟩, ⟨(some 117), (.bin .or (.t 112) (.t 116)), none, false⟩, ⟨(some 118), (.mov (.t 12)), none, false⟩, ⟨(some 119), (.bin .and (.t 118) (.c (.int .u8 63))), none, false⟩, ⟨(some 120), (.conv (.i2i .i32) (.t 119)), none, false⟩, ⟨(some 121), (.bin .or (.t 117) (.t 120)), none, false⟩, ⟨(some 2), (.mov (.t 121)), none, false⟩, ⟨(some 3), (.mov (.c (.int .i64 4))), none, false⟩] 0 [2, 3]) .ret)))))))))))))))))), [(.t 2), (.t 3)]⟩
theorem rc_slow_ok : compFn PG.P [⟨0, 0, [0], []⟩, ⟨1, 0, [0, 4], []⟩, ⟨2, 0, [0, 4, 16], []⟩, ⟨3, 0, [2, 3], []⟩, ⟨4, 0, [0, 4, 5], []⟩, ⟨5, 0, [0, 4, 5, 6], []⟩, ⟨6, 0, [0, 4, 5, 6, 24], []⟩, ⟨7, 0, [0, 7], []⟩, ⟨8, 0, [2, 3], []⟩, ⟨9, 0, [0, 4, 5, 6, 8], []⟩, ⟨10, 0, [0, 4, 5, 8, 9], []⟩, ⟨11, 0, [0, 5, 8, 9, 47], []⟩, ⟨12, 0, [2, 3], []⟩, ⟨13, 0, [0, 5, 8, 9, 10], []⟩, ⟨14, 0, [0, 5, 8, 10, 60], []⟩, ⟨15, 0, [2, 3], []⟩, ⟨16, 0, [0, 5, 8, 10, 62], []⟩, ⟨17, 0, [2, 3], []⟩, ⟨18, 0, [0, 5, 8, 10, 11], []⟩, ⟨19, 0, [0, 5, 8, 10, 11, 79], []⟩, ⟨20, 0, [2, 3], []⟩, ⟨21, 0, [0, 5, 10, 11, 81], []⟩, ⟨22, 0, [2, 3], []⟩, ⟨23, 0, [5, 10, 11, 12], []⟩, ⟨24, 0, [5, 10, 11, 12, 103], []⟩, ⟨25, 0, [2, 3], []⟩, ⟨26, 0, [2, 3], []⟩] 49 = some rc_slow := by kernel_rfl

theorem firstF_in (b : Int) : firstF b = 240 ∨ firstF b = 241 ∨ firstF b = 2 ∨ firstF b = 3 ∨ firstF b = 4 ∨ firstF b = 19 ∨ firstF b = 35 ∨ firstF b = 52 ∨ firstF b = 68 := by
  unfold firstF
  repeat (first | split | simp)
theorem w32 {x : Int} (a : 0 ≤ x) (b : x ≤ 2147483647) : IntKind.i32.wrap x = x := wI32 (by omega) b
theorem or2 (a b : Int) : IntKind.i32.wrap (BitVec.ofInt IntKind.i32.bits (IntKind.i32.wrap (IntKind.i32.wrap (a % 32) * 2 ^ min 6 IntKind.i32.bits)) ||| BitVec.ofInt IntKind.i32.bits (IntKind.i32.wrap (b % 64))).toNat = a % 32 * 64 + b % 64 := by
  have e : (2 : Int) ^ min 6 IntKind.i32.bits = 64 := rfl
  rw [e, w32 (x := a % 32) (by omega) (by omega), w32 (x := a % 32 * 64) (by omega) (by omega), w32 (x := b % 64) (by omega) (by omega)]
  exact or_i32 6 _ _ (by omega) (by omega) (by omega) (by omega) (by omega)
theorem or3 (a b c : Int) : IntKind.i32.wrap (BitVec.ofInt IntKind.i32.bits (IntKind.i32.wrap (BitVec.ofInt IntKind.i32.bits (IntKind.i32.wrap (IntKind.i32.wrap (a % 16) * 2 ^ min 12 IntKind.i32.bits)) ||| BitVec.ofInt IntKind.i32.bits (IntKind.i32.wrap (IntKind.i32.wrap (b % 64) * 2 ^ min 6 IntKind.i32.bits))).toNat) ||| BitVec.ofInt IntKind.i32.bits (IntKind.i32.wrap (c % 64))).toNat
    = a % 16 * 4096 + b % 64 * 64 + c % 64 := by
  have e : (2 : Int) ^ min 6 IntKind.i32.bits = 64 := rfl
  have e2 : (2 : Int) ^ min 12 IntKind.i32.bits = 4096 := rfl
  rw [e, e2, w32 (x := a % 16) (by omega) (by omega), w32 (x := a % 16 * 4096) (by omega) (by omega), w32 (x := b % 64) (by omega) (by omega), w32 (x := b % 64 * 64) (by omega) (by omega), w32 (x := c % 64) (by omega) (by omega)]
  rw [or_i32 12 (a % 16 * 4096) (b % 64 * 64) (by omega) (by omega) (by omega) (by omega) (by omega)]
  exact or_i32 6 _ _ (by omega) (by omega) (by omega) (by omega) (by omega)
theorem or4 (a b c d : Int) : IntKind.i32.wrap (BitVec.ofInt IntKind.i32.bits (IntKind.i32.wrap (BitVec.ofInt IntKind.i32.bits (IntKind.i32.wrap (BitVec.ofInt IntKind.i32.bits (IntKind.i32.wrap (IntKind.i32.wrap (a % 8) * 2 ^ min 18 IntKind.i32.bits)) ||| BitVec.ofInt IntKind.i32.bits (IntKind.i32.wrap (IntKind.i32.wrap (b % 64) * 2 ^ min 12 IntKind.i32.bits))).toNat) |||
      BitVec.ofInt IntKind.i32.bits (IntKind.i32.wrap (IntKind.i32.wrap (c % 64) * 2 ^ min 6 IntKind.i32.bits))).toNat) ||| BitVec.ofInt IntKind.i32.bits (IntKind.i32.wrap (d % 64))).toNat
    = a % 8 * 262144 + b % 64 * 4096 + c % 64 * 64 + d % 64 := by
  have e : (2 : Int) ^ min 6 IntKind.i32.bits = 64 := rfl
  have e2 : (2 : Int) ^ min 12 IntKind.i32.bits = 4096 := rfl
  have e3 : (2 : Int) ^ min 18 IntKind.i32.bits = 262144 := rfl
  rw [e, e2, e3, w32 (x := a % 8) (by omega) (by omega), w32 (x := a % 8 * 262144) (by omega) (by omega), w32 (x := b % 64) (by omega) (by omega), w32 (x := b % 64 * 4096) (by omega) (by omega), w32 (x := c % 64) (by omega) (by omega), w32 (x := c % 64 * 64) (by omega) (by omega), w32 (x := d % 64) (by omega) (by omega)]
  rw [or_i32 18 (a % 8 * 262144) (b % 64 * 4096) (by omega) (by omega) (by omega) (by omega) (by omega)]
  rw [or_i32 12 _ (c % 64 * 64) (by omega) (by omega) (by omega) (by omega) (by omega)]
  exact or_i32 6 _ _ (by omega) (by omega) (by omega) (by omega) (by omega)
/-- decodeRuneSlow's turn at a first byte that begins nothing longer. -/
def msk (x b : Int) : Int := IntKind.i32.wrap (BitVec.ofInt IntKind.i32.bits (IntKind.i32.wrap (BitVec.ofInt IntKind.i32.bits (IntKind.i32.wrap b) &&& ~~~BitVec.ofInt IntKind.i32.bits ((IntKind.i32.wrap (IntKind.i32.wrap x * 2 ^ min 31 IntKind.i32.bits)).fdiv (2 ^ min 31 IntKind.i32.bits))).toNat) |||
    BitVec.ofInt IntKind.i32.bits (IntKind.i32.wrap (BitVec.ofInt IntKind.i32.bits 65533 &&& BitVec.ofInt IntKind.i32.bits ((IntKind.i32.wrap (IntKind.i32.wrap x * 2 ^ min 31 IntKind.i32.bits)).fdiv (2 ^ min 31 IntKind.i32.bits))).toNat)).toNat
theorem msk_eq (b : Int) (h0 : 0 ≤ b) (h1 : b ≤ 255) : msk 240 b = b ∧ msk 241 b = 65533 := by
  have key : ∀ b : Fin 256, msk 240 (b.val : Nat) = (b.val : Nat) ∧ msk 241 (b.val : Nat) = 65533 := by decide +kernel
  have := key ⟨b.toNat, by omega⟩
  simpa [Int.toNat_of_nonneg h0] using this

theorem slow_P {sz : Nat} {k : SK} {l : List Int} (hs : sz = 1 ∨ l = []) (hk : inK .u8 l) :
    PCalls PG 49 [.sl sz (intRows .u8 l) k] fun n r os => r = .tup [.int .i32 (dec l).1, .int .i64 (dec l).2] ∧ os = [] := by
  refine FSpec.by_fn (s := ⟨True, fun n => (.tup [.int .i32 (dec l).1, .int .i64 (dec l).2], [])⟩) FOk.nil rc_slow_ok (by simp [rc_slow]) fun n => ?_
  unfold rc_slow
  dsimp only
  simp -implicitDefEqProofs only [gv_first, gv_acc, ↓bindO_first, ↓rowAt_acc, and7_u8, and15_u8, and31_u8, and63_u8, vcA1, vcA2, vcA3, vcA4, vcA5, vcA6, vcA7, ↓vcP1, ↓vcP2, ↓reduceIte, Option.map_some, Option.map_none, Option.bind_some, Option.bind_none, if_true, if_false, reduceCtorEq, beq_true, beq_false, Bool.not_true, Bool.not_false, BEq.rfl, Bool.true_beq, Bool.false_beq, and_true, true_and, and_self, decide_true, decide_false, List.length_cons, List.length_nil, List.all_cons, List.all_nil, Bool.and_true, Bool.and_self, List.getElem?_cons_zero, List.getElem?_cons_succ, List.set_cons_zero, List.set_cons_succ, List.nil_append, List.cons_append, List.append_nil, List.map_cons, List.map_nil, not_true_eq_false, not_false_eq_true, false_implies, true_implies, implies_true, List.take_succ_cons, List.take_zero, List.take_nil, List.drop_succ_cons, List.drop_zero, List.drop_nil, Nat.reduceLT, Nat.reduceLeDiff, Nat.reduceEqDiff, Nat.reduceAdd, Nat.reduceSub, Nat.reduceMul, Int.reduceLT, Int.reduceLE, Int.reduceEq, Int.reduceToNat, Int.reduceAdd, Int.reduceSub, Int.reduceNeg, List.reduceReplicate, List.replicate_zero, List.replicate_succ, ne_eq, List.flatMap_cons, List.flatMap_nil, List.length_replicate, List.length_append, Nat.le_refl, Nat.le_add_right, Nat.add_assoc, List.append_assoc, or_true, true_or, or_false, false_or, and_false, false_and, exists_eq_left, exists_eq_left', Option.some.injEq, DV.int.injEq, DV.bool.injEq, DV.sl.injEq, DV.own.injEq, DV.tup.injEq, List.cons.injEq, Ob.arr.injEq, Ob.box.injEq, Option.map_map, Int.toNat_natCast, Int.toNat_zero, Nat.reducePow, Int.toNat_one, Int.reduceMul, Nat.mul_one, Nat.zero_add, Nat.add_zero, Function.comp_apply, List.map_append, List.map_replicate, Int.cast_ofNat_Int, Nat.left_eq_add, Nat.add_eq_left, Nat.add_left_cancel_iff]
  by_cases h0 : l.length = 0
  · have : dec l = (65533, 0) := by simp [dec, h0]
    rw [this]
    refine ⟨fun _ => ⟨rfl, rfl⟩, fun h => absurd h (by omega)⟩
  have hsz : sz = 1 := hs.resolve_right fun e => h0 (by simp [e])
  have hb0 : ∀ i, i < l.length → 0 ≤ l.getD i 0 ∧ l.getD i 0 ≤ 255 := fun i hi => by
    rw [List.getD_eq_getElem?_getD, List.getElem?_eq_getElem hi]
    exact hk.u8 (List.getElem_mem hi)
  obtain ⟨h00, h01⟩ := hb0 0 (by omega)
  refine ⟨fun h => absurd h (by omega), fun _ => ⟨⟨by omega, hsz⟩, by omega, ⟨h00, by omega⟩, by omega, ?_⟩⟩
  rw [Int.toNat_of_nonneg h00]
  have hw : ∀ x : Int, IntKind.i64.wrap (x % 8) = x % 8 := fun x => wI64 (by omega) (by omega)
  have hfd : ∀ x : Int, x.fdiv (2 ^ min 4 IntKind.u8.bits) = x / 16 := fun x => Int.fdiv_eq_ediv_of_nonneg x (by decide)
  simp only [hw, hfd, or2, or3, or4]
  have hm := msk_eq _ h00 h01
  unfold msk at hm
  rcases firstF_in (l.getD 0 0) with hX | hX | hX | hX | hX | hX | hX | hX | hX <;> simp only [dec, h0, hX, if_false] <;> clear hX
  · rw [hm.1]; simp [hsz]; omega
  · rw [hm.2]; simp [hsz]; omega
  all_goals
    clear hm
    simp [hsz, accLo, accHi]
    grind

end Go.Proofs.YteemmpghpdaloaaDoor
end
section
/- utf8's other functions. -/
set_option linter.unusedVariables false
set_option linter.unusedSimpArgs false
set_option maxRecDepth 10000
namespace Go.Proofs.YteemmpghpdaloaaDoor
open Go.RowKit

noncomputable def rc_decode_l0 : RC := (.seq (.reg [⟨(some 9), (.bin .lss (.t 8) (.t 7)), none, false⟩] 0 [0, 6, 8, 9]) (.seq (.cond (.t 9) .skip (.ext 0)) (.seq (.blk 1 (.seq (.reg [⟨(some 10), (.iaddr 1 (.t 6) (.t 8)), none, false⟩, ⟨(some 11), (.load false 1 (.t 10)), none, false⟩, ⟨(some 5), (.mov (.t 11)), none, false⟩] 0 [0, 5]) (.seq (.seq (.reg [⟨(some 12), (.mov (.t 5)), none, false⟩, ⟨(some 13), (.bin .lss (.t 12) (.c (.int .u8 128))), none, false⟩] 0 [0, 5, 13]) (.cond (.t 13) (.seq (.reg [⟨(some 14), (.mov (.t 5)), none, false⟩, ⟨(some 15), (.conv (.i2i .i32) (.t 14)), none, false⟩, ⟨(some 2), (.mov (.t 15)), none, false⟩, ⟨(some 3), (.mov (.c (.int .i64 1))), none, false⟩] 0 [2, 3]) .ret) .skip)) (.ext 0)))) (.reg [⟨(some 16), (.bin .add (.t 8) (.c (.int .i64 1))), none, false⟩, ⟨(some 8), (.mov (.t 16)), none, false⟩] 0 [0, 6, 7, 8]))))
noncomputable def rc_decode : RFn := ⟨1, 22, (.seq (.reg [⟨(some 2), (.mov (.c (.int .i32 0))), none, false⟩, ⟨(some 3), (.mov (.c (.int .i64 0))), none, false⟩] 0 [0]) (.seq (.seq (.reg [⟨(some 6), (.mov (.t 0)), none, false⟩, ⟨(some 7), (.len (.t 6)), none, false⟩, ⟨(some 8), (.mov (.c (.int .i64 0))), none, false⟩] 0 [0, 6, 7, 8]) (.blk 0 (.loop rc_decode_l0))) (.seq (.reg [⟨(some 18), (.mov (.t 0)), none, false⟩, ⟨(some 19), (.call 49 [(.t 18)]), none, false⟩, ⟨(some 17), (.mov (.t 19)), none, false⟩, ⟨(some 20), (.ext (.t 17) 0), none, false⟩, ⟨(some 21), (.ext (.t 17) 1), none, false⟩, ⟨(some 2), (.mov (.t 20)), none, false⟩, ⟨(some 3), (.mov (.t 21)), none, false⟩] 0 [2, 3]) .ret))), [(.t 2), (.t 3)]⟩
theorem rc_decode_ok : compFn PG.P [⟨0, 0, [0], []⟩, ⟨1, 0, [0, 6, 7, 8], []⟩, ⟨2, 0, [0, 6, 8, 9], []⟩, ⟨3, 0, [0, 5], []⟩, ⟨4, 0, [0, 5, 13], []⟩, ⟨5, 0, [2, 3], []⟩, ⟨6, 0, [0, 6, 7, 8], []⟩, ⟨7, 0, [2, 3], []⟩] 36 = some rc_decode := by kernel_rfl
noncomputable def rc_full : RFn := ⟨1, 56, (.seq (.reg [⟨(some 2), (.mov (.c (.bool false))), none, false⟩] 0 [0]) (.seq (.reg [⟨(some 6), (.mov (.t 0)), none, false⟩, ⟨(some 7), (.len (.t 6)), none, false⟩, ⟨(some 3), (.mov (.t 7)), none, false⟩] 0 [0, 3]) (.seq (.seq (.reg [⟨(some 8), (.mov (.t 3)), none, false⟩, ⟨(some 9), (.bin .eql (.t 8) (.c (.int .i64 0))), none, false⟩] 0 [0, 3, 9]) (.cond (.t 9) (.seq (.reg [⟨(some 2), (.mov (.c (.bool false))), none, false⟩] 0 [2]) .ret) .skip)) (.seq (.reg [⟨(some 10), (.mov (.t 0)), none, false⟩, ⟨(some 11), (.iaddr 1 (.t 10) (.c (.int .i64 0))), none, false⟩, ⟨(some 12), (.load false 1 (.t 11)), none, false⟩, ⟨(some 13), (.iaddrA 256 1 (.g 0) (.t 12)), none, false⟩, ⟨(some 14), (.load false 1 (.t 13)), none, false⟩, ⟨(some 4), (.mov (.t 14)), none, false⟩] 0 [0, 3, 4]) (.seq (.seq (.reg [⟨(some 15), (.mov (.t 3)), none, false⟩, ⟨(some 16), (.mov (.t 4)), none, false⟩, ⟨(some 17), (.bin .and (.t 16) (.c (.int .u8 7))), none, false⟩, ⟨(some 18), (.conv (.i2i .i64) (.t 17)), none, false⟩, ⟨(some 19), (.bin .geq (.t 15) (.t 18)), none, false⟩] 0 [0, 3, 4, 19]) (.cond (.t 19) (.seq (.reg [⟨(some 2), (.mov (.c (.bool true))), none, false⟩] 0 [2]) .ret) .skip)) (.seq (.reg [⟨(some 20), (.mov (.t 4)), none, false⟩, ⟨(some 21), (.bin .shr (.t 20) (.c (.int .u64 4))), none, false⟩, ⟨(some 22), (.iaddrA 16 2 (.g 1) (.t 21)), none, false⟩, ⟨(some 23), (.load true 2 (.t 22)), none, false⟩, ⟨(some 5), (.alloc [(.int .u8 0), (.int .u8 0)]), none, false⟩, ⟨none, (.store 2 (.t 5) (.t 23)), none, false⟩] 0 [0, 3, 5]) (.seq (.seq (.regD (.take ⟨(some 24), (.mov (.t 3)), none, false⟩ [] (.take ⟨(some 25), (.bin .gtr (.t 24) (.c (.int .i64 1))), none, false⟩ [] (.take ⟨(some 26), (.mov (.t 25)), none, false⟩ [] (.take ⟨(some 27), (.mov (.t 0)), (some (26, true)), false⟩ [] (.take ⟨(some 28), (.iaddr 1 (.t 27) (.c (.int .i64 1))), (some (26, true)), false⟩ [] (.take ⟨(some 29), (.load false 1 (.t 28)), (some (26, true)), false⟩ [] (.take ⟨(some 30), (.faddr 0 (.t 5)), (some (26, true)), false⟩ [] (.take ⟨(some 31), (.load false 1 (.t 30)), (some (26, true)), false⟩ [] (.take ⟨(some 32), (.bin .lss (.t 29) (.t 31)), (some (26, true)), false⟩ [] (.take ⟨(some 33), (.mov (.t 32)), (some (26, true)), false⟩ [] (.take ⟨(some 34), (.faddr 1 (.t 5)), (some (33, false)), false⟩ [] (.take ⟨(some 35), (.load false 1 (.t 34)), (some (33, false)), false⟩ [] (.take ⟨(some 36), (.mov (.t 0)), (some (33, false)), false⟩ [] (.take ⟨(some 37), (.iaddr 1 (.t 36) (.c (.int .i64 1))), (some (33, false)), false⟩ [] (.take ⟨(some 38), (.load false 1 (.t 37)), (some (33, false)), false⟩ [] (.take ⟨(some 39), (.bin .lss (.t 35) (.t 38)), (some (33, false)), false⟩ [] (.take ⟨(some 40), (.pick (.t 33) (.c (.bool true)) (.t 39)), (some (26, true)), false⟩ [] (.take ⟨(some 41), (.pick (.t 26) (.t 40) (.c (.bool false))), none, false⟩ [] .done)))))))))))))))))) 0 [0, 3, 41]) (.cond (.t 41) (.seq (.reg [⟨(some 2), (.mov (.c (.bool true))), none, false⟩] 0 [2]) .ret) (.seq (.reg [⟨(some 42), (.mov (.t 3)), none, false⟩, ⟨(some 43), (.bin .gtr (.t 42) (.c (.int .i64 2))), none, false⟩, ⟨(some 44), (.mov (.t 43)), none, false⟩, ⟨(some 45), (.mov (.t 0)), (some (44, true)), false⟩, ⟨(some 46), (.iaddr 1 (.t 45) (.c (.int .i64 2))), (some (44, true)), false⟩, ⟨(some 47), (.load false 1 (.t 46)), (some (44, true)), false⟩, ⟨(some 48), (.bin .lss (.t 47) (.c (.int .u8 128))), (some (44, true)), false⟩, ⟨(some 49), (.mov (.t 48)), (some (44, true)), false⟩, ⟨(some 50), (.mov (.t 0)), (some (49, false)), false⟩, ⟨(some 51), (.iaddr 1 (.t 50) (.c (.int .i64 2))), (some (49, false)), false⟩, ⟨(some 52), (.load false 1 (.t 51)), (some (49, false)), false⟩, ⟨(some 53), (.bin .lss (.c (.int .u8 191)) (.t 52)), (some (49, false)), false⟩, ⟨(some 54), (.pick (.t 49) (.c (.bool true)) (.t 53)), (some (44, true)), false⟩, ⟨(some 55), (.pick (.t 44) (.t 54) (.c (.bool false))), none, false⟩] 0 [55]) (.cond (.t 55) (.seq (.reg [⟨(some 2), (.mov (.c (.bool true))), none, false⟩] 0 [2]) .ret) .skip)))) (.seq (.reg [⟨(some 2), (.mov (.c (.bool false))), none, false⟩] 0 [2]) .ret)))))))), [(.t 2)]⟩
theorem rc_full_ok : compFn PG.P [⟨0, 0, [0], []⟩, ⟨1, 0, [0, 3], []⟩, ⟨2, 0, [0, 3, 9], []⟩, ⟨3, 0, [2], []⟩, ⟨4, 0, [0, 3, 4], []⟩, ⟨5, 0, [0, 3, 4, 19], []⟩, ⟨6, 0, [2], []⟩, ⟨7, 0, [0, 3, 5], []⟩, ⟨8, 0, [0, 3, 41], []⟩, ⟨9, 0, [2], []⟩, ⟨10, 0, [55], []⟩, ⟨11, 0, [2], []⟩, ⟨12, 0, [2], []⟩] 38 = some rc_full := by kernel_rfl

theorem tab_cons (f : Nat) (g : Ent) (l : FL) (k : Nat) (args : List DV) : tab ((f, g) :: l) k args = if k = f then g.app args else tab l k args := tab_eq f g l k args

def F_slow : List DV → Option FSpec
  | [a] => some ⟨isInts .u8 a, fun _ => (.tup [.int .i32 (dec (intsD a)).1, .int .i64 (dec (intsD a)).2], [])⟩
  | _ => none
theorem F_slow_1 (a : DV) : F_slow [a] = some ⟨isInts .u8 a, fun _ => (.tup [.int .i32 (dec (intsD a)).1, .int .i64 (dec (intsD a)).2], [])⟩ := nrfl _
theorem slow_ok (args : List DV) (s : FSpec) (hs : F_slow args = some s) (hp : s.pre) : PCalls PG 49 args fun n r os => r = (s.res n).1 ∧ os = (s.res n).2 := by
  unfold F_slow at hs
  split at hs
  · rename_i a
    obtain rfl := Option.some.inj hs
    obtain ⟨sa, ka, ha, ha2, ha3⟩ := isInts_inv hp
    have := slow_P (k := ka) ha2 ha3
    rw [← ha] at this
    exact this
  · cases hs
theorem isInts_mk {k : IntKind} {sz : Nat} {l : List Int} {s : SK} (hs : sz = 1 ∨ l = []) (hk : inK k l) : isInts k (.sl sz (intRows k l) s) := by
  simp only [isInts, ints_intRows, intRows_eq_nil]
  exact ⟨trivial, hs, hk⟩
def T1 : FL := [(49, F_slow), (24, F_may), (16, F_runes)]
theorem T1_ok : FOk PG (tab T1) := FOk.cons (FOk.cons (FOk.cons FOk.nil runes_ok) may_ok) slow_ok

theorem decode_P {sz : Nat} {k : SK} {l : List Int} (hs : sz = 1 ∨ l = []) (hk : inK .u8 l) :
    PCalls PG 36 [.sl sz (intRows .u8 l) k] fun n r os => r = .tup [.int .i32 (dec l).1, .int .i64 (dec l).2] ∧ os = [] := by
  refine FSpec.by_fn (s := ⟨True, fun n => (.tup [.int .i32 (dec l).1, .int .i64 (dec l).2], [])⟩) T1_ok rc_decode_ok (by simp [rc_decode]) fun n => ?_
  unfold rc_decode
  dsimp only
  simp -implicitDefEqProofs only [vcA1, vcA2, vcA3, vcA4, vcA5, vcA6, vcA7, ↓vcP1, ↓vcP2, ↓reduceIte, Option.map_some, Option.map_none, Option.bind_some, Option.bind_none, if_true, if_false, reduceCtorEq, beq_true, beq_false, Bool.not_true, Bool.not_false, BEq.rfl, Bool.true_beq, Bool.false_beq, and_true, true_and, and_self, decide_true, decide_false, List.length_cons, List.length_nil, List.all_cons, List.all_nil, Bool.and_true, Bool.and_self, List.getElem?_cons_zero, List.getElem?_cons_succ, List.set_cons_zero, List.set_cons_succ, List.nil_append, List.cons_append, List.append_nil, List.map_cons, List.map_nil, not_true_eq_false, not_false_eq_true, false_implies, true_implies, implies_true, List.take_succ_cons, List.take_zero, List.take_nil, List.drop_succ_cons, List.drop_zero, List.drop_nil, Nat.reduceLT, Nat.reduceLeDiff, Nat.reduceEqDiff, Nat.reduceAdd, Nat.reduceSub, Nat.reduceMul, Int.reduceLT, Int.reduceLE, Int.reduceEq, Int.reduceToNat, Int.reduceAdd, Int.reduceSub, Int.reduceNeg, List.reduceReplicate, List.replicate_zero, List.replicate_succ, ne_eq, List.flatMap_cons, List.flatMap_nil, List.length_replicate, List.length_append, Nat.le_refl, Nat.le_add_right, Nat.add_assoc, List.append_assoc, or_true, true_or, or_false, false_or, and_false, false_and, exists_eq_left, exists_eq_left', Option.some.injEq, DV.int.injEq, DV.bool.injEq, DV.sl.injEq, DV.own.injEq, DV.tup.injEq, List.cons.injEq, Ob.arr.injEq, Ob.box.injEq, Option.map_map, Int.toNat_natCast, Int.toNat_zero, Nat.reducePow, Int.toNat_one, Int.reduceMul, Nat.mul_one, Nat.zero_add, Nat.add_zero, Function.comp_apply, List.map_append, List.map_replicate, Int.cast_ofNat_Int, Nat.left_eq_add, Nat.add_eq_left, Nat.add_left_cancel_iff]
  refine LoopWp.inv T1_ok (S := fun _ : Unit => ⟨[(0, .sl sz (intRows .u8 l) k), (6, .sl sz (intRows .u8 l) k), (7, .int .i64 l.length), (8, .int .i64 0)], List.replicate n none⟩) (I := fun _ => True) (μ := fun _ => 0) () trivial ?_ ?_
  · simp -implicitDefEqProofs only [vcA1, vcA2, vcA3, vcA4, vcA5, vcA6, vcA7, ↓vcP1, ↓vcP2, ↓reduceIte, Option.map_some, Option.map_none, Option.bind_some, Option.bind_none, if_true, if_false, reduceCtorEq, beq_true, beq_false, Bool.not_true, Bool.not_false, BEq.rfl, Bool.true_beq, Bool.false_beq, and_true, true_and, and_self, decide_true, decide_false, List.length_cons, List.length_nil, List.all_cons, List.all_nil, Bool.and_true, Bool.and_self, List.getElem?_cons_zero, List.getElem?_cons_succ, List.set_cons_zero, List.set_cons_succ, List.nil_append, List.cons_append, List.append_nil, List.map_cons, List.map_nil, not_true_eq_false, not_false_eq_true, false_implies, true_implies, implies_true, List.take_succ_cons, List.take_zero, List.take_nil, List.drop_succ_cons, List.drop_zero, List.drop_nil, Nat.reduceLT, Nat.reduceLeDiff, Nat.reduceEqDiff, Nat.reduceAdd, Nat.reduceSub, Nat.reduceMul, Int.reduceLT, Int.reduceLE, Int.reduceEq, Int.reduceToNat, Int.reduceAdd, Int.reduceSub, Int.reduceNeg, List.reduceReplicate, List.replicate_zero, List.replicate_succ, ne_eq, List.flatMap_cons, List.flatMap_nil, List.length_replicate, List.length_append, Nat.le_refl, Nat.le_add_right, Nat.add_assoc, List.append_assoc, or_true, true_or, or_false, false_or, and_false, false_and, exists_eq_left, exists_eq_left', Option.some.injEq, DV.int.injEq, DV.bool.injEq, DV.sl.injEq, DV.own.injEq, DV.tup.injEq, List.cons.injEq, Ob.arr.injEq, Ob.box.injEq, Option.map_map, Int.toNat_natCast, Int.toNat_zero, Nat.reducePow, Int.toNat_one, Int.reduceMul, Nat.mul_one, Nat.zero_add, Nat.add_zero, Function.comp_apply, List.map_append, List.map_replicate, Int.cast_ofNat_Int, Nat.left_eq_add, Nat.add_eq_left, Nat.add_left_cancel_iff]
  · intro _ _
    unfold rc_decode_l0 T1
    simp -implicitDefEqProofs only [tab_cons, F_slow_1, isInts_sl, vcA1, vcA2, vcA3, vcA4, vcA5, vcA6, vcA7, ↓vcP1, ↓vcP2, ↓reduceIte, Option.map_some, Option.map_none, Option.bind_some, Option.bind_none, if_true, if_false, reduceCtorEq, beq_true, beq_false, Bool.not_true, Bool.not_false, BEq.rfl, Bool.true_beq, Bool.false_beq, and_true, true_and, and_self, decide_true, decide_false, List.length_cons, List.length_nil, List.all_cons, List.all_nil, Bool.and_true, Bool.and_self, List.getElem?_cons_zero, List.getElem?_cons_succ, List.set_cons_zero, List.set_cons_succ, List.nil_append, List.cons_append, List.append_nil, List.map_cons, List.map_nil, not_true_eq_false, not_false_eq_true, false_implies, true_implies, implies_true, List.take_succ_cons, List.take_zero, List.take_nil, List.drop_succ_cons, List.drop_zero, List.drop_nil, Nat.reduceLT, Nat.reduceLeDiff, Nat.reduceEqDiff, Nat.reduceAdd, Nat.reduceSub, Nat.reduceMul, Int.reduceLT, Int.reduceLE, Int.reduceEq, Int.reduceToNat, Int.reduceAdd, Int.reduceSub, Int.reduceNeg, List.reduceReplicate, List.replicate_zero, List.replicate_succ, ne_eq, List.flatMap_cons, List.flatMap_nil, List.length_replicate, List.length_append, Nat.le_refl, Nat.le_add_right, Nat.add_assoc, List.append_assoc, or_true, true_or, or_false, false_or, and_false, false_and, exists_eq_left, exists_eq_left', Option.some.injEq, DV.int.injEq, DV.bool.injEq, DV.sl.injEq, DV.own.injEq, DV.tup.injEq, List.cons.injEq, Ob.arr.injEq, Ob.box.injEq, Option.map_map, Int.toNat_natCast, Int.toNat_zero, Nat.reducePow, Int.toNat_one, Int.reduceMul, Nat.mul_one, Nat.zero_add, Nat.add_zero, Function.comp_apply, List.map_append, List.map_replicate, Int.cast_ofNat_Int, Nat.left_eq_add, Nat.add_eq_left, Nat.add_left_cancel_iff]
    have hi : isInts .u8 (.sl sz (intRows .u8 l) k) := isInts_mk hs hk
    refine ⟨fun h => ?_, fun _ => hi⟩
    have h0 : 0 < l.length := by omega
    have hne : l ≠ [] := fun e => by simp [e] at h0
    have hb : 0 ≤ l.getD 0 0 ∧ l.getD 0 0 ≤ 255 := by
      rw [List.getD_eq_getElem?_getD, List.getElem?_eq_getElem h0]
      exact hk.u8 (List.getElem_mem h0)
    refine ⟨⟨by omega, hs.resolve_right hne⟩, h0, fun h => ?_, fun _ => hi⟩
    have hf : firstF (l.getD 0 0) = 240 := by unfold firstF; rw [if_pos h]
    rw [w32 hb.1 (by omega)]
    simp only [dec, hf]
    have : ¬ l.length = 0 := by omega
    simp [this]
def F_decode : List DV → Option FSpec
  | [a] => some ⟨isInts .u8 a, fun _ => (.tup [.int .i32 (dec (intsD a)).1, .int .i64 (dec (intsD a)).2], [])⟩
  | _ => none
theorem F_decode_1 (a : DV) : F_decode [a] = some ⟨isInts .u8 a, fun _ => (.tup [.int .i32 (dec (intsD a)).1, .int .i64 (dec (intsD a)).2], [])⟩ := nrfl _
theorem decode_ok (args : List DV) (s : FSpec) (hs : F_decode args = some s) (hp : s.pre) : PCalls PG 36 args fun n r os => r = (s.res n).1 ∧ os = (s.res n).2 := by
  unfold F_decode at hs
  split at hs
  · rename_i a
    obtain rfl := Option.some.inj hs
    obtain ⟨sa, ka, ha, ha2, ha3⟩ := isInts_inv hp
    have := decode_P (k := ka) ha2 ha3
    rw [← ha] at this
    exact this
  · cases hs

/-- Do bytes begin with a whole rune, or with none? -/
def full (p : List Int) : Bool :=
  if p.length = 0 then false
  else if firstF (p.getD 0 0) % 8 ≤ (p.length : Int) then true
  else if 1 < p.length ∧ (p.getD 1 0 < accLo (firstF (p.getD 0 0) / 16) ∨ accHi (firstF (p.getD 0 0) / 16) < p.getD 1 0) then true
  else if 2 < p.length ∧ (p.getD 2 0 < 128 ∨ 191 < p.getD 2 0) then true
  else false
theorem full_P {sz : Nat} {k : SK} {l : List Int} (hs : sz = 1 ∨ l = []) (hk : inK .u8 l) :
    PCalls PG 38 [.sl sz (intRows .u8 l) k] fun n r os => r = .bool (full l) ∧ os = [] := by
  refine FSpec.by_fn (s := ⟨True, fun n => (.bool (full l), [])⟩) FOk.nil rc_full_ok (by simp [rc_full]) fun n => ?_
  unfold rc_full
  dsimp only
  simp -implicitDefEqProofs only [gv_first, gv_acc, ↓bindO_first, ↓rowAt_acc, and7_u8, and15_u8, and31_u8, and63_u8, vcA1, vcA2, vcA3, vcA4, vcA5, vcA6, vcA7, ↓vcP1, ↓vcP2, ↓reduceIte, Option.map_some, Option.map_none, Option.bind_some, Option.bind_none, if_true, if_false, reduceCtorEq, beq_true, beq_false, Bool.not_true, Bool.not_false, BEq.rfl, Bool.true_beq, Bool.false_beq, and_true, true_and, and_self, decide_true, decide_false, List.length_cons, List.length_nil, List.all_cons, List.all_nil, Bool.and_true, Bool.and_self, List.getElem?_cons_zero, List.getElem?_cons_succ, List.set_cons_zero, List.set_cons_succ, List.nil_append, List.cons_append, List.append_nil, List.map_cons, List.map_nil, not_true_eq_false, not_false_eq_true, false_implies, true_implies, implies_true, List.take_succ_cons, List.take_zero, List.take_nil, List.drop_succ_cons, List.drop_zero, List.drop_nil, Nat.reduceLT, Nat.reduceLeDiff, Nat.reduceEqDiff, Nat.reduceAdd, Nat.reduceSub, Nat.reduceMul, Int.reduceLT, Int.reduceLE, Int.reduceEq, Int.reduceToNat, Int.reduceAdd, Int.reduceSub, Int.reduceNeg, List.reduceReplicate, List.replicate_zero, List.replicate_succ, ne_eq, List.flatMap_cons, List.flatMap_nil, List.length_replicate, List.length_append, Nat.le_refl, Nat.le_add_right, Nat.add_assoc, List.append_assoc, or_true, true_or, or_false, false_or, and_false, false_and, exists_eq_left, exists_eq_left', Option.some.injEq, DV.int.injEq, DV.bool.injEq, DV.sl.injEq, DV.own.injEq, DV.tup.injEq, List.cons.injEq, Ob.arr.injEq, Ob.box.injEq, Option.map_map, Int.toNat_natCast, Int.toNat_zero, Nat.reducePow, Int.toNat_one, Int.reduceMul, Nat.mul_one, Nat.zero_add, Nat.add_zero, Function.comp_apply, List.map_append, List.map_replicate, Int.cast_ofNat_Int, Nat.left_eq_add, Nat.add_eq_left, Nat.add_left_cancel_iff]
  by_cases h0 : l.length = 0
  · have : full l = false := by simp [full, h0]
    rw [this]
    refine ⟨fun _ => rfl, fun h => absurd h (by omega)⟩
  have hsz : sz = 1 := hs.resolve_right fun e => h0 (by simp [e])
  have hb0 : ∀ i, i < l.length → 0 ≤ l.getD i 0 ∧ l.getD i 0 ≤ 255 := fun i hi => by
    rw [List.getD_eq_getElem?_getD, List.getElem?_eq_getElem hi]
    exact hk.u8 (List.getElem_mem hi)
  obtain ⟨h00, h01⟩ := hb0 0 (by omega)
  refine ⟨fun h => absurd h (by omega), fun _ => ⟨⟨by omega, hsz⟩, by omega, ⟨h00, by omega⟩, by omega, ?_⟩⟩
  rw [Int.toNat_of_nonneg h00]
  have hw : ∀ x : Int, IntKind.i64.wrap (x % 8) = x % 8 := fun x => wI64 (by omega) (by omega)
  have hfd : ∀ x : Int, x.fdiv (2 ^ min 4 IntKind.u8.bits) = x / 16 := fun x => Int.fdiv_eq_ediv_of_nonneg x (by decide)
  simp only [hw, hfd]
  rcases firstF_in (l.getD 0 0) with hX | hX | hX | hX | hX | hX | hX | hX | hX <;> simp only [full, h0, hX, if_false] <;> clear hX
  all_goals simp [hsz, accLo, accHi]
  all_goals grind

end Go.Proofs.YteemmpghpdaloaaDoor
end
section
/- utf's functions. -/
set_option linter.unusedVariables false
set_option linter.unusedSimpArgs false
set_option maxRecDepth 10000
namespace Go.Proofs.YteemmpghpdaloaaDoor
open Go.RowKit

noncomputable def rc_cloneB : RFn := ⟨1, 8, (.seq (.reg [⟨(some 2), (.mov (.c (.sl 0 [] .nil))), none, false⟩] 0 [0]) (.seq (.seq (.reg [⟨(some 3), (.mov (.t 0)), none, false⟩, ⟨(some 4), (.eqNil false (.t 3) (.c (.sl 0 [] .nil))), none, false⟩] 0 [0, 4]) (.cond (.t 4) (.seq (.reg [⟨(some 2), (.mov (.c (.sl 0 [] .nil))), none, false⟩] 0 [2]) .ret) .skip)) (.seq (.reg [⟨(some 5), (.mkrow 1 [(.int .u8 0)] 0 []), none, false⟩, ⟨(some 6), (.mov (.t 0)), none, false⟩, ⟨(some 7), (.append 1 1 (.t 5) (.t 6)), none, false⟩, ⟨(some 2), (.mov (.t 7)), none, false⟩] 0 [2]) .ret))), [(.t 2)]⟩
theorem rc_cloneB_ok : compFn PG.P [⟨0, 0, [0], []⟩, ⟨1, 0, [0, 4], []⟩, ⟨2, 0, [2], []⟩, ⟨3, 0, [2], []⟩] 35 = some rc_cloneB := by kernel_rfl
noncomputable def rc_ubegins : RFn := ⟨1, 22, (.seq (.reg [⟨(some 2), (.mov (.c (.bool false))), none, false⟩] 0 [0]) (.seq (.reg [⟨(some 3), (.mov (.t 0)), none, false⟩, ⟨(some 4), (.len (.t 3)), none, false⟩, ⟨(some 5), (.bin .gtr (.t 4) (.c (.int .i64 0))), none, false⟩, ⟨(some 6), (.mov (.t 5)), none, false⟩, ⟨(some 7), (.mov (.t 0)), (some (6, true)), false⟩, ⟨(some 8), (.len (.t 7)), (some (6, true)), false⟩, ⟨(some 9), (.bin .lss (.t 8) (.c (.int .i64 4))), (some (6, true)), false⟩, ⟨(some 10), (.pick (.t 6) (.t 9) (.c (.bool false))), none, false⟩, ⟨(some 11), (.mov (.t 10)), none, false⟩, ⟨(some 12), (.mov (.t 0)), (some (11, true)), false⟩, ⟨(some 13), (.iaddr 1 (.t 12) (.c (.int .i64 0))), (some (11, true)), false⟩, ⟨(some 14), (.load false 1 (.t 13)), (some (11, true)), false⟩, ⟨(some 15), (.bin .geq (.t 14) (.c (.int .u8 128))), (some (11, true)), false⟩, ⟨(some 16), (.pick (.t 11) (.t 15) (.c (.bool false))), none, false⟩, ⟨(some 17), (.mov (.t 16)), none, false⟩, ⟨(some 18), (.mov (.t 0)), (some (17, true)), false⟩, ⟨(some 19), (.call 38 [(.t 18)]), (some (17, true)), false⟩, ⟨(some 20), (.un .not (.t 19)), (some (17, true)), false⟩, ⟨(some 21), (.pick (.t 17) (.t 20) (.c (.bool false))), none, false⟩, ⟨(some 2), (.mov (.t 21)), none, false⟩] 0 [2]) .ret)), [(.t 2)]⟩
theorem rc_ubegins_ok : compFn PG.P [⟨0, 0, [0], []⟩, ⟨1, 0, [2], []⟩] 19 = some rc_ubegins := by kernel_rfl
noncomputable def rc_appNon : RFn := ⟨2, 78, (.seq (.reg [⟨(some 4), (.mov (.c (.sl 0 [] .nil))), none, false⟩] 0 [0, 1]) (.seq (.reg [⟨(some 6), (.mov (.t 1)), none, false⟩, ⟨(some 7), (.conv (.i2i .u32) (.t 6)), none, false⟩, ⟨(some 5), (.mov (.t 7)), none, false⟩] 0 [0, 1, 5]) (.blk 0 (.seq (.reg [⟨(some 12), (.mov (.t 5)), none, false⟩, ⟨(some 13), (.bin .leq (.t 12) (.c (.int .u32 2047))), none, false⟩, ⟨(some 11), (.mov (.t 13)), none, false⟩] 0 [0, 1, 5, 11]) (.cond (.t 11) (.seq (.reg [⟨(some 14), (.mov (.t 0)), none, false⟩, ⟨(some 15), (.mov (.t 1)), none, false⟩, ⟨(some 16), (.bin .shr (.t 15) (.c (.int .u64 6))), none, false⟩, ⟨(some 17), (.conv (.i2i .u8) (.t 16)), none, false⟩, ⟨(some 18), (.bin .or (.c (.int .u8 192)) (.t 17)), none, false⟩, ⟨(some 19), (.mov (.t 1)), none, false⟩, ⟨(some 20), (.conv (.i2i .u8) (.t 19)), none, false⟩, ⟨(some 21), (.bin .and (.t 20) (.c (.int .u8 63))), none, false⟩, ⟨(some 22), (.bin .or (.c (.int .u8 128)) (.t 21)), none, false⟩, ⟨(some 23), (.mkrow 1 [(.int .u8 0)] 2 [(0, (.t 18)), (1, (.t 22))]), none, false⟩, ⟨(some 24), (.append 1 1 (.t 14) (.t 23)), none, false⟩, ⟨(some 4), (.mov (.t 24)), none, false⟩] 0 [4]) .ret) (.seq (.seq (.reg [⟨(some 26), (.mov (.t 5)), none, false⟩, ⟨(some 27), (.bin .lss (.t 26) (.c (.int .u32 55296))), none, false⟩, ⟨(some 25), (.mov (.t 27)), none, false⟩] 0 [0, 1, 5, 25]) (.cond (.t 25) .skip (.reg [⟨(some 28), (.mov (.t 5)), none, false⟩, ⟨(some 29), (.bin .lss (.c (.int .u32 57343)) (.t 28)), none, false⟩, ⟨(some 30), (.mov (.t 29)), none, false⟩, ⟨(some 31), (.mov (.t 5)), (some (30, true)), false⟩, ⟨(some 32), (.bin .leq (.t 31) (.c (.int .u32 65535))), (some (30, true)), false⟩, ⟨(some 33), (.pick (.t 30) (.t 32) (.c (.bool false))), none, false⟩, ⟨(some 25), (.mov (.t 33)), none, false⟩] 0 [0, 1, 5, 25]))) (.cond (.t 25) (.seq (.reg [⟨(some 34), (.mov (.t 0)), none, false⟩, ⟨(some 35), (.mov (.t 1)), none, false⟩, ⟨(some 36), (.bin .shr (.t 35) (.c (.int .u64 12))), none, false⟩, ⟨(some 37), (.conv (.i2i .u8) (.t 36)), none, false⟩, ⟨(some 38), (.bin .or (.c (.int .u8 224)) (.t 37)), none, false⟩, ⟨(some 39), (.mov (.t 1)), none, false⟩, ⟨(some 40), (.bin .shr (.t 39) (.c (.int .u64 6))), none, false⟩, ⟨(some 41), (.conv (.i2i .u8) (.t 40)), none, false⟩, ⟨(some 42), (.bin .and (.t 41) (.c (.int .u8 63))), none, false⟩, ⟨(some 43), (.bin .or (.c (.int .u8 128)) (.t 42)), none, false⟩, ⟨(some 44), (.mov (.t 1)), none, false⟩, ⟨(some 45), (.conv (.i2i .u8) (.t 44)), none, false⟩, ⟨(some 46), (.bin .and (.t 45) (.c (.int .u8 63))), none, false⟩, ⟨(some 47), (.bin .or (.c (.int .u8 128)) (.t 46)), none, false⟩, ⟨(some 48), (.mkrow 1 [(.int .u8 0)] 3 [(0, (.t 38)), (1, (.t 43)), (2, (.t 47))]), none, false⟩, ⟨(some 49), (.append 1 1 (.t 34) (.t 48)), none, false⟩, ⟨(some 4), (.mov (.t 49)), none, false⟩] 0 [4]) .ret) (.seq (.reg [⟨(some 51), (.mov (.t 5)), none, false⟩, ⟨(some 52), (.bin .gtr (.t 51) (.c (.int .u32 65535))), none, false⟩, ⟨(some 53), (.mov (.t 52)), none, false⟩, ⟨(some 54), (.mov (.t 5)), (some (53, true)), false⟩, ⟨(some 55), (.bin .leq (.t 54) (.c (.int .u32 1114111))), (some (53, true)), false⟩, ⟨(some 56), (.pick (.t 53) (.t 55) (.c (.bool false))), none, false⟩, ⟨(some 50), (.mov (.t 56)), none, false⟩] 0 [0, 1, 50]) (.cond (.t 50) (.seq (.reg [⟨(some 57), (.mov (.t 0)), none, false⟩, ⟨(some 58), (.mov (.t 1)), none, false⟩, ⟨(some 59), (.bin .shr (.t 58) (.c (.int .u64 18))), none, false⟩, ⟨(some 60), (.conv (.i2i .u8) (.t 59)), none, false⟩, ⟨(some 61), (.bin .or (.c (.int .u8 240)) (.t 60)), none, false⟩, ⟨(some 62), (.mov (.t 1)), none, false⟩, ⟨(some 63), (.bin .shr (.t 62) (.c (.int .u64 12))), none, false⟩, ⟨(some 64), (.conv (.i2i .u8) (.t 63)), none, false⟩, ⟨(some 65), (.bin .and (.t 64) (.c (.int .u8 63))), none, false⟩, ⟨(some 66), (.bin .or (.c (.int .u8 128)) (.t 65)), none, false⟩, ⟨(some 67), (.mov (.t 1)), none, false⟩, ⟨(some 68), (.bin .shr (.t 67) (.c (.int .u64 6))), none, false⟩, ⟨(some 69), (.conv (.i2i .u8) (.t 68)), none, false⟩, ⟨(some 70), (.bin .and (.t 69) (.c (.int .u8 63))), none, false⟩, ⟨(some 71), (.bin .or (.c (.int .u8 128)) (.t 70)), none, false⟩, ⟨(some 72), (.mov (.t 1)), none, false⟩, ⟨(some 73), (.conv (.i2i .u8) (.t 72)), none, false⟩, ⟨(some 74), (.bin .and (.t 73) (.c (.int .u8 63))), none, false⟩, ⟨(some 75), (.bin .or (.c (.int .u8 128)) (.t 74)), none, false⟩, ⟨(some 76), (.mkrow 1 [(.int .u8 0)] 4 [(0, (.t 61)), (1, (.t 66)), (2, (.t 71)), (3, (.t 75))]), none, false⟩, ⟨(some 77), (.append 1 1 (.t 57) (.t 76)), none, false⟩, ⟨(some 4), (.mov (.t 77)), none, false⟩] 0 [4]) .ret) (.seq (.reg [⟨(some 8), (.mov (.t 0)), none, false⟩, ⟨(some 9), (.mkrow 1 [(.int .u8 0)] 3 [(0, (.c (.int .u8 239))), (1, (.c (.int .u8 191))), (2, (.c (.int .u8 189)))]), none, false⟩, ⟨(some 10), (.append 1 1 (.t 8) (.t 9)), none, false⟩, ⟨(some 4), (.mov (.t 10)), none, false⟩] 0 [4]) .ret)))))))))), [(.t 4)]⟩
theorem rc_appNon_ok : compFn PG.P [⟨0, 0, [0, 1], []⟩, ⟨1, 0, [0, 1, 5], []⟩, ⟨2, 0, [4], []⟩, ⟨3, 0, [0, 1, 5, 11], []⟩, ⟨4, 0, [4], []⟩, ⟨5, 0, [0, 1, 5, 25], []⟩, ⟨6, 0, [0, 1, 5, 25], []⟩, ⟨7, 0, [4], []⟩, ⟨8, 0, [0, 1, 50], []⟩, ⟨9, 0, [4], []⟩] 50 = some rc_appNon := by kernel_rfl
noncomputable def rc_appRune : RFn := ⟨2, 16, (.seq (.reg [⟨(some 4), (.mov (.c (.sl 0 [] .nil))), none, false⟩] 0 [0, 1]) (.seq (.seq (.reg [⟨(some 5), (.mov (.t 1)), none, false⟩, ⟨(some 6), (.conv (.i2i .u32) (.t 5)), none, false⟩, ⟨(some 7), (.bin .leq (.t 6) (.c (.int .u32 127))), none, false⟩] 0 [0, 1, 7]) (.cond (.t 7) (.seq (.reg [⟨(some 8), (.mov (.t 0)), none, false⟩, ⟨(some 9), (.mov (.t 1)), none, false⟩, ⟨(some 10), (.conv (.i2i .u8) (.t 9)), none, false⟩, ⟨(some 11), (.mkrow 1 [(.int .u8 0)] 1 [(0, (.t 10))]), none, false⟩, ⟨(some 12), (.append 1 1 (.t 8) (.t 11)), none, false⟩, ⟨(some 4), (.mov (.t 12)), none, false⟩] 0 [4]) .ret) .skip)) (.seq (.reg [⟨(some 13), (.mov (.t 0)), none, false⟩, ⟨(some 14), (.mov (.t 1)), none, false⟩, ⟨(some 15), (.call 50 [(.t 13), (.t 14)]), none, false⟩, ⟨(some 4), (.mov (.t 15)), none, false⟩] 0 [4]) .ret))), [(.t 4)]⟩
theorem rc_appRune_ok : compFn PG.P [⟨0, 0, [0, 1], []⟩, ⟨1, 0, [0, 1, 7], []⟩, ⟨2, 0, [4], []⟩, ⟨3, 0, [4], []⟩] 39 = some rc_appRune := by kernel_rfl
noncomputable def rc_uput : RFn := ⟨1, 5, (.seq (.reg [⟨(some 2), (.mov (.c (.sl 0 [] .nil))), none, false⟩] 0 [0]) (.seq (.reg [⟨(some 3), (.mov (.t 0)), none, false⟩, ⟨(some 4), (.call 39 [(.c (.sl 0 [] .nil)), (.t 3)]), none, false⟩, ⟨(some 2), (.mov (.t 4)), none, false⟩] 0 [2]) .ret)), [(.t 2)]⟩
theorem rc_uput_ok : compFn PG.P [⟨0, 0, [0], []⟩, ⟨1, 0, [2], []⟩] 21 = some rc_uput := by kernel_rfl

theorem cloneB_nil {sz : Nat} : PCalls PG 35 [.sl sz [] .nil] fun n r os => r = .sl 0 [] .nil ∧ os = [] := by
  refine FSpec.by_fn (s := ⟨True, fun n => (.sl 0 [] .nil, [])⟩) FOk.nil rc_cloneB_ok (by simp [rc_cloneB]) fun n => ?_
  unfold rc_cloneB
  dsimp only
  simp -implicitDefEqProofs only [vcA1, vcA2, vcA3, vcA4, vcA5, vcA6, vcA7, ↓vcP1, ↓vcP2, ↓reduceIte, Option.map_some, Option.map_none, Option.bind_some, Option.bind_none, if_true, if_false, reduceCtorEq, beq_true, beq_false, Bool.not_true, Bool.not_false, BEq.rfl, Bool.true_beq, Bool.false_beq, and_true, true_and, and_self, decide_true, decide_false, List.length_cons, List.length_nil, List.all_cons, List.all_nil, Bool.and_true, Bool.and_self, List.getElem?_cons_zero, List.getElem?_cons_succ, List.set_cons_zero, List.set_cons_succ, List.nil_append, List.cons_append, List.append_nil, List.map_cons, List.map_nil, not_true_eq_false, not_false_eq_true, false_implies, true_implies, implies_true, List.take_succ_cons, List.take_zero, List.take_nil, List.drop_succ_cons, List.drop_zero, List.drop_nil, Nat.reduceLT, Nat.reduceLeDiff, Nat.reduceEqDiff, Nat.reduceAdd, Nat.reduceSub, Nat.reduceMul, Int.reduceLT, Int.reduceLE, Int.reduceEq, Int.reduceToNat, Int.reduceAdd, Int.reduceSub, Int.reduceNeg, List.reduceReplicate, List.replicate_zero, List.replicate_succ, ne_eq, List.flatMap_cons, List.flatMap_nil, List.length_replicate, List.length_append, Nat.le_refl, Nat.le_add_right, Nat.add_assoc, List.append_assoc, or_true, true_or, or_false, false_or, and_false, false_and, exists_eq_left, exists_eq_left', Option.some.injEq, DV.int.injEq, DV.bool.injEq, DV.sl.injEq, DV.own.injEq, DV.tup.injEq, List.cons.injEq, Ob.arr.injEq, Ob.box.injEq, Option.map_map, Int.toNat_natCast, Int.toNat_zero, Nat.reducePow, Int.toNat_one, Int.reduceMul, Nat.mul_one, Nat.zero_add, Nat.add_zero, Function.comp_apply, List.map_append, List.map_replicate, Int.cast_ofNat_Int, Nat.left_eq_add, Nat.add_eq_left, Nat.add_left_cancel_iff]
theorem cloneB_P {sz : Nat} {l : List Int} (hs : sz = 1 ∨ l = []) (hk : inK .u8 l) (hl : l.length ≤ 140737488355328) : PCalls PG 35 [.sl sz (intRows .u8 l) .nonnil] fun n r os => r = .own n 0 l.length ∧ os = [some (.arr 1 (intRows .u8 l))] := by
  refine FSpec.by_fn (s := ⟨True, fun n => (.own n 0 l.length, [some (.arr 1 (intRows .u8 l))])⟩) FOk.nil rc_cloneB_ok (by simp [rc_cloneB]) fun n => ?_
  unfold rc_cloneB
  dsimp only
  simp -implicitDefEqProofs only [vcA1, vcA2, vcA3, vcA4, vcA5, vcA6, vcA7, ↓vcP1, ↓vcP2, ↓reduceIte, Option.map_some, Option.map_none, Option.bind_some, Option.bind_none, if_true, if_false, reduceCtorEq, beq_true, beq_false, Bool.not_true, Bool.not_false, BEq.rfl, Bool.true_beq, Bool.false_beq, and_true, true_and, and_self, decide_true, decide_false, List.length_cons, List.length_nil, List.all_cons, List.all_nil, Bool.and_true, Bool.and_self, List.getElem?_cons_zero, List.getElem?_cons_succ, List.set_cons_zero, List.set_cons_succ, List.nil_append, List.cons_append, List.append_nil, List.map_cons, List.map_nil, not_true_eq_false, not_false_eq_true, false_implies, true_implies, implies_true, List.take_succ_cons, List.take_zero, List.take_nil, List.drop_succ_cons, List.drop_zero, List.drop_nil, Nat.reduceLT, Nat.reduceLeDiff, Nat.reduceEqDiff, Nat.reduceAdd, Nat.reduceSub, Nat.reduceMul, Int.reduceLT, Int.reduceLE, Int.reduceEq, Int.reduceToNat, Int.reduceAdd, Int.reduceSub, Int.reduceNeg, List.reduceReplicate, List.replicate_zero, List.replicate_succ, ne_eq, List.flatMap_cons, List.flatMap_nil, List.length_replicate, List.length_append, Nat.le_refl, Nat.le_add_right, Nat.add_assoc, List.append_assoc, or_true, true_or, or_false, false_or, and_false, false_and, exists_eq_left, exists_eq_left', Option.some.injEq, DV.int.injEq, DV.bool.injEq, DV.sl.injEq, DV.own.injEq, DV.tup.injEq, List.cons.injEq, Ob.arr.injEq, Ob.box.injEq, Option.map_map, Int.toNat_natCast, Int.toNat_zero, Nat.reducePow, Int.toNat_one, Int.reduceMul, Nat.mul_one, Nat.zero_add, Nat.add_zero, Function.comp_apply, List.map_append, List.map_replicate, Int.cast_ofNat_Int, Nat.left_eq_add, Nat.add_eq_left, Nat.add_left_cancel_iff]
  exact ⟨hs.imp id fun h => by simp [h, intRows], hl, by omega⟩
def F_clone : List DV → Option FSpec
  | [.sl sz rows k] => match k with
    | .nil => some ⟨rows = [], fun _ => (.sl 0 [] .nil, [])⟩
    | .nonnil => some ⟨isInts .u8 (.sl sz rows .nonnil) ∧ rows.length ≤ 140737488355328, fun n => (.own n 0 rows.length, [some (.arr 1 rows)])⟩
    | _ => none
  | _ => none
theorem F_clone_nil (sz : Nat) (rows : List (List DV)) : F_clone [.sl sz rows .nil] = some ⟨rows = [], fun _ => (.sl 0 [] .nil, [])⟩ := nrfl _
theorem F_clone_non (sz : Nat) (rows : List (List DV)) : F_clone [.sl sz rows .nonnil] = some ⟨isInts .u8 (.sl sz rows .nonnil) ∧ rows.length ≤ 140737488355328, fun n => (.own n 0 rows.length, [some (.arr 1 rows)])⟩ := nrfl _
theorem clone_ok (args : List DV) (s : FSpec) (hs : F_clone args = some s) (hp : s.pre) : PCalls PG 35 args fun n r os => r = (s.res n).1 ∧ os = (s.res n).2 := by
  unfold F_clone at hs
  split at hs
  · rename_i sz rows k
    split at hs
    · obtain rfl := Option.some.inj hs
      have hp : rows = [] := hp
      subst hp
      exact cloneB_nil
    · obtain rfl := Option.some.inj hs
      obtain ⟨⟨h1, h2, h3⟩, h4⟩ := hp
      have h5 : rows.length = (ints rows).length := by simp [ints]
      have := cloneB_P (sz := sz) (l := ints rows) (h2.imp id fun h => by simp [h, ints]) h3 (by omega)
      rw [← h1, ← h5] at this
      exact this
    · cases hs
  · cases hs

def F_full : List DV → Option FSpec
  | [a] => some ⟨isInts .u8 a, fun _ => (.bool (full (intsD a)), [])⟩
  | _ => none
theorem F_full_1 (a : DV) : F_full [a] = some ⟨isInts .u8 a, fun _ => (.bool (full (intsD a)), [])⟩ := nrfl _
theorem full_ok (args : List DV) (s : FSpec) (hs : F_full args = some s) (hp : s.pre) : PCalls PG 38 args fun n r os => r = (s.res n).1 ∧ os = (s.res n).2 := by
  unfold F_full at hs
  split at hs
  · rename_i a
    obtain rfl := Option.some.inj hs
    obtain ⟨sa, ka, ha, ha2, ha3⟩ := isInts_inv hp
    have := full_P (k := ka) ha2 ha3
    rw [← ha] at this
    exact this
  · cases hs
def T2 : FL := (36, F_decode) :: (38, F_full) :: (35, F_clone) :: T1
theorem T2_ok : FOk PG (tab T2) := FOk.cons (FOk.cons (FOk.cons T1_ok clone_ok) full_ok) decode_ok

/-- Do bytes begin a rune's longer form? -/
def ubeg (l : List Int) : Bool := decide (0 < l.length) && decide (l.length < 4) && decide (128 ≤ l.getD 0 0) && !full l
theorem ubegins_P {sz : Nat} {k : SK} {l : List Int} (hs : sz = 1 ∨ l = []) (hk : inK .u8 l) :
    PCalls PG 19 [.sl sz (intRows .u8 l) k] fun n r os => r = .bool (ubeg l) ∧ os = [] := by
  refine FSpec.by_fn (s := ⟨True, fun n => (.bool (ubeg l), [])⟩) T2_ok rc_ubegins_ok (by simp [rc_ubegins]) fun n => ?_
  unfold rc_ubegins T2
  dsimp only
  simp -implicitDefEqProofs only [tab_cons, F_full_1, vcA1, vcA2, vcA3, vcA4, vcA5, vcA6, vcA7, ↓vcP1, ↓vcP2, ↓reduceIte, Option.map_some, Option.map_none, Option.bind_some, Option.bind_none, if_true, if_false, reduceCtorEq, beq_true, beq_false, Bool.not_true, Bool.not_false, BEq.rfl, Bool.true_beq, Bool.false_beq, and_true, true_and, and_self, decide_true, decide_false, List.length_cons, List.length_nil, List.all_cons, List.all_nil, Bool.and_true, Bool.and_self, List.getElem?_cons_zero, List.getElem?_cons_succ, List.set_cons_zero, List.set_cons_succ, List.nil_append, List.cons_append, List.append_nil, List.map_cons, List.map_nil, not_true_eq_false, not_false_eq_true, false_implies, true_implies, implies_true, List.take_succ_cons, List.take_zero, List.take_nil, List.drop_succ_cons, List.drop_zero, List.drop_nil, Nat.reduceLT, Nat.reduceLeDiff, Nat.reduceEqDiff, Nat.reduceAdd, Nat.reduceSub, Nat.reduceMul, Int.reduceLT, Int.reduceLE, Int.reduceEq, Int.reduceToNat, Int.reduceAdd, Int.reduceSub, Int.reduceNeg, List.reduceReplicate, List.replicate_zero, List.replicate_succ, ne_eq, List.flatMap_cons, List.flatMap_nil, List.length_replicate, List.length_append, Nat.le_refl, Nat.le_add_right, Nat.add_assoc, List.append_assoc, or_true, true_or, or_false, false_or, and_false, false_and, exists_eq_left, exists_eq_left', Option.some.injEq, DV.int.injEq, DV.bool.injEq, DV.sl.injEq, DV.own.injEq, DV.tup.injEq, List.cons.injEq, Ob.arr.injEq, Ob.box.injEq, Option.map_map, Int.toNat_natCast, Int.toNat_zero, Nat.reducePow, Int.toNat_one, Int.reduceMul, Nat.mul_one, Nat.zero_add, Nat.add_zero, Function.comp_apply, List.map_append, List.map_replicate, Int.cast_ofNat_Int, Nat.left_eq_add, Nat.add_eq_left, Nat.add_left_cancel_iff]
  have hi : isInts .u8 (.sl sz (intRows .u8 l) k) := isInts_mk hs hk
  have hne : 0 < l.length → sz = 1 := fun h => hs.resolve_right fun e => by simp [e] at h
  simp only [hi, ubeg]
  grind

def enc (r : Int) : List Int :=
  if 0 ≤ r ∧ r ≤ 127 then [r]
  else if 0 ≤ r ∧ r ≤ 2047 then [192 + r / 64, 128 + r % 64]
  else if (0 ≤ r ∧ r < 55296) ∨ (57343 < r ∧ r ≤ 65535) then [224 + r / 4096, 128 + r / 64 % 64, 128 + r % 64]
  else if 65535 < r ∧ r ≤ 1114111 then [240 + r / 262144, 128 + r / 4096 % 64, 128 + r / 64 % 64, 128 + r % 64]
  else [239, 191, 189]
theorem appNon_P {sz : Nat} {r : Int} (hr : -2147483648 ≤ r ∧ r ≤ 2147483647) (hr2 : ¬ (0 ≤ r ∧ r ≤ 127)) :
    PCalls PG 50 [.sl sz [] .nil, .int .i32 r] fun n d os => d = .own n 0 (enc r).length ∧ os = [some (.arr 1 (intRows .u8 (enc r)))] := by
  refine FSpec.by_fn (s := ⟨True, fun n => (.own n 0 (enc r).length, [some (.arr 1 (intRows .u8 (enc r)))])⟩) FOk.nil rc_appNon_ok (by simp [rc_appNon]) fun n => ?_
  unfold rc_appNon
  dsimp only
  simp -implicitDefEqProofs only [and7_u8, and15_u8, and31_u8, and63_u8, vcA1, vcA2, vcA3, vcA4, vcA5, vcA6, vcA7, ↓vcP1, ↓vcP2, ↓reduceIte, Option.map_some, Option.map_none, Option.bind_some, Option.bind_none, if_true, if_false, reduceCtorEq, beq_true, beq_false, Bool.not_true, Bool.not_false, BEq.rfl, Bool.true_beq, Bool.false_beq, and_true, true_and, and_self, decide_true, decide_false, List.length_cons, List.length_nil, List.all_cons, List.all_nil, Bool.and_true, Bool.and_self, List.getElem?_cons_zero, List.getElem?_cons_succ, List.set_cons_zero, List.set_cons_succ, List.nil_append, List.cons_append, List.append_nil, List.map_cons, List.map_nil, not_true_eq_false, not_false_eq_true, false_implies, true_implies, implies_true, List.take_succ_cons, List.take_zero, List.take_nil, List.drop_succ_cons, List.drop_zero, List.drop_nil, Nat.reduceLT, Nat.reduceLeDiff, Nat.reduceEqDiff, Nat.reduceAdd, Nat.reduceSub, Nat.reduceMul, Int.reduceLT, Int.reduceLE, Int.reduceEq, Int.reduceToNat, Int.reduceAdd, Int.reduceSub, Int.reduceNeg, List.reduceReplicate, List.replicate_zero, List.replicate_succ, ne_eq, List.flatMap_cons, List.flatMap_nil, List.length_replicate, List.length_append, Nat.le_refl, Nat.le_add_right, Nat.add_assoc, List.append_assoc, or_true, true_or, or_false, false_or, and_false, false_and, exists_eq_left, exists_eq_left', Option.some.injEq, DV.int.injEq, DV.bool.injEq, DV.sl.injEq, DV.own.injEq, DV.tup.injEq, List.cons.injEq, Ob.arr.injEq, Ob.box.injEq, Option.map_map, Int.toNat_natCast, Int.toNat_zero, Nat.reducePow, Int.toNat_one, Int.reduceMul, Nat.mul_one, Nat.zero_add, Nat.add_zero, Function.comp_apply, List.map_append, List.map_replicate, Int.cast_ofNat_Int, Nat.left_eq_add, Nat.add_eq_left, Nat.add_left_cancel_iff]
  have e6 : r.fdiv (2 ^ min 6 IntKind.i32.bits) = r / 64 := Int.fdiv_eq_ediv_of_nonneg r (by decide)
  have e12 : r.fdiv (2 ^ min 12 IntKind.i32.bits) = r / 4096 := Int.fdiv_eq_ediv_of_nonneg r (by decide)
  have e18 : r.fdiv (2 ^ min 18 IntKind.i32.bits) = r / 262144 := Int.fdiv_eq_ediv_of_nonneg r (by decide)
  have o1 : ∀ x : Int, IntKind.u8.wrap (BitVec.ofInt IntKind.u8.bits 128 ||| BitVec.ofInt IntKind.u8.bits (x % 64)).toNat = 128 + x % 64 := fun x => or_u8 6 128 _ (by decide) (by decide) (by omega) (by omega) (by omega)
  have o2 : 0 ≤ r → r ≤ 2047 → IntKind.u8.wrap (BitVec.ofInt IntKind.u8.bits 192 ||| BitVec.ofInt IntKind.u8.bits (r / 64 % 256)).toNat = 192 + r / 64 := fun a b => by
    rw [show r / 64 % 256 = r / 64 by omega]
    exact or_u8 6 192 _ (by decide) (by decide) (by omega) (by omega) (by omega)
  have o3 : 0 ≤ r → r ≤ 65535 → IntKind.u8.wrap (BitVec.ofInt IntKind.u8.bits 224 ||| BitVec.ofInt IntKind.u8.bits (r / 4096 % 256)).toNat = 224 + r / 4096 := fun a b => by
    rw [show r / 4096 % 256 = r / 4096 by omega]
    exact or_u8 5 224 _ (by decide) (by decide) (by omega) (by omega) (by omega)
  have o4 : 0 ≤ r → r ≤ 1114111 → IntKind.u8.wrap (BitVec.ofInt IntKind.u8.bits 240 ||| BitVec.ofInt IntKind.u8.bits (r / 262144 % 256)).toNat = 240 + r / 262144 := fun a b => by
    rw [show r / 262144 % 256 = r / 262144 by omega]
    exact or_u8 4 240 _ (by decide) (by decide) (by omega) (by omega) (by omega)
  have hu : IntKind.u32.wrap r = r % 4294967296 := IntKind.wrap_u32 r
  have m1 : ∀ x : Int, x % 256 % 64 = x % 64 := fun x => by omega
  simp only [e6, e12, e18, IntKind.wrap_u8 r, IntKind.wrap_u8 (r / 64), IntKind.wrap_u8 (r / 4096), IntKind.wrap_u8 (r / 262144), m1, o1, hu]
  by_cases h0 : 0 ≤ r
  · have hm : r % 4294967296 = r := by omega
    rw [hm]
    refine ⟨fun h => ?_, fun h => ⟨fun h2 => ?_, fun h2 => ⟨fun h3 => ⟨fun h4 => ?_, fun h4 => ⟨fun h5 => ⟨fun h6 => ?_, fun h6 => ?_⟩, fun h5 => ?_⟩⟩, fun h3 => ⟨fun h4 => ⟨fun h5 => ?_, fun h5 => ?_⟩, fun h4 => ?_⟩⟩⟩⟩
    all_goals first
      | (exfalso; omega)
      | skip
    · rw [o2 h0 h]; have : enc r = [192 + r / 64, 128 + r % 64] := by unfold enc; rw [if_neg hr2, if_pos ⟨h0, h⟩]
      simp [this, intRows]
    · rw [o3 h0 (by omega)]; have : enc r = [224 + r / 4096, 128 + r / 64 % 64, 128 + r % 64] := by unfold enc; rw [if_neg hr2, if_neg (by omega), if_pos (.inl ⟨h0, h2⟩)]
      simp [this, intRows]
    · rw [o3 h0 (by omega)]; have : enc r = [224 + r / 4096, 128 + r / 64 % 64, 128 + r % 64] := by unfold enc; rw [if_neg hr2, if_neg (by omega), if_pos (.inr ⟨h3, h4⟩)]
      simp [this, intRows]
    · rw [o4 h0 h6]; have : enc r = [240 + r / 262144, 128 + r / 4096 % 64, 128 + r / 64 % 64, 128 + r % 64] := by unfold enc; rw [if_neg hr2, if_neg (by omega), if_neg (by omega), if_pos ⟨h5, h6⟩]
      simp [this, intRows]
    all_goals
      have : enc r = [239, 191, 189] := by unfold enc; rw [if_neg hr2, if_neg (by omega), if_neg (by omega), if_neg (by omega)]
      simp [this, intRows]
  · have : enc r = [239, 191, 189] := by unfold enc; rw [if_neg (by omega), if_neg (by omega), if_neg (by omega), if_neg (by omega)]
    have hm : 1114111 < r % 4294967296 := by omega
    refine ⟨fun h => by omega, fun h => ⟨fun h2 => by omega, fun h2 => ⟨fun h3 => ⟨fun h4 => by omega, fun h4 => ⟨fun h5 => ⟨fun h6 => by omega, fun h6 => ?_⟩, fun h5 => by omega⟩⟩, fun h3 => by omega⟩⟩⟩
    simp [this, intRows]

end Go.Proofs.YteemmpghpdaloaaDoor
end
section
/- utf.Step. -/
set_option linter.unusedVariables false
set_option linter.unusedSimpArgs false
set_option maxRecDepth 10000
namespace Go.Proofs.YteemmpghpdaloaaDoor
open Go.RowKit

noncomputable def rc_ustep : RFn := ⟨2, 54, (.seq (.reg [⟨(some 4), (.mov (.c (.sl 0 [] .nil))), none, false⟩, ⟨(some 5), (.mov (.c (.sl 0 [] .nil))), none, false⟩] 0 [0, 1]) (.seq (.seq (.reg [⟨(some 11), (.mov (.t 0)), none, false⟩, ⟨(some 12), (.call 19 [(.t 11)]), none, false⟩, ⟨(some 13), (.un .not (.t 12)), none, false⟩] 0 [0, 1, 13]) (.cond (.t 13) (.reg [⟨(some 0), (.mov (.c (.sl 0 [] .nil))), none, false⟩] 0 [0, 1]) .skip)) (.seq (.reg [⟨(some 14), (.mov (.t 0)), none, false⟩, ⟨(some 15), (.call 35 [(.t 14)]), none, false⟩, ⟨(some 16), (.mov (.t 1)), none, false⟩, ⟨(some 17), (.mkrow 1 [(.int .u8 0)] 1 [(0, (.t 16))]), none, false⟩, ⟨(some 18), (.append 1 1 (.t 15) (.t 17)), none, false⟩, ⟨(some 6), (.mov (.t 18)), none, true⟩] 0 [0, 1, 6]) (.seq (.seq (.reg [⟨(some 20), (.mov (.t 6)), none, false⟩, ⟨(some 21), (.call 36 [(.t 20)]), none, false⟩, ⟨(some 19), (.mov (.t 21)), none, false⟩, ⟨(some 22), (.ext (.t 19) 0), none, false⟩, ⟨(some 23), (.ext (.t 19) 1), none, false⟩, ⟨(some 7), (.mov (.t 22)), none, false⟩, ⟨(some 8), (.mov (.t 23)), none, false⟩] 0 [0, 1, 6, 7, 8]) (.seq (.reg [⟨(some 24), (.mov (.t 8)), none, false⟩, ⟨(some 25), (.mov (.t 6)), none, false⟩, ⟨(some 26), (.len (.t 25)), none, false⟩, ⟨(some 27), (.bin .eql (.t 24) (.t 26)), none, false⟩, ⟨(some 28), (.mov (.t 27)), none, false⟩, ⟨(some 29), (.mov (.t 7)), (some (28, true)), false⟩, ⟨(some 30), (.bin .neq (.t 29) (.c (.int .i32 65533))), (some (28, true)), false⟩, ⟨(some 31), (.mov (.t 30)), (some (28, true)), false⟩, ⟨(some 32), (.mov (.t 8)), (some (31, false)), false⟩, ⟨(some 33), (.bin .gtr (.t 32) (.c (.int .i64 1))), (some (31, false)), false⟩, ⟨(some 34), (.pick (.t 31) (.c (.bool true)) (.t 33)), (some (28, true)), false⟩, ⟨(some 35), (.pick (.t 28) (.t 34) (.c (.bool false))), none, false⟩] 0 [0, 1, 6, 7, 35]) (.cond (.t 35) (.seq (.reg [⟨(some 36), (.mov (.t 7)), none, false⟩, ⟨(some 37), (.mkrow 1 [(.int .i32 0)] 1 [(0, (.t 36))]), none, false⟩, ⟨(some 4), (.mov (.c (.sl 0 [] .nil))), none, false⟩, ⟨(some 5), (.mov (.t 37)), none, true⟩] 0 [4, 5]) .ret) .skip))) (.seq (.seq (.reg [⟨(some 38), (.mov (.t 6)), none, false⟩, ⟨(some 39), (.call 19 [(.t 38)]), none, false⟩] 0 [0, 1, 6, 39]) (.cond (.t 39) (.seq (.reg [⟨(some 40), (.mov (.t 6)), none, false⟩, ⟨(some 4), (.mov (.t 40)), none, false⟩, ⟨(some 5), (.mov (.c (.sl 0 [] .nil))), none, false⟩] 0 [4, 5]) .ret) .skip)) (.seq (.seq (.reg [⟨(some 41), (.mov (.t 0)), none, false⟩, ⟨(some 42), (.len (.t 41)), none, false⟩, ⟨(some 43), (.bin .eql (.t 42) (.c (.int .i64 0))), none, false⟩] 0 [1, 43]) (.cond (.t 43) (.seq (.reg [⟨(some 44), (.mkrow 1 [(.int .i32 0)] 1 [(0, (.c (.int .i32 65533)))]), none, false⟩, ⟨(some 4), (.mov (.c (.sl 0 [] .nil))), none, false⟩, ⟨(some 5), (.mov (.t 44)), none, true⟩] 0 [4, 5]) .ret) .skip)) (.seq (.reg [⟨(some 46), (.mov (.t 1)), none, false⟩, ⟨(some 47), (.call 17 [(.c (.sl 0 [] .nil)), (.t 46)]), none, false⟩, ⟨(some 45), (.mov (.t 47)), none, false⟩, ⟨(some 48), (.ext (.t 45) 0), none, false⟩, ⟨(some 49), (.ext (.t 45) 1), none, false⟩, ⟨(some 9), (.mov (.t 48)), none, false⟩, ⟨(some 10), (.mov (.t 49)), none, false⟩] 0 [9, 10]) (.seq (.reg [⟨(some 50), (.mov (.t 9)), none, false⟩, ⟨(some 51), (.mkrow 1 [(.int .i32 0)] 1 [(0, (.c (.int .i32 65533)))]), none, false⟩, ⟨(some 52), (.mov (.t 10)), none, false⟩, ⟨(some 53), (.append 1 4 (.t 51) (.t 52)), none, false⟩, ⟨(some 4), (.mov (.t 50)), none, false⟩, ⟨(some 5), (.mov (.t 53)), none, true⟩] 0 [4, 5]) .ret)))))))), [(.t 4), (.t 5)]⟩
theorem rc_ustep_ok : compFn PG.P [⟨0, 0, [0, 1], []⟩, ⟨1, 0, [0, 1, 13], []⟩, ⟨2, 0, [0, 1], []⟩, ⟨3, 0, [0, 1, 6], [6]⟩, ⟨4, 0, [0, 1, 6, 7, 8], []⟩, ⟨5, 0, [0, 1, 6, 7, 35], []⟩, ⟨6, 0, [4, 5], [5]⟩, ⟨7, 0, [0, 1, 6, 39], []⟩, ⟨8, 0, [4, 5], []⟩, ⟨9, 0, [1, 43], []⟩, ⟨10, 0, [4, 5], [5]⟩, ⟨11, 0, [9, 10], []⟩, ⟨12, 0, [4, 5], [5]⟩] 17 = some rc_ustep := by kernel_rfl

def F_ubegins : List DV → Option FSpec
  | [a] => some ⟨isInts .u8 a, fun _ => (.bool (ubeg (intsD a)), [])⟩
  | _ => none
theorem F_ubegins_1 (a : DV) : F_ubegins [a] = some ⟨isInts .u8 a, fun _ => (.bool (ubeg (intsD a)), [])⟩ := nrfl _
theorem ubegins_ok (args : List DV) (s : FSpec) (hs : F_ubegins args = some s) (hp : s.pre) : PCalls PG 19 args fun n r os => r = (s.res n).1 ∧ os = (s.res n).2 := by
  unfold F_ubegins at hs
  split at hs
  · rename_i a
    obtain rfl := Option.some.inj hs
    obtain ⟨sa, ka, ha, ha2, ha3⟩ := isInts_inv hp
    have := ubegins_P (k := ka) ha2 ha3
    rw [← ha] at this
    exact this
  · cases hs
def T3 : FL := (19, F_ubegins) :: T2
theorem T3_ok : FOk PG (tab T3) := FOk.cons T2_ok ubegins_ok

/-- A byte behind those that are pending (of which it's known whether they begin a rune). -/
def ustepA (p : List Int) (b : Int) : List Int × List Int :=
  if (dec (p ++ [b])).2 = ((p ++ [b]).length : Int) ∧ ((dec (p ++ [b])).1 ≠ 65533 ∨ 1 < (dec (p ++ [b])).2) then ([], [(dec (p ++ [b])).1])
  else if ubeg (p ++ [b]) = true then (p ++ [b], [])
  else ([], [65533])
def ustep (p : List Int) (b : Int) : List Int × List Int :=
  if ubeg p = false then ustepA [] b
  else if (dec (p ++ [b])).2 = ((p ++ [b]).length : Int) ∧ ((dec (p ++ [b])).1 ≠ 65533 ∨ 1 < (dec (p ++ [b])).2) then ([], [(dec (p ++ [b])).1])
  else if ubeg (p ++ [b]) = true then (p ++ [b], [])
  else ((ustepA [] b).1, 65533 :: (ustepA [] b).2)

theorem step0_P {sz : Nat} {b : Int} (hb : 0 ≤ b ∧ b ≤ 255) :
    PCalls PG 17 [.sl sz [] .nil, .int .u8 b] fun n r os => r = .tup [.sl 1 (intRows .u8 (ustepA [] b).1) .any, .sl 1 (intRows .i32 (ustepA [] b).2) .any] ∧ os = [] := by
  refine PCalls.by_fn (res := fun n => (.tup [.sl 1 (intRows .u8 (ustepA [] b).1) .any, .sl 1 (intRows .i32 (ustepA [] b).2) .any], [])) T3_ok rc_ustep_ok (by simp [rc_ustep]) fun n => ?_
  unfold rc_ustep T3 T2
  dsimp only
  simp -implicitDefEqProofs only [tab_cons, F_ubegins_1, F_decode_1, F_clone_nil, vcA1, vcA2, vcA3, vcA4, vcA5, vcA6, vcA7, ↓vcP1, ↓vcP2, ↓reduceIte, Option.map_some, Option.map_none, Option.bind_some, Option.bind_none, if_true, if_false, reduceCtorEq, beq_true, beq_false, Bool.not_true, Bool.not_false, BEq.rfl, Bool.true_beq, Bool.false_beq, and_true, true_and, and_self, decide_true, decide_false, List.length_cons, List.length_nil, List.all_cons, List.all_nil, Bool.and_true, Bool.and_self, List.getElem?_cons_zero, List.getElem?_cons_succ, List.set_cons_zero, List.set_cons_succ, List.nil_append, List.cons_append, List.append_nil, List.map_cons, List.map_nil, not_true_eq_false, not_false_eq_true, false_implies, true_implies, implies_true, List.take_succ_cons, List.take_zero, List.take_nil, List.drop_succ_cons, List.drop_zero, List.drop_nil, Nat.reduceLT, Nat.reduceLeDiff, Nat.reduceEqDiff, Nat.reduceAdd, Nat.reduceSub, Nat.reduceMul, Int.reduceLT, Int.reduceLE, Int.reduceEq, Int.reduceToNat, Int.reduceAdd, Int.reduceSub, Int.reduceNeg, List.reduceReplicate, List.replicate_zero, List.replicate_succ, ne_eq, List.flatMap_cons, List.flatMap_nil, List.length_replicate, List.length_append, Nat.le_refl, Nat.le_add_right, Nat.add_assoc, List.append_assoc, or_true, true_or, or_false, false_or, and_false, false_and, exists_eq_left, exists_eq_left', Option.some.injEq, DV.int.injEq, DV.bool.injEq, DV.sl.injEq, DV.own.injEq, DV.tup.injEq, List.cons.injEq, Ob.arr.injEq, Ob.box.injEq, Option.map_map, Int.toNat_natCast, Int.toNat_zero, Nat.reducePow, Int.toNat_one, Int.reduceMul, Nat.mul_one, Nat.zero_add, Nat.add_zero, Function.comp_apply, List.map_append, List.map_replicate, Int.cast_ofNat_Int, Nat.left_eq_add, Nat.add_eq_left, Nat.add_left_cancel_iff]
  have hi : inK .u8 [b] := inK_u8 (by simp) (by simpa using hb)
  have hz : ((0 : Nat) : Int) = 0 := rfl
  simp only [cnd_gen, hi, hz, true_and, not_true_eq_false, false_implies, and_true, ustepA, List.nil_append, List.length_cons, List.length_nil]
  have h1 : ((0 + 1 : Nat) : Int) = 1 := rfl
  simp only [h1]
  grind [intRows_nil]
def F_step0 : List DV → Option FSpec
  | [.sl sz [] .nil, .int .u8 b] => some ⟨0 ≤ b ∧ b ≤ 255, fun n => (.tup [.sl 1 (intRows .u8 (ustepA [] b).1) .any, .sl 1 (intRows .i32 (ustepA [] b).2) .any], [])⟩
  | _ => none
theorem F_step0_1 (sz : Nat) (b : Int) : F_step0 [.sl sz [] .nil, .int .u8 b] = some ⟨0 ≤ b ∧ b ≤ 255, fun n => (.tup [.sl 1 (intRows .u8 (ustepA [] b).1) .any, .sl 1 (intRows .i32 (ustepA [] b).2) .any], [])⟩ := nrfl _
theorem step0_ok (args : List DV) (s : FSpec) (hs : F_step0 args = some s) (hp : s.pre) : PCalls PG 17 args fun n r os => r = (s.res n).1 ∧ os = (s.res n).2 := by
  unfold F_step0 at hs
  split at hs
  · rename_i sz b
    obtain rfl := Option.some.inj hs
    exact step0_P hp
  · cases hs
def T4 : FL := (17, F_step0) :: T3
theorem T4_ok : FOk PG (tab T4) := FOk.cons T3_ok step0_ok

theorem step_P {sz : Nat} {b : Int} {l : List Int} (hs : sz = 1 ∨ l = []) (hk : inK .u8 l) (hl : l.length ≤ 1000000) (hb : 0 ≤ b ∧ b ≤ 255) :
    PCalls PG 17 [.sl sz (intRows .u8 l) .nonnil, .int .u8 b] fun n r os => r = .tup [.sl 1 (intRows .u8 (ustep l b).1) .any, .sl 1 (intRows .i32 (ustep l b).2) .any] ∧ os = [] := by
  refine PCalls.by_fn (res := fun n => (.tup [.sl 1 (intRows .u8 (ustep l b).1) .any, .sl 1 (intRows .i32 (ustep l b).2) .any], [])) T4_ok rc_ustep_ok (by simp [rc_ustep]) fun n => ?_
  unfold rc_ustep T4 T3 T2
  dsimp only
  simp -implicitDefEqProofs only [tab_cons, F_ubegins_1, F_decode_1, F_clone_nil, F_clone_non, F_step0_1, vcA1, vcA2, vcA3, vcA4, vcA5, vcA6, vcA7, ↓vcP1, ↓vcP2, ↓reduceIte, Option.map_some, Option.map_none, Option.bind_some, Option.bind_none, if_true, if_false, reduceCtorEq, beq_true, beq_false, Bool.not_true, Bool.not_false, BEq.rfl, Bool.true_beq, Bool.false_beq, and_true, true_and, and_self, decide_true, decide_false, List.length_cons, List.length_nil, List.all_cons, List.all_nil, Bool.and_true, Bool.and_self, List.getElem?_cons_zero, List.getElem?_cons_succ, List.set_cons_zero, List.set_cons_succ, List.nil_append, List.cons_append, List.append_nil, List.map_cons, List.map_nil, not_true_eq_false, not_false_eq_true, false_implies, true_implies, implies_true, List.take_succ_cons, List.take_zero, List.take_nil, List.drop_succ_cons, List.drop_zero, List.drop_nil, Nat.reduceLT, Nat.reduceLeDiff, Nat.reduceEqDiff, Nat.reduceAdd, Nat.reduceSub, Nat.reduceMul, Int.reduceLT, Int.reduceLE, Int.reduceEq, Int.reduceToNat, Int.reduceAdd, Int.reduceSub, Int.reduceNeg, List.reduceReplicate, List.replicate_zero, List.replicate_succ, ne_eq, List.flatMap_cons, List.flatMap_nil, List.length_replicate, List.length_append, Nat.le_refl, Nat.le_add_right, Nat.add_assoc, List.append_assoc, or_true, true_or, or_false, false_or, and_false, false_and, exists_eq_left, exists_eq_left', Option.some.injEq, DV.int.injEq, DV.bool.injEq, DV.sl.injEq, DV.own.injEq, DV.tup.injEq, List.cons.injEq, Ob.arr.injEq, Ob.box.injEq, Option.map_map, Int.toNat_natCast, Int.toNat_zero, Nat.reducePow, Int.toNat_one, Int.reduceMul, Nat.mul_one, Nat.zero_add, Nat.add_zero, Function.comp_apply, List.map_append, List.map_replicate, Int.cast_ofNat_Int, Nat.left_eq_add, Nat.add_eq_left, Nat.add_left_cancel_iff]
  have hi : isInts .u8 (.sl sz (intRows .u8 l) .nonnil) := isInts_mk hs hk
  have hkb : inK .u8 [b] := inK_u8 (by simp) (by simpa using hb)
  have hka : inK .u8 (l ++ [b]) := hk.append hkb (by simp; omega)
  have ht : List.take (l.length + 1) (l ++ [b]) = l ++ [b] := List.take_of_length_le (by simp)
  have hx : ∀ X : List Int, (1 + X.length ≤ X.length + 1) = True := fun X => by simp [Nat.add_comm]
  have ht2 : ∀ X : List Int, List.take (1 + X.length) (65533 :: X) = 65533 :: X := fun X => List.take_of_length_le (by simp; omega)
  have hs1 : (ustepA [] b).2.length ≤ 1 := by unfold ustepA; split <;> (try split) <;> simp
  simp -implicitDefEqProofs only [hi, hb, ht, hx, ht2, hka, vcA1, vcA2, vcA3, vcA4, vcA5, vcA6, vcA7, ↓vcP1, ↓vcP2, ↓reduceIte, Option.map_some, Option.map_none, Option.bind_some, Option.bind_none, if_true, if_false, reduceCtorEq, beq_true, beq_false, Bool.not_true, Bool.not_false, BEq.rfl, Bool.true_beq, Bool.false_beq, and_true, true_and, and_self, decide_true, decide_false, List.length_cons, List.length_nil, List.all_cons, List.all_nil, Bool.and_true, Bool.and_self, List.getElem?_cons_zero, List.getElem?_cons_succ, List.set_cons_zero, List.set_cons_succ, List.nil_append, List.cons_append, List.append_nil, List.map_cons, List.map_nil, not_true_eq_false, not_false_eq_true, false_implies, true_implies, implies_true, List.take_succ_cons, List.take_zero, List.take_nil, List.drop_succ_cons, List.drop_zero, List.drop_nil, Nat.reduceLT, Nat.reduceLeDiff, Nat.reduceEqDiff, Nat.reduceAdd, Nat.reduceSub, Nat.reduceMul, Int.reduceLT, Int.reduceLE, Int.reduceEq, Int.reduceToNat, Int.reduceAdd, Int.reduceSub, Int.reduceNeg, List.reduceReplicate, List.replicate_zero, List.replicate_succ, ne_eq, List.flatMap_cons, List.flatMap_nil, List.length_replicate, List.length_append, Nat.le_refl, Nat.le_add_right, Nat.add_assoc, List.append_assoc, or_true, true_or, or_false, false_or, and_false, false_and, exists_eq_left, exists_eq_left', Option.some.injEq, DV.int.injEq, DV.bool.injEq, DV.sl.injEq, DV.own.injEq, DV.tup.injEq, List.cons.injEq, Ob.arr.injEq, Ob.box.injEq, Option.map_map, Int.toNat_natCast, Int.toNat_zero, Nat.reducePow, Int.toNat_one, Int.reduceMul, Nat.mul_one, Nat.zero_add, Nat.add_zero, Function.comp_apply, List.map_append, List.map_replicate, Int.cast_ofNat_Int, Nat.left_eq_add, Nat.add_eq_left, Nat.add_left_cancel_iff]
  simp only [cnd_gen, ustep, ustepA]
  have hlb : ((l ++ [b]).length : Int) = l.length + 1 := by simp
  have hlc : ((l.length + 1 : Nat) : Int) = l.length + 1 := by simp
  have h1 : ((0 + 1 : Nat) : Int) = 1 := rfl
  have hne : ubeg l = true → ¬ (l.length : Int) = 0 := fun h => by
    simp only [ubeg, Bool.and_eq_true, decide_eq_true_eq] at h
    omega
  rw [ustepA] at hs1
  simp only [hlb, hlc, List.nil_append, List.length_cons, List.length_nil, h1] at hs1 ⊢
  generalize dec (l ++ [b]) = D
  generalize ubeg (l ++ [b]) = U
  generalize dec [b] = D1 at hs1 ⊢
  generalize ubeg [b] = U1 at hs1 ⊢
  have hsl : ∀ h : ubeg l = true, sz = 1 := fun h => hs.resolve_right fun e => hne h (by simp [e])
  clear hx ht2 ht hk
  cases hu : ubeg l
  · simp only [if_true, Bool.true_eq_false, Bool.false_eq_true, if_false, false_implies, true_implies, true_and, and_true]
    (repeat' (first | assumption | intro _ | apply And.intro)) <;> first | omega | grind [intRows_nil]
  · generalize (if D1.2 = 1 ∧ (D1.1 ≠ 65533 ∨ 1 < D1.2) then (([], [D1.1]) : List Int × List Int) else if U1 = true then ([b], []) else ([], [65533])) = A at hs1 ⊢
    obtain ⟨d1, d2⟩ := D
    obtain ⟨a1, a2⟩ := A
    simp only [if_true, Bool.true_eq_false, Bool.false_eq_true, if_false, false_implies, true_implies, true_and, and_true]
    (repeat' (first | assumption | intro _ | apply And.intro)) <;> first | omega | (simp only at hs1; omega) | (split <;> grind [intRows_nil]) | grind [intRows_nil]

end Go.Proofs.YteemmpghpdaloaaDoor
end
section
/- utf.Step of any bytes; utf.Put. -/
set_option linter.unusedVariables false
set_option linter.unusedSimpArgs false
set_option maxRecDepth 10000
namespace Go.Proofs.YteemmpghpdaloaaDoor
open Go.RowKit

theorem ustep_nil (b : Int) : ustep [] b = ustepA [] b := by simp [ustep, ubeg]
theorem step_any {sz : Nat} {k : SK} {b : Int} {l : List Int} (hs : sz = 1 ∨ l = []) (hk : inK .u8 l) (hl : l.length ≤ 1000000) (hb : 0 ≤ b ∧ b ≤ 255) :
    PCalls PG 17 [.sl sz (intRows .u8 l) k, .int .u8 b] fun n r os => r = .tup [.sl 1 (intRows .u8 (ustep l b).1) .any, .sl 1 (intRows .i32 (ustep l b).2) .any] ∧ os = [] := by
  refine PCalls.any_arg (i := 0) rfl (fun h => ?_) ?_
  · have hn : l = [] := by simpa [intRows] using h
    subst hn
    rw [ustep_nil]
    exact step0_P hb
  · exact step_P hs hk hl hb
def F_step : List DV → Option FSpec
  | [.sl sz rows k, .int .u8 b] => some ⟨isInts .u8 (.sl sz rows k) ∧ rows.length ≤ 1000000 ∧ 0 ≤ b ∧ b ≤ 255, fun n => (.tup [.sl 1 (intRows .u8 (ustep (ints rows) b).1) .any, .sl 1 (intRows .i32 (ustep (ints rows) b).2) .any], [])⟩
  | _ => none
theorem F_step_1 (sz : Nat) (rows : List (List DV)) (k : SK) (b : Int) : F_step [.sl sz rows k, .int .u8 b] = some ⟨isInts .u8 (.sl sz rows k) ∧ rows.length ≤ 1000000 ∧ 0 ≤ b ∧ b ≤ 255, fun n => (.tup [.sl 1 (intRows .u8 (ustep (ints rows) b).1) .any, .sl 1 (intRows .i32 (ustep (ints rows) b).2) .any], [])⟩ := nrfl _
theorem fstep_ok (args : List DV) (s : FSpec) (hs : F_step args = some s) (hp : s.pre) : PCalls PG 17 args fun n r os => r = (s.res n).1 ∧ os = (s.res n).2 := by
  unfold F_step at hs
  split at hs
  · rename_i sz rows k b
    obtain rfl := Option.some.inj hs
    obtain ⟨⟨h1, h2, h3⟩, h4, h5, h6⟩ := hp
    have h7 : (ints rows).length = rows.length := by simp [ints]
    have := step_any (sz := sz) (k := k) (l := ints rows) (h2.imp id fun h => by simp [h, ints]) h3 (by omega) ⟨h5, h6⟩
    rw [← h1] at this
    exact this
  · cases hs

def F_appNon : List DV → Option FSpec
  | [.sl sz [] .nil, .int .i32 r] => some ⟨(-2147483648 ≤ r ∧ r ≤ 2147483647) ∧ ¬ (0 ≤ r ∧ r ≤ 127), fun n => (.own n 0 (enc r).length, [some (.arr 1 (intRows .u8 (enc r)))])⟩
  | _ => none
theorem F_appNon_1 (sz : Nat) (r : Int) : F_appNon [.sl sz [] .nil, .int .i32 r] = some ⟨(-2147483648 ≤ r ∧ r ≤ 2147483647) ∧ ¬ (0 ≤ r ∧ r ≤ 127), fun n => (.own n 0 (enc r).length, [some (.arr 1 (intRows .u8 (enc r)))])⟩ := nrfl _
theorem appNon_ok (args : List DV) (s : FSpec) (hs : F_appNon args = some s) (hp : s.pre) : PCalls PG 50 args fun n r os => r = (s.res n).1 ∧ os = (s.res n).2 := by
  unfold F_appNon at hs
  split at hs
  · obtain rfl := Option.some.inj hs
    exact appNon_P hp.1 hp.2
  · cases hs
def T5 : FL := (50, F_appNon) :: (17, F_step) :: T3
theorem T5_ok : FOk PG (tab T5) := FOk.cons (FOk.cons T3_ok fstep_ok) appNon_ok

theorem appRune_P {sz : Nat} {r : Int} (hr : -2147483648 ≤ r ∧ r ≤ 2147483647) :
    PCalls PG 39 [.sl sz [] .nil, .int .i32 r] fun n d os => d = .own n 0 (enc r).length ∧ os = [some (.arr 1 (intRows .u8 (enc r)))] := by
  refine PCalls.by_fn (res := fun n => (.own n 0 (enc r).length, [some (.arr 1 (intRows .u8 (enc r)))])) T5_ok rc_appRune_ok (by simp [rc_appRune]) fun n => ?_
  unfold rc_appRune T5
  dsimp only
  simp -implicitDefEqProofs only [tab_cons, F_appNon_1, vcA1, vcA2, vcA3, vcA4, vcA5, vcA6, vcA7, ↓vcP1, ↓vcP2, ↓reduceIte, Option.map_some, Option.map_none, Option.bind_some, Option.bind_none, if_true, if_false, reduceCtorEq, beq_true, beq_false, Bool.not_true, Bool.not_false, BEq.rfl, Bool.true_beq, Bool.false_beq, and_true, true_and, and_self, decide_true, decide_false, List.length_cons, List.length_nil, List.all_cons, List.all_nil, Bool.and_true, Bool.and_self, List.getElem?_cons_zero, List.getElem?_cons_succ, List.set_cons_zero, List.set_cons_succ, List.nil_append, List.cons_append, List.append_nil, List.map_cons, List.map_nil, not_true_eq_false, not_false_eq_true, false_implies, true_implies, implies_true, List.take_succ_cons, List.take_zero, List.take_nil, List.drop_succ_cons, List.drop_zero, List.drop_nil, Nat.reduceLT, Nat.reduceLeDiff, Nat.reduceEqDiff, Nat.reduceAdd, Nat.reduceSub, Nat.reduceMul, Int.reduceLT, Int.reduceLE, Int.reduceEq, Int.reduceToNat, Int.reduceAdd, Int.reduceSub, Int.reduceNeg, List.reduceReplicate, List.replicate_zero, List.replicate_succ, ne_eq, List.flatMap_cons, List.flatMap_nil, List.length_replicate, List.length_append, Nat.le_refl, Nat.le_add_right, Nat.add_assoc, List.append_assoc, or_true, true_or, or_false, false_or, and_false, false_and, exists_eq_left, exists_eq_left', Option.some.injEq, DV.int.injEq, DV.bool.injEq, DV.sl.injEq, DV.own.injEq, DV.tup.injEq, List.cons.injEq, Ob.arr.injEq, Ob.box.injEq, Option.map_map, Int.toNat_natCast, Int.toNat_zero, Nat.reducePow, Int.toNat_one, Int.reduceMul, Nat.mul_one, Nat.zero_add, Nat.add_zero, Function.comp_apply, List.map_append, List.map_replicate, Int.cast_ofNat_Int, Nat.left_eq_add, Nat.add_eq_left, Nat.add_left_cancel_iff]
  have hu : IntKind.u32.wrap r = r % 4294967296 := IntKind.wrap_u32 r
  have h8 : IntKind.u8.wrap r = r % 256 := IntKind.wrap_u8 r
  refine ⟨fun h => ?_, fun h => ⟨hr, ?_⟩⟩
  · have h1 : 0 ≤ r ∧ r ≤ 127 := by omega
    have : enc r = [r] := by unfold enc; rw [if_pos h1]
    rw [this, h8, show r % 256 = r by omega]
    exact ⟨rfl, rfl⟩
  · omega
def F_appRune : List DV → Option FSpec
  | [.sl sz [] .nil, .int .i32 r] => some ⟨-2147483648 ≤ r ∧ r ≤ 2147483647, fun n => (.own n 0 (enc r).length, [some (.arr 1 (intRows .u8 (enc r)))])⟩
  | _ => none
theorem F_appRune_1 (sz : Nat) (r : Int) : F_appRune [.sl sz [] .nil, .int .i32 r] = some ⟨-2147483648 ≤ r ∧ r ≤ 2147483647, fun n => (.own n 0 (enc r).length, [some (.arr 1 (intRows .u8 (enc r)))])⟩ := nrfl _
theorem appRune_ok (args : List DV) (s : FSpec) (hs : F_appRune args = some s) (hp : s.pre) : PCalls PG 39 args fun n r os => r = (s.res n).1 ∧ os = (s.res n).2 := by
  unfold F_appRune at hs
  split at hs
  · obtain rfl := Option.some.inj hs
    exact appRune_P hp
  · cases hs
def T6 : FL := (39, F_appRune) :: T5
theorem T6_ok : FOk PG (tab T6) := FOk.cons T5_ok appRune_ok
theorem put_P {r : Int} (hr : -2147483648 ≤ r ∧ r ≤ 2147483647) :
    PCalls PG 21 [.int .i32 r] fun n d os => d = .own n 0 (enc r).length ∧ os = [some (.arr 1 (intRows .u8 (enc r)))] := by
  refine PCalls.by_fn (res := fun n => (.own n 0 (enc r).length, [some (.arr 1 (intRows .u8 (enc r)))])) T6_ok rc_uput_ok (by simp [rc_uput]) fun n => ?_
  unfold rc_uput T6
  dsimp only
  simp -implicitDefEqProofs only [tab_cons, F_appRune_1, vcA1, vcA2, vcA3, vcA4, vcA5, vcA6, vcA7, ↓vcP1, ↓vcP2, ↓reduceIte, Option.map_some, Option.map_none, Option.bind_some, Option.bind_none, if_true, if_false, reduceCtorEq, beq_true, beq_false, Bool.not_true, Bool.not_false, BEq.rfl, Bool.true_beq, Bool.false_beq, and_true, true_and, and_self, decide_true, decide_false, List.length_cons, List.length_nil, List.all_cons, List.all_nil, Bool.and_true, Bool.and_self, List.getElem?_cons_zero, List.getElem?_cons_succ, List.set_cons_zero, List.set_cons_succ, List.nil_append, List.cons_append, List.append_nil, List.map_cons, List.map_nil, not_true_eq_false, not_false_eq_true, false_implies, true_implies, implies_true, List.take_succ_cons, List.take_zero, List.take_nil, List.drop_succ_cons, List.drop_zero, List.drop_nil, Nat.reduceLT, Nat.reduceLeDiff, Nat.reduceEqDiff, Nat.reduceAdd, Nat.reduceSub, Nat.reduceMul, Int.reduceLT, Int.reduceLE, Int.reduceEq, Int.reduceToNat, Int.reduceAdd, Int.reduceSub, Int.reduceNeg, List.reduceReplicate, List.replicate_zero, List.replicate_succ, ne_eq, List.flatMap_cons, List.flatMap_nil, List.length_replicate, List.length_append, Nat.le_refl, Nat.le_add_right, Nat.add_assoc, List.append_assoc, or_true, true_or, or_false, false_or, and_false, false_and, exists_eq_left, exists_eq_left', Option.some.injEq, DV.int.injEq, DV.bool.injEq, DV.sl.injEq, DV.own.injEq, DV.tup.injEq, List.cons.injEq, Ob.arr.injEq, Ob.box.injEq, Option.map_map, Int.toNat_natCast, Int.toNat_zero, Nat.reducePow, Int.toNat_one, Int.reduceMul, Nat.mul_one, Nat.zero_add, Nat.add_zero, Function.comp_apply, List.map_append, List.map_replicate, Int.cast_ofNat_Int, Nat.left_eq_add, Nat.add_eq_left, Nat.add_left_cancel_iff]
  exact hr

end Go.Proofs.YteemmpghpdaloaaDoor
end
section
/- utf.All. -/
set_option linter.unusedVariables false
set_option linter.unusedSimpArgs false
set_option maxRecDepth 10000
namespace Go.Proofs.YteemmpghpdaloaaDoor
open Go.RowKit

noncomputable def rc_uall_l0 : RC := (.seq (.reg [⟨(some 12), (.bin .lss (.t 11) (.t 10)), none, false⟩] 0 [4, 5, 9, 10, 11, 12]) (.seq (.cond (.t 12) .skip (.ext 0)) (.seq (.blk 1 (.seq (.reg [⟨(some 13), (.iaddr 1 (.t 9) (.t 11)), none, false⟩, ⟨(some 14), (.load false 1 (.t 13)), none, false⟩, ⟨(some 7), (.mov (.t 14)), none, false⟩] 0 [4, 5, 7, 9, 10, 11]) (.seq (.reg [⟨(some 8), (.mov (.c (.sl 0 [] .nil))), none, false⟩] 0 [4, 5, 7, 9, 10, 11]) (.seq (.reg [⟨(some 16), (.mov (.t 5)), none, false⟩, ⟨(some 17), (.mov (.t 7)), none, false⟩, ⟨(some 18), (.call 17 [(.t 16), (.t 17)]), none, false⟩, ⟨(some 15), (.mov (.t 18)), none, false⟩, ⟨(some 19), (.ext (.t 15) 0), none, false⟩, ⟨(some 20), (.ext (.t 15) 1), none, false⟩, ⟨(some 5), (.mov (.t 19)), none, false⟩, ⟨(some 8), (.mov (.t 20)), none, false⟩] 0 [4, 5, 8, 9, 10, 11]) (.reg [⟨(some 21), (.mov (.t 4)), none, false⟩, ⟨(some 22), (.mov (.t 8)), none, false⟩, ⟨(some 23), (.append 1 4 (.t 21) (.t 22)), none, false⟩, ⟨(some 4), (.mov (.t 23)), none, false⟩] 0 [4, 5, 9, 10, 11]))))) (.reg [⟨(some 24), (.bin .add (.t 11) (.c (.int .i64 1))), none, false⟩, ⟨(some 11), (.mov (.t 24)), none, false⟩] 0 [4, 5, 9, 10, 11]))))
noncomputable def rc_uall : RFn := ⟨1, 27, (.seq (.reg [⟨(some 2), (.mov (.c (.sl 0 [] .nil))), none, false⟩, ⟨(some 3), (.mov (.c (.sl 0 [] .nil))), none, false⟩] 0 [0]) (.seq (.reg [⟨(some 4), (.mov (.c (.sl 0 [] .nil))), none, false⟩] 0 [0, 4]) (.seq (.reg [⟨(some 5), (.mov (.c (.sl 0 [] .nil))), none, false⟩] 0 [0, 4, 5]) (.seq (.seq (.reg [⟨(some 9), (.mov (.t 0)), none, false⟩, ⟨(some 10), (.len (.t 9)), none, false⟩, ⟨(some 11), (.mov (.c (.int .i64 0))), none, false⟩] 0 [4, 5, 9, 10, 11]) (.blk 0 (.loop rc_uall_l0))) (.seq (.reg [⟨(some 25), (.mov (.t 4)), none, false⟩, ⟨(some 26), (.mov (.t 5)), none, false⟩, ⟨(some 2), (.mov (.t 25)), none, true⟩, ⟨(some 3), (.mov (.t 26)), none, false⟩] 0 [2, 3]) .ret))))), [(.t 2), (.t 3)]⟩
theorem rc_uall_ok : compFn PG.P [⟨0, 0, [0], []⟩, ⟨1, 0, [0, 4], []⟩, ⟨2, 0, [0, 4, 5], []⟩, ⟨3, 0, [4, 5, 9, 10, 11], []⟩, ⟨4, 0, [4, 5, 9, 10, 11, 12], []⟩, ⟨5, 0, [4, 5, 7, 9, 10, 11], []⟩, ⟨6, 0, [4, 5, 7, 9, 10, 11], []⟩, ⟨7, 0, [4, 5, 8, 9, 10, 11], []⟩, ⟨8, 0, [4, 5, 9, 10, 11], []⟩, ⟨9, 0, [4, 5, 9, 10, 11], []⟩, ⟨10, 0, [2, 3], [2]⟩] 14 = some rc_uall := by kernel_rfl

/-- All bytes, one by one: the runes, what is pending. -/
def uallF (l : List Int) : List Int × List Int := l.foldl (fun a b => (a.1 ++ (ustep a.2 b).2, (ustep a.2 b).1)) ([], [])
theorem uallF_snoc (l : List Int) (b : Int) : uallF (l ++ [b]) = ((uallF l).1 ++ (ustep (uallF l).2 b).2, (ustep (uallF l).2 b).1) := by simp [uallF]
theorem ustepA_len (p : List Int) (b : Int) : (ustepA p b).2.length ≤ 1 := by unfold ustepA; split <;> (try split) <;> simp
theorem ubeg_len {l : List Int} (h : ubeg l = true) : 0 < l.length ∧ l.length < 4 := by
  simp only [ubeg, Bool.and_eq_true, decide_eq_true_eq] at h
  omega
theorem ustepA_in {b : Int} (hb : 0 ≤ b ∧ b ≤ 255) : inK .u8 (ustepA [] b).1 := by
  unfold ustepA
  split
  · exact inK_nil _
  · split
    · exact inK_u8 (by simp) (by simpa using hb)
    · exact inK_nil _
theorem ustep_len (p : List Int) (b : Int) : (ustep p b).2.length ≤ 2 := by
  have := ustepA_len [] b
  unfold ustep
  split
  · omega
  · split
    · simp
    · split
      · simp
      · simp; omega
theorem ustep_in {p : List Int} {b : Int} (hp : inK .u8 p) (hb : 0 ≤ b ∧ b ≤ 255) (hl : p.length ≤ 1000000) : inK .u8 (ustep p b).1 := by
  unfold ustep
  split
  · exact ustepA_in hb
  · split
    · exact inK_nil _
    · split
      · exact hp.append (inK_u8 (by simp) (by simpa using hb)) (by simp; omega)
      · exact ustepA_in hb
theorem ustep_pl (p : List Int) (b : Int) : (ustep p b).1.length ≤ 3 := by
  have h0 : (ustepA [] b).1.length ≤ 3 := by unfold ustepA; split <;> (try split) <;> simp
  unfold ustep
  split
  · exact h0
  · split
    · simp
    · split
      · rename_i h; have := ubeg_len h; show (p ++ [b]).length ≤ 3; omega
      · exact h0
theorem uallF_take {l : List Int} (h : inK .u8 l) : ∀ i, i ≤ l.length → inK .u8 (uallF (l.take i)).2 ∧ (uallF (l.take i)).2.length ≤ 3 ∧ (uallF (l.take i)).1.length ≤ 2 * i
  | 0, _ => ⟨inK_nil _, by simp [uallF], by simp [uallF]⟩
  | i + 1, hi => by
    have hb : 0 ≤ l[i] ∧ l[i] ≤ 255 := h.u8 (List.getElem_mem (by omega))
    obtain ⟨h1, h2, h3⟩ := uallF_take h i (by omega)
    rw [List.take_succ_eq_append_getElem (by omega), uallF_snoc]
    have h4 := ustep_len (uallF (l.take i)).2 l[i]
    exact ⟨ustep_in h1 hb (by omega), ustep_pl _ _, by simp; omega⟩

theorem uall_P {sz : Nat} {k_l : SK} {l : List Int} (hs : sz = 1 ∨ l = []) (hk : inK .u8 l) (hl : l.length ≤ 10000000) :
    PCalls PG 14 [.sl sz (intRows .u8 l) k_l] fun n r os => r = .tup [.sl 1 (intRows .i32 (uallF l).1) .any, .sl 1 (intRows .u8 (uallF l).2) .any] ∧ os = [] := by
  refine PCalls.by_fn (res := fun n => (.tup [.sl 1 (intRows .i32 (uallF l).1) .any, .sl 1 (intRows .u8 (uallF l).2) .any], [])) T6_ok rc_uall_ok (by simp [rc_uall]) fun n => ?_
  unfold rc_uall
  dsimp only
  simp -implicitDefEqProofs only [tab_cons, vcA1, vcA2, vcA3, vcA4, vcA5, vcA6, vcA7, ↓vcP1, ↓vcP2, ↓reduceIte, Option.map_some, Option.map_none, Option.bind_some, Option.bind_none, if_true, if_false, reduceCtorEq, beq_true, beq_false, Bool.not_true, Bool.not_false, BEq.rfl, Bool.true_beq, Bool.false_beq, and_true, true_and, and_self, decide_true, decide_false, List.length_cons, List.length_nil, List.all_cons, List.all_nil, Bool.and_true, Bool.and_self, List.getElem?_cons_zero, List.getElem?_cons_succ, List.set_cons_zero, List.set_cons_succ, List.nil_append, List.cons_append, List.append_nil, List.map_cons, List.map_nil, not_true_eq_false, not_false_eq_true, false_implies, true_implies, implies_true, List.take_succ_cons, List.take_zero, List.take_nil, List.drop_succ_cons, List.drop_zero, List.drop_nil, Nat.reduceLT, Nat.reduceLeDiff, Nat.reduceEqDiff, Nat.reduceAdd, Nat.reduceSub, Nat.reduceMul, Int.reduceLT, Int.reduceLE, Int.reduceEq, Int.reduceToNat, Int.reduceAdd, Int.reduceSub, Int.reduceNeg, List.reduceReplicate, List.replicate_zero, List.replicate_succ, ne_eq, List.flatMap_cons, List.flatMap_nil, List.length_replicate, List.length_append, Nat.le_refl, Nat.le_add_right, Nat.add_assoc, List.append_assoc, or_true, true_or, or_false, false_or, and_false, false_and, exists_eq_left, exists_eq_left', Option.some.injEq, DV.int.injEq, DV.bool.injEq, DV.sl.injEq, DV.own.injEq, DV.tup.injEq, List.cons.injEq, Ob.arr.injEq, Ob.box.injEq, Option.map_map, Int.toNat_natCast, Int.toNat_zero, Nat.reducePow, Int.toNat_one, Int.reduceMul, Nat.mul_one, Nat.zero_add, Nat.add_zero, Function.comp_apply, List.map_append, List.map_replicate, Int.cast_ofNat_Int, Nat.left_eq_add, Nat.add_eq_left, Nat.add_left_cancel_iff]
  refine LoopWp.inv T6_ok (S := fun i : Nat => match i with
    | 0 => ⟨[(4, .sl 0 [] .nil), (5, .sl 1 (intRows .u8 (uallF (l.take 0)).2) .any), (9, .sl sz (intRows .u8 l) k_l), (10, .int .i64 l.length), (11, .int .i64 0)], List.replicate n none⟩
    | i + 1 => ⟨[(4, .own (n + i) 0 (uallF (l.take (i + 1))).1.length), (5, .sl 1 (intRows .u8 (uallF (l.take (i + 1))).2) .any), (9, .sl sz (intRows .u8 l) k_l), (10, .int .i64 l.length), (11, .int .i64 (i + 1))],
        List.replicate (n + i) none ++ [some (.arr 1 (intRows .i32 (uallF (l.take (i + 1))).1))]⟩) (I := fun i => i ≤ l.length) (μ := fun i => l.length - i) 0 (by omega) ?_ ?_
  · dsimp only
    simp -implicitDefEqProofs only [List.take_zero, vcA1, vcA2, vcA3, vcA4, vcA5, vcA6, vcA7, ↓vcP1, ↓vcP2, ↓reduceIte, Option.map_some, Option.map_none, Option.bind_some, Option.bind_none, if_true, if_false, reduceCtorEq, beq_true, beq_false, Bool.not_true, Bool.not_false, BEq.rfl, Bool.true_beq, Bool.false_beq, and_true, true_and, and_self, decide_true, decide_false, List.length_cons, List.length_nil, List.all_cons, List.all_nil, Bool.and_true, Bool.and_self, List.getElem?_cons_zero, List.getElem?_cons_succ, List.set_cons_zero, List.set_cons_succ, List.nil_append, List.cons_append, List.append_nil, List.map_cons, List.map_nil, not_true_eq_false, not_false_eq_true, false_implies, true_implies, implies_true, List.take_succ_cons, List.take_zero, List.take_nil, List.drop_succ_cons, List.drop_zero, List.drop_nil, Nat.reduceLT, Nat.reduceLeDiff, Nat.reduceEqDiff, Nat.reduceAdd, Nat.reduceSub, Nat.reduceMul, Int.reduceLT, Int.reduceLE, Int.reduceEq, Int.reduceToNat, Int.reduceAdd, Int.reduceSub, Int.reduceNeg, List.reduceReplicate, List.replicate_zero, List.replicate_succ, ne_eq, List.flatMap_cons, List.flatMap_nil, List.length_replicate, List.length_append, Nat.le_refl, Nat.le_add_right, Nat.add_assoc, List.append_assoc, or_true, true_or, or_false, false_or, and_false, false_and, exists_eq_left, exists_eq_left', Option.some.injEq, DV.int.injEq, DV.bool.injEq, DV.sl.injEq, DV.own.injEq, DV.tup.injEq, List.cons.injEq, Ob.arr.injEq, Ob.box.injEq, Option.map_map, Int.toNat_natCast, Int.toNat_zero, Nat.reducePow, Int.toNat_one, Int.reduceMul, Nat.mul_one, Nat.zero_add, Nat.add_zero, Function.comp_apply, List.map_append, List.map_replicate, Int.cast_ofNat_Int, Nat.left_eq_add, Nat.add_eq_left, Nat.add_left_cancel_iff]
    rfl
  · intro i hi
    unfold rc_uall_l0 T6 T5
    obtain ⟨g1, g2, g3⟩ := uallF_take hk i hi
    have hw : ∀ i : Nat, i < l.length → IntKind.i64.wrap ((i : Int) + 1) = (i : Int) + 1 := fun i h => wI64 (by omega) (by omega)
    have hgd : ∀ i (h : i < l.length), l.getD i 0 = l[i] := fun i h => by rw [List.getD_eq_getElem?_getD, List.getElem?_eq_getElem h]; rfl
    cases i with
    | zero =>
      dsimp only
      simp -implicitDefEqProofs only [tab_cons, F_step_1, isInts_sl, ints_intRows, vcA1, vcA2, vcA3, vcA4, vcA5, vcA6, vcA7, ↓vcP1, ↓vcP2, ↓reduceIte, Option.map_some, Option.map_none, Option.bind_some, Option.bind_none, if_true, if_false, reduceCtorEq, beq_true, beq_false, Bool.not_true, Bool.not_false, BEq.rfl, Bool.true_beq, Bool.false_beq, and_true, true_and, and_self, decide_true, decide_false, List.length_cons, List.length_nil, List.all_cons, List.all_nil, Bool.and_true, Bool.and_self, List.getElem?_cons_zero, List.getElem?_cons_succ, List.set_cons_zero, List.set_cons_succ, List.nil_append, List.cons_append, List.append_nil, List.map_cons, List.map_nil, not_true_eq_false, not_false_eq_true, false_implies, true_implies, implies_true, List.take_succ_cons, List.take_zero, List.take_nil, List.drop_succ_cons, List.drop_zero, List.drop_nil, Nat.reduceLT, Nat.reduceLeDiff, Nat.reduceEqDiff, Nat.reduceAdd, Nat.reduceSub, Nat.reduceMul, Int.reduceLT, Int.reduceLE, Int.reduceEq, Int.reduceToNat, Int.reduceAdd, Int.reduceSub, Int.reduceNeg, List.reduceReplicate, List.replicate_zero, List.replicate_succ, ne_eq, List.flatMap_cons, List.flatMap_nil, List.length_replicate, List.length_append, Nat.le_refl, Nat.le_add_right, Nat.add_assoc, List.append_assoc, or_true, true_or, or_false, false_or, and_false, false_and, exists_eq_left, exists_eq_left', Option.some.injEq, DV.int.injEq, DV.bool.injEq, DV.sl.injEq, DV.own.injEq, DV.tup.injEq, List.cons.injEq, Ob.arr.injEq, Ob.box.injEq, Option.map_map, Int.toNat_natCast, Int.toNat_zero, Nat.reducePow, Int.toNat_one, Int.reduceMul, Nat.mul_one, Nat.zero_add, Nat.add_zero, Function.comp_apply, List.map_append, List.map_replicate, Int.cast_ofNat_Int, Nat.left_eq_add, Nat.add_eq_left, Nat.add_left_cancel_iff]
      refine ⟨fun h => ?_, fun h => ?_⟩
      · have h0 : 0 < l.length := by omega
        have hsz : sz = 1 := hs.resolve_right fun e => by simp [e] at h0
        have hb := hk.u8 (List.getElem_mem h0)
        have e : uallF (l.take (0 + 1)) = ((ustep [] l[0]).2, (ustep [] l[0]).1) := by
          rw [List.take_succ_eq_append_getElem h0, uallF_snoc]
          simp [uallF]
        have h2 := ustep_len [] l[0]
        have e0 : (uallF []).2 = [] := rfl
        rw [hgd 0 h0, e0]
        refine ⟨⟨h, hsz⟩, h0, ⟨inK_nil _, by simp, hb⟩, ⟨by omega, by omega⟩, 0 + 1, ?_, by omega, by omega⟩
        dsimp only
        have hw0 : IntKind.i64.wrap 1 = 1 := rfl
        simp -implicitDefEqProofs only [e, hw0, vcA1, vcA2, vcA3, vcA4, vcA5, vcA6, vcA7, ↓vcP1, ↓vcP2, ↓reduceIte, Option.map_some, Option.map_none, Option.bind_some, Option.bind_none, if_true, if_false, reduceCtorEq, beq_true, beq_false, Bool.not_true, Bool.not_false, BEq.rfl, Bool.true_beq, Bool.false_beq, and_true, true_and, and_self, decide_true, decide_false, List.length_cons, List.length_nil, List.all_cons, List.all_nil, Bool.and_true, Bool.and_self, List.getElem?_cons_zero, List.getElem?_cons_succ, List.set_cons_zero, List.set_cons_succ, List.nil_append, List.cons_append, List.append_nil, List.map_cons, List.map_nil, not_true_eq_false, not_false_eq_true, false_implies, true_implies, implies_true, List.take_succ_cons, List.take_zero, List.take_nil, List.drop_succ_cons, List.drop_zero, List.drop_nil, Nat.reduceLT, Nat.reduceLeDiff, Nat.reduceEqDiff, Nat.reduceAdd, Nat.reduceSub, Nat.reduceMul, Int.reduceLT, Int.reduceLE, Int.reduceEq, Int.reduceToNat, Int.reduceAdd, Int.reduceSub, Int.reduceNeg, List.reduceReplicate, List.replicate_zero, List.replicate_succ, ne_eq, List.flatMap_cons, List.flatMap_nil, List.length_replicate, List.length_append, Nat.le_refl, Nat.le_add_right, Nat.add_assoc, List.append_assoc, or_true, true_or, or_false, false_or, and_false, false_and, exists_eq_left, exists_eq_left', Option.some.injEq, DV.int.injEq, DV.bool.injEq, DV.sl.injEq, DV.own.injEq, DV.tup.injEq, List.cons.injEq, Ob.arr.injEq, Ob.box.injEq, Option.map_map, Int.toNat_natCast, Int.toNat_zero, Nat.reducePow, Int.toNat_one, Int.reduceMul, Nat.mul_one, Nat.zero_add, Nat.add_zero, Function.comp_apply, List.map_append, List.map_replicate, Int.cast_ofNat_Int, Nat.left_eq_add, Nat.add_eq_left, Nat.add_left_cancel_iff]
      · have : l = [] := List.eq_nil_of_length_eq_zero (by omega)
        subst this
        exact ⟨rfl, rfl⟩
    | succ i =>
      dsimp only
      simp -implicitDefEqProofs only [tab_cons, F_step_1, isInts_sl, ints_intRows, vcA1, vcA2, vcA3, vcA4, vcA5, vcA6, vcA7, ↓vcP1, ↓vcP2, ↓reduceIte, Option.map_some, Option.map_none, Option.bind_some, Option.bind_none, if_true, if_false, reduceCtorEq, beq_true, beq_false, Bool.not_true, Bool.not_false, BEq.rfl, Bool.true_beq, Bool.false_beq, and_true, true_and, and_self, decide_true, decide_false, List.length_cons, List.length_nil, List.all_cons, List.all_nil, Bool.and_true, Bool.and_self, List.getElem?_cons_zero, List.getElem?_cons_succ, List.set_cons_zero, List.set_cons_succ, List.nil_append, List.cons_append, List.append_nil, List.map_cons, List.map_nil, not_true_eq_false, not_false_eq_true, false_implies, true_implies, implies_true, List.take_succ_cons, List.take_zero, List.take_nil, List.drop_succ_cons, List.drop_zero, List.drop_nil, Nat.reduceLT, Nat.reduceLeDiff, Nat.reduceEqDiff, Nat.reduceAdd, Nat.reduceSub, Nat.reduceMul, Int.reduceLT, Int.reduceLE, Int.reduceEq, Int.reduceToNat, Int.reduceAdd, Int.reduceSub, Int.reduceNeg, List.reduceReplicate, List.replicate_zero, List.replicate_succ, ne_eq, List.flatMap_cons, List.flatMap_nil, List.length_replicate, List.length_append, Nat.le_refl, Nat.le_add_right, Nat.add_assoc, List.append_assoc, or_true, true_or, or_false, false_or, and_false, false_and, exists_eq_left, exists_eq_left', Option.some.injEq, DV.int.injEq, DV.bool.injEq, DV.sl.injEq, DV.own.injEq, DV.tup.injEq, List.cons.injEq, Ob.arr.injEq, Ob.box.injEq, Option.map_map, Int.toNat_natCast, Int.toNat_zero, Nat.reducePow, Int.toNat_one, Int.reduceMul, Nat.mul_one, Nat.zero_add, Nat.add_zero, Function.comp_apply, List.map_append, List.map_replicate, Int.cast_ofNat_Int, Nat.left_eq_add, Nat.add_eq_left, Nat.add_left_cancel_iff]
      have hti : ((i : Int) + 1).toNat = i + 1 := by omega
      rw [hti]
      refine ⟨fun h => ?_, fun h => ?_⟩
      · have h0 : i + 1 < l.length := by omega
        have hsz : sz = 1 := hs.resolve_right fun e => by simp [e] at h0
        have hb := hk.u8 (List.getElem_mem h0)
        have e : uallF (l.take (i + 1 + 1)) = ((uallF (l.take (i + 1))).1 ++ (ustep (uallF (l.take (i + 1))).2 l[i + 1]).2, (ustep (uallF (l.take (i + 1))).2 l[i + 1]).1) := by
          rw [List.take_succ_eq_append_getElem h0, uallF_snoc]
        have h2 := ustep_len (uallF (l.take (i + 1))).2 l[i + 1]
        rw [hgd (i + 1) h0]
        refine ⟨⟨by omega, h, hsz⟩, h0, ⟨g1, by omega, hb⟩, ⟨by omega, by omega⟩, i + 1 + 1, ?_, by omega, by omega⟩
        dsimp only
        have hw0 := hw (i + 1) h0
        simp -implicitDefEqProofs only [e, vcA1, vcA2, vcA3, vcA4, vcA5, vcA6, vcA7, ↓vcP1, ↓vcP2, ↓reduceIte, Option.map_some, Option.map_none, Option.bind_some, Option.bind_none, if_true, if_false, reduceCtorEq, beq_true, beq_false, Bool.not_true, Bool.not_false, BEq.rfl, Bool.true_beq, Bool.false_beq, and_true, true_and, and_self, decide_true, decide_false, List.length_cons, List.length_nil, List.all_cons, List.all_nil, Bool.and_true, Bool.and_self, List.getElem?_cons_zero, List.getElem?_cons_succ, List.set_cons_zero, List.set_cons_succ, List.nil_append, List.cons_append, List.append_nil, List.map_cons, List.map_nil, not_true_eq_false, not_false_eq_true, false_implies, true_implies, implies_true, List.take_succ_cons, List.take_zero, List.take_nil, List.drop_succ_cons, List.drop_zero, List.drop_nil, Nat.reduceLT, Nat.reduceLeDiff, Nat.reduceEqDiff, Nat.reduceAdd, Nat.reduceSub, Nat.reduceMul, Int.reduceLT, Int.reduceLE, Int.reduceEq, Int.reduceToNat, Int.reduceAdd, Int.reduceSub, Int.reduceNeg, List.reduceReplicate, List.replicate_zero, List.replicate_succ, ne_eq, List.flatMap_cons, List.flatMap_nil, List.length_replicate, List.length_append, Nat.le_refl, Nat.le_add_right, Nat.add_assoc, List.append_assoc, or_true, true_or, or_false, false_or, and_false, false_and, exists_eq_left, exists_eq_left', Option.some.injEq, DV.int.injEq, DV.bool.injEq, DV.sl.injEq, DV.own.injEq, DV.tup.injEq, List.cons.injEq, Ob.arr.injEq, Ob.box.injEq, Option.map_map, Int.toNat_natCast, Int.toNat_zero, Nat.reducePow, Int.toNat_one, Int.reduceMul, Nat.mul_one, Nat.zero_add, Nat.add_zero, Function.comp_apply, List.map_append, List.map_replicate, Int.cast_ofNat_Int, Nat.left_eq_add, Nat.add_eq_left, Nat.add_left_cancel_iff]
        refine ⟨by rw [wI64] <;> omega, ?_⟩
        exact objsWk_RO (n := n + i) (m := 1) (l := [none]) (objsWk_refl _) rfl
      · rw [List.take_length, List.take_of_length_le (show l.length ≤ i + 1 by omega)]
        exact ⟨rfl, rfl⟩

end Go.Proofs.YteemmpghpdaloaaDoor
end
section
/- The document's functions of chapter 3. -/
set_option linter.unusedVariables false
set_option linter.unusedSimpArgs false
set_option maxRecDepth 10000
namespace Go.Proofs.YteemmpghpdaloaaDoor
open Go.RowKit

noncomputable def rc_rbegins_l0 : RC := (.seq (.seq (.reg [⟨(some 39), (.mov (.t 4)), none, false⟩, ⟨(some 40), (.mov (.t 0)), none, false⟩, ⟨(some 41), (.len (.t 40)), none, false⟩, ⟨(some 42), (.bin .lss (.t 39) (.t 41)), none, false⟩] 0 [0, 4, 42]) (.cond (.t 42) .skip (.ext 0))) (.seq (.blk 1 (.seq (.reg [⟨(some 45), (.mov (.t 0)), none, false⟩, ⟨(some 46), (.mov (.t 4)), none, false⟩, ⟨(some 47), (.iaddr 1 (.t 45) (.t 46)), none, false⟩, ⟨(some 48), (.load false 1 (.t 47)), none, false⟩, ⟨(some 49), (.bin .and (.t 48) (.c (.int .u8 192))), none, false⟩, ⟨(some 50), (.bin .neq (.t 49) (.c (.int .u8 128))), none, false⟩] 0 [0, 4, 50]) (.cond (.t 50) (.seq (.reg [⟨(some 2), (.mov (.c (.bool false))), none, false⟩] 0 [2]) .ret) .skip))) (.reg [⟨(some 43), (.mov (.t 4)), none, false⟩, ⟨(some 44), (.bin .add (.t 43) (.c (.int .i64 1))), none, false⟩, ⟨(some 4), (.mov (.t 44)), none, false⟩] 0 [0, 4])))
noncomputable def rc_rbegins : RFn := ⟨1, 77, (.seq (.reg [⟨(some 2), (.mov (.c (.bool false))), none, false⟩] 0 [0]) (.seq (.seq (.reg [⟨(some 7), (.mov (.t 0)), none, false⟩, ⟨(some 8), (.len (.t 7)), none, false⟩, ⟨(some 9), (.bin .lss (.t 8) (.c (.int .i64 1))), none, false⟩, ⟨(some 10), (.mov (.t 9)), none, false⟩, ⟨(some 11), (.mov (.t 0)), (some (10, false)), false⟩, ⟨(some 12), (.len (.t 11)), (some (10, false)), false⟩, ⟨(some 13), (.bin .gtr (.t 12) (.c (.int .i64 3))), (some (10, false)), false⟩, ⟨(some 14), (.pick (.t 10) (.c (.bool true)) (.t 13)), none, false⟩, ⟨(some 15), (.mov (.t 14)), none, false⟩, ⟨(some 16), (.mov (.t 0)), (some (15, false)), false⟩, ⟨(some 17), (.iaddr 1 (.t 16) (.c (.int .i64 0))), (some (15, false)), false⟩, ⟨(some 18), (.load false 1 (.t 17)), (some (15, false)), false⟩, ⟨(some 19), (.bin .lss (.t 18) (.c (.int .u8 194))), (some (15, false)), false⟩, ⟨(some 20), (.pick (.t 15) (.c (.bool true)) (.t 19)), none, false⟩, ⟨(some 21), (.mov (.t 20)), none, false⟩, ⟨(some 22), (.mov (.t 0)), (some (21, false)), false⟩, ⟨(some 23), (.iaddr 1 (.t 22) (.c (.int .i64 0))), (some (21, false)), false⟩, ⟨(some 24), (.load false 1 (.t 23)), (some (21, false)), false⟩, ⟨(some 25), (.bin .gtr (.t 24) (.c (.int .u8 244))), (some (21, false)), false⟩, ⟨(some 26), (.pick (.t 21) (.c (.bool true)) (.t 25)), none, false⟩] 0 [0, 26]) (.cond (.t 26) (.seq (.reg [⟨(some 2), (.mov (.c (.bool false))), none, false⟩] 0 [2]) .ret) .skip)) (.seq (.reg [⟨(some 3), (.mov (.c (.int .i64 2))), none, false⟩] 0 [0, 3]) (.seq (.seq (.reg [⟨(some 27), (.mov (.t 0)), none, false⟩, ⟨(some 28), (.iaddr 1 (.t 27) (.c (.int .i64 0))), none, false⟩, ⟨(some 29), (.load false 1 (.t 28)), none, false⟩, ⟨(some 30), (.bin .geq (.t 29) (.c (.int .u8 224))), none, false⟩] 0 [0, 3, 30]) (.cond (.t 30) (.reg [⟨(some 3), (.mov (.c (.int .i64 3))), none, false⟩] 0 [0, 3]) .skip)) (.seq (.seq (.reg [⟨(some 31), (.mov (.t 0)), none, false⟩, ⟨(some 32), (.iaddr 1 (.t 31) (.c (.int .i64 0))), none, false⟩, ⟨(some 33), (.load false 1 (.t 32)), none, false⟩, ⟨(some 34), (.bin .geq (.t 33) (.c (.int .u8 240))), none, false⟩] 0 [0, 3, 34]) (.cond (.t 34) (.reg [⟨(some 3), (.mov (.c (.int .i64 4))), none, false⟩] 0 [0, 3]) .skip)) (.seq (.seq (.reg [⟨(some 35), (.mov (.t 0)), none, false⟩, ⟨(some 36), (.len (.t 35)), none, false⟩, ⟨(some 37), (.mov (.t 3)), none, false⟩, ⟨(some 38), (.bin .geq (.t 36) (.t 37)), none, false⟩] 0 [0, 38]) (.cond (.t 38) (.seq (.reg [⟨(some 2), (.mov (.c (.bool false))), none, false⟩] 0 [2]) .ret) .skip)) (.seq (.seq (.reg [⟨(some 4), (.mov (.c (.int .i64 1))), none, false⟩] 0 [0, 4]) (.blk 0 (.loop rc_rbegins_l0))) (.seq (.seq (.reg [⟨(some 51), (.mov (.t 0)), none, false⟩, ⟨(some 52), (.len (.t 51)), none, false⟩, ⟨(some 53), (.bin .eql (.t 52) (.c (.int .i64 1))), none, false⟩] 0 [0, 53]) (.cond (.t 53) (.seq (.reg [⟨(some 2), (.mov (.c (.bool true))), none, false⟩] 0 [2]) .ret) .skip)) (.seq (.reg [⟨(some 5), (.mov (.c (.int .u8 128))), none, false⟩, ⟨(some 6), (.mov (.c (.int .u8 191))), none, false⟩] 0 [0, 5, 6]) (.seq (.seq (.reg [⟨(some 54), (.mov (.t 0)), none, false⟩, ⟨(some 55), (.iaddr 1 (.t 54) (.c (.int .i64 0))), none, false⟩, ⟨(some 56), (.load false 1 (.t 55)), none, false⟩] 0 [0, 5, 6, 56]) (.blk 2 (.seq (.reg [⟨(some 58), (.bin .eql (.t 56) (.c (.int .u8 224))), none, false⟩, ⟨(some 57), (.mov (.t 58)), none, false⟩] 0 [0, 5, 6, 56, 57]) (.cond (.t 57) (.reg [⟨(some 5), (.mov (.c (.int .u8 160))), none, false⟩] 0 [0, 5, 6]) (.seq (.reg [⟨(some 60), (.bin .eql (.t 56) (.c (.int .u8 237))), none, false⟩, ⟨(some 59), (.mov (.t 60)), none, false⟩] 0 [0, 5, 6, 56, 59]) (.cond (.t 59) (.reg [⟨(some 6), (.mov (.c (.int .u8 159))), none, false⟩] 0 [0, 5, 6]) (.seq (.reg [⟨(some 62), (.bin .eql (.t 56) (.c (.int .u8 240))), none, false⟩, ⟨(some 61), (.mov (.t 62)), none, false⟩] 0 [0, 5, 6, 56, 61]) (.cond (.t 61) (.reg [⟨(some 5), (.mov (.c (.int .u8 144))), none, false⟩] 0 [0, 5, 6]) (.seq (.reg [⟨(some 64), (.bin .eql (.t 56) (.c (.int .u8 244))), none, false⟩, ⟨(some 63), (.mov (.t 64)), none, false⟩] 0 [0, 5, 6, 63]) (.cond (.t 63) (.reg [⟨(some 6), (.mov (.c (.int .u8 143))), none, false⟩] 0 [0, 5, 6]) .skip)))))))))) (.seq (.reg [⟨(some 65), (.mov (.t 0)), none, false⟩, ⟨(some 66), (.iaddr 1 (.t 65) (.c (.int .i64 1))), none, false⟩, ⟨(some 67), (.load false 1 (.t 66)), none, false⟩, ⟨(some 68), (.mov (.t 5)), none, false⟩, ⟨(some 69), (.bin .geq (.t 67) (.t 68)), none, false⟩, ⟨(some 70), (.mov (.t 69)), none, false⟩, ⟨(some 71), (.mov (.t 0)), (some (70, true)), false⟩, ⟨(some 72), (.iaddr 1 (.t 71) (.c (.int .i64 1))), (some (70, true)), false⟩, ⟨(some 73), (.load false 1 (.t 72)), (some (70, true)), false⟩, ⟨(some 74), (.mov (.t 6)), (some (70, true)), false⟩, ⟨(some 75), (.bin .leq (.t 73) (.t 74)), (some (70, true)), false⟩, ⟨(some 76), (.pick (.t 70) (.t 75) (.c (.bool false))), none, false⟩, ⟨(some 2), (.mov (.t 76)), none, false⟩] 0 [2]) .ret))))))))))), [(.t 2)]⟩
theorem rc_rbegins_ok : compFn PG.P [⟨0, 0, [0], []⟩, ⟨1, 0, [0, 26], []⟩, ⟨2, 0, [2], []⟩, ⟨3, 0, [0, 3], []⟩, ⟨4, 0, [0, 3, 30], []⟩, ⟨5, 0, [0, 3], []⟩, ⟨6, 0, [0, 3, 34], []⟩, ⟨7, 0, [0, 3], []⟩, ⟨8, 0, [0, 38], []⟩, ⟨9, 0, [2], []⟩, ⟨10, 0, [0, 4], []⟩, ⟨11, 0, [0, 4, 42], []⟩, ⟨12, 0, [0, 4], []⟩, ⟨13, 0, [0, 4, 50], []⟩, ⟨14, 0, [2], []⟩, ⟨15, 0, [0, 53], []⟩, ⟨16, 0, [2], []⟩, ⟨17, 0, [0, 5, 6], []⟩, ⟨18, 0, [0, 5, 6, 56], []⟩, ⟨19, 0, [0, 5, 6, 56, 57], []⟩, ⟨20, 0, [0, 5, 6], []⟩, ⟨21, 0, [0, 5, 6, 56, 59], []⟩, ⟨22, 0, [0, 5, 6], []⟩, ⟨23, 0, [0, 5, 6, 56, 61], []⟩, ⟨24, 0, [0, 5, 6], []⟩, ⟨25, 0, [0, 5, 6, 63], []⟩, ⟨26, 0, [0, 5, 6], []⟩, ⟨27, 0, [2], []⟩] 20 = some rc_rbegins := by kernel_rfl

/-- The document's 'Begins'. -/
def rlo (b : Int) : Int := if b = 224 then 160 else if b = 240 then 144 else 128
def rhi (b : Int) : Int := if b = 237 then 159 else if b = 244 then 143 else 191
def rnum (b : Int) : Int := if 240 ≤ b then 4 else if 224 ≤ b then 3 else 2
def cont (l : List Int) : Prop := ∀ i, 1 ≤ i → i < l.length → 128 ≤ l.getD i 0 ∧ l.getD i 0 < 192
theorem rbegins_P {sz : Nat} {k_l : SK} {l : List Int} (hs : sz = 1 ∨ l = []) (hk : inK .u8 l) :
    PCalls PG 20 [.sl sz (intRows .u8 l) k_l] fun n r os => r = .bool (ubeg l) ∧ os = [] := by
  refine PCalls.by_fn (res := fun n => (.bool (ubeg l), [])) T6_ok rc_rbegins_ok (by simp [rc_rbegins]) fun n => ?_
  unfold rc_rbegins
  dsimp only
  simp -implicitDefEqProofs only [tab_cons, vcA1, vcA2, vcA3, vcA4, vcA5, vcA6, vcA7, ↓vcP1, ↓vcP2, ↓reduceIte, Option.map_some, Option.map_none, Option.bind_some, Option.bind_none, if_true, if_false, reduceCtorEq, beq_true, beq_false, Bool.not_true, Bool.not_false, BEq.rfl, Bool.true_beq, Bool.false_beq, and_true, true_and, and_self, decide_true, decide_false, List.length_cons, List.length_nil, List.all_cons, List.all_nil, Bool.and_true, Bool.and_self, List.getElem?_cons_zero, List.getElem?_cons_succ, List.set_cons_zero, List.set_cons_succ, List.nil_append, List.cons_append, List.append_nil, List.map_cons, List.map_nil, not_true_eq_false, not_false_eq_true, false_implies, true_implies, implies_true, List.take_succ_cons, List.take_zero, List.take_nil, List.drop_succ_cons, List.drop_zero, List.drop_nil, Nat.reduceLT, Nat.reduceLeDiff, Nat.reduceEqDiff, Nat.reduceAdd, Nat.reduceSub, Nat.reduceMul, Int.reduceLT, Int.reduceLE, Int.reduceEq, Int.reduceToNat, Int.reduceAdd, Int.reduceSub, Int.reduceNeg, List.reduceReplicate, List.replicate_zero, List.replicate_succ, ne_eq, List.flatMap_cons, List.flatMap_nil, List.length_replicate, List.length_append, Nat.le_refl, Nat.le_add_right, Nat.add_assoc, List.append_assoc, or_true, true_or, or_false, false_or, and_false, false_and, exists_eq_left, exists_eq_left', Option.some.injEq, DV.int.injEq, DV.bool.injEq, DV.sl.injEq, DV.own.injEq, DV.tup.injEq, List.cons.injEq, Ob.arr.injEq, Ob.box.injEq, Option.map_map, Int.toNat_natCast, Int.toNat_zero, Nat.reducePow, Int.toNat_one, Int.reduceMul, Nat.mul_one, Nat.zero_add, Nat.add_zero, Function.comp_apply, List.map_append, List.map_replicate, Int.cast_ofNat_Int, Nat.left_eq_add, Nat.add_eq_left, Nat.add_left_cancel_iff]
  by_cases h0 : l.length = 0
  · have : ubeg l = false := by simp [ubeg, h0]
    simp [h0, this]
  have hsz : sz = 1 := hs.resolve_right fun e => h0 (by simp [e])
  have hb0 : ∀ i, i < l.length → 0 ≤ l.getD i 0 ∧ l.getD i 0 ≤ 255 := fun i hi => by
    rw [List.getD_eq_getElem?_getD, List.getElem?_eq_getElem hi]
    exact hk.u8 (List.getElem_mem hi)
  have hl0 : 0 < l.length := by omega
  have hbad : firstF (l.getD 0 0) = 241 → ubeg l = false := fun hf => by
    have : full l = true := by
      unfold full
      rw [if_neg h0, hf, if_pos (by omega)]
    simp [ubeg, this]
  refine ⟨fun h => by omega, fun _ => ⟨fun h => ?_, fun h3 => ⟨⟨by omega, hsz⟩, hl0, fun h => ?_, fun h194 => ⟨⟨by omega, hsz⟩, hl0, fun h => ?_, fun h244 => ⟨⟨by omega, hsz⟩, hl0, ?_⟩⟩⟩⟩⟩
  · simp [ubeg, show ¬ l.length < 4 by omega]
  · by_cases hs : l.getD 0 0 < 128
    · have : ubeg l = false := by simp only [ubeg, decide_eq_false (show ¬ 128 ≤ l.getD 0 0 by omega), Bool.and_false, Bool.false_and]
      rw [this]
    · exact (hbad (by unfold firstF; rw [if_neg hs, if_pos h])).symm
  · exact (hbad (by unfold firstF; repeat (first | rw [if_neg (by omega)] | rfl))).symm
  have hnum : firstF (l.getD 0 0) % 8 = rnum (l.getD 0 0) := by
    unfold firstF rnum
    repeat (first | rw [if_neg (by omega)] | split | rfl | omega)
  have hfull : rnum (l.getD 0 0) ≤ (l.length : Int) → false = ubeg l := fun h => by
    have : full l = true := by
      unfold full
      rw [if_neg h0, hnum, if_pos h]
    simp [ubeg, this]
  have r4 : 240 ≤ l.getD 0 0 → rnum (l.getD 0 0) = 4 := fun h => by unfold rnum; rw [if_pos h]
  have r3 : ¬ 240 ≤ l.getD 0 0 → 224 ≤ l.getD 0 0 → rnum (l.getD 0 0) = 3 := fun h h2 => by unfold rnum; rw [if_neg h, if_pos h2]
  have r2 : ¬ 224 ≤ l.getD 0 0 → rnum (l.getD 0 0) = 2 := fun h => by unfold rnum; rw [if_neg (by omega), if_neg h]
  have hlo : accLo (firstF (l.getD 0 0) / 16) = rlo (l.getD 0 0) ∧ accHi (firstF (l.getD 0 0) / 16) = rhi (l.getD 0 0) := by
    have hd : l.getD 0 0 < 224 ∨ l.getD 0 0 = 224 ∨ (224 < l.getD 0 0 ∧ l.getD 0 0 < 237) ∨ l.getD 0 0 = 237 ∨ (237 < l.getD 0 0 ∧ l.getD 0 0 < 240) ∨ l.getD 0 0 = 240 ∨ (240 < l.getD 0 0 ∧ l.getD 0 0 < 244) ∨ l.getD 0 0 = 244 := by omega
    generalize l.getD 0 0 = b at hd h194 ⊢
    unfold firstF rlo rhi
    rcases hd with h | h | h | h | h | h | h | h <;> (repeat (first | rw [if_neg (by omega)] | rw [if_pos (by omega)])) <;> (first | exact ⟨rfl, rfl⟩ | (constructor <;> (repeat (first | rw [if_neg (by omega)] | rw [if_pos (by omega)])) <;> rfl))
  have hU : (l.length : Int) < rnum (l.getD 0 0) → ubeg l = decide (¬ (1 < l.length ∧ (l.getD 1 0 < rlo (l.getD 0 0) ∨ rhi (l.getD 0 0) < l.getD 1 0)) ∧ ¬ (2 < l.length ∧ (l.getD 2 0 < 128 ∨ 191 < l.getD 2 0))) := fun h => by
    have e1 : decide (0 < l.length) = true := by simp; omega
    have e2 : decide (l.length < 4) = true := by simp; omega
    have e3 : decide (128 ≤ l.getD 0 0) = true := by simp only [decide_eq_true_eq]; omega
    unfold ubeg full
    rw [e1, e2, e3, if_neg h0, hnum, if_neg (by omega), hlo.1, hlo.2]
    split
    · rename_i h5; simp only [h5]; simp
    · rename_i h5
      split
      · rename_i h6; simp only [h6]; simp
      · rename_i h6; simp only [h5, h6]; simp
  refine ⟨fun h2 => ⟨⟨by omega, hsz⟩, hl0, fun h4 => ⟨fun h => hfull (by rw [r4 h4]; exact h), fun hL => ?_⟩, fun h4 => ⟨fun h => hfull (by rw [r3 h4 h2]; exact h), fun hL => ?_⟩⟩, fun h2 => ⟨⟨by omega, hsz⟩, hl0, fun h4 => by omega, fun h4 => ⟨fun h => hfull (by rw [r2 h2]; exact h), fun hL => ?_⟩⟩⟩
  all_goals
    have hlt : (l.length : Int) < rnum (l.getD 0 0) := by first | (rw [r4 h4]; omega) | (rw [r3 h4 h2]; omega) | (rw [r2 h2]; omega)
    clear hL hbad
    refine LoopWp.inv T6_ok (S := fun i : Nat => ⟨[(0, .sl sz (intRows .u8 l) k_l), (4, .int .i64 i)], List.replicate n none⟩) (I := fun i => 1 ≤ i ∧ i ≤ l.length ∧ ∀ j, 1 ≤ j → j < i → 128 ≤ l.getD j 0 ∧ l.getD j 0 < 192) (μ := fun i => l.length - i) 1 ⟨by omega, by omega, fun j a b => by omega⟩ ?_ ?_
  case refine_1.refine_1 =>
    simp -implicitDefEqProofs only [vcA1, vcA2, vcA3, vcA4, vcA5, vcA6, vcA7, ↓vcP1, ↓vcP2, ↓reduceIte, Option.map_some, Option.map_none, Option.bind_some, Option.bind_none, if_true, if_false, reduceCtorEq, beq_true, beq_false, Bool.not_true, Bool.not_false, BEq.rfl, Bool.true_beq, Bool.false_beq, and_true, true_and, and_self, decide_true, decide_false, List.length_cons, List.length_nil, List.all_cons, List.all_nil, Bool.and_true, Bool.and_self, List.getElem?_cons_zero, List.getElem?_cons_succ, List.set_cons_zero, List.set_cons_succ, List.nil_append, List.cons_append, List.append_nil, List.map_cons, List.map_nil, not_true_eq_false, not_false_eq_true, false_implies, true_implies, implies_true, List.take_succ_cons, List.take_zero, List.take_nil, List.drop_succ_cons, List.drop_zero, List.drop_nil, Nat.reduceLT, Nat.reduceLeDiff, Nat.reduceEqDiff, Nat.reduceAdd, Nat.reduceSub, Nat.reduceMul, Int.reduceLT, Int.reduceLE, Int.reduceEq, Int.reduceToNat, Int.reduceAdd, Int.reduceSub, Int.reduceNeg, List.reduceReplicate, List.replicate_zero, List.replicate_succ, ne_eq, List.flatMap_cons, List.flatMap_nil, List.length_replicate, List.length_append, Nat.le_refl, Nat.le_add_right, Nat.add_assoc, List.append_assoc, or_true, true_or, or_false, false_or, and_false, false_and, exists_eq_left, exists_eq_left', Option.some.injEq, DV.int.injEq, DV.bool.injEq, DV.sl.injEq, DV.own.injEq, DV.tup.injEq, List.cons.injEq, Ob.arr.injEq, Ob.box.injEq, Option.map_map, Int.toNat_natCast, Int.toNat_zero, Nat.reducePow, Int.toNat_one, Int.reduceMul, Nat.mul_one, Nat.zero_add, Nat.add_zero, Function.comp_apply, List.map_append, List.map_replicate, Int.cast_ofNat_Int, Nat.left_eq_add, Nat.add_eq_left, Nat.add_left_cancel_iff]
  case refine_2.refine_1 =>
    simp -implicitDefEqProofs only [vcA1, vcA2, vcA3, vcA4, vcA5, vcA6, vcA7, ↓vcP1, ↓vcP2, ↓reduceIte, Option.map_some, Option.map_none, Option.bind_some, Option.bind_none, if_true, if_false, reduceCtorEq, beq_true, beq_false, Bool.not_true, Bool.not_false, BEq.rfl, Bool.true_beq, Bool.false_beq, and_true, true_and, and_self, decide_true, decide_false, List.length_cons, List.length_nil, List.all_cons, List.all_nil, Bool.and_true, Bool.and_self, List.getElem?_cons_zero, List.getElem?_cons_succ, List.set_cons_zero, List.set_cons_succ, List.nil_append, List.cons_append, List.append_nil, List.map_cons, List.map_nil, not_true_eq_false, not_false_eq_true, false_implies, true_implies, implies_true, List.take_succ_cons, List.take_zero, List.take_nil, List.drop_succ_cons, List.drop_zero, List.drop_nil, Nat.reduceLT, Nat.reduceLeDiff, Nat.reduceEqDiff, Nat.reduceAdd, Nat.reduceSub, Nat.reduceMul, Int.reduceLT, Int.reduceLE, Int.reduceEq, Int.reduceToNat, Int.reduceAdd, Int.reduceSub, Int.reduceNeg, List.reduceReplicate, List.replicate_zero, List.replicate_succ, ne_eq, List.flatMap_cons, List.flatMap_nil, List.length_replicate, List.length_append, Nat.le_refl, Nat.le_add_right, Nat.add_assoc, List.append_assoc, or_true, true_or, or_false, false_or, and_false, false_and, exists_eq_left, exists_eq_left', Option.some.injEq, DV.int.injEq, DV.bool.injEq, DV.sl.injEq, DV.own.injEq, DV.tup.injEq, List.cons.injEq, Ob.arr.injEq, Ob.box.injEq, Option.map_map, Int.toNat_natCast, Int.toNat_zero, Nat.reducePow, Int.toNat_one, Int.reduceMul, Nat.mul_one, Nat.zero_add, Nat.add_zero, Function.comp_apply, List.map_append, List.map_replicate, Int.cast_ofNat_Int, Nat.left_eq_add, Nat.add_eq_left, Nat.add_left_cancel_iff]
  case refine_3.refine_1 =>
    simp -implicitDefEqProofs only [vcA1, vcA2, vcA3, vcA4, vcA5, vcA6, vcA7, ↓vcP1, ↓vcP2, ↓reduceIte, Option.map_some, Option.map_none, Option.bind_some, Option.bind_none, if_true, if_false, reduceCtorEq, beq_true, beq_false, Bool.not_true, Bool.not_false, BEq.rfl, Bool.true_beq, Bool.false_beq, and_true, true_and, and_self, decide_true, decide_false, List.length_cons, List.length_nil, List.all_cons, List.all_nil, Bool.and_true, Bool.and_self, List.getElem?_cons_zero, List.getElem?_cons_succ, List.set_cons_zero, List.set_cons_succ, List.nil_append, List.cons_append, List.append_nil, List.map_cons, List.map_nil, not_true_eq_false, not_false_eq_true, false_implies, true_implies, implies_true, List.take_succ_cons, List.take_zero, List.take_nil, List.drop_succ_cons, List.drop_zero, List.drop_nil, Nat.reduceLT, Nat.reduceLeDiff, Nat.reduceEqDiff, Nat.reduceAdd, Nat.reduceSub, Nat.reduceMul, Int.reduceLT, Int.reduceLE, Int.reduceEq, Int.reduceToNat, Int.reduceAdd, Int.reduceSub, Int.reduceNeg, List.reduceReplicate, List.replicate_zero, List.replicate_succ, ne_eq, List.flatMap_cons, List.flatMap_nil, List.length_replicate, List.length_append, Nat.le_refl, Nat.le_add_right, Nat.add_assoc, List.append_assoc, or_true, true_or, or_false, false_or, and_false, false_and, exists_eq_left, exists_eq_left', Option.some.injEq, DV.int.injEq, DV.bool.injEq, DV.sl.injEq, DV.own.injEq, DV.tup.injEq, List.cons.injEq, Ob.arr.injEq, Ob.box.injEq, Option.map_map, Int.toNat_natCast, Int.toNat_zero, Nat.reducePow, Int.toNat_one, Int.reduceMul, Nat.mul_one, Nat.zero_add, Nat.add_zero, Function.comp_apply, List.map_append, List.map_replicate, Int.cast_ofNat_Int, Nat.left_eq_add, Nat.add_eq_left, Nat.add_left_cancel_iff]
  all_goals
    intro i hi
    unfold rc_rbegins_l0
    simp -implicitDefEqProofs only [and192_u8, vcA1, vcA2, vcA3, vcA4, vcA5, vcA6, vcA7, ↓vcP1, ↓vcP2, ↓reduceIte, Option.map_some, Option.map_none, Option.bind_some, Option.bind_none, if_true, if_false, reduceCtorEq, beq_true, beq_false, Bool.not_true, Bool.not_false, BEq.rfl, Bool.true_beq, Bool.false_beq, and_true, true_and, and_self, decide_true, decide_false, List.length_cons, List.length_nil, List.all_cons, List.all_nil, Bool.and_true, Bool.and_self, List.getElem?_cons_zero, List.getElem?_cons_succ, List.set_cons_zero, List.set_cons_succ, List.nil_append, List.cons_append, List.append_nil, List.map_cons, List.map_nil, not_true_eq_false, not_false_eq_true, false_implies, true_implies, implies_true, List.take_succ_cons, List.take_zero, List.take_nil, List.drop_succ_cons, List.drop_zero, List.drop_nil, Nat.reduceLT, Nat.reduceLeDiff, Nat.reduceEqDiff, Nat.reduceAdd, Nat.reduceSub, Nat.reduceMul, Int.reduceLT, Int.reduceLE, Int.reduceEq, Int.reduceToNat, Int.reduceAdd, Int.reduceSub, Int.reduceNeg, List.reduceReplicate, List.replicate_zero, List.replicate_succ, ne_eq, List.flatMap_cons, List.flatMap_nil, List.length_replicate, List.length_append, Nat.le_refl, Nat.le_add_right, Nat.add_assoc, List.append_assoc, or_true, true_or, or_false, false_or, and_false, false_and, exists_eq_left, exists_eq_left', Option.some.injEq, DV.int.injEq, DV.bool.injEq, DV.sl.injEq, DV.own.injEq, DV.tup.injEq, List.cons.injEq, Ob.arr.injEq, Ob.box.injEq, Option.map_map, Int.toNat_natCast, Int.toNat_zero, Nat.reducePow, Int.toNat_one, Int.reduceMul, Nat.mul_one, Nat.zero_add, Nat.add_zero, Function.comp_apply, List.map_append, List.map_replicate, Int.cast_ofNat_Int, Nat.left_eq_add, Nat.add_eq_left, Nat.add_left_cancel_iff]
    rw [hU hlt]
    obtain ⟨i1, i2, i3⟩ := hi
    have hrl : 128 ≤ rlo (l.getD 0 0) ∧ rhi (l.getD 0 0) ≤ 191 := by
      unfold rlo rhi
      constructor <;> (repeat (first | split | omega))
    refine ⟨fun h => ⟨⟨by omega, h, hsz⟩, by omega, fun hc => ⟨i + 1, by rw [wI64] <;> omega, ⟨by omega, by omega, fun j a b => ?_⟩, by omega⟩, fun hc => ?_⟩, fun h => ?_⟩
    · by_cases hj : j = i
      · subst hj
        have := hb0 j (by omega)
        omega
      · exact i3 j a (by omega)
    · symm
      apply decide_eq_false
      have h12 : i = 1 ∨ i = 2 := by omega
      rcases h12 with rfl | rfl
      · have := hb0 1 (by omega); intro hh; apply hh.1; exact ⟨by omega, by omega⟩
      · have := hb0 2 (by omega); intro hh; apply hh.2; exact ⟨by omega, by omega⟩
    · have c1 : 1 < l.length → 128 ≤ l.getD 1 0 ∧ l.getD 1 0 < 192 := fun hh => i3 1 (by omega) (by omega)
      have c2 : 2 < l.length → 128 ≤ l.getD 2 0 ∧ l.getD 2 0 < 192 := fun hh => i3 2 (by omega) (by omega)
      clear i3 hU hlo hnum hfull r4 r3 r2 hlt hb0 hk hs hrl
      unfold rlo rhi
      generalize l.getD 0 0 = b0 at *
      generalize l.getD 1 0 = b1 at *
      generalize l.getD 2 0 = b2 at *
      refine ⟨fun h1 => ?_, fun h1 => ⟨⟨by omega, hsz⟩, hl0, fun e => ⟨⟨by omega, hsz⟩, by omega, fun e2 => ⟨⟨by omega, hsz⟩, by omega, ?_⟩, fun e2 => ?_⟩, fun e => ⟨fun f => ⟨⟨by omega, hsz⟩, by omega, fun e2 => ⟨⟨by omega, hsz⟩, by omega, ?_⟩, fun e2 => ?_⟩,
        fun f => ⟨fun g => ⟨⟨by omega, hsz⟩, by omega, fun e2 => ⟨⟨by omega, hsz⟩, by omega, ?_⟩, fun e2 => ?_⟩, fun g => ⟨fun q => ⟨⟨by omega, hsz⟩, by omega, fun e2 => ⟨⟨by omega, hsz⟩, by omega, ?_⟩, fun e2 => ?_⟩, fun q => ⟨⟨by omega, hsz⟩, by omega, fun e2 => ⟨⟨by omega, hsz⟩, by omega, ?_⟩, fun e2 => ?_⟩⟩⟩⟩⟩⟩
      all_goals first
        | (symm; apply decide_eq_true; constructor <;> intro hh <;> omega)
        | (symm; apply decide_eq_false; intro hh; apply hh.1; refine ⟨by omega, ?_⟩; omega)
        | (rw [decide_eq_decide]; grind)
        | grind

end Go.Proofs.YteemmpghpdaloaaDoor
end
section
/- The document's functions of chapter 3: 'whole'. -/
set_option linter.unusedVariables false
set_option linter.unusedSimpArgs false
set_option maxRecDepth 10000
namespace Go.Proofs.YteemmpghpdaloaaDoor
open Go.RowKit

noncomputable def rc_whole_l0 : RC := (.seq (.seq (.reg [⟨(some 51), (.mov (.t 8)), none, false⟩, ⟨(some 52), (.mov (.t 5)), none, false⟩, ⟨(some 53), (.bin .lss (.t 51) (.t 52)), none, false⟩] 0 [0, 5, 6, 7, 8, 53]) (.cond (.t 53) .skip (.ext 1))) (.seq (.blk 2 (.seq (.seq (.reg [⟨(some 56), (.mov (.t 0)), none, false⟩, ⟨(some 57), (.mov (.t 8)), none, false⟩, ⟨(some 58), (.iaddr 1 (.t 56) (.t 57)), none, false⟩, ⟨(some 59), (.load false 1 (.t 58)), none, false⟩, ⟨(some 60), (.bin .and (.t 59) (.c (.int .u8 192))), none, false⟩, ⟨(some 61), (.bin .neq (.t 60) (.c (.int .u8 128))), none, false⟩] 0 [0, 5, 6, 7, 8, 61]) (.cond (.t 61) (.seq (.reg [⟨(some 2), (.mov (.c (.int .i32 0))), none, false⟩, ⟨(some 3), (.mov (.c (.bool false))), none, false⟩] 0 [2, 3]) .ret) .skip)) (.reg [⟨(some 62), (.mov (.t 7)), none, false⟩, ⟨(some 63), (.bin .shl (.t 62) (.c (.int .u64 6))), none, false⟩, ⟨(some 64), (.mov (.t 0)), none, false⟩, ⟨(some 65), (.mov (.t 8)), none, false⟩, ⟨(some 66), (.iaddr 1 (.t 64) (.t 65)), none, false⟩, ⟨(some 67), (.load false 1 (.t 66)), none, false⟩, ⟨(some 68), (.bin .and (.t 67) (.c (.int .u8 63))), none, false⟩, ⟨(some 69), (.conv (.i2i .i32) (.t 68)), none, false⟩, ⟨(some 70), (.bin .or (.t 63) (.t 69)), none, false⟩, ⟨(some 7), (.mov (.t 70)), none, false⟩] 0 [0, 5, 6, 7, 8]))) (.reg [⟨(some 54), (.mov (.t 8)), none, false⟩, ⟨(some 55), (.bin .add (.t 54) (.c (.int .i64 1))), none, false⟩, ⟨(some 8), (.mov (.t 55)), none, false⟩] 0 [0, 5, 6, 7, 8])))
noncomputable def rc_whole : RFn := ⟨1, 79, (.seq (.reg [⟨(some 2), (.mov (.c (.int .i32 0))), none, false⟩, ⟨(some 3), (.mov (.c (.bool false))), none, false⟩] 0 [0]) (.seq (.reg [⟨(some 9), (.mov (.t 0)), none, false⟩, ⟨(some 10), (.iaddr 1 (.t 9) (.c (.int .i64 0))), none, false⟩, ⟨(some 11), (.load false 1 (.t 10)), none, false⟩, ⟨(some 4), (.mov (.t 11)), none, false⟩] 0 [0, 4]) (.seq (.reg [⟨(some 12), (.mov (.t 4)), none, false⟩, ⟨(some 13), (.conv (.i2i .i32) (.t 12)), none, false⟩, ⟨(some 5), (.mov (.c (.int .i64 1))), none, false⟩, ⟨(some 6), (.mov (.c (.int .i32 0))), none, false⟩, ⟨(some 7), (.mov (.t 13)), none, false⟩] 0 [0, 4, 5, 6, 7]) (.seq (.blk 0 (.seq (.reg [⟨(some 15), (.mov (.t 4)), none, false⟩, ⟨(some 16), (.bin .geq (.t 15) (.c (.int .u8 192))), none, false⟩, ⟨(some 17), (.mov (.t 16)), none, false⟩, ⟨(some 18), (.mov (.t 4)), (some (17, true)), false⟩, ⟨(some 19), (.bin .lss (.t 18) (.c (.int .u8 224))), (some (17, true)), false⟩, ⟨(some 20), (.pick (.t 17) (.t 19) (.c (.bool false))), none, false⟩, ⟨(some 14), (.mov (.t 20)), none, false⟩] 0 [0, 4, 5, 6, 7, 14]) (.cond (.t 14) (.reg [⟨(some 21), (.mov (.t 4)), none, false⟩, ⟨(some 22), (.bin .and (.t 21) (.c (.int .u8 31))), none, false⟩, ⟨(some 23), (.conv (.i2i .i32) (.t 22)), none, false⟩, ⟨(some 5), (.mov (.c (.int .i64 2))), none, false⟩, ⟨(some 6), (.mov (.c (.int .i32 128))), none, false⟩, ⟨(some 7), (.mov (.t 23)), none, false⟩] 0 [0, 5, 6, 7]) (.seq (.reg [⟨(some 25), (.mov (.t 4)), none, false⟩, ⟨(some 26), (.bin .geq (.t 25) (.c (.int .u8 224))), none, false⟩, ⟨(some 27), (.mov (.t 26)), none, false⟩, ⟨(some 28), (.mov (.t 4)), (some (27, true)), false⟩, ⟨(some 29), (.bin .lss (.t 28) (.c (.int .u8 240))), (some (27, true)), false⟩, ⟨(some 30), (.pick (.t 27) (.t 29) (.c (.bool false))), none, false⟩, ⟨(some 24), (.mov (.t 30)), none, false⟩] 0 [0, 4, 5, 6, 7, 24]) (.cond (.t 24) (.reg [⟨(some 31), (.mov (.t 4)), none, false⟩, ⟨(some 32), (.bin .and (.t 31) (.c (.int .u8 15))), none, false⟩, ⟨(some 33), (.conv (.i2i .i32) (.t 32)), none, false⟩, ⟨(some 5), (.mov (.c (.int .i64 3))), none, false⟩, ⟨(some 6), (.mov (.c (.int .i32 2048))), none, false⟩, ⟨(some 7), (.mov (.t 33)), none, false⟩] 0 [0, 5, 6, 7]) (.seq (.reg [⟨(some 35), (.mov (.t 4)), none, false⟩, ⟨(some 36), (.bin .geq (.t 35) (.c (.int .u8 240))), none, false⟩, ⟨(some 37), (.mov (.t 36)), none, false⟩, ⟨(some 38), (.mov (.t 4)), (some (37, true)), false⟩, ⟨(some 39), (.bin .lss (.t 38) (.c (.int .u8 248))), (some (37, true)), false⟩, ⟨(some 40), (.pick (.t 37) (.t 39) (.c (.bool false))), none, false⟩, ⟨(some 34), (.mov (.t 40)), none, false⟩] 0 [0, 4, 5, 6, 7, 34]) (.cond (.t 34) (.reg [⟨(some 41), (.mov (.t 4)), none, false⟩, ⟨(some 42), (.bin .and (.t 41) (.c (.int .u8 7))), none, false⟩, ⟨(some 43), (.conv (.i2i .i32) (.t 42)), none, false⟩, ⟨(some 5), (.mov (.c (.int .i64 4))), none, false⟩, ⟨(some 6), (.mov (.c (.int .i32 65536))), none, false⟩, ⟨(some 7), (.mov (.t 43)), none, false⟩] 0 [0, 5, 6, 7]) (.seq (.reg [⟨(some 45), (.mov (.t 4)), none, false⟩, ⟨(some 46), (.bin .geq (.t 45) (.c (.int .u8 128))), none, false⟩, ⟨(some 44), (.mov (.t 46)), none, false⟩] 0 [0, 5, 6, 7, 44]) (.cond (.t 44) (.seq (.reg [⟨(some 2), (.mov (.c (.int .i32 0))), none, false⟩, ⟨(some 3), (.mov (.c (.bool false))), none, false⟩] 0 [2, 3]) .ret) .skip))))))))) (.seq (.seq (.reg [⟨(some 47), (.mov (.t 0)), none, false⟩, ⟨(some 48), (.len (.t 47)), none, false⟩, ⟨(some 49), (.mov (.t 5)), none, false⟩, ⟨(some 50), (.bin .neq (.t 48) (.t 49)), none, false⟩] 0 [0, 5, 6, 7, 50]) (.cond (.t 50) (.seq (.reg [⟨(some 2), (.mov (.c (.int .i32 0))), none, false⟩, ⟨(some 3), (.mov (.c (.bool false))), none, false⟩] 0 [2, 3]) .ret) .skip)) (.seq (.seq (.reg [⟨(some 8), (.mov (.c (.int .i64 1))), none, false⟩] 0 [0, 5, 6, 7, 8]) (.blk 1 (.loop rc_whole_l0))) (.seq (.reg [⟨(some 71), (.mov (.t 7)), none, false⟩, ⟨(some 72), (.mov (.t 7)), none, false⟩, ⟨(some 73), (.mov (.t 6)), none, false⟩, ⟨(some 74), (.bin .geq (.t 72) (.t 73)), none, false⟩, ⟨(some 75), (.mov (.t 74)), none, false⟩, ⟨(some 76), (.mov (.t 7)), (some (75, true)), false⟩, ⟨(some 77), (.call 24 [(.t 76)]), (some (75, true)), false⟩, ⟨(some 78), (.pick (.t 75) (.t 77) (.c (.bool false))), none, false⟩, ⟨(some 2), (.mov (.t 71)), none, false⟩, ⟨(some 3), (.mov (.t 78)), none, false⟩] 0 [2, 3]) .ret))))))), [(.t 2), (.t 3)]⟩
theorem rc_whole_ok : compFn PG.P [⟨0, 0, [0], []⟩, ⟨1, 0, [0, 4], []⟩, ⟨2, 0, [0, 4, 5, 6, 7], []⟩, ⟨3, 0, [0, 4, 5, 6, 7, 14], []⟩, ⟨4, 0, [0, 5, 6, 7], []⟩, ⟨5, 0, [0, 4, 5, 6, 7, 24], []⟩, ⟨6, 0, [0, 5, 6, 7], []⟩, ⟨7, 0, [0, 4, 5, 6, 7, 34], []⟩, ⟨8, 0, [0, 5, 6, 7], []⟩, ⟨9, 0, [0, 5, 6, 7, 44], []⟩, ⟨10, 0, [2, 3], []⟩, ⟨11, 0, [0, 5, 6, 7, 50], []⟩, ⟨12, 0, [2, 3], []⟩, ⟨13, 0, [0, 5, 6, 7, 8], []⟩, ⟨14, 0, [0, 5, 6, 7, 8, 53], []⟩, ⟨15, 0, [0, 5, 6, 7, 8], []⟩, ⟨16, 0, [0, 5, 6, 7, 8, 61], []⟩, ⟨17, 0, [2, 3], []⟩, ⟨18, 0, [0, 5, 6, 7, 8], []⟩, ⟨19, 0, [2, 3], []⟩] 37 = some rc_whole := by kernel_rfl

theorem F_may_1 (r : Int) : F_may [.int .i32 r] = some ⟨True, fun _ => (.bool (may r), [])⟩ := nrfl _
theorem F_runes_1 (a b : DV) : F_runes [a, b] = some ⟨isInts .i32 a ∧ isInts .i32 b, fun _ => (.bool (decide (intsD a = intsD b)), [])⟩ := nrfl _
def F_put : List DV → Option FSpec
  | [.int .i32 r] => some ⟨(-2147483648 ≤ r ∧ r ≤ 2147483647) ∧ True, fun n => (.own n 0 (enc r).length, [some (.arr 1 (intRows .u8 (enc r)))])⟩
  | _ => none
theorem F_put_1 (r : Int) : F_put [.int .i32 r] = some ⟨(-2147483648 ≤ r ∧ r ≤ 2147483647) ∧ True, fun n => (.own n 0 (enc r).length, [some (.arr 1 (intRows .u8 (enc r)))])⟩ := nrfl _
theorem put_ok (args : List DV) (s : FSpec) (hs : F_put args = some s) (hp : s.pre) : PCalls PG 21 args fun n r os => r = (s.res n).1 ∧ os = (s.res n).2 := by
  unfold F_put at hs
  split at hs
  · rename_i r
    obtain rfl := Option.some.inj hs
    obtain ⟨hb_r, hp⟩ := hp
    have this := put_P  hb_r 
    exact this
  · cases hs

def F_uall : List DV → Option FSpec
  | [a_l] => some ⟨isInts .u8 a_l ∧ (intsD a_l).length ≤ 10000000, fun n => (.tup [.sl 1 (intRows .i32 (uallF (intsD a_l)).1) .any, .sl 1 (intRows .u8 (uallF (intsD a_l)).2) .any], [])⟩
  | _ => none
theorem F_uall_1 (a_l : DV) : F_uall [a_l] = some ⟨isInts .u8 a_l ∧ (intsD a_l).length ≤ 10000000, fun n => (.tup [.sl 1 (intRows .i32 (uallF (intsD a_l)).1) .any, .sl 1 (intRows .u8 (uallF (intsD a_l)).2) .any], [])⟩ := nrfl _
theorem uall_ok (args : List DV) (s : FSpec) (hs : F_uall args = some s) (hp : s.pre) : PCalls PG 14 args fun n r os => r = (s.res n).1 ∧ os = (s.res n).2 := by
  unfold F_uall at hs
  split at hs
  · rename_i a_l
    obtain rfl := Option.some.inj hs
    obtain ⟨hi_l, hp⟩ := hp
    obtain ⟨s0_l, k0_l, h1_l, h2_l, h3_l⟩ := isInts_inv hi_l
    have this := uall_P (k_l := k0_l) h2_l h3_l hp
    rw [← h1_l] at this
    exact this
  · cases hs

def F_rbegins : List DV → Option FSpec
  | [a_l] => some ⟨isInts .u8 a_l ∧ True, fun n => (.bool (ubeg (intsD a_l)), [])⟩
  | _ => none
theorem F_rbegins_1 (a_l : DV) : F_rbegins [a_l] = some ⟨isInts .u8 a_l ∧ True, fun n => (.bool (ubeg (intsD a_l)), [])⟩ := nrfl _
theorem rbegins_ok (args : List DV) (s : FSpec) (hs : F_rbegins args = some s) (hp : s.pre) : PCalls PG 20 args fun n r os => r = (s.res n).1 ∧ os = (s.res n).2 := by
  unfold F_rbegins at hs
  split at hs
  · rename_i a_l
    obtain rfl := Option.some.inj hs
    obtain ⟨hi_l, hp⟩ := hp
    obtain ⟨s0_l, k0_l, h1_l, h2_l, h3_l⟩ := isInts_inv hi_l
    have this := rbegins_P (k_l := k0_l) h2_l h3_l 
    rw [← h1_l] at this
    exact this
  · cases hs

def T10 : FL := (21, F_put) :: (14, F_uall) :: (20, F_rbegins) :: T6
theorem T10_ok : FOk PG (tab T10) := FOk.cons (FOk.cons (FOk.cons (T6_ok) rbegins_ok) uall_ok) put_ok
theorem T10_at_put (args : List DV) : tab T10 21 args = (F_put args).map .o := nrfl _
theorem T10_at_uall (args : List DV) : tab T10 14 args = (F_uall args).map .o := nrfl _
theorem T10_at_rbegins (args : List DV) : tab T10 20 args = (F_rbegins args).map .o := nrfl _
theorem T10_at_appRune (args : List DV) : tab T10 39 args = (F_appRune args).map .o := nrfl _
theorem T10_at_appNon (args : List DV) : tab T10 50 args = (F_appNon args).map .o := nrfl _
theorem T10_at_step (args : List DV) : tab T10 17 args = (F_step args).map .o := nrfl _
theorem T10_at_ubegins (args : List DV) : tab T10 19 args = (F_ubegins args).map .o := nrfl _
theorem T10_at_decode (args : List DV) : tab T10 36 args = (F_decode args).map .o := nrfl _
theorem T10_at_full (args : List DV) : tab T10 38 args = (F_full args).map .o := nrfl _
theorem T10_at_clone (args : List DV) : tab T10 35 args = (F_clone args).map .o := nrfl _
theorem T10_at_slow (args : List DV) : tab T10 49 args = (F_slow args).map .o := nrfl _
theorem T10_at_may (args : List DV) : tab T10 24 args = (F_may args).map .o := nrfl _
theorem T10_at_runes (args : List DV) : tab T10 16 args = (F_runes args).map .o := nrfl _
theorem T10_b : type_of% (And.intro @T10_at_put <| And.intro @F_put_1 <| And.intro @T10_at_uall <| And.intro @F_uall_1 <| And.intro @T10_at_rbegins <| And.intro @F_rbegins_1 <| And.intro @T10_at_appRune <| And.intro @F_appRune_1 <| And.intro @T10_at_appNon <| And.intro @F_appNon_1 <| And.intro @T10_at_step <| And.intro @F_step_1 <| And.intro @T10_at_ubegins <| And.intro @F_ubegins_1 <| And.intro @T10_at_decode <| And.intro @F_decode_1 <| And.intro @T10_at_full <| And.intro @F_full_1 <| And.intro @T10_at_clone <| And.intro @F_clone_nil <| And.intro @F_clone_non <| And.intro @T10_at_slow <| And.intro @F_slow_1 <| And.intro @T10_at_may <| And.intro @F_may_1 <| And.intro @T10_at_runes <| @F_runes_1) := And.intro @T10_at_put <| And.intro @F_put_1 <| And.intro @T10_at_uall <| And.intro @F_uall_1 <| And.intro @T10_at_rbegins <| And.intro @F_rbegins_1 <| And.intro @T10_at_appRune <| And.intro @F_appRune_1 <| And.intro @T10_at_appNon <| And.intro @F_appNon_1 <| And.intro @T10_at_step <| And.intro @F_step_1 <| And.intro @T10_at_ubegins <| And.intro @F_ubegins_1 <| And.intro @T10_at_decode <| And.intro @F_decode_1 <| And.intro @T10_at_full <| And.intro @F_full_1 <| And.intro @T10_at_clone <| And.intro @F_clone_nil <| And.intro @F_clone_non <| And.intro @T10_at_slow <| And.intro @F_slow_1 <| And.intro @T10_at_may <| And.intro @F_may_1 <| And.intro @T10_at_runes <| @F_runes_1


/-- The bits of bytes that go on. -/
def goOn : Int → List Int → Option Int
  | r, [] => some r
  | r, b :: l => if b % 256 / 64 * 64 = 128 then goOn (r * 64 + b % 64) l else none
def wholeF (l : List Int) : Int × Bool :=
  let c := l.getD 0 0
  let fin (n : Nat) (least r : Int) : Int × Bool := if (l.length : Int) = n then match goOn r (l.drop 1) with
    | some r => (r, decide (least ≤ r) && may r)
    | none => (0, false) else (0, false)
  if 192 ≤ c ∧ c < 224 then fin 2 128 (c % 32)
  else if 224 ≤ c ∧ c < 240 then fin 3 2048 (c % 16)
  else if 240 ≤ c ∧ c < 248 then fin 4 65536 (c % 8)
  else if 128 ≤ c then (0, false)
  else fin 1 0 c
theorem whole_loop {sz : Nat} {k : SK} {l : List Int} (hs : sz = 1) (hk : inK .u8 l) {N : Nat} {least r0 : Int} (hN : l.length = N) (h4 : N ≤ 4) (h1N : 1 ≤ N) (h0 : 0 ≤ r0) (h1 : r0 < 32 * 64 ^ (4 - N)) {n : Nat} {Q : Exit → St → Prop}
    (hf : goOn r0 (l.drop 1) = none → Q .ret ⟨[(2, .int .i32 0), (3, .bool false)], List.replicate n none⟩)
    (hq : ∀ r, goOn r0 (l.drop 1) = some r → 0 ≤ r → r ≤ 2147483647 → Q (.exit 1) ⟨[(0, .sl sz (intRows .u8 l) k), (5, .int .i64 N), (6, .int .i32 least), (7, .int .i32 r), (8, .int .i64 N), (53, .bool false)], List.replicate n none⟩) :
    LoopWp PG 79 rc_whole_l0 Q ⟨[(0, .sl sz (intRows .u8 l) k), (5, .int .i64 N), (6, .int .i32 least), (7, .int .i32 r0), (8, .int .i64 1)], List.replicate n none⟩ := by
  have hb0 : ∀ i, i < l.length → 0 ≤ l.getD i 0 ∧ l.getD i 0 ≤ 255 := fun i hi => by
    rw [List.getD_eq_getElem?_getD, List.getElem?_eq_getElem hi]
    exact hk.u8 (List.getElem_mem hi)
  refine LoopWp.inv T10_ok (S := fun x : Nat × Int => ⟨[(0, .sl sz (intRows .u8 l) k), (5, .int .i64 N), (6, .int .i32 least), (7, .int .i32 x.2), (8, .int .i64 x.1)], List.replicate n none⟩)
    (I := fun x => 1 ≤ x.1 ∧ x.1 ≤ N ∧ goOn r0 (l.drop 1) = goOn x.2 (l.drop x.1) ∧ 0 ≤ x.2 ∧ x.2 < 32 * 64 ^ (4 - N + x.1 - 1)) (μ := fun x => N - x.1) (1, r0) ⟨by omega, by omega, rfl, h0, by simpa using h1⟩ ?_ ?_
  · simp -implicitDefEqProofs only [vcA1, vcA2, vcA3, vcA4, vcA5, vcA6, vcA7, ↓vcP1, ↓vcP2, ↓reduceIte, Option.map_some, Option.map_none, Option.bind_some, Option.bind_none, if_true, if_false, reduceCtorEq, beq_true, beq_false, Bool.not_true, Bool.not_false, BEq.rfl, Bool.true_beq, Bool.false_beq, and_true, true_and, and_self, decide_true, decide_false, List.length_cons, List.length_nil, List.all_cons, List.all_nil, Bool.and_true, Bool.and_self, List.getElem?_cons_zero, List.getElem?_cons_succ, List.set_cons_zero, List.set_cons_succ, List.nil_append, List.cons_append, List.append_nil, List.map_cons, List.map_nil, not_true_eq_false, not_false_eq_true, false_implies, true_implies, implies_true, List.take_succ_cons, List.take_zero, List.take_nil, List.drop_succ_cons, List.drop_zero, List.drop_nil, Nat.reduceLT, Nat.reduceLeDiff, Nat.reduceEqDiff, Nat.reduceAdd, Nat.reduceSub, Nat.reduceMul, Int.reduceLT, Int.reduceLE, Int.reduceEq, Int.reduceToNat, Int.reduceAdd, Int.reduceSub, Int.reduceNeg, List.reduceReplicate, List.replicate_zero, List.replicate_succ, ne_eq, List.flatMap_cons, List.flatMap_nil, List.length_replicate, List.length_append, Nat.le_refl, Nat.le_add_right, Nat.add_assoc, List.append_assoc, or_true, true_or, or_false, false_or, and_false, false_and, exists_eq_left, exists_eq_left', Option.some.injEq, DV.int.injEq, DV.bool.injEq, DV.sl.injEq, DV.own.injEq, DV.tup.injEq, List.cons.injEq, Ob.arr.injEq, Ob.box.injEq, Option.map_map, Int.toNat_natCast, Int.toNat_zero, Nat.reducePow, Int.toNat_one, Int.reduceMul, Nat.mul_one, Nat.zero_add, Nat.add_zero, Function.comp_apply, List.map_append, List.map_replicate, Int.cast_ofNat_Int, Nat.left_eq_add, Nat.add_eq_left, Nat.add_left_cancel_iff]
  · intro ⟨i, r⟩ ⟨i1, i2, i3, i4, i5⟩
    unfold rc_whole_l0
    dsimp only at *
    simp -implicitDefEqProofs only [and192_u8, and63_u8, shl_i32_6, vcA1, vcA2, vcA3, vcA4, vcA5, vcA6, vcA7, ↓vcP1, ↓vcP2, ↓reduceIte, Option.map_some, Option.map_none, Option.bind_some, Option.bind_none, if_true, if_false, reduceCtorEq, beq_true, beq_false, Bool.not_true, Bool.not_false, BEq.rfl, Bool.true_beq, Bool.false_beq, and_true, true_and, and_self, decide_true, decide_false, List.length_cons, List.length_nil, List.all_cons, List.all_nil, Bool.and_true, Bool.and_self, List.getElem?_cons_zero, List.getElem?_cons_succ, List.set_cons_zero, List.set_cons_succ, List.nil_append, List.cons_append, List.append_nil, List.map_cons, List.map_nil, not_true_eq_false, not_false_eq_true, false_implies, true_implies, implies_true, List.take_succ_cons, List.take_zero, List.take_nil, List.drop_succ_cons, List.drop_zero, List.drop_nil, Nat.reduceLT, Nat.reduceLeDiff, Nat.reduceEqDiff, Nat.reduceAdd, Nat.reduceSub, Nat.reduceMul, Int.reduceLT, Int.reduceLE, Int.reduceEq, Int.reduceToNat, Int.reduceAdd, Int.reduceSub, Int.reduceNeg, List.reduceReplicate, List.replicate_zero, List.replicate_succ, ne_eq, List.flatMap_cons, List.flatMap_nil, List.length_replicate, List.length_append, Nat.le_refl, Nat.le_add_right, Nat.add_assoc, List.append_assoc, or_true, true_or, or_false, false_or, and_false, false_and, exists_eq_left, exists_eq_left', Option.some.injEq, DV.int.injEq, DV.bool.injEq, DV.sl.injEq, DV.own.injEq, DV.tup.injEq, List.cons.injEq, Ob.arr.injEq, Ob.box.injEq, Option.map_map, Int.toNat_natCast, Int.toNat_zero, Nat.reducePow, Int.toNat_one, Int.reduceMul, Nat.mul_one, Nat.zero_add, Nat.add_zero, Function.comp_apply, List.map_append, List.map_replicate, Int.cast_ofNat_Int, Nat.left_eq_add, Nat.add_eq_left, Nat.add_left_cancel_iff]
    have hp : (64 : Int) ^ (4 - N + i - 1) ≤ 64 ^ (3 : Nat) := by
      have : 4 - N + i - 1 = 0 ∨ 4 - N + i - 1 = 1 ∨ 4 - N + i - 1 = 2 ∨ 4 - N + i - 1 = 3 := by omega
      rcases this with e | e | e | e <;> rw [e] <;> decide
    have hr : r < 8388608 := by omega
    refine ⟨fun h => ?_, fun h => ?_⟩
    · have hi : i < l.length := by omega
      have hd : l.drop i = l.getD i 0 :: l.drop (i + 1) := by rw [List.getD_eq_getElem?_getD, List.getElem?_eq_getElem hi, List.drop_eq_getElem_cons hi]; rfl
      refine ⟨⟨by omega, by omega, hs⟩, hi, fun hc => ⟨⟨by omega, by omega, hs⟩, hi, (i + 1, r * 64 + l.getD i 0 % 64), ⟨?_, by rw [wI64] <;> omega⟩, ⟨by omega, by omega, ?_, by omega, ?_⟩, by omega⟩, fun hc => ?_⟩
      · have hp2 : (64 : Int) ^ (4 - N + i - 1) ≤ 64 ^ (2 : Nat) := by
          have : 4 - N + i - 1 = 0 ∨ 4 - N + i - 1 = 1 ∨ 4 - N + i - 1 = 2 := by omega
          rcases this with e | e | e <;> rw [e] <;> decide
        have hr2 : r < 131072 := by omega
        have e6 : IntKind.i32.wrap (r * 2 ^ min 6 IntKind.i32.bits) = r * 64 := (shl_i32_6 r).trans (wI32 (by omega) (by omega))
        rw [e6, wI32 (n := l.getD i 0 % 64) (by omega) (by omega)]
        exact or_i32 6 _ _ (by omega) (by omega) (by omega) (by omega) (by omega)
      · show _ = goOn (r * 64 + l.getD i 0 % 64) (l.drop (i + 1))
        rw [i3, hd, goOn, if_pos hc]
      · show r * 64 + l.getD i 0 % 64 < 32 * 64 ^ (4 - N + (i + 1) - 1)
        have : 4 - N + (i + 1) - 1 = (4 - N + i - 1) + 1 := by omega
        rw [this, Int.pow_succ]
        omega
      · apply hf
        rw [i3, hd, goOn, if_neg hc]
    · have hi : i = N := by omega
      subst hi
      have := hq r (by rw [i3, List.drop_of_length_le (by omega)]; rfl) i4 (by omega)
      exact this
theorem whole_P {sz : Nat} {k_l : SK} {l : List Int} (hs0 : sz = 1 ∨ l = []) (hk : inK .u8 l) (hl : 0 < l.length) :
    PCalls PG 37 [.sl sz (intRows .u8 l) k_l] fun n r os => r = .tup [.int .i32 (wholeF l).1, .bool (wholeF l).2] ∧ os = [] := by
  have hs : sz = 1 := hs0.resolve_right fun e => by simp [e] at hl
  refine PCalls.by_fn (res := fun n => (.tup [.int .i32 (wholeF l).1, .bool (wholeF l).2], [])) T10_ok rc_whole_ok (by simp [rc_whole]) fun n => ?_
  unfold rc_whole
  dsimp only
  simp -implicitDefEqProofs only [T10_b, and7_u8, and15_u8, and31_u8, and63_u8, vcA1, vcA2, vcA3, vcA4, vcA5, vcA6, vcA7, ↓vcP1, ↓vcP2, ↓reduceIte, Option.map_some, Option.map_none, Option.bind_some, Option.bind_none, if_true, if_false, reduceCtorEq, beq_true, beq_false, Bool.not_true, Bool.not_false, BEq.rfl, Bool.true_beq, Bool.false_beq, and_true, true_and, and_self, decide_true, decide_false, List.length_cons, List.length_nil, List.all_cons, List.all_nil, Bool.and_true, Bool.and_self, List.getElem?_cons_zero, List.getElem?_cons_succ, List.set_cons_zero, List.set_cons_succ, List.nil_append, List.cons_append, List.append_nil, List.map_cons, List.map_nil, not_true_eq_false, not_false_eq_true, false_implies, true_implies, implies_true, List.take_succ_cons, List.take_zero, List.take_nil, List.drop_succ_cons, List.drop_zero, List.drop_nil, Nat.reduceLT, Nat.reduceLeDiff, Nat.reduceEqDiff, Nat.reduceAdd, Nat.reduceSub, Nat.reduceMul, Int.reduceLT, Int.reduceLE, Int.reduceEq, Int.reduceToNat, Int.reduceAdd, Int.reduceSub, Int.reduceNeg, List.reduceReplicate, List.replicate_zero, List.replicate_succ, ne_eq, List.flatMap_cons, List.flatMap_nil, List.length_replicate, List.length_append, Nat.le_refl, Nat.le_add_right, Nat.add_assoc, List.append_assoc, or_true, true_or, or_false, false_or, and_false, false_and, exists_eq_left, exists_eq_left', Option.some.injEq, DV.int.injEq, DV.bool.injEq, DV.sl.injEq, DV.own.injEq, DV.tup.injEq, List.cons.injEq, Ob.arr.injEq, Ob.box.injEq, Option.map_map, Int.toNat_natCast, Int.toNat_zero, Nat.reducePow, Int.toNat_one, Int.reduceMul, Nat.mul_one, Nat.zero_add, Nat.add_zero, Function.comp_apply, List.map_append, List.map_replicate, Int.cast_ofNat_Int, Nat.left_eq_add, Nat.add_eq_left, Nat.add_left_cancel_iff]
  have hb0 : 0 ≤ l.getD 0 0 ∧ l.getD 0 0 ≤ 255 := by
    rw [List.getD_eq_getElem?_getD, List.getElem?_eq_getElem hl]
    exact hk.u8 (List.getElem_mem hl)
  have w1 : ∀ m : Int, 0 < m → m ≤ 256 → IntKind.i32.wrap (l.getD 0 0 % m) = l.getD 0 0 % m := fun m h h2 => by
    have := Int.emod_lt_of_pos (l.getD 0 0) h
    have := Int.emod_nonneg (l.getD 0 0) (Int.ne_of_gt h)
    exact wI32 (by omega) (by omega)
  have w2 : IntKind.i32.wrap (l.getD 0 0) = l.getD 0 0 := wI32 (by omega) (by omega)
  rw [w1 32 (by omega) (by omega), w1 16 (by omega) (by omega), w1 8 (by omega) (by omega), w2]
  refine ⟨⟨by omega, hs⟩, hl, fun c1 => ⟨fun c2 => ⟨fun e => ?_, fun e => ?_⟩, fun c2 => ⟨fun c3 => ⟨fun c4 => ⟨fun e => ?_, fun e => ?_⟩, fun c4 => ⟨fun c5 => ⟨fun c6 => ⟨fun e => ?_, fun e => ?_⟩, fun c6 => ?_⟩, fun c5 => ?_⟩⟩, fun c3 => ?_⟩⟩, fun c1 => ?_⟩
  · have hW : wholeF l = (match goOn (l.getD 0 0 % 32) (l.drop 1) with
      | some r => (r, decide (128 ≤ r) && may r)
      | none => (0, false)) := by simp only [wholeF]; rw [if_pos ⟨c1, c2⟩, if_pos (by omega)]
    refine whole_loop hs hk (N := 2) (by omega) (by omega) (by omega) (by omega) (by simp; omega) (fun h => ?_) fun r h a b => ?_
    · rw [h] at hW
      simp -implicitDefEqProofs only [hW, vcA1, vcA2, vcA3, vcA4, vcA5, vcA6, vcA7, ↓vcP1, ↓vcP2, ↓reduceIte, Option.map_some, Option.map_none, Option.bind_some, Option.bind_none, if_true, if_false, reduceCtorEq, beq_true, beq_false, Bool.not_true, Bool.not_false, BEq.rfl, Bool.true_beq, Bool.false_beq, and_true, true_and, and_self, decide_true, decide_false, List.length_cons, List.length_nil, List.all_cons, List.all_nil, Bool.and_true, Bool.and_self, List.getElem?_cons_zero, List.getElem?_cons_succ, List.set_cons_zero, List.set_cons_succ, List.nil_append, List.cons_append, List.append_nil, List.map_cons, List.map_nil, not_true_eq_false, not_false_eq_true, false_implies, true_implies, implies_true, List.take_succ_cons, List.take_zero, List.take_nil, List.drop_succ_cons, List.drop_zero, List.drop_nil, Nat.reduceLT, Nat.reduceLeDiff, Nat.reduceEqDiff, Nat.reduceAdd, Nat.reduceSub, Nat.reduceMul, Int.reduceLT, Int.reduceLE, Int.reduceEq, Int.reduceToNat, Int.reduceAdd, Int.reduceSub, Int.reduceNeg, List.reduceReplicate, List.replicate_zero, List.replicate_succ, ne_eq, List.flatMap_cons, List.flatMap_nil, List.length_replicate, List.length_append, Nat.le_refl, Nat.le_add_right, Nat.add_assoc, List.append_assoc, or_true, true_or, or_false, false_or, and_false, false_and, exists_eq_left, exists_eq_left', Option.some.injEq, DV.int.injEq, DV.bool.injEq, DV.sl.injEq, DV.own.injEq, DV.tup.injEq, List.cons.injEq, Ob.arr.injEq, Ob.box.injEq, Option.map_map, Int.toNat_natCast, Int.toNat_zero, Nat.reducePow, Int.toNat_one, Int.reduceMul, Nat.mul_one, Nat.zero_add, Nat.add_zero, Function.comp_apply, List.map_append, List.map_replicate, Int.cast_ofNat_Int, Nat.left_eq_add, Nat.add_eq_left, Nat.add_left_cancel_iff]
    · rw [h] at hW
      simp -implicitDefEqProofs only [T10_b, hW, vcA1, vcA2, vcA3, vcA4, vcA5, vcA6, vcA7, ↓vcP1, ↓vcP2, ↓reduceIte, Option.map_some, Option.map_none, Option.bind_some, Option.bind_none, if_true, if_false, reduceCtorEq, beq_true, beq_false, Bool.not_true, Bool.not_false, BEq.rfl, Bool.true_beq, Bool.false_beq, and_true, true_and, and_self, decide_true, decide_false, List.length_cons, List.length_nil, List.all_cons, List.all_nil, Bool.and_true, Bool.and_self, List.getElem?_cons_zero, List.getElem?_cons_succ, List.set_cons_zero, List.set_cons_succ, List.nil_append, List.cons_append, List.append_nil, List.map_cons, List.map_nil, not_true_eq_false, not_false_eq_true, false_implies, true_implies, implies_true, List.take_succ_cons, List.take_zero, List.take_nil, List.drop_succ_cons, List.drop_zero, List.drop_nil, Nat.reduceLT, Nat.reduceLeDiff, Nat.reduceEqDiff, Nat.reduceAdd, Nat.reduceSub, Nat.reduceMul, Int.reduceLT, Int.reduceLE, Int.reduceEq, Int.reduceToNat, Int.reduceAdd, Int.reduceSub, Int.reduceNeg, List.reduceReplicate, List.replicate_zero, List.replicate_succ, ne_eq, List.flatMap_cons, List.flatMap_nil, List.length_replicate, List.length_append, Nat.le_refl, Nat.le_add_right, Nat.add_assoc, List.append_assoc, or_true, true_or, or_false, false_or, and_false, false_and, exists_eq_left, exists_eq_left', Option.some.injEq, DV.int.injEq, DV.bool.injEq, DV.sl.injEq, DV.own.injEq, DV.tup.injEq, List.cons.injEq, Ob.arr.injEq, Ob.box.injEq, Option.map_map, Int.toNat_natCast, Int.toNat_zero, Nat.reducePow, Int.toNat_one, Int.reduceMul, Nat.mul_one, Nat.zero_add, Nat.add_zero, Function.comp_apply, List.map_append, List.map_replicate, Int.cast_ofNat_Int, Nat.left_eq_add, Nat.add_eq_left, Nat.add_left_cancel_iff]
      grind
  · have hW : wholeF l = (0, false) := by simp only [wholeF]; rw [if_pos ⟨c1, c2⟩, if_neg (by omega)]
    rw [hW]; exact ⟨rfl, rfl⟩
  · have hW : wholeF l = (match goOn (l.getD 0 0 % 16) (l.drop 1) with
      | some r => (r, decide (2048 ≤ r) && may r)
      | none => (0, false)) := by simp only [wholeF]; rw [if_neg (by omega), if_pos ⟨c3, c4⟩, if_pos (by omega)]
    refine whole_loop hs hk (N := 3) (by omega) (by omega) (by omega) (by omega) (by simp; omega) (fun h => ?_) fun r h a b => ?_
    · rw [h] at hW
      simp -implicitDefEqProofs only [hW, vcA1, vcA2, vcA3, vcA4, vcA5, vcA6, vcA7, ↓vcP1, ↓vcP2, ↓reduceIte, Option.map_some, Option.map_none, Option.bind_some, Option.bind_none, if_true, if_false, reduceCtorEq, beq_true, beq_false, Bool.not_true, Bool.not_false, BEq.rfl, Bool.true_beq, Bool.false_beq, and_true, true_and, and_self, decide_true, decide_false, List.length_cons, List.length_nil, List.all_cons, List.all_nil, Bool.and_true, Bool.and_self, List.getElem?_cons_zero, List.getElem?_cons_succ, List.set_cons_zero, List.set_cons_succ, List.nil_append, List.cons_append, List.append_nil, List.map_cons, List.map_nil, not_true_eq_false, not_false_eq_true, false_implies, true_implies, implies_true, List.take_succ_cons, List.take_zero, List.take_nil, List.drop_succ_cons, List.drop_zero, List.drop_nil, Nat.reduceLT, Nat.reduceLeDiff, Nat.reduceEqDiff, Nat.reduceAdd, Nat.reduceSub, Nat.reduceMul, Int.reduceLT, Int.reduceLE, Int.reduceEq, Int.reduceToNat, Int.reduceAdd, Int.reduceSub, Int.reduceNeg, List.reduceReplicate, List.replicate_zero, List.replicate_succ, ne_eq, List.flatMap_cons, List.flatMap_nil, List.length_replicate, List.length_append, Nat.le_refl, Nat.le_add_right, Nat.add_assoc, List.append_assoc, or_true, true_or, or_false, false_or, and_false, false_and, exists_eq_left, exists_eq_left', Option.some.injEq, DV.int.injEq, DV.bool.injEq, DV.sl.injEq, DV.own.injEq, DV.tup.injEq, List.cons.injEq, Ob.arr.injEq, Ob.box.injEq, Option.map_map, Int.toNat_natCast, Int.toNat_zero, Nat.reducePow, Int.toNat_one, Int.reduceMul, Nat.mul_one, Nat.zero_add, Nat.add_zero, Function.comp_apply, List.map_append, List.map_replicate, Int.cast_ofNat_Int, Nat.left_eq_add, Nat.add_eq_left, Nat.add_left_cancel_iff]
    · rw [h] at hW
      simp -implicitDefEqProofs only [T10_b, hW, vcA1, vcA2, vcA3, vcA4, vcA5, vcA6, vcA7, ↓vcP1, ↓vcP2, ↓reduceIte, Option.map_some, Option.map_none, Option.bind_some, Option.bind_none, if_true, if_false, reduceCtorEq, beq_true, beq_false, Bool.not_true, Bool.not_false, BEq.rfl, Bool.true_beq, Bool.false_beq, and_true, true_and, and_self, decide_true, decide_false, List.length_cons, List.length_nil, List.all_cons, List.all_nil, Bool.and_true, Bool.and_self, List.getElem?_cons_zero, List.getElem?_cons_succ, List.set_cons_zero, List.set_cons_succ, List.nil_append, List.cons_append, List.append_nil, List.map_cons, List.map_nil, not_true_eq_false, not_false_eq_true, false_implies, true_implies, implies_true, List.take_succ_cons, List.take_zero, List.take_nil, List.drop_succ_cons, List.drop_zero, List.drop_nil, Nat.reduceLT, Nat.reduceLeDiff, Nat.reduceEqDiff, Nat.reduceAdd, Nat.reduceSub, Nat.reduceMul, Int.reduceLT, Int.reduceLE, Int.reduceEq, Int.reduceToNat, Int.reduceAdd, Int.reduceSub, Int.reduceNeg, List.reduceReplicate, List.replicate_zero, List.replicate_succ, ne_eq, List.flatMap_cons, List.flatMap_nil, List.length_replicate, List.length_append, Nat.le_refl, Nat.le_add_right, Nat.add_assoc, List.append_assoc, or_true, true_or, or_false, false_or, and_false, false_and, exists_eq_left, exists_eq_left', Option.some.injEq, DV.int.injEq, DV.bool.injEq, DV.sl.injEq, DV.own.injEq, DV.tup.injEq, List.cons.injEq, Ob.arr.injEq, Ob.box.injEq, Option.map_map, Int.toNat_natCast, Int.toNat_zero, Nat.reducePow, Int.toNat_one, Int.reduceMul, Nat.mul_one, Nat.zero_add, Nat.add_zero, Function.comp_apply, List.map_append, List.map_replicate, Int.cast_ofNat_Int, Nat.left_eq_add, Nat.add_eq_left, Nat.add_left_cancel_iff]
      grind
  · have hW : wholeF l = (0, false) := by simp only [wholeF]; rw [if_neg (by omega), if_pos ⟨c3, c4⟩, if_neg (by omega)]
    rw [hW]; exact ⟨rfl, rfl⟩
  · have hW : wholeF l = (match goOn (l.getD 0 0 % 8) (l.drop 1) with
      | some r => (r, decide (65536 ≤ r) && may r)
      | none => (0, false)) := by simp only [wholeF]; rw [if_neg (by omega), if_neg (by omega), if_pos ⟨c5, c6⟩, if_pos (by omega)]
    refine whole_loop hs hk (N := 4) (by omega) (by omega) (by omega) (by omega) (by simp; omega) (fun h => ?_) fun r h a b => ?_
    · rw [h] at hW
      simp -implicitDefEqProofs only [hW, vcA1, vcA2, vcA3, vcA4, vcA5, vcA6, vcA7, ↓vcP1, ↓vcP2, ↓reduceIte, Option.map_some, Option.map_none, Option.bind_some, Option.bind_none, if_true, if_false, reduceCtorEq, beq_true, beq_false, Bool.not_true, Bool.not_false, BEq.rfl, Bool.true_beq, Bool.false_beq, and_true, true_and, and_self, decide_true, decide_false, List.length_cons, List.length_nil, List.all_cons, List.all_nil, Bool.and_true, Bool.and_self, List.getElem?_cons_zero, List.getElem?_cons_succ, List.set_cons_zero, List.set_cons_succ, List.nil_append, List.cons_append, List.append_nil, List.map_cons, List.map_nil, not_true_eq_false, not_false_eq_true, false_implies, true_implies, implies_true, List.take_succ_cons, List.take_zero, List.take_nil, List.drop_succ_cons, List.drop_zero, List.drop_nil, Nat.reduceLT, Nat.reduceLeDiff, Nat.reduceEqDiff, Nat.reduceAdd, Nat.reduceSub, Nat.reduceMul, Int.reduceLT, Int.reduceLE, Int.reduceEq, Int.reduceToNat, Int.reduceAdd, Int.reduceSub, Int.reduceNeg, List.reduceReplicate, List.replicate_zero, List.replicate_succ, ne_eq, List.flatMap_cons, List.flatMap_nil, List.length_replicate, List.length_append, Nat.le_refl, Nat.le_add_right, Nat.add_assoc, List.append_assoc, or_true, true_or, or_false, false_or, and_false, false_and, exists_eq_left, exists_eq_left', Option.some.injEq, DV.int.injEq, DV.bool.injEq, DV.sl.injEq, DV.own.injEq, DV.tup.injEq, List.cons.injEq, Ob.arr.injEq, Ob.box.injEq, Option.map_map, Int.toNat_natCast, Int.toNat_zero, Nat.reducePow, Int.toNat_one, Int.reduceMul, Nat.mul_one, Nat.zero_add, Nat.add_zero, Function.comp_apply, List.map_append, List.map_replicate, Int.cast_ofNat_Int, Nat.left_eq_add, Nat.add_eq_left, Nat.add_left_cancel_iff]
    · rw [h] at hW
      simp -implicitDefEqProofs only [T10_b, hW, vcA1, vcA2, vcA3, vcA4, vcA5, vcA6, vcA7, ↓vcP1, ↓vcP2, ↓reduceIte, Option.map_some, Option.map_none, Option.bind_some, Option.bind_none, if_true, if_false, reduceCtorEq, beq_true, beq_false, Bool.not_true, Bool.not_false, BEq.rfl, Bool.true_beq, Bool.false_beq, and_true, true_and, and_self, decide_true, decide_false, List.length_cons, List.length_nil, List.all_cons, List.all_nil, Bool.and_true, Bool.and_self, List.getElem?_cons_zero, List.getElem?_cons_succ, List.set_cons_zero, List.set_cons_succ, List.nil_append, List.cons_append, List.append_nil, List.map_cons, List.map_nil, not_true_eq_false, not_false_eq_true, false_implies, true_implies, implies_true, List.take_succ_cons, List.take_zero, List.take_nil, List.drop_succ_cons, List.drop_zero, List.drop_nil, Nat.reduceLT, Nat.reduceLeDiff, Nat.reduceEqDiff, Nat.reduceAdd, Nat.reduceSub, Nat.reduceMul, Int.reduceLT, Int.reduceLE, Int.reduceEq, Int.reduceToNat, Int.reduceAdd, Int.reduceSub, Int.reduceNeg, List.reduceReplicate, List.replicate_zero, List.replicate_succ, ne_eq, List.flatMap_cons, List.flatMap_nil, List.length_replicate, List.length_append, Nat.le_refl, Nat.le_add_right, Nat.add_assoc, List.append_assoc, or_true, true_or, or_false, false_or, and_false, false_and, exists_eq_left, exists_eq_left', Option.some.injEq, DV.int.injEq, DV.bool.injEq, DV.sl.injEq, DV.own.injEq, DV.tup.injEq, List.cons.injEq, Ob.arr.injEq, Ob.box.injEq, Option.map_map, Int.toNat_natCast, Int.toNat_zero, Nat.reducePow, Int.toNat_one, Int.reduceMul, Nat.mul_one, Nat.zero_add, Nat.add_zero, Function.comp_apply, List.map_append, List.map_replicate, Int.cast_ofNat_Int, Nat.left_eq_add, Nat.add_eq_left, Nat.add_left_cancel_iff]
      grind
  · have hW : wholeF l = (0, false) := by simp only [wholeF]; rw [if_neg (by omega), if_neg (by omega), if_pos ⟨c5, c6⟩, if_neg (by omega)]
    rw [hW]; exact ⟨rfl, rfl⟩
  case refine_10 =>
    have f1 : (224 ≤ l.getD 0 0) = False := eq_false (by omega)
    have f2 : (240 ≤ l.getD 0 0) = False := eq_false (by omega)
    simp only [f1, f2, false_implies, true_and, not_false_eq_true, true_implies]
    refine ⟨fun c => ?_, fun c => ⟨fun e => ?_, fun e => ?_⟩⟩
    · have hW : wholeF l = (0, false) := by simp only [wholeF]; rw [if_neg (by omega), if_neg (by omega), if_neg (by omega), if_pos c]
      rw [hW]; exact ⟨rfl, rfl⟩
    · have hW : wholeF l = (match goOn (l.getD 0 0) (l.drop 1) with
        | some r => (r, decide (0 ≤ r) && may r)
        | none => (0, false)) := by simp only [wholeF]; rw [if_neg (by omega), if_neg (by omega), if_neg (by omega), if_neg c, if_pos (by omega)]
      refine whole_loop hs hk (N := 1) (by omega) (by omega) (by omega) (by omega) (by have : (64 : Int) ^ (4 - 1) = 262144 := rfl; omega) (fun h => ?_) fun r h a b => ?_
      · rw [h] at hW
        simp -implicitDefEqProofs only [hW, vcA1, vcA2, vcA3, vcA4, vcA5, vcA6, vcA7, ↓vcP1, ↓vcP2, ↓reduceIte, Option.map_some, Option.map_none, Option.bind_some, Option.bind_none, if_true, if_false, reduceCtorEq, beq_true, beq_false, Bool.not_true, Bool.not_false, BEq.rfl, Bool.true_beq, Bool.false_beq, and_true, true_and, and_self, decide_true, decide_false, List.length_cons, List.length_nil, List.all_cons, List.all_nil, Bool.and_true, Bool.and_self, List.getElem?_cons_zero, List.getElem?_cons_succ, List.set_cons_zero, List.set_cons_succ, List.nil_append, List.cons_append, List.append_nil, List.map_cons, List.map_nil, not_true_eq_false, not_false_eq_true, false_implies, true_implies, implies_true, List.take_succ_cons, List.take_zero, List.take_nil, List.drop_succ_cons, List.drop_zero, List.drop_nil, Nat.reduceLT, Nat.reduceLeDiff, Nat.reduceEqDiff, Nat.reduceAdd, Nat.reduceSub, Nat.reduceMul, Int.reduceLT, Int.reduceLE, Int.reduceEq, Int.reduceToNat, Int.reduceAdd, Int.reduceSub, Int.reduceNeg, List.reduceReplicate, List.replicate_zero, List.replicate_succ, ne_eq, List.flatMap_cons, List.flatMap_nil, List.length_replicate, List.length_append, Nat.le_refl, Nat.le_add_right, Nat.add_assoc, List.append_assoc, or_true, true_or, or_false, false_or, and_false, false_and, exists_eq_left, exists_eq_left', Option.some.injEq, DV.int.injEq, DV.bool.injEq, DV.sl.injEq, DV.own.injEq, DV.tup.injEq, List.cons.injEq, Ob.arr.injEq, Ob.box.injEq, Option.map_map, Int.toNat_natCast, Int.toNat_zero, Nat.reducePow, Int.toNat_one, Int.reduceMul, Nat.mul_one, Nat.zero_add, Nat.add_zero, Function.comp_apply, List.map_append, List.map_replicate, Int.cast_ofNat_Int, Nat.left_eq_add, Nat.add_eq_left, Nat.add_left_cancel_iff]
      · rw [h] at hW
        simp -implicitDefEqProofs only [T10_b, hW, vcA1, vcA2, vcA3, vcA4, vcA5, vcA6, vcA7, ↓vcP1, ↓vcP2, ↓reduceIte, Option.map_some, Option.map_none, Option.bind_some, Option.bind_none, if_true, if_false, reduceCtorEq, beq_true, beq_false, Bool.not_true, Bool.not_false, BEq.rfl, Bool.true_beq, Bool.false_beq, and_true, true_and, and_self, decide_true, decide_false, List.length_cons, List.length_nil, List.all_cons, List.all_nil, Bool.and_true, Bool.and_self, List.getElem?_cons_zero, List.getElem?_cons_succ, List.set_cons_zero, List.set_cons_succ, List.nil_append, List.cons_append, List.append_nil, List.map_cons, List.map_nil, not_true_eq_false, not_false_eq_true, false_implies, true_implies, implies_true, List.take_succ_cons, List.take_zero, List.take_nil, List.drop_succ_cons, List.drop_zero, List.drop_nil, Nat.reduceLT, Nat.reduceLeDiff, Nat.reduceEqDiff, Nat.reduceAdd, Nat.reduceSub, Nat.reduceMul, Int.reduceLT, Int.reduceLE, Int.reduceEq, Int.reduceToNat, Int.reduceAdd, Int.reduceSub, Int.reduceNeg, List.reduceReplicate, List.replicate_zero, List.replicate_succ, ne_eq, List.flatMap_cons, List.flatMap_nil, List.length_replicate, List.length_append, Nat.le_refl, Nat.le_add_right, Nat.add_assoc, List.append_assoc, or_true, true_or, or_false, false_or, and_false, false_and, exists_eq_left, exists_eq_left', Option.some.injEq, DV.int.injEq, DV.bool.injEq, DV.sl.injEq, DV.own.injEq, DV.tup.injEq, List.cons.injEq, Ob.arr.injEq, Ob.box.injEq, Option.map_map, Int.toNat_natCast, Int.toNat_zero, Nat.reducePow, Int.toNat_one, Int.reduceMul, Nat.mul_one, Nat.zero_add, Nat.add_zero, Function.comp_apply, List.map_append, List.map_replicate, Int.cast_ofNat_Int, Nat.left_eq_add, Nat.add_eq_left, Nat.add_left_cancel_iff]
        grind
    · have hW : wholeF l = (0, false) := by simp only [wholeF]; rw [if_neg (by omega), if_neg (by omega), if_neg (by omega), if_neg c, if_neg (by omega)]
      rw [hW]; exact ⟨rfl, rfl⟩
  all_goals
    refine ⟨fun c => ?_, fun c => ⟨fun e => ?_, fun e => ?_⟩⟩
  all_goals first
    | (exfalso; omega)
    | skip
  all_goals first
    | (have hW : wholeF l = (0, false) := by simp only [wholeF]; rw [if_neg (by omega), if_neg (by omega), if_neg (by omega), if_pos c]
       rw [hW]; exact ⟨rfl, rfl⟩)
    | (have hW : wholeF l = (0, false) := by simp only [wholeF]; rw [if_neg (by omega), if_neg (by omega), if_neg (by omega), if_neg c, if_neg (by omega)]
       rw [hW]; exact ⟨rfl, rfl⟩)
    | skip
  all_goals
    have hW : wholeF l = (match goOn (l.getD 0 0) (l.drop 1) with
      | some r => (r, decide (0 ≤ r) && may r)
      | none => (0, false)) := by simp only [wholeF]; rw [if_neg (by omega), if_neg (by omega), if_neg (by omega), if_neg c, if_pos (by omega)]
    refine whole_loop hs hk (N := 1) (by omega) (by omega) (by omega) (by omega) (by have : (64 : Int) ^ (4 - 1) = 262144 := rfl
                                                                                          omega) (fun h => ?_) fun r h a b => ?_
    · rw [h] at hW
      simp -implicitDefEqProofs only [hW, vcA1, vcA2, vcA3, vcA4, vcA5, vcA6, vcA7, ↓vcP1, ↓vcP2, ↓reduceIte, Option.map_some, Option.map_none, Option.bind_some, Option.bind_none, if_true, if_false, reduceCtorEq, beq_true, beq_false, Bool.not_true, Bool.not_false, BEq.rfl, Bool.true_beq, Bool.false_beq, and_true, true_and, and_self, decide_true, decide_false, List.length_cons, List.length_nil, List.all_cons, List.all_nil, Bool.and_true, Bool.and_self, List.getElem?_cons_zero, List.getElem?_cons_succ, List.set_cons_zero, List.set_cons_succ, List.nil_append, List.cons_append, List.append_nil, List.map_cons, List.map_nil, not_true_eq_false, not_false_eq_true, false_implies, true_implies, implies_true, List.take_succ_cons, List.take_zero, List.take_nil, List.drop_succ_cons, List.drop_zero, List.drop_nil, Nat.reduceLT, Nat.reduceLeDiff, Nat.reduceEqDiff, Nat.reduceAdd, Nat.reduceSub, Nat.reduceMul, Int.reduceLT, Int.reduceLE, Int.reduceEq, Int.reduceToNat, Int.reduceAdd, Int.reduceSub, Int.reduceNeg, List.reduceReplicate, List.replicate_zero, List.replicate_succ, ne_eq, List.flatMap_cons, List.flatMap_nil, List.length_replicate, List.length_append, Nat.le_refl, Nat.le_add_right, Nat.add_assoc, List.append_assoc, or_true, true_or, or_false, false_or, and_false, false_and, exists_eq_left, exists_eq_left', Option.some.injEq, DV.int.injEq, DV.bool.injEq, DV.sl.injEq, DV.own.injEq, DV.tup.injEq, List.cons.injEq, Ob.arr.injEq, Ob.box.injEq, Option.map_map, Int.toNat_natCast, Int.toNat_zero, Nat.reducePow, Int.toNat_one, Int.reduceMul, Nat.mul_one, Nat.zero_add, Nat.add_zero, Function.comp_apply, List.map_append, List.map_replicate, Int.cast_ofNat_Int, Nat.left_eq_add, Nat.add_eq_left, Nat.add_left_cancel_iff]
    · rw [h] at hW
      simp -implicitDefEqProofs only [T10_b, hW, vcA1, vcA2, vcA3, vcA4, vcA5, vcA6, vcA7, ↓vcP1, ↓vcP2, ↓reduceIte, Option.map_some, Option.map_none, Option.bind_some, Option.bind_none, if_true, if_false, reduceCtorEq, beq_true, beq_false, Bool.not_true, Bool.not_false, BEq.rfl, Bool.true_beq, Bool.false_beq, and_true, true_and, and_self, decide_true, decide_false, List.length_cons, List.length_nil, List.all_cons, List.all_nil, Bool.and_true, Bool.and_self, List.getElem?_cons_zero, List.getElem?_cons_succ, List.set_cons_zero, List.set_cons_succ, List.nil_append, List.cons_append, List.append_nil, List.map_cons, List.map_nil, not_true_eq_false, not_false_eq_true, false_implies, true_implies, implies_true, List.take_succ_cons, List.take_zero, List.take_nil, List.drop_succ_cons, List.drop_zero, List.drop_nil, Nat.reduceLT, Nat.reduceLeDiff, Nat.reduceEqDiff, Nat.reduceAdd, Nat.reduceSub, Nat.reduceMul, Int.reduceLT, Int.reduceLE, Int.reduceEq, Int.reduceToNat, Int.reduceAdd, Int.reduceSub, Int.reduceNeg, List.reduceReplicate, List.replicate_zero, List.replicate_succ, ne_eq, List.flatMap_cons, List.flatMap_nil, List.length_replicate, List.length_append, Nat.le_refl, Nat.le_add_right, Nat.add_assoc, List.append_assoc, or_true, true_or, or_false, false_or, and_false, false_and, exists_eq_left, exists_eq_left', Option.some.injEq, DV.int.injEq, DV.bool.injEq, DV.sl.injEq, DV.own.injEq, DV.tup.injEq, List.cons.injEq, Ob.arr.injEq, Ob.box.injEq, Option.map_map, Int.toNat_natCast, Int.toNat_zero, Nat.reducePow, Int.toNat_one, Int.reduceMul, Nat.mul_one, Nat.zero_add, Nat.add_zero, Function.comp_apply, List.map_append, List.map_replicate, Int.cast_ofNat_Int, Nat.left_eq_add, Nat.add_eq_left, Nat.add_left_cancel_iff]
      grind
end Go.Proofs.YteemmpghpdaloaaDoor
end
