/- utf.Step. -/
import Derived.Test.YteemmpghpdaloaaDoorP4
set_option linter.unusedVariables false
set_option linter.unusedSimpArgs false
set_option maxRecDepth 10000
namespace Go.Proofs.YteemmpghpdaloaaDoor
open Go.RowKit

noncomputable def rc_ustep : RFn := ⟨2, 54, (.seq (.reg [⟨(some 4), (.mov (.c (.sl 0 [] .nil))), none, false⟩, ⟨(some 5), (.mov (.c (.sl 0 [] .nil))), none, false⟩] 0 [0, 1]) (.seq (.seq (.reg [⟨(some 11), (.mov (.t 0)), none, false⟩, ⟨(some 12), (.call 19 [(.t 11)]), none, false⟩, ⟨(some 13), (.un .not (.t 12)), none, false⟩] 0 [0, 1, 13]) (.cond (.t 13) (.reg [⟨(some 0), (.mov (.c (.sl 0 [] .nil))), none, false⟩] 0 [0, 1]) .skip)) (.seq (.reg [⟨(some 14), (.mov (.t 0)), none, false⟩, ⟨(some 15), (.call 35 [(.t 14)]), none, false⟩, ⟨(some 16), (.mov (.t 1)), none, false⟩, ⟨(some 17), (.mkrow 1 [(.int .u8 0)] 1 [(0, (.t 16))]), none, false⟩, ⟨(some 18), (.append 1 1 (.t 15) (.t 17)), none, false⟩, ⟨(some 6), (.mov (.t 18)), none, true⟩] 0 [0, 1, 6]) (.seq (.seq (.reg [⟨(some 20), (.mov (.t 6)), none, false⟩, ⟨(some 21), (.call 36 [(.t 20)]), none, false⟩, ⟨(some 19), (.mov (.t 21)), none, false⟩, ⟨(some 22), (.ext (.t 19) 0), none, false⟩, ⟨(some 23), (.ext (.t 19) 1), none, false⟩, ⟨(some 7), (.mov (.t 22)), none, false⟩, ⟨(some 8), (.mov (.t 23)), none, false⟩] 0 [0, 1, 6, 7, 8]) (.seq (.reg [⟨(some 24), (.mov (.t 8)), none, false⟩, ⟨(some 25), (.mov (.t 6)), none, false⟩, ⟨(some 26), (.len (.t 25)), none, false⟩, ⟨(some 27), (.bin .eql (.t 24) (.t 26)), none, false⟩, ⟨(some 28), (.mov (.t 27)), none, false⟩, ⟨(some 29), (.mov (.t 7)), (some (28, true)), false⟩, ⟨(some 30), (.bin .neq (.t 29) (.c (.int .i32 65533))), (some (28, true)), false⟩, ⟨(some 31), (.mov (.t 30)), (some (28, true)), false⟩, ⟨(some 32), (.mov (.t 8)), (some (31, false)), false⟩, ⟨(some 33), (.bin .gtr (.t 32) (.c (.int .i64 1))), (some (31, false)), false⟩, ⟨(some 34), (.pick (.t 31) (.c (.bool true)) (.t 33)), (some (28, true)), false⟩, ⟨(some 35), (.pick (.t 28) (.t 34) (.c (.bool false))), none, false⟩] 0 [0, 1, 6, 7, 35]) (.cond (.t 35) (.seq (.reg [⟨(some 36), (.mov (.t 7)), none, false⟩, ⟨(some 37), (.mkrow 1 [(.int .i32 0)] 1 [(0, (.t 36))]), none, false⟩, ⟨(some 4), (.mov (.c (.sl 0 [] .nil))), none, false⟩, ⟨(some 5), (.mov (.t 37)), none, true⟩] 0 [4, 5]) .ret) .skip))) (.seq (.seq (.reg [⟨(some 38), (.mov (.t 6)), none, false⟩, ⟨(some 39), (.call 19 [(.t 38)]), none, false⟩] 0 [0, 1, 6, 39]) (.cond (.t 39) (.seq (.reg [⟨(some 40), (.mov (.t 6)), none, false⟩, ⟨(some 4), (.mov (.t 40)), none, false⟩, ⟨(some 5), (.mov (.c (.sl 0 [] .nil))), none, false⟩] 0 [4, 5]) .ret) .skip)) (.seq (.seq (.reg [⟨(some 41), (.mov (.t 0)), none, false⟩, ⟨(some 42), (.len (.t 41)), none, false⟩, ⟨(some 43), (.bin .eql (.t 42) (.c (.int .i64 0))), none, false⟩] 0 [1, 43]) (.cond (.t 43) (.seq (.reg [⟨(some 44), (.mkrow 1 [(.int .i32 0)] 1 [(0, (.c (.int .i32 65533)))]), none, false⟩, ⟨(some 4), (.mov (.c (.sl 0 [] .nil))), none, false⟩, ⟨(some 5), (.mov (.t 44)), none, true⟩] 0 [4, 5]) .ret) .skip)) (.seq (.reg [⟨(some 46), (.mov (.t 1)), none, false⟩, ⟨(some 47), (.call 17 [(.c (.sl 0 [] .nil)), (.t 46)]), none, false⟩, ⟨(some 45), (.mov (.t 47)), none, false⟩, ⟨(some 48), (.ext (.t 45) 0), none, false⟩, ⟨(some 49), (.ext (.t 45) 1), none, false⟩, ⟨(some 9), (.mov (.t 48)), none, false⟩, ⟨(some 10), (.mov (.t 49)), none, false⟩] 0 [9, 10]) (.seq (.reg [⟨(some 50), (.mov (.t 9)), none, false⟩, ⟨(some 51), (.mkrow 1 [(.int .i32 0)] 1 [(0, (.c (.int .i32 65533)))]), none, false⟩, ⟨(some 52), (.mov (.t 10)), none, false⟩, ⟨(some 53), (.append 1 4 (.t 51) (.t 52)), none, false⟩, ⟨(some 4), (.mov (.t 50)), none, false⟩, ⟨(some 5), (.mov (.t 53)), none, true⟩] 0 [4, 5]) .ret)))))))), [(.t 4), (.t 5)]⟩
theorem rc_ustep_ok : compFn PG.P [⟨0, 0, [0, 1], []⟩, ⟨1, 0, [0, 1, 13], []⟩, ⟨2, 0, [0, 1], []⟩, ⟨3, 0, [0, 1, 6], [6]⟩, ⟨4, 0, [0, 1, 6, 7, 8], []⟩, ⟨5, 0, [0, 1, 6, 7, 35], []⟩, ⟨6, 0, [4, 5], [5]⟩, ⟨7, 0, [0, 1, 6, 39], []⟩, ⟨8, 0, [4, 5], []⟩, ⟨9, 0, [1, 43], []⟩, ⟨10, 0, [4, 5], [5]⟩, ⟨11, 0, [9, 10], []⟩, ⟨12, 0, [4, 5], [5]⟩] 17 = some rc_ustep := by kernel_rfl

def F_ubegins : List DV → Option FSpec
  | [a] => some ⟨isInts .u8 a, fun _ => (.bool (ubeg (intsD a)), [])⟩
  | _ => none
theorem F_ubegins_1 (a : DV) : F_ubegins [a] = some ⟨isInts .u8 a, fun _ => (.bool (ubeg (intsD a)), [])⟩ := nrfl _
theorem ubegins_ok (args : List DV) (s : FSpec) (hs : F_ubegins args = some s) (hp : s.pre) : PCalls PG 19 args fun n r os => r = (s.res n).1 ∧ os = (s.res n).2 := by
  unfold F_ubegins at hs
  split at hs
  · rename_i a
    obtain rfl := Option.some.inj hs
    obtain ⟨sa, ka, ha, ha2, ha3⟩ := isInts_inv hp
    have := ubegins_P (k := ka) ha2 ha3
    rw [← ha] at this
    exact this
  · cases hs
def T3 : List (Nat × (List DV → Option FSpec)) := (19, F_ubegins) :: T2
theorem T3_ok : FOk PG (tab T3) := FOk.cons T2_ok ubegins_ok

/-- A byte behind those that are pending (of which it's known whether they begin a rune). -/
def ustepA (p : List Int) (b : Int) : List Int × List Int :=
  if (dec (p ++ [b])).2 = ((p ++ [b]).length : Int) ∧ ((dec (p ++ [b])).1 ≠ 65533 ∨ 1 < (dec (p ++ [b])).2) then ([], [(dec (p ++ [b])).1])
  else if ubeg (p ++ [b]) = true then (p ++ [b], [])
  else ([], [65533])
def ustep (p : List Int) (b : Int) : List Int × List Int :=
  if ubeg p = false then ustepA [] b
  else if (dec (p ++ [b])).2 = ((p ++ [b]).length : Int) ∧ ((dec (p ++ [b])).1 ≠ 65533 ∨ 1 < (dec (p ++ [b])).2) then ([], [(dec (p ++ [b])).1])
  else if ubeg (p ++ [b]) = true then (p ++ [b], [])
  else ((ustepA [] b).1, 65533 :: (ustepA [] b).2)

theorem step0_P {sz : Nat} {b : Int} (hb : 0 ≤ b ∧ b ≤ 255) :
    PCalls PG 17 [.sl sz [] .nil, .int .u8 b] fun n r os => r = .tup [.sl 1 (intRows .u8 (ustepA [] b).1) .any, .sl 1 (intRows .i32 (ustepA [] b).2) .any] ∧ os = [] := by
  refine PCalls.by_fn (res := fun n => (.tup [.sl 1 (intRows .u8 (ustepA [] b).1) .any, .sl 1 (intRows .i32 (ustepA [] b).2) .any], [])) T3_ok rc_ustep_ok (by simp [rc_ustep]) fun n => ?_
  unfold rc_ustep T3 T2
  dsimp only
  simp -implicitDefEqProofs only [tab_cons, F_ubegins_1, F_decode_1, F_clone_nil, vcA1, vcA2, vcA3, vcA4, vcA5, vcA6, vcA7, ↓vcP1, ↓vcP2, ↓reduceIte, Option.map_some, Option.map_none, Option.bind_some, Option.bind_none, if_true, if_false, reduceCtorEq, beq_true, beq_false, Bool.not_true, Bool.not_false, BEq.rfl, Bool.true_beq, Bool.false_beq, and_true, true_and, and_self, decide_true, decide_false, List.length_cons, List.length_nil, List.all_cons, List.all_nil, Bool.and_true, Bool.and_self, List.getElem?_cons_zero, List.getElem?_cons_succ, List.set_cons_zero, List.set_cons_succ, List.nil_append, List.cons_append, List.append_nil, List.map_cons, List.map_nil, not_true_eq_false, not_false_eq_true, false_implies, true_implies, implies_true, List.take_succ_cons, List.take_zero, List.take_nil, List.drop_succ_cons, List.drop_zero, List.drop_nil, Nat.reduceLT, Nat.reduceLeDiff, Nat.reduceEqDiff, Nat.reduceAdd, Nat.reduceSub, Nat.reduceMul, Int.reduceLT, Int.reduceLE, Int.reduceEq, Int.reduceToNat, Int.reduceAdd, Int.reduceSub, Int.reduceNeg, List.reduceReplicate, List.replicate_zero, List.replicate_succ, ne_eq, List.flatMap_cons, List.flatMap_nil, List.length_replicate, List.length_append, Nat.le_refl, Nat.le_add_right, Nat.add_assoc, List.append_assoc, or_true, true_or, or_false, false_or, and_false, false_and, exists_eq_left, exists_eq_left', Option.some.injEq, DV.int.injEq, DV.bool.injEq, DV.sl.injEq, DV.own.injEq, DV.tup.injEq, List.cons.injEq, Ob.arr.injEq, Ob.box.injEq, Option.map_map, Int.toNat_natCast, Int.toNat_zero, Nat.reducePow, Int.toNat_one, Int.reduceMul, Nat.mul_one, Nat.zero_add, Nat.add_zero, Function.comp_apply, List.map_append, List.map_replicate, Int.cast_ofNat_Int, Nat.left_eq_add, Nat.add_eq_left, Nat.add_left_cancel_iff]
  have hi : inK .u8 [b] := inK_u8 (by simp) (by simpa using hb)
  have hz : ((0 : Nat) : Int) = 0 := rfl
  simp only [cnd_gen, hi, hz, true_and, not_true_eq_false, false_implies, and_true, ustepA, List.nil_append, List.length_cons, List.length_nil]
  have h1 : ((0 + 1 : Nat) : Int) = 1 := rfl
  simp only [h1]
  grind [intRows_nil]
def F_step0 : List DV → Option FSpec
  | [.sl sz [] .nil, .int .u8 b] => some ⟨0 ≤ b ∧ b ≤ 255, fun n => (.tup [.sl 1 (intRows .u8 (ustepA [] b).1) .any, .sl 1 (intRows .i32 (ustepA [] b).2) .any], [])⟩
  | _ => none
theorem F_step0_1 (sz : Nat) (b : Int) : F_step0 [.sl sz [] .nil, .int .u8 b] = some ⟨0 ≤ b ∧ b ≤ 255, fun n => (.tup [.sl 1 (intRows .u8 (ustepA [] b).1) .any, .sl 1 (intRows .i32 (ustepA [] b).2) .any], [])⟩ := nrfl _
theorem step0_ok (args : List DV) (s : FSpec) (hs : F_step0 args = some s) (hp : s.pre) : PCalls PG 17 args fun n r os => r = (s.res n).1 ∧ os = (s.res n).2 := by
  unfold F_step0 at hs
  split at hs
  · rename_i sz b
    obtain rfl := Option.some.inj hs
    exact step0_P hp
  · cases hs
def T4 : List (Nat × (List DV → Option FSpec)) := (17, F_step0) :: T3
theorem T4_ok : FOk PG (tab T4) := FOk.cons T3_ok step0_ok

theorem step_P {sz : Nat} {b : Int} {l : List Int} (hs : sz = 1 ∨ l = []) (hk : inK .u8 l) (hl : l.length ≤ 1000000) (hb : 0 ≤ b ∧ b ≤ 255) :
    PCalls PG 17 [.sl sz (intRows .u8 l) .nonnil, .int .u8 b] fun n r os => r = .tup [.sl 1 (intRows .u8 (ustep l b).1) .any, .sl 1 (intRows .i32 (ustep l b).2) .any] ∧ os = [] := by
  refine PCalls.by_fn (res := fun n => (.tup [.sl 1 (intRows .u8 (ustep l b).1) .any, .sl 1 (intRows .i32 (ustep l b).2) .any], [])) T4_ok rc_ustep_ok (by simp [rc_ustep]) fun n => ?_
  unfold rc_ustep T4 T3 T2
  dsimp only
  simp -implicitDefEqProofs only [tab_cons, F_ubegins_1, F_decode_1, F_clone_nil, F_clone_non, F_step0_1, vcA1, vcA2, vcA3, vcA4, vcA5, vcA6, vcA7, ↓vcP1, ↓vcP2, ↓reduceIte, Option.map_some, Option.map_none, Option.bind_some, Option.bind_none, if_true, if_false, reduceCtorEq, beq_true, beq_false, Bool.not_true, Bool.not_false, BEq.rfl, Bool.true_beq, Bool.false_beq, and_true, true_and, and_self, decide_true, decide_false, List.length_cons, List.length_nil, List.all_cons, List.all_nil, Bool.and_true, Bool.and_self, List.getElem?_cons_zero, List.getElem?_cons_succ, List.set_cons_zero, List.set_cons_succ, List.nil_append, List.cons_append, List.append_nil, List.map_cons, List.map_nil, not_true_eq_false, not_false_eq_true, false_implies, true_implies, implies_true, List.take_succ_cons, List.take_zero, List.take_nil, List.drop_succ_cons, List.drop_zero, List.drop_nil, Nat.reduceLT, Nat.reduceLeDiff, Nat.reduceEqDiff, Nat.reduceAdd, Nat.reduceSub, Nat.reduceMul, Int.reduceLT, Int.reduceLE, Int.reduceEq, Int.reduceToNat, Int.reduceAdd, Int.reduceSub, Int.reduceNeg, List.reduceReplicate, List.replicate_zero, List.replicate_succ, ne_eq, List.flatMap_cons, List.flatMap_nil, List.length_replicate, List.length_append, Nat.le_refl, Nat.le_add_right, Nat.add_assoc, List.append_assoc, or_true, true_or, or_false, false_or, and_false, false_and, exists_eq_left, exists_eq_left', Option.some.injEq, DV.int.injEq, DV.bool.injEq, DV.sl.injEq, DV.own.injEq, DV.tup.injEq, List.cons.injEq, Ob.arr.injEq, Ob.box.injEq, Option.map_map, Int.toNat_natCast, Int.toNat_zero, Nat.reducePow, Int.toNat_one, Int.reduceMul, Nat.mul_one, Nat.zero_add, Nat.add_zero, Function.comp_apply, List.map_append, List.map_replicate, Int.cast_ofNat_Int, Nat.left_eq_add, Nat.add_eq_left, Nat.add_left_cancel_iff]
  have hi : isInts .u8 (.sl sz (intRows .u8 l) .nonnil) := isInts_mk hs hk
  have hkb : inK .u8 [b] := inK_u8 (by simp) (by simpa using hb)
  have hka : inK .u8 (l ++ [b]) := hk.append hkb (by simp; omega)
  have ht : List.take (l.length + 1) (l ++ [b]) = l ++ [b] := List.take_of_length_le (by simp)
  have hx : ∀ X : List Int, (1 + X.length ≤ X.length + 1) = True := fun X => by simp [Nat.add_comm]
  have ht2 : ∀ X : List Int, List.take (1 + X.length) (65533 :: X) = 65533 :: X := fun X => List.take_of_length_le (by simp; omega)
  have hs1 : (ustepA [] b).2.length ≤ 1 := by unfold ustepA; split <;> (try split) <;> simp
  simp -implicitDefEqProofs only [hi, hb, ht, hx, ht2, hka, vcA1, vcA2, vcA3, vcA4, vcA5, vcA6, vcA7, ↓vcP1, ↓vcP2, ↓reduceIte, Option.map_some, Option.map_none, Option.bind_some, Option.bind_none, if_true, if_false, reduceCtorEq, beq_true, beq_false, Bool.not_true, Bool.not_false, BEq.rfl, Bool.true_beq, Bool.false_beq, and_true, true_and, and_self, decide_true, decide_false, List.length_cons, List.length_nil, List.all_cons, List.all_nil, Bool.and_true, Bool.and_self, List.getElem?_cons_zero, List.getElem?_cons_succ, List.set_cons_zero, List.set_cons_succ, List.nil_append, List.cons_append, List.append_nil, List.map_cons, List.map_nil, not_true_eq_false, not_false_eq_true, false_implies, true_implies, implies_true, List.take_succ_cons, List.take_zero, List.take_nil, List.drop_succ_cons, List.drop_zero, List.drop_nil, Nat.reduceLT, Nat.reduceLeDiff, Nat.reduceEqDiff, Nat.reduceAdd, Nat.reduceSub, Nat.reduceMul, Int.reduceLT, Int.reduceLE, Int.reduceEq, Int.reduceToNat, Int.reduceAdd, Int.reduceSub, Int.reduceNeg, List.reduceReplicate, List.replicate_zero, List.replicate_succ, ne_eq, List.flatMap_cons, List.flatMap_nil, List.length_replicate, List.length_append, Nat.le_refl, Nat.le_add_right, Nat.add_assoc, List.append_assoc, or_true, true_or, or_false, false_or, and_false, false_and, exists_eq_left, exists_eq_left', Option.some.injEq, DV.int.injEq, DV.bool.injEq, DV.sl.injEq, DV.own.injEq, DV.tup.injEq, List.cons.injEq, Ob.arr.injEq, Ob.box.injEq, Option.map_map, Int.toNat_natCast, Int.toNat_zero, Nat.reducePow, Int.toNat_one, Int.reduceMul, Nat.mul_one, Nat.zero_add, Nat.add_zero, Function.comp_apply, List.map_append, List.map_replicate, Int.cast_ofNat_Int, Nat.left_eq_add, Nat.add_eq_left, Nat.add_left_cancel_iff]
  simp only [cnd_gen, ustep, ustepA]
  have hlb : ((l ++ [b]).length : Int) = l.length + 1 := by simp
  have hlc : ((l.length + 1 : Nat) : Int) = l.length + 1 := by simp
  have h1 : ((0 + 1 : Nat) : Int) = 1 := rfl
  have hne : ubeg l = true → ¬ (l.length : Int) = 0 := fun h => by
    simp only [ubeg, Bool.and_eq_true, decide_eq_true_eq] at h
    omega
  rw [ustepA] at hs1
  simp only [hlb, hlc, List.nil_append, List.length_cons, List.length_nil, h1] at hs1 ⊢
  generalize dec (l ++ [b]) = D
  generalize ubeg (l ++ [b]) = U
  generalize dec [b] = D1 at hs1 ⊢
  generalize ubeg [b] = U1 at hs1 ⊢
  have hsl : ∀ h : ubeg l = true, sz = 1 := fun h => hs.resolve_right fun e => hne h (by simp [e])
  clear hx ht2 ht hk
  cases hu : ubeg l
  · simp only [if_true, Bool.true_eq_false, Bool.false_eq_true, if_false, false_implies, true_implies, true_and, and_true]
    (repeat' (first | assumption | intro _ | apply And.intro)) <;> first | omega | grind [intRows_nil]
  · generalize (if D1.2 = 1 ∧ (D1.1 ≠ 65533 ∨ 1 < D1.2) then (([], [D1.1]) : List Int × List Int) else if U1 = true then ([b], []) else ([], [65533])) = A at hs1 ⊢
    obtain ⟨d1, d2⟩ := D
    obtain ⟨a1, a2⟩ := A
    simp only [if_true, Bool.true_eq_false, Bool.false_eq_true, if_false, false_implies, true_implies, true_and, and_true]
    (repeat' (first | assumption | intro _ | apply And.intro)) <;> first | omega | (simp only at hs1; omega) | (split <;> grind [intRows_nil]) | grind [intRows_nil]

end Go.Proofs.YteemmpghpdaloaaDoor
