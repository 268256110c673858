/- The document's functions of chapter 3: 'whole'. -/
import Derived.Test.YteemmpghpdaloaaDoorP8
set_option linter.unusedVariables false
set_option linter.unusedSimpArgs false
set_option maxRecDepth 10000
namespace Go.Proofs.YteemmpghpdaloaaDoor
open Go.RowKit

noncomputable def rc_whole_l0 : RC := (.seq (.seq (.reg [⟨(some 51), (.mov (.t 8)), none, false⟩, ⟨(some 52), (.mov (.t 5)), none, false⟩, ⟨(some 53), (.bin .lss (.t 51) (.t 52)), none, false⟩] 0 [0, 5, 6, 7, 8, 53]) (.cond (.t 53) .skip (.ext 1))) (.seq (.blk 2 (.seq (.seq (.reg [⟨(some 56), (.mov (.t 0)), none, false⟩, ⟨(some 57), (.mov (.t 8)), none, false⟩, ⟨(some 58), (.iaddr 1 (.t 56) (.t 57)), none, false⟩, ⟨(some 59), (.load false 1 (.t 58)), none, false⟩, ⟨(some 60), (.bin .and (.t 59) (.c (.int .u8 192))), none, false⟩, ⟨(some 61), (.bin .neq (.t 60) (.c (.int .u8 128))), none, false⟩] 0 [0, 5, 6, 7, 8, 61]) (.cond (.t 61) (.seq (.reg [⟨(some 2), (.mov (.c (.int .i32 0))), none, false⟩, ⟨(some 3), (.mov (.c (.bool false))), none, false⟩] 0 [2, 3]) .ret) .skip)) (.reg [⟨(some 62), (.mov (.t 7)), none, false⟩, ⟨(some 63), (.bin .shl (.t 62) (.c (.int .u64 6))), none, false⟩, ⟨(some 64), (.mov (.t 0)), none, false⟩, ⟨(some 65), (.mov (.t 8)), none, false⟩, ⟨(some 66), (.iaddr 1 (.t 64) (.t 65)), none, false⟩, ⟨(some 67), (.load false 1 (.t 66)), none, false⟩, ⟨(some 68), (.bin .and (.t 67) (.c (.int .u8 63))), none, false⟩, ⟨(some 69), (.conv (.i2i .i32) (.t 68)), none, false⟩, ⟨(some 70), (.bin .or (.t 63) (.t 69)), none, false⟩, ⟨(some 7), (.mov (.t 70)), none, false⟩] 0 [0, 5, 6, 7, 8]))) (.reg [⟨(some 54), (.mov (.t 8)), none, false⟩, ⟨(some 55), (.bin .add (.t 54) (.c (.int .i64 1))), none, false⟩, ⟨(some 8), (.mov (.t 55)), none, false⟩] 0 [0, 5, 6, 7, 8])))
noncomputable def rc_whole : RFn := ⟨1, 79, (.seq (.reg [⟨(some 2), (.mov (.c (.int .i32 0))), none, false⟩, ⟨(some 3), (.mov (.c (.bool false))), none, false⟩] 0 [0]) (.seq (.reg [⟨(some 9), (.mov (.t 0)), none, false⟩, ⟨(some 10), (.iaddr 1 (.t 9) (.c (.int .i64 0))), none, false⟩, ⟨(some 11), (.load false 1 (.t 10)), none, false⟩, ⟨(some 4), (.mov (.t 11)), none, false⟩] 0 [0, 4]) (.seq (.reg [⟨(some 12), (.mov (.t 4)), none, false⟩, ⟨(some 13), (.conv (.i2i .i32) (.t 12)), none, false⟩, ⟨(some 5), (.mov (.c (.int .i64 1))), none, false⟩, ⟨(some 6), (.mov (.c (.int .i32 0))), none, false⟩, ⟨(some 7), (.mov (.t 13)), none, false⟩] 0 [0, 4, 5, 6, 7]) (.seq (.blk 0 (.seq (.reg [⟨(some 15), (.mov (.t 4)), none, false⟩, ⟨(some 16), (.bin .geq (.t 15) (.c (.int .u8 192))), none, false⟩, ⟨(some 17), (.mov (.t 16)), none, false⟩, ⟨(some 18), (.mov (.t 4)), (some (17, true)), false⟩, ⟨(some 19), (.bin .lss (.t 18) (.c (.int .u8 224))), (some (17, true)), false⟩, ⟨(some 20), (.pick (.t 17) (.t 19) (.c (.bool false))), none, false⟩, ⟨(some 14), (.mov (.t 20)), none, false⟩] 0 [0, 4, 5, 6, 7, 14]) (.cond (.t 14) (.reg [⟨(some 21), (.mov (.t 4)), none, false⟩, ⟨(some 22), (.bin .and (.t 21) (.c (.int .u8 31))), none, false⟩, ⟨(some 23), (.conv (.i2i .i32) (.t 22)), none, false⟩, ⟨(some 5), (.mov (.c (.int .i64 2))), none, false⟩, ⟨(some 6), (.mov (.c (.int .i32 128))), none, false⟩, ⟨(some 7), (.mov (.t 23)), none, false⟩] 0 [0, 5, 6, 7]) (.seq (.reg [⟨(some 25), (.mov (.t 4)), none, false⟩, ⟨(some 26), (.bin .geq (.t 25) (.c (.int .u8 224))), none, false⟩, ⟨(some 27), (.mov (.t 26)), none, false⟩, ⟨(some 28), (.mov (.t 4)), (some (27, true)), false⟩, ⟨(some 29), (.bin .lss (.t 28) (.c (.int .u8 240))), (some (27, true)), false⟩, ⟨(some 30), (.pick (.t 27) (.t 29) (.c (.bool false))), none, false⟩, ⟨(some 24), (.mov (.t 30)), none, false⟩] 0 [0, 4, 5, 6, 7, 24]) (.cond (.t 24) (.reg [⟨(some 31), (.mov (.t 4)), none, false⟩, ⟨(some 32), (.bin .and (.t 31) (.c (.int .u8 15))), none, false⟩, ⟨(some 33), (.conv (.i2i .i32) (.t 32)), none, false⟩, ⟨(some 5), (.mov (.c (.int .i64 3))), none, false⟩, ⟨(some 6), (.mov (.c (.int .i32 2048))), none, false⟩, ⟨(some 7), (.mov (.t 33)), none, false⟩] 0 [0, 5, 6, 7]) (.seq (.reg [⟨(some 35), (.mov (.t 4)), none, false⟩, ⟨(some 36), (.bin .geq (.t 35) (.c (.int .u8 240))), none, false⟩, ⟨(some 37), (.mov (.t 36)), none, false⟩, ⟨(some 38), (.mov (.t 4)), (some (37, true)), false⟩, ⟨(some 39), (.bin .lss (.t 38) (.c (.int .u8 248))), (some (37, true)), false⟩, ⟨(some 40), (.pick (.t 37) (.t 39) (.c (.bool false))), none, false⟩, ⟨(some 34), (.mov (.t 40)), none, false⟩] 0 [0, 4, 5, 6, 7, 34]) (.cond (.t 34) (.reg [⟨(some 41), (.mov (.t 4)), none, false⟩, ⟨(some 42), (.bin .and (.t 41) (.c (.int .u8 7))), none, false⟩, ⟨(some 43), (.conv (.i2i .i32) (.t 42)), none, false⟩, ⟨(some 5), (.mov (.c (.int .i64 4))), none, false⟩, ⟨(some 6), (.mov (.c (.int .i32 65536))), none, false⟩, ⟨(some 7), (.mov (.t 43)), none, false⟩] 0 [0, 5, 6, 7]) (.seq (.reg [⟨(some 45), (.mov (.t 4)), none, false⟩, ⟨(some 46), (.bin .geq (.t 45) (.c (.int .u8 128))), none, false⟩, ⟨(some 44), (.mov (.t 46)), none, false⟩] 0 [0, 5, 6, 7, 44]) (.cond (.t 44) (.seq (.reg [⟨(some 2), (.mov (.c (.int .i32 0))), none, false⟩, ⟨(some 3), (.mov (.c (.bool false))), none, false⟩] 0 [2, 3]) .ret) .skip))))))))) (.seq (.seq (.reg [⟨(some 47), (.mov (.t 0)), none, false⟩, ⟨(some 48), (.len (.t 47)), none, false⟩, ⟨(some 49), (.mov (.t 5)), none, false⟩, ⟨(some 50), (.bin .neq (.t 48) (.t 49)), none, false⟩] 0 [0, 5, 6, 7, 50]) (.cond (.t 50) (.seq (.reg [⟨(some 2), (.mov (.c (.int .i32 0))), none, false⟩, ⟨(some 3), (.mov (.c (.bool false))), none, false⟩] 0 [2, 3]) .ret) .skip)) (.seq (.seq (.reg [⟨(some 8), (.mov (.c (.int .i64 1))), none, false⟩] 0 [0, 5, 6, 7, 8]) (.blk 1 (.loop rc_whole_l0))) (.seq (.reg [⟨(some 71), (.mov (.t 7)), none, false⟩, ⟨(some 72), (.mov (.t 7)), none, false⟩, ⟨(some 73), (.mov (.t 6)), none, false⟩, ⟨(some 74), (.bin .geq (.t 72) (.t 73)), none, false⟩, ⟨(some 75), (.mov (.t 74)), none, false⟩, ⟨(some 76), (.mov (.t 7)), (some (75, true)), false⟩, ⟨(some 77), (.call 24 [(.t 76)]), (some (75, true)), false⟩, ⟨(some 78), (.pick (.t 75) (.t 77) (.c (.bool false))), none, false⟩, ⟨(some 2), (.mov (.t 71)), none, false⟩, ⟨(some 3), (.mov (.t 78)), none, false⟩] 0 [2, 3]) .ret))))))), [(.t 2), (.t 3)]⟩
theorem rc_whole_ok : compFn PG.P [⟨0, 0, [0], []⟩, ⟨1, 0, [0, 4], []⟩, ⟨2, 0, [0, 4, 5, 6, 7], []⟩, ⟨3, 0, [0, 4, 5, 6, 7, 14], []⟩, ⟨4, 0, [0, 5, 6, 7], []⟩, ⟨5, 0, [0, 4, 5, 6, 7, 24], []⟩, ⟨6, 0, [0, 5, 6, 7], []⟩, ⟨7, 0, [0, 4, 5, 6, 7, 34], []⟩, ⟨8, 0, [0, 5, 6, 7], []⟩, ⟨9, 0, [0, 5, 6, 7, 44], []⟩, ⟨10, 0, [2, 3], []⟩, ⟨11, 0, [0, 5, 6, 7, 50], []⟩, ⟨12, 0, [2, 3], []⟩, ⟨13, 0, [0, 5, 6, 7, 8], []⟩, ⟨14, 0, [0, 5, 6, 7, 8, 53], []⟩, ⟨15, 0, [0, 5, 6, 7, 8], []⟩, ⟨16, 0, [0, 5, 6, 7, 8, 61], []⟩, ⟨17, 0, [2, 3], []⟩, ⟨18, 0, [0, 5, 6, 7, 8], []⟩, ⟨19, 0, [2, 3], []⟩] 37 = some rc_whole := by kernel_rfl

theorem F_may_1 (r : Int) : F_may [.int .i32 r] = some ⟨True, fun _ => (.bool (may r), [])⟩ := nrfl _
theorem F_runes_1 (a b : DV) : F_runes [a, b] = some ⟨isInts .i32 a ∧ isInts .i32 b, fun _ => (.bool (decide (intsD a = intsD b)), [])⟩ := nrfl _
def F_put : List DV → Option FSpec
  | [.int .i32 r] => some ⟨(-2147483648 ≤ r ∧ r ≤ 2147483647) ∧ True, fun n => (.own n 0 (enc r).length, [some (.arr 1 (intRows .u8 (enc r)))])⟩
  | _ => none
theorem F_put_1 (r : Int) : F_put [.int .i32 r] = some ⟨(-2147483648 ≤ r ∧ r ≤ 2147483647) ∧ True, fun n => (.own n 0 (enc r).length, [some (.arr 1 (intRows .u8 (enc r)))])⟩ := nrfl _
theorem put_ok (args : List DV) (s : FSpec) (hs : F_put args = some s) (hp : s.pre) : PCalls PG 21 args fun n r os => r = (s.res n).1 ∧ os = (s.res n).2 := by
  unfold F_put at hs
  split at hs
  · rename_i r
    obtain rfl := Option.some.inj hs
    obtain ⟨hb_r, hp⟩ := hp
    have this := put_P  hb_r 
    exact this
  · cases hs

def F_uall : List DV → Option FSpec
  | [a_l] => some ⟨isInts .u8 a_l ∧ (intsD a_l).length ≤ 10000000, fun n => (.tup [.sl 1 (intRows .i32 (uallF (intsD a_l)).1) .any, .sl 1 (intRows .u8 (uallF (intsD a_l)).2) .any], [])⟩
  | _ => none
theorem F_uall_1 (a_l : DV) : F_uall [a_l] = some ⟨isInts .u8 a_l ∧ (intsD a_l).length ≤ 10000000, fun n => (.tup [.sl 1 (intRows .i32 (uallF (intsD a_l)).1) .any, .sl 1 (intRows .u8 (uallF (intsD a_l)).2) .any], [])⟩ := nrfl _
theorem uall_ok (args : List DV) (s : FSpec) (hs : F_uall args = some s) (hp : s.pre) : PCalls PG 14 args fun n r os => r = (s.res n).1 ∧ os = (s.res n).2 := by
  unfold F_uall at hs
  split at hs
  · rename_i a_l
    obtain rfl := Option.some.inj hs
    obtain ⟨hi_l, hp⟩ := hp
    obtain ⟨s0_l, k0_l, h1_l, h2_l, h3_l⟩ := isInts_inv hi_l
    have this := uall_P (k_l := k0_l) h2_l h3_l hp
    rw [← h1_l] at this
    exact this
  · cases hs

def F_rbegins : List DV → Option FSpec
  | [a_l] => some ⟨isInts .u8 a_l ∧ True, fun n => (.bool (ubeg (intsD a_l)), [])⟩
  | _ => none
theorem F_rbegins_1 (a_l : DV) : F_rbegins [a_l] = some ⟨isInts .u8 a_l ∧ True, fun n => (.bool (ubeg (intsD a_l)), [])⟩ := nrfl _
theorem rbegins_ok (args : List DV) (s : FSpec) (hs : F_rbegins args = some s) (hp : s.pre) : PCalls PG 20 args fun n r os => r = (s.res n).1 ∧ os = (s.res n).2 := by
  unfold F_rbegins at hs
  split at hs
  · rename_i a_l
    obtain rfl := Option.some.inj hs
    obtain ⟨hi_l, hp⟩ := hp
    obtain ⟨s0_l, k0_l, h1_l, h2_l, h3_l⟩ := isInts_inv hi_l
    have this := rbegins_P (k_l := k0_l) h2_l h3_l 
    rw [← h1_l] at this
    exact this
  · cases hs

def T10 : List (Nat × (List DV → Option FSpec)) := (21, F_put) :: (14, F_uall) :: (20, F_rbegins) :: T6
theorem T10_ok : FOk PG (tab T10) := FOk.cons (FOk.cons (FOk.cons (T6_ok) rbegins_ok) uall_ok) put_ok
theorem T10_at_put (args : List DV) : tab T10 21 args = F_put args := nrfl _
theorem T10_at_uall (args : List DV) : tab T10 14 args = F_uall args := nrfl _
theorem T10_at_rbegins (args : List DV) : tab T10 20 args = F_rbegins args := nrfl _
theorem T10_at_appRune (args : List DV) : tab T10 39 args = F_appRune args := nrfl _
theorem T10_at_appNon (args : List DV) : tab T10 50 args = F_appNon args := nrfl _
theorem T10_at_step (args : List DV) : tab T10 17 args = F_step args := nrfl _
theorem T10_at_ubegins (args : List DV) : tab T10 19 args = F_ubegins args := nrfl _
theorem T10_at_decode (args : List DV) : tab T10 36 args = F_decode args := nrfl _
theorem T10_at_full (args : List DV) : tab T10 38 args = F_full args := nrfl _
theorem T10_at_clone (args : List DV) : tab T10 35 args = F_clone args := nrfl _
theorem T10_at_slow (args : List DV) : tab T10 49 args = F_slow args := nrfl _
theorem T10_at_may (args : List DV) : tab T10 24 args = F_may args := nrfl _
theorem T10_at_runes (args : List DV) : tab T10 16 args = F_runes args := nrfl _
theorem T10_b : type_of% (And.intro @T10_at_put <| And.intro @F_put_1 <| And.intro @T10_at_uall <| And.intro @F_uall_1 <| And.intro @T10_at_rbegins <| And.intro @F_rbegins_1 <| And.intro @T10_at_appRune <| And.intro @F_appRune_1 <| And.intro @T10_at_appNon <| And.intro @F_appNon_1 <| And.intro @T10_at_step <| And.intro @F_step_1 <| And.intro @T10_at_ubegins <| And.intro @F_ubegins_1 <| And.intro @T10_at_decode <| And.intro @F_decode_1 <| And.intro @T10_at_full <| And.intro @F_full_1 <| And.intro @T10_at_clone <| And.intro @F_clone_nil <| And.intro @F_clone_non <| And.intro @T10_at_slow <| And.intro @F_slow_1 <| And.intro @T10_at_may <| And.intro @F_may_1 <| And.intro @T10_at_runes <| @F_runes_1) := And.intro @T10_at_put <| And.intro @F_put_1 <| And.intro @T10_at_uall <| And.intro @F_uall_1 <| And.intro @T10_at_rbegins <| And.intro @F_rbegins_1 <| And.intro @T10_at_appRune <| And.intro @F_appRune_1 <| And.intro @T10_at_appNon <| And.intro @F_appNon_1 <| And.intro @T10_at_step <| And.intro @F_step_1 <| And.intro @T10_at_ubegins <| And.intro @F_ubegins_1 <| And.intro @T10_at_decode <| And.intro @F_decode_1 <| And.intro @T10_at_full <| And.intro @F_full_1 <| And.intro @T10_at_clone <| And.intro @F_clone_nil <| And.intro @F_clone_non <| And.intro @T10_at_slow <| And.intro @F_slow_1 <| And.intro @T10_at_may <| And.intro @F_may_1 <| And.intro @T10_at_runes <| @F_runes_1


/-- The bits of bytes that go on. -/
def goOn : Int → List Int → Option Int
  | r, [] => some r
  | r, b :: l => if b % 256 / 64 * 64 = 128 then goOn (r * 64 + b % 64) l else none
def wholeF (l : List Int) : Int × Bool :=
  let c := l.getD 0 0
  let fin (n : Nat) (least r : Int) : Int × Bool := if (l.length : Int) = n then match goOn r (l.drop 1) with
    | some r => (r, decide (least ≤ r) && may r)
    | none => (0, false) else (0, false)
  if 192 ≤ c ∧ c < 224 then fin 2 128 (c % 32)
  else if 224 ≤ c ∧ c < 240 then fin 3 2048 (c % 16)
  else if 240 ≤ c ∧ c < 248 then fin 4 65536 (c % 8)
  else if 128 ≤ c then (0, false)
  else fin 1 0 c
theorem whole_loop {sz : Nat} {k : SK} {l : List Int} (hs : sz = 1) (hk : inK .u8 l) {N : Nat} {least r0 : Int} (hN : l.length = N) (h4 : N ≤ 4) (h1N : 1 ≤ N) (h0 : 0 ≤ r0) (h1 : r0 < 32 * 64 ^ (4 - N)) {n : Nat} {Q : Exit → St → Prop}
    (hf : goOn r0 (l.drop 1) = none → Q .ret ⟨[(2, .int .i32 0), (3, .bool false)], List.replicate n none⟩)
    (hq : ∀ r, goOn r0 (l.drop 1) = some r → 0 ≤ r → r ≤ 2147483647 → Q (.exit 1) ⟨[(0, .sl sz (intRows .u8 l) k), (5, .int .i64 N), (6, .int .i32 least), (7, .int .i32 r), (8, .int .i64 N), (53, .bool false)], List.replicate n none⟩) :
    LoopWp PG 79 rc_whole_l0 Q ⟨[(0, .sl sz (intRows .u8 l) k), (5, .int .i64 N), (6, .int .i32 least), (7, .int .i32 r0), (8, .int .i64 1)], List.replicate n none⟩ := by
  have hb0 : ∀ i, i < l.length → 0 ≤ l.getD i 0 ∧ l.getD i 0 ≤ 255 := fun i hi => by
    rw [List.getD_eq_getElem?_getD, List.getElem?_eq_getElem hi]
    exact hk.u8 (List.getElem_mem hi)
  refine LoopWp.inv T10_ok (S := fun x : Nat × Int => ⟨[(0, .sl sz (intRows .u8 l) k), (5, .int .i64 N), (6, .int .i32 least), (7, .int .i32 x.2), (8, .int .i64 x.1)], List.replicate n none⟩)
    (I := fun x => 1 ≤ x.1 ∧ x.1 ≤ N ∧ goOn r0 (l.drop 1) = goOn x.2 (l.drop x.1) ∧ 0 ≤ x.2 ∧ x.2 < 32 * 64 ^ (4 - N + x.1 - 1)) (μ := fun x => N - x.1) (1, r0) ⟨by omega, by omega, rfl, h0, by simpa using h1⟩ ?_ ?_
  · simp -implicitDefEqProofs only [vcA1, vcA2, vcA3, vcA4, vcA5, vcA6, vcA7, ↓vcP1, ↓vcP2, ↓reduceIte, Option.map_some, Option.map_none, Option.bind_some, Option.bind_none, if_true, if_false, reduceCtorEq, beq_true, beq_false, Bool.not_true, Bool.not_false, BEq.rfl, Bool.true_beq, Bool.false_beq, and_true, true_and, and_self, decide_true, decide_false, List.length_cons, List.length_nil, List.all_cons, List.all_nil, Bool.and_true, Bool.and_self, List.getElem?_cons_zero, List.getElem?_cons_succ, List.set_cons_zero, List.set_cons_succ, List.nil_append, List.cons_append, List.append_nil, List.map_cons, List.map_nil, not_true_eq_false, not_false_eq_true, false_implies, true_implies, implies_true, List.take_succ_cons, List.take_zero, List.take_nil, List.drop_succ_cons, List.drop_zero, List.drop_nil, Nat.reduceLT, Nat.reduceLeDiff, Nat.reduceEqDiff, Nat.reduceAdd, Nat.reduceSub, Nat.reduceMul, Int.reduceLT, Int.reduceLE, Int.reduceEq, Int.reduceToNat, Int.reduceAdd, Int.reduceSub, Int.reduceNeg, List.reduceReplicate, List.replicate_zero, List.replicate_succ, ne_eq, List.flatMap_cons, List.flatMap_nil, List.length_replicate, List.length_append, Nat.le_refl, Nat.le_add_right, Nat.add_assoc, List.append_assoc, or_true, true_or, or_false, false_or, and_false, false_and, exists_eq_left, exists_eq_left', Option.some.injEq, DV.int.injEq, DV.bool.injEq, DV.sl.injEq, DV.own.injEq, DV.tup.injEq, List.cons.injEq, Ob.arr.injEq, Ob.box.injEq, Option.map_map, Int.toNat_natCast, Int.toNat_zero, Nat.reducePow, Int.toNat_one, Int.reduceMul, Nat.mul_one, Nat.zero_add, Nat.add_zero, Function.comp_apply, List.map_append, List.map_replicate, Int.cast_ofNat_Int, Nat.left_eq_add, Nat.add_eq_left, Nat.add_left_cancel_iff]
  · intro ⟨i, r⟩ ⟨i1, i2, i3, i4, i5⟩
    unfold rc_whole_l0
    dsimp only at *
    simp -implicitDefEqProofs only [and192_u8, and63_u8, shl_i32_6, vcA1, vcA2, vcA3, vcA4, vcA5, vcA6, vcA7, ↓vcP1, ↓vcP2, ↓reduceIte, Option.map_some, Option.map_none, Option.bind_some, Option.bind_none, if_true, if_false, reduceCtorEq, beq_true, beq_false, Bool.not_true, Bool.not_false, BEq.rfl, Bool.true_beq, Bool.false_beq, and_true, true_and, and_self, decide_true, decide_false, List.length_cons, List.length_nil, List.all_cons, List.all_nil, Bool.and_true, Bool.and_self, List.getElem?_cons_zero, List.getElem?_cons_succ, List.set_cons_zero, List.set_cons_succ, List.nil_append, List.cons_append, List.append_nil, List.map_cons, List.map_nil, not_true_eq_false, not_false_eq_true, false_implies, true_implies, implies_true, List.take_succ_cons, List.take_zero, List.take_nil, List.drop_succ_cons, List.drop_zero, List.drop_nil, Nat.reduceLT, Nat.reduceLeDiff, Nat.reduceEqDiff, Nat.reduceAdd, Nat.reduceSub, Nat.reduceMul, Int.reduceLT, Int.reduceLE, Int.reduceEq, Int.reduceToNat, Int.reduceAdd, Int.reduceSub, Int.reduceNeg, List.reduceReplicate, List.replicate_zero, List.replicate_succ, ne_eq, List.flatMap_cons, List.flatMap_nil, List.length_replicate, List.length_append, Nat.le_refl, Nat.le_add_right, Nat.add_assoc, List.append_assoc, or_true, true_or, or_false, false_or, and_false, false_and, exists_eq_left, exists_eq_left', Option.some.injEq, DV.int.injEq, DV.bool.injEq, DV.sl.injEq, DV.own.injEq, DV.tup.injEq, List.cons.injEq, Ob.arr.injEq, Ob.box.injEq, Option.map_map, Int.toNat_natCast, Int.toNat_zero, Nat.reducePow, Int.toNat_one, Int.reduceMul, Nat.mul_one, Nat.zero_add, Nat.add_zero, Function.comp_apply, List.map_append, List.map_replicate, Int.cast_ofNat_Int, Nat.left_eq_add, Nat.add_eq_left, Nat.add_left_cancel_iff]
    have hp : (64 : Int) ^ (4 - N + i - 1) ≤ 64 ^ (3 : Nat) := by
      have : 4 - N + i - 1 = 0 ∨ 4 - N + i - 1 = 1 ∨ 4 - N + i - 1 = 2 ∨ 4 - N + i - 1 = 3 := by omega
      rcases this with e | e | e | e <;> rw [e] <;> decide
    have hr : r < 8388608 := by omega
    refine ⟨fun h => ?_, fun h => ?_⟩
    · have hi : i < l.length := by omega
      have hd : l.drop i = l.getD i 0 :: l.drop (i + 1) := by rw [List.getD_eq_getElem?_getD, List.getElem?_eq_getElem hi, List.drop_eq_getElem_cons hi]; rfl
      refine ⟨⟨by omega, by omega, hs⟩, hi, fun hc => ⟨⟨by omega, by omega, hs⟩, hi, (i + 1, r * 64 + l.getD i 0 % 64), ⟨?_, by rw [wI64] <;> omega⟩, ⟨by omega, by omega, ?_, by omega, ?_⟩, by omega⟩, fun hc => ?_⟩
      · have hp2 : (64 : Int) ^ (4 - N + i - 1) ≤ 64 ^ (2 : Nat) := by
          have : 4 - N + i - 1 = 0 ∨ 4 - N + i - 1 = 1 ∨ 4 - N + i - 1 = 2 := by omega
          rcases this with e | e | e <;> rw [e] <;> decide
        have hr2 : r < 131072 := by omega
        have e6 : IntKind.i32.wrap (r * 2 ^ min 6 IntKind.i32.bits) = r * 64 := (shl_i32_6 r).trans (wI32 (by omega) (by omega))
        rw [e6, wI32 (n := l.getD i 0 % 64) (by omega) (by omega)]
        exact or_i32 6 _ _ (by omega) (by omega) (by omega) (by omega) (by omega)
      · show _ = goOn (r * 64 + l.getD i 0 % 64) (l.drop (i + 1))
        rw [i3, hd, goOn, if_pos hc]
      · show r * 64 + l.getD i 0 % 64 < 32 * 64 ^ (4 - N + (i + 1) - 1)
        have : 4 - N + (i + 1) - 1 = (4 - N + i - 1) + 1 := by omega
        rw [this, Int.pow_succ]
        omega
      · apply hf
        rw [i3, hd, goOn, if_neg hc]
    · have hi : i = N := by omega
      subst hi
      have := hq r (by rw [i3, List.drop_of_length_le (by omega)]; rfl) i4 (by omega)
      exact this
theorem whole_P {sz : Nat} {k_l : SK} {l : List Int} (hs0 : sz = 1 ∨ l = []) (hk : inK .u8 l) (hl : 0 < l.length) :
    PCalls PG 37 [.sl sz (intRows .u8 l) k_l] fun n r os => r = .tup [.int .i32 (wholeF l).1, .bool (wholeF l).2] ∧ os = [] := by
  have hs : sz = 1 := hs0.resolve_right fun e => by simp [e] at hl
  refine PCalls.by_fn (res := fun n => (.tup [.int .i32 (wholeF l).1, .bool (wholeF l).2], [])) T10_ok rc_whole_ok (by simp [rc_whole]) fun n => ?_
  unfold rc_whole
  dsimp only
  simp -implicitDefEqProofs only [T10_b, and7_u8, and15_u8, and31_u8, and63_u8, vcA1, vcA2, vcA3, vcA4, vcA5, vcA6, vcA7, ↓vcP1, ↓vcP2, ↓reduceIte, Option.map_some, Option.map_none, Option.bind_some, Option.bind_none, if_true, if_false, reduceCtorEq, beq_true, beq_false, Bool.not_true, Bool.not_false, BEq.rfl, Bool.true_beq, Bool.false_beq, and_true, true_and, and_self, decide_true, decide_false, List.length_cons, List.length_nil, List.all_cons, List.all_nil, Bool.and_true, Bool.and_self, List.getElem?_cons_zero, List.getElem?_cons_succ, List.set_cons_zero, List.set_cons_succ, List.nil_append, List.cons_append, List.append_nil, List.map_cons, List.map_nil, not_true_eq_false, not_false_eq_true, false_implies, true_implies, implies_true, List.take_succ_cons, List.take_zero, List.take_nil, List.drop_succ_cons, List.drop_zero, List.drop_nil, Nat.reduceLT, Nat.reduceLeDiff, Nat.reduceEqDiff, Nat.reduceAdd, Nat.reduceSub, Nat.reduceMul, Int.reduceLT, Int.reduceLE, Int.reduceEq, Int.reduceToNat, Int.reduceAdd, Int.reduceSub, Int.reduceNeg, List.reduceReplicate, List.replicate_zero, List.replicate_succ, ne_eq, List.flatMap_cons, List.flatMap_nil, List.length_replicate, List.length_append, Nat.le_refl, Nat.le_add_right, Nat.add_assoc, List.append_assoc, or_true, true_or, or_false, false_or, and_false, false_and, exists_eq_left, exists_eq_left', Option.some.injEq, DV.int.injEq, DV.bool.injEq, DV.sl.injEq, DV.own.injEq, DV.tup.injEq, List.cons.injEq, Ob.arr.injEq, Ob.box.injEq, Option.map_map, Int.toNat_natCast, Int.toNat_zero, Nat.reducePow, Int.toNat_one, Int.reduceMul, Nat.mul_one, Nat.zero_add, Nat.add_zero, Function.comp_apply, List.map_append, List.map_replicate, Int.cast_ofNat_Int, Nat.left_eq_add, Nat.add_eq_left, Nat.add_left_cancel_iff]
  have hb0 : 0 ≤ l.getD 0 0 ∧ l.getD 0 0 ≤ 255 := by
    rw [List.getD_eq_getElem?_getD, List.getElem?_eq_getElem hl]
    exact hk.u8 (List.getElem_mem hl)
  have w1 : ∀ m : Int, 0 < m → m ≤ 256 → IntKind.i32.wrap (l.getD 0 0 % m) = l.getD 0 0 % m := fun m h h2 => by
    have := Int.emod_lt_of_pos (l.getD 0 0) h
    have := Int.emod_nonneg (l.getD 0 0) (Int.ne_of_gt h)
    exact wI32 (by omega) (by omega)
  have w2 : IntKind.i32.wrap (l.getD 0 0) = l.getD 0 0 := wI32 (by omega) (by omega)
  rw [w1 32 (by omega) (by omega), w1 16 (by omega) (by omega), w1 8 (by omega) (by omega), w2]
  refine ⟨⟨by omega, hs⟩, hl, fun c1 => ⟨fun c2 => ⟨fun e => ?_, fun e => ?_⟩, fun c2 => ⟨fun c3 => ⟨fun c4 => ⟨fun e => ?_, fun e => ?_⟩, fun c4 => ⟨fun c5 => ⟨fun c6 => ⟨fun e => ?_, fun e => ?_⟩, fun c6 => ?_⟩, fun c5 => ?_⟩⟩, fun c3 => ?_⟩⟩, fun c1 => ?_⟩
  · have hW : wholeF l = (match goOn (l.getD 0 0 % 32) (l.drop 1) with
      | some r => (r, decide (128 ≤ r) && may r)
      | none => (0, false)) := by simp only [wholeF]; rw [if_pos ⟨c1, c2⟩, if_pos (by omega)]
    refine whole_loop hs hk (N := 2) (by omega) (by omega) (by omega) (by omega) (by simp; omega) (fun h => ?_) fun r h a b => ?_
    · rw [h] at hW
      simp -implicitDefEqProofs only [hW, vcA1, vcA2, vcA3, vcA4, vcA5, vcA6, vcA7, ↓vcP1, ↓vcP2, ↓reduceIte, Option.map_some, Option.map_none, Option.bind_some, Option.bind_none, if_true, if_false, reduceCtorEq, beq_true, beq_false, Bool.not_true, Bool.not_false, BEq.rfl, Bool.true_beq, Bool.false_beq, and_true, true_and, and_self, decide_true, decide_false, List.length_cons, List.length_nil, List.all_cons, List.all_nil, Bool.and_true, Bool.and_self, List.getElem?_cons_zero, List.getElem?_cons_succ, List.set_cons_zero, List.set_cons_succ, List.nil_append, List.cons_append, List.append_nil, List.map_cons, List.map_nil, not_true_eq_false, not_false_eq_true, false_implies, true_implies, implies_true, List.take_succ_cons, List.take_zero, List.take_nil, List.drop_succ_cons, List.drop_zero, List.drop_nil, Nat.reduceLT, Nat.reduceLeDiff, Nat.reduceEqDiff, Nat.reduceAdd, Nat.reduceSub, Nat.reduceMul, Int.reduceLT, Int.reduceLE, Int.reduceEq, Int.reduceToNat, Int.reduceAdd, Int.reduceSub, Int.reduceNeg, List.reduceReplicate, List.replicate_zero, List.replicate_succ, ne_eq, List.flatMap_cons, List.flatMap_nil, List.length_replicate, List.length_append, Nat.le_refl, Nat.le_add_right, Nat.add_assoc, List.append_assoc, or_true, true_or, or_false, false_or, and_false, false_and, exists_eq_left, exists_eq_left', Option.some.injEq, DV.int.injEq, DV.bool.injEq, DV.sl.injEq, DV.own.injEq, DV.tup.injEq, List.cons.injEq, Ob.arr.injEq, Ob.box.injEq, Option.map_map, Int.toNat_natCast, Int.toNat_zero, Nat.reducePow, Int.toNat_one, Int.reduceMul, Nat.mul_one, Nat.zero_add, Nat.add_zero, Function.comp_apply, List.map_append, List.map_replicate, Int.cast_ofNat_Int, Nat.left_eq_add, Nat.add_eq_left, Nat.add_left_cancel_iff]
    · rw [h] at hW
      simp -implicitDefEqProofs only [T10_b, hW, vcA1, vcA2, vcA3, vcA4, vcA5, vcA6, vcA7, ↓vcP1, ↓vcP2, ↓reduceIte, Option.map_some, Option.map_none, Option.bind_some, Option.bind_none, if_true, if_false, reduceCtorEq, beq_true, beq_false, Bool.not_true, Bool.not_false, BEq.rfl, Bool.true_beq, Bool.false_beq, and_true, true_and, and_self, decide_true, decide_false, List.length_cons, List.length_nil, List.all_cons, List.all_nil, Bool.and_true, Bool.and_self, List.getElem?_cons_zero, List.getElem?_cons_succ, List.set_cons_zero, List.set_cons_succ, List.nil_append, List.cons_append, List.append_nil, List.map_cons, List.map_nil, not_true_eq_false, not_false_eq_true, false_implies, true_implies, implies_true, List.take_succ_cons, List.take_zero, List.take_nil, List.drop_succ_cons, List.drop_zero, List.drop_nil, Nat.reduceLT, Nat.reduceLeDiff, Nat.reduceEqDiff, Nat.reduceAdd, Nat.reduceSub, Nat.reduceMul, Int.reduceLT, Int.reduceLE, Int.reduceEq, Int.reduceToNat, Int.reduceAdd, Int.reduceSub, Int.reduceNeg, List.reduceReplicate, List.replicate_zero, List.replicate_succ, ne_eq, List.flatMap_cons, List.flatMap_nil, List.length_replicate, List.length_append, Nat.le_refl, Nat.le_add_right, Nat.add_assoc, List.append_assoc, or_true, true_or, or_false, false_or, and_false, false_and, exists_eq_left, exists_eq_left', Option.some.injEq, DV.int.injEq, DV.bool.injEq, DV.sl.injEq, DV.own.injEq, DV.tup.injEq, List.cons.injEq, Ob.arr.injEq, Ob.box.injEq, Option.map_map, Int.toNat_natCast, Int.toNat_zero, Nat.reducePow, Int.toNat_one, Int.reduceMul, Nat.mul_one, Nat.zero_add, Nat.add_zero, Function.comp_apply, List.map_append, List.map_replicate, Int.cast_ofNat_Int, Nat.left_eq_add, Nat.add_eq_left, Nat.add_left_cancel_iff]
      grind
  · have hW : wholeF l = (0, false) := by simp only [wholeF]; rw [if_pos ⟨c1, c2⟩, if_neg (by omega)]
    rw [hW]; exact ⟨rfl, rfl⟩
  · have hW : wholeF l = (match goOn (l.getD 0 0 % 16) (l.drop 1) with
      | some r => (r, decide (2048 ≤ r) && may r)
      | none => (0, false)) := by simp only [wholeF]; rw [if_neg (by omega), if_pos ⟨c3, c4⟩, if_pos (by omega)]
    refine whole_loop hs hk (N := 3) (by omega) (by omega) (by omega) (by omega) (by simp; omega) (fun h => ?_) fun r h a b => ?_
    · rw [h] at hW
      simp -implicitDefEqProofs only [hW, vcA1, vcA2, vcA3, vcA4, vcA5, vcA6, vcA7, ↓vcP1, ↓vcP2, ↓reduceIte, Option.map_some, Option.map_none, Option.bind_some, Option.bind_none, if_true, if_false, reduceCtorEq, beq_true, beq_false, Bool.not_true, Bool.not_false, BEq.rfl, Bool.true_beq, Bool.false_beq, and_true, true_and, and_self, decide_true, decide_false, List.length_cons, List.length_nil, List.all_cons, List.all_nil, Bool.and_true, Bool.and_self, List.getElem?_cons_zero, List.getElem?_cons_succ, List.set_cons_zero, List.set_cons_succ, List.nil_append, List.cons_append, List.append_nil, List.map_cons, List.map_nil, not_true_eq_false, not_false_eq_true, false_implies, true_implies, implies_true, List.take_succ_cons, List.take_zero, List.take_nil, List.drop_succ_cons, List.drop_zero, List.drop_nil, Nat.reduceLT, Nat.reduceLeDiff, Nat.reduceEqDiff, Nat.reduceAdd, Nat.reduceSub, Nat.reduceMul, Int.reduceLT, Int.reduceLE, Int.reduceEq, Int.reduceToNat, Int.reduceAdd, Int.reduceSub, Int.reduceNeg, List.reduceReplicate, List.replicate_zero, List.replicate_succ, ne_eq, List.flatMap_cons, List.flatMap_nil, List.length_replicate, List.length_append, Nat.le_refl, Nat.le_add_right, Nat.add_assoc, List.append_assoc, or_true, true_or, or_false, false_or, and_false, false_and, exists_eq_left, exists_eq_left', Option.some.injEq, DV.int.injEq, DV.bool.injEq, DV.sl.injEq, DV.own.injEq, DV.tup.injEq, List.cons.injEq, Ob.arr.injEq, Ob.box.injEq, Option.map_map, Int.toNat_natCast, Int.toNat_zero, Nat.reducePow, Int.toNat_one, Int.reduceMul, Nat.mul_one, Nat.zero_add, Nat.add_zero, Function.comp_apply, List.map_append, List.map_replicate, Int.cast_ofNat_Int, Nat.left_eq_add, Nat.add_eq_left, Nat.add_left_cancel_iff]
    · rw [h] at hW
      simp -implicitDefEqProofs only [T10_b, hW, vcA1, vcA2, vcA3, vcA4, vcA5, vcA6, vcA7, ↓vcP1, ↓vcP2, ↓reduceIte, Option.map_some, Option.map_none, Option.bind_some, Option.bind_none, if_true, if_false, reduceCtorEq, beq_true, beq_false, Bool.not_true, Bool.not_false, BEq.rfl, Bool.true_beq, Bool.false_beq, and_true, true_and, and_self, decide_true, decide_false, List.length_cons, List.length_nil, List.all_cons, List.all_nil, Bool.and_true, Bool.and_self, List.getElem?_cons_zero, List.getElem?_cons_succ, List.set_cons_zero, List.set_cons_succ, List.nil_append, List.cons_append, List.append_nil, List.map_cons, List.map_nil, not_true_eq_false, not_false_eq_true, false_implies, true_implies, implies_true, List.take_succ_cons, List.take_zero, List.take_nil, List.drop_succ_cons, List.drop_zero, List.drop_nil, Nat.reduceLT, Nat.reduceLeDiff, Nat.reduceEqDiff, Nat.reduceAdd, Nat.reduceSub, Nat.reduceMul, Int.reduceLT, Int.reduceLE, Int.reduceEq, Int.reduceToNat, Int.reduceAdd, Int.reduceSub, Int.reduceNeg, List.reduceReplicate, List.replicate_zero, List.replicate_succ, ne_eq, List.flatMap_cons, List.flatMap_nil, List.length_replicate, List.length_append, Nat.le_refl, Nat.le_add_right, Nat.add_assoc, List.append_assoc, or_true, true_or, or_false, false_or, and_false, false_and, exists_eq_left, exists_eq_left', Option.some.injEq, DV.int.injEq, DV.bool.injEq, DV.sl.injEq, DV.own.injEq, DV.tup.injEq, List.cons.injEq, Ob.arr.injEq, Ob.box.injEq, Option.map_map, Int.toNat_natCast, Int.toNat_zero, Nat.reducePow, Int.toNat_one, Int.reduceMul, Nat.mul_one, Nat.zero_add, Nat.add_zero, Function.comp_apply, List.map_append, List.map_replicate, Int.cast_ofNat_Int, Nat.left_eq_add, Nat.add_eq_left, Nat.add_left_cancel_iff]
      grind
  · have hW : wholeF l = (0, false) := by simp only [wholeF]; rw [if_neg (by omega), if_pos ⟨c3, c4⟩, if_neg (by omega)]
    rw [hW]; exact ⟨rfl, rfl⟩
  · have hW : wholeF l = (match goOn (l.getD 0 0 % 8) (l.drop 1) with
      | some r => (r, decide (65536 ≤ r) && may r)
      | none => (0, false)) := by simp only [wholeF]; rw [if_neg (by omega), if_neg (by omega), if_pos ⟨c5, c6⟩, if_pos (by omega)]
    refine whole_loop hs hk (N := 4) (by omega) (by omega) (by omega) (by omega) (by simp; omega) (fun h => ?_) fun r h a b => ?_
    · rw [h] at hW
      simp -implicitDefEqProofs only [hW, vcA1, vcA2, vcA3, vcA4, vcA5, vcA6, vcA7, ↓vcP1, ↓vcP2, ↓reduceIte, Option.map_some, Option.map_none, Option.bind_some, Option.bind_none, if_true, if_false, reduceCtorEq, beq_true, beq_false, Bool.not_true, Bool.not_false, BEq.rfl, Bool.true_beq, Bool.false_beq, and_true, true_and, and_self, decide_true, decide_false, List.length_cons, List.length_nil, List.all_cons, List.all_nil, Bool.and_true, Bool.and_self, List.getElem?_cons_zero, List.getElem?_cons_succ, List.set_cons_zero, List.set_cons_succ, List.nil_append, List.cons_append, List.append_nil, List.map_cons, List.map_nil, not_true_eq_false, not_false_eq_true, false_implies, true_implies, implies_true, List.take_succ_cons, List.take_zero, List.take_nil, List.drop_succ_cons, List.drop_zero, List.drop_nil, Nat.reduceLT, Nat.reduceLeDiff, Nat.reduceEqDiff, Nat.reduceAdd, Nat.reduceSub, Nat.reduceMul, Int.reduceLT, Int.reduceLE, Int.reduceEq, Int.reduceToNat, Int.reduceAdd, Int.reduceSub, Int.reduceNeg, List.reduceReplicate, List.replicate_zero, List.replicate_succ, ne_eq, List.flatMap_cons, List.flatMap_nil, List.length_replicate, List.length_append, Nat.le_refl, Nat.le_add_right, Nat.add_assoc, List.append_assoc, or_true, true_or, or_false, false_or, and_false, false_and, exists_eq_left, exists_eq_left', Option.some.injEq, DV.int.injEq, DV.bool.injEq, DV.sl.injEq, DV.own.injEq, DV.tup.injEq, List.cons.injEq, Ob.arr.injEq, Ob.box.injEq, Option.map_map, Int.toNat_natCast, Int.toNat_zero, Nat.reducePow, Int.toNat_one, Int.reduceMul, Nat.mul_one, Nat.zero_add, Nat.add_zero, Function.comp_apply, List.map_append, List.map_replicate, Int.cast_ofNat_Int, Nat.left_eq_add, Nat.add_eq_left, Nat.add_left_cancel_iff]
    · rw [h] at hW
      simp -implicitDefEqProofs only [T10_b, hW, vcA1, vcA2, vcA3, vcA4, vcA5, vcA6, vcA7, ↓vcP1, ↓vcP2, ↓reduceIte, Option.map_some, Option.map_none, Option.bind_some, Option.bind_none, if_true, if_false, reduceCtorEq, beq_true, beq_false, Bool.not_true, Bool.not_false, BEq.rfl, Bool.true_beq, Bool.false_beq, and_true, true_and, and_self, decide_true, decide_false, List.length_cons, List.length_nil, List.all_cons, List.all_nil, Bool.and_true, Bool.and_self, List.getElem?_cons_zero, List.getElem?_cons_succ, List.set_cons_zero, List.set_cons_succ, List.nil_append, List.cons_append, List.append_nil, List.map_cons, List.map_nil, not_true_eq_false, not_false_eq_true, false_implies, true_implies, implies_true, List.take_succ_cons, List.take_zero, List.take_nil, List.drop_succ_cons, List.drop_zero, List.drop_nil, Nat.reduceLT, Nat.reduceLeDiff, Nat.reduceEqDiff, Nat.reduceAdd, Nat.reduceSub, Nat.reduceMul, Int.reduceLT, Int.reduceLE, Int.reduceEq, Int.reduceToNat, Int.reduceAdd, Int.reduceSub, Int.reduceNeg, List.reduceReplicate, List.replicate_zero, List.replicate_succ, ne_eq, List.flatMap_cons, List.flatMap_nil, List.length_replicate, List.length_append, Nat.le_refl, Nat.le_add_right, Nat.add_assoc, List.append_assoc, or_true, true_or, or_false, false_or, and_false, false_and, exists_eq_left, exists_eq_left', Option.some.injEq, DV.int.injEq, DV.bool.injEq, DV.sl.injEq, DV.own.injEq, DV.tup.injEq, List.cons.injEq, Ob.arr.injEq, Ob.box.injEq, Option.map_map, Int.toNat_natCast, Int.toNat_zero, Nat.reducePow, Int.toNat_one, Int.reduceMul, Nat.mul_one, Nat.zero_add, Nat.add_zero, Function.comp_apply, List.map_append, List.map_replicate, Int.cast_ofNat_Int, Nat.left_eq_add, Nat.add_eq_left, Nat.add_left_cancel_iff]
      grind
  · have hW : wholeF l = (0, false) := by simp only [wholeF]; rw [if_neg (by omega), if_neg (by omega), if_pos ⟨c5, c6⟩, if_neg (by omega)]
    rw [hW]; exact ⟨rfl, rfl⟩
  case refine_10 =>
    have f1 : (224 ≤ l.getD 0 0) = False := eq_false (by omega)
    have f2 : (240 ≤ l.getD 0 0) = False := eq_false (by omega)
    simp only [f1, f2, false_implies, true_and, not_false_eq_true, true_implies]
    refine ⟨fun c => ?_, fun c => ⟨fun e => ?_, fun e => ?_⟩⟩
    · have hW : wholeF l = (0, false) := by simp only [wholeF]; rw [if_neg (by omega), if_neg (by omega), if_neg (by omega), if_pos c]
      rw [hW]; exact ⟨rfl, rfl⟩
    · have hW : wholeF l = (match goOn (l.getD 0 0) (l.drop 1) with
        | some r => (r, decide (0 ≤ r) && may r)
        | none => (0, false)) := by simp only [wholeF]; rw [if_neg (by omega), if_neg (by omega), if_neg (by omega), if_neg c, if_pos (by omega)]
      refine whole_loop hs hk (N := 1) (by omega) (by omega) (by omega) (by omega) (by have : (64 : Int) ^ (4 - 1) = 262144 := rfl; omega) (fun h => ?_) fun r h a b => ?_
      · rw [h] at hW
        simp -implicitDefEqProofs only [hW, vcA1, vcA2, vcA3, vcA4, vcA5, vcA6, vcA7, ↓vcP1, ↓vcP2, ↓reduceIte, Option.map_some, Option.map_none, Option.bind_some, Option.bind_none, if_true, if_false, reduceCtorEq, beq_true, beq_false, Bool.not_true, Bool.not_false, BEq.rfl, Bool.true_beq, Bool.false_beq, and_true, true_and, and_self, decide_true, decide_false, List.length_cons, List.length_nil, List.all_cons, List.all_nil, Bool.and_true, Bool.and_self, List.getElem?_cons_zero, List.getElem?_cons_succ, List.set_cons_zero, List.set_cons_succ, List.nil_append, List.cons_append, List.append_nil, List.map_cons, List.map_nil, not_true_eq_false, not_false_eq_true, false_implies, true_implies, implies_true, List.take_succ_cons, List.take_zero, List.take_nil, List.drop_succ_cons, List.drop_zero, List.drop_nil, Nat.reduceLT, Nat.reduceLeDiff, Nat.reduceEqDiff, Nat.reduceAdd, Nat.reduceSub, Nat.reduceMul, Int.reduceLT, Int.reduceLE, Int.reduceEq, Int.reduceToNat, Int.reduceAdd, Int.reduceSub, Int.reduceNeg, List.reduceReplicate, List.replicate_zero, List.replicate_succ, ne_eq, List.flatMap_cons, List.flatMap_nil, List.length_replicate, List.length_append, Nat.le_refl, Nat.le_add_right, Nat.add_assoc, List.append_assoc, or_true, true_or, or_false, false_or, and_false, false_and, exists_eq_left, exists_eq_left', Option.some.injEq, DV.int.injEq, DV.bool.injEq, DV.sl.injEq, DV.own.injEq, DV.tup.injEq, List.cons.injEq, Ob.arr.injEq, Ob.box.injEq, Option.map_map, Int.toNat_natCast, Int.toNat_zero, Nat.reducePow, Int.toNat_one, Int.reduceMul, Nat.mul_one, Nat.zero_add, Nat.add_zero, Function.comp_apply, List.map_append, List.map_replicate, Int.cast_ofNat_Int, Nat.left_eq_add, Nat.add_eq_left, Nat.add_left_cancel_iff]
      · rw [h] at hW
        simp -implicitDefEqProofs only [T10_b, hW, vcA1, vcA2, vcA3, vcA4, vcA5, vcA6, vcA7, ↓vcP1, ↓vcP2, ↓reduceIte, Option.map_some, Option.map_none, Option.bind_some, Option.bind_none, if_true, if_false, reduceCtorEq, beq_true, beq_false, Bool.not_true, Bool.not_false, BEq.rfl, Bool.true_beq, Bool.false_beq, and_true, true_and, and_self, decide_true, decide_false, List.length_cons, List.length_nil, List.all_cons, List.all_nil, Bool.and_true, Bool.and_self, List.getElem?_cons_zero, List.getElem?_cons_succ, List.set_cons_zero, List.set_cons_succ, List.nil_append, List.cons_append, List.append_nil, List.map_cons, List.map_nil, not_true_eq_false, not_false_eq_true, false_implies, true_implies, implies_true, List.take_succ_cons, List.take_zero, List.take_nil, List.drop_succ_cons, List.drop_zero, List.drop_nil, Nat.reduceLT, Nat.reduceLeDiff, Nat.reduceEqDiff, Nat.reduceAdd, Nat.reduceSub, Nat.reduceMul, Int.reduceLT, Int.reduceLE, Int.reduceEq, Int.reduceToNat, Int.reduceAdd, Int.reduceSub, Int.reduceNeg, List.reduceReplicate, List.replicate_zero, List.replicate_succ, ne_eq, List.flatMap_cons, List.flatMap_nil, List.length_replicate, List.length_append, Nat.le_refl, Nat.le_add_right, Nat.add_assoc, List.append_assoc, or_true, true_or, or_false, false_or, and_false, false_and, exists_eq_left, exists_eq_left', Option.some.injEq, DV.int.injEq, DV.bool.injEq, DV.sl.injEq, DV.own.injEq, DV.tup.injEq, List.cons.injEq, Ob.arr.injEq, Ob.box.injEq, Option.map_map, Int.toNat_natCast, Int.toNat_zero, Nat.reducePow, Int.toNat_one, Int.reduceMul, Nat.mul_one, Nat.zero_add, Nat.add_zero, Function.comp_apply, List.map_append, List.map_replicate, Int.cast_ofNat_Int, Nat.left_eq_add, Nat.add_eq_left, Nat.add_left_cancel_iff]
        grind
    · have hW : wholeF l = (0, false) := by simp only [wholeF]; rw [if_neg (by omega), if_neg (by omega), if_neg (by omega), if_neg c, if_neg (by omega)]
      rw [hW]; exact ⟨rfl, rfl⟩
  all_goals
    refine ⟨fun c => ?_, fun c => ⟨fun e => ?_, fun e => ?_⟩⟩
  all_goals first
    | (exfalso; omega)
    | skip
  all_goals first
    | (have hW : wholeF l = (0, false) := by simp only [wholeF]; rw [if_neg (by omega), if_neg (by omega), if_neg (by omega), if_pos c]
       rw [hW]; exact ⟨rfl, rfl⟩)
    | (have hW : wholeF l = (0, false) := by simp only [wholeF]; rw [if_neg (by omega), if_neg (by omega), if_neg (by omega), if_neg c, if_neg (by omega)]
       rw [hW]; exact ⟨rfl, rfl⟩)
    | skip
  all_goals
    have hW : wholeF l = (match goOn (l.getD 0 0) (l.drop 1) with
      | some r => (r, decide (0 ≤ r) && may r)
      | none => (0, false)) := by simp only [wholeF]; rw [if_neg (by omega), if_neg (by omega), if_neg (by omega), if_neg c, if_pos (by omega)]
    refine whole_loop hs hk (N := 1) (by omega) (by omega) (by omega) (by omega) (by have : (64 : Int) ^ (4 - 1) = 262144 := rfl
                                                                                          omega) (fun h => ?_) fun r h a b => ?_
    · rw [h] at hW
      simp -implicitDefEqProofs only [hW, vcA1, vcA2, vcA3, vcA4, vcA5, vcA6, vcA7, ↓vcP1, ↓vcP2, ↓reduceIte, Option.map_some, Option.map_none, Option.bind_some, Option.bind_none, if_true, if_false, reduceCtorEq, beq_true, beq_false, Bool.not_true, Bool.not_false, BEq.rfl, Bool.true_beq, Bool.false_beq, and_true, true_and, and_self, decide_true, decide_false, List.length_cons, List.length_nil, List.all_cons, List.all_nil, Bool.and_true, Bool.and_self, List.getElem?_cons_zero, List.getElem?_cons_succ, List.set_cons_zero, List.set_cons_succ, List.nil_append, List.cons_append, List.append_nil, List.map_cons, List.map_nil, not_true_eq_false, not_false_eq_true, false_implies, true_implies, implies_true, List.take_succ_cons, List.take_zero, List.take_nil, List.drop_succ_cons, List.drop_zero, List.drop_nil, Nat.reduceLT, Nat.reduceLeDiff, Nat.reduceEqDiff, Nat.reduceAdd, Nat.reduceSub, Nat.reduceMul, Int.reduceLT, Int.reduceLE, Int.reduceEq, Int.reduceToNat, Int.reduceAdd, Int.reduceSub, Int.reduceNeg, List.reduceReplicate, List.replicate_zero, List.replicate_succ, ne_eq, List.flatMap_cons, List.flatMap_nil, List.length_replicate, List.length_append, Nat.le_refl, Nat.le_add_right, Nat.add_assoc, List.append_assoc, or_true, true_or, or_false, false_or, and_false, false_and, exists_eq_left, exists_eq_left', Option.some.injEq, DV.int.injEq, DV.bool.injEq, DV.sl.injEq, DV.own.injEq, DV.tup.injEq, List.cons.injEq, Ob.arr.injEq, Ob.box.injEq, Option.map_map, Int.toNat_natCast, Int.toNat_zero, Nat.reducePow, Int.toNat_one, Int.reduceMul, Nat.mul_one, Nat.zero_add, Nat.add_zero, Function.comp_apply, List.map_append, List.map_replicate, Int.cast_ofNat_Int, Nat.left_eq_add, Nat.add_eq_left, Nat.add_left_cancel_iff]
    · rw [h] at hW
      simp -implicitDefEqProofs only [T10_b, hW, vcA1, vcA2, vcA3, vcA4, vcA5, vcA6, vcA7, ↓vcP1, ↓vcP2, ↓reduceIte, Option.map_some, Option.map_none, Option.bind_some, Option.bind_none, if_true, if_false, reduceCtorEq, beq_true, beq_false, Bool.not_true, Bool.not_false, BEq.rfl, Bool.true_beq, Bool.false_beq, and_true, true_and, and_self, decide_true, decide_false, List.length_cons, List.length_nil, List.all_cons, List.all_nil, Bool.and_true, Bool.and_self, List.getElem?_cons_zero, List.getElem?_cons_succ, List.set_cons_zero, List.set_cons_succ, List.nil_append, List.cons_append, List.append_nil, List.map_cons, List.map_nil, not_true_eq_false, not_false_eq_true, false_implies, true_implies, implies_true, List.take_succ_cons, List.take_zero, List.take_nil, List.drop_succ_cons, List.drop_zero, List.drop_nil, Nat.reduceLT, Nat.reduceLeDiff, Nat.reduceEqDiff, Nat.reduceAdd, Nat.reduceSub, Nat.reduceMul, Int.reduceLT, Int.reduceLE, Int.reduceEq, Int.reduceToNat, Int.reduceAdd, Int.reduceSub, Int.reduceNeg, List.reduceReplicate, List.replicate_zero, List.replicate_succ, ne_eq, List.flatMap_cons, List.flatMap_nil, List.length_replicate, List.length_append, Nat.le_refl, Nat.le_add_right, Nat.add_assoc, List.append_assoc, or_true, true_or, or_false, false_or, and_false, false_and, exists_eq_left, exists_eq_left', Option.some.injEq, DV.int.injEq, DV.bool.injEq, DV.sl.injEq, DV.own.injEq, DV.tup.injEq, List.cons.injEq, Ob.arr.injEq, Ob.box.injEq, Option.map_map, Int.toNat_natCast, Int.toNat_zero, Nat.reducePow, Int.toNat_one, Int.reduceMul, Nat.mul_one, Nat.zero_add, Nat.add_zero, Function.comp_apply, List.map_append, List.map_replicate, Int.cast_ofNat_Int, Nat.left_eq_add, Nat.add_eq_left, Nat.add_left_cancel_iff]
      grind
end Go.Proofs.YteemmpghpdaloaaDoor
