/- VtStrings is true. -/
import Derived.Test.YteemmpghpdaloaaDoorM7
set_option linter.unusedVariables false
set_option linter.unusedSimpArgs false
set_option maxRecDepth 10000
namespace Go.Proofs.YteemmpghpdaloaaDoor
open Go.RowKit

noncomputable def rc_vtStrings_l0 : RC := (.seq (.seq (.reg [⟨(some 21), (.mov (.t 8)), none, false⟩, ⟨(some 22), (.mov (.t 0)), none, false⟩, ⟨(some 23), (.len (.t 22)), none, false⟩, ⟨(some 24), (.bin .lss (.t 21) (.t 23)), none, false⟩] 0 [0, 1, 2, 7, 8, 24]) (.cond (.t 24) .skip (.ext 0))) (.seq (.blk 1 (.seq (.reg [⟨(some 27), (.mov (.t 0)), none, false⟩, ⟨(some 28), (.mov (.t 8)), none, false⟩, ⟨(some 29), (.iaddr 1 (.t 27) (.t 28)), none, false⟩, ⟨(some 30), (.load false 1 (.t 29)), none, false⟩, ⟨(some 31), (.bin .neq (.t 30) (.c (.int .u8 24))), none, false⟩, ⟨(some 32), (.mov (.t 31)), none, false⟩, ⟨(some 33), (.mov (.t 0)), (some (32, true)), false⟩, ⟨(some 34), (.mov (.t 8)), (some (32, true)), false⟩, ⟨(some 35), (.iaddr 1 (.t 33) (.t 34)), (some (32, true)), false⟩, ⟨(some 36), (.load false 1 (.t 35)), (some (32, true)), false⟩, ⟨(some 37), (.bin .neq (.t 36) (.c (.int .u8 26))), (some (32, true)), false⟩, ⟨(some 38), (.pick (.t 32) (.t 37) (.c (.bool false))), none, false⟩, ⟨(some 39), (.mov (.t 38)), none, false⟩, ⟨(some 40), (.mov (.t 0)), (some (39, true)), false⟩, ⟨(some 41), (.mov (.t 8)), (some (39, true)), false⟩, ⟨(some 42), (.iaddr 1 (.t 40) (.t 41)), (some (39, true)), false⟩, ⟨(some 43), (.load false 1 (.t 42)), (some (39, true)), false⟩, ⟨(some 44), (.bin .neq (.t 43) (.c (.int .u8 27))), (some (39, true)), false⟩, ⟨(some 45), (.pick (.t 39) (.t 44) (.c (.bool false))), none, false⟩, ⟨(some 46), (.mov (.t 45)), none, false⟩, ⟨(some 47), (.mov (.t 0)), (some (46, true)), false⟩, ⟨(some 48), (.mov (.t 8)), (some (46, true)), false⟩, ⟨(some 49), (.iaddr 1 (.t 47) (.t 48)), (some (46, true)), false⟩, ⟨(some 50), (.load false 1 (.t 49)), (some (46, true)), false⟩, ⟨(some 51), (.bin .neq (.t 50) (.c (.int .u8 7))), (some (46, true)), false⟩, ⟨(some 52), (.pick (.t 46) (.t 51) (.c (.bool false))), none, false⟩] 0 [0, 1, 2, 7, 8, 52]) (.cond (.t 52) (.reg [⟨(some 53), (.mov (.t 7)), none, false⟩, ⟨(some 54), (.mov (.t 0)), none, false⟩, ⟨(some 55), (.mov (.t 8)), none, false⟩, ⟨(some 56), (.iaddr 1 (.t 54) (.t 55)), none, false⟩, ⟨(some 57), (.load false 1 (.t 56)), none, false⟩, ⟨(some 58), (.mkrow 1 [(.int .u8 0)] 1 [(0, (.t 57))]), none, false⟩, ⟨(some 59), (.append 1 1 (.t 53) (.t 58)), none, false⟩, ⟨(some 7), (.mov (.t 59)), none, false⟩] 0 [0, 1, 2, 7, 8]) .skip))) (.reg [⟨(some 25), (.mov (.t 8)), none, false⟩, ⟨(some 26), (.bin .add (.t 25) (.c (.int .i64 1))), none, false⟩, ⟨(some 8), (.mov (.t 26)), none, false⟩] 0 [0, 1, 2, 7, 8])))
noncomputable def rc_vtStrings_r0 : RC := (.seq (.reg [⟨(some 60), (.mov (.t 1)), none, false⟩, ⟨(some 61), (.bin .rem (.t 60) (.c (.int .u8 5))), none, false⟩, ⟨(some 62), (.idxS (.c (.str [(93), (80), (88), (94), (95)])) (.t 61)), none, false⟩, ⟨(some 63), (.mkrow 1 [(.int .u8 0)] 2 [(0, (.c (.int .u8 27))), (1, (.t 62))]), none, false⟩, ⟨(some 64), (.mov (.t 7)), none, false⟩, ⟨(some 65), (.append 1 1 (.t 63) (.t 64)), none, true⟩, ⟨(some 9), (.mov (.t 65)), none, false⟩] 0 [2, 9]) (.seq (.reg [⟨(some 67), (.build [(.int .i64 0), (.int .u8 0), (.sl 0 [] .nil), (.sl 0 [] .nil), (.sl 0 [] .nil)] []), none, false⟩, ⟨(some 68), (.mov (.t 9)), none, false⟩, ⟨(some 69), (.call 34 [(.t 67), (.t 68)]), none, false⟩, ⟨(some 66), (.mov (.t 69)), none, false⟩, ⟨(some 70), (.ext (.t 66) 0), none, false⟩, ⟨(some 71), (.ext (.t 66) 1), none, false⟩, ⟨(some 10), (.alloc [(.int .i64 0), (.int .u8 0), (.sl 0 [] .nil), (.sl 0 [] .nil), (.sl 0 [] .nil)]), none, false⟩, ⟨none, (.store 5 (.t 10) (.t 70)), none, false⟩, ⟨(some 11), (.mov (.t 71)), none, false⟩] 0 [2, 10, 11]) (.seq (.seq (.reg [⟨(some 72), (.faddr 0 (.t 10)), none, false⟩, ⟨(some 73), (.load false 1 (.t 72)), none, false⟩, ⟨(some 74), (.bin .neq (.t 73) (.c (.int .i64 7))), none, false⟩, ⟨(some 75), (.mov (.t 74)), none, false⟩, ⟨(some 76), (.mov (.t 11)), (some (75, false)), false⟩, ⟨(some 77), (.len (.t 76)), (some (75, false)), false⟩, ⟨(some 78), (.bin .neq (.t 77) (.c (.int .i64 0))), (some (75, false)), false⟩, ⟨(some 79), (.pick (.t 75) (.c (.bool true)) (.t 78)), none, false⟩] 0 [2, 10, 79]) (.cond (.t 79) (.seq (.reg [⟨(some 6), (.mov (.c (.bool false))), none, false⟩] 0 [6]) .ret) .skip)) (.seq (.reg [⟨(some 12), (.mov (.c (.str [(27), (92)]))), none, false⟩, ⟨(some 13), (.mov (.c (.int .i64 1))), none, false⟩] 0 [2, 10, 12, 13]) (.seq (.seq (.reg [⟨(some 80), (.mov (.t 2)), none, false⟩] 0 [10, 12, 13, 80]) (.cond (.t 80) (.reg [⟨(some 12), (.mov (.c (.str [(7)]))), none, false⟩, ⟨(some 13), (.mov (.c (.int .i64 0))), none, false⟩] 0 [10, 12, 13]) .skip)) (.seq (.reg [⟨(some 82), (.load true 5 (.t 10)), none, false⟩, ⟨(some 83), (.mov (.t 12)), none, false⟩, ⟨(some 84), (.conv .s2b (.t 83)), none, true⟩, ⟨(some 85), (.call 34 [(.t 82), (.t 84)]), none, false⟩, ⟨(some 81), (.mov (.t 85)), none, false⟩, ⟨(some 86), (.ext (.t 81) 0), none, false⟩, ⟨(some 87), (.ext (.t 81) 1), none, false⟩, ⟨(some 14), (.alloc [(.int .i64 0), (.int .u8 0), (.sl 0 [] .nil), (.sl 0 [] .nil), (.sl 0 [] .nil)]), none, false⟩, ⟨none, (.store 5 (.t 14) (.t 86)), none, false⟩, ⟨(some 15), (.mov (.t 87)), none, false⟩] 0 [13, 14, 15]) (.seq (.reg [⟨(some 88), (.faddr 0 (.t 14)), none, false⟩, ⟨(some 89), (.load false 1 (.t 88)), none, false⟩, ⟨(some 90), (.bin .eql (.t 89) (.c (.int .i64 0))), none, false⟩, ⟨(some 91), (.mov (.t 90)), none, false⟩, ⟨(some 92), (.mov (.t 15)), (some (91, true)), false⟩, ⟨(some 93), (.len (.t 92)), (some (91, true)), false⟩, ⟨(some 94), (.mov (.t 13)), (some (91, true)), false⟩, ⟨(some 95), (.bin .eql (.t 93) (.t 94)), (some (91, true)), false⟩, ⟨(some 96), (.pick (.t 91) (.t 95) (.c (.bool false))), none, false⟩, ⟨(some 97), (.mov (.t 96)), none, false⟩, ⟨(some 98), (.mov (.t 13)), (some (97, true)), false⟩, ⟨(some 99), (.bin .eql (.t 98) (.c (.int .i64 0))), (some (97, true)), false⟩, ⟨(some 100), (.mov (.t 99)), (some (97, true)), false⟩, ⟨(some 101), (.mov (.t 15)), (some (100, false)), false⟩, ⟨(some 102), (.iaddr 6 (.t 101) (.c (.int .i64 0))), (some (100, false)), false⟩, ⟨(some 103), (.faddr 0 (.t 102)), (some (100, false)), false⟩, ⟨(some 104), (.load false 1 (.t 103)), (some (100, false)), false⟩, ⟨(some 105), (.bin .eql (.t 104) (.c (.int .i64 2))), (some (100, false)), false⟩, ⟨(some 106), (.mov (.t 105)), (some (100, false)), false⟩, ⟨(some 107), (.mov (.t 15)), (some (106, true)), false⟩, ⟨(some 108), (.iaddr 6 (.t 107) (.c (.int .i64 0))), (some (106, true)), false⟩, ⟨(some 109), (.faddr 2 (.t 108)), (some (106, true)), false⟩, ⟨(some 110), (.load false 1 (.t 109)), (some (106, true)), false⟩, ⟨(some 111), (.bin .eql (.t 110) (.c (.int .u8 92))), (some (106, true)), false⟩, ⟨(some 112), (.pick (.t 106) (.t 111) (.c (.bool false))), (some (100, false)), false⟩, ⟨(some 113), (.pick (.t 100) (.c (.bool true)) (.t 112)), (some (97, true)), false⟩, ⟨(some 114), (.pick (.t 97) (.t 113) (.c (.bool false))), none, false⟩, ⟨(some 6), (.mov (.t 114)), none, false⟩] 0 [6]) .ret)))))))
noncomputable def rc_vtStrings : RFn := ⟨3, 115, (.seq (.reg [⟨(some 6), (.mov (.c (.bool false))), none, false⟩] 0 [0, 1, 2]) (.seq (.seq (.reg [⟨(some 16), (.call 25 []), none, false⟩, ⟨(some 17), (.un .not (.t 16)), none, false⟩] 0 [0, 1, 2, 17]) (.cond (.t 17) (.seq (.reg [⟨(some 6), (.mov (.c (.bool false))), none, false⟩] 0 [6]) .ret) .skip)) (.seq (.seq (.reg [⟨(some 18), (.mov (.t 0)), none, false⟩, ⟨(some 19), (.len (.t 18)), none, false⟩, ⟨(some 20), (.bin .gtr (.t 19) (.c (.int .i64 60))), none, false⟩] 0 [0, 1, 2, 20]) (.cond (.t 20) (.seq (.reg [⟨(some 6), (.mov (.c (.bool true))), none, false⟩] 0 [6]) .ret) .skip)) (.seq (.reg [⟨(some 7), (.mov (.c (.sl 0 [] .nil))), none, false⟩] 0 [0, 1, 2, 7]) (.seq (.seq (.reg [⟨(some 8), (.mov (.c (.int .i64 0))), none, false⟩] 0 [0, 1, 2, 7, 8]) (.blk 0 (.loop rc_vtStrings_l0))) rc_vtStrings_r0))))), [(.t 6)]⟩
theorem rc_vtStrings_ok : compFn PG.P [⟨0, 0, [0, 1, 2], []⟩, ⟨1, 0, [0, 1, 2, 17], []⟩, ⟨2, 0, [6], []⟩, ⟨3, 0, [0, 1, 2, 20], []⟩, ⟨4, 0, [6], []⟩, ⟨5, 0, [0, 1, 2, 7], []⟩, ⟨6, 0, [0, 1, 2, 7, 8], []⟩, ⟨7, 0, [0, 1, 2, 7, 8, 24], []⟩, ⟨8, 0, [0, 1, 2, 7, 8], []⟩, ⟨9, 0, [0, 1, 2, 7, 8, 52], []⟩, ⟨10, 0, [0, 1, 2, 7, 8], []⟩, ⟨11, 0, [2, 9], [65]⟩, ⟨12, 0, [2, 10, 11], []⟩, ⟨13, 0, [2, 10, 79], []⟩, ⟨14, 0, [6], []⟩, ⟨15, 0, [2, 10, 12, 13], []⟩, ⟨16, 0, [10, 12, 13, 80], []⟩, ⟨17, 0, [10, 12, 13], []⟩, ⟨18, 0, [13, 14, 15], [84]⟩, ⟨19, 0, [6], []⟩] 11 = some rc_vtStrings := by kernel_rfl
def okS (b : Int) : Bool := decide (b ≠ 24) && (decide (b ≠ 26) && (decide (b ≠ 27) && decide (b ≠ 7)))
theorem okS_of {b : Int} (h1 : ¬ b = 24) (h2 : ¬ b = 26) (h3 : ¬ b = 27) (h4 : ¬ b = 7) : okS b = true := by unfold okS; simp [h1, h2, h3, h4]
abbrev kinds : List UInt8 := [93, 80, 88, 94, 95]
theorem bindO_bytes (l : List UInt8) (n : Nat) (f : UInt8 → Prop) : bindO l[n]? f = (n < l.length ∧ f (l.getD n 0)) := by
  by_cases h : n < l.length
  · simp [List.getElem?_eq_getElem h, bindO, h]
  · simp [List.getElem?_eq_none (Nat.le_of_not_lt h), bindO, h]
theorem bindO_kinds (n : Nat) (f : UInt8 → Prop) : bindO ([93, 80, 88, 94, 95] : List UInt8)[n]? f = (n < 5 ∧ f (kinds.getD n 0)) := bindO_bytes kinds n f
theorem str_in (c : List Int) (hc : ∀ b ∈ c, okS b = true) : vallF ⟨7, 0, [], [], []⟩ [] c = (⟨7, 0, [], [], []⟩, []) := by
  induction c with
  | nil => rfl
  | cons b c ih =>
    have h1 := hc b (by simp)
    unfold okS at h1
    simp only [Bool.and_eq_true, decide_eq_true_eq] at h1
    have e : vstepF ⟨7, 0, [], [], []⟩ b = (⟨7, 0, [], [], []⟩, []) := by
      have hv : vcut ⟨7, 0, [], [], []⟩ b = false := by unfold vcut; simp
      unfold vstepF
      rw [hv, if_neg (by decide)]
      unfold vtakeF
      simp only
      rw [if_neg (by omega), if_neg (by omega), if_neg (by omega), if_pos (.inl trivial)]
    simp only [vallF, e, List.nil_append]
    exact ih fun x hx => hc x (by simp [hx])
theorem str_all (n : Nat) (hn : n < 5) (c : List Int) (hc : ∀ b ∈ c, okS b = true) : paR (vallF ⟨0, 0, [], [], []⟩ [] (27 :: ((kinds.getD n 0).toNat : Int) :: c)) = .tup [.agg [.int .i64 7, .int .u8 0, .sl 1 [] .any, .sl 1 [] .any, .sl 1 [] .any], .sl 6 [] .any] := by
  have e1 : vstepF ⟨0, 0, [], [], []⟩ 27 = (⟨1, 0, [], [], []⟩, []) := by rfl
  have e2 : vstepF ⟨1, 0, [], [], []⟩ ((kinds.getD n 0).toNat : Int) = (⟨7, 0, [], [], []⟩, []) := by
    have : n = 0 ∨ n = 1 ∨ n = 2 ∨ n = 3 ∨ n = 4 := by omega
    rcases this with rfl | rfl | rfl | rfl | rfl <;> rfl
  simp only [vallF, e1, e2, List.nil_append]
  rw [str_in c hc]
  rfl
theorem str_bel : paR (vallF ⟨7, 0, [], [], []⟩ [] [7]) = .tup [.agg [.int .i64 0, .int .u8 0, .sl 1 [] .any, .sl 1 [] .any, .sl 1 [] .any], .sl 6 [] .any] := by rfl
theorem str_st : paR (vallF ⟨7, 0, [], [], []⟩ [] [27, 92]) = .tup [.agg [.int .i64 0, .int .u8 0, .sl 1 [] .any, .sl 1 [] .any, .sl 1 [] .any], .sl 6 [[.int .i64 2, .int .i32 0, .int .u8 92, .int .u8 0, .sl 0 [] .nil, .sl 0 [] .nil]] .any] := by rfl
def strip (l : List Int) : List Int := l.filter okS
theorem if_ac {α : Sort _} (m n : Nat) (a b : α) : (if m + n ≤ n + m then a else b) = a := if_pos (by omega)
theorem take_2add {α : Type} (l : List α) (a b : α) : List.take (2 + l.length) (a :: b :: l) = a :: b :: l := List.take_of_length_le (by simp; omega)
theorem nums_st : nums [27, 92] = [27, 92] := nrfl _
theorem nums_bel : nums [7] = [7] := nrfl _
theorem pok7 : paOk ⟨7, 0, [], [], []⟩ := paOk_pa0 7
theorem pok0 : paOk ⟨0, 0, [], [], []⟩ := paOk_pa0 0
set_option maxHeartbeats 4000000 in
theorem vtStrings_true (dv : List DV) (h : ConfL [(false, [.sl [.int .u8]]), (false, [.int .u8]), (false, [.bool])] dv) : PCalls PG 11 dv fun _ r _ => r = .bool true := by
  obtain ⟨d0, r0, rfl, c0, h⟩ := h.cons
  obtain ⟨d1, r1, rfl, c1, h⟩ := h.cons
  obtain ⟨d2, r2, rfl, c2, h⟩ := h.cons
  obtain rfl := h.nil
  obtain ⟨l, rfl, hl⟩ := confA_ints c0
  obtain ⟨k, rfl, hk⟩ := confA_int c1
  obtain ⟨bel, rfl⟩ := confA_bool c2
  refine PCalls.mono (R := fun n r os => r = .bool true ∧ os = []) ?_ fun n r os h => h.1
  refine PCalls.by_fn (res := fun n => (.bool true, [])) T38_ok rc_vtStrings_ok (by simp [rc_vtStrings]) fun n => ?_
  rw [u8mm.1, u8mm.2] at hk
  unfold rc_vtStrings
  dsimp only
  simp -implicitDefEqProofs only [T38_l, ↓bindO_iteN, vcB1, vcB2, vcB3, vcA1, vcA2, vcA3, vcA4, vcA5, vcA6, vcA7, ↓vcP1, ↓vcP2, ↓reduceIte, Option.map_some, Option.map_none, Option.bind_some, Option.bind_none, if_true, if_false, reduceCtorEq, beq_true, beq_false, Bool.not_true, Bool.not_false, BEq.rfl, Bool.true_beq, Bool.false_beq, and_true, true_and, and_self, decide_true, decide_false, List.length_cons, List.length_nil, List.all_cons, List.all_nil, Bool.and_true, Bool.and_self, List.getElem?_cons_zero, List.getElem?_cons_succ, List.set_cons_zero, List.set_cons_succ, List.nil_append, List.cons_append, List.append_nil, List.map_cons, List.map_nil, not_true_eq_false, not_false_eq_true, false_implies, true_implies, implies_true, List.take_succ_cons, List.take_zero, List.take_nil, List.drop_succ_cons, List.drop_zero, List.drop_nil, Nat.reduceLT, Nat.reduceLeDiff, Nat.reduceEqDiff, Nat.reduceAdd, Nat.reduceSub, Nat.reduceMul, Int.reduceLT, Int.reduceLE, Int.reduceEq, Int.reduceToNat, Int.reduceAdd, Int.reduceSub, Int.reduceNeg, List.reduceReplicate, List.replicate_zero, List.replicate_succ, ne_eq, List.flatMap_cons, List.flatMap_nil, List.length_replicate, List.length_append, Nat.le_refl, Nat.le_add_right, Nat.add_assoc, List.append_assoc, or_true, true_or, or_false, false_or, and_false, false_and, exists_eq_left, exists_eq_left', Option.some.injEq, DV.int.injEq, DV.bool.injEq, DV.sl.injEq, DV.own.injEq, DV.tup.injEq, List.cons.injEq, Ob.arr.injEq, Ob.box.injEq, Option.map_map, Int.toNat_natCast, Int.toNat_zero, Nat.reducePow, Int.toNat_one, Int.reduceMul, Nat.mul_one, Nat.zero_add, Nat.add_zero, Function.comp_apply, List.map_append, List.map_replicate, Int.cast_ofNat_Int, Nat.left_eq_add, Nat.add_eq_left, Nat.add_left_cancel_iff]
  intro hl60
  have hll : l.length ≤ 60 := by omega
  have hin : inK .u8 l := inK_of hl (by omega)
  refine LoopWp.own 7 1 rfl (.inl rfl) ?_
  refine LoopWp.invR T38_ok (S := fun m (i : Nat) => ⟨[(0, .sl 1 (intRows .u8 l) .any), (1, .int .u8 k), (2, .bool bel), (7, .own m 0 (strip (l.take i)).length), (8, .int .i64 i)],
        List.replicate m none ++ [some (.arr 1 (intRows .u8 (strip (l.take i))))]⟩) (I := fun i => i ≤ l.length) (μ := fun i => l.length - i) n 0 (by omega) ?_ ?_
  · simp -implicitDefEqProofs only [List.take_zero, vcB1, vcB2, vcB3, vcA1, vcA2, vcA3, vcA4, vcA5, vcA6, vcA7, ↓vcP1, ↓vcP2, ↓reduceIte, Option.map_some, Option.map_none, Option.bind_some, Option.bind_none, if_true, if_false, reduceCtorEq, beq_true, beq_false, Bool.not_true, Bool.not_false, BEq.rfl, Bool.true_beq, Bool.false_beq, and_true, true_and, and_self, decide_true, decide_false, List.length_cons, List.length_nil, List.all_cons, List.all_nil, Bool.and_true, Bool.and_self, List.getElem?_cons_zero, List.getElem?_cons_succ, List.set_cons_zero, List.set_cons_succ, List.nil_append, List.cons_append, List.append_nil, List.map_cons, List.map_nil, not_true_eq_false, not_false_eq_true, false_implies, true_implies, implies_true, List.take_succ_cons, List.take_zero, List.take_nil, List.drop_succ_cons, List.drop_zero, List.drop_nil, Nat.reduceLT, Nat.reduceLeDiff, Nat.reduceEqDiff, Nat.reduceAdd, Nat.reduceSub, Nat.reduceMul, Int.reduceLT, Int.reduceLE, Int.reduceEq, Int.reduceToNat, Int.reduceAdd, Int.reduceSub, Int.reduceNeg, List.reduceReplicate, List.replicate_zero, List.replicate_succ, ne_eq, List.flatMap_cons, List.flatMap_nil, List.length_replicate, List.length_append, Nat.le_refl, Nat.le_add_right, Nat.add_assoc, List.append_assoc, or_true, true_or, or_false, false_or, and_false, false_and, exists_eq_left, exists_eq_left', Option.some.injEq, DV.int.injEq, DV.bool.injEq, DV.sl.injEq, DV.own.injEq, DV.tup.injEq, List.cons.injEq, Ob.arr.injEq, Ob.box.injEq, Option.map_map, Int.toNat_natCast, Int.toNat_zero, Nat.reducePow, Int.toNat_one, Int.reduceMul, Nat.mul_one, Nat.zero_add, Nat.add_zero, Function.comp_apply, List.map_append, List.map_replicate, Int.cast_ofNat_Int, Nat.left_eq_add, Nat.add_eq_left, Nat.add_left_cancel_iff]
    exact ⟨rfl, rfl⟩
  · intro m i hm hi
    have e1 : k.tmod 5 = k % 5 := Int.tmod_eq_emod_of_nonneg hk.1
    have hsl : (strip (l.take i)).length ≤ i := Nat.le_trans (List.length_filter_le _ _) (by rw [List.length_take]; omega)
    have hso : ∀ b ∈ strip (l.take i), okS b = true := fun b hb => (List.mem_filter.1 hb).2
    have q1 := str_all (k % 5).toNat (by omega) (strip (l.take i)) hso
    have hcin : inK .u8 (strip (l.take i)) := ⟨by omega, fun b hb => hin.2 b (List.mem_of_mem_take (List.mem_filter.1 hb).1)⟩
    unfold rc_vtStrings_l0
    simp -implicitDefEqProofs only [T38_l, e1, q1, str_bel, nums_bel, List.take_length, if_ac, take_2add, List.cons_append, List.nil_append, str_st, i64w0, i64w1, isInts_sl, isInts_nil, intsD_nil, intsD_sl, ints_intRows, ints_nil, ↓bindO_iteN, vcB1, vcB2, vcB3, vcA1, vcA2, vcA3, vcA4, vcA5, vcA6, vcA7, ↓vcP1, ↓vcP2, ↓reduceIte, Option.map_some, Option.map_none, Option.bind_some, Option.bind_none, if_true, if_false, reduceCtorEq, beq_true, beq_false, Bool.not_true, Bool.not_false, BEq.rfl, Bool.true_beq, Bool.false_beq, and_true, true_and, and_self, decide_true, decide_false, List.length_cons, List.length_nil, List.all_cons, List.all_nil, Bool.and_true, Bool.and_self, List.getElem?_cons_zero, List.getElem?_cons_succ, List.set_cons_zero, List.set_cons_succ, List.nil_append, List.cons_append, List.append_nil, List.map_cons, List.map_nil, not_true_eq_false, not_false_eq_true, false_implies, true_implies, implies_true, List.take_succ_cons, List.take_zero, List.take_nil, List.drop_succ_cons, List.drop_zero, List.drop_nil, Nat.reduceLT, Nat.reduceLeDiff, Nat.reduceEqDiff, Nat.reduceAdd, Nat.reduceSub, Nat.reduceMul, Int.reduceLT, Int.reduceLE, Int.reduceEq, Int.reduceToNat, Int.reduceAdd, Int.reduceSub, Int.reduceNeg, List.reduceReplicate, List.replicate_zero, List.replicate_succ, ne_eq, List.flatMap_cons, List.flatMap_nil, List.length_replicate, List.length_append, Nat.le_refl, Nat.le_add_right, Nat.add_assoc, List.append_assoc, or_true, true_or, or_false, false_or, and_false, false_and, exists_eq_left, exists_eq_left', Option.some.injEq, DV.int.injEq, DV.bool.injEq, DV.sl.injEq, DV.own.injEq, DV.tup.injEq, List.cons.injEq, Ob.arr.injEq, Ob.box.injEq, Option.map_map, Int.toNat_natCast, Int.toNat_zero, Nat.reducePow, Int.toNat_one, Int.reduceMul, Nat.mul_one, Nat.zero_add, Nat.add_zero, Function.comp_apply, List.map_append, List.map_replicate, Int.cast_ofNat_Int, Nat.left_eq_add, Nat.add_eq_left, Nat.add_left_cancel_iff]
    generalize hR : RC.wp PG (tab T38) 115 rc_vtStrings_r0 _ _ = G
    have hG : i = l.length → G := fun hi' => by
      rw [← hR]; clear hR
      unfold rc_vtStrings_r0
      generalize strip (l.take i) = c at *
      cases bel
      · skip
        simp -implicitDefEqProofs only [T38_l, e1, q1, str_st, nums_st, List.take_length, if_ac, take_2add, List.cons_append, List.nil_append, pok7, pok0, i64w0, i64w1, bytesRows_nums, isInts_sl, isInts_nil, intsD_nil, intsD_sl, ints_intRows, ints_nil, ↓bindO_iteN, vcB1, vcB2, vcB3, vcA1, vcA2, vcA3, vcA4, vcA5, vcA6, vcA7, ↓vcP1, ↓vcP2, ↓reduceIte, Option.map_some, Option.map_none, Option.bind_some, Option.bind_none, if_true, if_false, reduceCtorEq, beq_true, beq_false, Bool.not_true, Bool.not_false, BEq.rfl, Bool.true_beq, Bool.false_beq, and_true, true_and, and_self, decide_true, decide_false, List.length_cons, List.length_nil, List.all_cons, List.all_nil, Bool.and_true, Bool.and_self, List.getElem?_cons_zero, List.getElem?_cons_succ, List.set_cons_zero, List.set_cons_succ, List.nil_append, List.cons_append, List.append_nil, List.map_cons, List.map_nil, not_true_eq_false, not_false_eq_true, false_implies, true_implies, implies_true, List.take_succ_cons, List.take_zero, List.take_nil, List.drop_succ_cons, List.drop_zero, List.drop_nil, Nat.reduceLT, Nat.reduceLeDiff, Nat.reduceEqDiff, Nat.reduceAdd, Nat.reduceSub, Nat.reduceMul, Int.reduceLT, Int.reduceLE, Int.reduceEq, Int.reduceToNat, Int.reduceAdd, Int.reduceSub, Int.reduceNeg, List.reduceReplicate, List.replicate_zero, List.replicate_succ, ne_eq, List.flatMap_cons, List.flatMap_nil, List.length_replicate, List.length_append, Nat.le_refl, Nat.le_add_right, Nat.add_assoc, List.append_assoc, or_true, true_or, or_false, false_or, and_false, false_and, exists_eq_left, exists_eq_left', Option.some.injEq, DV.int.injEq, DV.bool.injEq, DV.sl.injEq, DV.own.injEq, DV.tup.injEq, List.cons.injEq, Ob.arr.injEq, Ob.box.injEq, Option.map_map, Int.toNat_natCast, Int.toNat_zero, Nat.reducePow, Int.toNat_one, Int.reduceMul, Nat.mul_one, Nat.zero_add, Nat.add_zero, Function.comp_apply, List.map_append, List.map_replicate, Int.cast_ofNat_Int, Nat.left_eq_add, Nat.add_eq_left, Nat.add_left_cancel_iff]
        have hkk : inK .u8 (27 :: (([93, 80, 88, 94, 95] : List UInt8).getD (k % 5).toNat 0).toNat :: c) := by
          refine inK_u8 (by simp; omega) fun x hx => ?_
          rcases List.mem_cons.1 hx with rfl | hx
          · omega
          · rcases List.mem_cons.1 hx with rfl | hx
            · have := UInt8.toNat_lt (([93, 80, 88, 94, 95] : List UInt8).getD (k % 5).toNat 0); omega
            · exact hcin.u8 hx
        exact ⟨by omega, by omega, ⟨by omega, by omega⟩, ⟨hkk, by omega⟩, ⟨by simp, by decide⟩, by omega⟩
      · skip
        simp -implicitDefEqProofs only [T38_l, e1, q1, str_bel, nums_bel, List.take_length, if_ac, take_2add, List.cons_append, List.nil_append, pok7, pok0, i64w0, i64w1, bytesRows_nums, isInts_sl, isInts_nil, intsD_nil, intsD_sl, ints_intRows, ints_nil, ↓bindO_iteN, vcB1, vcB2, vcB3, vcA1, vcA2, vcA3, vcA4, vcA5, vcA6, vcA7, ↓vcP1, ↓vcP2, ↓reduceIte, Option.map_some, Option.map_none, Option.bind_some, Option.bind_none, if_true, if_false, reduceCtorEq, beq_true, beq_false, Bool.not_true, Bool.not_false, BEq.rfl, Bool.true_beq, Bool.false_beq, and_true, true_and, and_self, decide_true, decide_false, List.length_cons, List.length_nil, List.all_cons, List.all_nil, Bool.and_true, Bool.and_self, List.getElem?_cons_zero, List.getElem?_cons_succ, List.set_cons_zero, List.set_cons_succ, List.nil_append, List.cons_append, List.append_nil, List.map_cons, List.map_nil, not_true_eq_false, not_false_eq_true, false_implies, true_implies, implies_true, List.take_succ_cons, List.take_zero, List.take_nil, List.drop_succ_cons, List.drop_zero, List.drop_nil, Nat.reduceLT, Nat.reduceLeDiff, Nat.reduceEqDiff, Nat.reduceAdd, Nat.reduceSub, Nat.reduceMul, Int.reduceLT, Int.reduceLE, Int.reduceEq, Int.reduceToNat, Int.reduceAdd, Int.reduceSub, Int.reduceNeg, List.reduceReplicate, List.replicate_zero, List.replicate_succ, ne_eq, List.flatMap_cons, List.flatMap_nil, List.length_replicate, List.length_append, Nat.le_refl, Nat.le_add_right, Nat.add_assoc, List.append_assoc, or_true, true_or, or_false, false_or, and_false, false_and, exists_eq_left, exists_eq_left', Option.some.injEq, DV.int.injEq, DV.bool.injEq, DV.sl.injEq, DV.own.injEq, DV.tup.injEq, List.cons.injEq, Ob.arr.injEq, Ob.box.injEq, Option.map_map, Int.toNat_natCast, Int.toNat_zero, Nat.reducePow, Int.toNat_one, Int.reduceMul, Nat.mul_one, Nat.zero_add, Nat.add_zero, Function.comp_apply, List.map_append, List.map_replicate, Int.cast_ofNat_Int, Nat.left_eq_add, Nat.add_eq_left, Nat.add_left_cancel_iff]
        have hkk : inK .u8 (27 :: (([93, 80, 88, 94, 95] : List UInt8).getD (k % 5).toNat 0).toNat :: c) := by
          refine inK_u8 (by simp; omega) fun x hx => ?_
          rcases List.mem_cons.1 hx with rfl | hx
          · omega
          · rcases List.mem_cons.1 hx with rfl | hx
            · have := UInt8.toNat_lt (([93, 80, 88, 94, 95] : List UInt8).getD (k % 5).toNat 0); omega
            · exact hcin.u8 hx
        exact ⟨by omega, by omega, ⟨by omega, by omega⟩, ⟨hkk, by omega⟩, ⟨by simp, by decide⟩, by omega⟩
    clear hR
    refine ⟨fun h => ?_, fun h => hG (by omega)⟩
    have h0 : i < l.length := by omega
    have hgd : l.getD i 0 = l[i] := by rw [List.getD_eq_getElem?_getD, List.getElem?_eq_getElem h0]; rfl
    have hst : strip (l.take (i + 1)) = strip (l.take i) ++ (if okS (l.getD i 0) = true then [l.getD i 0] else []) := by
      rw [List.take_succ_eq_append_getElem h0, hgd]
      unfold strip
      rw [List.filter_append]
      congr 1
      cases ho : okS l[i] <;> simp [ho]
    have hb : 0 ≤ (i : Int) ∧ (i : Int) < l.length := ⟨by omega, h⟩
    have no : okS (l.getD i 0) = false → n ≤ m + 1 ∧ ∃ s' : Nat, (((strip (l.take i)).length = (strip (l.take s')).length ∧ IntKind.i64.wrap ((i : Int) + 1) = s') ∧ intRows .u8 (strip (l.take i)) = intRows .u8 (strip (l.take s'))) ∧ s' ≤ l.length ∧ l.length - s' < l.length - i := fun ho => by
      rw [ho, if_neg (by decide), List.append_nil] at hst
      refine ⟨by omega, i + 1, ⟨⟨by rw [hst], by rw [wI64] <;> omega⟩, by rw [hst]⟩, by omega, by omega⟩
    refine ⟨hb, h0, fun c => no (by unfold okS; rw [c]; rfl), fun c1 => ⟨hb, h0, fun c => no (by unfold okS; rw [c]; rfl), fun c2 => ⟨hb, h0, fun c => no (by unfold okS; rw [c]; rfl), fun c3 => ⟨hb, h0, fun c => no (by unfold okS; rw [c]; rfl), fun c4 => ⟨hb, h0, ⟨by omega, by omega⟩, by omega, i + 1, ⟨⟨?_, by rw [wI64] <;> omega⟩, ?_⟩, by omega, by omega⟩⟩⟩⟩⟩
    all_goals
      have ho : okS (l.getD i 0) = true := okS_of c1 c2 c3 c4
      rw [ho, if_pos rfl] at hst
      rw [hst]
    · simp
end Go.Proofs.YteemmpghpdaloaaDoor
