/- Texts P24, P25, P26, P27, P28, P29, P30, P31, P32 in one. -/
import Derived.Test.YteemmpghpdaloaaDoorM5
import Derived.Test.YteemmpghpdaloaaDoorM8
section
/- vt.take. -/
set_option linter.unusedVariables false
set_option linter.unusedSimpArgs false
set_option maxRecDepth 10000
namespace Go.Proofs.YteemmpghpdaloaaDoor
open Go.RowKit

def qB (b : Int) : Prop := 0 ≤ b ∧ b ≤ 255
def qC (b : Int) : Prop := 32 ≤ b ∧ b ≤ 255
def F_vcsi := F_hand vcsiF qC
def F_vcsiI := F_hand vcsiIF qB
def F_vescI := F_hand vescIF qB
def F_vesc := F_hand (fun _ b => vescF b) qB
def F_vground := F_hand vgroundF qB
def T24 : FL := (59, F_vcsi) :: (60, F_vcsiI) :: (58, F_vescI) :: (57, F_vesc) :: (56, F_vground) :: T21
theorem T24_ok : FOk PG (tab T24) :=
  FOk.consH (FOk.consH (FOk.consH (FOk.consH (FOk.consH T21_ok (hand_ok fun p b h1 h2 => vground_H h1 h2)) (hand_ok fun p b h1 h2 => vesc_H h1 h2)) (hand_ok fun p b h1 h2 => vescI_H h1 h2)) (hand_ok fun p b h1 h2 => vcsiI_H h1 h2)) (hand_ok fun p b h1 h2 => vcsi_H h1 h2)
theorem T24_at_csi (args : List DV) : tab T24 59 args = (F_hand vcsiF qC args).map .h := nrfl _
theorem T24_at_csiI (args : List DV) : tab T24 60 args = (F_hand vcsiIF qB args).map .h := nrfl _
theorem T24_at_escI (args : List DV) : tab T24 58 args = (F_hand vescIF qB args).map .h := nrfl _
theorem T24_at_esc (args : List DV) : tab T24 57 args = (F_hand (fun _ b => vescF b) qB args).map .h := nrfl _
theorem T24_at_ground (args : List DV) : tab T24 56 args = (F_hand vgroundF qB args).map .h := nrfl _
theorem T24_at_mode (args : List DV) : tab T24 55 args = (F_vmode args).map .o := nrfl _
theorem T24_at_inter (args : List DV) : tab T24 53 args = (F_vinter args).map .o := nrfl _
theorem paR_eq (x : Pa × List Ac) : paR x = .tup [.agg [.int .i64 x.1.m, .int .u8 x.1.pr, .sl 1 (intRows .i64 x.1.P) .any, .sl 1 (intRows .u8 x.1.I) .any, .sl 1 (intRows .u8 x.1.U) .any], .sl 6 (acRows x.2) .any] := nrfl _
noncomputable def rc_vtake : RFn := ⟨2, 97, (.seq (.reg [⟨(some 2), (.box 5 (.t 0)), none, false⟩, ⟨(some 4), (.alloc [(.int .i64 0), (.int .u8 0), (.sl 0 [] .nil), (.sl 0 [] .nil), (.sl 0 [] .nil)]), none, false⟩, ⟨(some 5), (.mov (.c (.sl 0 [] .nil))), none, false⟩] 0 [1, 2, 4]) (.seq (.blk 0 (.seq (.reg [⟨(some 7), (.mov (.t 1)), none, false⟩, ⟨(some 8), (.bin .eql (.t 7) (.c (.int .u8 24))), none, false⟩, ⟨(some 9), (.mov (.t 8)), none, false⟩, ⟨(some 10), (.mov (.t 1)), (some (9, false)), false⟩, ⟨(some 11), (.bin .eql (.t 10) (.c (.int .u8 26))), (some (9, false)), false⟩, ⟨(some 12), (.pick (.t 9) (.c (.bool true)) (.t 11)), none, false⟩, ⟨(some 6), (.mov (.t 12)), none, false⟩] 0 [1, 2, 4, 6]) (.cond (.t 6) (.seq (.reg [⟨(some 13), (.call 55 [(.c (.int .i64 0))]), none, false⟩, ⟨none, (.store 5 (.t 4) (.t 13)), none, false⟩, ⟨(some 5), (.mov (.c (.sl 0 [] .nil))), none, false⟩] 0 [4, 5]) .ret) (.seq (.reg [⟨(some 15), (.mov (.t 1)), none, false⟩, ⟨(some 16), (.bin .eql (.t 15) (.c (.int .u8 27))), none, false⟩, ⟨(some 14), (.mov (.t 16)), none, false⟩] 0 [1, 2, 4, 14]) (.cond (.t 14) (.seq (.reg [⟨(some 17), (.call 55 [(.c (.int .i64 1))]), none, false⟩, ⟨none, (.store 5 (.t 4) (.t 17)), none, false⟩, ⟨(some 5), (.mov (.c (.sl 0 [] .nil))), none, false⟩] 0 [4, 5]) .ret) (.seq (.reg [⟨(some 19), (.faddr 0 (.t 2)), none, false⟩, ⟨(some 20), (.load false 1 (.t 19)), none, false⟩, ⟨(some 21), (.bin .eql (.t 20) (.c (.int .i64 7))), none, false⟩, ⟨(some 22), (.mov (.t 21)), none, false⟩, ⟨(some 23), (.mov (.t 1)), (some (22, true)), false⟩, ⟨(some 24), (.bin .eql (.t 23) (.c (.int .u8 7))), (some (22, true)), false⟩, ⟨(some 25), (.pick (.t 22) (.t 24) (.c (.bool false))), none, false⟩, ⟨(some 18), (.mov (.t 25)), none, false⟩] 0 [1, 2, 4, 18]) (.cond (.t 18) (.seq (.reg [⟨(some 26), (.call 55 [(.c (.int .i64 0))]), none, false⟩, ⟨none, (.store 5 (.t 4) (.t 26)), none, false⟩, ⟨(some 5), (.mov (.c (.sl 0 [] .nil))), none, false⟩] 0 [4, 5]) .ret) (.seq (.reg [⟨(some 28), (.faddr 0 (.t 2)), none, false⟩, ⟨(some 29), (.load false 1 (.t 28)), none, false⟩, ⟨(some 30), (.bin .eql (.t 29) (.c (.int .i64 7))), none, false⟩, ⟨(some 31), (.mov (.t 30)), none, false⟩, ⟨(some 32), (.mov (.t 1)), (some (31, false)), false⟩, ⟨(some 33), (.bin .eql (.t 32) (.c (.int .u8 127))), (some (31, false)), false⟩, ⟨(some 34), (.pick (.t 31) (.c (.bool true)) (.t 33)), none, false⟩, ⟨(some 27), (.mov (.t 34)), none, false⟩] 0 [1, 2, 4, 27]) (.cond (.t 27) (.seq (.reg [⟨(some 35), (.load true 5 (.t 2)), none, false⟩, ⟨none, (.store 5 (.t 4) (.t 35)), none, false⟩, ⟨(some 5), (.mov (.c (.sl 0 [] .nil))), none, false⟩] 0 [4, 5]) .ret) (.seq (.reg [⟨(some 37), (.mov (.t 1)), none, false⟩, ⟨(some 38), (.bin .lss (.t 37) (.c (.int .u8 32))), none, false⟩, ⟨(some 36), (.mov (.t 38)), none, false⟩] 0 [1, 2, 4, 36]) (.cond (.t 36) (.seq (.reg [⟨(some 39), (.load true 5 (.t 2)), none, false⟩, ⟨(some 40), (.mov (.t 1)), none, false⟩, ⟨(some 41), (.build [(.int .i64 0), (.int .i32 0), (.int .u8 0), (.int .u8 0), (.sl 0 [] .nil), (.sl 0 [] .nil)] [(0, (1, (.c (.int .i64 1)))), (2, (1, (.t 40)))]), none, false⟩, ⟨(some 42), (.mkrow 6 [(.int .i64 0), (.int .i32 0), (.int .u8 0), (.int .u8 0), (.sl 0 [] .nil), (.sl 0 [] .nil)] 1 [(0, (.t 41))]), none, false⟩, ⟨none, (.store 5 (.t 4) (.t 39)), none, false⟩, ⟨(some 5), (.mov (.t 42)), none, false⟩] 0 [4, 5]) .ret) (.seq (.reg [⟨(some 44), (.faddr 0 (.t 2)), none, false⟩, ⟨(some 45), (.load false 1 (.t 44)), none, false⟩, ⟨(some 46), (.bin .eql (.t 45) (.c (.int .i64 0))), none, false⟩, ⟨(some 43), (.mov (.t 46)), none, false⟩] 0 [1, 2, 4, 43]) (.cond (.t 43) (.seq (.reg [⟨(some 47), (.load true 5 (.t 2)), none, false⟩, ⟨(some 48), (.mov (.t 1)), none, false⟩, ⟨(some 49), (.call 56 [(.t 47), (.t 48)]), none, false⟩, ⟨(some 50), (.ext (.t 49) 0), none, false⟩, ⟨(some 51), (.ext (.t 49) 1), none, false⟩, ⟨none, (.store 5 (.t 4) (.t 50)), none, false⟩, ⟨(some 5), (.mov (.t 51)), none, false⟩] 0 [4, 5]) .ret) (.seq (.reg [⟨(some 53), (.mov (.t 1)), none, false⟩, ⟨(some 54), (.bin .geq (.t 53) (.c (.int .u8 128))), none, false⟩, ⟨(some 52), (.mov (.t 54)), none, false⟩] 0 [1, 2, 4, 52]) (.cond (.t 52) (.seq (.reg [⟨(some 55), (.call 55 [(.c (.int .i64 0))]), none, false⟩, ⟨none, (.store 5 (.t 4) (.t 55)), none, false⟩, ⟨(some 5), (.mov (.c (.sl 0 [] .nil))), none, false⟩] 0 [4, 5]) .ret) .skip))))))))))))))) (.seq (.seq (.reg [⟨(some 56), (.faddr 0 (.t 2)), none, false⟩, ⟨(some 57), (.load false 1 (.t 56)), none, false⟩] 0 [1, 2, 4, 57]) (.blk 1 (.seq (.reg [⟨(some 59), (.bin .eql (.t 57) (.c (.int .i64 1))), none, false⟩, ⟨(some 58), (.mov (.t 59)), none, false⟩] 0 [1, 2, 4, 57, 58]) (.cond (.t 58) (.seq (.reg [⟨(some 60), (.load true 5 (.t 2)), none, false⟩, ⟨(some 61), (.mov (.t 1)), none, false⟩, ⟨(some 62), (.call 57 [(.t 60), (.t 61)]), none, false⟩, ⟨(some 63), (.ext (.t 62) 0), none, false⟩, ⟨(some 64), (.ext (.t 62) 1), none, false⟩, ⟨none, (.store 5 (.t 4) (.t 63)), none, false⟩, ⟨(some 5), (.mov (.t 64)), none, false⟩] 0 [4, 5]) .ret) (.seq (.reg [⟨(some 66), (.bin .eql (.t 57) (.c (.int .i64 2))), none, false⟩, ⟨(some 65), (.mov (.t 66)), none, false⟩] 0 [1, 2, 4, 57, 65]) (.cond (.t 65) (.seq (.reg [⟨(some 67), (.load true 5 (.t 2)), none, false⟩, ⟨(some 68), (.mov (.t 1)), none, false⟩, ⟨(some 69), (.call 58 [(.t 67), (.t 68)]), none, false⟩, ⟨(some 70), (.ext (.t 69) 0), none, false⟩, ⟨(some 71), (.ext (.t 69) 1), none, false⟩, ⟨none, (.store 5 (.t 4) (.t 70)), none, false⟩, ⟨(some 5), (.mov (.t 71)), none, false⟩] 0 [4, 5]) .ret) (.seq (.reg [⟨(some 73), (.bin .eql (.t 57) (.c (.int .i64 3))), none, false⟩, ⟨(some 72), (.mov (.t 73)), none, false⟩] 0 [1, 2, 4, 57, 72]) (.cond (.t 72) (.seq (.seq (.reg [⟨(some 74), (.mov (.t 1)), none, false⟩, ⟨(some 75), (.call 53 [(.t 74)]), none, false⟩, ⟨(some 76), (.un .not (.t 75)), none, false⟩] 0 [2, 4, 76]) (.cond (.t 76) (.reg [⟨(some 77), (.call 55 [(.c (.int .i64 0))]), none, false⟩, ⟨none, (.store 5 (.t 2) (.t 77)), none, false⟩] 0 [2, 4]) .skip)) (.seq (.reg [⟨(some 78), (.load true 5 (.t 2)), none, false⟩, ⟨none, (.store 5 (.t 4) (.t 78)), none, false⟩, ⟨(some 5), (.mov (.c (.sl 0 [] .nil))), none, false⟩] 0 [4, 5]) .ret)) (.seq (.reg [⟨(some 80), (.bin .eql (.t 57) (.c (.int .i64 4))), none, false⟩, ⟨(some 79), (.mov (.t 80)), none, false⟩] 0 [1, 2, 4, 57, 79]) (.cond (.t 79) (.seq (.reg [⟨(some 81), (.load true 5 (.t 2)), none, false⟩, ⟨(some 82), (.mov (.t 1)), none, false⟩, ⟨(some 83), (.call 59 [(.t 81), (.t 82)]), none, false⟩, ⟨(some 84), (.ext (.t 83) 0), none, false⟩, ⟨(some 85), (.ext (.t 83) 1), none, false⟩, ⟨none, (.store 5 (.t 4) (.t 84)), none, false⟩, ⟨(some 5), (.mov (.t 85)), none, false⟩] 0 [4, 5]) .ret) (.seq (.reg [⟨(some 87), (.bin .eql (.t 57) (.c (.int .i64 5))), none, false⟩, ⟨(some 86), (.mov (.t 87)), none, false⟩] 0 [1, 2, 4, 86]) (.cond (.t 86) (.seq (.reg [⟨(some 88), (.load true 5 (.t 2)), none, false⟩, ⟨(some 89), (.mov (.t 1)), none, false⟩, ⟨(some 90), (.call 60 [(.t 88), (.t 89)]), none, false⟩, ⟨(some 91), (.ext (.t 90) 0), none, false⟩, ⟨(some 92), (.ext (.t 90) 1), none, false⟩, ⟨none, (.store 5 (.t 4) (.t 91)), none, false⟩, ⟨(some 5), (.mov (.t 92)), none, false⟩] 0 [4, 5]) .ret) .skip)))))))))))) (.seq (.seq (.reg [⟨(some 93), (.mov (.t 1)), none, false⟩, ⟨(some 94), (.bin .geq (.t 93) (.c (.int .u8 64))), none, false⟩] 0 [2, 4, 94]) (.cond (.t 94) (.reg [⟨(some 95), (.call 55 [(.c (.int .i64 0))]), none, false⟩, ⟨none, (.store 5 (.t 2) (.t 95)), none, false⟩] 0 [2, 4]) .skip)) (.seq (.reg [⟨(some 96), (.load true 5 (.t 2)), none, false⟩, ⟨none, (.store 5 (.t 4) (.t 96)), none, false⟩, ⟨(some 5), (.mov (.c (.sl 0 [] .nil))), none, false⟩] 0 [4, 5]) .ret))))), [(.c 4 true 5), (.t 5)]⟩
theorem rc_vtake_ok : compFn PG.P [⟨0, 0, [1, 2, 4], []⟩, ⟨1, 0, [1, 2, 4, 6], []⟩, ⟨2, 0, [4, 5], []⟩, ⟨3, 0, [1, 2, 4, 14], []⟩, ⟨4, 0, [4, 5], []⟩, ⟨5, 0, [1, 2, 4, 18], []⟩, ⟨6, 0, [4, 5], []⟩, ⟨7, 0, [1, 2, 4, 27], []⟩, ⟨8, 0, [4, 5], []⟩, ⟨9, 0, [1, 2, 4, 36], []⟩, ⟨10, 0, [4, 5], []⟩, ⟨11, 0, [1, 2, 4, 43], []⟩, ⟨12, 0, [4, 5], []⟩, ⟨13, 0, [1, 2, 4, 52], []⟩, ⟨14, 0, [4, 5], []⟩, ⟨15, 0, [1, 2, 4, 57], []⟩, ⟨16, 0, [1, 2, 4, 57, 58], []⟩, ⟨17, 0, [4, 5], []⟩, ⟨18, 0, [1, 2, 4, 57, 65], []⟩, ⟨19, 0, [4, 5], []⟩, ⟨20, 0, [1, 2, 4, 57, 72], []⟩, ⟨21, 0, [2, 4, 76], []⟩, ⟨22, 0, [2, 4], []⟩, ⟨23, 0, [4, 5], []⟩, ⟨24, 0, [1, 2, 4, 57, 79], []⟩, ⟨25, 0, [4, 5], []⟩, ⟨26, 0, [1, 2, 4, 86], []⟩, ⟨27, 0, [4, 5], []⟩, ⟨28, 0, [2, 4, 94], []⟩, ⟨29, 0, [2, 4], []⟩, ⟨30, 0, [4, 5], []⟩] 45 = some rc_vtake := by kernel_rfl
def vtakeF (p : Pa) (b : Int) : Pa × List Ac :=
  if b = 24 ∨ b = 26 then (pa0 0, [])
  else if b = 27 then (pa0 1, [])
  else if p.m = 7 ∧ b = 7 then (pa0 0, [])
  else if p.m = 7 ∨ b = 127 then (p, [])
  else if b < 32 then (p, [⟨1, 0, b, 0, none, none⟩])
  else if p.m = 0 then vgroundF p b
  else if 128 ≤ b then (pa0 0, [])
  else if p.m = 1 then vescF b
  else if p.m = 2 then vescIF p b
  else if p.m = 3 then (if vint b = true then p else pa0 0, [])
  else if p.m = 4 then vcsiF p b
  else if p.m = 5 then vcsiIF p b
  else (if 64 ≤ b then pa0 0 else p, [])
set_option maxHeartbeats 4000000 in
theorem vtake_H {p : Pa} {b : Int} (hp : paOk p) (hb : 0 ≤ b ∧ b ≤ 255) : HCalls PG 45 (paH p b) (paObs p) (fun n => paF (vtakeF p b)) := by
  obtain ⟨m, pr, P, I, U⟩ := p
  have hp0 := hp
  obtain ⟨h1, h2, h3, h4, h5, h6, h7⟩ := hp
  simp only at h1 h2 h3 h4 h5 h6 h7
  refine HCalls.by_fnF T24_ok rc_vtake_ok (fun n => by simp [rc_vtake, paH]) fun n => ?_
  unfold rc_vtake
  dsimp only [paH, paObs]
  simp -implicitDefEqProofs only [T24_at_csi, T24_at_csiI, T24_at_escI, T24_at_esc, T24_at_ground, T24_at_mode, T24_at_inter, F_hand_1, F_vmode_1, F_vinter_1, paR_eq, isS_sl, ints_intRows, List.length_set, List.take_length, acB1, vcB1, vcB2, vcB3, vcA1, vcA2, vcA3, vcA4, vcA5, vcA6, vcA7, ↓vcP1, ↓vcP2, ↓reduceIte, Option.map_some, Option.map_none, Option.bind_some, Option.bind_none, if_true, if_false, reduceCtorEq, beq_true, beq_false, Bool.not_true, Bool.not_false, BEq.rfl, Bool.true_beq, Bool.false_beq, and_true, true_and, and_self, decide_true, decide_false, List.length_cons, List.length_nil, List.all_cons, List.all_nil, Bool.and_true, Bool.and_self, List.getElem?_cons_zero, List.getElem?_cons_succ, List.set_cons_zero, List.set_cons_succ, List.nil_append, List.cons_append, List.append_nil, List.map_cons, List.map_nil, not_true_eq_false, not_false_eq_true, false_implies, true_implies, implies_true, List.take_succ_cons, List.take_zero, List.take_nil, List.drop_succ_cons, List.drop_zero, List.drop_nil, Nat.reduceLT, Nat.reduceLeDiff, Nat.reduceEqDiff, Nat.reduceAdd, Nat.reduceSub, Nat.reduceMul, Int.reduceLT, Int.reduceLE, Int.reduceEq, Int.reduceToNat, Int.reduceAdd, Int.reduceSub, Int.reduceNeg, List.reduceReplicate, List.replicate_zero, List.replicate_succ, ne_eq, List.flatMap_cons, List.flatMap_nil, List.length_replicate, List.length_append, Nat.le_refl, Nat.le_add_right, Nat.add_assoc, List.append_assoc, or_true, true_or, or_false, false_or, and_false, false_and, exists_eq_left, exists_eq_left', Option.some.injEq, DV.int.injEq, DV.bool.injEq, DV.sl.injEq, DV.own.injEq, DV.tup.injEq, List.cons.injEq, Ob.arr.injEq, Ob.box.injEq, Option.map_map, Int.toNat_natCast, Int.toNat_zero, Nat.reducePow, Int.toNat_one, Int.reduceMul, Nat.mul_one, Nat.zero_add, Nat.add_zero, Function.comp_apply, List.map_append, List.map_replicate, Int.cast_ofNat_Int, Nat.left_eq_add, Nat.add_eq_left, Nat.add_left_cancel_iff]
  clear h7
  simp only [cnd_gen]
  (repeat' (first | with_reducible exact Or.inl rfl | intro _ | (apply And.intro)))
  all_goals first
    | exact .inl rfl | exact .inr rfl | exact .inr ⟨rfl, trivial⟩
    | trivial
    | assumption
    | omega
    | exact rfl
    | exact hb
    | (show 32 ≤ b ∧ b ≤ 255; omega)
    | (dsimp only [vtakeF]; simp (disch := omega) only [if_pos, if_neg]; done)
    | (dsimp only [vtakeF]; (repeat (first | rw [if_pos (by omega)] | rw [if_neg (by omega)])); first | exact wkT_refl _ | rfl | (simp [paF, paR, paD, pa0, wkT_tup, wkL_cons, wkL_nil, wkA_agg, wk0_int, wk0_sl, wkA_sl, acRows_nil, intRows_nil]; done))
    | (rename_i hh; exact (hp0.2.2.2.2.2.2 _ hh).1)
    | (rename_i hh; exact (hp0.2.2.2.2.2.2 _ hh).2)
    | (rename_i hh; exact (h1.2 _ hh).1)
    | (rename_i hh; exact (h1.2 _ hh).2)
    | (rename_i hh; exact (h2.2 _ hh).1)
    | (rename_i hh; exact (h2.2 _ hh).2)
    | (rename_i hh; exact (h3.2 _ hh).1)
    | (rename_i hh; exact (h3.2 _ hh).2)
    | (show List.length _ ≤ _; dsimp only; omega)
    | (dsimp only [vtakeF]; (repeat (first | rw [if_pos (by omega)] | rw [if_neg (by omega)])); rw [if_neg (by simp [*])]; simp [pa0, wk0_int, intRows_nil]; done)
end Go.Proofs.YteemmpghpdaloaaDoor
end
section
/- vt.Step. -/
set_option linter.unusedVariables false
set_option linter.unusedSimpArgs false
set_option maxRecDepth 10000
namespace Go.Proofs.YteemmpghpdaloaaDoor
open Go.RowKit

def F_vcopied : List DV → Option FSpec
  | [.agg [.int .i64 m, .int .u8 pr, p, i, u]] => some ⟨isInts .i64 p ∧ isInts .u8 i ∧ isInts .u8 u ∧ ((intsD p).length ≤ 1000000 ∧ (intsD i).length ≤ 1000000 ∧ (intsD u).length ≤ 1000000), fun n => (.agg [.int .i64 m, .int .u8 pr, .own n 0 (intsD p).length, .own (n + 1) 0 (intsD i).length, .sl 1 (intRows .u8 (intsD u)) .any], [some (.arr 1 (intRows .i64 (intsD p))), some (.arr 1 (intRows .u8 (intsD i)))])⟩
  | _ => none
theorem F_vcopied_1 (m pr : Int) (p i u : DV) : F_vcopied [.agg [.int .i64 m, .int .u8 pr, p, i, u]] = some ⟨isInts .i64 p ∧ isInts .u8 i ∧ isInts .u8 u ∧ ((intsD p).length ≤ 1000000 ∧ (intsD i).length ≤ 1000000 ∧ (intsD u).length ≤ 1000000), fun n => (.agg [.int .i64 m, .int .u8 pr, .own n 0 (intsD p).length, .own (n + 1) 0 (intsD i).length, .sl 1 (intRows .u8 (intsD u)) .any], [some (.arr 1 (intRows .i64 (intsD p))), some (.arr 1 (intRows .u8 (intsD i)))])⟩ := nrfl _
theorem fvcopied_ok (args : List DV) (s : FSpec) (hs : F_vcopied args = some s) (hp : s.pre) : PCalls PG 44 args fun n r os => r = (s.res n).1 ∧ os = (s.res n).2 := by
  unfold F_vcopied at hs
  split at hs
  · obtain rfl := Option.some.inj hs
    obtain ⟨h1, h2, h3, h4⟩ := hp
    exact vcopied_P h1 h2 h3 h4
  · cases hs
theorem GCalls.wk {E : Prg} {f : Nat} {a b : List DV} {T : Objs} {R : DV → Objs → Prop} (h : GCalls E f b T R) (hw : wkL wkT a b) : GCalls E f a T R := by
  obtain ⟨hl, hg⟩ := wkL_get hw
  exact fun G w vs h1 h2 h3 h4 => h G w vs h1 h2 (h3.trans hl) fun i d hd => let ⟨c, hc, hx⟩ := hg i d hd; wkT_rel hx (h4 i c hc)
theorem HCalls.wk {E : Prg} {f : Nat} {a b : Nat → List DV} {obs : List Ob} {res : Nat → DV × Objs} (h : HCalls E f b obs res) (hw : ∀ n, wkL wkT (a n) (b n)) : HCalls E f a obs res := fun n => (h n).wk (hw n)
/-- As F_hand, of whatever slice of bytes. -/
def F_handN (g : Pa → Int → Pa × List Ac) (q : Int → Prop) : List DV → Option HSpec
  | [.agg [.int .i64 m, .int .u8 pr, .own o1 f1 n1, .own o2 f2 n2, u], .int .u8 b] => some ⟨fun T => ¬ o1 = o2 ∧ f1 = 0 ∧ f2 = 0 ∧ isOwn .i64 n1 T[o1]? ∧ isOwn .u8 n2 T[o2]? ∧ isInts .u8 u ∧ paOk ⟨m, pr, objInts T[o1]?, objInts T[o2]?, intsD u⟩ ∧ q b,
      fun T => (paR (g ⟨m, pr, objInts T[o1]?, objInts T[o2]?, intsD u⟩ b), killL [o1, o2] T ++ [none, none])⟩
  | _ => none
theorem F_handN_1 (g : Pa → Int → Pa × List Ac) (q : Int → Prop) (m pr b : Int) (o1 f1 n1 o2 f2 n2 : Nat) (u : DV) : F_handN g q [.agg [.int .i64 m, .int .u8 pr, .own o1 f1 n1, .own o2 f2 n2, u], .int .u8 b] =
    some ⟨fun T => ¬ o1 = o2 ∧ f1 = 0 ∧ f2 = 0 ∧ isOwn .i64 n1 T[o1]? ∧ isOwn .u8 n2 T[o2]? ∧ isInts .u8 u ∧ paOk ⟨m, pr, objInts T[o1]?, objInts T[o2]?, intsD u⟩ ∧ q b,
      fun T => (paR (g ⟨m, pr, objInts T[o1]?, objInts T[o2]?, intsD u⟩ b), killL [o1, o2] T ++ [none, none])⟩ := nrfl _
theorem handN_ok {f : Nat} {g : Pa → Int → Pa × List Ac} {q : Int → Prop} (h : ∀ p b, paOk p → q b → HCalls PG f (paH p b) (paObs p) (fun n => paF (g p b))) (args : List DV) (s : HSpec) (hs : F_handN g q args = some s) : HOk PG f args s := by
  unfold F_handN at hs
  split at hs
  · rename_i m pr o1 f1 n1 o2 f2 n2 u b
    obtain rfl := Option.some.inj hs
    intro T K ⟨p1, p2, p3, p4, p5, p6, p7, p8⟩ hK
    subst p2 p3
    obtain ⟨e1, l1, k1⟩ := isOwn_inv p4
    obtain ⟨e2, l2, k2⟩ := isOwn_inv p5
    obtain ⟨sz, k, e3, k3, k4⟩ := isInts_inv p6
    have hc : HCalls PG f (fun n => [.agg [.int .i64 m, .int .u8 pr, .own n 0 (objInts T[o1]?).length, .own (n + 1) 0 (objInts T[o2]?).length, .sl sz (intRows .u8 (intsD u)) k], .int .u8 b]) (paObs ⟨m, pr, objInts T[o1]?, objInts T[o2]?, intsD u⟩) (fun n => paF (g ⟨m, pr, objInts T[o1]?, objInts T[o2]?, intsD u⟩ b)) := by
      refine (h _ b p7 p8).wk fun n => ?_
      simp only [paH, wkL, wkT, wkA, wk0]
      refine ⟨⟨trivial, trivial, trivial, trivial, ⟨trivial, .inl trivial, ?_⟩, trivial⟩, trivial, trivial⟩
      rcases k3 with rfl | k3
      · exact .inl rfl
      · exact .inr (by simp [k3, intRows])
    refine CallK.hand [o1, o2] _ (by simp [p1]) rfl (fun i o ob ho hob => ?_) (fun d hd o ho => ?_) ?_ hc (by simpa [paF] using hK)
    · rcases i with _ | _ | i
      · simp [paObs] at ho hob; subst ho hob; exact e1
      · simp [paObs] at ho hob; subst ho hob; exact e2
      · simp at ho
    · simp only [List.mem_cons, List.not_mem_nil, or_false] at hd
      rcases hd with rfl | rfl
      · rw [e3] at ho
        simp [idsT, idsA, ids0] at ho
        simp; exact ho
      · simp [idsT, idsA, ids0] at ho
    · simp only [List.map_cons, List.map_nil, canT, canA, can0, pos, l1, l2]
      rw [e3]
      simp [canT, canA, can0, pos, p1, intsD_sl]
  · cases hs
theorem if_1add {α : Sort _} (n : Nat) (a b : α) : (if 1 + n ≤ n + 1 then a else b) = a := if_pos (by omega)
theorem take_1add {α : Type} (l : List α) (a : α) : List.take (1 + l.length) (a :: l) = a :: l := List.take_of_length_le (by simp; omega)
def F_vtake := F_handN vtakeF qB
def T25 : FL := (45, F_vtake) :: (44, F_vcopied) :: T24
theorem T25_ok : FOk PG (tab T25) :=
  FOk.consH (FOk.cons T24_ok fvcopied_ok) (handN_ok fun p b h1 h2 => vtake_H h1 h2)
theorem T25_at_take (args : List DV) : tab T25 45 args = (F_handN vtakeF qB args).map .h := nrfl _
theorem T25_at_copied (args : List DV) : tab T25 44 args = (F_vcopied args).map .o := nrfl _
theorem T25_at_ustep (args : List DV) : tab T25 17 args = (F_step args).map .o := nrfl _
/-- What Step shows ahead of the byte: a rune cut short. -/
def vcut (p : Pa) (b : Int) : Bool := decide (p.m = 0) && decide (0 < p.U.length) && (decide (1 < (ustep p.U b).2.length) || (decide ((ustep p.U b).2.length = 1) && decide (0 < (ustep p.U b).1.length)))
def vstepF (p : Pa) (b : Int) : Pa × List Ac :=
  if vcut p b = true then ((vtakeF { p with U := [] } b).1, ⟨0, 65533, 0, 0, none, none⟩ :: (vtakeF { p with U := [] } b).2)
  else vtakeF p b
theorem ite_le2 {c : Prop} [Decidable c] {a b n : Nat} (h1 : a ≤ n) (h2 : b ≤ n) : (if c then a else b) ≤ n := by split <;> assumption
theorem vtake_len (p : Pa) (b : Int) : (vtakeF p b).2.length ≤ 2 := by
  have h1 := ustep_len p.U b
  unfold vtakeF vgroundF vescF vescIF vcsiF vcsiIF vactF
  simp only [apply_ite Prod.snd, apply_ite List.length, List.length_map, List.length_nil, List.length_cons]
  repeat' (first | apply ite_le2 | exact h1 | omega)
noncomputable def rc_vstep : RFn := ⟨2, 54, (.seq (.reg [⟨(some 2), (.box 5 (.t 0)), none, false⟩, ⟨(some 4), (.alloc [(.int .i64 0), (.int .u8 0), (.sl 0 [] .nil), (.sl 0 [] .nil), (.sl 0 [] .nil)]), none, false⟩, ⟨(some 5), (.mov (.c (.sl 0 [] .nil))), none, false⟩] 0 [1, 2, 4]) (.seq (.reg [⟨(some 10), (.load true 5 (.t 2)), none, false⟩, ⟨(some 11), (.call 44 [(.t 10)]), none, false⟩, ⟨none, (.store 5 (.t 2) (.t 11)), none, false⟩] 0 [1, 2, 4]) (.seq (.reg [⟨(some 6), (.mov (.c (.sl 0 [] .nil))), none, false⟩] 0 [1, 2, 4, 6]) (.seq (.seq (.reg [⟨(some 12), (.faddr 0 (.t 2)), none, false⟩, ⟨(some 13), (.load false 1 (.t 12)), none, false⟩, ⟨(some 14), (.bin .eql (.t 13) (.c (.int .i64 0))), none, false⟩, ⟨(some 15), (.mov (.t 14)), none, false⟩, ⟨(some 16), (.faddr 4 (.t 2)), (some (15, true)), false⟩, ⟨(some 17), (.load false 1 (.t 16)), (some (15, true)), false⟩, ⟨(some 18), (.len (.t 17)), (some (15, true)), false⟩, ⟨(some 19), (.bin .gtr (.t 18) (.c (.int .i64 0))), (some (15, true)), false⟩, ⟨(some 20), (.pick (.t 15) (.t 19) (.c (.bool false))), none, false⟩] 0 [1, 2, 4, 6, 20]) (.cond (.t 20) (.seq (.reg [⟨(some 22), (.faddr 4 (.t 2)), none, false⟩, ⟨(some 23), (.load false 1 (.t 22)), none, false⟩, ⟨(some 24), (.mov (.t 1)), none, false⟩, ⟨(some 25), (.call 17 [(.t 23), (.t 24)]), none, false⟩, ⟨(some 21), (.mov (.t 25)), none, false⟩, ⟨(some 26), (.ext (.t 21) 0), none, false⟩, ⟨(some 27), (.ext (.t 21) 1), none, false⟩, ⟨(some 7), (.mov (.t 26)), none, false⟩, ⟨(some 8), (.mov (.t 27)), none, false⟩] 0 [1, 2, 4, 6, 7, 8]) (.seq (.reg [⟨(some 28), (.mov (.t 8)), none, false⟩, ⟨(some 29), (.len (.t 28)), none, false⟩, ⟨(some 30), (.bin .gtr (.t 29) (.c (.int .i64 1))), none, false⟩, ⟨(some 31), (.mov (.t 30)), none, false⟩, ⟨(some 32), (.mov (.t 8)), (some (31, false)), false⟩, ⟨(some 33), (.len (.t 32)), (some (31, false)), false⟩, ⟨(some 34), (.bin .eql (.t 33) (.c (.int .i64 1))), (some (31, false)), false⟩, ⟨(some 35), (.mov (.t 34)), (some (31, false)), false⟩, ⟨(some 36), (.mov (.t 7)), (some (35, true)), false⟩, ⟨(some 37), (.len (.t 36)), (some (35, true)), false⟩, ⟨(some 38), (.bin .gtr (.t 37) (.c (.int .i64 0))), (some (35, true)), false⟩, ⟨(some 39), (.pick (.t 35) (.t 38) (.c (.bool false))), (some (31, false)), false⟩, ⟨(some 40), (.pick (.t 31) (.c (.bool true)) (.t 39)), none, false⟩] 0 [1, 2, 4, 6, 40]) (.cond (.t 40) (.reg [⟨(some 41), (.build [(.int .i64 0), (.int .i32 0), (.int .u8 0), (.int .u8 0), (.sl 0 [] .nil), (.sl 0 [] .nil)] [(0, (1, (.c (.int .i64 0)))), (1, (1, (.c (.int .i32 65533))))]), none, false⟩, ⟨(some 42), (.mkrow 6 [(.int .i64 0), (.int .i32 0), (.int .u8 0), (.int .u8 0), (.sl 0 [] .nil), (.sl 0 [] .nil)] 1 [(0, (.t 41))]), none, false⟩, ⟨(some 6), (.mov (.t 42)), none, false⟩, ⟨(some 43), (.faddr 4 (.t 2)), none, false⟩, ⟨none, (.store 1 (.t 43) (.c (.sl 0 [] .nil))), none, false⟩] 0 [1, 2, 4, 6]) .skip))) .skip)) (.seq (.reg [⟨(some 45), (.load true 5 (.t 2)), none, false⟩, ⟨(some 46), (.mov (.t 1)), none, false⟩, ⟨(some 47), (.call 45 [(.t 45), (.t 46)]), none, false⟩, ⟨(some 44), (.mov (.t 47)), none, false⟩, ⟨(some 48), (.ext (.t 44) 0), none, false⟩, ⟨(some 49), (.ext (.t 44) 1), none, false⟩, ⟨none, (.store 5 (.t 2) (.t 48)), none, false⟩, ⟨(some 9), (.mov (.t 49)), none, false⟩] 0 [2, 4, 6, 9]) (.seq (.regD (.take ⟨(some 51), (.mov (.t 6)), none, false⟩ [] (.take ⟨(some 50), (.load true 5 (.t 2)), none, false⟩ [(.t 51)] (.take ⟨(some 52), (.mov (.t 9)), none, false⟩ [] (.op ⟨(some 53), (.append 6 64 (.t 51) (.t 52)), none, false⟩ (.op ⟨none, (.store 5 (.t 4) (.t 50)), none, false⟩ (.take ⟨(some 5), (.mov (.t 53)), none, false⟩ [] .done)))))) 0 [4, 5]) .ret)))))), [(.c 4 true 5), (.t 5)]⟩
theorem rc_vstep_ok : compFn PG.P [⟨0, 0, [1, 2, 4], []⟩, ⟨1, 0, [1, 2, 4], []⟩, ⟨2, 0, [1, 2, 4, 6], []⟩, ⟨3, 0, [1, 2, 4, 6, 20], []⟩, ⟨4, 0, [1, 2, 4, 6, 7, 8], []⟩, ⟨5, 0, [1, 2, 4, 6, 40], []⟩, ⟨6, 0, [1, 2, 4, 6], []⟩, ⟨7, 0, [2, 4, 6, 9], []⟩, ⟨8, 0, [4, 5], []⟩] 30 = some rc_vstep := by kernel_rfl
theorem vstep_P {m pr b : Int} {p i u : DV} (hp : isInts .i64 p) (hi : isInts .u8 i) (hu : isInts .u8 u) (ho : paOk ⟨m, pr, intsD p, intsD i, intsD u⟩) (hb : 0 ≤ b ∧ b ≤ 255) :
    PCalls PG 30 [.agg [.int .i64 m, .int .u8 pr, p, i, u], .int .u8 b] fun n r os => r = (paF (vstepF ⟨m, pr, intsD p, intsD i, intsD u⟩ b)).1 ∧ os = [] := by
  obtain ⟨s1, k1, e1, h1, g1⟩ := isInts_inv hp
  obtain ⟨s2, k2, e2, h2, g2⟩ := isInts_inv hi
  obtain ⟨s3, k3, e3, h3, g3⟩ := isInts_inv hu
  rw [e1, e2, e3]
  simp only [intsD_sl]
  generalize intsD p = P at *
  generalize intsD i = I at *
  generalize intsD u = U at *
  have ⟨j1, j2, j3, j4, j5, j6, j7⟩ := ho
  simp only at j1 j2 j3 j4 j5 j6 j7
  refine PCalls.by_fnF (res := fun n => paF (vstepF ⟨m, pr, P, I, U⟩ b)) T25_ok rc_vstep_ok (by simp [rc_vstep]) fun n => ?_
  unfold rc_vstep
  dsimp only
  have e1 : isInts .i64 (.sl s1 (intRows .i64 P) k1) := isInts_mk h1 g1
  have e2 : isInts .u8 (.sl s2 (intRows .u8 I) k2) := isInts_mk h2 g2
  have e3 : isInts .u8 (.sl s3 (intRows .u8 U) k3) := isInts_mk h3 g3
  clear j7
  simp -implicitDefEqProofs only [T25_at_take, T25_at_copied, T25_at_ustep, F_handN_1, if_1add, take_1add, F_vcopied_1, F_step_1, e1, e2, e3, paR_eq, isS_sl, intsD_sl, ints_intRows, List.length_set, List.take_length, acB1, vcB1, vcB2, vcB3, vcA1, vcA2, vcA3, vcA4, vcA5, vcA6, vcA7, ↓vcP1, ↓vcP2, ↓reduceIte, Option.map_some, Option.map_none, Option.bind_some, Option.bind_none, if_true, if_false, reduceCtorEq, beq_true, beq_false, Bool.not_true, Bool.not_false, BEq.rfl, Bool.true_beq, Bool.false_beq, and_true, true_and, and_self, decide_true, decide_false, List.length_cons, List.length_nil, List.all_cons, List.all_nil, Bool.and_true, Bool.and_self, List.getElem?_cons_zero, List.getElem?_cons_succ, List.set_cons_zero, List.set_cons_succ, List.nil_append, List.cons_append, List.append_nil, List.map_cons, List.map_nil, not_true_eq_false, not_false_eq_true, false_implies, true_implies, implies_true, List.take_succ_cons, List.take_zero, List.take_nil, List.drop_succ_cons, List.drop_zero, List.drop_nil, Nat.reduceLT, Nat.reduceLeDiff, Nat.reduceEqDiff, Nat.reduceAdd, Nat.reduceSub, Nat.reduceMul, Int.reduceLT, Int.reduceLE, Int.reduceEq, Int.reduceToNat, Int.reduceAdd, Int.reduceSub, Int.reduceNeg, List.reduceReplicate, List.replicate_zero, List.replicate_succ, ne_eq, List.flatMap_cons, List.flatMap_nil, List.length_replicate, List.length_append, Nat.le_refl, Nat.le_add_right, Nat.add_assoc, List.append_assoc, or_true, true_or, or_false, false_or, and_false, false_and, exists_eq_left, exists_eq_left', Option.some.injEq, DV.int.injEq, DV.bool.injEq, DV.sl.injEq, DV.own.injEq, DV.tup.injEq, List.cons.injEq, Ob.arr.injEq, Ob.box.injEq, Option.map_map, Int.toNat_natCast, Int.toNat_zero, Nat.reducePow, Int.toNat_one, Int.reduceMul, Nat.mul_one, Nat.zero_add, Nat.add_zero, Function.comp_apply, List.map_append, List.map_replicate, Int.cast_ofNat_Int, Nat.left_eq_add, Nat.add_eq_left, Nat.add_left_cancel_iff]
  have q1 := vtake_len ⟨m, pr, P, I, U⟩ b
  have q2 := vtake_len ⟨m, pr, P, I, []⟩ b
  have o1 : paOk ⟨m, pr, P, I, U⟩ := ho
  have o2 : paOk ⟨m, pr, P, I, []⟩ := ⟨j1, j2, inK_nil _, j4, j5, by simp, ho.2.2.2.2.2.2⟩
  have c1 : vcut ⟨m, pr, P, I, U⟩ b = true → vstepF ⟨m, pr, P, I, U⟩ b = ((vtakeF ⟨m, pr, P, I, []⟩ b).1, ⟨0, 65533, 0, 0, none, none⟩ :: (vtakeF ⟨m, pr, P, I, []⟩ b).2) := fun h => by simp [vstepF, h]
  have c2 : vcut ⟨m, pr, P, I, U⟩ b = false → vstepF ⟨m, pr, P, I, U⟩ b = vtakeF ⟨m, pr, P, I, U⟩ b := fun h => by simp [vstepF, h]
  have k1 : ∀ x : Pa × List Ac, x = vstepF ⟨m, pr, P, I, U⟩ b → wkT (paR x) (paF (vstepF ⟨m, pr, P, I, U⟩ b)).1 ∧ [] = (paF (vstepF ⟨m, pr, P, I, U⟩ b)).2 := fun x h => by
    subst h; exact ⟨wkT_refl _, rfl⟩
  have hd : vcut ⟨m, pr, P, I, U⟩ b = (decide (m = 0) && decide (0 < U.length) && (decide (1 < (ustep U b).2.length) || (decide ((ustep U b).2.length = 1) && decide (0 < (ustep U b).1.length)))) := rfl
  generalize hA : vtakeF ⟨m, pr, P, I, U⟩ b = A at *
  generalize hB : vtakeF ⟨m, pr, P, I, []⟩ b = B at *
  generalize ustep U b = us at *
  have fA : ∀ x : Prop, x → ((inK .i64 P ∧ inK .u8 I ∧ inK .u8 U ∧ paOk ⟨m, pr, P, I, U⟩ ∧ qB b) ∧ (A.2.length * 64 ≤ 140737488355328 ∧ A.2.length ≤ 4611686018427387904) ∧ x) := fun x hx => ⟨⟨j1, j2, j3, o1, hb⟩, ⟨by omega, by omega⟩, hx⟩
  have fB : ∀ x : Prop, x → ((inK .i64 P ∧ inK .u8 I ∧ paOk ⟨m, pr, P, I, []⟩ ∧ qB b) ∧ ((1 + B.2.length) * 64 ≤ 140737488355328 ∧ 1 + B.2.length ≤ 4611686018427387904) ∧ x) := fun x hx => ⟨⟨j1, j2, o2, hb⟩, ⟨by omega, by omega⟩, hx⟩
  have hA1 : vcut ⟨m, pr, P, I, U⟩ b = false → _ := fun h => fA _ (k1 A (c2 h).symm)
  have hB1 : vcut ⟨m, pr, P, I, U⟩ b = true → _ := fun h => fB _ (k1 _ (c1 h).symm)
  refine ⟨⟨by omega, by omega, by omega⟩, fun hm => ⟨fun hu0 => ⟨⟨j3, by omega, hb⟩, fun a1 => hB1 ?_, fun a1 => ⟨fun a2 => ⟨fun a3 => hB1 ?_, fun a3 => hA1 ?_⟩, fun a2 => hA1 ?_⟩⟩, fun hu0 => hA1 ?_⟩, fun hm => hA1 ?_⟩
  all_goals (rw [hd]; simp only [Bool.and_eq_true, Bool.or_eq_true, decide_eq_true_eq, Bool.and_eq_false_iff, Bool.or_eq_false_iff, decide_eq_false_iff_not]; omega)
end Go.Proofs.YteemmpghpdaloaaDoor
end
section
/- vt.All. -/
set_option linter.unusedVariables false
set_option linter.unusedSimpArgs false
set_option maxRecDepth 10000
namespace Go.Proofs.YteemmpghpdaloaaDoor
open Go.RowKit

theorem paOk_pa0 (m : Int) : paOk (pa0 m) := ⟨inK_nil _, inK_nil _, inK_nil _, by simp [pa0], by simp [pa0], by simp [pa0], by simp [pa0]⟩
theorem ite_ok {c : Prop} [Decidable c] {P : Pa × List Ac → Prop} {a b : Pa × List Ac} (h1 : c → P a) (h2 : ¬ c → P b) : P (if c then a else b) := by split; exact h1 ‹_›; exact h2 ‹_›
theorem inK_app {k : IntKind} {l : List Int} {n : Int} (h : inK k l) (hn : k.min ≤ n ∧ n ≤ k.max) (hl : l.length ≤ 1000) : inK k (l ++ [n]) := by
  refine ⟨by simp; omega, fun x hx => ?_⟩
  simp only [List.mem_append, List.mem_singleton] at hx
  rcases hx with hx | rfl
  · exact h.2 _ hx
  · exact hn
theorem u8mm : IntKind.u8.min = 0 ∧ IntKind.u8.max = 255 := by decide
theorem i64mm : IntKind.i64.min = -9223372036854775808 ∧ IntKind.i64.max = 9223372036854775807 := by decide
/-- Parameters: each of a kind, so the list. -/
theorem inK_P {l : List Int} (hl : l.length ≤ 1000) (h : ∀ n ∈ l, 0 ≤ n ∧ n ≤ 65535) : inK .i64 l := ⟨by omega, fun n hn => by have := h n hn; have := i64mm; omega⟩
theorem vcsi_pok {p : Pa} {b : Int} (hp : paOk p) (hb : 32 ≤ b ∧ b ≤ 255) : paOk (vcsiF p b).1 := by
  obtain ⟨h1, h2, h3, h4, h5, h6, h7⟩ := hp
  have := u8mm
  refine ite_ok (P := fun x => paOk x.1) (fun hv => ⟨h1, ⟨by simp, fun x hx => by simp at hx; subst hx; omega⟩, h3, h4, by simp, h6, h7⟩) fun hv => ?_
  have hv2 : 48 ≤ b := by simp [vint] at hv; omega
  refine ite_ok (P := fun x => paOk x.1) (fun _ => paOk_pa0 0) fun h64 => ?_
  refine ite_ok (P := fun x => paOk x.1) (fun _ => paOk_pa0 6) fun h58 => ?_
  refine ite_ok (P := fun x => paOk x.1) (fun _ => ⟨h1, h2, h3, h4, h5, h6, h7⟩) fun h59 => ?_
  have hq : ∀ {Q : List Int}, Q.length ≤ 1000 → (∀ n ∈ Q, 0 ≤ n ∧ n ≤ 65535) → paOk ⟨p.m, p.pr, Q, p.I, p.U⟩ := fun a c => ⟨inK_P a c, h2, h3, a, h5, h6, c⟩
  refine ite_ok (P := fun x => paOk x.1) (fun hl0 => ite_ok (P := fun x => paOk x.1) (fun _ => hq (by simp) (by simp)) fun _ => hq (by simp) (by simp; omega)) fun hl0 => ?_
  refine ite_ok (P := fun x => paOk x.1) (fun hl0 => ite_ok (P := fun x => paOk x.1) (fun _ => paOk_pa0 6) fun _ => hq (by simp; omega) fun n hn => ?_) fun _ => hq (by simp [digP]; omega) fun n hn => ?_
  · simp at hn
    rcases hn with hn | rfl
    · exact h7 n hn
    · omega
  · rcases List.mem_or_eq_of_mem_set hn with h | rfl
    · exact h7 n h
    · have h0 : 0 ≤ p.P.getD (p.P.length - 1) 0 := by
        rw [List.getD_eq_getElem?_getD]
        rcases h : p.P[p.P.length - 1]? with _ | v
        · simp
        · exact (h7 v (List.mem_of_getElem? h)).1
      omega
theorem vtake_pok {p : Pa} {b : Int} (hp : paOk p) (hb : 0 ≤ b ∧ b ≤ 255) : paOk (vtakeF p b).1 := by
  have h0 := paOk_pa0
  obtain ⟨h1, h2, h3, h4, h5, h6, h7⟩ := id hp
  have hu := u8mm
  have e1 : (ustep p.U b).1.length ≤ 1000 := by have := ustep_pl p.U b; omega
  have e2 := ustep_in h3 hb (by omega)
  have hg : ∀ {c : Prop} [Decidable c] {x y : Pa × List Ac}, (c → paOk x.1) → (¬ c → paOk y.1) → paOk (if c then x else y).1 := fun a c => ite_ok (P := fun x => paOk x.1) a c
  refine hg (fun _ => h0 _) fun _ => hg (fun _ => h0 _) fun _ => hg (fun _ => h0 _) fun _ => hg (fun _ => hp) fun _ => hg (fun _ => hp) fun hb2 => hg (fun _ => ⟨h1, h2, e2, h4, h5, e1, h7⟩) fun _ => hg (fun _ => h0 _) fun _ => hg (fun _ => ?_) fun _ => hg (fun _ => ?_) fun _ => hg (fun _ => ?_) fun _ => hg (fun _ => vcsi_pok hp (by omega)) fun _ => hg (fun _ => ?_) fun _ => ?_
  · exact hg (fun _ => ⟨inK_nil _, ⟨by simp, fun x hx => by simp at hx; subst hx; omega⟩, inK_nil _, by simp, by simp, by simp, by simp⟩) fun _ => hg (fun _ => h0 _) fun _ => hg (fun _ => h0 _) fun _ => h0 _
  · exact hg (fun _ => h0 _) fun _ => hg (fun _ => h0 _) fun hl => ⟨h1, inK_app h2 (by omega) h5, h3, h4, by simp; omega, h6, h7⟩
  · show paOk (if vint b = true then p else pa0 0)
    split
    · exact hp
    · exact h0 _
  · exact hg (fun _ => h0 _) fun _ => hg (fun _ => h0 _) fun hl => ⟨h1, inK_app h2 (by omega) h5, h3, h4, by simp; omega, h6, h7⟩
  · show paOk (if 64 ≤ b then pa0 0 else p)
    split
    · exact h0 _
    · exact hp
theorem vstep_pok {p : Pa} {b : Int} (hp : paOk p) (hb : 0 ≤ b ∧ b ≤ 255) : paOk (vstepF p b).1 := by
  unfold vstepF
  split
  · obtain ⟨h1, h2, h3, h4, h5, h6, h7⟩ := hp
    exact vtake_pok ⟨h1, h2, inK_nil _, h4, h5, by simp, h7⟩ hb
  · exact vtake_pok hp hb
theorem vstep_len (p : Pa) (b : Int) : (vstepF p b).2.length ≤ 3 := by
  unfold vstepF
  have h1 := vtake_len p b
  have h2 := vtake_len { p with U := [] } b
  split
  · simp; omega
  · omega
end Go.Proofs.YteemmpghpdaloaaDoor
end
section
/- vt.All. -/
set_option linter.unusedVariables false
set_option linter.unusedSimpArgs false
set_option maxRecDepth 10000
namespace Go.Proofs.YteemmpghpdaloaaDoor
open Go.RowKit

def F_vstep : List DV → Option FSpec
  | [.agg [.int .i64 m, .int .u8 pr, p, i, u], .int .u8 b] => some ⟨isInts .i64 p ∧ isInts .u8 i ∧ isInts .u8 u ∧ paOk ⟨m, pr, intsD p, intsD i, intsD u⟩ ∧ (0 ≤ b ∧ b ≤ 255), fun n => (paR (vstepF ⟨m, pr, intsD p, intsD i, intsD u⟩ b), [])⟩
  | _ => none
theorem F_vstep_1 (m pr b : Int) (p i u : DV) : F_vstep [.agg [.int .i64 m, .int .u8 pr, p, i, u], .int .u8 b] = some ⟨isInts .i64 p ∧ isInts .u8 i ∧ isInts .u8 u ∧ paOk ⟨m, pr, intsD p, intsD i, intsD u⟩ ∧ (0 ≤ b ∧ b ≤ 255), fun n => (paR (vstepF ⟨m, pr, intsD p, intsD i, intsD u⟩ b), [])⟩ := nrfl _
theorem fvstep_ok (args : List DV) (s : FSpec) (hs : F_vstep args = some s) (hp : s.pre) : PCalls PG 30 args fun n r os => r = (s.res n).1 ∧ os = (s.res n).2 := by
  unfold F_vstep at hs
  split at hs
  · obtain rfl := Option.some.inj hs
    obtain ⟨h1, h2, h3, h4, h5⟩ := hp
    exact vstep_P h1 h2 h3 h4 h5
  · cases hs
def T27 : FL := (30, F_vstep) :: T25
theorem T27_ok : FOk PG (tab T27) := FOk.cons T25_ok fvstep_ok
theorem T27_at_step (args : List DV) : tab T27 30 args = (F_vstep args).map .o := nrfl _
theorem T27_at_copied (args : List DV) : tab T27 44 args = (F_vcopied args).map .o := nrfl _
/-- All: byte after byte. -/
def vallF (p : Pa) (acc : List Ac) : List Int → Pa × List Ac
  | [] => (p, acc)
  | c :: l => vallF (vstepF p c).1 (acc ++ (vstepF p c).2) l
noncomputable def rc_vall_l0 : RC := (.seq (.reg [⟨(some 15), (.bin .lss (.t 14) (.t 13)), none, false⟩] 0 [2, 4, 6, 12, 13, 14, 15]) (.seq (.cond (.t 15) .skip (.ext 0)) (.seq (.blk 1 (.seq (.reg [⟨(some 16), (.iaddr 1 (.t 12) (.t 14)), none, false⟩, ⟨(some 17), (.load false 1 (.t 16)), none, false⟩, ⟨(some 8), (.mov (.t 17)), none, false⟩] 0 [2, 4, 6, 8, 12, 13, 14]) (.seq (.reg [⟨(some 9), (.mov (.c (.sl 0 [] .nil))), none, false⟩] 0 [2, 4, 6, 8, 12, 13, 14]) (.seq (.reg [⟨(some 19), (.load true 5 (.t 2)), none, false⟩, ⟨(some 20), (.mov (.t 8)), none, false⟩, ⟨(some 21), (.call 30 [(.t 19), (.t 20)]), none, false⟩, ⟨(some 18), (.mov (.t 21)), none, false⟩, ⟨(some 22), (.ext (.t 18) 0), none, false⟩, ⟨(some 23), (.ext (.t 18) 1), none, false⟩, ⟨none, (.store 5 (.t 2) (.t 22)), none, false⟩, ⟨(some 9), (.mov (.t 23)), none, false⟩] 0 [2, 4, 6, 9, 12, 13, 14]) (.reg [⟨(some 24), (.mov (.t 6)), none, false⟩, ⟨(some 25), (.mov (.t 9)), none, false⟩, ⟨(some 26), (.append 6 64 (.t 24) (.t 25)), none, false⟩, ⟨(some 6), (.mov (.t 26)), none, false⟩] 0 [2, 4, 6, 12, 13, 14]))))) (.reg [⟨(some 27), (.bin .add (.t 14) (.c (.int .i64 1))), none, false⟩, ⟨(some 14), (.mov (.t 27)), none, false⟩] 0 [2, 4, 6, 12, 13, 14]))))
noncomputable def rc_vall : RFn := ⟨2, 30, (.seq (.reg [⟨(some 2), (.box 5 (.t 0)), none, false⟩, ⟨(some 4), (.alloc [(.int .i64 0), (.int .u8 0), (.sl 0 [] .nil), (.sl 0 [] .nil), (.sl 0 [] .nil)]), none, false⟩, ⟨(some 5), (.mov (.c (.sl 0 [] .nil))), none, false⟩] 0 [1, 2, 4]) (.seq (.reg [⟨(some 10), (.load true 5 (.t 2)), none, false⟩, ⟨(some 11), (.call 44 [(.t 10)]), none, true⟩, ⟨none, (.store 5 (.t 2) (.t 11)), none, false⟩] 0 [1, 2, 4]) (.seq (.reg [⟨(some 6), (.mov (.c (.sl 0 [] .nil))), none, false⟩] 0 [1, 2, 4, 6]) (.seq (.seq (.reg [⟨(some 12), (.mov (.t 1)), none, false⟩, ⟨(some 13), (.len (.t 12)), none, false⟩, ⟨(some 14), (.mov (.c (.int .i64 0))), none, false⟩] 0 [2, 4, 6, 12, 13, 14]) (.blk 0 (.loop rc_vall_l0))) (.seq (.reg [⟨(some 28), (.load true 5 (.t 2)), none, false⟩, ⟨(some 29), (.mov (.t 6)), none, false⟩, ⟨none, (.store 5 (.t 4) (.t 28)), none, false⟩, ⟨(some 5), (.mov (.t 29)), none, false⟩] 0 [4, 5]) .ret))))), [(.c 4 true 5), (.t 5)]⟩
theorem rc_vall_ok : compFn PG.P [⟨0, 0, [1, 2, 4], []⟩, ⟨1, 0, [1, 2, 4], [11]⟩, ⟨2, 0, [1, 2, 4, 6], []⟩, ⟨3, 0, [2, 4, 6, 12, 13, 14], []⟩, ⟨4, 0, [2, 4, 6, 12, 13, 14, 15], []⟩, ⟨5, 0, [2, 4, 6, 8, 12, 13, 14], []⟩, ⟨6, 0, [2, 4, 6, 8, 12, 13, 14], []⟩, ⟨7, 0, [2, 4, 6, 9, 12, 13, 14], []⟩, ⟨8, 0, [2, 4, 6, 12, 13, 14], []⟩, ⟨9, 0, [2, 4, 6, 12, 13, 14], []⟩, ⟨10, 0, [4, 5], []⟩] 34 = some rc_vall := by kernel_rfl
theorem vall_P {m pr : Int} {p i u : DV} {sz : Nat} {k : SK} {L : List Int} (hp : isInts .i64 p) (hi : isInts .u8 i) (hu : isInts .u8 u) (ho : paOk ⟨m, pr, intsD p, intsD i, intsD u⟩) (hs : sz = 1 ∨ L = []) (hL : inK .u8 L) (hl : L.length ≤ 1000000) :
    PCalls PG 34 [.agg [.int .i64 m, .int .u8 pr, p, i, u], .sl sz (intRows .u8 L) k] fun n r os => r = (paF (vallF ⟨m, pr, intsD p, intsD i, intsD u⟩ [] L)).1 ∧ os = [] := by
  obtain ⟨s1, k1, e1, h1, g1⟩ := isInts_inv hp
  obtain ⟨s2, k2, e2, h2, g2⟩ := isInts_inv hi
  obtain ⟨s3, k3, e3, h3, g3⟩ := isInts_inv hu
  rw [e1, e2, e3]
  simp only [intsD_sl]
  generalize intsD p = P at *
  generalize intsD i = I at *
  generalize intsD u = U at *
  have ⟨j1, j2, j3, j4, j5, j6, j7⟩ := ho
  simp only at j1 j2 j3 j4 j5 j6 j7
  refine PCalls.by_fnF (res := fun n => paF (vallF ⟨m, pr, P, I, U⟩ [] L)) T27_ok rc_vall_ok (by simp [rc_vall]) fun n => ?_
  unfold rc_vall
  dsimp only
  have e1 : isInts .i64 (.sl s1 (intRows .i64 P) k1) := isInts_mk h1 g1
  have e2 : isInts .u8 (.sl s2 (intRows .u8 I) k2) := isInts_mk h2 g2
  have e3 : isInts .u8 (.sl s3 (intRows .u8 U) k3) := isInts_mk h3 g3
  clear j7
  simp -implicitDefEqProofs only [T27_at_step, T27_at_copied, F_vcopied_1, F_vstep_1, e1, e2, e3, paR_eq, isS_sl, intsD_sl, ints_intRows, List.length_set, List.take_length, acB1, vcB1, vcB2, vcB3, vcA1, vcA2, vcA3, vcA4, vcA5, vcA6, vcA7, ↓vcP1, ↓vcP2, ↓reduceIte, Option.map_some, Option.map_none, Option.bind_some, Option.bind_none, if_true, if_false, reduceCtorEq, beq_true, beq_false, Bool.not_true, Bool.not_false, BEq.rfl, Bool.true_beq, Bool.false_beq, and_true, true_and, and_self, decide_true, decide_false, List.length_cons, List.length_nil, List.all_cons, List.all_nil, Bool.and_true, Bool.and_self, List.getElem?_cons_zero, List.getElem?_cons_succ, List.set_cons_zero, List.set_cons_succ, List.nil_append, List.cons_append, List.append_nil, List.map_cons, List.map_nil, not_true_eq_false, not_false_eq_true, false_implies, true_implies, implies_true, List.take_succ_cons, List.take_zero, List.take_nil, List.drop_succ_cons, List.drop_zero, List.drop_nil, Nat.reduceLT, Nat.reduceLeDiff, Nat.reduceEqDiff, Nat.reduceAdd, Nat.reduceSub, Nat.reduceMul, Int.reduceLT, Int.reduceLE, Int.reduceEq, Int.reduceToNat, Int.reduceAdd, Int.reduceSub, Int.reduceNeg, List.reduceReplicate, List.replicate_zero, List.replicate_succ, ne_eq, List.flatMap_cons, List.flatMap_nil, List.length_replicate, List.length_append, Nat.le_refl, Nat.le_add_right, Nat.add_assoc, List.append_assoc, or_true, true_or, or_false, false_or, and_false, false_and, exists_eq_left, exists_eq_left', Option.some.injEq, DV.int.injEq, DV.bool.injEq, DV.sl.injEq, DV.own.injEq, DV.tup.injEq, List.cons.injEq, Ob.arr.injEq, Ob.box.injEq, Option.map_map, Int.toNat_natCast, Int.toNat_zero, Nat.reducePow, Int.toNat_one, Int.reduceMul, Nat.mul_one, Nat.zero_add, Nat.add_zero, Function.comp_apply, List.map_append, List.map_replicate, Int.cast_ofNat_Int, Nat.left_eq_add, Nat.add_eq_left, Nat.add_left_cancel_iff]
  refine ⟨⟨by omega, by omega, by omega⟩, ?_⟩
  refine LoopWp.own 6 6 rfl (.inl rfl) ?_
  refine LoopWp.invR T27_ok (S := fun q (x : Nat × Pa × List Ac) => ⟨[(2, .ptr q 0 0), (4, .ptr (q + 1) 0 0), (6, .own (q + 2) 0 x.2.2.length), (12, .sl sz (intRows .u8 L) k), (13, .int .i64 L.length), (14, .int .i64 x.1)],
    List.replicate q none ++ [some (.box [.int .i64 x.2.1.m, .int .u8 x.2.1.pr, .sl 1 (intRows .i64 x.2.1.P) .any, .sl 1 (intRows .u8 x.2.1.I) .any, .sl 1 (intRows .u8 x.2.1.U) .any]), some (.box [.int .i64 0, .int .u8 0, .sl 0 [] .nil, .sl 0 [] .nil, .sl 0 [] .nil]), some (.arr 6 (acRows x.2.2))]⟩)
    (I := fun x => x.1 ≤ L.length ∧ paOk x.2.1 ∧ x.2.2.length ≤ 3 * x.1 ∧ vallF x.2.1 x.2.2 (L.drop x.1) = vallF ⟨m, pr, P, I, U⟩ [] L) (μ := fun x => L.length - x.1) n (0, ⟨m, pr, P, I, U⟩, []) ⟨by omega, ho, by simp, rfl⟩ ?_ ?_
  · simp -implicitDefEqProofs only [acB1, vcB1, vcB2, vcB3, vcA1, vcA2, vcA3, vcA4, vcA5, vcA6, vcA7, ↓vcP1, ↓vcP2, ↓reduceIte, Option.map_some, Option.map_none, Option.bind_some, Option.bind_none, if_true, if_false, reduceCtorEq, beq_true, beq_false, Bool.not_true, Bool.not_false, BEq.rfl, Bool.true_beq, Bool.false_beq, and_true, true_and, and_self, decide_true, decide_false, List.length_cons, List.length_nil, List.all_cons, List.all_nil, Bool.and_true, Bool.and_self, List.getElem?_cons_zero, List.getElem?_cons_succ, List.set_cons_zero, List.set_cons_succ, List.nil_append, List.cons_append, List.append_nil, List.map_cons, List.map_nil, not_true_eq_false, not_false_eq_true, false_implies, true_implies, implies_true, List.take_succ_cons, List.take_zero, List.take_nil, List.drop_succ_cons, List.drop_zero, List.drop_nil, Nat.reduceLT, Nat.reduceLeDiff, Nat.reduceEqDiff, Nat.reduceAdd, Nat.reduceSub, Nat.reduceMul, Int.reduceLT, Int.reduceLE, Int.reduceEq, Int.reduceToNat, Int.reduceAdd, Int.reduceSub, Int.reduceNeg, List.reduceReplicate, List.replicate_zero, List.replicate_succ, ne_eq, List.flatMap_cons, List.flatMap_nil, List.length_replicate, List.length_append, Nat.le_refl, Nat.le_add_right, Nat.add_assoc, List.append_assoc, or_true, true_or, or_false, false_or, and_false, false_and, exists_eq_left, exists_eq_left', Option.some.injEq, DV.int.injEq, DV.bool.injEq, DV.sl.injEq, DV.own.injEq, DV.tup.injEq, List.cons.injEq, Ob.arr.injEq, Ob.box.injEq, Option.map_map, Int.toNat_natCast, Int.toNat_zero, Nat.reducePow, Int.toNat_one, Int.reduceMul, Nat.mul_one, Nat.zero_add, Nat.add_zero, Function.comp_apply, List.map_append, List.map_replicate, Int.cast_ofNat_Int, Nat.left_eq_add, Nat.add_eq_left, Nat.add_left_cancel_iff]
  · intro q ⟨j, ⟨m', pr', P', I', U'⟩, acc⟩ hq ⟨i1, i2, i3, i4⟩
    have ⟨j1, j2, j3, j4, j5, j6, j7⟩ := i2
    simp only at i1 i3 i4 j1 j2 j3 j4 j5 j6 j7
    unfold rc_vall_l0
    dsimp only at *
    have w1 : isInts .i64 (.sl 1 (intRows .i64 P') .any) := isInts_mk (.inl rfl) j1
    have w2 : isInts .u8 (.sl 1 (intRows .u8 I') .any) := isInts_mk (.inl rfl) j2
    have w3 : isInts .u8 (.sl 1 (intRows .u8 U') .any) := isInts_mk (.inl rfl) j3
    simp -implicitDefEqProofs only [T27_at_step, T27_at_copied, F_vcopied_1, F_vstep_1, w1, w2, w3, paR_eq, isS_sl, intsD_sl, ints_intRows, List.length_set, List.take_length, acB1, vcB1, vcB2, vcB3, vcA1, vcA2, vcA3, vcA4, vcA5, vcA6, vcA7, ↓vcP1, ↓vcP2, ↓reduceIte, Option.map_some, Option.map_none, Option.bind_some, Option.bind_none, if_true, if_false, reduceCtorEq, beq_true, beq_false, Bool.not_true, Bool.not_false, BEq.rfl, Bool.true_beq, Bool.false_beq, and_true, true_and, and_self, decide_true, decide_false, List.length_cons, List.length_nil, List.all_cons, List.all_nil, Bool.and_true, Bool.and_self, List.getElem?_cons_zero, List.getElem?_cons_succ, List.set_cons_zero, List.set_cons_succ, List.nil_append, List.cons_append, List.append_nil, List.map_cons, List.map_nil, not_true_eq_false, not_false_eq_true, false_implies, true_implies, implies_true, List.take_succ_cons, List.take_zero, List.take_nil, List.drop_succ_cons, List.drop_zero, List.drop_nil, Nat.reduceLT, Nat.reduceLeDiff, Nat.reduceEqDiff, Nat.reduceAdd, Nat.reduceSub, Nat.reduceMul, Int.reduceLT, Int.reduceLE, Int.reduceEq, Int.reduceToNat, Int.reduceAdd, Int.reduceSub, Int.reduceNeg, List.reduceReplicate, List.replicate_zero, List.replicate_succ, ne_eq, List.flatMap_cons, List.flatMap_nil, List.length_replicate, List.length_append, Nat.le_refl, Nat.le_add_right, Nat.add_assoc, List.append_assoc, or_true, true_or, or_false, false_or, and_false, false_and, exists_eq_left, exists_eq_left', Option.some.injEq, DV.int.injEq, DV.bool.injEq, DV.sl.injEq, DV.own.injEq, DV.tup.injEq, List.cons.injEq, Ob.arr.injEq, Ob.box.injEq, Option.map_map, Int.toNat_natCast, Int.toNat_zero, Nat.reducePow, Int.toNat_one, Int.reduceMul, Nat.mul_one, Nat.zero_add, Nat.add_zero, Function.comp_apply, List.map_append, List.map_replicate, Int.cast_ofNat_Int, Nat.left_eq_add, Nat.add_eq_left, Nat.add_left_cancel_iff]
    refine ⟨fun h => ?_, fun h => ?_⟩
    · have hj : j < L.length := by omega
      have hb := getD_lt hL hj
      have hsz : sz = 1 := by rcases hs with h | h; exact h; subst h; simp at hj
      have q1 := vstep_len ⟨m', pr', P', I', U'⟩ (L.getD j 0)
      have q2 := vstep_pok i2 hb
      refine ⟨⟨by omega, h, hsz⟩, hj, ⟨i2, hb⟩, ⟨by omega, by omega⟩, by omega, (j + 1, (vstepF ⟨m', pr', P', I', U'⟩ (L.getD j 0)).1, acc ++ (vstepF ⟨m', pr', P', I', U'⟩ (L.getD j 0)).2), ⟨⟨by simp, by rw [wI64] <;> omega⟩, ⟨rfl, rfl, rfl, rfl, rfl⟩, rfl⟩, ⟨by simp only; omega, q2, by simp only [List.length_append]; omega, ?_⟩, by simp only; omega⟩
      rw [← i4, List.drop_eq_getElem_cons hj]
      have hgd : L.getD j 0 = L[j] := by rw [List.getD_eq_getElem?_getD, List.getElem?_eq_getElem hj]; rfl
      rw [hgd]; rfl
    · have hj : j = L.length := by omega
      subst hj
      rw [List.drop_length] at i4
      refine ⟨by omega, ?_⟩
      rw [← i4]
      exact ⟨wkT_refl _, rfl⟩
end Go.Proofs.YteemmpghpdaloaaDoor
end
section
/- The document's terminal: its small functions. -/
set_option linter.unusedVariables false
set_option linter.unusedSimpArgs false
set_option maxRecDepth 10000
namespace Go.Proofs.YteemmpghpdaloaaDoor
open Go.RowKit

theorem PCalls.wk {E : Prg} {f : Nat} {a b : List DV} {R : Nat → DV → Objs → Prop} (h : PCalls E f b R) (hw : wkL wkT a b) : PCalls E f a R := fun n => (h n).wk hw
/-- A function of a parser and a byte, whatever is known of the slices. -/
def F_pb (g : Pa → Int → Pa × List Ac) (q : Pa → Int → Prop) : List DV → Option FSpec
  | [.agg [.int .i64 m, .int .u8 pr, p, i, u], .int .u8 b] => some ⟨isInts .i64 p ∧ isInts .u8 i ∧ isInts .u8 u ∧ q ⟨m, pr, intsD p, intsD i, intsD u⟩ b, fun n => (paR (g ⟨m, pr, intsD p, intsD i, intsD u⟩ b), [])⟩
  | _ => none
theorem F_pb_1 (g : Pa → Int → Pa × List Ac) (q : Pa → Int → Prop) (m pr b : Int) (p i u : DV) : F_pb g q [.agg [.int .i64 m, .int .u8 pr, p, i, u], .int .u8 b] = some ⟨isInts .i64 p ∧ isInts .u8 i ∧ isInts .u8 u ∧ q ⟨m, pr, intsD p, intsD i, intsD u⟩ b, fun n => (paR (g ⟨m, pr, intsD p, intsD i, intsD u⟩ b), [])⟩ := nrfl _
theorem isInts_wk {k : IntKind} {d : DV} (h : isInts k d) : wkA d (.sl 1 (intRows k (intsD d)) .any) := by
  obtain ⟨s, z, e, h1, h2⟩ := isInts_inv h
  generalize intsD d = l at *
  subst e
  refine ⟨rfl, .inl rfl, ?_⟩
  rcases h1 with rfl | rfl
  · exact .inl rfl
  · exact .inr rfl
theorem wk0_of {k0 : IntKind} {d d2 : DV} (h : wkA d d2) (k : isInts k0 d) : wk0 d d2 := by
  obtain ⟨s, z, e, h1, h2⟩ := isInts_inv k
  rw [e] at h ⊢
  exact h
theorem pb_ok {f : Nat} {g : Pa → Int → Pa × List Ac} {q : Pa → Int → Prop} (h : ∀ p b, q p b → PCalls PG f [paD p, .int .u8 b] fun n r os => r = (paF (g p b)).1 ∧ os = []) (args : List DV) (s : FSpec) (hs : F_pb g q args = some s) (hp : s.pre) :
    PCalls PG f args fun n r os => r = (s.res n).1 ∧ os = (s.res n).2 := by
  unfold F_pb at hs
  split at hs
  · rename_i m pr p i u b
    obtain rfl := Option.some.inj hs
    obtain ⟨h1, h2, h3, h4⟩ := hp
    refine (h _ b h4).wk ⟨⟨rfl, rfl, ?_, ?_, ?_, trivial⟩, rfl, trivial⟩
    · exact wk0_of (isInts_wk h1) h1
    · exact wk0_of (isInts_wk h2) h2
    · exact wk0_of (isInts_wk h3) h3
  · cases hs
noncomputable def rc_rinter : RFn := ⟨1, 9, (.seq (.reg [⟨(some 2), (.mov (.c (.bool false))), none, false⟩] 0 [0]) (.seq (.reg [⟨(some 3), (.mov (.t 0)), none, false⟩, ⟨(some 4), (.bin .geq (.t 3) (.c (.int .u8 32))), none, false⟩, ⟨(some 5), (.mov (.t 4)), none, false⟩, ⟨(some 6), (.mov (.t 0)), (some (5, true)), false⟩, ⟨(some 7), (.bin .leq (.t 6) (.c (.int .u8 47))), (some (5, true)), false⟩, ⟨(some 8), (.pick (.t 5) (.t 7) (.c (.bool false))), none, false⟩, ⟨(some 2), (.mov (.t 8)), none, false⟩] 0 [2]) .ret)), [(.t 2)]⟩
theorem rc_rinter_ok : compFn PG.P [⟨0, 0, [0], []⟩, ⟨1, 0, [2], []⟩] 42 = some rc_rinter := by kernel_rfl
noncomputable def rc_rformed : RFn := ⟨2, 24, (.seq (.reg [⟨(some 4), (.mov (.c (.bool false))), none, false⟩] 0 [0, 1]) (.seq (.reg [⟨(some 5), (.mov (.t 0)), none, false⟩, ⟨(some 6), (.len (.t 5)), none, false⟩, ⟨(some 7), (.bin .eql (.t 6) (.c (.int .i64 2))), none, false⟩, ⟨(some 8), (.mov (.t 7)), none, false⟩, ⟨(some 9), (.mov (.t 0)), (some (8, true)), false⟩, ⟨(some 10), (.iaddr 1 (.t 9) (.c (.int .i64 0))), (some (8, true)), false⟩, ⟨(some 11), (.load false 1 (.t 10)), (some (8, true)), false⟩, ⟨(some 12), (.bin .eql (.t 11) (.c (.int .u8 239))), (some (8, true)), false⟩, ⟨(some 13), (.pick (.t 8) (.t 12) (.c (.bool false))), none, false⟩, ⟨(some 14), (.mov (.t 13)), none, false⟩, ⟨(some 15), (.mov (.t 0)), (some (14, true)), false⟩, ⟨(some 16), (.iaddr 1 (.t 15) (.c (.int .i64 1))), (some (14, true)), false⟩, ⟨(some 17), (.load false 1 (.t 16)), (some (14, true)), false⟩, ⟨(some 18), (.bin .eql (.t 17) (.c (.int .u8 191))), (some (14, true)), false⟩, ⟨(some 19), (.pick (.t 14) (.t 18) (.c (.bool false))), none, false⟩, ⟨(some 20), (.mov (.t 19)), none, false⟩, ⟨(some 21), (.mov (.t 1)), (some (20, true)), false⟩, ⟨(some 22), (.bin .eql (.t 21) (.c (.int .u8 189))), (some (20, true)), false⟩, ⟨(some 23), (.pick (.t 20) (.t 22) (.c (.bool false))), none, false⟩, ⟨(some 4), (.mov (.t 23)), none, false⟩] 0 [4]) .ret)), [(.t 4)]⟩
theorem rc_rformed_ok : compFn PG.P [⟨0, 0, [0, 1], []⟩, ⟨1, 0, [4], []⟩] 46 = some rc_rformed := by kernel_rfl
noncomputable def rc_rwith : RFn := ⟨2, 10, (.seq (.reg [⟨(some 4), (.mov (.c (.sl 0 [] .nil))), none, false⟩] 0 [0, 1]) (.seq (.reg [⟨(some 5), (.mov (.t 0)), none, false⟩, ⟨(some 6), (.append 1 1 (.c (.sl 0 [] .nil)) (.t 5)), none, false⟩, ⟨(some 7), (.mov (.t 1)), none, false⟩, ⟨(some 8), (.mkrow 1 [(.int .u8 0)] 1 [(0, (.t 7))]), none, false⟩, ⟨(some 9), (.append 1 1 (.t 6) (.t 8)), none, false⟩, ⟨(some 4), (.mov (.t 9)), none, false⟩] 0 [4]) .ret)), [(.t 4)]⟩
theorem rc_rwith_ok : compFn PG.P [⟨0, 0, [0, 1], []⟩, ⟨1, 0, [4], []⟩] 61 = some rc_rwith := by kernel_rfl
noncomputable def rc_rprints_l0 : RC := (.seq (.seq (.reg [⟨(some 5), (.mov (.t 4)), none, false⟩, ⟨(some 6), (.mov (.t 0)), none, false⟩, ⟨(some 7), (.len (.t 6)), none, false⟩, ⟨(some 8), (.bin .lss (.t 5) (.t 7)), none, false⟩] 0 [0, 3, 4, 8]) (.cond (.t 8) .skip (.ext 0))) (.seq (.blk 1 (.reg [⟨(some 11), (.mov (.t 3)), none, false⟩, ⟨(some 12), (.mov (.t 0)), none, false⟩, ⟨(some 13), (.mov (.t 4)), none, false⟩, ⟨(some 14), (.iaddr 1 (.t 12) (.t 13)), none, false⟩, ⟨(some 15), (.load false 1 (.t 14)), none, false⟩, ⟨(some 16), (.build [(.int .i64 0), (.int .i32 0), (.int .u8 0), (.int .u8 0), (.sl 0 [] .nil), (.sl 0 [] .nil)] [(0, (1, (.c (.int .i64 0)))), (1, (1, (.t 15)))]), none, false⟩, ⟨(some 17), (.mkrow 6 [(.int .i64 0), (.int .i32 0), (.int .u8 0), (.int .u8 0), (.sl 0 [] .nil), (.sl 0 [] .nil)] 1 [(0, (.t 16))]), none, false⟩, ⟨(some 18), (.append 6 64 (.t 11) (.t 17)), none, false⟩, ⟨(some 3), (.mov (.t 18)), none, false⟩] 0 [0, 3, 4])) (.reg [⟨(some 9), (.mov (.t 4)), none, false⟩, ⟨(some 10), (.bin .add (.t 9) (.c (.int .i64 1))), none, false⟩, ⟨(some 4), (.mov (.t 10)), none, false⟩] 0 [0, 3, 4])))
noncomputable def rc_rprints : RFn := ⟨1, 20, (.seq (.reg [⟨(some 2), (.mov (.c (.sl 0 [] .nil))), none, false⟩] 0 [0]) (.seq (.reg [⟨(some 3), (.mov (.c (.sl 0 [] .nil))), none, false⟩] 0 [0, 3]) (.seq (.seq (.reg [⟨(some 4), (.mov (.c (.int .i64 0))), none, false⟩] 0 [0, 3, 4]) (.blk 0 (.loop rc_rprints_l0))) (.seq (.reg [⟨(some 19), (.mov (.t 3)), none, false⟩, ⟨(some 2), (.mov (.t 19)), none, false⟩] 0 [2]) .ret)))), [(.t 2)]⟩
theorem rc_rprints_ok : compFn PG.P [⟨0, 0, [0], []⟩, ⟨1, 0, [0, 3], []⟩, ⟨2, 0, [0, 3, 4], []⟩, ⟨3, 0, [0, 3, 4, 8], []⟩, ⟨4, 0, [0, 3, 4], []⟩, ⟨5, 0, [0, 3, 4], []⟩, ⟨6, 0, [2], []⟩] 47 = some rc_rprints := by kernel_rfl
theorem rinter_P {b : Int} (hb_b : 0 ≤ b ∧ b ≤ 255)  :
    PCalls PG 42 [.int .u8 b] fun n RR OO => RR = ((.bool (vint b), []) : DV × Objs).1 ∧ OO = ((.bool (vint b), []) : DV × Objs).2 := by
  refine PCalls.by_fn (res := fun n => (.bool (vint b), [])) T27_ok rc_rinter_ok (by simp [rc_rinter]) fun n => ?_
  unfold rc_rinter
  dsimp only
  simp -implicitDefEqProofs only [vcB1, vcA1, vcA2, vcA3, vcA4, vcA5, vcA6, vcA7, ↓vcP1, ↓vcP2, ↓reduceIte, Option.map_some, Option.map_none, Option.bind_some, Option.bind_none, if_true, if_false, reduceCtorEq, beq_true, beq_false, Bool.not_true, Bool.not_false, BEq.rfl, Bool.true_beq, Bool.false_beq, and_true, true_and, and_self, decide_true, decide_false, List.length_cons, List.length_nil, List.all_cons, List.all_nil, Bool.and_true, Bool.and_self, List.getElem?_cons_zero, List.getElem?_cons_succ, List.set_cons_zero, List.set_cons_succ, List.nil_append, List.cons_append, List.append_nil, List.map_cons, List.map_nil, not_true_eq_false, not_false_eq_true, false_implies, true_implies, implies_true, List.take_succ_cons, List.take_zero, List.take_nil, List.drop_succ_cons, List.drop_zero, List.drop_nil, Nat.reduceLT, Nat.reduceLeDiff, Nat.reduceEqDiff, Nat.reduceAdd, Nat.reduceSub, Nat.reduceMul, Int.reduceLT, Int.reduceLE, Int.reduceEq, Int.reduceToNat, Int.reduceAdd, Int.reduceSub, Int.reduceNeg, List.reduceReplicate, List.replicate_zero, List.replicate_succ, ne_eq, List.flatMap_cons, List.flatMap_nil, List.length_replicate, List.length_append, Nat.le_refl, Nat.le_add_right, Nat.add_assoc, List.append_assoc, or_true, true_or, or_false, false_or, and_false, false_and, exists_eq_left, exists_eq_left', Option.some.injEq, DV.int.injEq, DV.bool.injEq, DV.sl.injEq, DV.own.injEq, DV.tup.injEq, List.cons.injEq, Ob.arr.injEq, Ob.box.injEq, Option.map_map, Int.toNat_natCast, Int.toNat_zero, Nat.reducePow, Int.toNat_one, Int.reduceMul, Nat.mul_one, Nat.zero_add, Nat.add_zero, Function.comp_apply, List.map_append, List.map_replicate, Int.cast_ofNat_Int, Nat.left_eq_add, Nat.add_eq_left, Nat.add_left_cancel_iff]
  grind [vint]
def F_rinter : List DV → Option FSpec
  | [.int .u8 b] => some ⟨(0 ≤ b ∧ b ≤ 255) ∧ True, fun n => (.bool (vint b), [])⟩
  | _ => none
theorem F_rinter_1 (b : Int) : F_rinter [.int .u8 b] = some ⟨(0 ≤ b ∧ b ≤ 255) ∧ True, fun n => (.bool (vint b), [])⟩ := nrfl _
theorem rinter_ok (args : List DV) (s : FSpec) (hs : F_rinter args = some s) (hp : s.pre) : PCalls PG 42 args fun n r os => r = (s.res n).1 ∧ os = (s.res n).2 := by
  unfold F_rinter at hs
  split at hs
  · rename_i b
    obtain rfl := Option.some.inj hs
    obtain ⟨hb_b, hp⟩ := hp
    have this := rinter_P  hb_b 
    exact this
  · cases hs

def rformedF (p : List Int) (b : Int) : Bool := decide (p = [239, 191]) && decide (b = 189)
theorem rformed_P {sz_p : Nat} {k_p : SK} {p : List Int} {b : Int} (hs_p : sz_p = 1 ∨ p = []) (hk_p : inK .u8 p) (hb_b : 0 ≤ b ∧ b ≤ 255)  :
    PCalls PG 46 [.sl sz_p (intRows .u8 p) k_p, .int .u8 b] fun n RR OO => RR = ((.bool (rformedF p b), []) : DV × Objs).1 ∧ OO = ((.bool (rformedF p b), []) : DV × Objs).2 := by
  refine PCalls.by_fn (res := fun n => (.bool (rformedF p b), [])) T27_ok rc_rformed_ok (by simp [rc_rformed]) fun n => ?_
  unfold rc_rformed
  dsimp only
  simp -implicitDefEqProofs only [vcB1, vcA1, vcA2, vcA3, vcA4, vcA5, vcA6, vcA7, ↓vcP1, ↓vcP2, ↓reduceIte, Option.map_some, Option.map_none, Option.bind_some, Option.bind_none, if_true, if_false, reduceCtorEq, beq_true, beq_false, Bool.not_true, Bool.not_false, BEq.rfl, Bool.true_beq, Bool.false_beq, and_true, true_and, and_self, decide_true, decide_false, List.length_cons, List.length_nil, List.all_cons, List.all_nil, Bool.and_true, Bool.and_self, List.getElem?_cons_zero, List.getElem?_cons_succ, List.set_cons_zero, List.set_cons_succ, List.nil_append, List.cons_append, List.append_nil, List.map_cons, List.map_nil, not_true_eq_false, not_false_eq_true, false_implies, true_implies, implies_true, List.take_succ_cons, List.take_zero, List.take_nil, List.drop_succ_cons, List.drop_zero, List.drop_nil, Nat.reduceLT, Nat.reduceLeDiff, Nat.reduceEqDiff, Nat.reduceAdd, Nat.reduceSub, Nat.reduceMul, Int.reduceLT, Int.reduceLE, Int.reduceEq, Int.reduceToNat, Int.reduceAdd, Int.reduceSub, Int.reduceNeg, List.reduceReplicate, List.replicate_zero, List.replicate_succ, ne_eq, List.flatMap_cons, List.flatMap_nil, List.length_replicate, List.length_append, Nat.le_refl, Nat.le_add_right, Nat.add_assoc, List.append_assoc, or_true, true_or, or_false, false_or, and_false, false_and, exists_eq_left, exists_eq_left', Option.some.injEq, DV.int.injEq, DV.bool.injEq, DV.sl.injEq, DV.own.injEq, DV.tup.injEq, List.cons.injEq, Ob.arr.injEq, Ob.box.injEq, Option.map_map, Int.toNat_natCast, Int.toNat_zero, Nat.reducePow, Int.toNat_one, Int.reduceMul, Nat.mul_one, Nat.zero_add, Nat.add_zero, Function.comp_apply, List.map_append, List.map_replicate, Int.cast_ofNat_Int, Nat.left_eq_add, Nat.add_eq_left, Nat.add_left_cancel_iff]
  have h1 : ∀ x y, p = [x, y] → sz_p = 1 := fun x y h => by rcases hs_p with h2 | h2; exact h2; rw [h] at h2; cases h2
  unfold rformedF
  rcases p with _ | ⟨x, _ | ⟨y, _ | ⟨z, l⟩⟩⟩
  · simp
  · simp
  · have := h1 x y rfl
    simp
    grind
  · simp
    omega
def F_rformed : List DV → Option FSpec
  | [a_p, .int .u8 b] => some ⟨isInts .u8 a_p ∧ (0 ≤ b ∧ b ≤ 255) ∧ True, fun n => (.bool (rformedF (intsD a_p) b), [])⟩
  | _ => none
theorem F_rformed_1 (a_p : DV) (b : Int) : F_rformed [a_p, .int .u8 b] = some ⟨isInts .u8 a_p ∧ (0 ≤ b ∧ b ≤ 255) ∧ True, fun n => (.bool (rformedF (intsD a_p) b), [])⟩ := nrfl _
theorem rformed_ok (args : List DV) (s : FSpec) (hs : F_rformed args = some s) (hp : s.pre) : PCalls PG 46 args fun n r os => r = (s.res n).1 ∧ os = (s.res n).2 := by
  unfold F_rformed at hs
  split at hs
  · rename_i a_p b
    obtain rfl := Option.some.inj hs
    obtain ⟨hi_p, hb_b, hp⟩ := hp
    obtain ⟨s0_p, k0_p, h1_p, h2_p, h3_p⟩ := isInts_inv hi_p
    have this := rformed_P (k_p := k0_p) h2_p h3_p hb_b 
    rw [← h1_p] at this
    exact this
  · cases hs

theorem rwith_P {sz_l : Nat} {k_l : SK} {l : List Int} {b : Int} (hs_l : sz_l = 1 ∨ l = []) (hk_l : inK .u8 l) (hb_b : 0 ≤ b ∧ b ≤ 255) (hp : l.length ≤ 1000) :
    PCalls PG 61 [.sl sz_l (intRows .u8 l) k_l, .int .u8 b] fun n RR OO => RR = ((.own n 0 (l.length + 1), [some (.arr 1 (intRows .u8 (l ++ [b])))]) : DV × Objs).1 ∧ OO = ((.own n 0 (l.length + 1), [some (.arr 1 (intRows .u8 (l ++ [b])))]) : DV × Objs).2 := by
  refine PCalls.by_fn (res := fun n => (.own n 0 (l.length + 1), [some (.arr 1 (intRows .u8 (l ++ [b])))])) T27_ok rc_rwith_ok (by simp [rc_rwith]) fun n => ?_
  unfold rc_rwith
  dsimp only
  simp -implicitDefEqProofs only [vcB1, vcA1, vcA2, vcA3, vcA4, vcA5, vcA6, vcA7, ↓vcP1, ↓vcP2, ↓reduceIte, Option.map_some, Option.map_none, Option.bind_some, Option.bind_none, if_true, if_false, reduceCtorEq, beq_true, beq_false, Bool.not_true, Bool.not_false, BEq.rfl, Bool.true_beq, Bool.false_beq, and_true, true_and, and_self, decide_true, decide_false, List.length_cons, List.length_nil, List.all_cons, List.all_nil, Bool.and_true, Bool.and_self, List.getElem?_cons_zero, List.getElem?_cons_succ, List.set_cons_zero, List.set_cons_succ, List.nil_append, List.cons_append, List.append_nil, List.map_cons, List.map_nil, not_true_eq_false, not_false_eq_true, false_implies, true_implies, implies_true, List.take_succ_cons, List.take_zero, List.take_nil, List.drop_succ_cons, List.drop_zero, List.drop_nil, Nat.reduceLT, Nat.reduceLeDiff, Nat.reduceEqDiff, Nat.reduceAdd, Nat.reduceSub, Nat.reduceMul, Int.reduceLT, Int.reduceLE, Int.reduceEq, Int.reduceToNat, Int.reduceAdd, Int.reduceSub, Int.reduceNeg, List.reduceReplicate, List.replicate_zero, List.replicate_succ, ne_eq, List.flatMap_cons, List.flatMap_nil, List.length_replicate, List.length_append, Nat.le_refl, Nat.le_add_right, Nat.add_assoc, List.append_assoc, or_true, true_or, or_false, false_or, and_false, false_and, exists_eq_left, exists_eq_left', Option.some.injEq, DV.int.injEq, DV.bool.injEq, DV.sl.injEq, DV.own.injEq, DV.tup.injEq, List.cons.injEq, Ob.arr.injEq, Ob.box.injEq, Option.map_map, Int.toNat_natCast, Int.toNat_zero, Nat.reducePow, Int.toNat_one, Int.reduceMul, Nat.mul_one, Nat.zero_add, Nat.add_zero, Function.comp_apply, List.map_append, List.map_replicate, Int.cast_ofNat_Int, Nat.left_eq_add, Nat.add_eq_left, Nat.add_left_cancel_iff]
  exact ⟨⟨hs_l.imp id fun h => by simp [h, intRows], by omega, by omega⟩, by omega, by omega⟩
def F_rwith : List DV → Option FSpec
  | [a_l, .int .u8 b] => some ⟨isInts .u8 a_l ∧ (0 ≤ b ∧ b ≤ 255) ∧ (intsD a_l).length ≤ 1000, fun n => (.own n 0 ((intsD a_l).length + 1), [some (.arr 1 (intRows .u8 ((intsD a_l) ++ [b])))])⟩
  | _ => none
theorem F_rwith_1 (a_l : DV) (b : Int) : F_rwith [a_l, .int .u8 b] = some ⟨isInts .u8 a_l ∧ (0 ≤ b ∧ b ≤ 255) ∧ (intsD a_l).length ≤ 1000, fun n => (.own n 0 ((intsD a_l).length + 1), [some (.arr 1 (intRows .u8 ((intsD a_l) ++ [b])))])⟩ := nrfl _
theorem rwith_ok (args : List DV) (s : FSpec) (hs : F_rwith args = some s) (hp : s.pre) : PCalls PG 61 args fun n r os => r = (s.res n).1 ∧ os = (s.res n).2 := by
  unfold F_rwith at hs
  split at hs
  · rename_i a_l b
    obtain rfl := Option.some.inj hs
    obtain ⟨hi_l, hb_b, hp⟩ := hp
    obtain ⟨s0_l, k0_l, h1_l, h2_l, h3_l⟩ := isInts_inv hi_l
    have this := rwith_P (k_l := k0_l) h2_l h3_l hb_b hp
    rw [← h1_l] at this
    exact this
  · cases hs

def prF (r : Int) : Ac := ⟨0, r, 0, 0, none, none⟩
theorem rprints_P {sz_l : Nat} {k_l : SK} {l : List Int} (hs_l : sz_l = 1 ∨ l = []) (hk_l : inK .i32 l) (hp : l.length ≤ 1000) :
    PCalls PG 47 [.sl sz_l (intRows .i32 l) k_l] fun n RR OO => RR = ((.own n 0 l.length, [some (.arr 6 (acRows (l.map prF)))]) : DV × Objs).1 ∧ OO = ((.own n 0 l.length, [some (.arr 6 (acRows (l.map prF)))]) : DV × Objs).2 := by
  refine PCalls.by_fn (res := fun n => (.own n 0 l.length, [some (.arr 6 (acRows (l.map prF)))])) T27_ok rc_rprints_ok (by simp [rc_rprints]) fun n => ?_
  unfold rc_rprints
  dsimp only
  simp -implicitDefEqProofs only [vcB1, vcA1, vcA2, vcA3, vcA4, vcA5, vcA6, vcA7, ↓vcP1, ↓vcP2, ↓reduceIte, Option.map_some, Option.map_none, Option.bind_some, Option.bind_none, if_true, if_false, reduceCtorEq, beq_true, beq_false, Bool.not_true, Bool.not_false, BEq.rfl, Bool.true_beq, Bool.false_beq, and_true, true_and, and_self, decide_true, decide_false, List.length_cons, List.length_nil, List.all_cons, List.all_nil, Bool.and_true, Bool.and_self, List.getElem?_cons_zero, List.getElem?_cons_succ, List.set_cons_zero, List.set_cons_succ, List.nil_append, List.cons_append, List.append_nil, List.map_cons, List.map_nil, not_true_eq_false, not_false_eq_true, false_implies, true_implies, implies_true, List.take_succ_cons, List.take_zero, List.take_nil, List.drop_succ_cons, List.drop_zero, List.drop_nil, Nat.reduceLT, Nat.reduceLeDiff, Nat.reduceEqDiff, Nat.reduceAdd, Nat.reduceSub, Nat.reduceMul, Int.reduceLT, Int.reduceLE, Int.reduceEq, Int.reduceToNat, Int.reduceAdd, Int.reduceSub, Int.reduceNeg, List.reduceReplicate, List.replicate_zero, List.replicate_succ, ne_eq, List.flatMap_cons, List.flatMap_nil, List.length_replicate, List.length_append, Nat.le_refl, Nat.le_add_right, Nat.add_assoc, List.append_assoc, or_true, true_or, or_false, false_or, and_false, false_and, exists_eq_left, exists_eq_left', Option.some.injEq, DV.int.injEq, DV.bool.injEq, DV.sl.injEq, DV.own.injEq, DV.tup.injEq, List.cons.injEq, Ob.arr.injEq, Ob.box.injEq, Option.map_map, Int.toNat_natCast, Int.toNat_zero, Nat.reducePow, Int.toNat_one, Int.reduceMul, Nat.mul_one, Nat.zero_add, Nat.add_zero, Function.comp_apply, List.map_append, List.map_replicate, Int.cast_ofNat_Int, Nat.left_eq_add, Nat.add_eq_left, Nat.add_left_cancel_iff]
  refine LoopWp.own 3 6 rfl (.inl rfl) ?_
  refine LoopWp.invR T27_ok (S := fun k (i : Nat) => ⟨[(0, .sl sz_l (intRows .i32 l) k_l), (3, .own k 0 i), (4, .int .i64 i)], List.replicate k none ++ [some (.arr 6 (acRows ((l.take i).map prF)))]⟩) (I := fun i => i ≤ l.length) (μ := fun i => l.length - i) n 0 (by omega) ?_ ?_
  · simp -implicitDefEqProofs only [List.take_zero, acB1, vcB1, vcB2, vcB3, vcA1, vcA2, vcA3, vcA4, vcA5, vcA6, vcA7, ↓vcP1, ↓vcP2, ↓reduceIte, Option.map_some, Option.map_none, Option.bind_some, Option.bind_none, if_true, if_false, reduceCtorEq, beq_true, beq_false, Bool.not_true, Bool.not_false, BEq.rfl, Bool.true_beq, Bool.false_beq, and_true, true_and, and_self, decide_true, decide_false, List.length_cons, List.length_nil, List.all_cons, List.all_nil, Bool.and_true, Bool.and_self, List.getElem?_cons_zero, List.getElem?_cons_succ, List.set_cons_zero, List.set_cons_succ, List.nil_append, List.cons_append, List.append_nil, List.map_cons, List.map_nil, not_true_eq_false, not_false_eq_true, false_implies, true_implies, implies_true, List.take_succ_cons, List.take_zero, List.take_nil, List.drop_succ_cons, List.drop_zero, List.drop_nil, Nat.reduceLT, Nat.reduceLeDiff, Nat.reduceEqDiff, Nat.reduceAdd, Nat.reduceSub, Nat.reduceMul, Int.reduceLT, Int.reduceLE, Int.reduceEq, Int.reduceToNat, Int.reduceAdd, Int.reduceSub, Int.reduceNeg, List.reduceReplicate, List.replicate_zero, List.replicate_succ, ne_eq, List.flatMap_cons, List.flatMap_nil, List.length_replicate, List.length_append, Nat.le_refl, Nat.le_add_right, Nat.add_assoc, List.append_assoc, or_true, true_or, or_false, false_or, and_false, false_and, exists_eq_left, exists_eq_left', Option.some.injEq, DV.int.injEq, DV.bool.injEq, DV.sl.injEq, DV.own.injEq, DV.tup.injEq, List.cons.injEq, Ob.arr.injEq, Ob.box.injEq, Option.map_map, Int.toNat_natCast, Int.toNat_zero, Nat.reducePow, Int.toNat_one, Int.reduceMul, Nat.mul_one, Nat.zero_add, Nat.add_zero, Function.comp_apply, List.map_append, List.map_replicate, Int.cast_ofNat_Int, Nat.left_eq_add, Nat.add_eq_left, Nat.add_left_cancel_iff]
  · intro k i hk hi
    have hL : ((l.take i).map prF).length = i := by rw [List.length_map, List.length_take]; omega
    unfold rc_rprints_l0
    simp -implicitDefEqProofs only [hL, acB1, vcB1, vcB2, vcB3, vcA1, vcA2, vcA3, vcA4, vcA5, vcA6, vcA7, ↓vcP1, ↓vcP2, ↓reduceIte, Option.map_some, Option.map_none, Option.bind_some, Option.bind_none, if_true, if_false, reduceCtorEq, beq_true, beq_false, Bool.not_true, Bool.not_false, BEq.rfl, Bool.true_beq, Bool.false_beq, and_true, true_and, and_self, decide_true, decide_false, List.length_cons, List.length_nil, List.all_cons, List.all_nil, Bool.and_true, Bool.and_self, List.getElem?_cons_zero, List.getElem?_cons_succ, List.set_cons_zero, List.set_cons_succ, List.nil_append, List.cons_append, List.append_nil, List.map_cons, List.map_nil, not_true_eq_false, not_false_eq_true, false_implies, true_implies, implies_true, List.take_succ_cons, List.take_zero, List.take_nil, List.drop_succ_cons, List.drop_zero, List.drop_nil, Nat.reduceLT, Nat.reduceLeDiff, Nat.reduceEqDiff, Nat.reduceAdd, Nat.reduceSub, Nat.reduceMul, Int.reduceLT, Int.reduceLE, Int.reduceEq, Int.reduceToNat, Int.reduceAdd, Int.reduceSub, Int.reduceNeg, List.reduceReplicate, List.replicate_zero, List.replicate_succ, ne_eq, List.flatMap_cons, List.flatMap_nil, List.length_replicate, List.length_append, Nat.le_refl, Nat.le_add_right, Nat.add_assoc, List.append_assoc, or_true, true_or, or_false, false_or, and_false, false_and, exists_eq_left, exists_eq_left', Option.some.injEq, DV.int.injEq, DV.bool.injEq, DV.sl.injEq, DV.own.injEq, DV.tup.injEq, List.cons.injEq, Ob.arr.injEq, Ob.box.injEq, Option.map_map, Int.toNat_natCast, Int.toNat_zero, Nat.reducePow, Int.toNat_one, Int.reduceMul, Nat.mul_one, Nat.zero_add, Nat.add_zero, Function.comp_apply, List.map_append, List.map_replicate, Int.cast_ofNat_Int, Nat.left_eq_add, Nat.add_eq_left, Nat.add_left_cancel_iff]
    refine ⟨fun h => ?_, fun h => ?_⟩
    · have h0 : i < l.length := by omega
      have hsz : sz_l = 1 := by rcases hs_l with h | h; exact h; subst h; simp at h0
      have hgd : l.getD i 0 = l[i] := by rw [List.getD_eq_getElem?_getD, List.getElem?_eq_getElem h0]; rfl
      refine ⟨⟨by omega, h, hsz⟩, h0, ⟨by omega, by omega⟩, by omega, i + 1, ⟨⟨rfl, by rw [wI64] <;> omega⟩, ?_⟩, by omega, by omega⟩
      rw [List.take_succ_eq_append_getElem h0, List.map_append, hgd]
      rfl
    · have h1 : i = l.length := by omega
      subst h1
      rw [List.take_length]
      exact ⟨by omega, by omega, rfl, rfl⟩
def F_rprints : List DV → Option FSpec
  | [a_l] => some ⟨isInts .i32 a_l ∧ (intsD a_l).length ≤ 1000, fun n => (.own n 0 (intsD a_l).length, [some (.arr 6 (acRows ((intsD a_l).map prF)))])⟩
  | _ => none
theorem F_rprints_1 (a_l : DV) : F_rprints [a_l] = some ⟨isInts .i32 a_l ∧ (intsD a_l).length ≤ 1000, fun n => (.own n 0 (intsD a_l).length, [some (.arr 6 (acRows ((intsD a_l).map prF)))])⟩ := nrfl _
theorem rprints_ok (args : List DV) (s : FSpec) (hs : F_rprints args = some s) (hp : s.pre) : PCalls PG 47 args fun n r os => r = (s.res n).1 ∧ os = (s.res n).2 := by
  unfold F_rprints at hs
  split at hs
  · rename_i a_l
    obtain rfl := Option.some.inj hs
    obtain ⟨hi_l, hp⟩ := hp
    obtain ⟨s0_l, k0_l, h1_l, h2_l, h3_l⟩ := isInts_inv hi_l
    have this := rprints_P (k_l := k0_l) h2_l h3_l hp
    rw [← h1_l] at this
    exact this
  · cases hs

end Go.Proofs.YteemmpghpdaloaaDoor
end
section
/- vt.inters, vt.Right. -/
set_option linter.unusedVariables false
set_option linter.unusedSimpArgs false
set_option maxRecDepth 10000
namespace Go.Proofs.YteemmpghpdaloaaDoor
open Go.RowKit

noncomputable def rc_vinters1 : RFn := ⟨1, 6, (.seq (.reg [⟨(some 2), (.mov (.c (.bool false))), none, false⟩] 0 [0]) (.seq (.reg [⟨(some 3), (.mov (.t 0)), none, false⟩, ⟨(some 4), (.call 53 [(.t 3)]), none, false⟩, ⟨(some 5), (.un .not (.t 4)), none, false⟩, ⟨(some 2), (.mov (.t 5)), none, false⟩] 0 [2]) .ret)), [(.t 2)]⟩
theorem rc_vinters1_ok : compFn PG.P [⟨0, 0, [0], []⟩, ⟨1, 0, [2], []⟩] 52 = some rc_vinters1 := by kernel_rfl
theorem T27_at_vinter (args : List DV) : tab T27 53 args = (F_vinter args).map .o := nrfl _
theorem vinters1_P {b : Int} (hb_b : 0 ≤ b ∧ b ≤ 255)  :
    PCalls PG 52 [.int .u8 b] fun n RR OO => RR = ((.bool (!vint b), []) : DV × Objs).1 ∧ OO = ((.bool (!vint b), []) : DV × Objs).2 := by
  refine PCalls.by_fn (res := fun n => (.bool (!vint b), [])) T27_ok rc_vinters1_ok (by simp [rc_vinters1]) fun n => ?_
  unfold rc_vinters1
  dsimp only
  simp -implicitDefEqProofs only [T27_at_vinter, F_vinter_1, vcB1, vcB2, vcB3, vcA1, vcA2, vcA3, vcA4, vcA5, vcA6, vcA7, ↓vcP1, ↓vcP2, ↓reduceIte, Option.map_some, Option.map_none, Option.bind_some, Option.bind_none, if_true, if_false, reduceCtorEq, beq_true, beq_false, Bool.not_true, Bool.not_false, BEq.rfl, Bool.true_beq, Bool.false_beq, and_true, true_and, and_self, decide_true, decide_false, List.length_cons, List.length_nil, List.all_cons, List.all_nil, Bool.and_true, Bool.and_self, List.getElem?_cons_zero, List.getElem?_cons_succ, List.set_cons_zero, List.set_cons_succ, List.nil_append, List.cons_append, List.append_nil, List.map_cons, List.map_nil, not_true_eq_false, not_false_eq_true, false_implies, true_implies, implies_true, List.take_succ_cons, List.take_zero, List.take_nil, List.drop_succ_cons, List.drop_zero, List.drop_nil, Nat.reduceLT, Nat.reduceLeDiff, Nat.reduceEqDiff, Nat.reduceAdd, Nat.reduceSub, Nat.reduceMul, Int.reduceLT, Int.reduceLE, Int.reduceEq, Int.reduceToNat, Int.reduceAdd, Int.reduceSub, Int.reduceNeg, List.reduceReplicate, List.replicate_zero, List.replicate_succ, ne_eq, List.flatMap_cons, List.flatMap_nil, List.length_replicate, List.length_append, Nat.le_refl, Nat.le_add_right, Nat.add_assoc, List.append_assoc, or_true, true_or, or_false, false_or, and_false, false_and, exists_eq_left, exists_eq_left', Option.some.injEq, DV.int.injEq, DV.bool.injEq, DV.sl.injEq, DV.own.injEq, DV.tup.injEq, List.cons.injEq, Ob.arr.injEq, Ob.box.injEq, Option.map_map, Int.toNat_natCast, Int.toNat_zero, Nat.reducePow, Int.toNat_one, Int.reduceMul, Nat.mul_one, Nat.zero_add, Nat.add_zero, Function.comp_apply, List.map_append, List.map_replicate, Int.cast_ofNat_Int, Nat.left_eq_add, Nat.add_eq_left, Nat.add_left_cancel_iff]
  exact hb_b
def F_vinters1 : List DV → Option FSpec
  | [.int .u8 b] => some ⟨(0 ≤ b ∧ b ≤ 255) ∧ True, fun n => (.bool (!vint b), [])⟩
  | _ => none
theorem F_vinters1_1 (b : Int) : F_vinters1 [.int .u8 b] = some ⟨(0 ≤ b ∧ b ≤ 255) ∧ True, fun n => (.bool (!vint b), [])⟩ := nrfl _
theorem vinters1_ok (args : List DV) (s : FSpec) (hs : F_vinters1 args = some s) (hp : s.pre) : PCalls PG 52 args fun n r os => r = (s.res n).1 ∧ os = (s.res n).2 := by
  unfold F_vinters1 at hs
  split at hs
  · rename_i b
    obtain rfl := Option.some.inj hs
    obtain ⟨hb_b, hp⟩ := hp
    have this := vinters1_P  hb_b 
    exact this
  · cases hs

def T29a : FL := (52, F_vinters1) :: T27
theorem T29a_ok : FOk PG (tab T29a) := FOk.cons T27_ok vinters1_ok
theorem T29a_at_vinters1 (args : List DV) : tab T29a 52 args = (F_vinters1 args).map .o := nrfl _
theorem body52 : hasBody PG.P 52 = true := by kernel_rfl
def notI (l : List Int) : Int := match l.findIdx? (fun b => !vint b) with
  | some i => i
  | none => -1
noncomputable def rc_vIndexFunc_l0 : RC := (.seq (.reg [⟨(some 9), (.bin .lss (.t 8) (.t 7)), none, false⟩] 0 [0, 1, 7, 8, 9]) (.seq (.cond (.t 9) .skip (.ext 0)) (.seq (.blk 1 (.seq (.reg [⟨(some 10), (.mov (.t 8)), none, false⟩, ⟨(some 5), (.mov (.t 10)), none, false⟩] 0 [0, 1, 5, 7, 8]) (.seq (.reg [⟨(some 11), (.mov (.t 1)), none, false⟩, ⟨(some 12), (.mov (.t 0)), none, false⟩, ⟨(some 13), (.mov (.t 5)), none, false⟩, ⟨(some 14), (.iaddr 1 (.t 12) (.t 13)), none, false⟩, ⟨(some 15), (.load false 1 (.t 14)), none, false⟩, ⟨(some 16), (.calld (.t 11) [(.t 15)]), none, false⟩] 0 [0, 1, 5, 7, 8, 16]) (.cond (.t 16) (.seq (.reg [⟨(some 17), (.mov (.t 5)), none, false⟩, ⟨(some 4), (.mov (.t 17)), none, false⟩] 0 [4]) .ret) .skip)))) (.reg [⟨(some 18), (.bin .add (.t 8) (.c (.int .i64 1))), none, false⟩, ⟨(some 8), (.mov (.t 18)), none, false⟩] 0 [0, 1, 7, 8]))))
noncomputable def rc_vIndexFunc : RFn := ⟨2, 19, (.seq (.reg [⟨(some 4), (.mov (.c (.int .i64 0))), none, false⟩] 0 [0, 1]) (.seq (.seq (.reg [⟨(some 6), (.mov (.t 0)), none, false⟩, ⟨(some 7), (.len (.t 6)), none, false⟩, ⟨(some 8), (.mov (.c (.int .i64 0))), none, false⟩] 0 [0, 1, 7, 8]) (.blk 0 (.loop rc_vIndexFunc_l0))) (.seq (.reg [⟨(some 4), (.mov (.c (.int .i64 (-1)))), none, false⟩] 0 [4]) .ret))), [(.t 4)]⟩
theorem rc_vIndexFunc_ok : compFn PG.P [⟨0, 0, [0, 1], []⟩, ⟨1, 0, [0, 1, 7, 8], []⟩, ⟨2, 0, [0, 1, 7, 8, 9], []⟩, ⟨3, 0, [0, 1, 5, 7, 8], []⟩, ⟨4, 0, [0, 1, 5, 7, 8, 16], []⟩, ⟨5, 0, [4], []⟩, ⟨6, 0, [0, 1, 7, 8], []⟩, ⟨7, 0, [4], []⟩] 63 = some rc_vIndexFunc := by kernel_rfl
theorem vIndexFunc_P {sz : Nat} {k : SK} {l : List Int} (hs : sz = 1 ∨ l = []) (hk : inK .u8 l) :
    PCalls PG 63 [.sl sz (intRows .u8 l) k, .lit (.func (.func 52) #[] #[])] fun n r os => r = .int .i64 (notI l) ∧ os = [] := by
  refine PCalls.by_fn (res := fun n => (.int .i64 (notI l), [])) T29a_ok rc_vIndexFunc_ok (by simp [rc_vIndexFunc]) fun n => ?_
  unfold rc_vIndexFunc
  dsimp only
  simp -implicitDefEqProofs only [T29a_at_vinters1, F_vinters1_1, body52, ↓stV_calld, calldV_lit, vcB1, vcB2, vcB3, vcA1, vcA2, vcA3, vcA4, vcA5, vcA6, vcA7, ↓vcP1, ↓vcP2, ↓reduceIte, Option.map_some, Option.map_none, Option.bind_some, Option.bind_none, if_true, if_false, reduceCtorEq, beq_true, beq_false, Bool.not_true, Bool.not_false, BEq.rfl, Bool.true_beq, Bool.false_beq, and_true, true_and, and_self, decide_true, decide_false, List.length_cons, List.length_nil, List.all_cons, List.all_nil, Bool.and_true, Bool.and_self, List.getElem?_cons_zero, List.getElem?_cons_succ, List.set_cons_zero, List.set_cons_succ, List.nil_append, List.cons_append, List.append_nil, List.map_cons, List.map_nil, not_true_eq_false, not_false_eq_true, false_implies, true_implies, implies_true, List.take_succ_cons, List.take_zero, List.take_nil, List.drop_succ_cons, List.drop_zero, List.drop_nil, Nat.reduceLT, Nat.reduceLeDiff, Nat.reduceEqDiff, Nat.reduceAdd, Nat.reduceSub, Nat.reduceMul, Int.reduceLT, Int.reduceLE, Int.reduceEq, Int.reduceToNat, Int.reduceAdd, Int.reduceSub, Int.reduceNeg, List.reduceReplicate, List.replicate_zero, List.replicate_succ, ne_eq, List.flatMap_cons, List.flatMap_nil, List.length_replicate, List.length_append, Nat.le_refl, Nat.le_add_right, Nat.add_assoc, List.append_assoc, or_true, true_or, or_false, false_or, and_false, false_and, exists_eq_left, exists_eq_left', Option.some.injEq, DV.int.injEq, DV.bool.injEq, DV.sl.injEq, DV.own.injEq, DV.tup.injEq, List.cons.injEq, Ob.arr.injEq, Ob.box.injEq, Option.map_map, Int.toNat_natCast, Int.toNat_zero, Nat.reducePow, Int.toNat_one, Int.reduceMul, Nat.mul_one, Nat.zero_add, Nat.add_zero, Function.comp_apply, List.map_append, List.map_replicate, Int.cast_ofNat_Int, Nat.left_eq_add, Nat.add_eq_left, Nat.add_left_cancel_iff]
  refine LoopWp.inv T29a_ok (S := fun i : Nat => ⟨[(0, .sl sz (intRows .u8 l) k), (1, .lit (.func (.func 52) #[] #[])), (7, .int .i64 l.length), (8, .int .i64 i)], List.replicate n none⟩) (I := fun i => i ≤ l.length ∧ ∀ j, j < i → vint (l.getD j 0) = true) (μ := fun i => l.length - i) 0 ⟨by omega, by omega⟩ ?_ ?_
  · simp -implicitDefEqProofs only [vcB1, vcB2, vcB3, vcA1, vcA2, vcA3, vcA4, vcA5, vcA6, vcA7, ↓vcP1, ↓vcP2, ↓reduceIte, Option.map_some, Option.map_none, Option.bind_some, Option.bind_none, if_true, if_false, reduceCtorEq, beq_true, beq_false, Bool.not_true, Bool.not_false, BEq.rfl, Bool.true_beq, Bool.false_beq, and_true, true_and, and_self, decide_true, decide_false, List.length_cons, List.length_nil, List.all_cons, List.all_nil, Bool.and_true, Bool.and_self, List.getElem?_cons_zero, List.getElem?_cons_succ, List.set_cons_zero, List.set_cons_succ, List.nil_append, List.cons_append, List.append_nil, List.map_cons, List.map_nil, not_true_eq_false, not_false_eq_true, false_implies, true_implies, implies_true, List.take_succ_cons, List.take_zero, List.take_nil, List.drop_succ_cons, List.drop_zero, List.drop_nil, Nat.reduceLT, Nat.reduceLeDiff, Nat.reduceEqDiff, Nat.reduceAdd, Nat.reduceSub, Nat.reduceMul, Int.reduceLT, Int.reduceLE, Int.reduceEq, Int.reduceToNat, Int.reduceAdd, Int.reduceSub, Int.reduceNeg, List.reduceReplicate, List.replicate_zero, List.replicate_succ, ne_eq, List.flatMap_cons, List.flatMap_nil, List.length_replicate, List.length_append, Nat.le_refl, Nat.le_add_right, Nat.add_assoc, List.append_assoc, or_true, true_or, or_false, false_or, and_false, false_and, exists_eq_left, exists_eq_left', Option.some.injEq, DV.int.injEq, DV.bool.injEq, DV.sl.injEq, DV.own.injEq, DV.tup.injEq, List.cons.injEq, Ob.arr.injEq, Ob.box.injEq, Option.map_map, Int.toNat_natCast, Int.toNat_zero, Nat.reducePow, Int.toNat_one, Int.reduceMul, Nat.mul_one, Nat.zero_add, Nat.add_zero, Function.comp_apply, List.map_append, List.map_replicate, Int.cast_ofNat_Int, Nat.left_eq_add, Nat.add_eq_left, Nat.add_left_cancel_iff]
    exact wkT_refl _
  · intro i ⟨hi, hv⟩
    unfold rc_vIndexFunc_l0
    simp -implicitDefEqProofs only [T29a_at_vinters1, F_vinters1_1, body52, ↓stV_calld, calldV_lit, vcB1, vcB2, vcB3, vcA1, vcA2, vcA3, vcA4, vcA5, vcA6, vcA7, ↓vcP1, ↓vcP2, ↓reduceIte, Option.map_some, Option.map_none, Option.bind_some, Option.bind_none, if_true, if_false, reduceCtorEq, beq_true, beq_false, Bool.not_true, Bool.not_false, BEq.rfl, Bool.true_beq, Bool.false_beq, and_true, true_and, and_self, decide_true, decide_false, List.length_cons, List.length_nil, List.all_cons, List.all_nil, Bool.and_true, Bool.and_self, List.getElem?_cons_zero, List.getElem?_cons_succ, List.set_cons_zero, List.set_cons_succ, List.nil_append, List.cons_append, List.append_nil, List.map_cons, List.map_nil, not_true_eq_false, not_false_eq_true, false_implies, true_implies, implies_true, List.take_succ_cons, List.take_zero, List.take_nil, List.drop_succ_cons, List.drop_zero, List.drop_nil, Nat.reduceLT, Nat.reduceLeDiff, Nat.reduceEqDiff, Nat.reduceAdd, Nat.reduceSub, Nat.reduceMul, Int.reduceLT, Int.reduceLE, Int.reduceEq, Int.reduceToNat, Int.reduceAdd, Int.reduceSub, Int.reduceNeg, List.reduceReplicate, List.replicate_zero, List.replicate_succ, ne_eq, List.flatMap_cons, List.flatMap_nil, List.length_replicate, List.length_append, Nat.le_refl, Nat.le_add_right, Nat.add_assoc, List.append_assoc, or_true, true_or, or_false, false_or, and_false, false_and, exists_eq_left, exists_eq_left', Option.some.injEq, DV.int.injEq, DV.bool.injEq, DV.sl.injEq, DV.own.injEq, DV.tup.injEq, List.cons.injEq, Ob.arr.injEq, Ob.box.injEq, Option.map_map, Int.toNat_natCast, Int.toNat_zero, Nat.reducePow, Int.toNat_one, Int.reduceMul, Nat.mul_one, Nat.zero_add, Nat.add_zero, Function.comp_apply, List.map_append, List.map_replicate, Int.cast_ofNat_Int, Nat.left_eq_add, Nat.add_eq_left, Nat.add_left_cancel_iff]
    refine ⟨fun h => ?_, fun h => ?_⟩
    · have h0 : i < l.length := by omega
      have hsz : sz = 1 := by rcases hs with h | h; exact h; subst h; simp at h0
      have hgd : l.getD i 0 = l[i] := by rw [List.getD_eq_getElem?_getD, List.getElem?_eq_getElem h0]; rfl
      refine ⟨⟨by omega, h, hsz⟩, h0, hk.u8 (by rw [hgd]; exact List.getElem_mem _), ?_⟩
      have hkl := hk.1
      cases hvi : vint (l.getD i 0) with
      | true =>
        rw [cnd_true]
        refine ⟨i + 1, ⟨wkT_refl _, by rw [wI64] <;> omega⟩, ⟨by omega, fun j hj => ?_⟩, by omega⟩
        by_cases hji : j = i
        · subst hji; exact hvi
        · exact hv j (by omega)
      | false =>
        rw [cnd_false]
        have : l.findIdx? (fun b => !vint b) = some i := by
          rw [List.findIdx?_eq_some_iff_getElem]
          refine ⟨h0, by rw [← hgd, hvi]; rfl, fun j hj => ?_⟩
          have h2 := hv j hj
          rw [List.getD_eq_getElem?_getD, List.getElem?_eq_getElem (by omega)] at h2
          simpa using h2
        simp [notI, this]
    · have : l.findIdx? (fun b => !vint b) = none := by
        rw [List.findIdx?_eq_none_iff]
        intro x hx
        obtain ⟨j, hj, rfl⟩ := List.getElem_of_mem hx
        have h2 := hv j (by omega)
        rw [List.getD_eq_getElem?_getD, List.getElem?_eq_getElem hj] at h2
        simpa using h2
      simp [notI, this]
end Go.Proofs.YteemmpghpdaloaaDoor
end
section
/- The document's control sequences. -/
set_option linter.unusedVariables false
set_option linter.unusedSimpArgs false
set_option maxRecDepth 10000
namespace Go.Proofs.YteemmpghpdaloaaDoor
open Go.RowKit

def T30 : FL := (42, F_rinter) :: (46, F_rformed) :: (61, F_rwith) :: (47, F_rprints) :: T27
theorem T30_ok : FOk PG (tab T30) := FOk.cons (FOk.cons (FOk.cons (FOk.cons (T27_ok) rprints_ok) rwith_ok) rformed_ok) rinter_ok
theorem T30_at_rinter (args : List DV) : tab T30 42 args = (F_rinter args).map .o := nrfl _
theorem T30_at_rformed (args : List DV) : tab T30 46 args = (F_rformed args).map .o := nrfl _
theorem T30_at_rwith (args : List DV) : tab T30 61 args = (F_rwith args).map .o := nrfl _
theorem T30_at_rprints (args : List DV) : tab T30 47 args = (F_rprints args).map .o := nrfl _
theorem T30_at_vstep (args : List DV) : tab T30 30 args = (F_vstep args).map .o := nrfl _
theorem T30_at_vcopied (args : List DV) : tab T30 44 args = (F_vcopied args).map .o := nrfl _
theorem T30_at_vact (args : List DV) : tab T30 64 args = (F_vact args).map .o := nrfl _
theorem T30_at_cloneI (args : List DV) : tab T30 54 args = (F_cloneI args).map .o := nrfl _
theorem T30_at_cloneO (args : List DV) : tab T30 35 args = (F_cloneO args).map .o := nrfl _
theorem T30_at_vinter (args : List DV) : tab T30 53 args = (F_vinter args).map .o := nrfl _
theorem T30_at_vmode (args : List DV) : tab T30 55 args = (F_vmode args).map .o := nrfl _
theorem T30_at_known3 (args : List DV) : tab T30 12 args = (F_known3 args).map .o := nrfl _
theorem T30_at_srunes (args : List DV) : tab T30 23 args = (F_srunes args).map .o := nrfl _
theorem T30_at_some3 (args : List DV) : tab T30 13 args = (F_some3 args).map .o := nrfl _
theorem T30_at_srune (args : List DV) : tab T30 40 args = (F_srune args).map .o := nrfl _
theorem T30_at_rall (args : List DV) : tab T30 15 args = (F_rall args).map .o := nrfl _
theorem T30_at_rform (args : List DV) : tab T30 22 args = (F_rform args).map .o := nrfl _
theorem T30_at_rstep (args : List DV) : tab T30 18 args = (F_rstep args).map .o := nrfl _
theorem T30_at_whole (args : List DV) : tab T30 37 args = (F_whole args).map .o := nrfl _
theorem T30_at_put (args : List DV) : tab T30 21 args = (F_put args).map .o := nrfl _
theorem T30_at_uall (args : List DV) : tab T30 14 args = (F_uall args).map .o := nrfl _
theorem T30_at_rbegins (args : List DV) : tab T30 20 args = (F_rbegins args).map .o := nrfl _
theorem T30_at_appRune (args : List DV) : tab T30 39 args = (F_appRune args).map .o := nrfl _
theorem T30_at_appNon (args : List DV) : tab T30 50 args = (F_appNon args).map .o := nrfl _
theorem T30_at_step (args : List DV) : tab T30 17 args = (F_step args).map .o := nrfl _
theorem T30_at_ubegins (args : List DV) : tab T30 19 args = (F_ubegins args).map .o := nrfl _
theorem T30_at_decode (args : List DV) : tab T30 36 args = (F_decode args).map .o := nrfl _
theorem T30_at_full (args : List DV) : tab T30 38 args = (F_full args).map .o := nrfl _
theorem T30_at_slow (args : List DV) : tab T30 49 args = (F_slow args).map .o := nrfl _
theorem T30_at_may (args : List DV) : tab T30 24 args = (F_may args).map .o := nrfl _
theorem T30_at_runes (args : List DV) : tab T30 16 args = (F_runes args).map .o := nrfl _
theorem T30_b : type_of% (And.intro @T30_at_rinter <| And.intro @F_rinter_1 <| And.intro @T30_at_rformed <| And.intro @F_rformed_1 <| And.intro @T30_at_rwith <| And.intro @F_rwith_1 <| And.intro @T30_at_rprints <| And.intro @F_rprints_1 <| And.intro @T30_at_vstep <| And.intro @F_vstep_1 <| And.intro @T30_at_vcopied <| And.intro @F_vcopied_1 <| And.intro @T30_at_vact <| And.intro @F_vact_1 <| And.intro @T30_at_cloneI <| And.intro @F_cloneI_1 <| And.intro @T30_at_cloneO <| And.intro @F_cloneO_1 <| And.intro @T30_at_vinter <| And.intro @F_vinter_1 <| And.intro @T30_at_vmode <| And.intro @F_vmode_1 <| And.intro @T30_at_known3 <| And.intro @F_known3_1 <| And.intro @T30_at_srunes <| And.intro @F_srunes_1 <| And.intro @T30_at_some3 <| And.intro @F_some3_1 <| And.intro @T30_at_srune <| And.intro @F_srune_1 <| And.intro @T30_at_rall <| And.intro @F_rall_1 <| And.intro @T30_at_rform <| And.intro @F_rform_1 <| And.intro @T30_at_rstep <| And.intro @F_rstep_1 <| And.intro @T30_at_whole <| And.intro @F_whole_1 <| And.intro @T30_at_put <| And.intro @F_put_1 <| And.intro @T30_at_uall <| And.intro @F_uall_1 <| And.intro @T30_at_rbegins <| And.intro @F_rbegins_1 <| And.intro @T30_at_appRune <| And.intro @F_appRune_1 <| And.intro @T30_at_appNon <| And.intro @F_appNon_1 <| And.intro @T30_at_step <| And.intro @F_step_1 <| And.intro @T30_at_ubegins <| And.intro @F_ubegins_1 <| And.intro @T30_at_decode <| And.intro @F_decode_1 <| And.intro @T30_at_full <| And.intro @F_full_1 <| And.intro @T30_at_slow <| And.intro @F_slow_1 <| And.intro @T30_at_may <| And.intro @F_may_1 <| And.intro @T30_at_runes <| @F_runes_1) := And.intro @T30_at_rinter <| And.intro @F_rinter_1 <| And.intro @T30_at_rformed <| And.intro @F_rformed_1 <| And.intro @T30_at_rwith <| And.intro @F_rwith_1 <| And.intro @T30_at_rprints <| And.intro @F_rprints_1 <| And.intro @T30_at_vstep <| And.intro @F_vstep_1 <| And.intro @T30_at_vcopied <| And.intro @F_vcopied_1 <| And.intro @T30_at_vact <| And.intro @F_vact_1 <| And.intro @T30_at_cloneI <| And.intro @F_cloneI_1 <| And.intro @T30_at_cloneO <| And.intro @F_cloneO_1 <| And.intro @T30_at_vinter <| And.intro @F_vinter_1 <| And.intro @T30_at_vmode <| And.intro @F_vmode_1 <| And.intro @T30_at_known3 <| And.intro @F_known3_1 <| And.intro @T30_at_srunes <| And.intro @F_srunes_1 <| And.intro @T30_at_some3 <| And.intro @F_some3_1 <| And.intro @T30_at_srune <| And.intro @F_srune_1 <| And.intro @T30_at_rall <| And.intro @F_rall_1 <| And.intro @T30_at_rform <| And.intro @F_rform_1 <| And.intro @T30_at_rstep <| And.intro @F_rstep_1 <| And.intro @T30_at_whole <| And.intro @F_whole_1 <| And.intro @T30_at_put <| And.intro @F_put_1 <| And.intro @T30_at_uall <| And.intro @F_uall_1 <| And.intro @T30_at_rbegins <| And.intro @F_rbegins_1 <| And.intro @T30_at_appRune <| And.intro @F_appRune_1 <| And.intro @T30_at_appNon <| And.intro @F_appNon_1 <| And.intro @T30_at_step <| And.intro @F_step_1 <| And.intro @T30_at_ubegins <| And.intro @F_ubegins_1 <| And.intro @T30_at_decode <| And.intro @F_decode_1 <| And.intro @T30_at_full <| And.intro @F_full_1 <| And.intro @T30_at_slow <| And.intro @F_slow_1 <| And.intro @T30_at_may <| And.intro @F_may_1 <| And.intro @T30_at_runes <| @F_runes_1

noncomputable def rc_rcsi : RFn := ⟨2, 102, (.seq (.reg [⟨(some 2), (.box 5 (.t 0)), none, false⟩, ⟨(some 4), (.alloc [(.int .i64 0), (.int .u8 0), (.sl 0 [] .nil), (.sl 0 [] .nil), (.sl 0 [] .nil)]), none, false⟩, ⟨(some 5), (.mov (.c (.sl 0 [] .nil))), none, false⟩] 0 [1, 2, 4]) (.seq (.reg [⟨(some 9), (.build [(.int .i64 0), (.int .u8 0), (.sl 0 [] .nil), (.sl 0 [] .nil), (.sl 0 [] .nil)] [(0, (1, (.c (.int .i64 6))))]), none, false⟩, ⟨(some 6), (.alloc [(.int .i64 0), (.int .u8 0), (.sl 0 [] .nil), (.sl 0 [] .nil), (.sl 0 [] .nil)]), none, false⟩, ⟨none, (.store 5 (.t 6) (.t 9)), none, false⟩] 0 [1, 2, 4, 6]) (.seq (.blk 0 (.seq (.reg [⟨(some 11), (.mov (.t 1)), none, false⟩, ⟨(some 12), (.bin .geq (.t 11) (.c (.int .u8 64))), none, false⟩, ⟨(some 10), (.mov (.t 12)), none, false⟩] 0 [1, 2, 4, 6, 10]) (.cond (.t 10) (.seq (.regD (.take ⟨(some 13), (.build [(.int .i64 0), (.int .u8 0), (.sl 0 [] .nil), (.sl 0 [] .nil), (.sl 0 [] .nil)] []), none, false⟩ [] (.take ⟨(some 14), (.mov (.t 1)), none, false⟩ [] (.take ⟨(some 15), (.faddr 1 (.t 2)), none, false⟩ [] (.take ⟨(some 16), (.load false 1 (.t 15)), none, false⟩ [(.t 4)] (.take ⟨(some 17), (.faddr 2 (.t 2)), none, false⟩ [] (.take ⟨(some 18), (.load false 1 (.t 17)), none, false⟩ [(.t 4)] (.take ⟨(some 19), (.faddr 3 (.t 2)), none, false⟩ [] (.take ⟨(some 20), (.load false 1 (.t 19)), none, false⟩ [(.t 4)] (.take ⟨(some 21), (.build [(.int .i64 0), (.int .i32 0), (.int .u8 0), (.int .u8 0), (.sl 0 [] .nil), (.sl 0 [] .nil)] [(0, (1, (.c (.int .i64 3)))), (2, (1, (.t 14))), (3, (1, (.t 16))), (4, (1, (.t 18))), (5, (1, (.t 20)))]), none, false⟩ [] (.alt (.op ⟨(some 22), (.mkrow 6 [(.int .i64 0), (.int .i32 0), (.int .u8 0), (.int .u8 0), (.sl 0 [] .nil), (.sl 0 [] .nil)] 1 [(0, (.t 21))]), none, false⟩ (.op ⟨none, (.store 5 (.t 4) (.t 13)), none, false⟩ (.take ⟨(some 5), (.mov (.t 22)), none, false⟩ [] .done))) (.op ⟨none, (.store 5 (.t 4) (.t 13)), none, false⟩ (.op ⟨(some 22), (.mkrow 6 [(.int .i64 0), (.int .i32 0), (.int .u8 0), (.int .u8 0), (.sl 0 [] .nil), (.sl 0 [] .nil)] 1 [(0, (.t 21))]), none, false⟩ (.take ⟨(some 5), (.mov (.t 22)), none, false⟩ [] .done))))))))))))) 0 [4, 5]) .ret) (.seq (.reg [⟨(some 24), (.mov (.t 1)), none, false⟩, ⟨(some 25), (.call 42 [(.t 24)]), none, false⟩, ⟨(some 23), (.mov (.t 25)), none, false⟩] 0 [1, 2, 4, 6, 23]) (.cond (.t 23) (.seq (.seq (.reg [⟨(some 26), (.faddr 3 (.t 2)), none, false⟩, ⟨(some 27), (.load false 1 (.t 26)), none, false⟩, ⟨(some 28), (.len (.t 27)), none, false⟩, ⟨(some 29), (.bin .geq (.t 28) (.c (.int .i64 2))), none, false⟩] 0 [1, 2, 4, 6, 29]) (.cond (.t 29) (.seq (.reg [⟨(some 30), (.load true 5 (.t 6)), none, false⟩, ⟨none, (.store 5 (.t 4) (.t 30)), none, false⟩, ⟨(some 5), (.mov (.c (.sl 0 [] .nil))), none, false⟩] 0 [4, 5]) .ret) .skip)) (.seq (.reg [⟨(some 31), (.faddr 3 (.t 2)), none, false⟩, ⟨(some 32), (.load false 1 (.t 31)), none, false⟩, ⟨(some 33), (.mov (.t 1)), none, false⟩, ⟨(some 34), (.call 61 [(.t 32), (.t 33)]), none, false⟩, ⟨(some 35), (.faddr 0 (.t 2)), none, false⟩, ⟨none, (.store 1 (.t 35) (.c (.int .i64 5))), none, false⟩, ⟨(some 36), (.faddr 3 (.t 2)), none, false⟩, ⟨none, (.store 1 (.t 36) (.t 34)), none, false⟩] 0 [2, 4]) (.seq (.reg [⟨(some 37), (.load true 5 (.t 2)), none, false⟩, ⟨none, (.store 5 (.t 4) (.t 37)), none, false⟩, ⟨(some 5), (.mov (.c (.sl 0 [] .nil))), none, false⟩] 0 [4, 5]) .ret))) (.seq (.reg [⟨(some 39), (.faddr 0 (.t 2)), none, false⟩, ⟨(some 40), (.load false 1 (.t 39)), none, false⟩, ⟨(some 41), (.bin .eql (.t 40) (.c (.int .i64 5))), none, false⟩, ⟨(some 42), (.mov (.t 41)), none, false⟩, ⟨(some 43), (.mov (.t 1)), (some (42, false)), false⟩, ⟨(some 44), (.bin .eql (.t 43) (.c (.int .u8 58))), (some (42, false)), false⟩, ⟨(some 45), (.pick (.t 42) (.c (.bool true)) (.t 44)), none, false⟩, ⟨(some 38), (.mov (.t 45)), none, false⟩] 0 [1, 2, 4, 6, 38]) (.cond (.t 38) (.seq (.reg [⟨(some 46), (.load true 5 (.t 6)), none, false⟩, ⟨none, (.store 5 (.t 4) (.t 46)), none, false⟩, ⟨(some 5), (.mov (.c (.sl 0 [] .nil))), none, false⟩] 0 [4, 5]) .ret) (.seq (.reg [⟨(some 48), (.mov (.t 1)), none, false⟩, ⟨(some 49), (.bin .geq (.t 48) (.c (.int .u8 60))), none, false⟩, ⟨(some 47), (.mov (.t 49)), none, false⟩] 0 [1, 2, 4, 6, 47]) (.cond (.t 47) (.seq (.seq (.reg [⟨(some 50), (.faddr 2 (.t 2)), none, false⟩, ⟨(some 51), (.load false 1 (.t 50)), none, false⟩, ⟨(some 52), (.len (.t 51)), none, false⟩, ⟨(some 53), (.bin .gtr (.t 52) (.c (.int .i64 0))), none, false⟩, ⟨(some 54), (.mov (.t 53)), none, false⟩, ⟨(some 55), (.faddr 1 (.t 2)), (some (54, false)), false⟩, ⟨(some 56), (.load false 1 (.t 55)), (some (54, false)), false⟩, ⟨(some 57), (.bin .neq (.t 56) (.c (.int .u8 0))), (some (54, false)), false⟩, ⟨(some 58), (.pick (.t 54) (.c (.bool true)) (.t 57)), none, false⟩] 0 [1, 2, 4, 6, 58]) (.cond (.t 58) (.seq (.reg [⟨(some 59), (.load true 5 (.t 6)), none, false⟩, ⟨none, (.store 5 (.t 4) (.t 59)), none, false⟩, ⟨(some 5), (.mov (.c (.sl 0 [] .nil))), none, false⟩] 0 [4, 5]) .ret) .skip)) (.seq (.reg [⟨(some 60), (.mov (.t 1)), none, false⟩, ⟨(some 61), (.faddr 1 (.t 2)), none, false⟩, ⟨none, (.store 1 (.t 61) (.t 60)), none, false⟩] 0 [2, 4]) (.seq (.reg [⟨(some 62), (.load true 5 (.t 2)), none, false⟩, ⟨none, (.store 5 (.t 4) (.t 62)), none, false⟩, ⟨(some 5), (.mov (.c (.sl 0 [] .nil))), none, false⟩] 0 [4, 5]) .ret))) .skip))))))))) (.seq (.reg [⟨(some 63), (.faddr 2 (.t 2)), none, false⟩, ⟨(some 64), (.load false 1 (.t 63)), none, false⟩, ⟨(some 65), (.append 1 8 (.c (.sl 0 [] .nil)) (.t 64)), none, false⟩, ⟨(some 7), (.mov (.t 65)), none, false⟩] 0 [1, 2, 4, 6, 7]) (.seq (.seq (.reg [⟨(some 66), (.mov (.t 7)), none, false⟩, ⟨(some 67), (.len (.t 66)), none, false⟩, ⟨(some 68), (.bin .eql (.t 67) (.c (.int .i64 0))), none, false⟩] 0 [1, 2, 4, 6, 7, 68]) (.cond (.t 68) (.reg [⟨(some 69), (.mov (.t 7)), none, false⟩, ⟨(some 70), (.mkrow 1 [(.int .i64 0)] 1 [(0, (.c (.int .i64 0)))]), none, false⟩, ⟨(some 71), (.append 1 8 (.t 69) (.t 70)), none, false⟩, ⟨(some 7), (.mov (.t 71)), none, false⟩] 0 [1, 2, 4, 6, 7]) .skip)) (.seq (.seq (.reg [⟨(some 72), (.mov (.t 1)), none, false⟩, ⟨(some 73), (.bin .eql (.t 72) (.c (.int .u8 59))), none, false⟩] 0 [1, 2, 4, 6, 7, 73]) (.cond (.t 73) (.seq (.seq (.reg [⟨(some 74), (.mov (.t 7)), none, false⟩, ⟨(some 75), (.len (.t 74)), none, false⟩, ⟨(some 76), (.bin .geq (.t 75) (.c (.int .i64 16))), none, false⟩] 0 [2, 4, 6, 7, 76]) (.cond (.t 76) (.seq (.reg [⟨(some 77), (.load true 5 (.t 6)), none, false⟩, ⟨none, (.store 5 (.t 4) (.t 77)), none, false⟩, ⟨(some 5), (.mov (.c (.sl 0 [] .nil))), none, false⟩] 0 [4, 5]) .ret) .skip)) (.seq (.reg [⟨(some 78), (.mov (.t 7)), none, false⟩, ⟨(some 79), (.mkrow 1 [(.int .i64 0)] 1 [(0, (.c (.int .i64 0)))]), none, false⟩, ⟨(some 80), (.append 1 8 (.t 78) (.t 79)), none, false⟩, ⟨(some 81), (.faddr 2 (.t 2)), none, false⟩, ⟨none, (.store 1 (.t 81) (.t 80)), none, false⟩] 0 [2, 4]) (.seq (.reg [⟨(some 82), (.load true 5 (.t 2)), none, false⟩, ⟨none, (.store 5 (.t 4) (.t 82)), none, false⟩, ⟨(some 5), (.mov (.c (.sl 0 [] .nil))), none, false⟩] 0 [4, 5]) .ret))) .skip)) (.seq (.reg [⟨(some 83), (.mov (.t 7)), none, false⟩, ⟨(some 84), (.len (.t 83)), none, false⟩, ⟨(some 85), (.bin .sub (.t 84) (.c (.int .i64 1))), none, false⟩, ⟨(some 8), (.mov (.t 85)), none, false⟩] 0 [1, 2, 4, 7, 8]) (.seq (.reg [⟨(some 86), (.mov (.t 7)), none, false⟩, ⟨(some 87), (.mov (.t 8)), none, false⟩, ⟨(some 88), (.mov (.t 7)), none, false⟩, ⟨(some 89), (.mov (.t 8)), none, false⟩, ⟨(some 90), (.iaddr 1 (.t 88) (.t 89)), none, false⟩, ⟨(some 91), (.load false 1 (.t 90)), none, false⟩, ⟨(some 92), (.bin .mul (.c (.int .i64 10)) (.t 91)), none, false⟩, ⟨(some 93), (.mov (.t 1)), none, false⟩, ⟨(some 94), (.bin .sub (.t 93) (.c (.int .u8 48))), none, false⟩, ⟨(some 95), (.conv (.i2i .i64) (.t 94)), none, false⟩, ⟨(some 96), (.bin .add (.t 92) (.t 95)), none, false⟩, ⟨(some 97), (.mm false (.t 96) (.c (.int .i64 65535))), none, false⟩, ⟨(some 98), (.iaddr 1 (.t 86) (.t 87)), none, false⟩, ⟨none, (.store 1 (.t 98) (.t 97)), none, false⟩] 0 [2, 4, 7]) (.seq (.reg [⟨(some 99), (.mov (.t 7)), none, false⟩, ⟨(some 100), (.faddr 2 (.t 2)), none, false⟩, ⟨none, (.store 1 (.t 100) (.t 99)), none, false⟩] 0 [2, 4]) (.seq (.reg [⟨(some 101), (.load true 5 (.t 2)), none, false⟩, ⟨none, (.store 5 (.t 4) (.t 101)), none, false⟩, ⟨(some 5), (.mov (.c (.sl 0 [] .nil))), none, false⟩] 0 [4, 5]) .ret)))))))))), [(.c 4 true 5), (.t 5)]⟩
theorem rc_rcsi_ok : compFn PG.P [⟨0, 0, [1, 2, 4], []⟩, ⟨1, 0, [1, 2, 4, 6], []⟩, ⟨2, 0, [1, 2, 4, 6, 10], []⟩, ⟨3, 0, [4, 5], []⟩, ⟨4, 0, [1, 2, 4, 6, 23], []⟩, ⟨5, 0, [1, 2, 4, 6, 29], []⟩, ⟨6, 0, [4, 5], []⟩, ⟨7, 0, [2, 4], []⟩, ⟨8, 0, [4, 5], []⟩, ⟨9, 0, [1, 2, 4, 6, 38], []⟩, ⟨10, 0, [4, 5], []⟩, ⟨11, 0, [1, 2, 4, 6, 47], []⟩, ⟨12, 0, [1, 2, 4, 6, 58], []⟩, ⟨13, 0, [4, 5], []⟩, ⟨14, 0, [2, 4], []⟩, ⟨15, 0, [4, 5], []⟩, ⟨16, 0, [1, 2, 4, 6, 7], []⟩, ⟨17, 0, [1, 2, 4, 6, 7, 68], []⟩, ⟨18, 0, [1, 2, 4, 6, 7], []⟩, ⟨19, 0, [1, 2, 4, 6, 7, 73], []⟩, ⟨20, 0, [2, 4, 6, 7, 76], []⟩, ⟨21, 0, [4, 5], []⟩, ⟨22, 0, [2, 4], []⟩, ⟨23, 0, [4, 5], []⟩, ⟨24, 0, [1, 2, 4, 7, 8], []⟩, ⟨25, 0, [2, 4, 7], []⟩, ⟨26, 0, [2, 4], []⟩, ⟨27, 0, [4, 5], []⟩] 62 = some rc_rcsi := by kernel_rfl
def rcsiF (p : Pa) (b : Int) : Pa × List Ac :=
  if 64 ≤ b then vactF p b
  else if vint b = true then (if 2 ≤ (p.I.length : Int) then (pa0 6, []) else (⟨5, p.pr, p.P, p.I ++ [b], p.U⟩, []))
  else if p.m = 5 ∨ b = 58 then (pa0 6, [])
  else if 60 ≤ b then (if 0 < (p.P.length : Int) ∨ p.pr ≠ 0 then (pa0 6, []) else (⟨p.m, b, p.P, p.I, p.U⟩, []))
  else if (p.P.length : Int) = 0 then (if b = 59 then (⟨p.m, p.pr, [0, 0], p.I, p.U⟩, []) else (⟨p.m, p.pr, [min (b - 48) 65535], p.I, p.U⟩, []))
  else if b = 59 then (if 16 ≤ (p.P.length : Int) then (pa0 6, []) else (⟨p.m, p.pr, p.P ++ [0], p.I, p.U⟩, []))
  else (⟨p.m, p.pr, digP p.P b, p.I, p.U⟩, [])
theorem rcsi_P {p : Pa} {b : Int} (hp : paOk p) (hb : 32 ≤ b ∧ b ≤ 255) : PCalls PG 62 [paD p, .int .u8 b] fun n r os => r = (paF (rcsiF p b)).1 ∧ os = [] := by
  obtain ⟨m, pr, P, I, U⟩ := p
  obtain ⟨h1, h2, h3, h4, h5, h6, h7⟩ := hp
  simp only at h1 h2 h3 h4 h5 h6 h7
  refine PCalls.by_fnF (res := fun n => paF (rcsiF ⟨m, pr, P, I, U⟩ b)) T30_ok rc_rcsi_ok (by simp [rc_rcsi]) fun n => ?_
  unfold rc_rcsi
  dsimp only [paD]
  simp -implicitDefEqProofs only [T30_b, isS_sl, isInts_sl, intsD_sl, List.length_set, List.take_length, i64w0, acB1, vcB1, vcB2, vcB3, vcA1, vcA2, vcA3, vcA4, vcA5, vcA6, vcA7, ↓vcP1, ↓vcP2, ↓reduceIte, Option.map_some, Option.map_none, Option.bind_some, Option.bind_none, if_true, if_false, reduceCtorEq, beq_true, beq_false, Bool.not_true, Bool.not_false, BEq.rfl, Bool.true_beq, Bool.false_beq, and_true, true_and, and_self, decide_true, decide_false, List.length_cons, List.length_nil, List.all_cons, List.all_nil, Bool.and_true, Bool.and_self, List.getElem?_cons_zero, List.getElem?_cons_succ, List.set_cons_zero, List.set_cons_succ, List.nil_append, List.cons_append, List.append_nil, List.map_cons, List.map_nil, not_true_eq_false, not_false_eq_true, false_implies, true_implies, implies_true, List.take_succ_cons, List.take_zero, List.take_nil, List.drop_succ_cons, List.drop_zero, List.drop_nil, Nat.reduceLT, Nat.reduceLeDiff, Nat.reduceEqDiff, Nat.reduceAdd, Nat.reduceSub, Nat.reduceMul, Int.reduceLT, Int.reduceLE, Int.reduceEq, Int.reduceToNat, Int.reduceAdd, Int.reduceSub, Int.reduceNeg, List.reduceReplicate, List.replicate_zero, List.replicate_succ, ne_eq, List.flatMap_cons, List.flatMap_nil, List.length_replicate, List.length_append, Nat.le_refl, Nat.le_add_right, Nat.add_assoc, List.append_assoc, or_true, true_or, or_false, false_or, and_false, false_and, exists_eq_left, exists_eq_left', Option.some.injEq, DV.int.injEq, DV.bool.injEq, DV.sl.injEq, DV.own.injEq, DV.tup.injEq, List.cons.injEq, Ob.arr.injEq, Ob.box.injEq, Option.map_map, Int.toNat_natCast, Int.toNat_zero, Nat.reducePow, Int.toNat_one, Int.reduceMul, Nat.mul_one, Nat.zero_add, Nat.add_zero, Function.comp_apply, List.map_append, List.map_replicate, Int.cast_ofNat_Int, Nat.left_eq_add, Nat.add_eq_left, Nat.add_left_cancel_iff]
  have ht1 : List.take (P.length + 1) (P ++ [0]) = P ++ [0] := List.take_of_length_le (by simp)
  have ht2 : ∀ k v, List.take P.length (P.set k v) = P.set k v := fun k v => List.take_of_length_le (by simp)
  have ht3 : List.take (I.length + 1) (I ++ [b]) = I ++ [b] := List.take_of_length_le (by simp)
  have hw11 : IntKind.i64.wrap ((P.length : Int) - 1) = (P.length : Int) - 1 := wI64 (by omega) (by omega)
  have hw8 : ¬ 64 ≤ b → vint b = false → IntKind.u8.wrap (b - 48) = b - 48 ∧ IntKind.i64.wrap (b - 48) = b - 48 ∧ IntKind.i64.wrap (0 + (b - 48)) = b - 48 := fun h hv => by
    simp only [vint, Bool.and_eq_false_iff, decide_eq_false_iff_not] at hv
    rw [Int.zero_add]
    exact ⟨wU8 (by omega) (by omega), wI64 (by omega) (by omega), wI64 (by omega) (by omega)⟩
  have hd : 0 < P.length → min (IntKind.i64.wrap (IntKind.i64.wrap (10 * P.getD (P.length - 1) 0) + (b - 48))) 65535 = min (10 * P.getD (P.length - 1) 0 + (b - 48)) 65535 := fun h => by
    have hmem : P.getD (P.length - 1) 0 ∈ P := by
      rw [List.getD_eq_getElem?_getD, List.getElem?_eq_getElem (by omega)]
      exact List.getElem_mem _
    have := h7 _ hmem
    rw [wI64 (n := 10 * P.getD (P.length - 1) 0) (by omega) (by omega), wI64 (by omega) (by omega)]
  have hw12 : ((P.length : Int) - 1).toNat = P.length - 1 := by omega
  simp only [ht1, ht2, ht3]
  clear h7 ht1 ht2 ht3
  rcases Nat.eq_zero_or_pos P.length with hP | hP
  · have : P = [] := List.eq_nil_of_length_eq_zero hP
    subst this
    clear hd hw11 hw12 hP
    simp -implicitDefEqProofs only [List.length_nil, List.nil_append, Nat.zero_add]
    simp only [cnd_gen]
    (repeat' (first | with_reducible exact Or.inl rfl | intro _ | (with_reducible apply And.intro)))
    all_goals first
      | exact .inl rfl | exact .inr rfl | exact .inr ⟨rfl, trivial⟩
      | trivial
      | assumption
      | omega
      | exact rfl
      | (dsimp only [rcsiF]; (repeat (first | rw [if_pos (by first | omega | assumption | exact Or.inl (by assumption) | exact Or.inr (by assumption))] | rw [if_neg (by first | omega | exact Bool.eq_false_iff.1 (by assumption) | exact Bool.eq_true_imp_not_false (by assumption) | assumption)])); first | exact wkT_refl _ | rfl | (simp [paF, paR, paD, pa0, vactF, wkT_tup, wkL_cons, wkL_nil, wkA_agg, wk0_int, wk0_sl, wkA_sl, acRows_nil, intRows_nil]; done))
      | (rename_i hh; exact (h1.2 _ hh).1)
      | (rename_i hh; exact (h1.2 _ hh).2)
      | (rename_i hh; exact (h2.2 _ hh).1)
      | (rename_i hh; exact (h2.2 _ hh).2)
      | (rename_i hh; exact (h3.2 _ hh).1)
      | (rename_i hh; exact (h3.2 _ hh).2)
      | (show List.length _ ≤ _; dsimp only; omega)
      | decide
      | (dsimp only [rcsiF]; (repeat (first | rw [if_pos (by first | omega | assumption | exact Or.inl (by assumption) | exact Or.inr (by assumption))] | rw [if_neg (by first | omega | exact Bool.eq_false_iff.1 (by assumption) | exact Bool.eq_true_imp_not_false (by assumption) | assumption)])); (simp [paF, paR, paD, pa0, vactF, digP, wkT_tup, wkL_cons, wkL_nil, wkA_agg, wk0_int, wk0_sl, wkA_sl, acRows_nil, intRows_nil, *]; done))
      | (simp [*]; done)
      | skip
    obtain ⟨e1, e2, e3⟩ := hw8 (by assumption) (by assumption)
    have hf : rcsiF ⟨m, pr, [], I, U⟩ b = (⟨m, pr, [min (b - 48) 65535], I, U⟩, []) := by
      dsimp only [rcsiF]
      rw [if_neg (by assumption), if_neg (by rw [‹vint b = false›]; decide), if_neg (by omega), if_neg (by omega), if_pos (by simp), if_neg (by assumption)]
    rw [hf, e1, e2, show IntKind.i64.wrap (((1 : Nat) : Int) - 1) = 0 from by decide]
    simp only [Int.toNat_zero, List.getD_cons_zero, show IntKind.i64.wrap (10 * 0) = 0 from by decide, e3]
    simp [paF, paR, paD, wkT_tup, wkL_cons, wkL_nil, wkA_agg, wk0_int, wk0_sl, wkA_sl, acRows_nil, intRows_nil]
  · have hd := hd hP
    simp only [hw11, hw12]
    clear hw11 hw12
    simp only [cnd_gen]
    (repeat' (first | with_reducible exact Or.inl rfl | intro _ | (with_reducible apply And.intro)))
    all_goals first
      | exact .inl rfl | exact .inr rfl | exact .inr ⟨rfl, trivial⟩
      | trivial
      | assumption
      | omega
      | exact rfl
      | (dsimp only [rcsiF]; (repeat (first | rw [if_pos (by first | omega | assumption | exact Or.inl (by assumption) | exact Or.inr (by assumption))] | rw [if_neg (by first | omega | exact Bool.eq_false_iff.1 (by assumption) | exact Bool.eq_true_imp_not_false (by assumption) | assumption)])); first | exact wkT_refl _ | rfl | (simp [paF, paR, paD, pa0, vactF, wkT_tup, wkL_cons, wkL_nil, wkA_agg, wk0_int, wk0_sl, wkA_sl, acRows_nil, intRows_nil]; done))
      | (rename_i hh; exact (h1.2 _ hh).1)
      | (rename_i hh; exact (h1.2 _ hh).2)
      | (rename_i hh; exact (h2.2 _ hh).1)
      | (rename_i hh; exact (h2.2 _ hh).2)
      | (rename_i hh; exact (h3.2 _ hh).1)
      | (rename_i hh; exact (h3.2 _ hh).2)
      | (show List.length _ ≤ _; dsimp only; omega)
      | decide
      | (dsimp only [rcsiF]; (repeat (first | rw [if_pos (by first | omega | assumption | exact Or.inl (by assumption) | exact Or.inr (by assumption))] | rw [if_neg (by first | omega | exact Bool.eq_false_iff.1 (by assumption) | exact Bool.eq_true_imp_not_false (by assumption) | assumption)])); (simp [paF, paR, paD, pa0, vactF, digP, wkT_tup, wkL_cons, wkL_nil, wkA_agg, wk0_int, wk0_sl, wkA_sl, acRows_nil, intRows_nil, *]; done))
      | (simp [*]; done)
      | skip
    obtain ⟨e1, e2, e3⟩ := hw8 (by assumption) (by assumption)
    have hf : rcsiF ⟨m, pr, P, I, U⟩ b = (⟨m, pr, digP P b, I, U⟩, []) := by
      dsimp only [rcsiF]
      rw [if_neg (by assumption), if_neg (by rw [‹vint b = false›]; decide), if_neg (by omega), if_neg (by omega), if_neg (by assumption), if_neg (by assumption)]
    rw [hf, e1, e2, hd]
    simp [paF, paR, paD, digP, wkT_tup, wkL_cons, wkL_nil, wkA_agg, wk0_int, wk0_sl, wkA_sl, acRows_nil, intRows_nil]
end Go.Proofs.YteemmpghpdaloaaDoor
end
section
/- The document's step with nothing pending. -/
set_option linter.unusedVariables false
set_option linter.unusedSimpArgs false
set_option maxRecDepth 10000
namespace Go.Proofs.YteemmpghpdaloaaDoor
open Go.RowKit

def qR (p : Pa) (b : Int) : Prop := paOk p ∧ 32 ≤ b ∧ b ≤ 255
def F_rcsi := F_pb rcsiF qR
theorem F_rcsi_1 : type_of% (F_pb_1 rcsiF qR) := F_pb_1 rcsiF qR
theorem rcsi_ok (args : List DV) (s : FSpec) (hs : F_rcsi args = some s) (hp : s.pre) : PCalls PG 62 args fun n r os => r = (s.res n).1 ∧ os = (s.res n).2 :=
  pb_ok (g := rcsiF) (q := qR) (fun p b h => rcsi_P h.1 h.2) args s hs hp
def T31 : FL := (62, F_rcsi) :: T30
theorem T31_ok : FOk PG (tab T31) := FOk.cons T30_ok rcsi_ok
theorem T31_at_csi (args : List DV) : tab T31 62 args = (F_pb rcsiF qR args).map .o := nrfl _
theorem T31_at_inter (args : List DV) : tab T31 42 args = (F_rinter args).map .o := nrfl _
theorem T31_at_with (args : List DV) : tab T31 61 args = (F_rwith args).map .o := nrfl _
theorem T31_at_prints (args : List DV) : tab T31 47 args = (F_rprints args).map .o := nrfl _
theorem T31_at_step (args : List DV) : tab T31 18 args = (F_rstep args).map .o := nrfl _
noncomputable def rc_rstep7 : RFn := ⟨2, 141, (.seq (.reg [⟨(some 2), (.box 5 (.t 0)), none, false⟩, ⟨(some 4), (.alloc [(.int .i64 0), (.int .u8 0), (.sl 0 [] .nil), (.sl 0 [] .nil), (.sl 0 [] .nil)]), none, false⟩, ⟨(some 5), (.mov (.c (.sl 0 [] .nil))), none, false⟩] 0 [1, 2, 4]) (.seq (.blk 0 (.seq (.reg [⟨(some 9), (.mov (.t 1)), none, false⟩, ⟨(some 10), (.bin .eql (.t 9) (.c (.int .u8 24))), none, false⟩, ⟨(some 11), (.mov (.t 10)), none, false⟩, ⟨(some 12), (.mov (.t 1)), (some (11, false)), false⟩, ⟨(some 13), (.bin .eql (.t 12) (.c (.int .u8 26))), (some (11, false)), false⟩, ⟨(some 14), (.pick (.t 11) (.c (.bool true)) (.t 13)), none, false⟩, ⟨(some 8), (.mov (.t 14)), none, false⟩] 0 [1, 2, 4, 8]) (.cond (.t 8) (.seq (.reg [⟨(some 15), (.build [(.int .i64 0), (.int .u8 0), (.sl 0 [] .nil), (.sl 0 [] .nil), (.sl 0 [] .nil)] []), none, false⟩, ⟨none, (.store 5 (.t 4) (.t 15)), none, false⟩, ⟨(some 5), (.mov (.c (.sl 0 [] .nil))), none, false⟩] 0 [4, 5]) .ret) (.seq (.reg [⟨(some 17), (.mov (.t 1)), none, false⟩, ⟨(some 18), (.bin .eql (.t 17) (.c (.int .u8 27))), none, false⟩, ⟨(some 16), (.mov (.t 18)), none, false⟩] 0 [1, 2, 4, 16]) (.cond (.t 16) (.seq (.reg [⟨(some 19), (.build [(.int .i64 0), (.int .u8 0), (.sl 0 [] .nil), (.sl 0 [] .nil), (.sl 0 [] .nil)] [(0, (1, (.c (.int .i64 1))))]), none, false⟩, ⟨none, (.store 5 (.t 4) (.t 19)), none, false⟩, ⟨(some 5), (.mov (.c (.sl 0 [] .nil))), none, false⟩] 0 [4, 5]) .ret) (.seq (.reg [⟨(some 21), (.faddr 0 (.t 2)), none, false⟩, ⟨(some 22), (.load false 1 (.t 21)), none, false⟩, ⟨(some 23), (.bin .eql (.t 22) (.c (.int .i64 0))), none, false⟩, ⟨(some 20), (.mov (.t 23)), none, false⟩] 0 [1, 2, 4, 20]) (.cond (.t 20) (.seq (.seq (.reg [⟨(some 24), (.mov (.t 1)), none, false⟩, ⟨(some 25), (.bin .lss (.t 24) (.c (.int .u8 32))), none, false⟩] 0 [1, 4, 25]) (.cond (.t 25) (.seq (.reg [⟨(some 26), (.build [(.int .i64 0), (.int .u8 0), (.sl 0 [] .nil), (.sl 0 [] .nil), (.sl 0 [] .nil)] []), none, false⟩, ⟨(some 27), (.mov (.t 1)), none, false⟩, ⟨(some 28), (.build [(.int .i64 0), (.int .i32 0), (.int .u8 0), (.int .u8 0), (.sl 0 [] .nil), (.sl 0 [] .nil)] [(0, (1, (.c (.int .i64 1)))), (2, (1, (.t 27)))]), none, false⟩, ⟨(some 29), (.mkrow 6 [(.int .i64 0), (.int .i32 0), (.int .u8 0), (.int .u8 0), (.sl 0 [] .nil), (.sl 0 [] .nil)] 1 [(0, (.t 28))]), none, false⟩, ⟨none, (.store 5 (.t 4) (.t 26)), none, false⟩, ⟨(some 5), (.mov (.t 29)), none, false⟩] 0 [4, 5]) .ret) .skip)) (.seq (.seq (.reg [⟨(some 30), (.mov (.t 1)), none, false⟩, ⟨(some 31), (.bin .eql (.t 30) (.c (.int .u8 127))), none, false⟩] 0 [1, 4, 31]) (.cond (.t 31) (.seq (.reg [⟨(some 32), (.build [(.int .i64 0), (.int .u8 0), (.sl 0 [] .nil), (.sl 0 [] .nil), (.sl 0 [] .nil)] []), none, false⟩, ⟨none, (.store 5 (.t 4) (.t 32)), none, false⟩, ⟨(some 5), (.mov (.c (.sl 0 [] .nil))), none, false⟩] 0 [4, 5]) .ret) .skip)) (.seq (.reg [⟨(some 34), (.mov (.t 1)), none, false⟩, ⟨(some 35), (.call 18 [(.c (.sl 0 [] .nil)), (.t 34)]), none, false⟩, ⟨(some 33), (.mov (.t 35)), none, false⟩, ⟨(some 36), (.ext (.t 33) 0), none, false⟩, ⟨(some 37), (.ext (.t 33) 1), none, false⟩, ⟨(some 6), (.mov (.t 36)), none, false⟩, ⟨(some 7), (.mov (.t 37)), none, false⟩] 0 [4, 6, 7]) (.seq (.reg [⟨(some 38), (.mov (.t 6)), none, false⟩, ⟨(some 39), (.build [(.int .i64 0), (.int .u8 0), (.sl 0 [] .nil), (.sl 0 [] .nil), (.sl 0 [] .nil)] [(4, (1, (.t 38)))]), none, false⟩, ⟨(some 40), (.mov (.t 7)), none, false⟩, ⟨(some 41), (.call 47 [(.t 40)]), none, false⟩, ⟨none, (.store 5 (.t 4) (.t 39)), none, false⟩, ⟨(some 5), (.mov (.t 41)), none, false⟩] 0 [4, 5]) .ret)))) (.seq (.reg [⟨(some 43), (.faddr 0 (.t 2)), none, false⟩, ⟨(some 44), (.load false 1 (.t 43)), none, false⟩, ⟨(some 45), (.bin .eql (.t 44) (.c (.int .i64 7))), none, false⟩, ⟨(some 42), (.mov (.t 45)), none, false⟩] 0 [1, 2, 4, 42]) (.cond (.t 42) (.seq (.seq (.reg [⟨(some 46), (.mov (.t 1)), none, false⟩, ⟨(some 47), (.bin .eql (.t 46) (.c (.int .u8 7))), none, false⟩] 0 [2, 4, 47]) (.cond (.t 47) (.seq (.reg [⟨(some 48), (.build [(.int .i64 0), (.int .u8 0), (.sl 0 [] .nil), (.sl 0 [] .nil), (.sl 0 [] .nil)] []), none, false⟩, ⟨none, (.store 5 (.t 4) (.t 48)), none, false⟩, ⟨(some 5), (.mov (.c (.sl 0 [] .nil))), none, false⟩] 0 [4, 5]) .ret) .skip)) (.seq (.reg [⟨(some 49), (.load true 5 (.t 2)), none, false⟩, ⟨none, (.store 5 (.t 4) (.t 49)), none, false⟩, ⟨(some 5), (.mov (.c (.sl 0 [] .nil))), none, false⟩] 0 [4, 5]) .ret)) (.seq (.reg [⟨(some 51), (.mov (.t 1)), none, false⟩, ⟨(some 52), (.bin .lss (.t 51) (.c (.int .u8 32))), none, false⟩, ⟨(some 50), (.mov (.t 52)), none, false⟩] 0 [1, 2, 4, 50]) (.cond (.t 50) (.seq (.reg [⟨(some 53), (.load true 5 (.t 2)), none, false⟩, ⟨(some 54), (.mov (.t 1)), none, false⟩, ⟨(some 55), (.build [(.int .i64 0), (.int .i32 0), (.int .u8 0), (.int .u8 0), (.sl 0 [] .nil), (.sl 0 [] .nil)] [(0, (1, (.c (.int .i64 1)))), (2, (1, (.t 54)))]), none, false⟩, ⟨(some 56), (.mkrow 6 [(.int .i64 0), (.int .i32 0), (.int .u8 0), (.int .u8 0), (.sl 0 [] .nil), (.sl 0 [] .nil)] 1 [(0, (.t 55))]), none, false⟩, ⟨none, (.store 5 (.t 4) (.t 53)), none, false⟩, ⟨(some 5), (.mov (.t 56)), none, false⟩] 0 [4, 5]) .ret) (.seq (.reg [⟨(some 58), (.mov (.t 1)), none, false⟩, ⟨(some 59), (.bin .eql (.t 58) (.c (.int .u8 127))), none, false⟩, ⟨(some 57), (.mov (.t 59)), none, false⟩] 0 [1, 2, 4, 57]) (.cond (.t 57) (.seq (.reg [⟨(some 60), (.load true 5 (.t 2)), none, false⟩, ⟨none, (.store 5 (.t 4) (.t 60)), none, false⟩, ⟨(some 5), (.mov (.c (.sl 0 [] .nil))), none, false⟩] 0 [4, 5]) .ret) (.seq (.reg [⟨(some 62), (.mov (.t 1)), none, false⟩, ⟨(some 63), (.bin .geq (.t 62) (.c (.int .u8 128))), none, false⟩, ⟨(some 61), (.mov (.t 63)), none, false⟩] 0 [1, 2, 4, 61]) (.cond (.t 61) (.seq (.reg [⟨(some 64), (.build [(.int .i64 0), (.int .u8 0), (.sl 0 [] .nil), (.sl 0 [] .nil), (.sl 0 [] .nil)] []), none, false⟩, ⟨none, (.store 5 (.t 4) (.t 64)), none, false⟩, ⟨(some 5), (.mov (.c (.sl 0 [] .nil))), none, false⟩] 0 [4, 5]) .ret) .skip))))))))))))))) (.seq (.seq (.reg [⟨(some 65), (.faddr 0 (.t 2)), none, false⟩, ⟨(some 66), (.load false 1 (.t 65)), none, false⟩] 0 [1, 2, 4, 66]) (.blk 1 (.seq (.reg [⟨(some 68), (.bin .eql (.t 66) (.c (.int .i64 1))), none, false⟩, ⟨(some 67), (.mov (.t 68)), none, false⟩] 0 [1, 2, 4, 66, 67]) (.cond (.t 67) (.seq (.blk 2 (.seq (.reg [⟨(some 70), (.mov (.t 1)), none, false⟩, ⟨(some 71), (.call 42 [(.t 70)]), none, false⟩, ⟨(some 69), (.mov (.t 71)), none, false⟩] 0 [1, 4, 69]) (.cond (.t 69) (.seq (.reg [⟨(some 72), (.mov (.t 1)), none, false⟩, ⟨(some 73), (.mkrow 1 [(.int .u8 0)] 1 [(0, (.t 72))]), none, false⟩, ⟨(some 74), (.build [(.int .i64 0), (.int .u8 0), (.sl 0 [] .nil), (.sl 0 [] .nil), (.sl 0 [] .nil)] [(0, (1, (.c (.int .i64 2)))), (3, (1, (.t 73)))]), none, false⟩, ⟨none, (.store 5 (.t 4) (.t 74)), none, false⟩, ⟨(some 5), (.mov (.c (.sl 0 [] .nil))), none, false⟩] 0 [4, 5]) .ret) (.seq (.reg [⟨(some 76), (.mov (.t 1)), none, false⟩, ⟨(some 77), (.bin .eql (.t 76) (.c (.int .u8 91))), none, false⟩, ⟨(some 75), (.mov (.t 77)), none, false⟩] 0 [1, 4, 75]) (.cond (.t 75) (.seq (.reg [⟨(some 78), (.build [(.int .i64 0), (.int .u8 0), (.sl 0 [] .nil), (.sl 0 [] .nil), (.sl 0 [] .nil)] [(0, (1, (.c (.int .i64 4))))]), none, false⟩, ⟨none, (.store 5 (.t 4) (.t 78)), none, false⟩, ⟨(some 5), (.mov (.c (.sl 0 [] .nil))), none, false⟩] 0 [4, 5]) .ret) (.seq (.reg [⟨(some 80), (.mov (.t 1)), none, false⟩, ⟨(some 81), (.bin .eql (.t 80) (.c (.int .u8 93))), none, false⟩, ⟨(some 82), (.mov (.t 81)), none, false⟩, ⟨(some 83), (.mov (.t 1)), (some (82, false)), false⟩, ⟨(some 84), (.bin .eql (.t 83) (.c (.int .u8 80))), (some (82, false)), false⟩, ⟨(some 85), (.pick (.t 82) (.c (.bool true)) (.t 84)), none, false⟩, ⟨(some 86), (.mov (.t 85)), none, false⟩, ⟨(some 87), (.mov (.t 1)), (some (86, false)), false⟩, ⟨(some 88), (.bin .eql (.t 87) (.c (.int .u8 88))), (some (86, false)), false⟩, ⟨(some 89), (.pick (.t 86) (.c (.bool true)) (.t 88)), none, false⟩, ⟨(some 90), (.mov (.t 89)), none, false⟩, ⟨(some 91), (.mov (.t 1)), (some (90, false)), false⟩, ⟨(some 92), (.bin .eql (.t 91) (.c (.int .u8 94))), (some (90, false)), false⟩, ⟨(some 93), (.pick (.t 90) (.c (.bool true)) (.t 92)), none, false⟩, ⟨(some 94), (.mov (.t 93)), none, false⟩, ⟨(some 95), (.mov (.t 1)), (some (94, false)), false⟩, ⟨(some 96), (.bin .eql (.t 95) (.c (.int .u8 95))), (some (94, false)), false⟩, ⟨(some 97), (.pick (.t 94) (.c (.bool true)) (.t 96)), none, false⟩, ⟨(some 79), (.mov (.t 97)), none, false⟩] 0 [1, 4, 79]) (.cond (.t 79) (.seq (.reg [⟨(some 98), (.build [(.int .i64 0), (.int .u8 0), (.sl 0 [] .nil), (.sl 0 [] .nil), (.sl 0 [] .nil)] [(0, (1, (.c (.int .i64 7))))]), none, false⟩, ⟨none, (.store 5 (.t 4) (.t 98)), none, false⟩, ⟨(some 5), (.mov (.c (.sl 0 [] .nil))), none, false⟩] 0 [4, 5]) .ret) .skip))))))) (.seq (.reg [⟨(some 99), (.build [(.int .i64 0), (.int .u8 0), (.sl 0 [] .nil), (.sl 0 [] .nil), (.sl 0 [] .nil)] []), none, false⟩, ⟨(some 100), (.mov (.t 1)), none, false⟩, ⟨(some 101), (.build [(.int .i64 0), (.int .i32 0), (.int .u8 0), (.int .u8 0), (.sl 0 [] .nil), (.sl 0 [] .nil)] [(0, (1, (.c (.int .i64 2)))), (2, (1, (.t 100)))]), none, false⟩, ⟨(some 102), (.mkrow 6 [(.int .i64 0), (.int .i32 0), (.int .u8 0), (.int .u8 0), (.sl 0 [] .nil), (.sl 0 [] .nil)] 1 [(0, (.t 101))]), none, false⟩, ⟨none, (.store 5 (.t 4) (.t 99)), none, false⟩, ⟨(some 5), (.mov (.t 102)), none, false⟩] 0 [4, 5]) .ret)) (.seq (.reg [⟨(some 104), (.bin .eql (.t 66) (.c (.int .i64 2))), none, false⟩, ⟨(some 103), (.mov (.t 104)), none, false⟩] 0 [1, 2, 4, 66, 103]) (.cond (.t 103) (.seq (.seq (.reg [⟨(some 105), (.mov (.t 1)), none, false⟩, ⟨(some 106), (.call 42 [(.t 105)]), none, false⟩, ⟨(some 107), (.un .not (.t 106)), none, false⟩] 0 [1, 2, 4, 107]) (.cond (.t 107) (.seq (.regD (.take ⟨(some 108), (.build [(.int .i64 0), (.int .u8 0), (.sl 0 [] .nil), (.sl 0 [] .nil), (.sl 0 [] .nil)] []), none, false⟩ [] (.take ⟨(some 109), (.mov (.t 1)), none, false⟩ [] (.take ⟨(some 110), (.faddr 3 (.t 2)), none, false⟩ [] (.take ⟨(some 111), (.load false 1 (.t 110)), none, false⟩ [(.t 4)] (.take ⟨(some 112), (.build [(.int .i64 0), (.int .i32 0), (.int .u8 0), (.int .u8 0), (.sl 0 [] .nil), (.sl 0 [] .nil)] [(0, (1, (.c (.int .i64 2)))), (2, (1, (.t 109))), (5, (1, (.t 111)))]), none, false⟩ [] (.alt (.op ⟨(some 113), (.mkrow 6 [(.int .i64 0), (.int .i32 0), (.int .u8 0), (.int .u8 0), (.sl 0 [] .nil), (.sl 0 [] .nil)] 1 [(0, (.t 112))]), none, false⟩ (.op ⟨none, (.store 5 (.t 4) (.t 108)), none, false⟩ (.take ⟨(some 5), (.mov (.t 113)), none, false⟩ [] .done))) (.op ⟨none, (.store 5 (.t 4) (.t 108)), none, false⟩ (.op ⟨(some 113), (.mkrow 6 [(.int .i64 0), (.int .i32 0), (.int .u8 0), (.int .u8 0), (.sl 0 [] .nil), (.sl 0 [] .nil)] 1 [(0, (.t 112))]), none, false⟩ (.take ⟨(some 5), (.mov (.t 113)), none, false⟩ [] .done))))))))) 0 [4, 5]) .ret) .skip)) (.seq (.seq (.reg [⟨(some 114), (.faddr 3 (.t 2)), none, false⟩, ⟨(some 115), (.load false 1 (.t 114)), none, false⟩, ⟨(some 116), (.len (.t 115)), none, false⟩, ⟨(some 117), (.bin .geq (.t 116) (.c (.int .i64 2))), none, false⟩] 0 [1, 2, 4, 117]) (.cond (.t 117) (.seq (.reg [⟨(some 118), (.build [(.int .i64 0), (.int .u8 0), (.sl 0 [] .nil), (.sl 0 [] .nil), (.sl 0 [] .nil)] [(0, (1, (.c (.int .i64 3))))]), none, false⟩, ⟨none, (.store 5 (.t 4) (.t 118)), none, false⟩, ⟨(some 5), (.mov (.c (.sl 0 [] .nil))), none, false⟩] 0 [4, 5]) .ret) .skip)) (.seq (.reg [⟨(some 119), (.faddr 3 (.t 2)), none, false⟩, ⟨(some 120), (.load false 1 (.t 119)), none, false⟩, ⟨(some 121), (.mov (.t 1)), none, false⟩, ⟨(some 122), (.call 61 [(.t 120), (.t 121)]), none, false⟩, ⟨(some 123), (.build [(.int .i64 0), (.int .u8 0), (.sl 0 [] .nil), (.sl 0 [] .nil), (.sl 0 [] .nil)] [(0, (1, (.c (.int .i64 2)))), (3, (1, (.t 122)))]), none, false⟩, ⟨none, (.store 5 (.t 4) (.t 123)), none, false⟩, ⟨(some 5), (.mov (.c (.sl 0 [] .nil))), none, false⟩] 0 [4, 5]) .ret))) (.seq (.reg [⟨(some 125), (.bin .eql (.t 66) (.c (.int .i64 3))), none, false⟩, ⟨(some 124), (.mov (.t 125)), none, false⟩] 0 [1, 2, 4, 66, 124]) (.cond (.t 124) (.seq (.seq (.reg [⟨(some 126), (.mov (.t 1)), none, false⟩, ⟨(some 127), (.bin .geq (.t 126) (.c (.int .u8 48))), none, false⟩] 0 [2, 4, 127]) (.cond (.t 127) (.seq (.reg [⟨(some 128), (.build [(.int .i64 0), (.int .u8 0), (.sl 0 [] .nil), (.sl 0 [] .nil), (.sl 0 [] .nil)] []), none, false⟩, ⟨none, (.store 5 (.t 4) (.t 128)), none, false⟩, ⟨(some 5), (.mov (.c (.sl 0 [] .nil))), none, false⟩] 0 [4, 5]) .ret) .skip)) (.seq (.reg [⟨(some 129), (.load true 5 (.t 2)), none, false⟩, ⟨none, (.store 5 (.t 4) (.t 129)), none, false⟩, ⟨(some 5), (.mov (.c (.sl 0 [] .nil))), none, false⟩] 0 [4, 5]) .ret)) (.seq (.reg [⟨(some 131), (.bin .eql (.t 66) (.c (.int .i64 6))), none, false⟩, ⟨(some 130), (.mov (.t 131)), none, false⟩] 0 [1, 2, 4, 130]) (.cond (.t 130) (.seq (.seq (.reg [⟨(some 132), (.mov (.t 1)), none, false⟩, ⟨(some 133), (.bin .geq (.t 132) (.c (.int .u8 64))), none, false⟩] 0 [2, 4, 133]) (.cond (.t 133) (.seq (.reg [⟨(some 134), (.build [(.int .i64 0), (.int .u8 0), (.sl 0 [] .nil), (.sl 0 [] .nil), (.sl 0 [] .nil)] []), none, false⟩, ⟨none, (.store 5 (.t 4) (.t 134)), none, false⟩, ⟨(some 5), (.mov (.c (.sl 0 [] .nil))), none, false⟩] 0 [4, 5]) .ret) .skip)) (.seq (.reg [⟨(some 135), (.load true 5 (.t 2)), none, false⟩, ⟨none, (.store 5 (.t 4) (.t 135)), none, false⟩, ⟨(some 5), (.mov (.c (.sl 0 [] .nil))), none, false⟩] 0 [4, 5]) .ret)) .skip)))))))))) (.seq (.reg [⟨(some 136), (.load true 5 (.t 2)), none, false⟩, ⟨(some 137), (.mov (.t 1)), none, false⟩, ⟨(some 138), (.call 62 [(.t 136), (.t 137)]), none, false⟩, ⟨(some 139), (.ext (.t 138) 0), none, false⟩, ⟨(some 140), (.ext (.t 138) 1), none, false⟩, ⟨none, (.store 5 (.t 4) (.t 139)), none, false⟩, ⟨(some 5), (.mov (.t 140)), none, false⟩] 0 [4, 5]) .ret)))), [(.c 4 true 5), (.t 5)]⟩
theorem rc_rstep7_ok : compFn PG.P [⟨0, 0, [1, 2, 4], []⟩, ⟨1, 0, [1, 2, 4, 8], []⟩, ⟨2, 0, [4, 5], []⟩, ⟨3, 0, [1, 2, 4, 16], []⟩, ⟨4, 0, [4, 5], []⟩, ⟨5, 0, [1, 2, 4, 20], []⟩, ⟨6, 0, [1, 4, 25], []⟩, ⟨7, 0, [4, 5], []⟩, ⟨8, 0, [1, 4, 31], []⟩, ⟨9, 0, [4, 5], []⟩, ⟨10, 0, [4, 6, 7], []⟩, ⟨11, 0, [4, 5], []⟩, ⟨12, 0, [1, 2, 4, 42], []⟩, ⟨13, 0, [2, 4, 47], []⟩, ⟨14, 0, [4, 5], []⟩, ⟨15, 0, [4, 5], []⟩, ⟨16, 0, [1, 2, 4, 50], []⟩, ⟨17, 0, [4, 5], []⟩, ⟨18, 0, [1, 2, 4, 57], []⟩, ⟨19, 0, [4, 5], []⟩, ⟨20, 0, [1, 2, 4, 61], []⟩, ⟨21, 0, [4, 5], []⟩, ⟨22, 0, [1, 2, 4, 66], []⟩, ⟨23, 0, [1, 2, 4, 66, 67], []⟩, ⟨24, 0, [1, 4, 69], []⟩, ⟨25, 0, [4, 5], []⟩, ⟨26, 0, [1, 4, 75], []⟩, ⟨27, 0, [4, 5], []⟩, ⟨28, 0, [1, 4, 79], []⟩, ⟨29, 0, [4, 5], []⟩, ⟨30, 0, [4, 5], []⟩, ⟨31, 0, [1, 2, 4, 66, 103], []⟩, ⟨32, 0, [1, 2, 4, 107], []⟩, ⟨33, 0, [4, 5], []⟩, ⟨34, 0, [1, 2, 4, 117], []⟩, ⟨35, 0, [4, 5], []⟩, ⟨36, 0, [4, 5], []⟩, ⟨37, 0, [1, 2, 4, 66, 124], []⟩, ⟨38, 0, [2, 4, 127], []⟩, ⟨39, 0, [4, 5], []⟩, ⟨40, 0, [4, 5], []⟩, ⟨41, 0, [1, 2, 4, 130], []⟩, ⟨42, 0, [2, 4, 133], []⟩, ⟨43, 0, [4, 5], []⟩, ⟨44, 0, [4, 5], []⟩, ⟨45, 0, [4, 5], []⟩] 48 = some rc_rstep7 := by kernel_rfl
def r7F (p : Pa) (b : Int) : Pa × List Ac :=
  if b = 24 ∨ b = 26 then (pa0 0, [])
  else if b = 27 then (pa0 1, [])
  else if p.m = 0 then (if b < 32 then (pa0 0, [⟨1, 0, b, 0, none, none⟩]) else if b = 127 then (pa0 0, []) else (⟨0, 0, [], [], (rstep [] b).1⟩, (rstep [] b).2.map prF))
  else if p.m = 7 then (if b = 7 then (pa0 0, []) else (p, []))
  else if b < 32 then (p, [⟨1, 0, b, 0, none, none⟩])
  else if b = 127 then (p, [])
  else if 128 ≤ b then (pa0 0, [])
  else if p.m = 1 then vescF b
  else if p.m = 2 then (if vint b = false then (pa0 0, [⟨2, 0, b, 0, none, some p.I⟩]) else if 2 ≤ (p.I.length : Int) then (pa0 3, []) else (⟨2, 0, [], p.I ++ [b], []⟩, []))
  else if p.m = 3 then (if 48 ≤ b then (pa0 0, []) else (p, []))
  else if p.m = 6 then (if 64 ≤ b then (pa0 0, []) else (p, []))
  else rcsiF p b
theorem rstep7_P {p : Pa} {b : Int} (hp : paOk p) (hb : 0 ≤ b ∧ b ≤ 255) : PCalls PG 48 [paD p, .int .u8 b] fun n r os => r = (paF (r7F p b)).1 ∧ os = [] := by
  obtain ⟨m, pr, P, I, U⟩ := p
  have hp0 := hp
  obtain ⟨h1, h2, h3, h4, h5, h6, h7⟩ := hp
  simp only at h1 h2 h3 h4 h5 h6 h7
  refine PCalls.by_fnF (res := fun n => paF (r7F ⟨m, pr, P, I, U⟩ b)) T31_ok rc_rstep7_ok (by simp [rc_rstep7]) fun n => ?_
  unfold rc_rstep7
  dsimp only [paD]
  have e0 : rstep [] b = ustep [] b := rstep_eq (inK_nil _) hb
  have hR0 := ustep_r (inK_nil .u8) hb (by simp)
  have hl0 := ustep_len [] b
  have hK0 : inK .i32 (rstep [] b).2 := by rw [e0]; exact inK_i32 (by omega) fun x hx => by have := hR0 x hx; omega
  have hl1 : (rstep [] b).2.length ≤ 1000 := by rw [e0]; omega
  have ht4 : List.take (rstep [] b).2.length ((rstep [] b).2.map prF) = (rstep [] b).2.map prF := List.take_of_length_le (by simp)
  clear e0 hR0 hl0
  simp -implicitDefEqProofs only [T31_at_csi, T31_at_inter, T31_at_with, T31_at_prints, T31_at_step, List.length_map, Nat.le_refl, F_pb_1, F_rinter_1, F_rwith_1, F_rprints_1, F_rstep_1, paR_eq, isS_sl, isInts_sl, isInts_nil, intsD_nil, intsD_sl, List.length_set, List.take_length, i64w0, acB1, vcB1, vcB2, vcB3, vcA1, vcA2, vcA3, vcA4, vcA5, vcA6, vcA7, ↓vcP1, ↓vcP2, ↓reduceIte, Option.map_some, Option.map_none, Option.bind_some, Option.bind_none, if_true, if_false, reduceCtorEq, beq_true, beq_false, Bool.not_true, Bool.not_false, BEq.rfl, Bool.true_beq, Bool.false_beq, and_true, true_and, and_self, decide_true, decide_false, List.length_cons, List.length_nil, List.all_cons, List.all_nil, Bool.and_true, Bool.and_self, List.getElem?_cons_zero, List.getElem?_cons_succ, List.set_cons_zero, List.set_cons_succ, List.nil_append, List.cons_append, List.append_nil, List.map_cons, List.map_nil, not_true_eq_false, not_false_eq_true, false_implies, true_implies, implies_true, List.take_succ_cons, List.take_zero, List.take_nil, List.drop_succ_cons, List.drop_zero, List.drop_nil, Nat.reduceLT, Nat.reduceLeDiff, Nat.reduceEqDiff, Nat.reduceAdd, Nat.reduceSub, Nat.reduceMul, Int.reduceLT, Int.reduceLE, Int.reduceEq, Int.reduceToNat, Int.reduceAdd, Int.reduceSub, Int.reduceNeg, List.reduceReplicate, List.replicate_zero, List.replicate_succ, ne_eq, List.flatMap_cons, List.flatMap_nil, List.length_replicate, List.length_append, Nat.le_refl, Nat.le_add_right, Nat.add_assoc, List.append_assoc, or_true, true_or, or_false, false_or, and_false, false_and, exists_eq_left, exists_eq_left', Option.some.injEq, DV.int.injEq, DV.bool.injEq, DV.sl.injEq, DV.own.injEq, DV.tup.injEq, List.cons.injEq, Ob.arr.injEq, Ob.box.injEq, Option.map_map, Int.toNat_natCast, Int.toNat_zero, Nat.reducePow, Int.toNat_one, Int.reduceMul, Nat.mul_one, Nat.zero_add, Nat.add_zero, Function.comp_apply, List.map_append, List.map_replicate, Int.cast_ofNat_Int, Nat.left_eq_add, Nat.add_eq_left, Nat.add_left_cancel_iff]
  have hi : isInts .i64 (.sl 1 (intRows .i64 P) .any) := isInts_mk (.inl rfl) h1
  have ht3 : List.take (I.length + 1) (I ++ [b]) = I ++ [b] := List.take_of_length_le (by simp)
  simp only [ht3, ht4]
  clear h7 ht3 ht4
  simp only [cnd_gen]
  (repeat' (first | with_reducible exact Or.inl rfl | intro _ | (with_reducible apply And.intro)))
  all_goals first
    | exact .inl rfl | exact .inr rfl | exact .inr ⟨rfl, trivial⟩
    | trivial
    | assumption
    | omega
    | exact rfl
    | (dsimp only [r7F, vescF]; (repeat (first | rw [if_pos (by first | omega | assumption | exact Or.inl (by assumption) | exact Or.inr (by assumption))] | rw [if_neg (by first | omega | exact Bool.eq_false_iff.1 (by assumption) | exact Bool.eq_true_imp_not_false (by assumption) | assumption)])); first | exact wkT_refl _ | rfl | (simp [paF, paR, paD, pa0, vactF, wkT_tup, wkL_cons, wkL_nil, wkA_agg, wk0_int, wk0_sl, wkA_sl, acRows_nil, intRows_nil]; done))
    | (rename_i hh; exact (h1.2 _ hh).1)
    | (rename_i hh; exact (h1.2 _ hh).2)
    | (rename_i hh; exact (h2.2 _ hh).1)
    | (rename_i hh; exact (h2.2 _ hh).2)
    | (rename_i hh; exact (h3.2 _ hh).1)
    | (rename_i hh; exact (h3.2 _ hh).2)
    | (show List.length _ ≤ _; dsimp only; omega)
    | decide
    | (dsimp only [r7F, vescF]; (repeat (first | rw [if_pos (by first | omega | assumption | exact Or.inl (by assumption) | exact Or.inr (by assumption))] | rw [if_neg (by first | omega | exact Bool.eq_false_iff.1 (by assumption) | exact Bool.eq_true_imp_not_false (by assumption) | assumption)])); (simp [paF, paR, paD, pa0, vactF, digP, wkT_tup, wkL_cons, wkL_nil, wkA_agg, wk0_int, wk0_sl, wkA_sl, acRows_nil, intRows_nil, *]; done))
    | (simp [*]; done)
    | skip
  exact ⟨hp0, by omega, by omega⟩
theorem r7_len (p : Pa) (b : Int) (hp : paOk p) (hb : 0 ≤ b ∧ b ≤ 255) : (r7F p b).2.length ≤ 2 := by
  have e0 : rstep [] b = ustep [] b := rstep_eq (inK_nil _) hb
  have h1 := ustep_len [] b
  unfold r7F vescF rcsiF vactF
  rw [e0]
  simp only [apply_ite Prod.snd, apply_ite List.length, List.length_map, List.length_nil, List.length_cons]
  repeat' (first | apply ite_le2 | exact h1 | omega)
end Go.Proofs.YteemmpghpdaloaaDoor
end
section
/- The document's step. -/
set_option linter.unusedVariables false
set_option linter.unusedSimpArgs false
set_option maxRecDepth 10000
namespace Go.Proofs.YteemmpghpdaloaaDoor
open Go.RowKit

def qP (p : Pa) (b : Int) : Prop := paOk p ∧ 0 ≤ b ∧ b ≤ 255
def F_rstep7 := F_pb r7F qP
theorem rstep7_ok (args : List DV) (s : FSpec) (hs : F_rstep7 args = some s) (hp : s.pre) : PCalls PG 48 args fun n r os => r = (s.res n).1 ∧ os = (s.res n).2 :=
  pb_ok (g := r7F) (q := qP) (fun p b h => rstep7_P h.1 h.2) args s hs hp
def T32 : FL := (48, F_rstep7) :: T31
theorem T32_ok : FOk PG (tab T32) := FOk.cons T31_ok rstep7_ok
theorem T32_at_step7 (args : List DV) : tab T32 48 args = (F_pb r7F qP args).map .o := nrfl _
theorem T32_at_formed (args : List DV) : tab T32 46 args = (F_rformed args).map .o := nrfl _
theorem T32_at_prints (args : List DV) : tab T32 47 args = (F_rprints args).map .o := nrfl _
theorem T32_at_step (args : List DV) : tab T32 18 args = (F_rstep args).map .o := nrfl _
noncomputable def rc_rStep7 : RFn := ⟨2, 75, (.seq (.reg [⟨(some 2), (.box 5 (.t 0)), none, false⟩, ⟨(some 4), (.alloc [(.int .i64 0), (.int .u8 0), (.sl 0 [] .nil), (.sl 0 [] .nil), (.sl 0 [] .nil)]), none, false⟩, ⟨(some 5), (.mov (.c (.sl 0 [] .nil))), none, false⟩] 0 [1, 2, 4]) (.seq (.reg [⟨(some 6), (.mov (.c (.sl 0 [] .nil))), none, false⟩] 0 [1, 2, 4, 6]) (.seq (.seq (.reg [⟨(some 11), (.faddr 0 (.t 2)), none, false⟩, ⟨(some 12), (.load false 1 (.t 11)), none, false⟩, ⟨(some 13), (.bin .eql (.t 12) (.c (.int .i64 0))), none, false⟩, ⟨(some 14), (.mov (.t 13)), none, false⟩, ⟨(some 15), (.faddr 4 (.t 2)), (some (14, true)), false⟩, ⟨(some 16), (.load false 1 (.t 15)), (some (14, true)), false⟩, ⟨(some 17), (.len (.t 16)), (some (14, true)), false⟩, ⟨(some 18), (.bin .gtr (.t 17) (.c (.int .i64 0))), (some (14, true)), false⟩, ⟨(some 19), (.pick (.t 14) (.t 18) (.c (.bool false))), none, false⟩] 0 [1, 2, 4, 6, 19]) (.cond (.t 19) (.seq (.reg [⟨(some 21), (.faddr 4 (.t 2)), none, false⟩, ⟨(some 22), (.load false 1 (.t 21)), none, false⟩, ⟨(some 23), (.mov (.t 1)), none, false⟩, ⟨(some 24), (.call 18 [(.t 22), (.t 23)]), none, false⟩, ⟨(some 20), (.mov (.t 24)), none, false⟩, ⟨(some 25), (.ext (.t 20) 0), none, false⟩, ⟨(some 26), (.ext (.t 20) 1), none, false⟩, ⟨(some 7), (.mov (.t 25)), none, false⟩, ⟨(some 8), (.mov (.t 26)), none, false⟩] 0 [1, 2, 4, 6, 7, 8]) (.seq (.seq (.reg [⟨(some 27), (.mov (.t 1)), none, false⟩, ⟨(some 28), (.bin .geq (.t 27) (.c (.int .u8 128))), none, false⟩, ⟨(some 29), (.mov (.t 28)), none, false⟩, ⟨(some 30), (.mov (.t 8)), (some (29, true)), false⟩, ⟨(some 31), (.len (.t 30)), (some (29, true)), false⟩, ⟨(some 32), (.bin .eql (.t 31) (.c (.int .i64 0))), (some (29, true)), false⟩, ⟨(some 33), (.mov (.t 32)), (some (29, true)), false⟩, ⟨(some 34), (.mov (.t 8)), (some (33, false)), false⟩, ⟨(some 35), (.iaddr 1 (.t 34) (.c (.int .i64 0))), (some (33, false)), false⟩, ⟨(some 36), (.load false 1 (.t 35)), (some (33, false)), false⟩, ⟨(some 37), (.bin .neq (.t 36) (.c (.int .i32 65533))), (some (33, false)), false⟩, ⟨(some 38), (.pick (.t 33) (.c (.bool true)) (.t 37)), (some (29, true)), false⟩, ⟨(some 39), (.mov (.t 38)), (some (29, true)), false⟩, ⟨(some 40), (.mov (.t 8)), (some (39, false)), false⟩, ⟨(some 41), (.len (.t 40)), (some (39, false)), false⟩, ⟨(some 42), (.bin .eql (.t 41) (.c (.int .i64 1))), (some (39, false)), false⟩, ⟨(some 43), (.mov (.t 42)), (some (39, false)), false⟩, ⟨(some 44), (.mov (.t 7)), (some (43, true)), false⟩, ⟨(some 45), (.len (.t 44)), (some (43, true)), false⟩, ⟨(some 46), (.bin .eql (.t 45) (.c (.int .i64 0))), (some (43, true)), false⟩, ⟨(some 47), (.pick (.t 43) (.t 46) (.c (.bool false))), (some (39, false)), false⟩, ⟨(some 48), (.mov (.t 47)), (some (39, false)), false⟩, ⟨(some 49), (.faddr 4 (.t 2)), (some (48, true)), false⟩, ⟨(some 50), (.load false 1 (.t 49)), (some (48, true)), false⟩, ⟨(some 51), (.mov (.t 1)), (some (48, true)), false⟩, ⟨(some 52), (.call 46 [(.t 50), (.t 51)]), (some (48, true)), false⟩, ⟨(some 53), (.pick (.t 48) (.t 52) (.c (.bool false))), (some (39, false)), false⟩, ⟨(some 54), (.pick (.t 39) (.c (.bool true)) (.t 53)), (some (29, true)), false⟩, ⟨(some 55), (.pick (.t 29) (.t 54) (.c (.bool false))), none, false⟩] 0 [1, 2, 4, 6, 7, 8, 55]) (.cond (.t 55) (.seq (.reg [⟨(some 56), (.mov (.t 7)), none, false⟩, ⟨(some 57), (.build [(.int .i64 0), (.int .u8 0), (.sl 0 [] .nil), (.sl 0 [] .nil), (.sl 0 [] .nil)] [(4, (1, (.t 56)))]), none, false⟩, ⟨(some 58), (.mov (.t 8)), none, false⟩, ⟨(some 59), (.call 47 [(.t 58)]), none, false⟩, ⟨none, (.store 5 (.t 4) (.t 57)), none, false⟩, ⟨(some 5), (.mov (.t 59)), none, false⟩] 0 [4, 5]) .ret) .skip)) (.seq (.reg [⟨(some 60), (.mov (.t 6)), none, false⟩, ⟨(some 61), (.build [(.int .i64 0), (.int .i32 0), (.int .u8 0), (.int .u8 0), (.sl 0 [] .nil), (.sl 0 [] .nil)] [(0, (1, (.c (.int .i64 0)))), (1, (1, (.c (.int .i32 65533))))]), none, false⟩, ⟨(some 62), (.mkrow 6 [(.int .i64 0), (.int .i32 0), (.int .u8 0), (.int .u8 0), (.sl 0 [] .nil), (.sl 0 [] .nil)] 1 [(0, (.t 61))]), none, false⟩, ⟨(some 63), (.append 6 64 (.t 60) (.t 62)), none, false⟩, ⟨(some 6), (.mov (.t 63)), none, false⟩] 0 [1, 2, 4, 6]) (.reg [⟨(some 64), (.faddr 4 (.t 2)), none, false⟩, ⟨none, (.store 1 (.t 64) (.c (.sl 0 [] .nil))), none, false⟩] 0 [1, 2, 4, 6])))) .skip)) (.seq (.reg [⟨(some 66), (.load true 5 (.t 2)), none, false⟩, ⟨(some 67), (.mov (.t 1)), none, false⟩, ⟨(some 68), (.call 48 [(.t 66), (.t 67)]), none, false⟩, ⟨(some 65), (.mov (.t 68)), none, false⟩, ⟨(some 69), (.ext (.t 65) 0), none, false⟩, ⟨(some 70), (.ext (.t 65) 1), none, false⟩, ⟨(some 9), (.alloc [(.int .i64 0), (.int .u8 0), (.sl 0 [] .nil), (.sl 0 [] .nil), (.sl 0 [] .nil)]), none, false⟩, ⟨none, (.store 5 (.t 9) (.t 69)), none, false⟩, ⟨(some 10), (.mov (.t 70)), none, false⟩] 0 [4, 6, 9, 10]) (.seq (.regD (.take ⟨(some 72), (.mov (.t 6)), none, false⟩ [] (.take ⟨(some 71), (.load true 5 (.t 9)), none, false⟩ [(.t 72)] (.take ⟨(some 73), (.mov (.t 10)), none, false⟩ [] (.op ⟨(some 74), (.append 6 64 (.t 72) (.t 73)), none, false⟩ (.op ⟨none, (.store 5 (.t 4) (.t 71)), none, false⟩ (.take ⟨(some 5), (.mov (.t 74)), none, false⟩ [] .done)))))) 0 [4, 5]) .ret))))), [(.c 4 true 5), (.t 5)]⟩
theorem rc_rStep7_ok : compFn PG.P [⟨0, 0, [1, 2, 4], []⟩, ⟨1, 0, [1, 2, 4, 6], []⟩, ⟨2, 0, [1, 2, 4, 6, 19], []⟩, ⟨3, 0, [1, 2, 4, 6, 7, 8], []⟩, ⟨4, 0, [1, 2, 4, 6, 7, 8, 55], []⟩, ⟨5, 0, [4, 5], []⟩, ⟨6, 0, [1, 2, 4, 6], []⟩, ⟨7, 0, [1, 2, 4, 6], []⟩, ⟨8, 0, [4, 6, 9, 10], []⟩, ⟨9, 0, [4, 5], []⟩] 31 = some rc_rStep7 := by kernel_rfl
def rkeep (p : Pa) (b : Int) : Prop := 128 ≤ b ∧ ((rstep p.U b).2.length = 0 ∨ (rstep p.U b).2.getD 0 0 ≠ 65533 ∨ ((rstep p.U b).2.length = 1 ∧ (rstep p.U b).1.length = 0 ∧ rformedF p.U b = true))
instance (p : Pa) (b : Int) : Decidable (rkeep p b) := by unfold rkeep; infer_instance
def rstepF (p : Pa) (b : Int) : Pa × List Ac :=
  if p.m = 0 ∧ 0 < p.U.length then
    if rkeep p b then (⟨0, 0, [], [], (rstep p.U b).1⟩, (rstep p.U b).2.map prF)
    else ((r7F { p with U := [] } b).1, prF 65533 :: (r7F { p with U := [] } b).2)
  else r7F p b
theorem rStep7_P {p : Pa} {b : Int} (hp : paOk p) (hb : 0 ≤ b ∧ b ≤ 255) : PCalls PG 31 [paD p, .int .u8 b] fun n r os => r = (paF (rstepF p b)).1 ∧ os = [] := by
  obtain ⟨m, pr, P, I, U⟩ := p
  have hp0 := hp
  obtain ⟨h1, h2, h3, h4, h5, h6, h7⟩ := hp
  simp only at h1 h2 h3 h4 h5 h6 h7
  refine PCalls.by_fnF (res := fun n => paF (rstepF ⟨m, pr, P, I, U⟩ b)) T32_ok rc_rStep7_ok (by simp [rc_rStep7]) fun n => ?_
  unfold rc_rStep7
  dsimp only [paD]
  have e0 : rstep U b = ustep U b := rstep_eq h3 hb
  have hR0 := ustep_r h3 hb (by omega)
  have hl0 := ustep_len U b
  have hK0 : inK .i32 (rstep U b).2 := by rw [e0]; exact inK_i32 (by omega) fun x hx => by have := hR0 x hx; omega
  have hl1 : (rstep U b).2.length ≤ 1000 := by rw [e0]; omega
  have ht4 : List.take (rstep U b).2.length ((rstep U b).2.map prF) = (rstep U b).2.map prF := List.take_of_length_le (by simp)
  have hl2 := r7_len _ b hp0 hb
  have hp1 : paOk ⟨m, pr, P, I, []⟩ := ⟨h1, h2, inK_nil _, h4, h5, by simp, h7⟩
  have hl3 := r7_len _ b hp1 hb
  simp -implicitDefEqProofs only [T32_at_step7, T32_at_formed, T32_at_prints, T32_at_step, List.length_map, Nat.le_refl, F_pb_1, F_rformed_1, F_rprints_1, F_rstep_1, paR_eq, isS_sl, isInts_sl, isInts_nil, intsD_nil, intsD_sl, ints_nil, if_1add, take_1add, List.length_set, List.take_length, i64w0, acB1, vcB1, vcB2, vcB3, vcA1, vcA2, vcA3, vcA4, vcA5, vcA6, vcA7, ↓vcP1, ↓vcP2, ↓reduceIte, Option.map_some, Option.map_none, Option.bind_some, Option.bind_none, if_true, if_false, reduceCtorEq, beq_true, beq_false, Bool.not_true, Bool.not_false, BEq.rfl, Bool.true_beq, Bool.false_beq, and_true, true_and, and_self, decide_true, decide_false, List.length_cons, List.length_nil, List.all_cons, List.all_nil, Bool.and_true, Bool.and_self, List.getElem?_cons_zero, List.getElem?_cons_succ, List.set_cons_zero, List.set_cons_succ, List.nil_append, List.cons_append, List.append_nil, List.map_cons, List.map_nil, not_true_eq_false, not_false_eq_true, false_implies, true_implies, implies_true, List.take_succ_cons, List.take_zero, List.take_nil, List.drop_succ_cons, List.drop_zero, List.drop_nil, Nat.reduceLT, Nat.reduceLeDiff, Nat.reduceEqDiff, Nat.reduceAdd, Nat.reduceSub, Nat.reduceMul, Int.reduceLT, Int.reduceLE, Int.reduceEq, Int.reduceToNat, Int.reduceAdd, Int.reduceSub, Int.reduceNeg, List.reduceReplicate, List.replicate_zero, List.replicate_succ, ne_eq, List.flatMap_cons, List.flatMap_nil, List.length_replicate, List.length_append, Nat.le_refl, Nat.le_add_right, Nat.add_assoc, List.append_assoc, or_true, true_or, or_false, false_or, and_false, false_and, exists_eq_left, exists_eq_left', Option.some.injEq, DV.int.injEq, DV.bool.injEq, DV.sl.injEq, DV.own.injEq, DV.tup.injEq, List.cons.injEq, Ob.arr.injEq, Ob.box.injEq, Option.map_map, Int.toNat_natCast, Int.toNat_zero, Nat.reducePow, Int.toNat_one, Int.reduceMul, Nat.mul_one, Nat.zero_add, Nat.add_zero, Function.comp_apply, List.map_append, List.map_replicate, Int.cast_ofNat_Int, Nat.left_eq_add, Nat.add_eq_left, Nat.add_left_cancel_iff]
  have q1 : qP ⟨m, pr, P, I, U⟩ b := ⟨hp0, hb⟩
  have q2 : qP ⟨m, pr, P, I, []⟩ b := ⟨hp1, hb⟩
  simp only [ht4]
  have fA : m = 0 → 0 < U.length → rkeep ⟨m, pr, P, I, U⟩ b → rstepF ⟨m, pr, P, I, U⟩ b = (⟨0, 0, [], [], (rstep U b).1⟩, (rstep U b).2.map prF) := fun h1 h2 h3 => by
    unfold rstepF; rw [if_pos ⟨h1, h2⟩, if_pos h3]
  have fB : m = 0 → 0 < U.length → ¬ rkeep ⟨m, pr, P, I, U⟩ b → rstepF ⟨m, pr, P, I, U⟩ b = ((r7F ⟨m, pr, P, I, []⟩ b).1, prF 65533 :: (r7F ⟨m, pr, P, I, []⟩ b).2) := fun h1 h2 h3 => by
    unfold rstepF; rw [if_pos ⟨h1, h2⟩, if_neg h3]
  have fC : ¬ (m = 0 ∧ 0 < U.length) → rstepF ⟨m, pr, P, I, U⟩ b = r7F ⟨m, pr, P, I, U⟩ b := fun h1 => by
    unfold rstepF; rw [if_neg h1]
  have hk : rkeep ⟨m, pr, P, I, U⟩ b ↔ (128 ≤ b ∧ ((rstep U b).2.length = 0 ∨ (rstep U b).2.getD 0 0 ≠ 65533 ∨ ((rstep U b).2.length = 1 ∧ (rstep U b).1.length = 0 ∧ rformedF U b = true))) := Iff.rfl
  generalize hX : rstepF ⟨m, pr, P, I, U⟩ b = X at *
  generalize r7F ⟨m, pr, P, I, U⟩ b = X1 at *
  generalize r7F ⟨m, pr, P, I, []⟩ b = X2 at *
  clear h7 hR0 e0 hl0 ht4 hp0 hp1
  cases hfm : rformedF U b <;> simp only [cnd_true, cnd_false] <;> rw [hfm] at hk <;> simp only [Bool.false_eq_true, and_false, or_false, and_true] at hk
  all_goals (repeat' (first | intro _ | (with_reducible apply And.intro)))
  all_goals first
    | assumption
    | omega
    | exact rfl
    | (rw [fA (by omega) (by omega) (hk.2 (by omega))]; simp [paF, paR, paD, wkT_tup, wkL_cons, wkL_nil, wkA_agg, wk0_int, wk0_sl, wkA_sl, acRows_nil, intRows_nil]; done)
    | (rw [fB (by omega) (by omega) (fun h => by have := hk.1 h; omega)]; exact wkT_refl _)
    | (rw [fC (by omega)]; exact wkT_refl _)
end Go.Proofs.YteemmpghpdaloaaDoor
end
