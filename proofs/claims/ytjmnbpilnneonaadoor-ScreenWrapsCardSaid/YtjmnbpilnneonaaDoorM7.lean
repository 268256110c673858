/- Texts P24, P25, P26, P27, P28, P29, P30, P33 in one. -/
import Derived.Test.YtjmnbpilnneonaaDoorM5
import Derived.Test.YtjmnbpilnneonaaDoorM6
set_option linter.unusedVariables false
set_option linter.unusedSimpArgs false
set_option maxRecDepth 10000
namespace Go.Proofs.YtjmnbpilnneonaaDoor
open Go.RowKit
def qB (b : Int) : Prop := 0 ≤ b ∧ b ≤ 255
def qC (b : Int) : Prop := 32 ≤ b ∧ b ≤ 255
def F_vcsi := F_hand vcsiF qC
def F_vcsiI := F_hand vcsiIF qB
def F_vescI := F_hand vescIF qB
def F_vesc := F_hand (fun _ b => vescF b) qB
def F_vground := F_hand vgroundF qB
def T24 : FL := (52, F_vcsi) :: (53, F_vcsiI) :: (50, F_vescI) :: (49, F_vesc) :: (48, F_vground) :: T21
theorem T24_ok : FOk PG (tab T24) :=
  FOk.consH (FOk.consH (FOk.consH (FOk.consH (FOk.consH T21_ok (hand_ok fun p b h1 h2 => vground_H h1 h2)) (hand_ok fun p b h1 h2 => vesc_H h1 h2)) (hand_ok fun p b h1 h2 => vescI_H h1 h2)) (hand_ok fun p b h1 h2 => vcsiI_H h1 h2)) (hand_ok fun p b h1 h2 => vcsi_H h1 h2)
theorem T24_at_csi (args : List DV) : tab T24 52 args = (F_hand vcsiF qC args).map .h := nrfl _
theorem T24_at_csiI (args : List DV) : tab T24 53 args = (F_hand vcsiIF qB args).map .h := nrfl _
theorem T24_at_escI (args : List DV) : tab T24 50 args = (F_hand vescIF qB args).map .h := nrfl _
theorem T24_at_esc (args : List DV) : tab T24 49 args = (F_hand (fun _ b => vescF b) qB args).map .h := nrfl _
theorem T24_at_ground (args : List DV) : tab T24 48 args = (F_hand vgroundF qB args).map .h := nrfl _
theorem T24_at_mode (args : List DV) : tab T24 47 args = (F_vmode args).map .o := nrfl _
theorem T24_at_inter (args : List DV) : tab T24 51 args = (F_vinter args).map .o := nrfl _
theorem paR_eq (x : Pa × List Ac) : paR x = .tup [.agg [.int .i64 x.1.m, .int .u8 x.1.pr, .sl 1 (intRows .i64 x.1.P) .any, .sl 1 (intRows .u8 x.1.I) .any, .sl 1 (intRows .u8 x.1.U) .any], .sl 6 (acRows x.2) .any] := nrfl _
noncomputable def rc_vtake : RFn := ⟨2, 97, .seq (.reg [⟨some 2, .box 5 (.t 0), none, false⟩, ⟨some 4, .alloc [.int .i64 0, .int .u8 0, .sl 0 [] .nil, .sl 0 [] .nil, .sl 0 [] .nil], none, false⟩, ⟨some 5, .mov (.c (.sl 0 [] .nil)), none, false⟩] 0 [1, 2, 4]) (.seq (.blk 0 (.seq (.reg [⟨some 7, .mov (.t 1), none, false⟩, ⟨some 8, .bin .eql (.t 7) (.c (.int .u8 24)), none, false⟩, ⟨some 9, .mov (.t 8), none, false⟩, ⟨some 10, .mov (.t 1), some (9, false), false⟩, ⟨some 11, .bin .eql (.t 10) (.c (.int .u8 26)), some (9, false), false⟩, ⟨some 12, .pick (.t 9) (.c (.bool true)) (.t 11), none, false⟩, ⟨some 6, .mov (.t 12), none, false⟩] 0 [1, 2, 4, 6]) (.cond (.t 6) (.seq (.reg [⟨some 13, .call 47 [.c (.int .i64 0)], none, false⟩, ⟨none, .store 5 (.t 4) (.t 13), none, false⟩, ⟨some 5, .mov (.c (.sl 0 [] .nil)), none, false⟩] 0 [4, 5]) .ret) (.seq (.reg [⟨some 15, .mov (.t 1), none, false⟩, ⟨some 16, .bin .eql (.t 15) (.c (.int .u8 27)), none, false⟩, ⟨some 14, .mov (.t 16), none, false⟩] 0 [1, 2, 4, 14]) (.cond (.t 14) (.seq (.reg [⟨some 17, .call 47 [.c (.int .i64 1)], none, false⟩, ⟨none, .store 5 (.t 4) (.t 17), none, false⟩, ⟨some 5, .mov (.c (.sl 0 [] .nil)), none, false⟩] 0 [4, 5]) .ret) (.seq (.reg [⟨some 19, .faddr 0 (.t 2), none, false⟩, ⟨some 20, .load false 1 (.t 19), none, false⟩, ⟨some 21, .bin .eql (.t 20) (.c (.int .i64 7)), none, false⟩, ⟨some 22, .mov (.t 21), none, false⟩, ⟨some 23, .mov (.t 1), some (22, true), false⟩, ⟨some 24, .bin .eql (.t 23) (.c (.int .u8 7)), some (22, true), false⟩, ⟨some 25, .pick (.t 22) (.t 24) (.c (.bool false)), none, false⟩, ⟨some 18, .mov (.t 25), none, false⟩] 0 [1, 2, 4, 18]) (.cond (.t 18) (.seq (.reg [⟨some 26, .call 47 [.c (.int .i64 0)], none, false⟩, ⟨none, .store 5 (.t 4) (.t 26), none, false⟩, ⟨some 5, .mov (.c (.sl 0 [] .nil)), none, false⟩] 0 [4, 5]) .ret) (.seq (.reg [⟨some 28, .faddr 0 (.t 2), none, false⟩, ⟨some 29, .load false 1 (.t 28), none, false⟩, ⟨some 30, .bin .eql (.t 29) (.c (.int .i64 7)), none, false⟩, ⟨some 31, .mov (.t 30), none, false⟩, ⟨some 32, .mov (.t 1), some (31, false), false⟩, ⟨some 33, .bin .eql (.t 32) (.c (.int .u8 127)), some (31, false), false⟩, ⟨some 34, .pick (.t 31) (.c (.bool true)) (.t 33), none, false⟩, ⟨some 27, .mov (.t 34), none, false⟩] 0 [1, 2, 4, 27]) (.cond (.t 27) (.seq (.reg [⟨some 35, .load true 5 (.t 2), none, false⟩, ⟨none, .store 5 (.t 4) (.t 35), none, false⟩, ⟨some 5, .mov (.c (.sl 0 [] .nil)), none, false⟩] 0 [4, 5]) .ret) (.seq (.reg [⟨some 37, .mov (.t 1), none, false⟩, ⟨some 38, .bin .lss (.t 37) (.c (.int .u8 32)), none, false⟩, ⟨some 36, .mov (.t 38), none, false⟩] 0 [1, 2, 4, 36]) (.cond (.t 36) (.seq (.reg [⟨some 39, .load true 5 (.t 2), none, false⟩, ⟨some 40, .mov (.t 1), none, false⟩, ⟨some 41, .build [.int .i64 0, .int .i32 0, .int .u8 0, .int .u8 0, .sl 0 [] .nil, .sl 0 [] .nil] [(0, (1, (.c (.int .i64 1)))), (2, (1, (.t 40)))], none, false⟩, ⟨some 42, .mkrow 6 [.int .i64 0, .int .i32 0, .int .u8 0, .int .u8 0, .sl 0 [] .nil, .sl 0 [] .nil] 1 [(0, (.t 41))], none, false⟩, ⟨none, .store 5 (.t 4) (.t 39), none, false⟩, ⟨some 5, .mov (.t 42), none, false⟩] 0 [4, 5]) .ret) (.seq (.reg [⟨some 44, .faddr 0 (.t 2), none, false⟩, ⟨some 45, .load false 1 (.t 44), none, false⟩, ⟨some 46, .bin .eql (.t 45) (.c (.int .i64 0)), none, false⟩, ⟨some 43, .mov (.t 46), none, false⟩] 0 [1, 2, 4, 43]) (.cond (.t 43) (.seq (.reg [⟨some 47, .load true 5 (.t 2), none, false⟩, ⟨some 48, .mov (.t 1), none, false⟩, ⟨some 49, .call 48 [.t 47, .t 48], none, false⟩, ⟨some 50, .ext (.t 49) 0, none, false⟩, ⟨some 51, .ext (.t 49) 1, none, false⟩, ⟨none, .store 5 (.t 4) (.t 50), none, false⟩, ⟨some 5, .mov (.t 51), none, false⟩] 0 [4, 5]) .ret) (.seq (.reg [⟨some 53, .mov (.t 1), none, false⟩, ⟨some 54, .bin .geq (.t 53) (.c (.int .u8 128)), none, false⟩, ⟨some 52, .mov (.t 54), none, false⟩] 0 [1, 2, 4, 52]) (.cond (.t 52) (.seq (.reg [⟨some 55, .call 47 [.c (.int .i64 0)], none, false⟩, ⟨none, .store 5 (.t 4) (.t 55), none, false⟩, ⟨some 5, .mov (.c (.sl 0 [] .nil)), none, false⟩] 0 [4, 5]) .ret) .skip))))))))))))))) (.seq (.seq (.reg [⟨some 56, .faddr 0 (.t 2), none, false⟩, ⟨some 57, .load false 1 (.t 56), none, false⟩] 0 [1, 2, 4, 57]) (.blk 1 (.seq (.reg [⟨some 59, .bin .eql (.t 57) (.c (.int .i64 1)), none, false⟩, ⟨some 58, .mov (.t 59), none, false⟩] 0 [1, 2, 4, 57, 58]) (.cond (.t 58) (.seq (.reg [⟨some 60, .load true 5 (.t 2), none, false⟩, ⟨some 61, .mov (.t 1), none, false⟩, ⟨some 62, .call 49 [.t 60, .t 61], none, false⟩, ⟨some 63, .ext (.t 62) 0, none, false⟩, ⟨some 64, .ext (.t 62) 1, none, false⟩, ⟨none, .store 5 (.t 4) (.t 63), none, false⟩, ⟨some 5, .mov (.t 64), none, false⟩] 0 [4, 5]) .ret) (.seq (.reg [⟨some 66, .bin .eql (.t 57) (.c (.int .i64 2)), none, false⟩, ⟨some 65, .mov (.t 66), none, false⟩] 0 [1, 2, 4, 57, 65]) (.cond (.t 65) (.seq (.reg [⟨some 67, .load true 5 (.t 2), none, false⟩, ⟨some 68, .mov (.t 1), none, false⟩, ⟨some 69, .call 50 [.t 67, .t 68], none, false⟩, ⟨some 70, .ext (.t 69) 0, none, false⟩, ⟨some 71, .ext (.t 69) 1, none, false⟩, ⟨none, .store 5 (.t 4) (.t 70), none, false⟩, ⟨some 5, .mov (.t 71), none, false⟩] 0 [4, 5]) .ret) (.seq (.reg [⟨some 73, .bin .eql (.t 57) (.c (.int .i64 3)), none, false⟩, ⟨some 72, .mov (.t 73), none, false⟩] 0 [1, 2, 4, 57, 72]) (.cond (.t 72) (.seq (.seq (.reg [⟨some 74, .mov (.t 1), none, false⟩, ⟨some 75, .call 51 [.t 74], none, false⟩, ⟨some 76, .un .not (.t 75), none, false⟩] 0 [2, 4, 76]) (.cond (.t 76) (.reg [⟨some 77, .call 47 [.c (.int .i64 0)], none, false⟩, ⟨none, .store 5 (.t 2) (.t 77), none, false⟩] 0 [2, 4]) .skip)) (.seq (.reg [⟨some 78, .load true 5 (.t 2), none, false⟩, ⟨none, .store 5 (.t 4) (.t 78), none, false⟩, ⟨some 5, .mov (.c (.sl 0 [] .nil)), none, false⟩] 0 [4, 5]) .ret)) (.seq (.reg [⟨some 80, .bin .eql (.t 57) (.c (.int .i64 4)), none, false⟩, ⟨some 79, .mov (.t 80), none, false⟩] 0 [1, 2, 4, 57, 79]) (.cond (.t 79) (.seq (.reg [⟨some 81, .load true 5 (.t 2), none, false⟩, ⟨some 82, .mov (.t 1), none, false⟩, ⟨some 83, .call 52 [.t 81, .t 82], none, false⟩, ⟨some 84, .ext (.t 83) 0, none, false⟩, ⟨some 85, .ext (.t 83) 1, none, false⟩, ⟨none, .store 5 (.t 4) (.t 84), none, false⟩, ⟨some 5, .mov (.t 85), none, false⟩] 0 [4, 5]) .ret) (.seq (.reg [⟨some 87, .bin .eql (.t 57) (.c (.int .i64 5)), none, false⟩, ⟨some 86, .mov (.t 87), none, false⟩] 0 [1, 2, 4, 86]) (.cond (.t 86) (.seq (.reg [⟨some 88, .load true 5 (.t 2), none, false⟩, ⟨some 89, .mov (.t 1), none, false⟩, ⟨some 90, .call 53 [.t 88, .t 89], none, false⟩, ⟨some 91, .ext (.t 90) 0, none, false⟩, ⟨some 92, .ext (.t 90) 1, none, false⟩, ⟨none, .store 5 (.t 4) (.t 91), none, false⟩, ⟨some 5, .mov (.t 92), none, false⟩] 0 [4, 5]) .ret) .skip)))))))))))) (.seq (.seq (.reg [⟨some 93, .mov (.t 1), none, false⟩, ⟨some 94, .bin .geq (.t 93) (.c (.int .u8 64)), none, false⟩] 0 [2, 4, 94]) (.cond (.t 94) (.reg [⟨some 95, .call 47 [.c (.int .i64 0)], none, false⟩, ⟨none, .store 5 (.t 2) (.t 95), none, false⟩] 0 [2, 4]) .skip)) (.seq (.reg [⟨some 96, .load true 5 (.t 2), none, false⟩, ⟨none, .store 5 (.t 4) (.t 96), none, false⟩, ⟨some 5, .mov (.c (.sl 0 [] .nil)), none, false⟩] 0 [4, 5]) .ret)))), [.c 4 true 5, .t 5]⟩
theorem rc_vtake_ok : compFn PG.P [⟨0, 0, [1, 2, 4], []⟩, ⟨1, 0, [1, 2, 4, 6], []⟩, ⟨2, 0, [4, 5], []⟩, ⟨3, 0, [1, 2, 4, 14], []⟩, ⟨4, 0, [4, 5], []⟩, ⟨5, 0, [1, 2, 4, 18], []⟩, ⟨6, 0, [4, 5], []⟩, ⟨7, 0, [1, 2, 4, 27], []⟩, ⟨8, 0, [4, 5], []⟩, ⟨9, 0, [1, 2, 4, 36], []⟩, ⟨10, 0, [4, 5], []⟩, ⟨11, 0, [1, 2, 4, 43], []⟩, ⟨12, 0, [4, 5], []⟩, ⟨13, 0, [1, 2, 4, 52], []⟩, ⟨14, 0, [4, 5], []⟩, ⟨15, 0, [1, 2, 4, 57], []⟩, ⟨16, 0, [1, 2, 4, 57, 58], []⟩, ⟨17, 0, [4, 5], []⟩, ⟨18, 0, [1, 2, 4, 57, 65], []⟩, ⟨19, 0, [4, 5], []⟩, ⟨20, 0, [1, 2, 4, 57, 72], []⟩, ⟨21, 0, [2, 4, 76], []⟩, ⟨22, 0, [2, 4], []⟩, ⟨23, 0, [4, 5], []⟩, ⟨24, 0, [1, 2, 4, 57, 79], []⟩, ⟨25, 0, [4, 5], []⟩, ⟨26, 0, [1, 2, 4, 86], []⟩, ⟨27, 0, [4, 5], []⟩, ⟨28, 0, [2, 4, 94], []⟩, ⟨29, 0, [2, 4], []⟩, ⟨30, 0, [4, 5], []⟩] 30 = some rc_vtake := by kernel_rfl
def vtakeF (p : Pa) (b : Int) : Pa × List Ac :=
  if b = 24 ∨ b = 26 then (pa0 0, [])
  else if b = 27 then (pa0 1, [])
  else if p.m = 7 ∧ b = 7 then (pa0 0, [])
  else if p.m = 7 ∨ b = 127 then (p, [])
  else if b < 32 then (p, [⟨1, 0, b, 0, none, none⟩])
  else if p.m = 0 then vgroundF p b
  else if 128 ≤ b then (pa0 0, [])
  else if p.m = 1 then vescF b
  else if p.m = 2 then vescIF p b
  else if p.m = 3 then (if vint b = true then p else pa0 0, [])
  else if p.m = 4 then vcsiF p b
  else if p.m = 5 then vcsiIF p b
  else (if 64 ≤ b then pa0 0 else p, [])
set_option maxHeartbeats 4000000 in
theorem vtake_H {p : Pa} {b : Int} (hp : paOk p) (hb : 0 ≤ b ∧ b ≤ 255) : HCalls PG 30 (paH p b) (paObs p) (fun n => paF (vtakeF p b)) := by
  obtain ⟨m, pr, P, I, U⟩ := p
  have hp0 := hp
  obtain ⟨h1, h2, h3, h4, h5, h6, h7⟩ := hp
  simp only at h1 h2 h3 h4 h5 h6 h7
  refine HCalls.by_fnF T24_ok rc_vtake_ok (fun n => by simp [rc_vtake, paH]) fun n => ?_
  unfold rc_vtake
  dsimp only [paH, paObs]
  simp -implicitDefEqProofs -dsimp only [T24_at_csi, T24_at_csiI, T24_at_escI, T24_at_esc, T24_at_ground, T24_at_mode, T24_at_inter, F_hand_1, F_vmode_1, F_vinter_1, paR_eq, isS_sl, ints_intRows, List.length_set, List.take_length, acB1, vcB1, vcB2, vcB3, vcR, ↓vcP1, ↓vcP2, ↓reduceIte, if_true, if_false, reduceCtorEq, implies_true, Nat.reduceLT, Nat.reduceLeDiff, Nat.reduceEqDiff, Nat.reduceAdd, Nat.reduceSub, Nat.reduceMul, Int.reduceLT, Int.reduceLE, Int.reduceEq, Int.reduceToNat, Int.reduceAdd, Int.reduceSub, Int.reduceNeg, List.reduceReplicate, ne_eq, exists_eq_left, exists_eq_left', Nat.reducePow, Int.reduceMul, Function.comp_apply]
  clear h7
  simp only [cnd_gen]
  (repeat' (first | with_reducible exact Or.inl rfl | intro _ | (apply And.intro)))
  all_goals first
    | exact .inl rfl | exact .inr rfl | exact .inr ⟨rfl, trivial⟩
    | trivial
    | assumption
    | omega
    | exact rfl
    | exact hb
    | (show 32 ≤ b ∧ b ≤ 255; omega)
    | (dsimp only [vtakeF]; simp (disch := omega) only [if_pos, if_neg]; done)
    | (dsimp only [vtakeF]; (repeat (first | rw [if_pos (by omega)] | rw [if_neg (by omega)])); first | exact wkT_refl _ | rfl | (simp [paF, paR, paD, pa0, wkT_tup, wkL_cons, wkL_nil, wkA_agg, wk0_int, wk0_sl, wkA_sl, acRows_nil, intRows_nil]; done))
    | (rename_i hh; exact (hp0.2.2.2.2.2.2 _ hh).1)
    | (rename_i hh; exact (hp0.2.2.2.2.2.2 _ hh).2)
    | (rename_i hh; exact (h1.2 _ hh).1)
    | (rename_i hh; exact (h1.2 _ hh).2)
    | (rename_i hh; exact (h2.2 _ hh).1)
    | (rename_i hh; exact (h2.2 _ hh).2)
    | (rename_i hh; exact (h3.2 _ hh).1)
    | (rename_i hh; exact (h3.2 _ hh).2)
    | (show List.length _ ≤ _; dsimp only; omega)
    | (dsimp only [vtakeF]; (repeat (first | rw [if_pos (by omega)] | rw [if_neg (by omega)])); rw [if_neg (by simp [*])]; simp [pa0, wk0_int, intRows_nil]; done)
def F_vcopied : List DV → Option FSpec
  | [.agg [.int .i64 m, .int .u8 pr, p, i, u]] => some ⟨isInts .i64 p ∧ isInts .u8 i ∧ isInts .u8 u ∧ ((intsD p).length ≤ 1000000 ∧ (intsD i).length ≤ 1000000 ∧ (intsD u).length ≤ 1000000), fun n => (.agg [.int .i64 m, .int .u8 pr, .own n 0 (intsD p).length, .own (n + 1) 0 (intsD i).length, .sl 1 (intRows .u8 (intsD u)) .any], [some (.arr 1 (intRows .i64 (intsD p))), some (.arr 1 (intRows .u8 (intsD i)))])⟩
  | _ => none
theorem F_vcopied_1 (m pr : Int) (p i u : DV) : F_vcopied [.agg [.int .i64 m, .int .u8 pr, p, i, u]] = some ⟨isInts .i64 p ∧ isInts .u8 i ∧ isInts .u8 u ∧ ((intsD p).length ≤ 1000000 ∧ (intsD i).length ≤ 1000000 ∧ (intsD u).length ≤ 1000000), fun n => (.agg [.int .i64 m, .int .u8 pr, .own n 0 (intsD p).length, .own (n + 1) 0 (intsD i).length, .sl 1 (intRows .u8 (intsD u)) .any], [some (.arr 1 (intRows .i64 (intsD p))), some (.arr 1 (intRows .u8 (intsD i)))])⟩ := nrfl _
theorem fvcopied_ok (args : List DV) (s : FSpec) (hs : F_vcopied args = some s) (hp : s.pre) : PCalls PG 28 args fun n r os => r = (s.res n).1 ∧ os = (s.res n).2 := by
  unfold F_vcopied at hs
  split at hs
  · obtain rfl := sj hs
    obtain ⟨h1, h2, h3, h4⟩ := hp
    exact vcopied_P h1 h2 h3 h4
  · cases hs
theorem GCalls.wk {E : Prg} {f : Nat} {a b : List DV} {T : Objs} {R : DV → Objs → Prop} (h : GCalls E f b T R) (hw : wkL wkT a b) : GCalls E f a T R := by
  obtain ⟨hl, hg⟩ := wkL_get hw
  exact fun G w vs h1 h2 h3 h4 => h G w vs h1 h2 (h3.trans hl) fun i d hd => let ⟨c, hc, hx⟩ := hg i d hd; wkT_rel hx (h4 i c hc)
theorem HCalls.wk {E : Prg} {f : Nat} {a b : Nat → List DV} {obs : List Ob} {res : Nat → DV × Objs} (h : HCalls E f b obs res) (hw : ∀ n, wkL wkT (a n) (b n)) : HCalls E f a obs res := fun n => (h n).wk (hw n)
def F_handN (g : Pa → Int → Pa × List Ac) (q : Int → Prop) : List DV → Option HSpec
  | [.agg [.int .i64 m, .int .u8 pr, .own o1 f1 n1, .own o2 f2 n2, u], .int .u8 b] => some ⟨fun T => ¬ o1 = o2 ∧ f1 = 0 ∧ f2 = 0 ∧ isOwn .i64 n1 T[o1]? ∧ isOwn .u8 n2 T[o2]? ∧ isInts .u8 u ∧ paOk ⟨m, pr, objInts T[o1]?, objInts T[o2]?, intsD u⟩ ∧ q b,
      fun T => (paR (g ⟨m, pr, objInts T[o1]?, objInts T[o2]?, intsD u⟩ b), killL [o1, o2] T ++ [none, none])⟩
  | _ => none
theorem F_handN_1 (g : Pa → Int → Pa × List Ac) (q : Int → Prop) (m pr b : Int) (o1 f1 n1 o2 f2 n2 : Nat) (u : DV) : F_handN g q [.agg [.int .i64 m, .int .u8 pr, .own o1 f1 n1, .own o2 f2 n2, u], .int .u8 b] =
    some ⟨fun T => ¬ o1 = o2 ∧ f1 = 0 ∧ f2 = 0 ∧ isOwn .i64 n1 T[o1]? ∧ isOwn .u8 n2 T[o2]? ∧ isInts .u8 u ∧ paOk ⟨m, pr, objInts T[o1]?, objInts T[o2]?, intsD u⟩ ∧ q b,
      fun T => (paR (g ⟨m, pr, objInts T[o1]?, objInts T[o2]?, intsD u⟩ b), killL [o1, o2] T ++ [none, none])⟩ := nrfl _
theorem handN_ok {f : Nat} {g : Pa → Int → Pa × List Ac} {q : Int → Prop} (h : ∀ p b, paOk p → q b → HCalls PG f (paH p b) (paObs p) (fun n => paF (g p b))) (args : List DV) (s : HSpec) (hs : F_handN g q args = some s) : HOk PG f args s := by
  unfold F_handN at hs
  split at hs
  · rename_i m pr o1 f1 n1 o2 f2 n2 u b
    obtain rfl := sj hs
    intro T K ⟨p1, p2, p3, p4, p5, p6, p7, p8⟩ hK
    subst p2 p3
    obtain ⟨e1, l1, k1⟩ := isOwn_inv p4
    obtain ⟨e2, l2, k2⟩ := isOwn_inv p5
    obtain ⟨sz, k, e3, k3, k4⟩ := isInts_inv p6
    have hc : HCalls PG f (fun n => [.agg [.int .i64 m, .int .u8 pr, .own n 0 (objInts T[o1]?).length, .own (n + 1) 0 (objInts T[o2]?).length, .sl sz (intRows .u8 (intsD u)) k], .int .u8 b]) (paObs ⟨m, pr, objInts T[o1]?, objInts T[o2]?, intsD u⟩) (fun n => paF (g ⟨m, pr, objInts T[o1]?, objInts T[o2]?, intsD u⟩ b)) := by
      refine (h _ b p7 p8).wk fun n => ?_
      simp only [paH, wkL, wkT, wkA, wk0]
      refine ⟨⟨trivial, trivial, trivial, trivial, ⟨trivial, .inl trivial, ?_⟩, trivial⟩, trivial, trivial⟩
      rcases k3 with rfl | k3
      · exact .inl rfl
      · exact .inr (by simp [k3, intRows])
    refine CallK.hand [o1, o2] _ (by simp [p1]) rfl (fun i o ob ho hob => ?_) (fun d hd o ho => ?_) ?_ hc (by simpa [paF] using hK)
    · rcases i with _ | _ | i
      · simp [paObs] at ho hob; subst ho hob; exact e1
      · simp [paObs] at ho hob; subst ho hob; exact e2
      · simp at ho
    · simp only [List.mem_cons, List.not_mem_nil, or_false] at hd
      rcases hd with rfl | rfl
      · rw [e3] at ho
        simp [idsT, idsA, ids0] at ho
        simp; exact ho
      · simp [idsT, idsA, ids0] at ho
    · simp only [List.map_cons, List.map_nil, canT, canA, can0, pos, l1, l2]
      rw [e3]
      simp [canT, canA, can0, pos, p1, intsD_sl]
  · cases hs
theorem if_1add {α : Sort _} (n : Nat) (a b : α) : (if 1 + n ≤ n + 1 then a else b) = a := if_pos (by omega)
theorem take_1add {α : Type} (l : List α) (a : α) : List.take (1 + l.length) (a :: l) = a :: l := List.take_of_length_le (by simp; omega)
def F_vtake := F_handN vtakeF qB
def T25 : FL := (30, F_vtake) :: (28, F_vcopied) :: T24
theorem T25_ok : FOk PG (tab T25) :=
  FOk.consH (FOk.cons T24_ok fvcopied_ok) (handN_ok fun p b h1 h2 => vtake_H h1 h2)
theorem T25_at_take (args : List DV) : tab T25 30 args = (F_handN vtakeF qB args).map .h := nrfl _
theorem T25_at_copied (args : List DV) : tab T25 28 args = (F_vcopied args).map .o := nrfl _
theorem T25_at_ustep (args : List DV) : tab T25 29 args = (F_step args).map .o := nrfl _
def vcut (p : Pa) (b : Int) : Bool := decide (p.m = 0) && decide (0 < p.U.length) && (decide (1 < (ustep p.U b).2.length) || (decide ((ustep p.U b).2.length = 1) && decide (0 < (ustep p.U b).1.length)))
def vstepF (p : Pa) (b : Int) : Pa × List Ac :=
  if vcut p b = true then ((vtakeF { p with U := [] } b).1, ⟨0, 65533, 0, 0, none, none⟩ :: (vtakeF { p with U := [] } b).2)
  else vtakeF p b
theorem ite_le2 {c : Prop} [Decidable c] {a b n : Nat} (h1 : a ≤ n) (h2 : b ≤ n) : (if c then a else b) ≤ n := by split <;> assumption
theorem vtake_len (p : Pa) (b : Int) : (vtakeF p b).2.length ≤ 2 := by
  have h1 := ustep_len p.U b
  unfold vtakeF vgroundF vescF vescIF vcsiF vcsiIF vactF
  simp only [apply_ite Prod.snd, apply_ite List.length, List.length_map, List.length_nil, List.length_cons]
  repeat' (first | apply ite_le2 | exact h1 | omega)
noncomputable def rc_vstep : RFn := ⟨2, 54, .seq (.reg [⟨some 2, .box 5 (.t 0), none, false⟩, ⟨some 4, .alloc [.int .i64 0, .int .u8 0, .sl 0 [] .nil, .sl 0 [] .nil, .sl 0 [] .nil], none, false⟩, ⟨some 5, .mov (.c (.sl 0 [] .nil)), none, false⟩] 0 [1, 2, 4]) (.seq (.reg [⟨some 10, .load true 5 (.t 2), none, false⟩, ⟨some 11, .call 28 [.t 10], none, false⟩, ⟨none, .store 5 (.t 2) (.t 11), none, false⟩] 0 [1, 2, 4]) (.seq (.reg [⟨some 6, .mov (.c (.sl 0 [] .nil)), none, false⟩] 0 [1, 2, 4, 6]) (.seq (.seq (.reg [⟨some 12, .faddr 0 (.t 2), none, false⟩, ⟨some 13, .load false 1 (.t 12), none, false⟩, ⟨some 14, .bin .eql (.t 13) (.c (.int .i64 0)), none, false⟩, ⟨some 15, .mov (.t 14), none, false⟩, ⟨some 16, .faddr 4 (.t 2), some (15, true), false⟩, ⟨some 17, .load false 1 (.t 16), some (15, true), false⟩, ⟨some 18, .len (.t 17), some (15, true), false⟩, ⟨some 19, .bin .gtr (.t 18) (.c (.int .i64 0)), some (15, true), false⟩, ⟨some 20, .pick (.t 15) (.t 19) (.c (.bool false)), none, false⟩] 0 [1, 2, 4, 6, 20]) (.cond (.t 20) (.seq (.reg [⟨some 22, .faddr 4 (.t 2), none, false⟩, ⟨some 23, .load false 1 (.t 22), none, false⟩, ⟨some 24, .mov (.t 1), none, false⟩, ⟨some 25, .call 29 [.t 23, .t 24], none, false⟩, ⟨some 21, .mov (.t 25), none, false⟩, ⟨some 26, .ext (.t 21) 0, none, false⟩, ⟨some 27, .ext (.t 21) 1, none, false⟩, ⟨some 7, .mov (.t 26), none, false⟩, ⟨some 8, .mov (.t 27), none, false⟩] 0 [1, 2, 4, 6, 7, 8]) (.seq (.reg [⟨some 28, .mov (.t 8), none, false⟩, ⟨some 29, .len (.t 28), none, false⟩, ⟨some 30, .bin .gtr (.t 29) (.c (.int .i64 1)), none, false⟩, ⟨some 31, .mov (.t 30), none, false⟩, ⟨some 32, .mov (.t 8), some (31, false), false⟩, ⟨some 33, .len (.t 32), some (31, false), false⟩, ⟨some 34, .bin .eql (.t 33) (.c (.int .i64 1)), some (31, false), false⟩, ⟨some 35, .mov (.t 34), some (31, false), false⟩, ⟨some 36, .mov (.t 7), some (35, true), false⟩, ⟨some 37, .len (.t 36), some (35, true), false⟩, ⟨some 38, .bin .gtr (.t 37) (.c (.int .i64 0)), some (35, true), false⟩, ⟨some 39, .pick (.t 35) (.t 38) (.c (.bool false)), some (31, false), false⟩, ⟨some 40, .pick (.t 31) (.c (.bool true)) (.t 39), none, false⟩] 0 [1, 2, 4, 6, 40]) (.cond (.t 40) (.reg [⟨some 41, .build [.int .i64 0, .int .i32 0, .int .u8 0, .int .u8 0, .sl 0 [] .nil, .sl 0 [] .nil] [(0, (1, (.c (.int .i64 0)))), (1, (1, (.c (.int .i32 65533))))], none, false⟩, ⟨some 42, .mkrow 6 [.int .i64 0, .int .i32 0, .int .u8 0, .int .u8 0, .sl 0 [] .nil, .sl 0 [] .nil] 1 [(0, (.t 41))], none, false⟩, ⟨some 6, .mov (.t 42), none, false⟩, ⟨some 43, .faddr 4 (.t 2), none, false⟩, ⟨none, .store 1 (.t 43) (.c (.sl 0 [] .nil)), none, false⟩] 0 [1, 2, 4, 6]) .skip))) .skip)) (.seq (.reg [⟨some 45, .load true 5 (.t 2), none, false⟩, ⟨some 46, .mov (.t 1), none, false⟩, ⟨some 47, .call 30 [.t 45, .t 46], none, false⟩, ⟨some 44, .mov (.t 47), none, false⟩, ⟨some 48, .ext (.t 44) 0, none, false⟩, ⟨some 49, .ext (.t 44) 1, none, false⟩, ⟨none, .store 5 (.t 2) (.t 48), none, false⟩, ⟨some 9, .mov (.t 49), none, false⟩] 0 [2, 4, 6, 9]) (.seq (.regD (.take ⟨some 51, .mov (.t 6), none, false⟩ [] (.take ⟨some 50, .load true 5 (.t 2), none, false⟩ [.t 51] (.take ⟨some 52, .mov (.t 9), none, false⟩ [] (.op ⟨some 53, .append 6 64 (.t 51) (.t 52), none, false⟩ (.op ⟨none, .store 5 (.t 4) (.t 50), none, false⟩ (.take ⟨some 5, .mov (.t 53), none, false⟩ [] .done)))))) 0 [4, 5]) .ret))))), [.c 4 true 5, .t 5]⟩
theorem rc_vstep_ok : compFn PG.P [⟨0, 0, [1, 2, 4], []⟩, ⟨1, 0, [1, 2, 4], []⟩, ⟨2, 0, [1, 2, 4, 6], []⟩, ⟨3, 0, [1, 2, 4, 6, 20], []⟩, ⟨4, 0, [1, 2, 4, 6, 7, 8], []⟩, ⟨5, 0, [1, 2, 4, 6, 40], []⟩, ⟨6, 0, [1, 2, 4, 6], []⟩, ⟨7, 0, [2, 4, 6, 9], []⟩, ⟨8, 0, [4, 5], []⟩] 15 = some rc_vstep := by kernel_rfl
theorem vstep_P {m pr b : Int} {p i u : DV} (hp : isInts .i64 p) (hi : isInts .u8 i) (hu : isInts .u8 u) (ho : paOk ⟨m, pr, intsD p, intsD i, intsD u⟩) (hb : 0 ≤ b ∧ b ≤ 255) :
    PCalls PG 15 [.agg [.int .i64 m, .int .u8 pr, p, i, u], .int .u8 b] fun n r os => r = (paF (vstepF ⟨m, pr, intsD p, intsD i, intsD u⟩ b)).1 ∧ os = [] := by
  obtain ⟨s1, k1, e1, h1, g1⟩ := isInts_inv hp
  obtain ⟨s2, k2, e2, h2, g2⟩ := isInts_inv hi
  obtain ⟨s3, k3, e3, h3, g3⟩ := isInts_inv hu
  rw [e1, e2, e3]
  simp only [intsD_sl]
  generalize intsD p = P at *
  generalize intsD i = I at *
  generalize intsD u = U at *
  have ⟨j1, j2, j3, j4, j5, j6, j7⟩ := ho
  simp only at j1 j2 j3 j4 j5 j6 j7
  refine PCalls.by_fnF (res := fun n => paF (vstepF ⟨m, pr, P, I, U⟩ b)) T25_ok rc_vstep_ok (by simp [rc_vstep]) fun n => ?_
  unfold rc_vstep
  dsimp only
  have e1 : isInts .i64 (.sl s1 (intRows .i64 P) k1) := isInts_mk h1 g1
  have e2 : isInts .u8 (.sl s2 (intRows .u8 I) k2) := isInts_mk h2 g2
  have e3 : isInts .u8 (.sl s3 (intRows .u8 U) k3) := isInts_mk h3 g3
  clear j7
  simp -implicitDefEqProofs -dsimp only [T25_at_take, T25_at_copied, T25_at_ustep, F_handN_1, if_1add, take_1add, F_vcopied_1, F_step_1, e1, e2, e3, paR_eq, isS_sl, intsD_sl, ints_intRows, List.length_set, List.take_length, acB1, vcB1, vcB2, vcB3, vcR, ↓vcP1, ↓vcP2, ↓reduceIte, if_true, if_false, reduceCtorEq, implies_true, Nat.reduceLT, Nat.reduceLeDiff, Nat.reduceEqDiff, Nat.reduceAdd, Nat.reduceSub, Nat.reduceMul, Int.reduceLT, Int.reduceLE, Int.reduceEq, Int.reduceToNat, Int.reduceAdd, Int.reduceSub, Int.reduceNeg, List.reduceReplicate, ne_eq, exists_eq_left, exists_eq_left', Nat.reducePow, Int.reduceMul, Function.comp_apply]
  have q1 := vtake_len ⟨m, pr, P, I, U⟩ b
  have q2 := vtake_len ⟨m, pr, P, I, []⟩ b
  have o1 : paOk ⟨m, pr, P, I, U⟩ := ho
  have o2 : paOk ⟨m, pr, P, I, []⟩ := ⟨j1, j2, inK_nil _, j4, j5, by simp, ho.2.2.2.2.2.2⟩
  have c1 : vcut ⟨m, pr, P, I, U⟩ b = true → vstepF ⟨m, pr, P, I, U⟩ b = ((vtakeF ⟨m, pr, P, I, []⟩ b).1, ⟨0, 65533, 0, 0, none, none⟩ :: (vtakeF ⟨m, pr, P, I, []⟩ b).2) := fun h => by simp [vstepF, h]
  have c2 : vcut ⟨m, pr, P, I, U⟩ b = false → vstepF ⟨m, pr, P, I, U⟩ b = vtakeF ⟨m, pr, P, I, U⟩ b := fun h => by simp [vstepF, h]
  have k1 : ∀ x : Pa × List Ac, x = vstepF ⟨m, pr, P, I, U⟩ b → wkT (paR x) (paF (vstepF ⟨m, pr, P, I, U⟩ b)).1 ∧ [] = (paF (vstepF ⟨m, pr, P, I, U⟩ b)).2 := fun x h => by
    subst h; exact ⟨wkT_refl _, rfl⟩
  have hd : vcut ⟨m, pr, P, I, U⟩ b = (decide (m = 0) && decide (0 < U.length) && (decide (1 < (ustep U b).2.length) || (decide ((ustep U b).2.length = 1) && decide (0 < (ustep U b).1.length)))) := rfl
  generalize hA : vtakeF ⟨m, pr, P, I, U⟩ b = A at *
  generalize hB : vtakeF ⟨m, pr, P, I, []⟩ b = B at *
  generalize ustep U b = us at *
  have fA : ∀ x : Prop, x → ((inK .i64 P ∧ inK .u8 I ∧ inK .u8 U ∧ paOk ⟨m, pr, P, I, U⟩ ∧ qB b) ∧ (A.2.length * 64 ≤ 140737488355328 ∧ A.2.length ≤ 4611686018427387904) ∧ x) := fun x hx => ⟨⟨j1, j2, j3, o1, hb⟩, ⟨by omega, by omega⟩, hx⟩
  have fB : ∀ x : Prop, x → ((inK .i64 P ∧ inK .u8 I ∧ paOk ⟨m, pr, P, I, []⟩ ∧ qB b) ∧ ((1 + B.2.length) * 64 ≤ 140737488355328 ∧ 1 + B.2.length ≤ 4611686018427387904) ∧ x) := fun x hx => ⟨⟨j1, j2, o2, hb⟩, ⟨by omega, by omega⟩, hx⟩
  have hA1 : vcut ⟨m, pr, P, I, U⟩ b = false → _ := fun h => fA _ (k1 A (c2 h).symm)
  have hB1 : vcut ⟨m, pr, P, I, U⟩ b = true → _ := fun h => fB _ (k1 _ (c1 h).symm)
  refine ⟨⟨by omega, by omega, by omega⟩, fun hm => ⟨fun hu0 => ⟨⟨j3, by omega, hb⟩, fun a1 => hB1 ?_, fun a1 => ⟨fun a2 => ⟨fun a3 => hB1 ?_, fun a3 => hA1 ?_⟩, fun a2 => hA1 ?_⟩⟩, fun hu0 => hA1 ?_⟩, fun hm => hA1 ?_⟩
  all_goals (rw [hd]; simp only [Bool.and_eq_true, Bool.or_eq_true, decide_eq_true_eq, Bool.and_eq_false_iff, Bool.or_eq_false_iff, decide_eq_false_iff_not]; omega)
theorem paOk_pa0 (m : Int) : paOk (pa0 m) := ⟨inK_nil _, inK_nil _, inK_nil _, by simp [pa0], by simp [pa0], by simp [pa0], by simp [pa0]⟩
theorem ite_ok {c : Prop} [Decidable c] {P : Pa × List Ac → Prop} {a b : Pa × List Ac} (h1 : c → P a) (h2 : ¬ c → P b) : P (if c then a else b) := by split; exact h1 ‹_›; exact h2 ‹_›
theorem inK_app {k : IntKind} {l : List Int} {n : Int} (h : inK k l) (hn : k.min ≤ n ∧ n ≤ k.max) (hl : l.length ≤ 1000) : inK k (l ++ [n]) := by
  refine ⟨by simp; omega, fun x hx => ?_⟩
  simp only [List.mem_append, List.mem_singleton] at hx
  rcases hx with hx | rfl
  · exact h.2 _ hx
  · exact hn
theorem u8mm : IntKind.u8.min = 0 ∧ IntKind.u8.max = 255 := by decide
theorem i64mm : IntKind.i64.min = -9223372036854775808 ∧ IntKind.i64.max = 9223372036854775807 := by decide
theorem inK_P {l : List Int} (hl : l.length ≤ 1000) (h : ∀ n ∈ l, 0 ≤ n ∧ n ≤ 65535) : inK .i64 l := ⟨by omega, fun n hn => by have := h n hn; have := i64mm; omega⟩
theorem vcsi_pok {p : Pa} {b : Int} (hp : paOk p) (hb : 32 ≤ b ∧ b ≤ 255) : paOk (vcsiF p b).1 := by
  obtain ⟨h1, h2, h3, h4, h5, h6, h7⟩ := hp
  have := u8mm
  refine ite_ok (P := fun x => paOk x.1) (fun hv => ⟨h1, ⟨by simp, fun x hx => by simp at hx; subst hx; omega⟩, h3, h4, by simp, h6, h7⟩) fun hv => ?_
  have hv2 : 48 ≤ b := by simp [vint] at hv; omega
  refine ite_ok (P := fun x => paOk x.1) (fun _ => paOk_pa0 0) fun h64 => ?_
  refine ite_ok (P := fun x => paOk x.1) (fun _ => paOk_pa0 6) fun h58 => ?_
  refine ite_ok (P := fun x => paOk x.1) (fun _ => ⟨h1, h2, h3, h4, h5, h6, h7⟩) fun h59 => ?_
  have hq : ∀ {Q : List Int}, Q.length ≤ 1000 → (∀ n ∈ Q, 0 ≤ n ∧ n ≤ 65535) → paOk ⟨p.m, p.pr, Q, p.I, p.U⟩ := fun a c => ⟨inK_P a c, h2, h3, a, h5, h6, c⟩
  refine ite_ok (P := fun x => paOk x.1) (fun hl0 => ite_ok (P := fun x => paOk x.1) (fun _ => hq (by simp) (by simp)) fun _ => hq (by simp) (by simp; omega)) fun hl0 => ?_
  refine ite_ok (P := fun x => paOk x.1) (fun hl0 => ite_ok (P := fun x => paOk x.1) (fun _ => paOk_pa0 6) fun _ => hq (by simp; omega) fun n hn => ?_) fun _ => hq (by simp [digP]; omega) fun n hn => ?_
  · simp at hn
    rcases hn with hn | rfl
    · exact h7 n hn
    · omega
  · rcases List.mem_or_eq_of_mem_set hn with h | rfl
    · exact h7 n h
    · have h0 : 0 ≤ p.P.getD (p.P.length - 1) 0 := by
        rw [List.getD_eq_getElem?_getD]
        rcases h : p.P[p.P.length - 1]? with _ | v
        · simp
        · exact (h7 v (List.mem_of_getElem? h)).1
      omega
theorem vtake_pok {p : Pa} {b : Int} (hp : paOk p) (hb : 0 ≤ b ∧ b ≤ 255) : paOk (vtakeF p b).1 := by
  have h0 := paOk_pa0
  obtain ⟨h1, h2, h3, h4, h5, h6, h7⟩ := id hp
  have hu := u8mm
  have e1 : (ustep p.U b).1.length ≤ 1000 := by have := ustep_pl p.U b; omega
  have e2 := ustep_in h3 hb (by omega)
  have hg : ∀ {c : Prop} [Decidable c] {x y : Pa × List Ac}, (c → paOk x.1) → (¬ c → paOk y.1) → paOk (if c then x else y).1 := fun a c => ite_ok (P := fun x => paOk x.1) a c
  refine hg (fun _ => h0 _) fun _ => hg (fun _ => h0 _) fun _ => hg (fun _ => h0 _) fun _ => hg (fun _ => hp) fun _ => hg (fun _ => hp) fun hb2 => hg (fun _ => ⟨h1, h2, e2, h4, h5, e1, h7⟩) fun _ => hg (fun _ => h0 _) fun _ => hg (fun _ => ?_) fun _ => hg (fun _ => ?_) fun _ => hg (fun _ => ?_) fun _ => hg (fun _ => vcsi_pok hp (by omega)) fun _ => hg (fun _ => ?_) fun _ => ?_
  · exact hg (fun _ => ⟨inK_nil _, ⟨by simp, fun x hx => by simp at hx; subst hx; omega⟩, inK_nil _, by simp, by simp, by simp, by simp⟩) fun _ => hg (fun _ => h0 _) fun _ => hg (fun _ => h0 _) fun _ => h0 _
  · exact hg (fun _ => h0 _) fun _ => hg (fun _ => h0 _) fun hl => ⟨h1, inK_app h2 (by omega) h5, h3, h4, by simp; omega, h6, h7⟩
  · show paOk (if vint b = true then p else pa0 0)
    split
    · exact hp
    · exact h0 _
  · exact hg (fun _ => h0 _) fun _ => hg (fun _ => h0 _) fun hl => ⟨h1, inK_app h2 (by omega) h5, h3, h4, by simp; omega, h6, h7⟩
  · show paOk (if 64 ≤ b then pa0 0 else p)
    split
    · exact h0 _
    · exact hp
theorem vstep_pok {p : Pa} {b : Int} (hp : paOk p) (hb : 0 ≤ b ∧ b ≤ 255) : paOk (vstepF p b).1 := by
  unfold vstepF
  split
  · obtain ⟨h1, h2, h3, h4, h5, h6, h7⟩ := hp
    exact vtake_pok ⟨h1, h2, inK_nil _, h4, h5, by simp, h7⟩ hb
  · exact vtake_pok hp hb
theorem vstep_len (p : Pa) (b : Int) : (vstepF p b).2.length ≤ 3 := by
  unfold vstepF
  have h1 := vtake_len p b
  have h2 := vtake_len { p with U := [] } b
  split
  · simp; omega
  · omega
def F_vstep : List DV → Option FSpec
  | [.agg [.int .i64 m, .int .u8 pr, p, i, u], .int .u8 b] => some ⟨isInts .i64 p ∧ isInts .u8 i ∧ isInts .u8 u ∧ paOk ⟨m, pr, intsD p, intsD i, intsD u⟩ ∧ (0 ≤ b ∧ b ≤ 255), fun n => (paR (vstepF ⟨m, pr, intsD p, intsD i, intsD u⟩ b), [])⟩
  | _ => none
theorem F_vstep_1 (m pr b : Int) (p i u : DV) : F_vstep [.agg [.int .i64 m, .int .u8 pr, p, i, u], .int .u8 b] = some ⟨isInts .i64 p ∧ isInts .u8 i ∧ isInts .u8 u ∧ paOk ⟨m, pr, intsD p, intsD i, intsD u⟩ ∧ (0 ≤ b ∧ b ≤ 255), fun n => (paR (vstepF ⟨m, pr, intsD p, intsD i, intsD u⟩ b), [])⟩ := nrfl _
theorem fvstep_ok (args : List DV) (s : FSpec) (hs : F_vstep args = some s) (hp : s.pre) : PCalls PG 15 args fun n r os => r = (s.res n).1 ∧ os = (s.res n).2 := by
  unfold F_vstep at hs
  split at hs
  · obtain rfl := sj hs
    obtain ⟨h1, h2, h3, h4, h5⟩ := hp
    exact vstep_P h1 h2 h3 h4 h5
  · cases hs
def T27 : FL := (15, F_vstep) :: T25
theorem T27_ok : FOk PG (tab T27) := FOk.cons T25_ok fvstep_ok
theorem T27_at_step (args : List DV) : tab T27 15 args = (F_vstep args).map .o := nrfl _
theorem PCalls.wk {E : Prg} {f : Nat} {a b : List DV} {R : Nat → DV → Objs → Prop} (h : PCalls E f b R) (hw : wkL wkT a b) : PCalls E f a R := fun n => (h n).wk hw
theorem isInts_wk {k : IntKind} {d : DV} (h : isInts k d) : wkA d (.sl 1 (intRows k (intsD d)) .any) := by
  obtain ⟨s, z, e, h1, h2⟩ := isInts_inv h
  generalize intsD d = l at *
  subst e
  refine ⟨rfl, .inl rfl, ?_⟩
  rcases h1 with rfl | rfl
  · exact .inl rfl
  · exact .inr rfl
theorem wk0_of {k0 : IntKind} {d d2 : DV} (h : wkA d d2) (k : isInts k0 d) : wk0 d d2 := by
  obtain ⟨s, z, e, h1, h2⟩ := isInts_inv k
  rw [e] at h ⊢
  exact h
noncomputable def rc_vinters1 : RFn := ⟨1, 6, .seq (.reg [⟨some 2, .mov (.c (.bool false)), none, false⟩] 0 [0]) (.seq (.reg [⟨some 3, .mov (.t 0), none, false⟩, ⟨some 4, .call 51 [.t 3], none, false⟩, ⟨some 5, .un .not (.t 4), none, false⟩, ⟨some 2, .mov (.t 5), none, false⟩] 0 [2]) .ret), [.t 2]⟩
theorem rc_vinters1_ok : compFn PG.P [⟨0, 0, [0], []⟩, ⟨1, 0, [2], []⟩] 72 = some rc_vinters1 := by kernel_rfl
theorem T27_at_vinter (args : List DV) : tab T27 51 args = (F_vinter args).map .o := nrfl _
theorem vinters1_P {b : Int} (hb_b : 0 ≤ b ∧ b ≤ 255)  :
    PCalls PG 72 [.int .u8 b] fun n RR OO => RR = ((.bool (!vint b), []) : DV × Objs).1 ∧ OO = ((.bool (!vint b), []) : DV × Objs).2 := by
  refine PCalls.by_fn (res := fun n => (.bool (!vint b), [])) T27_ok rc_vinters1_ok (by simp [rc_vinters1]) fun n => ?_
  unfold rc_vinters1
  dsimp only
  simp -implicitDefEqProofs -dsimp only [T27_at_vinter, F_vinter_1, vcB1, vcB2, vcB3, vcR, ↓vcP1, ↓vcP2, ↓reduceIte, if_true, if_false, reduceCtorEq, implies_true, Nat.reduceLT, Nat.reduceLeDiff, Nat.reduceEqDiff, Nat.reduceAdd, Nat.reduceSub, Nat.reduceMul, Int.reduceLT, Int.reduceLE, Int.reduceEq, Int.reduceToNat, Int.reduceAdd, Int.reduceSub, Int.reduceNeg, List.reduceReplicate, ne_eq, exists_eq_left, exists_eq_left', Nat.reducePow, Int.reduceMul, Function.comp_apply]
  exact hb_b
def F_vinters1 : List DV → Option FSpec
  | [.int .u8 b] => some ⟨(0 ≤ b ∧ b ≤ 255) ∧ True, fun n => (.bool (!vint b), [])⟩
  | _ => none
theorem F_vinters1_1 (b : Int) : F_vinters1 [.int .u8 b] = some ⟨(0 ≤ b ∧ b ≤ 255) ∧ True, fun n => (.bool (!vint b), [])⟩ := nrfl _
theorem vinters1_ok (args : List DV) (s : FSpec) (hs : F_vinters1 args = some s) (hp : s.pre) : PCalls PG 72 args fun n r os => r = (s.res n).1 ∧ os = (s.res n).2 := by
  unfold F_vinters1 at hs
  split at hs
  · rename_i b
    obtain rfl := sj hs
    obtain ⟨hb_b, hp⟩ := hp
    have this := vinters1_P  hb_b 
    exact this
  · cases hs
def T29a : FL := (72, F_vinters1) :: T27
theorem T29a_ok : FOk PG (tab T29a) := FOk.cons T27_ok vinters1_ok
theorem T29a_at_vinters1 (args : List DV) : tab T29a 72 args = (F_vinters1 args).map .o := nrfl _
theorem body52 : hasBody PG.P 72 = true := by kernel_rfl
def notI (l : List Int) : Int := match l.findIdx? (fun b => !vint b) with
  | some i => i
  | none => -1
noncomputable def rc_vIndexFunc_l0 : RC := (.seq (.reg [⟨some 9, .bin .lss (.t 8) (.t 7), none, false⟩] 0 [0, 1, 7, 8, 9]) (.seq (.cond (.t 9) .skip (.ext 0)) (.seq (.blk 1 (.seq (.reg [⟨some 10, .mov (.t 8), none, false⟩, ⟨some 5, .mov (.t 10), none, false⟩] 0 [0, 1, 5, 7, 8]) (.seq (.reg [⟨some 11, .mov (.t 1), none, false⟩, ⟨some 12, .mov (.t 0), none, false⟩, ⟨some 13, .mov (.t 5), none, false⟩, ⟨some 14, .iaddr 1 (.t 12) (.t 13), none, false⟩, ⟨some 15, .load false 1 (.t 14), none, false⟩, ⟨some 16, .calld (.t 11) [.t 15], none, false⟩] 0 [0, 1, 5, 7, 8, 16]) (.cond (.t 16) (.seq (.reg [⟨some 17, .mov (.t 5), none, false⟩, ⟨some 4, .mov (.t 17), none, false⟩] 0 [4]) .ret) .skip)))) (.reg [⟨some 18, .bin .add (.t 8) (.c (.int .i64 1)), none, false⟩, ⟨some 8, .mov (.t 18), none, false⟩] 0 [0, 1, 7, 8]))))
noncomputable def rc_vIndexFunc : RFn := ⟨2, 19, .seq (.reg [⟨some 4, .mov (.c (.int .i64 0)), none, false⟩] 0 [0, 1]) (.seq (.seq (.reg [⟨some 6, .mov (.t 0), none, false⟩, ⟨some 7, .len (.t 6), none, false⟩, ⟨some 8, .mov (.c (.int .i64 0)), none, false⟩] 0 [0, 1, 7, 8]) (.blk 0 (.loop rc_vIndexFunc_l0))) (.seq (.reg [⟨some 4, .mov (.c (.int .i64 (-1))), none, false⟩] 0 [4]) .ret)), [.t 4]⟩
theorem rc_vIndexFunc_ok : compFn PG.P [⟨0, 0, [0, 1], []⟩, ⟨1, 0, [0, 1, 7, 8], []⟩, ⟨2, 0, [0, 1, 7, 8, 9], []⟩, ⟨3, 0, [0, 1, 5, 7, 8], []⟩, ⟨4, 0, [0, 1, 5, 7, 8, 16], []⟩, ⟨5, 0, [4], []⟩, ⟨6, 0, [0, 1, 7, 8], []⟩, ⟨7, 0, [4], []⟩] 82 = some rc_vIndexFunc := by kernel_rfl
theorem vIndexFunc_P {sz : Nat} {k : SK} {l : List Int} (hs : sz = 1 ∨ l = []) (hk : inK .u8 l) :
    PCalls PG 82 [.sl sz (intRows .u8 l) k, .lit (.func (.func 72) #[] #[])] fun n r os => r = .int .i64 (notI l) ∧ os = [] := by
  refine PCalls.by_fn (res := fun n => (.int .i64 (notI l), [])) T29a_ok rc_vIndexFunc_ok (by simp [rc_vIndexFunc]) fun n => ?_
  unfold rc_vIndexFunc
  dsimp only
  simp -implicitDefEqProofs -dsimp only [T29a_at_vinters1, F_vinters1_1, body52, ↓stV_calld, calldV_lit, vcB1, vcB2, vcB3, vcR, ↓vcP1, ↓vcP2, ↓reduceIte, if_true, if_false, reduceCtorEq, implies_true, Nat.reduceLT, Nat.reduceLeDiff, Nat.reduceEqDiff, Nat.reduceAdd, Nat.reduceSub, Nat.reduceMul, Int.reduceLT, Int.reduceLE, Int.reduceEq, Int.reduceToNat, Int.reduceAdd, Int.reduceSub, Int.reduceNeg, List.reduceReplicate, ne_eq, exists_eq_left, exists_eq_left', Nat.reducePow, Int.reduceMul, Function.comp_apply]
  refine LoopWp.inv T29a_ok (S := fun i : Nat => ⟨[(0, .sl sz (intRows .u8 l) k), (1, .lit (.func (.func 72) #[] #[])), (7, .int .i64 l.length), (8, .int .i64 i)], List.replicate n none⟩) (I := fun i => i ≤ l.length ∧ ∀ j, j < i → vint (l.getD j 0) = true) (μ := fun i => l.length - i) 0 ⟨by omega, by omega⟩ ?_ ?_
  · simp -implicitDefEqProofs -dsimp only [vcB1, vcB2, vcB3, vcR, ↓vcP1, ↓vcP2, ↓reduceIte, if_true, if_false, reduceCtorEq, implies_true, Nat.reduceLT, Nat.reduceLeDiff, Nat.reduceEqDiff, Nat.reduceAdd, Nat.reduceSub, Nat.reduceMul, Int.reduceLT, Int.reduceLE, Int.reduceEq, Int.reduceToNat, Int.reduceAdd, Int.reduceSub, Int.reduceNeg, List.reduceReplicate, ne_eq, exists_eq_left, exists_eq_left', Nat.reducePow, Int.reduceMul, Function.comp_apply]
    exact wkT_refl _
  · intro i ⟨hi, hv⟩
    unfold rc_vIndexFunc_l0
    simp -implicitDefEqProofs -dsimp only [T29a_at_vinters1, F_vinters1_1, body52, ↓stV_calld, calldV_lit, vcB1, vcB2, vcB3, vcR, ↓vcP1, ↓vcP2, ↓reduceIte, if_true, if_false, reduceCtorEq, implies_true, Nat.reduceLT, Nat.reduceLeDiff, Nat.reduceEqDiff, Nat.reduceAdd, Nat.reduceSub, Nat.reduceMul, Int.reduceLT, Int.reduceLE, Int.reduceEq, Int.reduceToNat, Int.reduceAdd, Int.reduceSub, Int.reduceNeg, List.reduceReplicate, ne_eq, exists_eq_left, exists_eq_left', Nat.reducePow, Int.reduceMul, Function.comp_apply]
    refine ⟨fun h => ?_, fun h => ?_⟩
    · have h0 : i < l.length := by omega
      have hsz : sz = 1 := by rcases hs with h | h; exact h; subst h; simp at h0
      have hgd : l.getD i 0 = l[i] := by rw [List.getD_eq_getElem?_getD, List.getElem?_eq_getElem h0]; rfl
      refine ⟨⟨by omega, h, hsz⟩, h0, hk.u8 (by rw [hgd]; exact List.getElem_mem _), ?_⟩
      have hkl := hk.1
      cases hvi : vint (l.getD i 0) with
      | true =>
        rw [cnd_true]
        refine ⟨i + 1, ⟨wkT_refl _, by rw [wI64] <;> omega⟩, ⟨by omega, fun j hj => ?_⟩, by omega⟩
        by_cases hji : j = i
        · subst hji; exact hvi
        · exact hv j (by omega)
      | false =>
        rw [cnd_false]
        have : l.findIdx? (fun b => !vint b) = some i := by
          rw [List.findIdx?_eq_some_iff_getElem]
          refine ⟨h0, by rw [← hgd, hvi]; rfl, fun j hj => ?_⟩
          have h2 := hv j hj
          rw [List.getD_eq_getElem?_getD, List.getElem?_eq_getElem (by omega)] at h2
          simpa using h2
        simp [notI, this]
    · have : l.findIdx? (fun b => !vint b) = none := by
        rw [List.findIdx?_eq_none_iff]
        intro x hx
        obtain ⟨j, hj, rfl⟩ := List.getElem_of_mem hx
        have h2 := hv j (by omega)
        rw [List.getD_eq_getElem?_getD, List.getElem?_eq_getElem hj] at h2
        simpa using h2
      simp [notI, this]
def T30 : FL := T27
theorem T30_ok : FOk PG (tab T30) := T27_ok
def F_vIndexFunc : List DV → Option FSpec
  | [a, .lit v] => some ⟨isInts .u8 a ∧ v = .func (.func 72) #[] #[], fun n => (.int .i64 (notI (intsD a)), [])⟩
  | _ => none
theorem F_vIndexFunc_1 (a : DV) (v : Value) : F_vIndexFunc [a, .lit v] = some ⟨isInts .u8 a ∧ v = .func (.func 72) #[] #[], fun n => (.int .i64 (notI (intsD a)), [])⟩ := nrfl _
theorem vIndexFunc_ok (args : List DV) (s : FSpec) (hs : F_vIndexFunc args = some s) (hp : s.pre) : PCalls PG 82 args fun n r os => r = (s.res n).1 ∧ os = (s.res n).2 := by
  unfold F_vIndexFunc at hs
  split at hs
  · obtain rfl := sj hs
    obtain ⟨h1, rfl⟩ := hp
    obtain ⟨s0, k0, e1, h2, h3⟩ := isInts_inv h1
    have := vIndexFunc_P (k := k0) h2 h3
    rw [← e1] at this
    exact this
  · cases hs
def T33a : FL := (82, F_vIndexFunc) :: T30
theorem T33a_ok : FOk PG (tab T33a) := FOk.cons T30_ok vIndexFunc_ok
theorem T33a_at (args : List DV) : tab T33a 82 args = (F_vIndexFunc args).map .o := nrfl _
noncomputable def rc_vContainsFunc : RFn := ⟨2, 9, .seq (.reg [⟨some 4, .mov (.c (.bool false)), none, false⟩] 0 [0, 1]) (.seq (.reg [⟨some 5, .mov (.t 0), none, false⟩, ⟨some 6, .mov (.t 1), none, false⟩, ⟨some 7, .call 82 [.t 5, .t 6], none, false⟩, ⟨some 8, .bin .geq (.t 7) (.c (.int .i64 0)), none, false⟩, ⟨some 4, .mov (.t 8), none, false⟩] 0 [4]) .ret), [.t 4]⟩
theorem rc_vContainsFunc_ok : compFn PG.P [⟨0, 0, [0, 1], []⟩, ⟨1, 0, [4], []⟩] 71 = some rc_vContainsFunc := by kernel_rfl
theorem vContains_P {sz : Nat} {k : SK} {l : List Int} (hs : sz = 1 ∨ l = []) (hk : inK .u8 l) :
    PCalls PG 71 [.sl sz (intRows .u8 l) k, .lit (.func (.func 72) #[] #[])] fun n r os => r = .bool (decide (0 ≤ notI l)) ∧ os = [] := by
  refine PCalls.by_fn (res := fun n => (.bool (decide (0 ≤ notI l)), [])) T33a_ok rc_vContainsFunc_ok (by simp [rc_vContainsFunc]) fun n => ?_
  unfold rc_vContainsFunc
  dsimp only
  have e1 : isInts .u8 (.sl sz (intRows .u8 l) k) := isInts_mk hs hk
  simp -implicitDefEqProofs -dsimp only [T33a_at, F_vIndexFunc_1, e1, intsD_sl, vcB1, vcB2, vcB3, vcR, ↓vcP1, ↓vcP2, ↓reduceIte, if_true, if_false, reduceCtorEq, implies_true, Nat.reduceLT, Nat.reduceLeDiff, Nat.reduceEqDiff, Nat.reduceAdd, Nat.reduceSub, Nat.reduceMul, Int.reduceLT, Int.reduceLE, Int.reduceEq, Int.reduceToNat, Int.reduceAdd, Int.reduceSub, Int.reduceNeg, List.reduceReplicate, ne_eq, exists_eq_left, exists_eq_left', Nat.reducePow, Int.reduceMul, Function.comp_apply]
def F_vContains : List DV → Option FSpec
  | [a, .lit v] => some ⟨isInts .u8 a ∧ v = .func (.func 72) #[] #[], fun n => (.bool (decide (0 ≤ notI (intsD a))), [])⟩
  | _ => none
theorem F_vContains_1 (a : DV) (v : Value) : F_vContains [a, .lit v] = some ⟨isInts .u8 a ∧ v = .func (.func 72) #[] #[], fun n => (.bool (decide (0 ≤ notI (intsD a))), [])⟩ := nrfl _
theorem vContains_ok (args : List DV) (s : FSpec) (hs : F_vContains args = some s) (hp : s.pre) : PCalls PG 71 args fun n r os => r = (s.res n).1 ∧ os = (s.res n).2 := by
  unfold F_vContains at hs
  split at hs
  · obtain rfl := sj hs
    obtain ⟨h1, rfl⟩ := hp
    obtain ⟨s0, k0, e1, h2, h3⟩ := isInts_inv h1
    have := vContains_P (k := k0) h2 h3
    rw [← e1] at this
    exact this
  · cases hs
def T33b : FL := (71, F_vContains) :: T33a
theorem T33b_ok : FOk PG (tab T33b) := FOk.cons T33a_ok vContains_ok
theorem T33b_at (args : List DV) : tab T33b 71 args = (F_vContains args).map .o := nrfl _
def intersF (l : List Int) : Bool := decide (1 ≤ l.length) && decide (l.length ≤ 2) && l.all vint
theorem notI_all (l : List Int) : decide (0 ≤ notI l) = !l.all vint := by
  unfold notI
  cases h : l.findIdx? (fun b => !vint b) with
  | none =>
    rw [List.findIdx?_eq_none_iff] at h
    have : l.all vint = true := List.all_eq_true.2 fun x hx => by simpa using h x hx
    rw [this]; rfl
  | some i =>
    rw [List.findIdx?_eq_some_iff_getElem] at h
    obtain ⟨h1, h2, _⟩ := h
    have : l.all vint = false := by
      rw [List.all_eq_false]
      exact ⟨l[i], List.getElem_mem _, by simpa using h2⟩
    rw [this]
    simp
noncomputable def rc_vinters : RFn := ⟨1, 16, (.seq (.reg [⟨some 2, .mov (.c (.bool false)), none, false⟩] 0 [0]) (.seq (.reg [⟨some 3, .mov (.t 0), none, false⟩, ⟨some 4, .len (.t 3), none, false⟩, ⟨some 5, .bin .geq (.t 4) (.c (.int .i64 1)), none, false⟩, ⟨some 6, .mov (.t 5), none, false⟩, ⟨some 7, .mov (.t 0), some (6, true), false⟩, ⟨some 8, .len (.t 7), some (6, true), false⟩, ⟨some 9, .bin .leq (.t 8) (.c (.int .i64 2)), some (6, true), false⟩, ⟨some 10, .pick (.t 6) (.t 9) (.c (.bool false)), none, false⟩, ⟨some 11, .mov (.t 10), none, false⟩, ⟨some 12, .mov (.t 0), some (11, true), false⟩, ⟨some 13, (.call 71 [.t 12, (.c (.lit (.func (.func 72) #[] #[])))]), some (11, true), false⟩, ⟨some 14, .un .not (.t 13), some (11, true), false⟩, ⟨some 15, .pick (.t 11) (.t 14) (.c (.bool false)), none, false⟩, ⟨some 2, .mov (.t 15), none, false⟩] 0 [2]) .ret)), [.t 2]⟩
theorem rc_vinters_ok : compFn PG.P [⟨0, 0, [0], []⟩, ⟨1, 0, [2], []⟩] 44 = some rc_vinters := by kernel_rfl
theorem vinters_P {sz_l : Nat} {k_l : SK} {l : List Int} (hs_l : sz_l = 1 ∨ l = []) (hk_l : inK .u8 l)  :
    PCalls PG 44 [.sl sz_l (intRows .u8 l) k_l] fun n RR OO => RR = ((.bool (intersF l), []) : DV × Objs).1 ∧ OO = ((.bool (intersF l), []) : DV × Objs).2 := by
  refine PCalls.by_fn (res := fun n => (.bool (intersF l), [])) T33b_ok rc_vinters_ok (by simp [rc_vinters]) fun n => ?_
  unfold rc_vinters
  dsimp only
  have e1 : isInts .u8 (.sl sz_l (intRows .u8 l) k_l) := isInts_mk hs_l hk_l
  simp -implicitDefEqProofs -dsimp only [T33b_at, F_vContains_1, e1, intsD_sl, notI_all, vcB1, vcB2, vcB3, vcR, ↓vcP1, ↓vcP2, ↓reduceIte, if_true, if_false, reduceCtorEq, implies_true, Nat.reduceLT, Nat.reduceLeDiff, Nat.reduceEqDiff, Nat.reduceAdd, Nat.reduceSub, Nat.reduceMul, Int.reduceLT, Int.reduceLE, Int.reduceEq, Int.reduceToNat, Int.reduceAdd, Int.reduceSub, Int.reduceNeg, List.reduceReplicate, ne_eq, exists_eq_left, exists_eq_left', Nat.reducePow, Int.reduceMul, Function.comp_apply]
  unfold intersF
  refine ⟨fun a => ⟨fun b => ?_, fun b => ?_⟩, fun a => ?_⟩
  · rw [decide_eq_true (show 1 ≤ l.length by omega), decide_eq_true (show l.length ≤ 2 by omega)]; simp
  · rw [decide_eq_false (show ¬ l.length ≤ 2 by omega)]; simp
  · rw [decide_eq_false (show ¬ 1 ≤ l.length by omega)]; simp
def F_vinters : List DV → Option FSpec
  | [a_l] => some ⟨isInts .u8 a_l ∧ True, fun n => (.bool (intersF (intsD a_l)), [])⟩
  | _ => none
theorem F_vinters_1 (a_l : DV) : F_vinters [a_l] = some ⟨isInts .u8 a_l ∧ True, fun n => (.bool (intersF (intsD a_l)), [])⟩ := nrfl _
theorem vinters_ok (args : List DV) (s : FSpec) (hs : F_vinters args = some s) (hp : s.pre) : PCalls PG 44 args fun n r os => r = (s.res n).1 ∧ os = (s.res n).2 := by
  unfold F_vinters at hs
  split at hs
  · rename_i a_l
    obtain rfl := sj hs
    obtain ⟨hi_l, hp⟩ := hp
    obtain ⟨s0_l, k0_l, h1_l, h2_l, h3_l⟩ := isInts_inv hi_l
    have this := vinters_P (k_l := k0_l) h2_l h3_l 
    rw [← h1_l] at this
    exact this
  · cases hs
def T33 : FL := (44, F_vinters) :: T33b
theorem T33_ok : FOk PG (tab T33) := FOk.cons T33b_ok vinters_ok
theorem T33_at_inters (args : List DV) : tab T33 44 args = (F_vinters args).map .o := nrfl _
theorem T33_at_beg (args : List DV) : tab T33 43 args = (F_ubegins args).map .o := nrfl _
def prA (p : Pa) : Prop := 0 ≤ p.m ∧ p.m ≤ 7 ∧ (p.U.length = 0 ∨ (p.m = 0 ∧ ubeg p.U = true)) ∧ ((p.m = 4 ∨ p.m = 5) ∨ (p.pr = 0 ∧ p.P.length = 0)) ∧ p.P.length ≤ 16 ∧ (p.pr = 0 ∨ (60 ≤ p.pr ∧ p.pr ≤ 63))
def prB (p : Pa) : Prop := ∀ n ∈ p.P, 0 ≤ n ∧ n ≤ 65535
def prC (p : Pa) : Bool := if p.m = 2 ∨ p.m = 5 then intersF p.I else decide (p.I.length = 0)
instance (p : Pa) : Decidable (prA p) := by unfold prA; infer_instance
instance (p : Pa) : Decidable (prB p) := by unfold prB; infer_instance
def prightF (p : Pa) : Bool := decide (prA p) && (decide (prB p) && prC p)
theorem pright_A {p : Pa} (h : ¬ prA p) : false = prightF p := by unfold prightF; rw [decide_eq_false h]; rfl
theorem pright_B {p : Pa} (h : ¬ prB p) : false = prightF p := by unfold prightF; rw [decide_eq_false h]; simp
theorem pright_AB {p : Pa} (h : prA p) (h2 : prB p) : prightF p = prC p := by unfold prightF; rw [decide_eq_true h, decide_eq_true h2]; simp
theorem getD_mem {l : List Int} {i : Nat} (h : i < l.length) : l.getD i 0 ∈ l := by
  rw [List.getD_eq_getElem?_getD, List.getElem?_eq_getElem h]
  exact List.getElem_mem _
theorem all_getD {l : List Int} {q : Int → Prop} (h : ∀ j, j < l.length → q (l.getD j 0)) : ∀ x ∈ l, q x := fun x hx => by
  obtain ⟨j, hj, rfl⟩ := List.getElem_of_mem hx
  have := h j hj
  rwa [List.getD_eq_getElem?_getD, List.getElem?_eq_getElem hj] at this
theorem prB_get {m pr : Int} {P I U : List Int} (h : prB ⟨m, pr, P, I, U⟩) {i : Nat} (hi : i < P.length) : 0 ≤ P.getD i 0 ∧ P.getD i 0 ≤ 65535 := h _ (getD_mem hi)
theorem prB_mk {m pr : Int} {P I U : List Int} (h : ∀ j, j < P.length → 0 ≤ P.getD j 0 ∧ P.getD j 0 ≤ 65535) : prB ⟨m, pr, P, I, U⟩ := fun x hx => all_getD (q := fun x => 0 ≤ x ∧ x ≤ 65535) h x hx
noncomputable def rc_vRight_l0 : RC := (.seq (.reg [⟨some 77, .bin .lss (.t 76) (.t 75), none, false⟩] 0 [1, 74, 75, 76, 77]) (.seq (.cond (.t 77) .skip (.ext 0)) (.seq (.blk 1 (.seq (.reg [⟨some 78, .iaddr 1 (.t 74) (.t 76), none, false⟩, ⟨some 79, .load false 1 (.t 78), none, false⟩, ⟨some 5, .mov (.t 79), none, false⟩] 0 [1, 5, 74, 75, 76]) (.seq (.reg [⟨some 80, .mov (.t 5), none, false⟩, ⟨some 81, .bin .lss (.t 80) (.c (.int .i64 0)), none, false⟩, ⟨some 82, .mov (.t 81), none, false⟩, ⟨some 83, .mov (.t 5), some (82, false), false⟩, ⟨some 84, .bin .gtr (.t 83) (.c (.int .i64 65535)), some (82, false), false⟩, ⟨some 85, .pick (.t 82) (.c (.bool true)) (.t 84), none, false⟩] 0 [1, 74, 75, 76, 85]) (.cond (.t 85) (.seq (.reg [⟨some 2, .mov (.c (.bool false)), none, false⟩] 0 [2]) .ret) .skip)))) (.reg [⟨some 86, .bin .add (.t 76) (.c (.int .i64 1)), none, false⟩, ⟨some 76, .mov (.t 86), none, false⟩] 0 [1, 74, 75, 76]))))
noncomputable def rc_vRight : RFn := ⟨1, 102, .seq (.reg [⟨some 1, .box 5 (.t 0), none, false⟩, ⟨some 2, .mov (.c (.bool false)), none, false⟩] 0 [1]) (.seq (.seq (.reg [⟨some 6, .faddr 0 (.t 1), none, false⟩, ⟨some 7, .load false 1 (.t 6), none, false⟩, ⟨some 8, .bin .lss (.t 7) (.c (.int .i64 0)), none, false⟩, ⟨some 9, .mov (.t 8), none, false⟩, ⟨some 10, .faddr 0 (.t 1), some (9, false), false⟩, ⟨some 11, .load false 1 (.t 10), some (9, false), false⟩, ⟨some 12, .bin .gtr (.t 11) (.c (.int .i64 7)), some (9, false), false⟩, ⟨some 13, .pick (.t 9) (.c (.bool true)) (.t 12), none, false⟩, ⟨some 14, .mov (.t 13), none, false⟩, ⟨some 15, .faddr 4 (.t 1), some (14, false), false⟩, ⟨some 16, .load false 1 (.t 15), some (14, false), false⟩, ⟨some 17, .len (.t 16), some (14, false), false⟩, ⟨some 18, .bin .gtr (.t 17) (.c (.int .i64 0)), some (14, false), false⟩, ⟨some 19, .mov (.t 18), some (14, false), false⟩, ⟨some 20, .faddr 0 (.t 1), some (19, true), false⟩, ⟨some 21, .load false 1 (.t 20), some (19, true), false⟩, ⟨some 22, .bin .neq (.t 21) (.c (.int .i64 0)), some (19, true), false⟩, ⟨some 23, .mov (.t 22), some (19, true), false⟩, ⟨some 24, .faddr 4 (.t 1), some (23, false), false⟩, ⟨some 25, .load false 1 (.t 24), some (23, false), false⟩, ⟨some 26, .call 43 [.t 25], some (23, false), false⟩, ⟨some 27, .un .not (.t 26), some (23, false), false⟩, ⟨some 28, .pick (.t 23) (.c (.bool true)) (.t 27), some (19, true), false⟩, ⟨some 29, .pick (.t 19) (.t 28) (.c (.bool false)), some (14, false), false⟩, ⟨some 30, .pick (.t 14) (.c (.bool true)) (.t 29), none, false⟩] 0 [1, 30]) (.cond (.t 30) (.seq (.reg [⟨some 2, .mov (.c (.bool false)), none, false⟩] 0 [2]) .ret) .skip)) (.seq (.reg [⟨some 31, .faddr 0 (.t 1), none, false⟩, ⟨some 32, .load false 1 (.t 31), none, false⟩, ⟨some 33, .bin .eql (.t 32) (.c (.int .i64 4)), none, false⟩, ⟨some 34, .mov (.t 33), none, false⟩, ⟨some 35, .faddr 0 (.t 1), some (34, false), false⟩, ⟨some 36, .load false 1 (.t 35), some (34, false), false⟩, ⟨some 37, .bin .eql (.t 36) (.c (.int .i64 5)), some (34, false), false⟩, ⟨some 38, .pick (.t 34) (.c (.bool true)) (.t 37), none, false⟩, ⟨some 3, .mov (.t 38), none, false⟩] 0 [1, 3]) (.seq (.seq (.reg [⟨some 39, .mov (.t 3), none, false⟩, ⟨some 40, .un .not (.t 39), none, false⟩, ⟨some 41, .mov (.t 40), none, false⟩, ⟨some 42, .faddr 1 (.t 1), some (41, true), false⟩, ⟨some 43, .load false 1 (.t 42), some (41, true), false⟩, ⟨some 44, .bin .neq (.t 43) (.c (.int .u8 0)), some (41, true), false⟩, ⟨some 45, .mov (.t 44), some (41, true), false⟩, ⟨some 46, .faddr 2 (.t 1), some (45, false), false⟩, ⟨some 47, .load false 1 (.t 46), some (45, false), false⟩, ⟨some 48, .len (.t 47), some (45, false), false⟩, ⟨some 49, .bin .gtr (.t 48) (.c (.int .i64 0)), some (45, false), false⟩, ⟨some 50, .pick (.t 45) (.c (.bool true)) (.t 49), some (41, true), false⟩, ⟨some 51, .pick (.t 41) (.t 50) (.c (.bool false)), none, false⟩, ⟨some 52, .mov (.t 51), none, false⟩, ⟨some 53, .faddr 2 (.t 1), some (52, false), false⟩, ⟨some 54, .load false 1 (.t 53), some (52, false), false⟩, ⟨some 55, .len (.t 54), some (52, false), false⟩, ⟨some 56, .bin .gtr (.t 55) (.c (.int .i64 16)), some (52, false), false⟩, ⟨some 57, .pick (.t 52) (.c (.bool true)) (.t 56), none, false⟩, ⟨some 58, .mov (.t 57), none, false⟩, ⟨some 59, .faddr 1 (.t 1), some (58, false), false⟩, ⟨some 60, .load false 1 (.t 59), some (58, false), false⟩, ⟨some 61, .bin .neq (.t 60) (.c (.int .u8 0)), some (58, false), false⟩, ⟨some 62, .mov (.t 61), some (58, false), false⟩, ⟨some 63, .faddr 1 (.t 1), some (62, true), false⟩, ⟨some 64, .load false 1 (.t 63), some (62, true), false⟩, ⟨some 65, .bin .lss (.t 64) (.c (.int .u8 60)), some (62, true), false⟩, ⟨some 66, .mov (.t 65), some (62, true), false⟩, ⟨some 67, .faddr 1 (.t 1), some (66, false), false⟩, ⟨some 68, .load false 1 (.t 67), some (66, false), false⟩, ⟨some 69, .bin .gtr (.t 68) (.c (.int .u8 63)), some (66, false), false⟩, ⟨some 70, .pick (.t 66) (.c (.bool true)) (.t 69), some (62, true), false⟩, ⟨some 71, .pick (.t 62) (.t 70) (.c (.bool false)), some (58, false), false⟩, ⟨some 72, .pick (.t 58) (.c (.bool true)) (.t 71), none, false⟩] 0 [1, 72]) (.cond (.t 72) (.seq (.reg [⟨some 2, .mov (.c (.bool false)), none, false⟩] 0 [2]) .ret) .skip)) (.seq (.seq (.reg [⟨some 73, .faddr 2 (.t 1), none, false⟩, ⟨some 74, .load false 1 (.t 73), none, false⟩, ⟨some 75, .len (.t 74), none, false⟩, ⟨some 76, .mov (.c (.int .i64 0)), none, false⟩] 0 [1, 74, 75, 76]) (.blk 0 (.loop rc_vRight_l0))) (.seq (.seq (.reg [⟨some 87, .faddr 0 (.t 1), none, false⟩, ⟨some 88, .load false 1 (.t 87), none, false⟩, ⟨some 89, .bin .eql (.t 88) (.c (.int .i64 2)), none, false⟩, ⟨some 90, .mov (.t 89), none, false⟩, ⟨some 91, .faddr 0 (.t 1), some (90, false), false⟩, ⟨some 92, .load false 1 (.t 91), some (90, false), false⟩, ⟨some 93, .bin .eql (.t 92) (.c (.int .i64 5)), some (90, false), false⟩, ⟨some 94, .pick (.t 90) (.c (.bool true)) (.t 93), none, false⟩] 0 [1, 94]) (.cond (.t 94) (.seq (.reg [⟨some 95, .faddr 3 (.t 1), none, false⟩, ⟨some 96, .load false 1 (.t 95), none, false⟩, ⟨some 97, .call 44 [.t 96], none, false⟩, ⟨some 2, .mov (.t 97), none, false⟩] 0 [2]) .ret) .skip)) (.seq (.reg [⟨some 98, .faddr 3 (.t 1), none, false⟩, ⟨some 99, .load false 1 (.t 98), none, false⟩, ⟨some 100, .len (.t 99), none, false⟩, ⟨some 101, .bin .eql (.t 100) (.c (.int .i64 0)), none, false⟩, ⟨some 2, .mov (.t 101), none, false⟩] 0 [2]) .ret)))))), [.t 2]⟩
theorem rc_vRight_ok : compFn PG.P [⟨0, 0, [1], []⟩, ⟨1, 0, [1, 30], []⟩, ⟨2, 0, [2], []⟩, ⟨3, 0, [1, 3], []⟩, ⟨4, 0, [1, 72], []⟩, ⟨5, 0, [2], []⟩, ⟨6, 0, [1, 74, 75, 76], []⟩, ⟨7, 0, [1, 74, 75, 76, 77], []⟩, ⟨8, 0, [1, 5, 74, 75, 76], []⟩, ⟨9, 0, [1, 74, 75, 76, 85], []⟩, ⟨10, 0, [2], []⟩, ⟨11, 0, [1, 74, 75, 76], []⟩, ⟨12, 0, [1, 94], []⟩, ⟨13, 0, [2], []⟩, ⟨14, 0, [2], []⟩] 20 = some rc_vRight := by kernel_rfl
theorem vRight_P {p : Pa} (h1 : inK .i64 p.P) (h2 : inK .u8 p.I) (h3 : inK .u8 p.U) (hl : p.P.length ≤ 1000 ∧ p.I.length ≤ 1000 ∧ p.U.length ≤ 1000) : PCalls PG 20 [paD p] fun n r os => r = .bool (prightF p) ∧ os = [] := by
  obtain ⟨m, pr, P, I, U⟩ := p
  simp only at h1 h2 h3 hl
  refine PCalls.by_fn (res := fun n => (.bool (prightF ⟨m, pr, P, I, U⟩), [])) T33_ok rc_vRight_ok (by simp [rc_vRight]) fun n => ?_
  unfold rc_vRight
  dsimp only [paD]
  simp -implicitDefEqProofs -dsimp only [T33_at_inters, T33_at_beg, F_vinters_1, F_ubegins_1, isInts_sl, intsD_sl, vcB1, vcB2, vcB3, vcR, ↓vcP1, ↓vcP2, ↓reduceIte, if_true, if_false, reduceCtorEq, implies_true, Nat.reduceLT, Nat.reduceLeDiff, Nat.reduceEqDiff, Nat.reduceAdd, Nat.reduceSub, Nat.reduceMul, Int.reduceLT, Int.reduceLE, Int.reduceEq, Int.reduceToNat, Int.reduceAdd, Int.reduceSub, Int.reduceNeg, List.reduceReplicate, ne_eq, exists_eq_left, exists_eq_left', Nat.reducePow, Int.reduceMul, Function.comp_apply]
  generalize hG : LoopWp PG 102 rc_vRight_l0 _ _ = G
  have hF : ¬ prA ⟨m, pr, P, I, U⟩ → false = prightF ⟨m, pr, P, I, U⟩ := pright_A
  have hGt : prA ⟨m, pr, P, I, U⟩ → G := fun hA => by
    rw [← hG]; clear hG
    refine LoopWp.inv T33_ok (S := fun i : Nat => ⟨[(1, .ptr n 0 0), (74, .sl 1 (intRows .i64 P) .any), (75, .int .i64 P.length), (76, .int .i64 i)], List.replicate n none ++ [some (.box [.int .i64 m, .int .u8 pr, .sl 1 (intRows .i64 P) .any, .sl 1 (intRows .u8 I) .any, .sl 1 (intRows .u8 U) .any])]⟩) (I := fun i => i ≤ P.length ∧ ∀ j, j < i → 0 ≤ P.getD j 0 ∧ P.getD j 0 ≤ 65535) (μ := fun i => P.length - i) 0 ⟨by omega, by omega⟩ ?_ ?_
    · simp -implicitDefEqProofs -dsimp only [vcB1, vcB2, vcB3, vcR, ↓vcP1, ↓vcP2, ↓reduceIte, if_true, if_false, reduceCtorEq, implies_true, Nat.reduceLT, Nat.reduceLeDiff, Nat.reduceEqDiff, Nat.reduceAdd, Nat.reduceSub, Nat.reduceMul, Int.reduceLT, Int.reduceLE, Int.reduceEq, Int.reduceToNat, Int.reduceAdd, Int.reduceSub, Int.reduceNeg, List.reduceReplicate, ne_eq, exists_eq_left, exists_eq_left', Nat.reducePow, Int.reduceMul, Function.comp_apply]
    · intro i ⟨hi, hv⟩
      unfold rc_vRight_l0
      simp -implicitDefEqProofs -dsimp only [T33_at_inters, F_vinters_1, isInts_sl, intsD_sl, vcB1, vcB2, vcB3, vcR, ↓vcP1, ↓vcP2, ↓reduceIte, if_true, if_false, reduceCtorEq, implies_true, Nat.reduceLT, Nat.reduceLeDiff, Nat.reduceEqDiff, Nat.reduceAdd, Nat.reduceSub, Nat.reduceMul, Int.reduceLT, Int.reduceLE, Int.reduceEq, Int.reduceToNat, Int.reduceAdd, Int.reduceSub, Int.reduceNeg, List.reduceReplicate, ne_eq, exists_eq_left, exists_eq_left', Nat.reducePow, Int.reduceMul, Function.comp_apply]
      refine ⟨fun h => ⟨⟨by omega, h⟩, by omega, fun h2 => pright_B fun hb => ?_, fun h2 => ⟨fun h3 => pright_B fun hb => ?_, fun h3 => ⟨i + 1, by rw [wI64] <;> omega, ⟨by omega, fun j hj => ?_⟩, by omega⟩⟩⟩, fun h => ?_⟩
      · have := prB_get hb (i := i) (by omega); omega
      · have := prB_get hb (i := i) (by omega); omega
      · by_cases hji : j = i
        · subst hji; omega
        · exact hv j (by omega)
      · have hB : prB ⟨m, pr, P, I, U⟩ := prB_mk fun j hj => hv j (by omega)
        rw [pright_AB hA hB]
        refine ⟨fun e => ⟨h2, ?_⟩, fun e => ⟨fun e2 => ⟨h2, ?_⟩, fun e2 => ?_⟩⟩
        · unfold prC; rw [if_pos (.inl e)]
        · unfold prC; rw [if_pos (.inr e2)]
        · unfold prC; rw [if_neg (by simp only; omega)]; congr 1; simp
  clear hG
  have hpr : prA ⟨m, pr, P, I, U⟩ ↔ (0 ≤ m ∧ m ≤ 7 ∧ (U.length = 0 ∨ (m = 0 ∧ ubeg U = true)) ∧ ((m = 4 ∨ m = 5) ∨ (pr = 0 ∧ P.length = 0)) ∧ P.length ≤ 16 ∧ (pr = 0 ∨ (60 ≤ pr ∧ pr ≤ 63))) := Iff.rfl
  generalize (false = prightF ⟨m, pr, P, I, U⟩) = FF at *
  cases hu : ubeg U <;> simp only [cnd_true, cnd_false] <;> rw [hu] at hpr <;> simp only [Bool.false_eq_true, and_false, or_false, and_true] at hpr
  all_goals (repeat' (first | intro _ | (with_reducible apply And.intro)))
  all_goals first
    | assumption
    | exact hF (fun h => by have := hpr.1 h; omega)
    | exact hGt (hpr.2 (by omega))
end Go.Proofs.YtjmnbpilnneonaaDoor
