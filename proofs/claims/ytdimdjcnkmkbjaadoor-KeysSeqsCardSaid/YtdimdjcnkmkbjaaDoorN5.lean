/- Texts K15, K16, K17 in one. -/
import Derived.Test.YtdimdjcnkmkbjaaDoorN4
set_option linter.unusedVariables false
set_option linter.unusedSimpArgs false
set_option maxRecDepth 10000
namespace Go.Proofs.YtdimdjcnkmkbjaaDoor
open Go.RowKit
noncomputable def rc_yknown : RFn := ⟨0, 80, .seq (.reg [⟨some 0, .mov (.c (.bool false)), none, false⟩] 0 []) (.seq (.reg [⟨some 12, .call 10 [.c (.int .i64 1)], none, false⟩, ⟨some 13, .call 11 [.t 12], none, false⟩, ⟨some 1, .mov (.t 13), none, false⟩] 0 [1]) (.seq (.seq (.reg [⟨some 14, .mov (.t 1), none, false⟩, ⟨some 15, .eqP false (.t 14) (.c (.lit (.pointer none))), none, false⟩] 0 [1, 15]) (.cond (.t 15) (.seq (.reg [⟨some 0, .mov (.c (.bool false)), none, false⟩] 0 [0]) .ret) .skip)) (.seq (.reg [⟨some 17, .mov (.t 1), none, false⟩, ⟨some 18, .call 18 [.t 17, .c (.int .u8 27), .c (.int .i64 5)], none, false⟩, ⟨some 16, .mov (.t 18), none, false⟩, ⟨some 19, .ext (.t 16) 0, none, false⟩, ⟨some 20, .ext (.t 16) 1, none, false⟩, ⟨some 2, .alloc [.int .i64 0, .str [], .sl 0 [] .nil, .int .i32 0, .sl 0 [] .nil], none, false⟩, ⟨none, .store 5 (.t 2) (.t 19), none, false⟩, ⟨some 3, .mov (.t 20), none, false⟩] 0 [1, 3]) (.seq (.reg [⟨some 22, .mov (.t 1), none, false⟩, ⟨some 23, .call 22 [.t 22], none, false⟩, ⟨some 21, .mov (.t 23), none, false⟩, ⟨some 24, .ext (.t 21) 0, none, false⟩, ⟨some 25, .ext (.t 21) 1, none, false⟩, ⟨some 4, .mov (.t 24), none, false⟩, ⟨some 5, .mov (.t 25), none, false⟩] 0 [1, 3, 4, 5]) (.seq (.reg [⟨some 27, .mov (.t 1), none, false⟩, ⟨some 28, .call 13 [.t 27, .c (.int .i64 54)], none, false⟩, ⟨some 26, .mov (.t 28), none, false⟩, ⟨some 29, .ext (.t 26) 0, none, false⟩, ⟨some 30, .ext (.t 26) 1, none, false⟩, ⟨some 6, .alloc [.int .i64 0, .str [], .sl 0 [] .nil, .int .i32 0, .sl 0 [] .nil], none, false⟩, ⟨none, .store 5 (.t 6) (.t 29), none, false⟩, ⟨some 7, .mov (.t 30), none, false⟩] 0 [1, 3, 4, 5, 7]) (.seq (.reg [⟨some 32, .mov (.t 1), none, false⟩, ⟨some 33, .call 13 [.t 32, .c (.int .i64 55)], none, false⟩, ⟨some 31, .mov (.t 33), none, false⟩, ⟨some 34, .ext (.t 31) 0, none, false⟩, ⟨some 35, .ext (.t 31) 1, none, false⟩, ⟨some 8, .alloc [.int .i64 0, .str [], .sl 0 [] .nil, .int .i32 0, .sl 0 [] .nil], none, false⟩, ⟨none, .store 5 (.t 8) (.t 34), none, false⟩, ⟨some 9, .mov (.t 35), none, false⟩] 0 [1, 3, 4, 5, 7, 8, 9]) (.seq (.reg [⟨some 37, .mov (.t 1), none, false⟩, ⟨some 38, .call 18 [.t 37, .c (.int .u8 120), .c (.int .i64 60)], none, false⟩, ⟨some 36, .mov (.t 38), none, false⟩, ⟨some 39, .ext (.t 36) 0, none, false⟩, ⟨some 40, .ext (.t 36) 1, none, false⟩, ⟨some 10, .alloc [.int .i64 0, .str [], .sl 0 [] .nil, .int .i32 0, .sl 0 [] .nil], none, false⟩, ⟨none, .store 5 (.t 10) (.t 39), none, false⟩, ⟨some 11, .mov (.t 40), none, false⟩] 0 [1, 3, 4, 5, 7, 8, 9, 10, 11]) (.seq (.reg [⟨some 41, .mov (.t 3), none, false⟩, ⟨some 42, .un .not (.t 41), none, false⟩, ⟨some 43, .mov (.t 42), none, false⟩, ⟨some 44, .mov (.t 5), some (43, true), false⟩, ⟨some 45, .pick (.t 43) (.t 44) (.c (.bool false)), none, false⟩, ⟨some 46, .mov (.t 45), none, false⟩, ⟨some 47, .mov (.t 4), some (46, true), false⟩, ⟨some 48, .bin .eql (.t 47) (.c (.int .i64 55)), some (46, true), false⟩, ⟨some 49, .pick (.t 46) (.t 48) (.c (.bool false)), none, false⟩, ⟨some 50, .mov (.t 49), none, false⟩, ⟨some 51, .mov (.t 7), some (50, true), false⟩, ⟨some 52, .un .not (.t 51), some (50, true), false⟩, ⟨some 53, .pick (.t 50) (.t 52) (.c (.bool false)), none, false⟩, ⟨some 54, .mov (.t 53), none, false⟩, ⟨some 55, .mov (.t 9), some (54, true), false⟩, ⟨some 56, .pick (.t 54) (.t 55) (.c (.bool false)), none, false⟩, ⟨some 57, .mov (.t 56), none, false⟩, ⟨some 58, .faddr 1 (.t 8), some (57, true), false⟩, ⟨some 59, .load false 1 (.t 58), some (57, true), false⟩, ⟨some 60, .bin .eql (.t 59) (.c (.str [(118), (105), (45), (109), (111), (118), (101), (109), (101), (110), (116), (45), (109), (111), (100), (101)])), some (57, true), false⟩, ⟨some 61, .pick (.t 57) (.t 60) (.c (.bool false)), none, false⟩, ⟨some 62, .mov (.t 61), none, false⟩, ⟨some 63, .mov (.t 11), some (62, true), false⟩, ⟨some 64, .pick (.t 62) (.t 63) (.c (.bool false)), none, false⟩, ⟨some 65, .mov (.t 64), none, false⟩, ⟨some 66, .faddr 0 (.t 10), some (65, true), false⟩, ⟨some 67, .load false 1 (.t 66), some (65, true), false⟩, ⟨some 68, .bin .eql (.t 67) (.c (.int .i64 1)), some (65, true), false⟩, ⟨some 69, .pick (.t 65) (.t 68) (.c (.bool false)), none, false⟩, ⟨some 70, .mov (.t 69), none, false⟩, ⟨some 71, .faddr 3 (.t 10), some (70, true), false⟩, ⟨some 72, .load false 1 (.t 71), some (70, true), false⟩, ⟨some 73, .bin .eql (.t 72) (.c (.int .i32 120)), some (70, true), false⟩, ⟨some 74, .pick (.t 70) (.t 73) (.c (.bool false)), none, false⟩, ⟨some 75, .mov (.t 74), none, false⟩, ⟨some 76, .mov (.t 1), some (75, true), false⟩, ⟨some 77, .call 24 [.t 76], some (75, true), false⟩, ⟨some 78, .bin .eql (.t 77) (.c (.int .i64 0)), some (75, true), false⟩, ⟨some 79, .pick (.t 75) (.t 78) (.c (.bool false)), none, false⟩, ⟨some 0, .mov (.t 79), none, false⟩] 0 [0]) .ret)))))))), [.t 0]⟩
theorem rc_yknown_ok : compFn PG.P [⟨0, 0, [], []⟩, ⟨1, 0, [1], []⟩, ⟨2, 0, [1, 15], []⟩, ⟨3, 0, [0], []⟩, ⟨4, 0, [1, 3], []⟩, ⟨5, 0, [1, 3, 4, 5], []⟩, ⟨6, 0, [1, 3, 4, 5, 7], []⟩, ⟨7, 0, [1, 3, 4, 5, 7, 8, 9], []⟩, ⟨8, 0, [1, 3, 4, 5, 7, 8, 9, 10, 11], []⟩, ⟨9, 0, [0], []⟩] 8 = some rc_yknown := by kernel_rfl
def LI : List Bd := useL (usualF 1)
def viMoveB : List UInt8 := [118, 105, 45, 109, 111, 118, 101, 109, 101, 110, 116, 45, 109, 111, 100, 101]
theorem kn1 : yfirF LI false [27] = (none, [27]) := by decide +kernel
theorem kn2 : ytickF LI 5 54 [27] = (none, [27]) := by decide +kernel
theorem kn3 : ytickF LI 5 55 [27] = (some ⟨0, viMoveB, [27], 0, []⟩, []) := by decide +kernel
theorem kn4 : yfirF LI false [120] = (some (kyR 120), []) := by decide +kernel
theorem nb1 : [27].take (longG LI [27]) ≠ beginL := by decide +kernel
theorem nb2 : [120].take (longG LI [120]) ≠ beginL := by decide +kernel
theorem yknown_K {T : Objs} {K : DV → Objs → Prop} (hK : ∀ T', Keep T T' [] → K (.bool true) T') : CallK PG 8 [] T K := by
  refine CallK.of_fn FOk.nil rc_yknown_ok (by simp [rc_yknown]) ?_
  unfold rc_yknown
  dsimp only
  simp -implicitDefEqProofs -dsimp only [vcS, ↓vcP1, ↓vcP2, ↓reduceIte, reduceCtorEq, Nat.reduceLT, Nat.reduceLeDiff, Nat.reduceEqDiff, Nat.reduceAdd, Nat.reduceSub, Nat.reduceMul, Int.reduceLT, Int.reduceLE, Int.reduceEq, Int.reduceToNat, Int.reduceAdd, Int.reduceSub, Int.reduceNeg, List.reduceReplicate, Nat.reducePow, Int.reduceMul]
  refine usual_K (m := 1) (by omega) fun T1 q hq g k1 => ?_
  simp -implicitDefEqProofs -dsimp only [tb_at, vcS, ↓vcP1, ↓vcP2, ↓reduceIte, reduceCtorEq, Nat.reduceLT, Nat.reduceLeDiff, Nat.reduceEqDiff, Nat.reduceAdd, Nat.reduceSub, Nat.reduceMul, Int.reduceLT, Int.reduceLE, Int.reduceEq, Int.reduceToNat, Int.reduceAdd, Int.reduceSub, Int.reduceNeg, List.reduceReplicate, Nat.reducePow, Int.reduceMul]
  refine ynew_K g (by decide +kernel) (usual_in 1 (by omega)) fun T2 o c h k2 ho hc hh D2 => ?_
  simp -implicitDefEqProofs -dsimp only [tb_at, vcS, ↓vcP1, ↓vcP2, ↓reduceIte, reduceCtorEq, Nat.reduceLT, Nat.reduceLeDiff, Nat.reduceEqDiff, Nat.reduceAdd, Nat.reduceSub, Nat.reduceMul, Int.reduceLT, Int.reduceLE, Int.reduceEq, Int.reduceToNat, Int.reduceAdd, Int.reduceSub, Int.reduceNeg, List.reduceReplicate, Nat.reducePow, Int.reduceMul]
  refine yfeed_K (L := LI) (S := []) (b := 27) D2 (by omega) (by simp) nb1 fun T3 d3 v3 ids3 hi3 k3 D3 n3 y3 => ?_
  rw [List.nil_append, kn1] at D3 y3 ⊢
  rw [show nearF 5 = 5 by decide] at D3
  obtain ⟨s1, s2, kk1, kk2, rfl⟩ := y3.vals
  dsimp only [Option.getD_none, kyZ, Option.isSome_none]
  simp -implicitDefEqProofs -dsimp only [tb_at, Option.isSome_none, vcS, ↓vcP1, ↓vcP2, ↓reduceIte, reduceCtorEq, Nat.reduceLT, Nat.reduceLeDiff, Nat.reduceEqDiff, Nat.reduceAdd, Nat.reduceSub, Nat.reduceMul, Int.reduceLT, Int.reduceLE, Int.reduceEq, Int.reduceToNat, Int.reduceAdd, Int.reduceSub, Int.reduceNeg, List.reduceReplicate, Nat.reducePow, Int.reduceMul]
  generalize hx : some (Ob.box _) = X
  clear hx
  have D4 := (D3.fin0 [X]).2.1
  refine ydue_K D4 (by omega) ?_
  rw [if_neg (by simp)]
  simp -implicitDefEqProofs -dsimp only [tb_at, vcS, ↓vcP1, ↓vcP2, ↓reduceIte, reduceCtorEq, Nat.reduceLT, Nat.reduceLeDiff, Nat.reduceEqDiff, Nat.reduceAdd, Nat.reduceSub, Nat.reduceMul, Int.reduceLT, Int.reduceLE, Int.reduceEq, Int.reduceToNat, Int.reduceAdd, Int.reduceSub, Int.reduceNeg, List.reduceReplicate, Nat.reducePow, Int.reduceMul]
  refine ytick_K (now := 54) D4 (by omega) nb1 fun T5 d5 v5 k5 D5 n5 y5 => ?_
  rw [kn2] at D5 y5 ⊢
  obtain ⟨s3, s4, kk3, kk4, rfl⟩ := y5.vals
  dsimp only [Option.getD_none, kyZ, Option.isSome_none]
  simp -implicitDefEqProofs -dsimp only [tb_at, Option.isSome_none, vcS, ↓vcP1, ↓vcP2, ↓reduceIte, reduceCtorEq, Nat.reduceLT, Nat.reduceLeDiff, Nat.reduceEqDiff, Nat.reduceAdd, Nat.reduceSub, Nat.reduceMul, Int.reduceLT, Int.reduceLE, Int.reduceEq, Int.reduceToNat, Int.reduceAdd, Int.reduceSub, Int.reduceNeg, List.reduceReplicate, Nat.reducePow, Int.reduceMul]
  generalize hx : some (Ob.box _) = X6
  clear hx
  have D6 := (D5.fin0 [X6]).2.1
  refine ytick_K (now := 55) D6 (by omega) nb1 fun T7 d7 v7 k7 D7 n7 y7 => ?_
  rw [kn3] at D7 y7 ⊢
  obtain ⟨s5, s6, kk5, kk6, rfl⟩ := y7.vals
  dsimp only [Option.getD_some, Option.isSome_some]
  simp -implicitDefEqProofs -dsimp only [tb_at, Option.isSome_some, vcS, ↓vcP1, ↓vcP2, ↓reduceIte, reduceCtorEq, Nat.reduceLT, Nat.reduceLeDiff, Nat.reduceEqDiff, Nat.reduceAdd, Nat.reduceSub, Nat.reduceMul, Int.reduceLT, Int.reduceLE, Int.reduceEq, Int.reduceToNat, Int.reduceAdd, Int.reduceSub, Int.reduceNeg, List.reduceReplicate, Nat.reducePow, Int.reduceMul]
  have D8 := (D7.fin0 [some (Ob.box [.int .i64 0, .str viMoveB, .sl s5 (intRows .u8 [27]) kk5, .int .i32 0, .sl s6 (intRows .i32 []) kk6])]).2.1
  have B8 := tb_get0 T7 [] (some (Ob.box [.int .i64 0, .str viMoveB, .sl s5 (intRows .u8 [27]) kk5, .int .i32 0, .sl s6 (intRows .i32 []) kk6]))
  have ho7 := tb_lt D7.box
  have nn7 : ∀ q off m, d7 = .own q off m → T2.length ≤ q ∧ q < T7.length := fun q off m e => by
    refine ⟨?_, ?_⟩
    · have l3 := k3.1
      have l5 := k5.1
      simp at l5
      rcases n7 q off m e with h | h
      · simp at h; omega
      · rcases n5 q off m (by rw [← h, e]) with h5 | h5
        · simp at h5; omega
        · have := n3 q off m (by rw [← h5, ← h, e]); omega
    · rcases D7.lf with ⟨q2, e2, h2⟩ | ⟨_, e2⟩
      · rw [e2] at e; injection e with e3; have := tb_lt h2; omega
      · rw [e2] at e; cases e
  refine yfeed_K (L := LI) (S := []) (b := 120) (now := 60) D8 (by omega) (by simp) nb2 fun T9 d9 v9 ids9 hi9 k9 D9 n9 y9 => ?_
  rw [List.nil_append, kn4] at D9 y9 ⊢
  have B9 := k9.at B8 (fun hm => by
    rcases hi9 _ hm with h | ⟨off, m, h⟩
    · omega
    · have := nn7 _ _ _ h; omega)
  obtain ⟨s7, s8, kk7, kk8, rfl⟩ := y9.vals
  dsimp only [Option.getD_some, Option.isSome_some, kyR]
  have hvm : (viMoveB == [118, 105, 45, 109, 111, 118, 101, 109, 101, 110, 116, 45, 109, 111, 100, 101]) = true := by decide
  simp -implicitDefEqProofs -dsimp only [tb_at, tb_all B9, Option.isSome_some, Bool.not_false, hvm, beq_self_eq_true, vcS, ↓vcP1, ↓vcP2, ↓reduceIte, reduceCtorEq, Nat.reduceLT, Nat.reduceLeDiff, Nat.reduceEqDiff, Nat.reduceAdd, Nat.reduceSub, Nat.reduceMul, Int.reduceLT, Int.reduceLE, Int.reduceEq, Int.reduceToNat, Int.reduceAdd, Int.reduceSub, Int.reduceNeg, List.reduceReplicate, Nat.reducePow, Int.reduceMul]
  generalize hx : some (Ob.box _) = X10
  clear hx
  have D10 := (D9.fin0 [X10]).2.1
  refine yleft_K D10 ?_
  simp -implicitDefEqProofs -dsimp only [tb_at, List.length_nil, Int.natCast_zero, vcS, ↓vcP1, ↓vcP2, ↓reduceIte, reduceCtorEq, Nat.reduceLT, Nat.reduceLeDiff, Nat.reduceEqDiff, Nat.reduceAdd, Nat.reduceSub, Nat.reduceMul, Int.reduceLT, Int.reduceLE, Int.reduceEq, Int.reduceToNat, Int.reduceAdd, Int.reduceSub, Int.reduceNeg, List.reduceReplicate, Nat.reducePow, Int.reduceMul]
  have K2 := k1.new k2 (by simp)
  have l1 := k1.1
  have l2 := k2.1
  have K3 := K2.new k3 (fun x hx => by
    rcases hi3 x hx with h | ⟨off, m, h⟩
    · omega
    · cases h)
  have K5 := (K3.newApp [X]).new k5 (by simp; omega)
  have K7 := (K5.newApp [X6]).new k7 (by simp; omega)
  have K9 := (K7.newApp _).new k9 (fun x hx => by
    rcases hi9 x hx with h | ⟨off, m, h⟩
    · omega
    · have := nn7 _ _ _ h; omega)
  exact ⟨by simpa using (K9.newApp [X10]).1, hK _ (K9.newApp [X10])⟩
noncomputable def rc_ytimes_l0 : RC := (.seq (.seq (.reg [⟨some 31, .mov (.t 9), none, false⟩, ⟨some 32, .mov (.t 8), none, false⟩, ⟨some 33, .lenS (.t 32), none, false⟩, ⟨some 34, .bin .lss (.t 31) (.t 33), none, false⟩] 0 [0, 1, 2, 7, 8, 9, 34]) (.cond (.t 34) .skip (.ext 0))) (.seq (.blk 1 (.seq (.reg [⟨some 38, .mov (.t 7), none, false⟩, ⟨some 39, .mov (.t 8), none, false⟩, ⟨some 40, .mov (.t 9), none, false⟩, ⟨some 41, .idxS (.t 39) (.t 40), none, false⟩, ⟨some 42, .mov (.t 0), none, false⟩, ⟨some 43, .conv (.i2i .i64) (.t 42), none, false⟩, ⟨some 44, .call 18 [.t 38, .t 41, .t 43], none, false⟩, ⟨some 37, .mov (.t 44), none, false⟩, ⟨some 45, .ext (.t 37) 0, none, false⟩, ⟨some 46, .ext (.t 37) 1, none, false⟩, ⟨some 10, .alloc [.int .i64 0, .str [], .sl 0 [] .nil, .int .i32 0, .sl 0 [] .nil], none, false⟩, ⟨none, .store 5 (.t 10) (.t 45), none, false⟩, ⟨some 11, .mov (.t 46), none, false⟩] 0 [0, 1, 2, 7, 8, 9, 11]) (.seq (.reg [⟨some 47, .mov (.t 11), none, false⟩] 0 [0, 1, 2, 7, 8, 9, 47]) (.cond (.t 47) (.seq (.reg [⟨some 6, .mov (.c (.bool false)), none, false⟩] 0 [6]) .ret) .skip)))) (.reg [⟨some 35, .mov (.t 9), none, false⟩, ⟨some 36, .bin .add (.t 35) (.c (.int .i64 1)), none, false⟩, ⟨some 9, .mov (.t 36), none, false⟩] 0 [0, 1, 2, 7, 8, 9])))
noncomputable def rc_ytimes : RFn := ⟨3, 143, .seq (.reg [⟨some 6, .mov (.c (.bool false)), none, false⟩] 0 [0, 1, 2]) (.seq (.seq (.reg [⟨some 22, .call 8 [], none, false⟩, ⟨some 23, .un .not (.t 22), none, false⟩] 0 [0, 1, 2, 23]) (.cond (.t 23) (.seq (.reg [⟨some 6, .mov (.c (.bool false)), none, false⟩] 0 [6]) .ret) .skip)) (.seq (.reg [⟨some 24, .call 10 [.c (.int .i64 1)], none, false⟩, ⟨some 25, .call 11 [.t 24], none, false⟩, ⟨some 7, .mov (.t 25), none, false⟩] 0 [0, 1, 2, 7]) (.seq (.reg [⟨some 26, .mkrow 1 [.str []] 4 [(0, (.c (.str [(27)]))), (1, (.c (.str [(27), (91)]))), (2, (.c (.str [(195)]))), (3, (.c (.str [(230), (188)])))], none, false⟩, ⟨some 27, .mov (.t 2), none, false⟩, ⟨some 28, .bin .rem (.t 27) (.c (.int .u8 4)), none, false⟩, ⟨some 29, .iaddr 1 (.t 26) (.t 28), none, false⟩, ⟨some 30, .load false 1 (.t 29), none, false⟩, ⟨some 8, .mov (.t 30), none, false⟩] 0 [0, 1, 2, 7, 8]) (.seq (.seq (.reg [⟨some 9, .mov (.c (.int .i64 0)), none, false⟩] 0 [0, 1, 2, 7, 8, 9]) (.blk 0 (.loop rc_ytimes_l0))) (.seq (.reg [⟨some 49, .mov (.t 7), none, false⟩, ⟨some 50, .call 22 [.t 49], none, false⟩, ⟨some 48, .mov (.t 50), none, false⟩, ⟨some 51, .ext (.t 48) 0, none, false⟩, ⟨some 52, .ext (.t 48) 1, none, false⟩, ⟨some 12, .mov (.t 51), none, false⟩, ⟨some 13, .mov (.t 52), none, false⟩] 0 [0, 1, 2, 7, 12, 13]) (.seq (.reg [⟨some 54, .mov (.t 7), none, false⟩, ⟨some 55, .mov (.t 0), none, false⟩, ⟨some 56, .conv (.i2i .i64) (.t 55), none, false⟩, ⟨some 57, .mov (.t 1), none, false⟩, ⟨some 58, .bin .rem (.t 57) (.c (.int .u8 50)), none, false⟩, ⟨some 59, .conv (.i2i .i64) (.t 58), none, false⟩, ⟨some 60, .bin .add (.t 56) (.t 59), none, false⟩, ⟨some 61, .call 13 [.t 54, .t 60], none, false⟩, ⟨some 53, .mov (.t 61), none, false⟩, ⟨some 62, .ext (.t 53) 0, none, false⟩, ⟨some 63, .ext (.t 53) 1, none, false⟩, ⟨some 14, .alloc [.int .i64 0, .str [], .sl 0 [] .nil, .int .i32 0, .sl 0 [] .nil], none, false⟩, ⟨none, .store 5 (.t 14) (.t 62), none, false⟩, ⟨some 15, .mov (.t 63), none, false⟩] 0 [0, 2, 7, 12, 13, 15]) (.seq (.reg [⟨some 65, .mov (.t 7), none, false⟩, ⟨some 66, .mov (.t 0), none, false⟩, ⟨some 67, .conv (.i2i .i64) (.t 66), none, false⟩, ⟨some 68, .bin .add (.t 67) (.c (.int .i64 50)), none, false⟩, ⟨some 69, .call 13 [.t 65, .t 68], none, false⟩, ⟨some 64, .mov (.t 69), none, false⟩, ⟨some 70, .ext (.t 64) 0, none, false⟩, ⟨some 71, .ext (.t 64) 1, none, false⟩, ⟨some 16, .alloc [.int .i64 0, .str [], .sl 0 [] .nil, .int .i32 0, .sl 0 [] .nil], none, false⟩, ⟨none, .store 5 (.t 16) (.t 70), none, false⟩, ⟨some 17, .mov (.t 71), none, false⟩] 0 [0, 2, 7, 12, 13, 15, 16, 17]) (.seq (.seq (.reg [⟨some 72, .mov (.t 13), none, false⟩, ⟨some 73, .un .not (.t 72), none, false⟩, ⟨some 74, .mov (.t 73), none, false⟩, ⟨some 75, .mov (.t 12), some (74, false), false⟩, ⟨some 76, .mov (.t 0), some (74, false), false⟩, ⟨some 77, .conv (.i2i .i64) (.t 76), some (74, false), false⟩, ⟨some 78, .bin .add (.t 77) (.c (.int .i64 50)), some (74, false), false⟩, ⟨some 79, .bin .neq (.t 75) (.t 78), some (74, false), false⟩, ⟨some 80, .pick (.t 74) (.c (.bool true)) (.t 79), none, false⟩, ⟨some 81, .mov (.t 80), none, false⟩, ⟨some 82, .mov (.t 15), some (81, false), false⟩, ⟨some 83, .pick (.t 81) (.c (.bool true)) (.t 82), none, false⟩, ⟨some 84, .mov (.t 83), none, false⟩, ⟨some 85, .mov (.t 17), some (84, false), false⟩, ⟨some 86, .un .not (.t 85), some (84, false), false⟩, ⟨some 87, .pick (.t 84) (.c (.bool true)) (.t 86), none, false⟩] 0 [0, 2, 7, 16, 87]) (.cond (.t 87) (.seq (.reg [⟨some 6, .mov (.c (.bool false)), none, false⟩] 0 [6]) .ret) .skip)) (.seq (.seq (.reg [⟨some 88, .mov (.t 2), none, false⟩, ⟨some 89, .bin .rem (.t 88) (.c (.int .u8 4)), none, false⟩, ⟨some 90, .bin .geq (.t 89) (.c (.int .u8 2)), none, false⟩] 0 [0, 2, 7, 16, 90]) (.cond (.t 90) (.seq (.reg [⟨some 92, .mov (.t 7), none, false⟩, ⟨some 93, .call 22 [.t 92], none, false⟩, ⟨some 91, .mov (.t 93), none, false⟩, ⟨some 94, .ext (.t 91) 0, none, false⟩, ⟨some 95, .ext (.t 91) 1, none, false⟩, ⟨some 18, .mov (.t 94), none, false⟩, ⟨some 19, .mov (.t 95), none, false⟩] 0 [16, 19]) (.seq (.reg [⟨some 96, .faddr 0 (.t 16), none, false⟩, ⟨some 97, .load false 1 (.t 96), none, false⟩, ⟨some 98, .bin .eql (.t 97) (.c (.int .i64 1)), none, false⟩, ⟨some 99, .mov (.t 98), none, false⟩, ⟨some 100, .faddr 3 (.t 16), some (99, true), false⟩, ⟨some 101, .load false 1 (.t 100), some (99, true), false⟩, ⟨some 102, .bin .eql (.t 101) (.c (.int .i32 65533)), some (99, true), false⟩, ⟨some 103, .pick (.t 99) (.t 102) (.c (.bool false)), none, false⟩, ⟨some 104, .mov (.t 103), none, false⟩, ⟨some 105, .mov (.t 19), some (104, true), false⟩, ⟨some 106, .un .not (.t 105), some (104, true), false⟩, ⟨some 107, .pick (.t 104) (.t 106) (.c (.bool false)), none, false⟩, ⟨some 6, .mov (.t 107), none, false⟩] 0 [6]) .ret)) .skip)) (.seq (.seq (.reg [⟨some 108, .faddr 1 (.t 16), none, false⟩, ⟨some 109, .load false 1 (.t 108), none, false⟩, ⟨some 110, .bin .neq (.t 109) (.c (.str [(118), (105), (45), (109), (111), (118), (101), (109), (101), (110), (116), (45), (109), (111), (100), (101)])), none, false⟩] 0 [0, 2, 7, 110]) (.cond (.t 110) (.seq (.reg [⟨some 6, .mov (.c (.bool false)), none, false⟩] 0 [6]) .ret) .skip)) (.seq (.reg [⟨some 112, .mov (.t 7), none, false⟩, ⟨some 113, .mov (.t 0), none, false⟩, ⟨some 114, .conv (.i2i .i64) (.t 113), none, false⟩, ⟨some 115, .bin .add (.t 114) (.c (.int .i64 50)), none, false⟩, ⟨some 116, .call 13 [.t 112, .t 115], none, false⟩, ⟨some 111, .mov (.t 116), none, false⟩, ⟨some 117, .ext (.t 111) 0, none, false⟩, ⟨some 118, .ext (.t 111) 1, none, false⟩, ⟨some 20, .alloc [.int .i64 0, .str [], .sl 0 [] .nil, .int .i32 0, .sl 0 [] .nil], none, false⟩, ⟨none, .store 5 (.t 20) (.t 117), none, false⟩, ⟨some 21, .mov (.t 118), none, false⟩] 0 [2, 7, 20, 21]) (.seq (.reg [⟨some 119, .mov (.t 21), none, false⟩, ⟨some 120, .mov (.t 2), none, false⟩, ⟨some 121, .bin .rem (.t 120) (.c (.int .u8 4)), none, false⟩, ⟨some 122, .bin .eql (.t 121) (.c (.int .u8 1)), none, false⟩, ⟨some 123, .eqB false (.t 119) (.t 122), none, false⟩, ⟨some 124, .mov (.t 123), none, false⟩, ⟨some 125, .mov (.t 21), some (124, true), false⟩, ⟨some 126, .un .not (.t 125), some (124, true), false⟩, ⟨some 127, .mov (.t 126), some (124, true), false⟩, ⟨some 128, .faddr 0 (.t 20), some (127, false), false⟩, ⟨some 129, .load false 1 (.t 128), some (127, false), false⟩, ⟨some 130, .bin .eql (.t 129) (.c (.int .i64 1)), some (127, false), false⟩, ⟨some 131, .mov (.t 130), some (127, false), false⟩, ⟨some 132, .faddr 3 (.t 20), some (131, true), false⟩, ⟨some 133, .load false 1 (.t 132), some (131, true), false⟩, ⟨some 134, .bin .eql (.t 133) (.c (.int .i32 91)), some (131, true), false⟩, ⟨some 135, .pick (.t 131) (.t 134) (.c (.bool false)), some (127, false), false⟩, ⟨some 136, .pick (.t 127) (.c (.bool true)) (.t 135), some (124, true), false⟩, ⟨some 137, .pick (.t 124) (.t 136) (.c (.bool false)), none, false⟩, ⟨some 138, .mov (.t 137), none, false⟩, ⟨some 139, .mov (.t 7), some (138, true), false⟩, ⟨some 140, .call 24 [.t 139], some (138, true), false⟩, ⟨some 141, .bin .eql (.t 140) (.c (.int .i64 0)), some (138, true), false⟩, ⟨some 142, .pick (.t 138) (.t 141) (.c (.bool false)), none, false⟩, ⟨some 6, .mov (.t 142), none, false⟩] 0 [6]) .ret)))))))))))), [.t 6]⟩
theorem rc_ytimes_ok : compFn PG.P [⟨0, 0, [0, 1, 2], []⟩, ⟨1, 0, [0, 1, 2, 23], []⟩, ⟨2, 0, [6], []⟩, ⟨3, 0, [0, 1, 2, 7], []⟩, ⟨4, 0, [0, 1, 2, 7, 8], []⟩, ⟨5, 0, [0, 1, 2, 7, 8, 9], []⟩, ⟨6, 0, [0, 1, 2, 7, 8, 9, 34], []⟩, ⟨7, 0, [0, 1, 2, 7, 8, 9], []⟩, ⟨8, 0, [0, 1, 2, 7, 8, 9, 11], []⟩, ⟨9, 0, [0, 1, 2, 7, 8, 9, 47], []⟩, ⟨10, 0, [6], []⟩, ⟨11, 0, [0, 1, 2, 7, 12, 13], []⟩, ⟨12, 0, [0, 2, 7, 12, 13, 15], []⟩, ⟨13, 0, [0, 2, 7, 12, 13, 15, 16, 17], []⟩, ⟨14, 0, [0, 2, 7, 16, 87], []⟩, ⟨15, 0, [6], []⟩, ⟨16, 0, [0, 2, 7, 16, 90], []⟩, ⟨17, 0, [16, 19], []⟩, ⟨18, 0, [6], []⟩, ⟨19, 0, [0, 2, 7, 110], []⟩, ⟨20, 0, [6], []⟩, ⟨21, 0, [2, 7, 20, 21], []⟩, ⟨22, 0, [6], []⟩] 7 = some rc_ytimes := by kernel_rfl
def timeS (k : Nat) : List UInt8 := [[27], [27, 91], [195], [230, 188]].getD k []
theorem times1 : ∀ j < 4, ∀ i < (timeS j).length, yfirF LI false ((numsB (timeS j)).take (i + 1)) = (none, (numsB (timeS j)).take (i + 1)) ∧ ((numsB (timeS j)).take (i + 1)).take (longG LI ((numsB (timeS j)).take (i + 1))) ≠ beginL := by decide +kernel
theorem times_row {j : Nat} (hj : j < 4) : [[DV.str [27]], [DV.str [27, 91]], [DV.str [195]], [DV.str [230, 188]]][j]? = some [.str (timeS j)] := by
  match j with
  | 0 => rfl
  | 1 => rfl
  | 2 => rfl
  | 3 => rfl
theorem times_len {j : Nat} (hj : j < 4) : (timeS j).length ≤ 2 ∧ 1 ≤ (timeS j).length := by
  match j with
  | 0 => decide
  | 1 => decide
  | 2 => decide
  | 3 => decide
theorem nearF_id {n : Int} (h : 0 ≤ n ∧ n ≤ 4611686018427387904) : nearF n = n := by
  unfold nearF
  rw [Int.max_eq_left h.1, Int.min_eq_left h.2]
theorem numsB_snoc {S : List UInt8} {i : Nat} (h : i < S.length) : (numsB S).take (i + 1) = (numsB S).take i ++ [((S.getD i 0).toNat : Int)] := by
  rw [List.take_succ_eq_append_getElem (by rw [numsB_len]; exact h)]
  simp [numsB, List.getD_eq_getElem?_getD, List.getElem?_eq_getElem h]
def timeK (j : Nat) : Option Ky × List Int := if j < 2 then (some ⟨0, viMoveB, [27], 0, []⟩, if j = 1 then [91] else []) else (some (kyR 65533), [])
theorem times2 : ∀ j < 4, yfirF LI true (numsB (timeS j)) = timeK j ∧ (numsB (timeS j)).take (longG LI (numsB (timeS j))) ≠ beginL := by decide +kernel
theorem times3 : yfirF LI true [91] = (some (kyR 91), []) ∧ [91].take (longG LI [91]) ≠ beginL := by decide +kernel
theorem ktimes_K {T : Objs} {a e k : Int} {K : DV → Objs → Prop} (ha : 0 ≤ a ∧ a ≤ 4294967295) (he : 0 ≤ e ∧ e ≤ 255) (hk : 0 ≤ k ∧ k ≤ 255) (hK : ∀ T', K (.bool true) T') :
    CallK PG 7 [.int .u32 a, .int .u8 e, .int .u8 k] T K := by
  obtain ⟨j, hj4, hj⟩ : ∃ j : Nat, j < 4 ∧ k.tmod 4 = (j : Int) := ⟨(k % 4).toNat, by omega, by rw [Int.tmod_eq_emod_of_nonneg hk.1]; omega⟩
  refine CallK.of_fn FOk.nil rc_ytimes_ok (by simp [rc_ytimes]) ?_
  unfold rc_ytimes
  dsimp only
  simp -implicitDefEqProofs -dsimp only [vcS, ↓vcP1, ↓vcP2, ↓reduceIte, reduceCtorEq, Nat.reduceLT, Nat.reduceLeDiff, Nat.reduceEqDiff, Nat.reduceAdd, Nat.reduceSub, Nat.reduceMul, Int.reduceLT, Int.reduceLE, Int.reduceEq, Int.reduceToNat, Int.reduceAdd, Int.reduceSub, Int.reduceNeg, List.reduceReplicate, Nat.reducePow, Int.reduceMul]
  refine yknown_K fun T1 k1 => ?_
  simp -implicitDefEqProofs -dsimp only [tb_at, Bool.not_true, vcS, ↓vcP1, ↓vcP2, ↓reduceIte, reduceCtorEq, Nat.reduceLT, Nat.reduceLeDiff, Nat.reduceEqDiff, Nat.reduceAdd, Nat.reduceSub, Nat.reduceMul, Int.reduceLT, Int.reduceLE, Int.reduceEq, Int.reduceToNat, Int.reduceAdd, Int.reduceSub, Int.reduceNeg, List.reduceReplicate, Nat.reducePow, Int.reduceMul]
  refine usual_K (m := 1) (by omega) fun T2 q hq g k2 => ?_
  simp -implicitDefEqProofs -dsimp only [tb_at, vcS, ↓vcP1, ↓vcP2, ↓reduceIte, reduceCtorEq, Nat.reduceLT, Nat.reduceLeDiff, Nat.reduceEqDiff, Nat.reduceAdd, Nat.reduceSub, Nat.reduceMul, Int.reduceLT, Int.reduceLE, Int.reduceEq, Int.reduceToNat, Int.reduceAdd, Int.reduceSub, Int.reduceNeg, List.reduceReplicate, Nat.reducePow, Int.reduceMul]
  refine ynew_K g (by decide +kernel) (usual_in 1 (by omega)) fun T3 o c h k3 ho hc hh D3 => ?_
  have hj' : (j : Int) < 4 := by omega
  have hj0 : (0 : Int) ≤ j := by omega
  simp -implicitDefEqProofs -dsimp only [tb_at, hj, hj', hj0, times_row hj4, vcS, ↓vcP1, ↓vcP2, ↓reduceIte, reduceCtorEq, Nat.reduceLT, Nat.reduceLeDiff, Nat.reduceEqDiff, Nat.reduceAdd, Nat.reduceSub, Nat.reduceMul, Int.reduceLT, Int.reduceLE, Int.reduceEq, Int.reduceToNat, Int.reduceAdd, Int.reduceSub, Int.reduceNeg, List.reduceReplicate, Nat.reducePow, Int.reduceMul]
  generalize hx : some (Ob.arr 1 [_, _, _, _]) = X
  clear hx
  have D4 := (D3.fin0 [X]).2.1
  have hwa : IntKind.i64.wrap a = a := wI64 (by omega) (by omega)
  have L4 : T.length ≤ (T3 ++ [X]).length := by have := k1.1; have := k2.1; have := k3.1; simp; omega
  generalize T3 ++ [X] = T4 at *
  refine LoopWp.inv FOk.nil (S := fun s : Objs × Nat => ⟨[(0, .int .u32 a), (1, .int .u8 e), (2, .int .u8 k), (7, .ptr o 0 0), (8, .str (timeS j)), (9, .int .i64 s.2)], s.1⟩)
    (I := fun s => s.2 ≤ (timeS j).length ∧ T.length ≤ s.1.length ∧ ∃ d, DecAt s.1 o c h d LI ((numsB (timeS j)).take s.2) false 0 (if s.2 = 0 then 0 else a)) (μ := fun s => (timeS j).length - s.2) (T4, 0) ⟨by simp, L4, _, D4⟩ ?_ ?_
  · simp -implicitDefEqProofs -dsimp only [vcS, ↓vcP1, ↓vcP2, ↓reduceIte, reduceCtorEq, Nat.reduceLT, Nat.reduceLeDiff, Nat.reduceEqDiff, Nat.reduceAdd, Nat.reduceSub, Nat.reduceMul, Int.reduceLT, Int.reduceLE, Int.reduceEq, Int.reduceToNat, Int.reduceAdd, Int.reduceSub, Int.reduceNeg, List.reduceReplicate, Nat.reducePow, Int.reduceMul]
  · intro ⟨T5, i⟩ ⟨i1, i2, d5, D5⟩
    dsimp only at i1 i2 D5 ⊢
    obtain ⟨tl1, tl2⟩ := times_len hj4
    by_cases hc : i < (timeS j).length
    · obtain ⟨t1, t2⟩ := times1 j hj4 i hc
      have hc' : (i : Int) < (timeS j).length := by omega
      have hc0 : (0 : Int) ≤ i := by omega
      have hw : IntKind.i64.wrap ((i : Int) + 1) = ((i + 1 : Nat) : Int) := by rw [wI64 (by omega) (by omega)]; omega
      unfold rc_ytimes_l0
      simp -implicitDefEqProofs -dsimp only [tb_at, hc', hc0, hw, hwa, vcS, ↓vcP1, ↓vcP2, ↓reduceIte, reduceCtorEq, Nat.reduceLT, Nat.reduceLeDiff, Nat.reduceEqDiff, Nat.reduceAdd, Nat.reduceSub, Nat.reduceMul, Int.reduceLT, Int.reduceLE, Int.reduceEq, Int.reduceToNat, Int.reduceAdd, Int.reduceSub, Int.reduceNeg, List.reduceReplicate, Nat.reducePow, Int.reduceMul]
      rw [numsB_snoc hc] at t1 t2
      refine ⟨hc, yfeed_K D5 (by have := ((timeS j).getD i 0).toNat_lt; omega) (by rw [List.length_take, numsB_len]; omega) t2 fun T6 d6 v6 ids6 hi6 k6 D6 n6 y6 => ?_⟩
      rw [t1] at D6 y6 ⊢
      obtain ⟨s1, s2, kk1, kk2, rfl⟩ := y6.vals
      dsimp only [Option.getD_none, kyZ, Option.isSome_none]
      simp -implicitDefEqProofs -dsimp only [tb_at, Option.isSome_none, hw, vcS, ↓vcP1, ↓vcP2, ↓reduceIte, reduceCtorEq, Nat.reduceLT, Nat.reduceLeDiff, Nat.reduceEqDiff, Nat.reduceAdd, Nat.reduceSub, Nat.reduceMul, Int.reduceLT, Int.reduceLE, Int.reduceEq, Int.reduceToNat, Int.reduceAdd, Int.reduceSub, Int.reduceNeg, List.reduceReplicate, Nat.reducePow, Int.reduceMul]
      rw [nearF_id (by omega)] at D6
      generalize hx : some (Ob.box _) = X6
      clear hx
      have D7 := (D6.fin0 [X6]).2.1
      have l6 := k6.1
      refine ⟨(T6 ++ [X6], i + 1), ⟨rfl, objsWk_refl _⟩, ⟨by dsimp only; omega, by simp; omega, d6, ?_⟩, by dsimp only; omega⟩
      dsimp only
      rw [if_neg (by omega), numsB_snoc hc]
      exact D7
    · have hc' : ¬ (i : Int) < (timeS j).length := by omega
      have : i = (timeS j).length := by omega
      subst this
      rw [if_neg (by omega), List.take_of_length_le (by rw [numsB_len]; omega)] at D5
      unfold rc_ytimes_l0
      simp -implicitDefEqProofs -dsimp only [tb_at, hc', hwa, vcS, ↓vcP1, ↓vcP2, ↓reduceIte, reduceCtorEq, Nat.reduceLT, Nat.reduceLeDiff, Nat.reduceEqDiff, Nat.reduceAdd, Nat.reduceSub, Nat.reduceMul, Int.reduceLT, Int.reduceLE, Int.reduceEq, Int.reduceToNat, Int.reduceAdd, Int.reduceSub, Int.reduceNeg, List.reduceReplicate, Nat.reducePow, Int.reduceMul]
      have hne : numsB (timeS j) ≠ [] := fun h => by have := congrArg List.length h; rw [numsB_len, List.length_nil] at this; omega
      have he5 : 0 ≤ e.tmod 50 ∧ e.tmod 50 < 50 := by rw [Int.tmod_eq_emod_of_nonneg he.1]; omega
      obtain ⟨q1, q2⟩ := times2 j hj4
      have hw2 : IntKind.i64.wrap (e.tmod 50) = e.tmod 50 := wI64 (by omega) (by omega)
      have hw3 : IntKind.i64.wrap (a + e.tmod 50) = a + e.tmod 50 := wI64 (by omega) (by omega)
      have hw4 : IntKind.i64.wrap (a + 50) = a + 50 := wI64 (by omega) (by omega)
      have q3 : ytickF LI a (a + e.tmod 50) (numsB (timeS j)) = (none, numsB (timeS j)) := if_pos (.inr (by rw [nearF_id (by omega)]; omega))
      have q4 : ytickF LI a (a + 50) (numsB (timeS j)) = timeK j := by rw [← q1]; exact if_neg (by rintro (h | h); exact hne h; rw [nearF_id (by omega)] at h; omega)
      refine ydue_K D5 (by omega) ?_
      rw [if_neg hne]
      simp -implicitDefEqProofs -dsimp only [tb_at, hwa, hw2, hw3, hw4, vcS, ↓vcP1, ↓vcP2, ↓reduceIte, reduceCtorEq, Nat.reduceLT, Nat.reduceLeDiff, Nat.reduceEqDiff, Nat.reduceAdd, Nat.reduceSub, Nat.reduceMul, Int.reduceLT, Int.reduceLE, Int.reduceEq, Int.reduceToNat, Int.reduceAdd, Int.reduceSub, Int.reduceNeg, List.reduceReplicate, Nat.reducePow, Int.reduceMul]
      refine ytick_K D5 (by omega) q2 fun T6 d6 v6 k6 D6 n6 y6 => ?_
      rw [q3] at D6 y6 ⊢
      obtain ⟨s1, s2, kk1, kk2, rfl⟩ := y6.vals
      dsimp only [Option.getD_none, kyZ, Option.isSome_none]
      simp -implicitDefEqProofs -dsimp only [tb_at, Option.isSome_none, hwa, hw2, hw3, hw4, vcS, ↓vcP1, ↓vcP2, ↓reduceIte, reduceCtorEq, Nat.reduceLT, Nat.reduceLeDiff, Nat.reduceEqDiff, Nat.reduceAdd, Nat.reduceSub, Nat.reduceMul, Int.reduceLT, Int.reduceLE, Int.reduceEq, Int.reduceToNat, Int.reduceAdd, Int.reduceSub, Int.reduceNeg, List.reduceReplicate, Nat.reducePow, Int.reduceMul]
      generalize hx : some (Ob.box _) = X6
      clear hx
      have D7 := (D6.fin0 [X6]).2.1
      have L7 : T.length ≤ (T6 ++ [X6]).length := by have := k6.1; simp; omega
      generalize T6 ++ [X6] = T7 at *
      refine ytick_K D7 (by omega) q2 fun T8 d8 v8 k8 D8 n8 y8 => ?_
      rw [q4] at D8 y8 ⊢
      have l8 := k8.1
      have hjc : j = 0 ∨ j = 1 ∨ j = 2 ∨ j = 3 := by omega
      have hvm : (viMoveB == [118, 105, 45, 109, 111, 118, 101, 109, 101, 110, 116, 45, 109, 111, 100, 101]) = true := by decide
      rcases hjc with rfl | rfl | rfl | rfl
      · rw [show timeK 0 = (some ⟨0, viMoveB, [27], 0, []⟩, []) from rfl] at D8 y8 ⊢
        obtain ⟨s3, s4, kk3, kk4, rfl⟩ := y8.vals
        dsimp only [Option.getD_some, Option.isSome_some]
        simp -implicitDefEqProofs -dsimp only [tb_at, hj, hwa, hw4, hvm, vcS, ↓vcP1, ↓vcP2, ↓reduceIte, reduceCtorEq, Nat.reduceLT, Nat.reduceLeDiff, Nat.reduceEqDiff, Nat.reduceAdd, Nat.reduceSub, Nat.reduceMul, Int.reduceLT, Int.reduceLE, Int.reduceEq, Int.reduceToNat, Int.reduceAdd, Int.reduceSub, Int.reduceNeg, List.reduceReplicate, Nat.reducePow, Int.reduceMul]
        generalize hx : some (Ob.box _) = X8
        clear hx
        have D9 := (D8.fin0 [X8]).2.1
        have L9 : T.length ≤ (T8 ++ [X8]).length := by simp; omega
        generalize T8 ++ [X8] = T9 at *
        refine ytick_K D9 (by omega) (by simp [beginL]) fun T10 d10 v10 k10 D10 n10 y10 => ?_
        rw [show ytickF LI a (a + 50) [] = (none, []) from if_pos (.inl rfl)] at D10 y10 ⊢
        obtain ⟨s5, s6, kk5, kk6, rfl⟩ := y10.vals
        dsimp only [Option.getD_none, kyZ, Option.isSome_none]
        simp -implicitDefEqProofs -dsimp only [tb_at, hj, vcS, ↓vcP1, ↓vcP2, ↓reduceIte, reduceCtorEq, Nat.reduceLT, Nat.reduceLeDiff, Nat.reduceEqDiff, Nat.reduceAdd, Nat.reduceSub, Nat.reduceMul, Int.reduceLT, Int.reduceLE, Int.reduceEq, Int.reduceToNat, Int.reduceAdd, Int.reduceSub, Int.reduceNeg, List.reduceReplicate, Nat.reducePow, Int.reduceMul]
        generalize hx : some (Ob.box _) = X10
        clear hx
        have l10 := k10.1
        refine yleft_K ((D10.fin0 [X10]).2.1) ?_
        simp -implicitDefEqProofs -dsimp only [tb_at, List.length_nil, Int.natCast_zero, vcS, ↓vcP1, ↓vcP2, ↓reduceIte, reduceCtorEq, Nat.reduceLT, Nat.reduceLeDiff, Nat.reduceEqDiff, Nat.reduceAdd, Nat.reduceSub, Nat.reduceMul, Int.reduceLT, Int.reduceLE, Int.reduceEq, Int.reduceToNat, Int.reduceAdd, Int.reduceSub, Int.reduceNeg, List.reduceReplicate, Nat.reducePow, Int.reduceMul]
        exact ⟨by omega, hK _⟩
      · rw [show timeK 1 = (some ⟨0, viMoveB, [27], 0, []⟩, [91]) from rfl] at D8 y8 ⊢
        obtain ⟨s3, s4, kk3, kk4, rfl⟩ := y8.vals
        dsimp only [Option.getD_some, Option.isSome_some]
        simp -implicitDefEqProofs -dsimp only [tb_at, hj, hwa, hw4, hvm, vcS, ↓vcP1, ↓vcP2, ↓reduceIte, reduceCtorEq, Nat.reduceLT, Nat.reduceLeDiff, Nat.reduceEqDiff, Nat.reduceAdd, Nat.reduceSub, Nat.reduceMul, Int.reduceLT, Int.reduceLE, Int.reduceEq, Int.reduceToNat, Int.reduceAdd, Int.reduceSub, Int.reduceNeg, List.reduceReplicate, Nat.reducePow, Int.reduceMul]
        generalize hx : some (Ob.box _) = X8
        clear hx
        have D9 := (D8.fin0 [X8]).2.1
        have L9 : T.length ≤ (T8 ++ [X8]).length := by simp; omega
        generalize T8 ++ [X8] = T9 at *
        refine ytick_K D9 (by omega) times3.2 fun T10 d10 v10 k10 D10 n10 y10 => ?_
        have q5 : ytickF LI a (a + 50) [91] = (some (kyR 91), []) := by
          rw [← times3.1]
          exact if_neg (by rintro (h | h); exact absurd h (by simp); rw [nearF_id (by omega)] at h; omega)
        rw [q5] at D10 y10 ⊢
        obtain ⟨s5, s6, kk5, kk6, rfl⟩ := y10.vals
        dsimp only [Option.getD_some, kyR, Option.isSome_some]
        simp -implicitDefEqProofs -dsimp only [tb_at, hj, Bool.not_true, vcS, ↓vcP1, ↓vcP2, ↓reduceIte, reduceCtorEq, Nat.reduceLT, Nat.reduceLeDiff, Nat.reduceEqDiff, Nat.reduceAdd, Nat.reduceSub, Nat.reduceMul, Int.reduceLT, Int.reduceLE, Int.reduceEq, Int.reduceToNat, Int.reduceAdd, Int.reduceSub, Int.reduceNeg, List.reduceReplicate, Nat.reducePow, Int.reduceMul]
        generalize hx : some (Ob.box _) = X10
        clear hx
        have l10 := k10.1
        refine yleft_K ((D10.fin0 [X10]).2.1) ?_
        simp -implicitDefEqProofs -dsimp only [tb_at, List.length_nil, Int.natCast_zero, vcS, ↓vcP1, ↓vcP2, ↓reduceIte, reduceCtorEq, Nat.reduceLT, Nat.reduceLeDiff, Nat.reduceEqDiff, Nat.reduceAdd, Nat.reduceSub, Nat.reduceMul, Int.reduceLT, Int.reduceLE, Int.reduceEq, Int.reduceToNat, Int.reduceAdd, Int.reduceSub, Int.reduceNeg, List.reduceReplicate, Nat.reducePow, Int.reduceMul]
        exact ⟨by omega, hK _⟩
      · rw [show timeK 2 = (some (kyR 65533), []) from rfl] at D8 y8 ⊢
        obtain ⟨s3, s4, kk3, kk4, rfl⟩ := y8.vals
        dsimp only [Option.getD_some, kyR, Option.isSome_some]
        simp -implicitDefEqProofs -dsimp only [tb_at, hj, hwa, hw4, hvm, vcS, ↓vcP1, ↓vcP2, ↓reduceIte, reduceCtorEq, Nat.reduceLT, Nat.reduceLeDiff, Nat.reduceEqDiff, Nat.reduceAdd, Nat.reduceSub, Nat.reduceMul, Int.reduceLT, Int.reduceLE, Int.reduceEq, Int.reduceToNat, Int.reduceAdd, Int.reduceSub, Int.reduceNeg, List.reduceReplicate, Nat.reducePow, Int.reduceMul]
        have B8 := tb_get0 T8 [] (some (Ob.box [.int .i64 1, .str [], .sl s3 (intRows .u8 []) kk3, .int .i32 65533, .sl s4 (intRows .i32 []) kk4]))
        rw [intRows_nil, intRows_nil] at B8
        refine ydue_K ((D8.fin0 _).2.1) (by omega) ?_
        rw [if_pos rfl]
        simp -implicitDefEqProofs -dsimp only [tb_at, tb_all B8, Bool.not_false, vcS, ↓vcP1, ↓vcP2, ↓reduceIte, reduceCtorEq, Nat.reduceLT, Nat.reduceLeDiff, Nat.reduceEqDiff, Nat.reduceAdd, Nat.reduceSub, Nat.reduceMul, Int.reduceLT, Int.reduceLE, Int.reduceEq, Int.reduceToNat, Int.reduceAdd, Int.reduceSub, Int.reduceNeg, List.reduceReplicate, Nat.reducePow, Int.reduceMul]
        trace_state
        exact ⟨by omega, hK _⟩
      · rw [show timeK 3 = (some (kyR 65533), []) from rfl] at D8 y8 ⊢
        obtain ⟨s3, s4, kk3, kk4, rfl⟩ := y8.vals
        dsimp only [Option.getD_some, kyR, Option.isSome_some]
        simp -implicitDefEqProofs -dsimp only [tb_at, hj, hwa, hw4, hvm, vcS, ↓vcP1, ↓vcP2, ↓reduceIte, reduceCtorEq, Nat.reduceLT, Nat.reduceLeDiff, Nat.reduceEqDiff, Nat.reduceAdd, Nat.reduceSub, Nat.reduceMul, Int.reduceLT, Int.reduceLE, Int.reduceEq, Int.reduceToNat, Int.reduceAdd, Int.reduceSub, Int.reduceNeg, List.reduceReplicate, Nat.reducePow, Int.reduceMul]
        have B8 := tb_get0 T8 [] (some (Ob.box [.int .i64 1, .str [], .sl s3 (intRows .u8 []) kk3, .int .i32 65533, .sl s4 (intRows .i32 []) kk4]))
        rw [intRows_nil, intRows_nil] at B8
        refine ydue_K ((D8.fin0 _).2.1) (by omega) ?_
        rw [if_pos rfl]
        simp -implicitDefEqProofs -dsimp only [tb_at, tb_all B8, Bool.not_false, vcS, ↓vcP1, ↓vcP2, ↓reduceIte, reduceCtorEq, Nat.reduceLT, Nat.reduceLeDiff, Nat.reduceEqDiff, Nat.reduceAdd, Nat.reduceSub, Nat.reduceMul, Int.reduceLT, Int.reduceLE, Int.reduceEq, Int.reduceToNat, Int.reduceAdd, Int.reduceSub, Int.reduceNeg, List.reduceReplicate, Nat.reducePow, Int.reduceMul]
        trace_state
        exact ⟨by omega, hK _⟩
theorem keysTimes_true (dv : List DV) (h : ConfL [(false, [.int .u32]), (false, [.int .u8]), (false, [.int .u8])] dv) {K : DV → Objs → Prop} (hK : ∀ T', K (.bool true) T') : CallK PG 7 dv [] K := by
  obtain ⟨a0, r0, rfl, h0, h⟩ := h.cons
  obtain ⟨a1, r1, rfl, h1, h⟩ := h.cons
  obtain ⟨a2, r2, rfl, h2, h⟩ := h.cons
  obtain rfl := h.nil
  obtain ⟨x, rfl, hx⟩ := confA_int h0
  obtain ⟨y, rfl, hy⟩ := confA_int h1
  obtain ⟨z, rfl, hz⟩ := confA_int h2
  trace_state
  exact ktimes_K (by simpa [IntKind.min, IntKind.max, IntKind.signed, IntKind.bits] using hx) (by simpa [IntKind.min, IntKind.max, IntKind.signed, IntKind.bits] using hy) (by simpa [IntKind.min, IntKind.max, IntKind.signed, IntKind.bits] using hz) hK
end Go.Proofs.YtdimdjcnkmkbjaaDoor
