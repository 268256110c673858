/- Texts H13, H14, H15, H16 in one. -/
import Derived.Test.YtjmnbpilnneonaaDoorN8
import Derived.Test.YtjmnbpilnneonaaDoorN4
set_option linter.unusedVariables false
set_option linter.unusedSimpArgs false
set_option maxRecDepth 10000
namespace Go.Proofs.YtjmnbpilnneonaaDoor
open Go.RowKit
noncomputable def rc_tdo : RFn := ⟨2, 70, .seq (.reg [⟨some 3, .box 6 (.t 1), none, false⟩] 0 [0, 3]) (.blk 0 (.seq (.reg [⟨some 5, .faddr 0 (.t 3), none, false⟩, ⟨some 6, .load false 1 (.t 5), none, false⟩, ⟨some 7, .bin .eql (.t 6) (.c (.int .i64 0)), none, false⟩, ⟨some 4, .mov (.t 7), none, false⟩] 0 [0, 3, 4]) (.cond (.t 4) (.reg [⟨some 8, .mov (.t 0), none, false⟩, ⟨some 9, .faddr 1 (.t 3), none, false⟩, ⟨some 10, .load false 1 (.t 9), none, false⟩, ⟨some 11, .call 31 [.t 8, .t 10], none, false⟩] 0 []) (.seq (.reg [⟨some 13, .faddr 0 (.t 3), none, false⟩, ⟨some 14, .load false 1 (.t 13), none, false⟩, ⟨some 15, .bin .eql (.t 14) (.c (.int .i64 1)), none, false⟩, ⟨some 12, .mov (.t 15), none, false⟩] 0 [0, 3, 12]) (.cond (.t 12) (.reg [⟨some 16, .mov (.t 0), none, false⟩, ⟨some 17, .faddr 2 (.t 3), none, false⟩, ⟨some 18, .load false 1 (.t 17), none, false⟩, ⟨some 19, .call 32 [.t 16, .t 18], none, false⟩] 0 []) (.seq (.reg [⟨some 21, .faddr 0 (.t 3), none, false⟩, ⟨some 22, .load false 1 (.t 21), none, false⟩, ⟨some 23, .bin .eql (.t 22) (.c (.int .i64 2)), none, false⟩, ⟨some 24, .mov (.t 23), none, false⟩, ⟨some 25, .faddr 5 (.t 3), some (24, true), false⟩, ⟨some 26, .load false 1 (.t 25), some (24, true), false⟩, ⟨some 27, .len (.t 26), some (24, true), false⟩, ⟨some 28, .bin .eql (.t 27) (.c (.int .i64 0)), some (24, true), false⟩, ⟨some 29, .pick (.t 24) (.t 28) (.c (.bool false)), none, false⟩, ⟨some 20, .mov (.t 29), none, false⟩] 0 [0, 3, 20]) (.cond (.t 20) (.reg [⟨some 30, .mov (.t 0), none, false⟩, ⟨some 31, .faddr 2 (.t 3), none, false⟩, ⟨some 32, .load false 1 (.t 31), none, false⟩, ⟨some 33, .call 33 [.t 30, .t 32], none, false⟩] 0 []) (.seq (.reg [⟨some 35, .faddr 0 (.t 3), none, false⟩, ⟨some 36, .load false 1 (.t 35), none, false⟩, ⟨some 37, .bin .eql (.t 36) (.c (.int .i64 3)), none, false⟩, ⟨some 38, .mov (.t 37), none, false⟩, ⟨some 39, .faddr 5 (.t 3), some (38, true), false⟩, ⟨some 40, .load false 1 (.t 39), some (38, true), false⟩, ⟨some 41, .len (.t 40), some (38, true), false⟩, ⟨some 42, .bin .eql (.t 41) (.c (.int .i64 0)), some (38, true), false⟩, ⟨some 43, .pick (.t 38) (.t 42) (.c (.bool false)), none, false⟩, ⟨some 44, .mov (.t 43), none, false⟩, ⟨some 45, .faddr 3 (.t 3), some (44, true), false⟩, ⟨some 46, .load false 1 (.t 45), some (44, true), false⟩, ⟨some 47, .bin .eql (.t 46) (.c (.int .u8 0)), some (44, true), false⟩, ⟨some 48, .pick (.t 44) (.t 47) (.c (.bool false)), none, false⟩, ⟨some 34, .mov (.t 48), none, false⟩] 0 [0, 3, 34]) (.cond (.t 34) (.reg [⟨some 49, .mov (.t 0), none, false⟩, ⟨some 50, .load true 6 (.t 3), none, false⟩, ⟨some 51, .call 34 [.t 49, .t 50], none, false⟩] 0 []) (.seq (.reg [⟨some 53, .faddr 0 (.t 3), none, false⟩, ⟨some 54, .load false 1 (.t 53), none, false⟩, ⟨some 55, .bin .eql (.t 54) (.c (.int .i64 3)), none, false⟩, ⟨some 56, .mov (.t 55), none, false⟩, ⟨some 57, .faddr 5 (.t 3), some (56, true), false⟩, ⟨some 58, .load false 1 (.t 57), some (56, true), false⟩, ⟨some 59, .len (.t 58), some (56, true), false⟩, ⟨some 60, .bin .eql (.t 59) (.c (.int .i64 0)), some (56, true), false⟩, ⟨some 61, .pick (.t 56) (.t 60) (.c (.bool false)), none, false⟩, ⟨some 62, .mov (.t 61), none, false⟩, ⟨some 63, .faddr 3 (.t 3), some (62, true), false⟩, ⟨some 64, .load false 1 (.t 63), some (62, true), false⟩, ⟨some 65, .bin .eql (.t 64) (.c (.int .u8 63)), some (62, true), false⟩, ⟨some 66, .pick (.t 62) (.t 65) (.c (.bool false)), none, false⟩, ⟨some 52, .mov (.t 66), none, false⟩] 0 [0, 3, 52]) (.cond (.t 52) (.reg [⟨some 67, .mov (.t 0), none, false⟩, ⟨some 68, .load true 6 (.t 3), none, false⟩, ⟨some 69, .call 35 [.t 67, .t 68], none, false⟩] 0 []) .skip))))))))))), []⟩
theorem rc_tdo_ok : compFn PG.P [⟨0, 0, [0, 3], []⟩, ⟨1, 0, [0, 3, 4], []⟩, ⟨2, 0, [], []⟩, ⟨3, 0, [0, 3, 12], []⟩, ⟨4, 0, [], []⟩, ⟨5, 0, [0, 3, 20], []⟩, ⟨6, 0, [], []⟩, ⟨7, 0, [0, 3, 34], []⟩, ⟨8, 0, [], []⟩, ⟨9, 0, [0, 3, 52], []⟩, ⟨10, 0, [], []⟩] 16 = some rc_tdo := by kernel_rfl
def doF (s : Sc) (k r b pv : Int) (ps is : List Int) : Sc :=
  if k = 0 then printF s r else if k = 1 then ctlF s b else if k = 2 ∧ is = [] then escF s b
  else if k = 3 ∧ is = [] ∧ pv = 0 then csiF s b ps
  else if k = 3 ∧ is = [] ∧ pv = 63 then (if b = 104 ∨ b = 108 then ps.foldl (modeF (decide (b = 104))) s else s)
  else s
def doP (p : Pa) (k b : Int) (is : List Int) : Pa := if k = 2 ∧ is = [] then escP b p else p
theorem doF_ok {s : Sc} (h : ScOk s) (k r b pv : Int) (ps is : List Int) : ScOk (doF s k r b pv ps is) := by
  unfold doF
  split
  · exact printF_ok h r
  split
  · exact ctlF_ok h b
  split
  · exact escF_ok h b
  split
  · exact csiF_ok h b ps
  split
  · split
    · exact modes_ok h
    · exact h
  · exact h
theorem tdo_K {T0 T : Objs} {o : Nat} {s : Sc} {p : Pa} {sz sz2 : Nat} {sk sk2 : SK} {ps is : List Int} {k r b pv : Int} {K : DV → Objs → Prop} (hr : -2147483648 ≤ r ∧ r ≤ 2147483647) (hs : sz = 1 ∨ ps = []) (hl : ps.length ≤ 1000000) (hps : ∀ k ∈ ps, 0 ≤ k ∧ k ≤ 65535) (ok : ScOk s) (h : TermAt T0 T o s p)
    (hK : ∀ T', T.length ≤ T'.length → TermAt T0 T' o (doF s k r b pv ps is) (doP p k b is) → K (.tup []) T') : CallK PG 16 [.ptr o 0 0, acD k r b pv (.sl sz (intRows .i64 ps) sk) (.sl sz2 (intRows .u8 is) sk2)] T K := by
  have one2 : DV.one (.sl sz2 (intRows .u8 is) sk2) = true := rfl
  have h1 := h.keep (Keep.app T [some (Ob.box [.int .i64 k, .int .i32 r, .int .u8 b, .int .u8 pv, .sl sz (intRows .i64 ps) sk, .sl sz2 (intRows .u8 is) sk2])] [])
  have hli : (intRows .u8 is).length = is.length := by simp [intRows]
  have hfin : ∀ T', T.length + 1 ≤ T'.length → TermAt T0 T' o (doF s k r b pv ps is) (doP p k b is) → T.length ≤ T'.length ∧ K (.tup []) T' := fun T' l t => ⟨by omega, hK T' (by omega) t⟩
  unfold acD
  rcases Decidable.em (k = 0) with rfl | n0
  · rw [show doF s 0 r b pv ps is = printF s r from rfl, show doP p 0 b is = p by simp [doP]] at hfin
    refine CallK.of_fn FOk.nil rc_tdo_ok (by simp [rc_tdo]) ?_
    unfold rc_tdo
    dsimp only
    simp -implicitDefEqProofs -dsimp only [tb_at, vcS, ↓vcP1, ↓vcP2, ↓reduceIte, reduceCtorEq, Nat.reduceLT, Nat.reduceLeDiff, Nat.reduceEqDiff, Nat.reduceAdd, Nat.reduceSub, Nat.reduceMul, Int.reduceLT, Int.reduceLE, Int.reduceEq, Int.reduceToNat, Int.reduceAdd, Int.reduceSub, Int.reduceNeg, List.reduceReplicate, Nat.reducePow, Int.reduceMul]
    refine tprint_K hr ok h1 fun T' l t' => ?_
    simp -implicitDefEqProofs -dsimp only [tb_at, vcS, ↓vcP1, ↓vcP2, ↓reduceIte, reduceCtorEq, Nat.reduceLT, Nat.reduceLeDiff, Nat.reduceEqDiff, Nat.reduceAdd, Nat.reduceSub, Nat.reduceMul, Int.reduceLT, Int.reduceLE, Int.reduceEq, Int.reduceToNat, Int.reduceAdd, Int.reduceSub, Int.reduceNeg, List.reduceReplicate, Nat.reducePow, Int.reduceMul]
    exact hfin T' (by simpa using l) t'
  rcases Decidable.em (k = 1) with rfl | n1
  · rw [show doF s 1 r b pv ps is = ctlF s b from rfl, show doP p 1 b is = p by simp [doP]] at hfin
    refine CallK.of_fn FOk.nil rc_tdo_ok (by simp [rc_tdo]) ?_
    unfold rc_tdo
    dsimp only
    simp -implicitDefEqProofs -dsimp only [tb_at, vcS, ↓vcP1, ↓vcP2, ↓reduceIte, reduceCtorEq, Nat.reduceLT, Nat.reduceLeDiff, Nat.reduceEqDiff, Nat.reduceAdd, Nat.reduceSub, Nat.reduceMul, Int.reduceLT, Int.reduceLE, Int.reduceEq, Int.reduceToNat, Int.reduceAdd, Int.reduceSub, Int.reduceNeg, List.reduceReplicate, Nat.reducePow, Int.reduceMul]
    refine tctl_K ok h1 fun T' l t' => ?_
    simp -implicitDefEqProofs -dsimp only [tb_at, vcS, ↓vcP1, ↓vcP2, ↓reduceIte, reduceCtorEq, Nat.reduceLT, Nat.reduceLeDiff, Nat.reduceEqDiff, Nat.reduceAdd, Nat.reduceSub, Nat.reduceMul, Int.reduceLT, Int.reduceLE, Int.reduceEq, Int.reduceToNat, Int.reduceAdd, Int.reduceSub, Int.reduceNeg, List.reduceReplicate, Nat.reducePow, Int.reduceMul]
    exact hfin T' (by simpa using l) t'
  rcases Decidable.em (k = 2) with rfl | n2
  · rcases Decidable.em (is = []) with e | e
    · have e' : (is.length : Int) = 0 := by rw [e]; rfl
      rw [show doF s 2 r b pv ps is = escF s b by simp [doF, e], show doP p 2 b is = escP b p by simp [doP, e]] at hfin
      refine CallK.of_fn FOk.nil rc_tdo_ok (by simp [rc_tdo]) ?_
      unfold rc_tdo
      dsimp only
      simp -implicitDefEqProofs -dsimp only [tb_at, hli, eq_true e', vcS, ↓vcP1, ↓vcP2, ↓reduceIte, reduceCtorEq, Nat.reduceLT, Nat.reduceLeDiff, Nat.reduceEqDiff, Nat.reduceAdd, Nat.reduceSub, Nat.reduceMul, Int.reduceLT, Int.reduceLE, Int.reduceEq, Int.reduceToNat, Int.reduceAdd, Int.reduceSub, Int.reduceNeg, List.reduceReplicate, Nat.reducePow, Int.reduceMul]
      refine tesc_K ok h1 fun T' l t' => ?_
      simp -implicitDefEqProofs -dsimp only [tb_at, vcS, ↓vcP1, ↓vcP2, ↓reduceIte, reduceCtorEq, Nat.reduceLT, Nat.reduceLeDiff, Nat.reduceEqDiff, Nat.reduceAdd, Nat.reduceSub, Nat.reduceMul, Int.reduceLT, Int.reduceLE, Int.reduceEq, Int.reduceToNat, Int.reduceAdd, Int.reduceSub, Int.reduceNeg, List.reduceReplicate, Nat.reducePow, Int.reduceMul]
      exact hfin T' (by simpa using l) t'
    · have e' : ¬ (is.length : Int) = 0 := fun h => e (List.length_eq_zero_iff.1 (by omega))
      rw [show doF s 2 r b pv ps is = s by simp [doF, e], show doP p 2 b is = p by simp [doP, e]] at hfin
      refine CallK.of_fn FOk.nil rc_tdo_ok (by simp [rc_tdo]) ?_
      unfold rc_tdo
      dsimp only
      simp -implicitDefEqProofs -dsimp only [tb_at, hli, eq_false e', vcS, ↓vcP1, ↓vcP2, ↓reduceIte, reduceCtorEq, Nat.reduceLT, Nat.reduceLeDiff, Nat.reduceEqDiff, Nat.reduceAdd, Nat.reduceSub, Nat.reduceMul, Int.reduceLT, Int.reduceLE, Int.reduceEq, Int.reduceToNat, Int.reduceAdd, Int.reduceSub, Int.reduceNeg, List.reduceReplicate, Nat.reducePow, Int.reduceMul]
      exact (hfin _ (by simp) h1).2
  rcases Decidable.em (k = 3) with rfl | n3
  · rw [show doP p 3 b is = p by simp [doP]] at hfin
    rcases Decidable.em (is = []) with e | e
    · have e' : (is.length : Int) = 0 := by rw [e]; rfl
      rcases Decidable.em (pv = 0) with rfl | p0
      · rw [show doF s 3 r b 0 ps is = csiF s b ps by simp [doF, e]] at hfin
        refine CallK.of_fn FOk.nil rc_tdo_ok (by simp [rc_tdo]) ?_
        unfold rc_tdo
        dsimp only
        simp -implicitDefEqProofs -dsimp only [tb_at, hli, eq_true e', vcS, ↓vcP1, ↓vcP2, ↓reduceIte, reduceCtorEq, Nat.reduceLT, Nat.reduceLeDiff, Nat.reduceEqDiff, Nat.reduceAdd, Nat.reduceSub, Nat.reduceMul, Int.reduceLT, Int.reduceLE, Int.reduceEq, Int.reduceToNat, Int.reduceAdd, Int.reduceSub, Int.reduceNeg, List.reduceReplicate, Nat.reducePow, Int.reduceMul]
        refine tcsi_K hs hl hps rfl ok h1 fun T' l t' => ?_
        simp -implicitDefEqProofs -dsimp only [tb_at, vcS, ↓vcP1, ↓vcP2, ↓reduceIte, reduceCtorEq, Nat.reduceLT, Nat.reduceLeDiff, Nat.reduceEqDiff, Nat.reduceAdd, Nat.reduceSub, Nat.reduceMul, Int.reduceLT, Int.reduceLE, Int.reduceEq, Int.reduceToNat, Int.reduceAdd, Int.reduceSub, Int.reduceNeg, List.reduceReplicate, Nat.reducePow, Int.reduceMul]
        exact hfin T' (by simpa using l) t'
      · rcases Decidable.em (pv = 63) with rfl | p6
        · rw [show doF s 3 r b 63 ps is = (if b = 104 ∨ b = 108 then ps.foldl (modeF (decide (b = 104))) s else s) by simp [doF, e]] at hfin
          refine CallK.of_fn FOk.nil rc_tdo_ok (by simp [rc_tdo]) ?_
          unfold rc_tdo
          dsimp only
          simp -implicitDefEqProofs -dsimp only [tb_at, hli, eq_true e', vcS, ↓vcP1, ↓vcP2, ↓reduceIte, reduceCtorEq, Nat.reduceLT, Nat.reduceLeDiff, Nat.reduceEqDiff, Nat.reduceAdd, Nat.reduceSub, Nat.reduceMul, Int.reduceLT, Int.reduceLE, Int.reduceEq, Int.reduceToNat, Int.reduceAdd, Int.reduceSub, Int.reduceNeg, List.reduceReplicate, Nat.reducePow, Int.reduceMul]
          refine tmodes_K hs hl rfl ok h1 fun T' l t' => ?_
          simp -implicitDefEqProofs -dsimp only [tb_at, vcS, ↓vcP1, ↓vcP2, ↓reduceIte, reduceCtorEq, Nat.reduceLT, Nat.reduceLeDiff, Nat.reduceEqDiff, Nat.reduceAdd, Nat.reduceSub, Nat.reduceMul, Int.reduceLT, Int.reduceLE, Int.reduceEq, Int.reduceToNat, Int.reduceAdd, Int.reduceSub, Int.reduceNeg, List.reduceReplicate, Nat.reducePow, Int.reduceMul]
          exact hfin T' (by simpa using l) t'
        · rw [show doF s 3 r b pv ps is = s by simp [doF, e, p0, p6]] at hfin
          refine CallK.of_fn FOk.nil rc_tdo_ok (by simp [rc_tdo]) ?_
          unfold rc_tdo
          dsimp only
          simp -implicitDefEqProofs -dsimp only [tb_at, hli, eq_true e', eq_false p0, eq_false p6, vcS, ↓vcP1, ↓vcP2, ↓reduceIte, reduceCtorEq, Nat.reduceLT, Nat.reduceLeDiff, Nat.reduceEqDiff, Nat.reduceAdd, Nat.reduceSub, Nat.reduceMul, Int.reduceLT, Int.reduceLE, Int.reduceEq, Int.reduceToNat, Int.reduceAdd, Int.reduceSub, Int.reduceNeg, List.reduceReplicate, Nat.reducePow, Int.reduceMul]
          exact (hfin _ (by simp) h1).2
    · have e' : ¬ (is.length : Int) = 0 := fun h => e (List.length_eq_zero_iff.1 (by omega))
      rw [show doF s 3 r b pv ps is = s by simp [doF, e]] at hfin
      refine CallK.of_fn FOk.nil rc_tdo_ok (by simp [rc_tdo]) ?_
      unfold rc_tdo
      dsimp only
      simp -implicitDefEqProofs -dsimp only [tb_at, hli, eq_false e', vcS, ↓vcP1, ↓vcP2, ↓reduceIte, reduceCtorEq, Nat.reduceLT, Nat.reduceLeDiff, Nat.reduceEqDiff, Nat.reduceAdd, Nat.reduceSub, Nat.reduceMul, Int.reduceLT, Int.reduceLE, Int.reduceEq, Int.reduceToNat, Int.reduceAdd, Int.reduceSub, Int.reduceNeg, List.reduceReplicate, Nat.reducePow, Int.reduceMul]
      exact (hfin _ (by simp) h1).2
  · rw [show doF s k r b pv ps is = s by simp [doF, n0, n1, n2, n3], show doP p k b is = p by simp [doP, n2]] at hfin
    refine CallK.of_fn FOk.nil rc_tdo_ok (by simp [rc_tdo]) ?_
    unfold rc_tdo
    dsimp only
    simp -implicitDefEqProofs -dsimp only [tb_at, hli, eq_false n0, eq_false n1, eq_false n2, eq_false n3, vcS, ↓vcP1, ↓vcP2, ↓reduceIte, reduceCtorEq, Nat.reduceLT, Nat.reduceLeDiff, Nat.reduceEqDiff, Nat.reduceAdd, Nat.reduceSub, Nat.reduceMul, Int.reduceLT, Int.reduceLE, Int.reduceEq, Int.reduceToNat, Int.reduceAdd, Int.reduceSub, Int.reduceNeg, List.reduceReplicate, Nat.reducePow, Int.reduceMul]
    exact (hfin _ (by simp) h1).2
noncomputable def rc_scopied : RFn := ⟨1, 34, .seq (.reg [⟨some 1, .box 24 (.t 0), none, false⟩, ⟨some 2, .alloc [.int .i64 0, .int .i64 0, .sl 0 [] .nil, .int .i64 0, .int .i64 0, .bool false, .int .u16 0, .int .i64 0, .int .i64 0, .sl 0 [] .nil, .int .i64 0, .int .i64 0, .int .u16 0, .bool false, .bool false, .bool false, .sl 0 [] .nil, .int .i64 0, .int .i64 0, .int .i64 0, .int .u8 0, .sl 0 [] .nil, .sl 0 [] .nil, .sl 0 [] .nil], none, false⟩] 0 [1, 2]) (.seq (.regD (.take ⟨some 3, .faddr 2 (.t 1), none, false⟩ [] (.take ⟨some 4, .load false 1 (.t 3), none, false⟩ [] (.take ⟨some 6, .faddr 16 (.t 1), none, false⟩ [] (.take ⟨some 7, .load false 1 (.t 6), none, false⟩ [] (.take ⟨some 9, .faddr 9 (.t 1), none, false⟩ [] (.take ⟨some 10, .load false 1 (.t 9), none, false⟩ [] (.op ⟨some 5, .call 23 [.t 4], none, false⟩ (.take ⟨some 12, .faddr 2 (.t 1), none, false⟩ [] (.op ⟨some 8, .call 23 [.t 7], none, false⟩ (.mid ⟨some 11, .call 25 [.t 10], none, false⟩ (.op ⟨none, .store 1 (.t 12) (.t 5), none, false⟩ (.take ⟨some 13, .faddr 16 (.t 1), none, false⟩ [] (.op ⟨none, .store 1 (.t 13) (.t 8), none, false⟩ (.take ⟨some 14, .faddr 9 (.t 1), none, false⟩ [] (.op ⟨none, .store 1 (.t 14) (.t 11), none, false⟩ .done))))))))))))))) 0 [1, 2]) (.seq (.regD (.take ⟨some 15, .faddr 19 (.t 1), none, false⟩ [] (.take ⟨some 16, .faddr 2 (.t 15), none, false⟩ [] (.take ⟨some 17, .load false 1 (.t 16), none, false⟩ [] (.take ⟨some 19, .faddr 19 (.t 1), none, false⟩ [] (.take ⟨some 20, .faddr 3 (.t 19), none, false⟩ [] (.take ⟨some 21, .load false 1 (.t 20), none, false⟩ [] (.take ⟨some 23, .faddr 19 (.t 1), none, false⟩ [] (.take ⟨some 24, .faddr 4 (.t 23), none, false⟩ [] (.take ⟨some 25, .load false 1 (.t 24), none, false⟩ [] (.op ⟨some 18, .call 26 [.t 17], none, false⟩ (.take ⟨some 27, .faddr 19 (.t 1), none, false⟩ [] (.take ⟨some 28, .faddr 2 (.t 27), none, false⟩ [] (.op ⟨some 22, .call 27 [.t 21], none, false⟩ (.mid ⟨some 26, .call 27 [.t 25], none, false⟩ (.op ⟨none, .store 1 (.t 28) (.t 18), none, false⟩ (.take ⟨some 29, .faddr 19 (.t 1), none, false⟩ [] (.take ⟨some 30, .faddr 3 (.t 29), none, false⟩ [] (.op ⟨none, .store 1 (.t 30) (.t 22), none, false⟩ (.take ⟨some 31, .faddr 19 (.t 1), none, false⟩ [] (.take ⟨some 32, .faddr 4 (.t 31), none, false⟩ [] (.op ⟨none, .store 1 (.t 32) (.t 26), none, false⟩ .done))))))))))))))))))))) 0 [1, 2]) (.seq (.reg [⟨some 33, .load true 24 (.t 1), none, false⟩, ⟨none, .store 24 (.t 2) (.t 33), none, false⟩] 0 [2]) .ret))), [.c 2 true 24]⟩
theorem rc_scopied_ok : compFn PG.P [⟨0, 0, [1, 2], []⟩, ⟨1, 0, [1, 2], []⟩, ⟨2, 0, [1, 2], []⟩, ⟨3, 0, [2], []⟩] 13 = some rc_scopied := by kernel_rfl
noncomputable def rc_ssized : RFn := ⟨1, 21, .seq (.reg [⟨some 1, .box 24 (.t 0), none, false⟩, ⟨some 2, .mov (.c (.bool false)), none, false⟩] 0 [1]) (.seq (.reg [⟨some 3, .faddr 0 (.t 1), none, false⟩, ⟨some 4, .load false 1 (.t 3), none, false⟩, ⟨some 5, .bin .geq (.t 4) (.c (.int .i64 1)), none, false⟩, ⟨some 6, .mov (.t 5), none, false⟩, ⟨some 7, .faddr 0 (.t 1), some (6, true), false⟩, ⟨some 8, .load false 1 (.t 7), some (6, true), false⟩, ⟨some 9, .bin .leq (.t 8) (.c (.int .i64 1000)), some (6, true), false⟩, ⟨some 10, .pick (.t 6) (.t 9) (.c (.bool false)), none, false⟩, ⟨some 11, .mov (.t 10), none, false⟩, ⟨some 12, .faddr 1 (.t 1), some (11, true), false⟩, ⟨some 13, .load false 1 (.t 12), some (11, true), false⟩, ⟨some 14, .bin .geq (.t 13) (.c (.int .i64 1)), some (11, true), false⟩, ⟨some 15, .pick (.t 11) (.t 14) (.c (.bool false)), none, false⟩, ⟨some 16, .mov (.t 15), none, false⟩, ⟨some 17, .faddr 1 (.t 1), some (16, true), false⟩, ⟨some 18, .load false 1 (.t 17), some (16, true), false⟩, ⟨some 19, .bin .leq (.t 18) (.c (.int .i64 1000)), some (16, true), false⟩, ⟨some 20, .pick (.t 16) (.t 19) (.c (.bool false)), none, false⟩, ⟨some 2, .mov (.t 20), none, false⟩] 0 [2]) .ret), [.t 2]⟩
theorem rc_ssized_ok : compFn PG.P [⟨0, 0, [1], []⟩, ⟨1, 0, [2], []⟩] 14 = some rc_ssized := by kernel_rfl
def isCe (sz : Nat) (rows : List (List DV)) : Prop := (sz = 3 ∨ rows = []) ∧ (∃ L, rows = ceRows L) ∧ rows.length ≤ 1000000
def isBo (sz : Nat) (rows : List (List DV)) : Prop := (sz = 1 ∨ rows = []) ∧ (∃ L, rows = boRows L) ∧ rows.length ≤ 1000000
theorem isCe_mk {sz : Nat} {L : List Ce} (hs : sz = 3 ∨ L = []) (hl : L.length ≤ 1000000) : isCe sz (ceRows L) := ⟨hs.imp id fun h => by rw [h]; rfl, ⟨L, rfl⟩, by rw [ceRows_len]; exact hl⟩
theorem isBo_mk {sz : Nat} {L : List Bool} (hs : sz = 1 ∨ L = []) (hl : L.length ≤ 1000000) : isBo sz (boRows L) := ⟨hs.imp id fun h => by rw [h]; rfl, ⟨L, rfl⟩, by rw [boRows_len]; exact hl⟩
theorem cloneC_nil {sz : Nat} : PCalls PG 23 [.sl sz [] .nil] fun n r os => r = .sl 0 [] .nil ∧ os = [] := by
  refine PCalls.by_fn (res := fun n => (.sl 0 [] .nil, [])) FOk.nil rc_cclone_ok (by simp [rc_cclone]) fun n => ?_
  unfold rc_cclone
  dsimp only
  simp -implicitDefEqProofs -dsimp only [vcS, ↓vcP1, ↓vcP2, ↓reduceIte, reduceCtorEq, Nat.reduceLT, Nat.reduceLeDiff, Nat.reduceEqDiff, Nat.reduceAdd, Nat.reduceSub, Nat.reduceMul, Int.reduceLT, Int.reduceLE, Int.reduceEq, Int.reduceToNat, Int.reduceAdd, Int.reduceSub, Int.reduceNeg, List.reduceReplicate, Nat.reducePow, Int.reduceMul]
theorem cloneC_non {sz : Nat} {L : List Ce} (hs : sz = 3 ∨ L = []) (hl : L.length ≤ 1000000) : PCalls PG 23 [.sl sz (ceRows L) .nonnil] fun n r os => r = .own n 0 L.length ∧ os = [some (.arr 3 (ceRows L))] := by
  refine PCalls.by_fn (res := fun n => (.own n 0 L.length, [some (.arr 3 (ceRows L))])) FOk.nil rc_cclone_ok (by simp [rc_cclone]) fun n => ?_
  unfold rc_cclone
  dsimp only
  have hn : ceRows L = [] ↔ L = [] := by cases L <;> simp [ceRows]
  simp -implicitDefEqProofs -dsimp only [ceRows_len, hn, hs, hl, eq_true (ceRows_cl L), vcS, ↓vcP1, ↓vcP2, ↓reduceIte, reduceCtorEq, Nat.reduceLT, Nat.reduceLeDiff, Nat.reduceEqDiff, Nat.reduceAdd, Nat.reduceSub, Nat.reduceMul, Int.reduceLT, Int.reduceLE, Int.reduceEq, Int.reduceToNat, Int.reduceAdd, Int.reduceSub, Int.reduceNeg, List.reduceReplicate, Nat.reducePow, Int.reduceMul]
  exact ⟨by omega, by omega⟩
theorem cloneC_P {sz : Nat} {k : SK} {L : List Ce} (hs : sz = 3 ∨ L = []) (hl : L.length ≤ 1000000) : PCalls PG 23 [.sl sz (ceRows L) k] fun n r os => r = .own n 0 L.length ∧ os = [some (.arr 3 (ceRows L))] := by
  refine PCalls.any_arg (i := 0) rfl (fun h => ?_) ?_
  · have hn : L = [] := by cases L with | nil => rfl | cons a l => simp [ceRows] at h
    subst hn
    exact cloneC_nil.nil_own
  · exact cloneC_non hs hl
theorem boRows_cl (L : List Bool) : ClRows (boRows L) := fun row hr c hc => by
  simp only [boRows, List.mem_map] at hr
  obtain ⟨e, _, rfl⟩ := hr
  simp at hc
  subst hc
  exact .bool _
theorem cloneT_nil {sz : Nat} : PCalls PG 25 [.sl sz [] .nil] fun n r os => r = .sl 0 [] .nil ∧ os = [] := by
  refine PCalls.by_fn (res := fun n => (.sl 0 [] .nil, [])) FOk.nil rc_bclone_ok (by simp [rc_bclone]) fun n => ?_
  unfold rc_bclone
  dsimp only
  simp -implicitDefEqProofs -dsimp only [vcS, ↓vcP1, ↓vcP2, ↓reduceIte, reduceCtorEq, Nat.reduceLT, Nat.reduceLeDiff, Nat.reduceEqDiff, Nat.reduceAdd, Nat.reduceSub, Nat.reduceMul, Int.reduceLT, Int.reduceLE, Int.reduceEq, Int.reduceToNat, Int.reduceAdd, Int.reduceSub, Int.reduceNeg, List.reduceReplicate, Nat.reducePow, Int.reduceMul]
theorem cloneT_non {sz : Nat} {L : List Bool} (hs : sz = 1 ∨ L = []) (hl : L.length ≤ 1000000) : PCalls PG 25 [.sl sz (boRows L) .nonnil] fun n r os => r = .own n 0 L.length ∧ os = [some (.arr 1 (boRows L))] := by
  refine PCalls.by_fn (res := fun n => (.own n 0 L.length, [some (.arr 1 (boRows L))])) FOk.nil rc_bclone_ok (by simp [rc_bclone]) fun n => ?_
  unfold rc_bclone
  dsimp only
  have hn : boRows L = [] ↔ L = [] := by cases L <;> simp [boRows]
  simp -implicitDefEqProofs -dsimp only [boRows_len, hn, hs, hl, eq_true (boRows_cl L), vcS, ↓vcP1, ↓vcP2, ↓reduceIte, reduceCtorEq, Nat.reduceLT, Nat.reduceLeDiff, Nat.reduceEqDiff, Nat.reduceAdd, Nat.reduceSub, Nat.reduceMul, Int.reduceLT, Int.reduceLE, Int.reduceEq, Int.reduceToNat, Int.reduceAdd, Int.reduceSub, Int.reduceNeg, List.reduceReplicate, Nat.reducePow, Int.reduceMul]
  exact ⟨by omega, by omega⟩
theorem cloneT_P {sz : Nat} {k : SK} {L : List Bool} (hs : sz = 1 ∨ L = []) (hl : L.length ≤ 1000000) : PCalls PG 25 [.sl sz (boRows L) k] fun n r os => r = .own n 0 L.length ∧ os = [some (.arr 1 (boRows L))] := by
  refine PCalls.any_arg (i := 0) rfl (fun h => ?_) ?_
  · have hn : L = [] := by cases L with | nil => rfl | cons a l => simp [boRows] at h
    subst hn
    exact cloneT_nil.nil_own
  · exact cloneT_non hs hl
def F_cloneC : List DV → Option FSpec
  | [.sl sz rows k] => some ⟨isCe sz rows, fun n => (.own n 0 rows.length, [some (.arr 3 rows)])⟩
  | _ => none
theorem F_cloneC_1 (sz : Nat) (rows : List (List DV)) (k : SK) : F_cloneC [.sl sz rows k] = some ⟨isCe sz rows, fun n => (.own n 0 rows.length, [some (.arr 3 rows)])⟩ := nrfl _
theorem cloneC_ok (args : List DV) (s : FSpec) (hs : F_cloneC args = some s) (hp : s.pre) : PCalls PG 23 args fun n r os => r = (s.res n).1 ∧ os = (s.res n).2 := by
  unfold F_cloneC at hs
  split at hs
  · obtain rfl := sj hs
    obtain ⟨h1, ⟨L, rfl⟩, h3⟩ := hp
    rw [ceRows_len] at h3
    dsimp only
    rw [ceRows_len]
    exact cloneC_P (h1.imp id fun h => by cases L with | nil => rfl | cons a l => simp [ceRows] at h) h3
  · cases hs
def F_cloneT : List DV → Option FSpec
  | [.sl sz rows k] => some ⟨isBo sz rows, fun n => (.own n 0 rows.length, [some (.arr 1 rows)])⟩
  | _ => none
theorem F_cloneT_1 (sz : Nat) (rows : List (List DV)) (k : SK) : F_cloneT [.sl sz rows k] = some ⟨isBo sz rows, fun n => (.own n 0 rows.length, [some (.arr 1 rows)])⟩ := nrfl _
theorem cloneT_ok (args : List DV) (s : FSpec) (hs : F_cloneT args = some s) (hp : s.pre) : PCalls PG 25 args fun n r os => r = (s.res n).1 ∧ os = (s.res n).2 := by
  unfold F_cloneT at hs
  split at hs
  · obtain rfl := sj hs
    obtain ⟨h1, ⟨L, rfl⟩, h3⟩ := hp
    rw [boRows_len] at h3
    dsimp only
    rw [boRows_len]
    exact cloneT_P (h1.imp id fun h => by cases L with | nil => rfl | cons a l => simp [boRows] at h) h3
  · cases hs
theorem cloneI_F {sz : Nat} {k : SK} {l : List Int} (hs : sz = 1 ∨ l = []) (hk : inK .i64 l) (hp : l.length ≤ 1000000) : PCalls PG 26 [.sl sz (intRows .i64 l) k] fun n r os => r = .sl 1 (intRows .i64 l) .any ∧ os = [] := by
  refine PCalls.any_arg (i := 0) rfl (fun h => ?_) ?_
  · have hn : l = [] := by simpa [intRows] using h
    subst hn
    refine PCalls.by_fnF (res := fun n => (.sl 1 [] .any, [])) FOk.nil rc_cloneI_ok (by simp [rc_cloneI]) fun n => ?_
    unfold rc_cloneI
    dsimp only
    simp -implicitDefEqProofs -dsimp only [vcS, ↓vcP1, ↓vcP2, ↓reduceIte, reduceCtorEq, Nat.reduceLT, Nat.reduceLeDiff, Nat.reduceEqDiff, Nat.reduceAdd, Nat.reduceSub, Nat.reduceMul, Int.reduceLT, Int.reduceLE, Int.reduceEq, Int.reduceToNat, Int.reduceAdd, Int.reduceSub, Int.reduceNeg, List.reduceReplicate, Nat.reducePow, Int.reduceMul]
  · refine PCalls.by_fnF (res := fun n => (.sl 1 (intRows .i64 l) .any, [])) FOk.nil rc_cloneI_ok (by simp [rc_cloneI]) fun n => ?_
    unfold rc_cloneI
    dsimp only
    have hs' : sz = 1 ∨ intRows .i64 l = [] := hs.imp id fun h => by simp [h, intRows]
    simp -implicitDefEqProofs -dsimp only [List.take_length, vcS, ↓vcP1, ↓vcP2, ↓reduceIte, reduceCtorEq, Nat.reduceLT, Nat.reduceLeDiff, Nat.reduceEqDiff, Nat.reduceAdd, Nat.reduceSub, Nat.reduceMul, Int.reduceLT, Int.reduceLE, Int.reduceEq, Int.reduceToNat, Int.reduceAdd, Int.reduceSub, Int.reduceNeg, List.reduceReplicate, Nat.reducePow, Int.reduceMul]
    exact ⟨hs', by omega, by omega⟩
def F_cloneIF : List DV → Option FSpec
  | [a] => some ⟨isInts .i64 a ∧ (intsD a).length ≤ 1000000, fun n => (.sl 1 (intRows .i64 (intsD a)) .any, [])⟩
  | _ => none
theorem F_cloneIF_1 (a : DV) : F_cloneIF [a] = some ⟨isInts .i64 a ∧ (intsD a).length ≤ 1000000, fun n => (.sl 1 (intRows .i64 (intsD a)) .any, [])⟩ := nrfl _
theorem cloneIF_ok (args : List DV) (s : FSpec) (hs : F_cloneIF args = some s) (hp : s.pre) : PCalls PG 26 args fun n r os => r = (s.res n).1 ∧ os = (s.res n).2 := by
  unfold F_cloneIF at hs
  split at hs
  · obtain rfl := sj hs
    obtain ⟨h1, h2⟩ := hp
    obtain ⟨sz, k, e, h3, h4⟩ := isInts_inv h1
    have := cloneI_F (k := k) h3 h4 h2
    rw [← e] at this
    exact this
  · cases hs
theorem cloneO_F {sz : Nat} {k : SK} {l : List Int} (hs : sz = 1 ∨ l = []) (hk : inK .u8 l) (hp : l.length ≤ 1000000) : PCalls PG 27 [.sl sz (intRows .u8 l) k] fun n r os => r = .sl 1 (intRows .u8 l) .any ∧ os = [] := by
  refine PCalls.any_arg (i := 0) rfl (fun h => ?_) ?_
  · have hn : l = [] := by simpa [intRows] using h
    subst hn
    refine PCalls.by_fnF (res := fun n => (.sl 1 [] .any, [])) FOk.nil rc_cloneB_ok (by simp [rc_cloneB]) fun n => ?_
    unfold rc_cloneB
    dsimp only
    simp -implicitDefEqProofs -dsimp only [vcS, ↓vcP1, ↓vcP2, ↓reduceIte, reduceCtorEq, Nat.reduceLT, Nat.reduceLeDiff, Nat.reduceEqDiff, Nat.reduceAdd, Nat.reduceSub, Nat.reduceMul, Int.reduceLT, Int.reduceLE, Int.reduceEq, Int.reduceToNat, Int.reduceAdd, Int.reduceSub, Int.reduceNeg, List.reduceReplicate, Nat.reducePow, Int.reduceMul]
  · refine PCalls.by_fnF (res := fun n => (.sl 1 (intRows .u8 l) .any, [])) FOk.nil rc_cloneB_ok (by simp [rc_cloneB]) fun n => ?_
    unfold rc_cloneB
    dsimp only
    have hs' : sz = 1 ∨ intRows .u8 l = [] := hs.imp id fun h => by simp [h, intRows]
    simp -implicitDefEqProofs -dsimp only [List.take_length, vcS, ↓vcP1, ↓vcP2, ↓reduceIte, reduceCtorEq, Nat.reduceLT, Nat.reduceLeDiff, Nat.reduceEqDiff, Nat.reduceAdd, Nat.reduceSub, Nat.reduceMul, Int.reduceLT, Int.reduceLE, Int.reduceEq, Int.reduceToNat, Int.reduceAdd, Int.reduceSub, Int.reduceNeg, List.reduceReplicate, Nat.reducePow, Int.reduceMul]
    exact ⟨hs', by omega, by omega⟩
def F_cloneOF : List DV → Option FSpec
  | [a] => some ⟨isInts .u8 a ∧ (intsD a).length ≤ 1000000, fun n => (.sl 1 (intRows .u8 (intsD a)) .any, [])⟩
  | _ => none
theorem F_cloneOF_1 (a : DV) : F_cloneOF [a] = some ⟨isInts .u8 a ∧ (intsD a).length ≤ 1000000, fun n => (.sl 1 (intRows .u8 (intsD a)) .any, [])⟩ := nrfl _
theorem cloneOF_ok (args : List DV) (s : FSpec) (hs : F_cloneOF args = some s) (hp : s.pre) : PCalls PG 27 args fun n r os => r = (s.res n).1 ∧ os = (s.res n).2 := by
  unfold F_cloneOF at hs
  split at hs
  · obtain rfl := sj hs
    obtain ⟨h1, h2⟩ := hp
    obtain ⟨sz, k, e, h3, h4⟩ := isInts_inv h1
    have := cloneO_F (k := k) h3 h4 h2
    rw [← e] at this
    exact this
  · cases hs
def TH14 : FL := (23, .o F_cloneC) :: (25, .o F_cloneT) :: (26, .o F_cloneIF) :: [(27, .o F_cloneOF)]
theorem TH14_ok : FOk PG (tab TH14) := FOk.cons (FOk.cons (FOk.cons (FOk.cons FOk.nil cloneOF_ok) cloneIF_ok) cloneT_ok) cloneC_ok
theorem TH14_c (args : List DV) : tab TH14 23 args = (F_cloneC args).map .o := nrfl _
theorem TH14_t (args : List DV) : tab TH14 25 args = (F_cloneT args).map .o := nrfl _
theorem TH14_i (args : List DV) : tab TH14 26 args = (F_cloneIF args).map .o := nrfl _
theorem TH14_o (args : List DV) : tab TH14 27 args = (F_cloneOF args).map .o := nrfl _
def scD (s : Sc) (z1 z2 z3 : Nat) (k1 k2 k3 : SK) (m pr : Int) (d1 d2 d3 : DV) : List DV :=
  [.int .i64 s.rows, .int .i64 s.cols, .sl z1 (ceRows s.cells) k1, .int .i64 s.y, .int .i64 s.x, .bool s.wrap, .int .u16 s.attr, .int .i64 s.top, .int .i64 s.bot, .sl z2 (boRows s.tabs) k2,
   .int .i64 s.sy, .int .i64 s.sx, .int .u16 s.sattr, .bool s.auto, .bool s.shown, .bool s.alt, .sl z3 (ceRows s.other) k3, .int .i64 s.oy, .int .i64 s.ox, .int .i64 m, .int .u8 pr, d1, d2, d3]
structure ScV (s : Sc) (p : Pa) (z1 z2 z3 : Nat) (m pr : Int) (d1 d2 d3 : DV) : Prop where
  z1 : z1 = 3
  z2 : z2 = 1
  z3 : z3 = 3 ∨ s.other = []
  pa : PaAt p m pr d1 d2 d3
def ScVal (s : Sc) (p : Pa) (v : DV) : Prop := ∃ z1 z2 z3 k1 k2 k3 m pr d1 d2 d3, ScV s p z1 z2 z3 m pr d1 d2 d3 ∧ v = .agg (scD s z1 z2 z3 k1 k2 k3 m pr d1 d2 d3)
theorem scopied_K {T : Objs} {s : Sc} {p : Pa} {z1 z2 z3 : Nat} {k1 k2 k3 : SK} {m pr : Int} {d1 d2 d3 : DV} {K : DV → Objs → Prop} (ok : ScOk s) (hv : ScV s p z1 z2 z3 m pr d1 d2 d3) (pk : paOk p)
    (h : ∀ T' q tq oq e1 e2 e3, T.length ≤ q → T.length ≤ tq → T.length ≤ oq → q ≠ tq → oq ≠ q → oq ≠ tq → T'[q]? = some (some (.arr 3 (ceRows s.cells))) → T'[tq]? = some (some (.arr 1 (boRows s.tabs))) → T'[oq]? = some (some (.arr 3 (ceRows s.other))) →
      PaAt p m pr e1 e2 e3 → Keep T T' [] → K (.agg (tmBox s q tq (.own oq 0 s.other.length) m pr e1 e2 e3)) T') :
    CallK PG 13 [.agg (scD s z1 z2 z3 k1 k2 k3 m pr d1 d2 d3)] T K := by
  have hl := ok.g.lim
  have hc := ok.g.c
  have ht := ok.tabs
  have hol : s.other.length ≤ 1000000 := by
    cases ha : s.alt with
    | true => exact (ok.alt ha).lim.1
    | false => rw [(ok.non ha).1]; simp
  have c1 : isCe z1 (ceRows s.cells) := isCe_mk (.inl hv.z1) hl.1
  have c3 : isCe z3 (ceRows s.other) := isCe_mk hv.z3 hol
  have c2 : isBo z2 (boRows s.tabs) := isBo_mk (.inl hv.z2) (by omega)
  have pa := hv.pa
  obtain ⟨sa, ka, ea, ha1, ha2⟩ := isInts_inv pa.i1
  obtain ⟨sb, kb, eb, hb1, hb2⟩ := isInts_inv pa.i2
  obtain ⟨sc, kc, ec, hc1, hc2⟩ := isInts_inv pa.i3
  rw [pa.e1] at ea ha1 ha2
  rw [pa.e2] at eb hb1 hb2
  rw [pa.e3] at ec hc1 hc2
  obtain ⟨j1, j2, j3, j4, j5, j6, j7⟩ := pk
  have l1 : p.P.length ≤ 1000000 := by omega
  have l2 : p.I.length ≤ 1000000 := by omega
  have l3 : p.U.length ≤ 1000000 := by omega
  subst ea eb ec
  have i1 : isInts .i64 (.sl sa (intRows .i64 p.P) ka) := pa.i1
  have i2 : isInts .u8 (.sl sb (intRows .u8 p.I) kb) := pa.i2
  have i3 : isInts .u8 (.sl sc (intRows .u8 p.U) kc) := pa.i3
  unfold scD
  refine CallK.of_fn TH14_ok rc_scopied_ok (by simp [rc_scopied]) ?_
  unfold rc_scopied
  dsimp only
  simp -implicitDefEqProofs -dsimp only [tb_at, TH14_c, TH14_t, TH14_i, TH14_o, F_cloneC_1, F_cloneT_1, F_cloneIF_1, F_cloneOF_1, c1, c2, c3, i1, i2, i3, intsD_sl, l1, l2, l3, ceRows_len, boRows_len, List.take_length, vcS, ↓vcP1, ↓vcP2, ↓reduceIte, reduceCtorEq, Nat.reduceLT, Nat.reduceLeDiff, Nat.reduceEqDiff, Nat.reduceAdd, Nat.reduceSub, Nat.reduceMul, Int.reduceLT, Int.reduceLE, Int.reduceEq, Int.reduceToNat, Int.reduceAdd, Int.reduceSub, Int.reduceNeg, List.reduceReplicate, Nat.reducePow, Int.reduceMul]
  refine h _ (T.length + 2) (T.length + 4) (T.length + 3) (.sl 1 (intRows .i64 p.P) .any) (.sl 1 (intRows .u8 p.I) .any) (.sl 1 (intRows .u8 p.U) .any) (by omega) (by omega) (by omega) (by omega) (by omega) (by omega) (tb_geti _ _ 2) (tb_geti _ _ 4) (tb_geti _ _ 3) ?_ (Keep.app _ _ _)
  exact { m := pa.m, pr := pa.pr, i1 := isInts_mk (.inl rfl) ha2, i2 := isInts_mk (.inl rfl) hb2, i3 := isInts_mk (.inl rfl) hc2, e1 := intsD_sl .., e2 := intsD_sl .., e3 := intsD_sl .. }
theorem ssized_K {T : Objs} {s : Sc} {z1 z2 z3 : Nat} {k1 k2 k3 : SK} {m pr : Int} {d1 d2 d3 : DV} {K : DV → Objs → Prop} (ok : ScOk s) (o1 : DV.one d1 = true) (o2 : DV.one d2 = true) (o3 : DV.one d3 = true) (h : ∀ T', Keep T T' [] → K (.bool true) T') :
    CallK PG 14 [.agg (scD s z1 z2 z3 k1 k2 k3 m pr d1 d2 d3)] T K := by
  have hr := ok.g.r
  have hc := ok.g.c
  have a1 : 1 ≤ (s.rows : Int) := by omega
  have a2 : (s.rows : Int) ≤ 1000 := by omega
  have a3 : 1 ≤ (s.cols : Int) := by omega
  have a4 : (s.cols : Int) ≤ 1000 := by omega
  unfold scD
  refine CallK.of_fn FOk.nil rc_ssized_ok (by simp [rc_ssized]) ?_
  unfold rc_ssized
  dsimp only
  simp -implicitDefEqProofs -dsimp only [tb_at, o1, o2, o3, a1, a2, a3, a4, vcS, ↓vcP1, ↓vcP2, ↓reduceIte, reduceCtorEq, Nat.reduceLT, Nat.reduceLeDiff, Nat.reduceEqDiff, Nat.reduceAdd, Nat.reduceSub, Nat.reduceMul, Int.reduceLT, Int.reduceLE, Int.reduceEq, Int.reduceToNat, Int.reduceAdd, Int.reduceSub, Int.reduceNeg, List.reduceReplicate, Nat.reducePow, Int.reduceMul]
  exact h _ (Keep.app _ _ _)
def acOk (a : Ac) : Prop := (0 ≤ a.r ∧ a.r ≤ 2097151) ∧ (osL a.ps).length ≤ 1000 ∧ ∀ k ∈ osL a.ps, 0 ≤ k ∧ k ≤ 65535
theorem acs_nil : ∀ a ∈ ([] : List Ac), acOk a := fun a h => by cases h
theorem acs_one {a : Ac} (h : acOk a) : ∀ x ∈ [a], acOk x := fun x hx => by simp at hx; subst hx; exact h
theorem vact_acs {p : Pa} {b : Int} (hp : paOk p) : ∀ a ∈ (vactF p b).2, acOk a := acs_one ⟨⟨Int.le_refl _, show (0 : Int) ≤ 2097151 by decide⟩, hp.2.2.2.1, hp.2.2.2.2.2.2⟩
theorem ite_acs {c : Prop} [Decidable c] {x y : Pa × List Ac} (h1 : ∀ a ∈ x.2, acOk a) (h2 : ∀ a ∈ y.2, acOk a) : ∀ a ∈ (if c then x else y).2, acOk a := by split <;> assumption
theorem ac0 (k b pv : Int) : acOk ⟨k, 0, b, pv, none, none⟩ := ⟨⟨Int.le_refl _, show (0 : Int) ≤ 2097151 by decide⟩, by simp [osL], by simp [osL]⟩
theorem vtake_acs {p : Pa} {b : Int} (hp : paOk p) (hb : 0 ≤ b ∧ b ≤ 255) : ∀ a ∈ (vtakeF p b).2, acOk a := by
  obtain ⟨j1, j2, j3, j4, j5, j6, j7⟩ := id hp
  have hg : ∀ a ∈ (vgroundF p b).2, acOk a := fun a ha => by
    unfold vgroundF at ha
    simp only [List.mem_map] at ha
    obtain ⟨r, hr, rfl⟩ := ha
    exact ⟨ustep_r j3 hb (by omega) r hr, by simp [osL], by simp [osL]⟩
  unfold vtakeF vescF vescIF vcsiF vcsiIF
  repeat' (first | exact hg | exact vact_acs hp | exact acs_nil | exact acs_one (ac0 _ _ _) | exact acs_one ⟨⟨Int.le_refl _, show (0 : Int) ≤ 2097151 by decide⟩, by simp [osL], by simp [osL]⟩ | apply ite_acs)
theorem vstep_acs {p : Pa} {b : Int} (hp : paOk p) (hb : 0 ≤ b ∧ b ≤ 255) : ∀ a ∈ (vstepF p b).2, acOk a := by
  unfold vstepF
  split
  · obtain ⟨h1, h2, h3, h4, h5, h6, h7⟩ := hp
    have := vtake_acs (p := { p with U := [] }) (b := b) ⟨h1, h2, inK_nil _, h4, h5, by simp, h7⟩ hb
    intro a ha
    rcases List.mem_cons.1 ha with rfl | ha
    · exact ⟨by decide, by simp [osL], by simp [osL]⟩
    · exact this a ha
  · exact vtake_acs hp hb
def actF (s : Sc) (a : Ac) : Sc := doF s a.k a.r a.b a.p (osL a.ps) (osL a.is)
theorem acts_ok : ∀ {l : List Ac} {s : Sc}, ScOk s → ScOk (l.foldl actF s)
  | [], s, h => h
  | a :: l, s, h => acts_ok (l := l) (doF_ok h _ _ _ _ _ _)
theorem acts_step {l : List Ac} {s : Sc} {i : Nat} {a : Ac} (hi : l[i]? = some a) : (l.take (i + 1)).foldl actF s = actF ((l.take i).foldl actF s) a := by
  have hlt := (List.getElem?_eq_some_iff.1 hi).1
  have e : l[i] = a := (List.getElem?_eq_some_iff.1 hi).2
  rw [List.take_succ_eq_append_getElem hlt, List.foldl_append, e]
  rfl
def feedF (x : Sc × Pa) (c : Int) : Sc × Pa := ((vstepF x.2 c).2.foldl actF x.1, (vstepF x.2 c).1)
theorem feed_ok : ∀ {l : List Int} {x : Sc × Pa}, ScOk x.1 → paOk x.2 → (∀ c ∈ l, 0 ≤ c ∧ c ≤ 255) → ScOk (l.foldl feedF x).1 ∧ paOk (l.foldl feedF x).2
  | [], x, h, p, _ => ⟨h, p⟩
  | c :: l, x, h, p, hb => feed_ok (l := l) (x := feedF x c) (acts_ok h) (vstep_pok p (hb c (by simp))) fun d hd => hb d (by simp [hd])
theorem feed_step {l : List Int} {x : Sc × Pa} {i : Nat} (hi : i < l.length) : (l.take (i + 1)).foldl feedF x = feedF ((l.take i).foldl feedF x) (l.getD i 0) := by
  rw [List.take_succ_eq_append_getElem hi, List.foldl_append]
  simp [List.getD_eq_getElem?_getD, hi]
theorem Frzs.agg1 {T : Objs} {q sz : Nat} {rows : List (List DV)} {cs : List DV} (h : T[q]? = some (some (.arr sz rows))) : Frzs ⟨[(0, .agg cs)], T⟩ ⟨[(0, .agg (cs.map (DV.frz0 q sz rows)))], T.set q none⟩ := by
  refine .frz q sz rows ⟨h, fun t => ?_, by simp, fun k ob' hk => ?_⟩ (.refl _)
  · rw [look_single, look_single]
    split
    · exact .inr rfl
    · exact .inl rfl
  · rw [getElem?_set] at hk
    by_cases e : q = k
    · rw [if_pos e] at hk; split at hk <;> simp at hk
    · rw [if_neg e] at hk; exact ⟨fun e' => e e'.symm, ob', hk, frOb.refl (fr0.refl _ _ _) _⟩
theorem fzOwn (q sz n : Nat) (rows : List (List DV)) (h : n = rows.length) : DV.frz0 q sz rows (.own q 0 n) = .sl sz rows .any := by
  subst h
  simp [DV.frz0]
theorem fzNe {q sz q' n : Nat} (rows : List (List DV)) (h : q' ≠ q) : DV.frz0 q sz rows (.own q' 0 n) = .own q' 0 n := by
  simp [DV.frz0, h]
theorem fzSl (q sz : Nat) (rows r2 : List (List DV)) (s2 : Nat) (k : SK) : DV.frz0 q sz rows (.sl s2 r2 k) = .sl s2 r2 k := rfl
theorem fzInt (q sz : Nat) (rows : List (List DV)) (k : IntKind) (n : Int) : DV.frz0 q sz rows (.int k n) = .int k n := rfl
theorem fzBool (q sz : Nat) (rows : List (List DV)) (b : Bool) : DV.frz0 q sz rows (.bool b) = .bool b := rfl
theorem fzInts {q sz : Nat} {rows : List (List DV)} {kd : IntKind} {d : DV} (h : isInts kd d) : DV.frz0 q sz rows d = d := by
  obtain ⟨a, b, e, _⟩ := isInts_inv h
  rw [e]; rfl
theorem Frzs.sc {n : Nat} {T0 T : Objs} {o q tq : Nat} {s : Sc} {p : Pa} {od : DV} {m pr : Int} {d1 d2 d3 : DV} (k0 : Keep T0 T []) (pa : PaAt p m pr d1 d2 d3) (t : TmAt T0 T o q tq s od m pr d1 d2 d3) (ok : ScOk s) :
    ∃ v T', Frzs ⟨[(0, .agg (tmBox s q tq od m pr d1 d2 d3))], T⟩ ⟨[(0, v)], T'⟩ ∧ ScVal s p v ∧ Keep T0 T' [] ∧ T'.length = T.length := by
  have h1 := Frzs.agg1 (cs := tmBox s q tq od m pr d1 d2 d3) t.cells
  have h2 := Frzs.agg1 (cs := (tmBox s q tq od m pr d1 d2 d3).map (DV.frz0 q 3 (ceRows s.cells))) (tb_ne t.tabs none t.qt.symm)
  have k2 : Keep T0 ((T.set q none).set tq none) [] := (k0.put t.nq none).put t.nt none
  have f1 : ∀ x : DV, ∀ k n, x = .int k n → DV.frz0 q 3 (ceRows s.cells) x = x := fun x k n e => by subst e; rfl
  rcases t.oth with ⟨oq, rfl, ho, n1, n2, n3, n4⟩ | ⟨ha, z3, k3, rfl⟩
  · have h3 := Frzs.agg1 (cs := ((tmBox s q tq (.own oq 0 s.other.length) m pr d1 d2 d3).map (DV.frz0 q 3 (ceRows s.cells))).map (DV.frz0 tq 1 (boRows s.tabs))) (tb_ne (tb_ne ho none n2) none n3)
    refine ⟨_, _, h1.trans (h2.trans h3), ⟨3, 1, 3, .any, .any, .any, m, pr, d1, d2, d3, ⟨rfl, rfl, .inl rfl, pa⟩, ?_⟩, k2.put n4 none, by simp⟩
    simp only [tmBox, scD, List.map_cons, List.map_nil, fzOwn q 3 _ _ (ceRows_len s.cells).symm, fzNe _ t.qt.symm, fzNe _ n2, fzSl, fzOwn tq 1 _ _ (boRows_len s.tabs).symm, fzNe _ n3, fzOwn oq 3 _ _ (ceRows_len s.other).symm, fzInts pa.i1, fzInts pa.i2, fzInts pa.i3, fzInt, fzBool]
  · refine ⟨_, _, h1.trans h2, ⟨3, 1, z3, .any, .any, k3, m, pr, d1, d2, d3, ⟨rfl, rfl, .inr (ok.non ha).1, pa⟩, ?_⟩, k2, by simp⟩
    simp only [tmBox, scD, List.map_cons, List.map_nil, fzOwn q 3 _ _ (ceRows_len s.cells).symm, fzNe _ t.qt.symm, fzSl, fzOwn tq 1 _ _ (boRows_len s.tabs).symm, fzInts pa.i1, fzInts pa.i2, fzInts pa.i3, (ok.non ha).1, ceRows_nil, fzInt, fzBool]
noncomputable def rc_sfeed_l0 : RC := (.seq (.reg [⟨some 42, .bin .lss (.t 41) (.t 40), none, false⟩] 0 [4, 5, 8, 23, 24, 25, 39, 40, 41, 42]) (.seq (.cond (.t 42) .skip (.ext 2)) (.seq (.blk 3 (.seq (.reg [⟨some 43, .iaddr 6 (.t 39) (.t 41), none, false⟩, ⟨some 44, .load true 6 (.t 43), none, false⟩, ⟨some 11, .alloc [.int .i64 0, .int .i32 0, .int .u8 0, .int .u8 0, .sl 0 [] .nil, .sl 0 [] .nil], none, false⟩, ⟨none, .store 6 (.t 11) (.t 44), none, false⟩] 0 [4, 5, 8, 11, 23, 24, 25, 39, 40, 41]) (.reg [⟨some 45, .mov (.t 5), none, false⟩, ⟨some 46, .load true 6 (.t 11), none, false⟩, ⟨some 47, .call 16 [.t 45, .t 46], none, false⟩] 0 [4, 5, 8, 23, 24, 25, 39, 40, 41]))) (.reg [⟨some 48, .bin .add (.t 41) (.c (.int .i64 1)), none, false⟩, ⟨some 41, .mov (.t 48), none, false⟩] 0 [4, 5, 8, 23, 24, 25, 39, 40, 41]))))
noncomputable def rc_sfeed_l1 : RC := (.seq (.reg [⟨some 26, .bin .lss (.t 25) (.t 24), none, false⟩] 0 [4, 5, 23, 24, 25, 26]) (.seq (.cond (.t 26) .skip (.ext 0)) (.seq (.blk 1 (.seq (.reg [⟨some 27, .iaddr 1 (.t 23) (.t 25), none, false⟩, ⟨some 28, .load false 1 (.t 27), none, false⟩, ⟨some 7, .mov (.t 28), none, false⟩] 0 [4, 5, 7, 23, 24, 25]) (.seq (.reg [⟨some 30, .mov (.t 5), none, false⟩, ⟨some 31, .nilck (.t 30), none, false⟩, ⟨some 32, .faddr 0 (.t 31), none, false⟩, ⟨some 33, .faddr 19 (.t 32), none, false⟩, ⟨some 34, .load true 5 (.t 33), none, false⟩, ⟨some 35, .mov (.t 7), none, false⟩, ⟨some 36, .call 15 [.t 34, .t 35], none, false⟩, ⟨some 29, .mov (.t 36), none, false⟩, ⟨some 37, .ext (.t 29) 0, none, false⟩, ⟨some 38, .ext (.t 29) 1, none, false⟩, ⟨some 8, .alloc [.int .i64 0, .int .u8 0, .sl 0 [] .nil, .sl 0 [] .nil, .sl 0 [] .nil], none, false⟩, ⟨none, .store 5 (.t 8) (.t 37), none, false⟩, ⟨some 9, .mov (.t 38), none, false⟩] 0 [4, 5, 8, 9, 23, 24, 25]) (.seq (.seq (.reg [⟨some 39, .mov (.t 9), none, false⟩, ⟨some 40, .len (.t 39), none, false⟩, ⟨some 41, .mov (.c (.int .i64 0)), none, false⟩] 0 [4, 5, 8, 23, 24, 25, 39, 40, 41]) (.blk 2 (.loop rc_sfeed_l0))) (.reg [⟨some 49, .mov (.t 5), none, false⟩, ⟨some 50, .load true 5 (.t 8), none, false⟩, ⟨some 51, .nilck (.t 49), none, false⟩, ⟨some 52, .faddr 0 (.t 51), none, false⟩, ⟨some 53, .faddr 19 (.t 52), none, false⟩, ⟨none, .store 5 (.t 53) (.t 50), none, false⟩] 0 [4, 5, 23, 24, 25]))))) (.reg [⟨some 54, .bin .add (.t 25) (.c (.int .i64 1)), none, false⟩, ⟨some 25, .mov (.t 54), none, false⟩] 0 [4, 5, 23, 24, 25]))))
noncomputable def rc_sfeed : RFn := ⟨2, 59, .seq (.reg [⟨some 2, .box 24 (.t 0), none, false⟩, ⟨some 4, .alloc [.int .i64 0, .int .i64 0, .sl 0 [] .nil, .int .i64 0, .int .i64 0, .bool false, .int .u16 0, .int .i64 0, .int .i64 0, .sl 0 [] .nil, .int .i64 0, .int .i64 0, .int .u16 0, .bool false, .bool false, .bool false, .sl 0 [] .nil, .int .i64 0, .int .i64 0, .int .i64 0, .int .u8 0, .sl 0 [] .nil, .sl 0 [] .nil, .sl 0 [] .nil], none, false⟩] 0 [1, 2, 4]) (.seq (.reg [⟨some 12, .load true 24 (.t 2), none, false⟩, ⟨some 13, .call 13 [.t 12], none, false⟩, ⟨some 14, .build [.int .i64 0, .int .i64 0, .sl 0 [] .nil, .int .i64 0, .int .i64 0, .bool false, .int .u16 0, .int .i64 0, .int .i64 0, .sl 0 [] .nil, .int .i64 0, .int .i64 0, .int .u16 0, .bool false, .bool false, .bool false, .sl 0 [] .nil, .int .i64 0, .int .i64 0, .int .i64 0, .int .u8 0, .sl 0 [] .nil, .sl 0 [] .nil, .sl 0 [] .nil] [(0, (24, (.t 13)))], none, false⟩, ⟨some 15, .box 24 (.t 14), none, false⟩, ⟨some 5, .mov (.t 15), none, false⟩] 0 [1, 2, 4, 5]) (.seq (.seq (.reg [⟨some 16, .load true 24 (.t 2), none, false⟩, ⟨some 17, .call 14 [.t 16], none, false⟩, ⟨some 18, .un .not (.t 17), none, false⟩] 0 [1, 4, 5, 18]) (.cond (.t 18) (.seq (.reg [⟨some 19, .mov (.t 5), none, false⟩, ⟨some 20, .nilck (.t 19), none, false⟩, ⟨some 21, .faddr 0 (.t 20), none, false⟩, ⟨some 22, .load true 24 (.t 21), none, false⟩, ⟨none, .store 24 (.t 4) (.t 22), none, false⟩] 0 [4]) .ret) .skip)) (.seq (.seq (.reg [⟨some 23, .mov (.t 1), none, false⟩, ⟨some 24, .len (.t 23), none, false⟩, ⟨some 25, .mov (.c (.int .i64 0)), none, false⟩] 0 [4, 5, 23, 24, 25]) (.blk 0 (.loop rc_sfeed_l1))) (.seq (.reg [⟨some 55, .mov (.t 5), none, false⟩, ⟨some 56, .nilck (.t 55), none, false⟩, ⟨some 57, .faddr 0 (.t 56), none, false⟩, ⟨some 58, .load true 24 (.t 57), none, false⟩, ⟨none, .store 24 (.t 4) (.t 58), none, false⟩] 0 [4]) .ret)))), [.c 4 true 24]⟩
theorem rc_sfeed_ok : compFn PG.P [⟨0, 0, [1, 2, 4], []⟩, ⟨1, 0, [1, 2, 4, 5], []⟩, ⟨2, 0, [1, 4, 5, 18], []⟩, ⟨3, 0, [4], []⟩, ⟨4, 0, [4, 5, 23, 24, 25], []⟩, ⟨5, 0, [4, 5, 23, 24, 25, 26], []⟩, ⟨6, 0, [4, 5, 7, 23, 24, 25], []⟩, ⟨7, 0, [4, 5, 8, 9, 23, 24, 25], []⟩, ⟨8, 0, [4, 5, 8, 23, 24, 25, 39, 40, 41], []⟩, ⟨9, 0, [4, 5, 8, 23, 24, 25, 39, 40, 41, 42], []⟩, ⟨10, 0, [4, 5, 8, 11, 23, 24, 25, 39, 40, 41], []⟩, ⟨11, 0, [4, 5, 8, 23, 24, 25, 39, 40, 41], []⟩, ⟨12, 0, [4, 5, 8, 23, 24, 25, 39, 40, 41], []⟩, ⟨13, 0, [4, 5, 23, 24, 25], []⟩, ⟨14, 0, [4, 5, 23, 24, 25], []⟩, ⟨15, 0, [4], []⟩] 9 = some rc_sfeed := by kernel_rfl
theorem T27_n9 (args : List DV) : tab T27 13 args = none := nrfl _
theorem T27_n14 (args : List DV) : tab T27 14 args = none := nrfl _
theorem T27_n16 (args : List DV) : tab T27 16 args = none := nrfl _
def zScr : List DV := [.int .i64 0, .int .i64 0, .sl 0 [] .nil, .int .i64 0, .int .i64 0, .bool false, .int .u16 0, .int .i64 0, .int .i64 0, .sl 0 [] .nil, .int .i64 0, .int .i64 0, .int .u16 0, .bool false, .bool false, .bool false, .sl 0 [] .nil, .int .i64 0, .int .i64 0, .int .i64 0, .int .u8 0, .sl 0 [] .nil, .sl 0 [] .nil, .sl 0 [] .nil]
theorem sfeed_K {T : Objs} {s : Sc} {p : Pa} {v : DV} {sz : Nat} {sk : SK} {l : List Int} {K : DV → Objs → Prop} (ok : ScOk s) (pk : paOk p) (hv : ScVal s p v) (hs : sz = 1 ∨ l = []) (hk : inK .u8 l) (hl : l.length ≤ 1000000)
    (h : ∀ T' v', Keep T T' [] → ScVal (l.foldl feedF (s, p)).1 (l.foldl feedF (s, p)).2 v' → K v' T') : CallK PG 9 [v, .sl sz (intRows .u8 l) sk] T K := by
  obtain ⟨z1, z2, z3, k1, k2, k3, m, pr, d1, d2, d3, sv, rfl⟩ := hv
  have o1 : DV.one d1 = true := by obtain ⟨a, b, e, _⟩ := isInts_inv sv.pa.i1; rw [e]; rfl
  have o2 : DV.one d2 = true := by obtain ⟨a, b, e, _⟩ := isInts_inv sv.pa.i2; rw [e]; rfl
  have o3 : DV.one d3 = true := by obtain ⟨a, b, e, _⟩ := isInts_inv sv.pa.i3; rw [e]; rfl
  refine CallK.of_fnF T27_ok rc_sfeed_ok (by simp [rc_sfeed]) ?_
  unfold rc_sfeed
  have esc : scD s z1 z2 z3 k1 k2 k3 m pr d1 d2 d3 = [.int .i64 s.rows, .int .i64 s.cols, .sl z1 (ceRows s.cells) k1, .int .i64 s.y, .int .i64 s.x, .bool s.wrap, .int .u16 s.attr, .int .i64 s.top, .int .i64 s.bot, .sl z2 (boRows s.tabs) k2, .int .i64 s.sy, .int .i64 s.sx, .int .u16 s.sattr, .bool s.auto, .bool s.shown, .bool s.alt, .sl z3 (ceRows s.other) k3, .int .i64 s.oy, .int .i64 s.ox, .int .i64 m, .int .u8 pr, d1, d2, d3] := rfl
  dsimp only
  rw [esc]
  simp -implicitDefEqProofs -dsimp only [tb_at, T27_n9, T27_n14, T27_n16, o1, o2, o3, vcS, ↓vcP1, ↓vcP2, ↓reduceIte, reduceCtorEq, Nat.reduceLT, Nat.reduceLeDiff, Nat.reduceEqDiff, Nat.reduceAdd, Nat.reduceSub, Nat.reduceMul, Int.reduceLT, Int.reduceLE, Int.reduceEq, Int.reduceToNat, Int.reduceAdd, Int.reduceSub, Int.reduceNeg, List.reduceReplicate, Nat.reducePow, Int.reduceMul]
  refine scopied_K ok sv pk fun T1 q tq oq e1 e2 e3 g1 g2 g3 g4 g5 g6 c1 c2 c3 pa k => ?_
  have y1 : DV.one e1 = true := by obtain ⟨a, b, e, _⟩ := isInts_inv pa.i1; rw [e]; rfl
  have y2 : DV.one e2 = true := by obtain ⟨a, b, e, _⟩ := isInts_inv pa.i2; rw [e]; rfl
  have y3 : DV.one e3 = true := by obtain ⟨a, b, e, _⟩ := isInts_inv pa.i3; rw [e]; rfl
  unfold tmBox
  have hb0 := k.at (tb_get0 T [_] (some (Ob.box _))) (by simp)
  simp -implicitDefEqProofs -dsimp only [tb_at, tb_all hb0, T27_n9, T27_n14, T27_n16, o1, o2, o3, y1, y2, y3, vcS, ↓vcP1, ↓vcP2, ↓reduceIte, reduceCtorEq, Nat.reduceLT, Nat.reduceLeDiff, Nat.reduceEqDiff, Nat.reduceAdd, Nat.reduceSub, Nat.reduceMul, Int.reduceLT, Int.reduceLE, Int.reduceEq, Int.reduceToNat, Int.reduceAdd, Int.reduceSub, Int.reduceNeg, List.reduceReplicate, Nat.reducePow, Int.reduceMul]
  refine ssized_K ok o1 o2 o3 fun T2 k2 => ?_
  simp -implicitDefEqProofs -dsimp only [tb_at, T27_n9, T27_n14, T27_n16, o1, o2, o3, y1, y2, y3, vcS, ↓vcP1, ↓vcP2, ↓reduceIte, reduceCtorEq, Nat.reduceLT, Nat.reduceLeDiff, Nat.reduceEqDiff, Nat.reduceAdd, Nat.reduceSub, Nat.reduceMul, Int.reduceLT, Int.reduceLE, Int.reduceEq, Int.reduceToNat, Int.reduceAdd, Int.reduceSub, Int.reduceNeg, List.reduceReplicate, Nat.reducePow, Int.reduceMul]
  have lk := k.1
  have lk2 := k2.1
  simp only [List.length_append, List.length_cons, List.length_nil] at lk lk2 g1 g2 g3
  have q1 := tb_lt c1
  have q2 := tb_lt c2
  have q3 := tb_lt c3
  have hb4 := k2.at (tb_f (k.at (tb_geti T [_, some (Ob.box _)] 1) (by simp)) _) (by simp)
  have term0 : TermAt _ T2 T1.length s p := .mk ((k.newApp _).new k2 (by simp)) pa
    ⟨k2.at (tb_get0 T1 [] _) (by simp), k2.at (tb_f c1 _) (by simp), k2.at (tb_f c2 _) (by simp), .inl ⟨oq, rfl, k2.at (tb_f c3 _) (by simp), by omega, by omega, by omega, Dd.ge (by simp; omega)⟩, by omega, by omega, by omega, Dd.ge (by simp; omega), Dd.ge (by simp; omega), Dd.ge (by simp; omega)⟩
  obtain ⟨B, kB, lB, zB, term0⟩ : ∃ B : Objs, Keep T B [] ∧ B.length = T.length + 2 ∧ B[T.length + 1]? = some (some (.box zScr)) ∧ TermAt B T2 T1.length s p := ⟨_, Keep.app _ _ _, by simp, tb_geti _ _ 1, term0⟩
  clear hb4 hb0
  refine LoopWp.inv T27_ok (S := fun σ : Nat × Objs => ⟨[(4, .ptr (T.length + 1) 0 0), (5, .ptr T1.length 0 0), (23, .sl sz (intRows .u8 l) sk), (24, .int .i64 l.length), (25, .int .i64 σ.1)], σ.2⟩)
    (I := fun σ => σ.1 ≤ l.length ∧ TermAt B σ.2 T1.length ((l.take σ.1).foldl feedF (s, p)).1 ((l.take σ.1).foldl feedF (s, p)).2) (μ := fun σ => l.length - σ.1) (0, T2) ⟨by simp, term0⟩ ?_ ?_
  · simp -implicitDefEqProofs -dsimp only [wkT_self, vcS, ↓vcP1, ↓vcP2, ↓reduceIte, reduceCtorEq, Nat.reduceLT, Nat.reduceLeDiff, Nat.reduceEqDiff, Nat.reduceAdd, Nat.reduceSub, Nat.reduceMul, Int.reduceLT, Int.reduceLE, Int.reduceEq, Int.reduceToNat, Int.reduceAdd, Int.reduceSub, Int.reduceNeg, List.reduceReplicate, Nat.reducePow, Int.reduceMul]
  · intro ⟨i, A⟩ ⟨h1, h2⟩
    dsimp only at h1 h2 ⊢
    have hby : ∀ c ∈ l, 0 ≤ c ∧ c ≤ 255 := fun c hc => by have := hk.2 c hc; have := u8mm; omega
    have fo := feed_ok (l := l.take i) (x := (s, p)) ok pk fun c hc => hby c (List.mem_of_mem_take hc)
    have hst := fun hi => feed_step (x := (s, p)) (i := i) (l := l) hi
    have hfin : l.length ≤ i → (l.take i).foldl feedF (s, p) = l.foldl feedF (s, p) := fun hh => by rw [List.take_of_length_le hh]
    generalize (l.take i).foldl feedF (s, p) = x at *
    obtain ⟨x1, x2⟩ := x
    dsimp only at h2 fo hst
    obtain ⟨k4, q', tq', od', m', pr', f1, f2, f3, pa', t'⟩ := id h2
    have hbt := t'.box
    unfold tmBox at hbt
    have w1 : IntKind.i64.wrap ((i : Int) + 1) = ((i + 1 : Nat) : Int) := by rw [wI64 (by omega) (by omega)]; omega
    unfold rc_sfeed_l1
    rcases Nat.lt_or_ge i l.length with hlt | hge
    · have hii : (i : Int) < l.length := by omega
      have i0 : (0 : Int) ≤ i := by omega
      have hsz : sz = 1 := by rcases hs with h | h; exact h; subst h; simp at hlt
      subst hsz
      have hg : (intRows .u8 l)[i]? = some [.int .u8 (l.getD i 0)] := by simp [intRows, hlt]
      have hlr : (intRows .u8 l).length = l.length := by simp [intRows]
      have hb := hby (l.getD i 0) (by simp [List.getD_eq_getElem?_getD, hlt])
      have hst := hst hlt
      generalize l.getD i 0 = c at *
      have hpe : (⟨m', pr', intsD f1, intsD f2, intsD f3⟩ : Pa) = x2 := by rw [pa'.m, pa'.pr, pa'.e1, pa'.e2, pa'.e3]
      have i1 := pa'.i1
      have i2 := pa'.i2
      have i3 := pa'.i3
      have pk2 := fo.2
      have v1 : DV.one f1 = true := by obtain ⟨a, b, e, _⟩ := isInts_inv i1; rw [e]; rfl
      have v2 : DV.one f2 = true := by obtain ⟨a, b, e, _⟩ := isInts_inv i2; rw [e]; rfl
      have v3 : DV.one f3 = true := by obtain ⟨a, b, e, _⟩ := isInts_inv i3; rw [e]; rfl
      simp -implicitDefEqProofs -dsimp only [tb_at, tb_all hbt, T27_at_step, F_vstep_1, hpe, i1, i2, i3, pk2, hb, paR_eq, hii, i0, hg, hlr, Nat.zero_add, v1, v2, v3, acRows_length, vcS, ↓vcP1, ↓vcP2, ↓reduceIte, reduceCtorEq, Nat.reduceLT, Nat.reduceLeDiff, Nat.reduceEqDiff, Nat.reduceAdd, Nat.reduceSub, Nat.reduceMul, Int.reduceLT, Int.reduceLE, Int.reduceEq, Int.reduceToNat, Int.reduceAdd, Int.reduceSub, Int.reduceNeg, List.reduceReplicate, Nat.reducePow, Int.reduceMul]
      have hacs := vstep_acs pk2 hb
      have hpk := vstep_pok pk2 hb
      have hst' : (l.take (i + 1)).foldl feedF (s, p) = ((vstepF x2 c).2.foldl actF x1, (vstepF x2 c).1) := hst
      have hlen := vstep_len x2 c
      generalize vstepF x2 c = st at *
      obtain ⟨y, acts⟩ := st
      dsimp only at hacs hpk hst' hlen ⊢
      obtain ⟨B2, tB, kB2, lB2, hB2⟩ := h2.tight [some (.box [.int .i64 y.m, .int .u8 y.pr, .sl 1 (intRows .i64 y.P) .any, .sl 1 (intRows .u8 y.I) .any, .sl 1 (intRows .u8 y.U) .any])]
      have hnb := hB2 A.length _ (Nat.le_refl _) (tb_get0 _ _ _)
      have hal : (acRows acts).length = acts.length := acRows_length _
      refine LoopWp.inv T27_ok (S := fun σ : Nat × Objs => ⟨[(4, .ptr (T.length + 1) 0 0), (5, .ptr T1.length 0 0), (8, .ptr A.length 0 0), (23, .sl 1 (intRows .u8 l) sk), (24, .int .i64 l.length), (25, .int .i64 i), (39, .sl 6 (acRows acts) .any), (40, .int .i64 acts.length), (41, .int .i64 σ.1)], σ.2⟩)
        (I := fun σ => σ.1 ≤ acts.length ∧ ∃ pp, TermAt B2 σ.2 T1.length ((acts.take σ.1).foldl actF x1) pp) (μ := fun σ => acts.length - σ.1) (0, A ++ [some (.box [.int .i64 y.m, .int .u8 y.pr, .sl 1 (intRows .i64 y.P) .any, .sl 1 (intRows .u8 y.I) .any, .sl 1 (intRows .u8 y.U) .any])]) ⟨by simp, _, tB⟩ ?_ ?_
      · simp -implicitDefEqProofs -dsimp only [wkT_self, vcS, ↓vcP1, ↓vcP2, ↓reduceIte, reduceCtorEq, Nat.reduceLT, Nat.reduceLeDiff, Nat.reduceEqDiff, Nat.reduceAdd, Nat.reduceSub, Nat.reduceMul, Int.reduceLT, Int.reduceLE, Int.reduceEq, Int.reduceToNat, Int.reduceAdd, Int.reduceSub, Int.reduceNeg, List.reduceReplicate, Nat.reducePow, Int.reduceMul]
      · intro ⟨j, A2⟩ ⟨g1, pp, g2⟩
        dsimp only at g1 g2 ⊢
        have aok := acts_ok (l := acts.take j) fo.1
        have hnb2 := g2.1.at hnb (by simp)
        have w2 : IntKind.i64.wrap ((j : Int) + 1) = ((j + 1 : Nat) : Int) := by rw [wI64 (by omega) (by omega)]; omega
        unfold rc_sfeed_l0
        rcases Nat.lt_or_ge j acts.length with jlt | jge
        · obtain ⟨a, ha⟩ : ∃ a, acts[j]? = some a := ⟨_, List.getElem?_eq_getElem jlt⟩
          have hao := hacs a (List.mem_of_getElem? ha)
          have jj : (j : Int) < acts.length := by omega
          have j0 : (0 : Int) ≤ j := by omega
          obtain ⟨sa, ka, ea, hsa⟩ : ∃ sa ka, oSl .i64 a.ps = .sl sa (intRows .i64 (osL a.ps)) ka ∧ (sa = 1 ∨ osL a.ps = []) := by
            cases a.ps with
            | none => exact ⟨0, .nil, rfl, .inr rfl⟩
            | some l => exact ⟨1, .any, rfl, .inl rfl⟩
          obtain ⟨sb, kb, eb⟩ : ∃ sb kb, oSl .u8 a.is = .sl sb (intRows .u8 (osL a.is)) kb := by
            cases a.is with
            | none => exact ⟨0, .nil, rfl⟩
            | some l => exact ⟨1, .any, rfl⟩
          have hrow : (acRows acts)[j]? = some [.int .i64 a.k, .int .i32 a.r, .int .u8 a.b, .int .u8 a.p, .sl sa (intRows .i64 (osL a.ps)) ka, .sl sb (intRows .u8 (osL a.is)) kb] := by
            rw [← ea, ← eb]
            simp [acRows, acRow, ha]
          simp -implicitDefEqProofs -dsimp only [tb_at, T27_n16, hrow, hal, jj, j0, Nat.zero_add, vcS, ↓vcP1, ↓vcP2, ↓reduceIte, reduceCtorEq, Nat.reduceLT, Nat.reduceLeDiff, Nat.reduceEqDiff, Nat.reduceAdd, Nat.reduceSub, Nat.reduceMul, Int.reduceLT, Int.reduceLE, Int.reduceEq, Int.reduceToNat, Int.reduceAdd, Int.reduceSub, Int.reduceNeg, List.reduceReplicate, Nat.reducePow, Int.reduceMul]
          refine tdo_K (T0 := B2) (s := (acts.take j).foldl actF x1) (p := pp) ⟨by have := hao.1; omega, by have := hao.1; omega⟩ hsa (by have := hao.2.1; omega) hao.2.2 aok (g2.keep (Keep.app _ _ _)) fun T' lt t2 => ?_
          simp -implicitDefEqProofs -dsimp only [tb_at, T27_n16, w2, wkT_self, vcS, ↓vcP1, ↓vcP2, ↓reduceIte, reduceCtorEq, Nat.reduceLT, Nat.reduceLeDiff, Nat.reduceEqDiff, Nat.reduceAdd, Nat.reduceSub, Nat.reduceMul, Int.reduceLT, Int.reduceLE, Int.reduceEq, Int.reduceToNat, Int.reduceAdd, Int.reduceSub, Int.reduceNeg, List.reduceReplicate, Nat.reducePow, Int.reduceMul]
          exact ⟨(j + 1, T'), ⟨rfl, objsWk_refl _⟩, ⟨jlt, _, by dsimp only; rw [acts_step ha]; exact t2⟩, by dsimp only; omega⟩
        · have jj : ¬ (j : Int) < acts.length := by omega
          obtain rfl : j = acts.length := by omega
          rw [List.take_length] at g2
          obtain ⟨k5, q5, tq5, od5, m5, pr5, u1, u2, u3, pa5, t5⟩ := g2
          have hb5 := t5.box
          unfold tmBox at hb5
          simp -implicitDefEqProofs -dsimp only [tb_at, tb_all hb5, tb_all hnb2, jj, w1, wkT_self, vcS, ↓vcP1, ↓vcP2, ↓reduceIte, reduceCtorEq, Nat.reduceLT, Nat.reduceLeDiff, Nat.reduceEqDiff, Nat.reduceAdd, Nat.reduceSub, Nat.reduceMul, Int.reduceLT, Int.reduceLE, Int.reduceEq, Int.reduceToNat, Int.reduceAdd, Int.reduceSub, Int.reduceNeg, List.reduceReplicate, Nat.reducePow, Int.reduceMul]
          refine ⟨(i + 1, A2.set T1.length (some (.box (tmBox (acts.foldl actF x1) q5 tq5 od5 y.m y.pr (.sl 1 (intRows .i64 y.P) .any) (.sl 1 (intRows .u8 y.I) .any) (.sl 1 (intRows .u8 y.U) .any))))), ⟨rfl, objsWk_refl _⟩, ⟨hlt, ?_⟩, by dsimp only; omega⟩
          dsimp only
          rw [hst']
          obtain ⟨o1', o2', o3', _⟩ := hpk
          exact (TermAt.mk (k5.put t5.no _) (p := y) { m := rfl, pr := rfl, i1 := isInts_mk (.inl rfl) o1', i2 := isInts_mk (.inl rfl) o2', i3 := isInts_mk (.inl rfl) o3', e1 := intsD_sl .., e2 := intsD_sl .., e3 := intsD_sl .. } (t5.put rfl rfl rfl rfl rfl)).base kB2
    · have hii : ¬ (i : Int) < l.length := by omega
      obtain rfl : i = l.length := by omega
      have hz := k4.at zB (by simp)
      unfold zScr at hz
      have v1 : DV.one f1 = true := by obtain ⟨a, b, e, _⟩ := isInts_inv pa'.i1; rw [e]; rfl
      have v2 : DV.one f2 = true := by obtain ⟨a, b, e, _⟩ := isInts_inv pa'.i2; rw [e]; rfl
      have v3 : DV.one f3 = true := by obtain ⟨a, b, e, _⟩ := isInts_inv pa'.i3; rw [e]; rfl
      have vo : DV.one od' = true := by
        rcases t'.oth with ⟨oq, e, _⟩ | ⟨_, _, _, e⟩
        · rw [e]; rfl
        · rw [e]; rfl
      have kA : Keep T A [] := kB.new k4 (by simp)
      have nz : ∀ {j}, Dd B j → j ≠ T.length + 1 := fun {j} h e => by subst e; exact h _ zB
      have dd : ∀ {j}, Dd B j → Dd T j := fun h ob e => h ob (kB.2 _ ob (by simp) e)
      have lz : Dd T (T.length + 1) := Dd.ge (by omega)
      have la := k4.1
      simp -implicitDefEqProofs -dsimp only [tb_at, tb_all hbt, tb_all hz, hii, v1, v2, v3, vo, wkT_self, vcS, ↓vcP1, ↓vcP2, ↓reduceIte, reduceCtorEq, Nat.reduceLT, Nat.reduceLeDiff, Nat.reduceEqDiff, Nat.reduceAdd, Nat.reduceSub, Nat.reduceMul, Int.reduceLT, Int.reduceLE, Int.reduceEq, Int.reduceToNat, Int.reduceAdd, Int.reduceSub, Int.reduceNeg, List.reduceReplicate, Nat.reducePow, Int.reduceMul]
      have tz : TmAt T (A.set (T.length + 1) (some (.box (tmBox x1 q' tq' od' m' pr' f1 f2 f3)))) T1.length q' tq' x1 od' m' pr' f1 f2 f3 :=
        ⟨tb_ne t'.box _ (nz t'.no), tb_ne t'.cells _ (nz t'.nq), tb_ne t'.tabs _ (nz t'.nt), t'.oth.imp (fun ⟨oq, a, b, c, d, e, f⟩ => ⟨oq, a, tb_ne b _ (nz f), c, d, e, dd f⟩) id, t'.oq, t'.ot, t'.qt, dd t'.no, dd t'.nq, dd t'.nt⟩
      obtain ⟨v', T', hF, hv, kT, _⟩ := Frzs.sc (n := 0) (kA.put lz _) pa' tz fo.1
      refine ⟨by simp; omega, v', T', hF, h T' v' kT ?_⟩
      rw [← hfin (Nat.le_refl _)]
      exact hv
end Go.Proofs.YtjmnbpilnneonaaDoor
