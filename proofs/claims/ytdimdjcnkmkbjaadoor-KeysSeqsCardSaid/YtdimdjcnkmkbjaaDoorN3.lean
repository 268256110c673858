/- Texts K8, K9, K10 in one. -/
import Derived.Test.YtdimdjcnkmkbjaaDoorN2
set_option linter.unusedVariables false
set_option linter.unusedSimpArgs false
set_option maxRecDepth 10000
namespace Go.Proofs.YtdimdjcnkmkbjaaDoor
open Go.RowKit
noncomputable def rc_yfirst_l0 : RC := (.blk 1 (.seq (.blk 2 (.seq (.reg [⟨some 9, .mov (.t 0), none, false⟩, ⟨some 10, .nilck (.t 9), none, false⟩, ⟨some 11, .faddr 3 (.t 10), none, false⟩, ⟨some 12, .load false 1 (.t 11), none, false⟩, ⟨some 8, .mov (.t 12), none, false⟩] 0 [0, 1, 4, 8]) (.cond (.t 8) (.seq (.reg [⟨some 13, .mov (.t 0), none, false⟩, ⟨some 14, .call 41 [.t 13], none, false⟩, ⟨some 15, .ext (.t 14) 0, none, false⟩, ⟨some 16, .ext (.t 14) 1, none, false⟩, ⟨none, .store 5 (.t 4) (.t 15), none, false⟩, ⟨some 5, .mov (.t 16), none, false⟩] 0 [4, 5]) .ret) (.seq (.regD (.take ⟨some 18, .mov (.t 0), none, false⟩ [] (.take ⟨some 19, .nilck (.t 18), none, false⟩ [] (.take ⟨some 20, .faddr 2 (.t 19), none, false⟩ [] (.take ⟨some 21, .load false 1 (.t 20), none, false⟩ [] (.take ⟨some 22, .len (.t 21), none, false⟩ [] (.take ⟨some 23, .bin .eql (.t 22) (.c (.int .i64 0)), none, false⟩ [] (.take ⟨some 24, .mov (.t 23), none, false⟩ [] (.take ⟨some 25, .mov (.t 1), some (24, false), false⟩ [] (.take ⟨some 26, .un .not (.t 25), some (24, false), false⟩ [] (.take ⟨some 27, .mov (.t 26), some (24, false), false⟩ [] (.take ⟨some 28, .mov (.t 0), some (27, true), false⟩ [] (.take ⟨some 29, .nilck (.t 28), some (27, true), false⟩ [] (.take ⟨some 30, .faddr 2 (.t 29), some (27, true), false⟩ [] (.take ⟨some 31, .load false 1 (.t 30), some (27, true), false⟩ [] (.take ⟨some 32, .len (.t 31), some (27, true), false⟩ [] (.take ⟨some 33, .bin .lss (.t 32) (.c (.int .i64 8)), some (27, true), false⟩ [] (.take ⟨some 34, .pick (.t 27) (.t 33) (.c (.bool false)), some (24, false), false⟩ [] (.take ⟨some 35, .mov (.t 34), some (24, false), false⟩ [] (.take ⟨some 36, .mov (.t 0), some (35, true), false⟩ [] (.take ⟨some 37, .nilck (.t 36), some (35, true), false⟩ [] (.take ⟨some 38, .faddr 1 (.t 37), some (35, true), false⟩ [] (.take ⟨some 39, .load false 1 (.t 38), some (35, true), false⟩ [] (.take ⟨some 40, .mov (.t 0), some (35, true), false⟩ [] (.take ⟨some 41, .nilck (.t 40), some (35, true), false⟩ [] (.take ⟨some 42, .faddr 2 (.t 41), some (35, true), false⟩ [] (.take ⟨some 43, .load false 1 (.t 42), some (35, true), false⟩ [] (.take ⟨some 44, .conv .b2s (.t 43), some (35, true), false⟩ [] (.take ⟨some 45, .mget none false (.bool false) (.t 39) (.t 44), some (35, true), false⟩ [] (.take ⟨some 46, .pick (.t 35) (.t 45) (.c (.bool false)), some (24, false), false⟩ [] (.take ⟨some 47, .pick (.t 24) (.c (.bool true)) (.t 46), none, false⟩ [] (.take ⟨some 17, .mov (.t 47), none, false⟩ [] .done))))))))))))))))))))))))))))))) 0 [0, 1, 4, 17]) (.cond (.t 17) (.seq (.reg [⟨some 48, .build [.int .i64 0, .str [], .sl 0 [] .nil, .int .i32 0, .sl 0 [] .nil] [], none, false⟩, ⟨none, .store 5 (.t 4) (.t 48), none, false⟩, ⟨some 5, .mov (.c (.bool false)), none, false⟩] 0 [4, 5]) .ret) .skip))))) (.seq (.reg [⟨some 49, .mov (.t 0), none, false⟩, ⟨some 50, .call 42 [.t 49], none, false⟩, ⟨some 6, .mov (.t 50), none, false⟩] 0 [0, 1, 4, 6]) (.blk 3 (.seq (.reg [⟨some 64, .mov (.t 6), none, false⟩, ⟨some 65, .bin .eql (.t 64) (.c (.int .i64 0)), none, false⟩, ⟨some 63, .mov (.t 65), none, false⟩] 0 [0, 1, 4, 6, 63]) (.cond (.t 63) (.seq (.reg [⟨some 66, .mov (.t 0), none, false⟩, ⟨some 67, .mov (.t 1), none, false⟩, ⟨some 68, .call 43 [.t 66, .t 67], none, false⟩, ⟨some 69, .ext (.t 68) 0, none, false⟩, ⟨some 70, .ext (.t 68) 1, none, false⟩, ⟨none, .store 5 (.t 4) (.t 69), none, false⟩, ⟨some 5, .mov (.t 70), none, false⟩] 0 [4, 5]) .ret) (.seq (.reg [⟨some 72, .mov (.t 0), none, false⟩, ⟨some 73, .nilck (.t 72), none, false⟩, ⟨some 74, .faddr 2 (.t 73), none, false⟩, ⟨some 75, .load false 1 (.t 74), none, false⟩, ⟨some 76, .mov (.t 6), none, false⟩, ⟨some 77, .slice 1 (.t 75) none (some (.t 76)) none, none, false⟩, ⟨some 78, .conv .b2s (.t 77), none, false⟩, ⟨some 79, .bin .eql (.t 78) (.c (.str [(27), (91), (50), (48), (48), (126)])), none, false⟩, ⟨some 71, .mov (.t 79), none, false⟩] 0 [0, 1, 4, 6, 71]) (.cond (.t 71) (.seq (.reg [⟨some 80, .mov (.t 0), none, false⟩, ⟨some 81, .mov (.t 6), none, false⟩, ⟨some 82, .call 44 [.t 80, .t 81], none, false⟩] 0 [0, 1, 4]) (.reg [⟨some 83, .mov (.t 0), none, false⟩, ⟨some 84, .nilck (.t 83), none, false⟩, ⟨some 85, .faddr 3 (.t 84), none, false⟩, ⟨none, .store 1 (.t 85) (.c (.bool true)), none, false⟩] 0 [0, 1, 4])) (.seq (.reg [⟨some 51, .mov (.t 0), none, false⟩, ⟨some 52, .mov (.t 6), none, false⟩, ⟨some 53, .call 44 [.t 51, .t 52], none, false⟩, ⟨some 7, .mov (.t 53), none, false⟩] 0 [0, 4, 7]) (.seq (.regD (.take ⟨some 54, .mov (.t 0), none, false⟩ [] (.take ⟨some 55, .nilck (.t 54), none, false⟩ [] (.take ⟨some 56, .faddr 0 (.t 55), none, false⟩ [] (.take ⟨some 57, .load false 1 (.t 56), none, false⟩ [] (.take ⟨some 58, .mov (.t 7), none, false⟩ [] (.take ⟨some 59, .conv .b2s (.t 58), none, false⟩ [] (.take ⟨some 60, .mget none false (.str []) (.t 57) (.t 59), none, false⟩ [] (.take ⟨some 61, .mov (.t 7), none, false⟩ [] (.take ⟨some 62, .build [.int .i64 0, .str [], .sl 0 [] .nil, .int .i32 0, .sl 0 [] .nil] [(0, (1, (.c (.int .i64 0)))), (1, (1, (.t 60))), (2, (1, (.t 61)))], none, false⟩ [] (.op ⟨none, .store 5 (.t 4) (.t 62), none, false⟩ (.take ⟨some 5, .mov (.c (.bool true)), none, false⟩ [] .done))))))))))) 0 [4, 5]) .ret))))))))))
noncomputable def rc_yfirst : RFn := ⟨2, 86, .seq (.reg [⟨some 4, .alloc [.int .i64 0, .str [], .sl 0 [] .nil, .int .i32 0, .sl 0 [] .nil], none, false⟩, ⟨some 5, .mov (.c (.bool false)), none, false⟩] 0 [0, 1, 4]) (.blk 0 (.loop rc_yfirst_l0)), [.c 4 true 5, .t 5]⟩
theorem rc_yfirst_ok : compFn PG.P [⟨0, 0, [0, 1, 4], []⟩, ⟨1, 0, [0, 1, 4, 8], []⟩, ⟨2, 0, [4, 5], []⟩, ⟨3, 0, [0, 1, 4, 17], []⟩, ⟨4, 0, [4, 5], []⟩, ⟨5, 0, [0, 1, 4, 6], []⟩, ⟨6, 0, [0, 4, 7], []⟩, ⟨7, 0, [4, 5], []⟩, ⟨8, 0, [0, 1, 4, 6, 63], []⟩, ⟨9, 0, [4, 5], []⟩, ⟨10, 0, [0, 1, 4, 6, 71], []⟩, ⟨11, 0, [0, 1, 4], []⟩, ⟨12, 0, [0, 1, 4], []⟩] 34 = some rc_yfirst := by kernel_rfl
def longG (L : List Bd) (S : List Int) : Nat := longN L S (min S.length 8)
def cmdB (L : List Bd) (s : List Int) : List UInt8 := ((findB L s).map Bd.cmd).getD []
def yfirF (L : List Bd) (late : Bool) (S : List Int) : Option Ky × List Int :=
  if S = [] ∨ late = false ∧ S.length < 8 ∧ headB L S = true then (none, S)
  else if longG L S = 0 then singleF late S
  else (some ⟨0, cmdB L (S.take (longG L S)), S.take (longG L S), 0, []⟩, S.drop (longG L S))
theorem longN_le {L : List Bd} {S : List Int} : ∀ n, longN L S n ≤ n
  | 0 => Nat.le_refl _
  | n + 1 => by
    unfold longN
    split
    · exact Nat.le_refl _
    · exact Nat.le_succ_of_le (longN_le n)
theorem longG_le {L : List Bd} {S : List Int} : longG L S ≤ S.length := Nat.le_trans (longN_le _) (Nat.min_le_left _ _)
theorem str_begin {s : List Int} (hin : inK .u8 s) : (List.map (fun n => UInt8.ofNat n.toNat) s == [27, 91, 50, 48, 48, 126]) = decide (s = beginL) := by
  have := toB_inj (a := s) (b := beginL) (fun n hn => hin.u8 hn) (by simp [beginL])
  rw [toB_beginL] at this
  by_cases e : s = beginL
  · rw [decide_eq_true e, e]; rfl
  · rw [decide_eq_false e]; simpa [toB] using mt this.1 e
theorem yfirst_K {T : Objs} {o c h : Nat} {d : DV} {L : List Bd} {S : List Int} {late : Bool} {sc at' : Int} {K : DV → Objs → Prop} (D : DecAt T o c h d L S false sc at') (hnb : S.take (longG L S) ≠ beginL)
    (hK : ∀ T' d' v, Keep T T' [o] → DecAt T' o c h d' L (yfirF L late S).2 false sc at' → Nwd T.length d d' → KV v ((yfirF L late S).1.getD kyZ) → K (.tup [v, .bool (yfirF L late S).1.isSome]) T') :
    CallK PG 34 [.ptr o 0 0, .bool late] T K := by
  have hb := D.box
  unfold DecB at hb
  have hl := D.len
  have hT := (D.fin0 [some (Ob.box [.int .i64 0, .str [], .sl 0 [] .nil, .int .i32 0, .sl 0 [] .nil])])
  have D1 := hT.2.1
  have hk1 : (T ++ [some (Ob.box [.int .i64 0, .str [], .sl 0 [] .nil, .int .i32 0, .sl 0 [] .nil])])[T.length]? = some (some (Ob.box [.int .i64 0, .str [], .sl 0 [] .nil, .int .i32 0, .sl 0 [] .nil])) := tb_get0 _ _ _
  have hoT := tb_lt hb
  by_cases hS : S = []
  · have e : yfirF L late S = (none, S) := if_pos (.inl hS)
    rw [e] at hK
    subst hS
    rcases D.lf with ⟨q, rfl, hq⟩ | ⟨_, rfl⟩
    · refine CallK.of_fn FOk.nil rc_yfirst_ok (by simp [rc_yfirst]) ?_
      unfold rc_yfirst
      dsimp only
      simp -implicitDefEqProofs -dsimp only [tb_at, tb_all hb, tb_all hq, vcS, ↓vcP1, ↓vcP2, ↓reduceIte, reduceCtorEq, Nat.reduceLT, Nat.reduceLeDiff, Nat.reduceEqDiff, Nat.reduceAdd, Nat.reduceSub, Nat.reduceMul, Int.reduceLT, Int.reduceLE, Int.reduceEq, Int.reduceToNat, Int.reduceAdd, Int.reduceSub, Int.reduceNeg, List.reduceReplicate, Nat.reducePow, Int.reduceMul]
      refine LoopWp.inv FOk.nil (S := fun _ : Unit => ⟨[(0, .ptr o 0 0), (1, .bool late), (4, .ptr T.length 0 0)], T ++ [some (Ob.box [.int .i64 0, .str [], .sl 0 [] .nil, .int .i32 0, .sl 0 [] .nil])]⟩) (I := fun _ => True) (μ := fun _ => 0) () trivial ?_ ?_
      · simp -implicitDefEqProofs -dsimp only [vcS, ↓vcP1, ↓vcP2, ↓reduceIte, reduceCtorEq, Nat.reduceLT, Nat.reduceLeDiff, Nat.reduceEqDiff, Nat.reduceAdd, Nat.reduceSub, Nat.reduceMul, Int.reduceLT, Int.reduceLE, Int.reduceEq, Int.reduceToNat, Int.reduceAdd, Int.reduceSub, Int.reduceNeg, List.reduceReplicate, Nat.reducePow, Int.reduceMul]
      · intro _ _
        unfold rc_yfirst_l0
        simp -implicitDefEqProofs -dsimp only [tb_at, tb_all hb, tb_all hq, tb_all hk1, List.length_nil, Int.natCast_zero, vcS, ↓vcP1, ↓vcP2, ↓reduceIte, reduceCtorEq, Nat.reduceLT, Nat.reduceLeDiff, Nat.reduceEqDiff, Nat.reduceAdd, Nat.reduceSub, Nat.reduceMul, Int.reduceLT, Int.reduceLE, Int.reduceEq, Int.reduceToNat, Int.reduceAdd, Int.reduceSub, Int.reduceNeg, List.reduceReplicate, Nat.reducePow, Int.reduceMul]
        exact hK _ _ _ hT.1 D1 hT.2.2 KV_z
    · refine CallK.of_fn FOk.nil rc_yfirst_ok (by simp [rc_yfirst]) ?_
      unfold rc_yfirst
      dsimp only
      simp -implicitDefEqProofs -dsimp only [tb_at, tb_all hb, vcS, ↓vcP1, ↓vcP2, ↓reduceIte, reduceCtorEq, Nat.reduceLT, Nat.reduceLeDiff, Nat.reduceEqDiff, Nat.reduceAdd, Nat.reduceSub, Nat.reduceMul, Int.reduceLT, Int.reduceLE, Int.reduceEq, Int.reduceToNat, Int.reduceAdd, Int.reduceSub, Int.reduceNeg, List.reduceReplicate, Nat.reducePow, Int.reduceMul]
      refine LoopWp.inv FOk.nil (S := fun _ : Unit => ⟨[(0, .ptr o 0 0), (1, .bool late), (4, .ptr T.length 0 0)], T ++ [some (Ob.box [.int .i64 0, .str [], .sl 0 [] .nil, .int .i32 0, .sl 0 [] .nil])]⟩) (I := fun _ => True) (μ := fun _ => 0) () trivial ?_ ?_
      · simp -implicitDefEqProofs -dsimp only [vcS, ↓vcP1, ↓vcP2, ↓reduceIte, reduceCtorEq, Nat.reduceLT, Nat.reduceLeDiff, Nat.reduceEqDiff, Nat.reduceAdd, Nat.reduceSub, Nat.reduceMul, Int.reduceLT, Int.reduceLE, Int.reduceEq, Int.reduceToNat, Int.reduceAdd, Int.reduceSub, Int.reduceNeg, List.reduceReplicate, Nat.reducePow, Int.reduceMul]
      · intro _ _
        unfold rc_yfirst_l0
        simp -implicitDefEqProofs -dsimp only [tb_at, tb_all hb, tb_all hk1, List.length_nil, Int.natCast_zero, vcS, ↓vcP1, ↓vcP2, ↓reduceIte, reduceCtorEq, Nat.reduceLT, Nat.reduceLeDiff, Nat.reduceEqDiff, Nat.reduceAdd, Nat.reduceSub, Nat.reduceMul, Int.reduceLT, Int.reduceLE, Int.reduceEq, Int.reduceToNat, Int.reduceAdd, Int.reduceSub, Int.reduceNeg, List.reduceReplicate, Nat.reducePow, Int.reduceMul]
        exact hK _ _ _ hT.1 D1 hT.2.2 KV_z
  · obtain ⟨q, rfl, hq⟩ := D.lf.resolve_right (fun h => hS h.1)
    have hpos : ¬ (S.length : Int) = 0 := by have := List.length_pos_iff.2 hS; omega
    have htk : (intRows .u8 S).take S.length = intRows .u8 S := List.take_of_length_le (by simp [intRows])
    obtain ⟨H, hH, hHo⟩ := D1.hd
    obtain ⟨C, hC, hCo⟩ := D1.cm
    have hq1 : (T ++ [some (Ob.box [.int .i64 0, .str [], .sl 0 [] .nil, .int .i32 0, .sl 0 [] .nil])])[q]? = some (some (.arr 1 (intRows .u8 S))) := tb_f hq _
    have hb1 := D1.box
    unfold DecB at hb1
    have hm : mgetR (T ++ [some (Ob.box [.int .i64 0, .str [], .sl 0 [] .nil, .int .i32 0, .sl 0 [] .nil])]) none false (.bool false) (.mp h) (.str (List.map (fun n => UInt8.ofNat n.toNat) S)) = some (.bool (headB L S)) := by
      rw [mgetR_str hH (mfind_strE _ _), mgetV_no]
      have := hHo _ D.inS
      unfold toB at this
      rw [this]
      cases headB L S <;> simp
    by_cases hw : late = false ∧ S.length < 8 ∧ headB L S = true
    · have e : yfirF L late S = (none, S) := if_pos (.inr hw)
      rw [e] at hK
      obtain ⟨rfl, h8, hh⟩ := hw
      have h8' : (S.length : Int) < 8 := by omega
      refine CallK.of_fn FOk.nil rc_yfirst_ok (by simp [rc_yfirst]) ?_
      unfold rc_yfirst
      dsimp only
      simp -implicitDefEqProofs -dsimp only [tb_at, tb_all hb, tb_all hq, vcS, ↓vcP1, ↓vcP2, ↓reduceIte, reduceCtorEq, Nat.reduceLT, Nat.reduceLeDiff, Nat.reduceEqDiff, Nat.reduceAdd, Nat.reduceSub, Nat.reduceMul, Int.reduceLT, Int.reduceLE, Int.reduceEq, Int.reduceToNat, Int.reduceAdd, Int.reduceSub, Int.reduceNeg, List.reduceReplicate, Nat.reducePow, Int.reduceMul]
      refine LoopWp.inv FOk.nil (S := fun _ : Unit => ⟨[(0, .ptr o 0 0), (1, .bool false), (4, .ptr T.length 0 0)], T ++ [some (Ob.box [.int .i64 0, .str [], .sl 0 [] .nil, .int .i32 0, .sl 0 [] .nil])]⟩) (I := fun _ => True) (μ := fun _ => 0) () trivial ?_ ?_
      · simp -implicitDefEqProofs -dsimp only [vcS, ↓vcP1, ↓vcP2, ↓reduceIte, reduceCtorEq, Nat.reduceLT, Nat.reduceLeDiff, Nat.reduceEqDiff, Nat.reduceAdd, Nat.reduceSub, Nat.reduceMul, Int.reduceLT, Int.reduceLE, Int.reduceEq, Int.reduceToNat, Int.reduceAdd, Int.reduceSub, Int.reduceNeg, List.reduceReplicate, Nat.reducePow, Int.reduceMul]
      · intro _ _
        unfold rc_yfirst_l0
        simp -implicitDefEqProofs -dsimp only [tb_at, tb_all hb1, tb_all hq1, tb_all hk1, hpos, h8', htk, hm, hh, Bool.not_false, vcS, ↓vcP1, ↓vcP2, ↓reduceIte, reduceCtorEq, Nat.reduceLT, Nat.reduceLeDiff, Nat.reduceEqDiff, Nat.reduceAdd, Nat.reduceSub, Nat.reduceMul, Int.reduceLT, Int.reduceLE, Int.reduceEq, Int.reduceToNat, Int.reduceAdd, Int.reduceSub, Int.reduceNeg, List.reduceReplicate, Nat.reducePow, Int.reduceMul, vcM]
        exact hK _ _ _ hT.1 D1 hT.2.2 KV_z
    · have hgo : late = true ∨ late = false ∧ 8 ≤ S.length ∨ late = false ∧ S.length < 8 ∧ headB L S = false := by
        cases late
        · rcases Nat.lt_or_ge S.length 8 with h | h
          · exact .inr (.inr ⟨rfl, h, by simpa [h] using hw⟩)
          · exact .inr (.inl ⟨rfl, h⟩)
        · exact .inl rfl
      by_cases hn : longG L S = 0
      · have e : yfirF L late S = singleF late S := by unfold yfirF; rw [if_neg (by rintro (h | h); exact hS h; exact hw h), if_pos hn]
        rw [e] at hK
        refine CallK.of_fn FOk.nil rc_yfirst_ok (by simp [rc_yfirst]) ?_
        unfold rc_yfirst
        dsimp only
        simp -implicitDefEqProofs -dsimp only [tb_at, tb_all hb, tb_all hq, vcS, ↓vcP1, ↓vcP2, ↓reduceIte, reduceCtorEq, Nat.reduceLT, Nat.reduceLeDiff, Nat.reduceEqDiff, Nat.reduceAdd, Nat.reduceSub, Nat.reduceMul, Int.reduceLT, Int.reduceLE, Int.reduceEq, Int.reduceToNat, Int.reduceAdd, Int.reduceSub, Int.reduceNeg, List.reduceReplicate, Nat.reducePow, Int.reduceMul]
        refine LoopWp.inv FOk.nil (S := fun _ : Unit => ⟨[(0, .ptr o 0 0), (1, .bool late), (4, .ptr T.length 0 0)], T ++ [some (Ob.box [.int .i64 0, .str [], .sl 0 [] .nil, .int .i32 0, .sl 0 [] .nil])]⟩) (I := fun _ => True) (μ := fun _ => 0) () trivial ?_ ?_
        · simp -implicitDefEqProofs -dsimp only [vcS, ↓vcP1, ↓vcP2, ↓reduceIte, reduceCtorEq, Nat.reduceLT, Nat.reduceLeDiff, Nat.reduceEqDiff, Nat.reduceAdd, Nat.reduceSub, Nat.reduceMul, Int.reduceLT, Int.reduceLE, Int.reduceEq, Int.reduceToNat, Int.reduceAdd, Int.reduceSub, Int.reduceNeg, List.reduceReplicate, Nat.reducePow, Int.reduceMul]
        · intro _ _
          rcases hgo with rfl | ⟨rfl, h8⟩ | ⟨rfl, h8, hh⟩
          · unfold rc_yfirst_l0
            simp -implicitDefEqProofs -dsimp only [tb_at, tb_all hb1, tb_all hq1, tb_all hk1, hpos, htk, hm, Bool.not_true, vcS, ↓vcP1, ↓vcP2, ↓reduceIte, reduceCtorEq, Nat.reduceLT, Nat.reduceLeDiff, Nat.reduceEqDiff, Nat.reduceAdd, Nat.reduceSub, Nat.reduceMul, Int.reduceLT, Int.reduceLE, Int.reduceEq, Int.reduceToNat, Int.reduceAdd, Int.reduceSub, Int.reduceNeg, List.reduceReplicate, Nat.reducePow, Int.reduceMul, vcM]
            refine ylong_K D1 hS ?_
            rw [show longN L S (min S.length 8) = 0 from hn]
            simp -implicitDefEqProofs -dsimp only [tb_at, Int.natCast_zero, vcS, ↓vcP1, ↓vcP2, ↓reduceIte, reduceCtorEq, Nat.reduceLT, Nat.reduceLeDiff, Nat.reduceEqDiff, Nat.reduceAdd, Nat.reduceSub, Nat.reduceMul, Int.reduceLT, Int.reduceLE, Int.reduceEq, Int.reduceToNat, Int.reduceAdd, Int.reduceSub, Int.reduceNeg, List.reduceReplicate, Nat.reducePow, Int.reduceMul]
            refine ysingle_K D1 hS fun T2 d2 v k2 D2 n2 y2 => ?_
            have hk2 := k2.at hk1 (by simp; omega)
            obtain ⟨s1, s2, kk1, kk2, ev⟩ := y2.vals
            obtain ⟨a1, a2, a3⟩ := D.fin k2 D2 n2 (some (.box [.int .i64 ((singleF true S).1.getD kyZ).kind, .str ((singleF true S).1.getD kyZ).cmd, .sl s1 (intRows .u8 ((singleF true S).1.getD kyZ).seq) kk1, .int .i32 ((singleF true S).1.getD kyZ).r, .sl s2 (intRows .i32 ((singleF true S).1.getD kyZ).text) kk2]))
            have := hK _ _ _ a1 a2 a3 y2
            rw [ev] at this ⊢
            simp -implicitDefEqProofs -dsimp only [tb_at, tb_all hk2, vcS, ↓vcP1, ↓vcP2, ↓reduceIte, reduceCtorEq, Nat.reduceLT, Nat.reduceLeDiff, Nat.reduceEqDiff, Nat.reduceAdd, Nat.reduceSub, Nat.reduceMul, Int.reduceLT, Int.reduceLE, Int.reduceEq, Int.reduceToNat, Int.reduceAdd, Int.reduceSub, Int.reduceNeg, List.reduceReplicate, Nat.reducePow, Int.reduceMul]
            exact ⟨a1.1, this⟩
          · have h8a : ¬ (S.length : Int) < 8 := by omega
            unfold rc_yfirst_l0
            simp -implicitDefEqProofs -dsimp only [tb_at, tb_all hb1, tb_all hq1, tb_all hk1, hpos, htk, hm, h8a, Bool.not_false, vcS, ↓vcP1, ↓vcP2, ↓reduceIte, reduceCtorEq, Nat.reduceLT, Nat.reduceLeDiff, Nat.reduceEqDiff, Nat.reduceAdd, Nat.reduceSub, Nat.reduceMul, Int.reduceLT, Int.reduceLE, Int.reduceEq, Int.reduceToNat, Int.reduceAdd, Int.reduceSub, Int.reduceNeg, List.reduceReplicate, Nat.reducePow, Int.reduceMul, vcM]
            refine ylong_K D1 hS ?_
            rw [show longN L S (min S.length 8) = 0 from hn]
            simp -implicitDefEqProofs -dsimp only [tb_at, Int.natCast_zero, vcS, ↓vcP1, ↓vcP2, ↓reduceIte, reduceCtorEq, Nat.reduceLT, Nat.reduceLeDiff, Nat.reduceEqDiff, Nat.reduceAdd, Nat.reduceSub, Nat.reduceMul, Int.reduceLT, Int.reduceLE, Int.reduceEq, Int.reduceToNat, Int.reduceAdd, Int.reduceSub, Int.reduceNeg, List.reduceReplicate, Nat.reducePow, Int.reduceMul]
            refine ysingle_K D1 hS fun T2 d2 v k2 D2 n2 y2 => ?_
            have hk2 := k2.at hk1 (by simp; omega)
            obtain ⟨s1, s2, kk1, kk2, ev⟩ := y2.vals
            obtain ⟨a1, a2, a3⟩ := D.fin k2 D2 n2 (some (.box [.int .i64 ((singleF false S).1.getD kyZ).kind, .str ((singleF false S).1.getD kyZ).cmd, .sl s1 (intRows .u8 ((singleF false S).1.getD kyZ).seq) kk1, .int .i32 ((singleF false S).1.getD kyZ).r, .sl s2 (intRows .i32 ((singleF false S).1.getD kyZ).text) kk2]))
            have := hK _ _ _ a1 a2 a3 y2
            rw [ev] at this ⊢
            simp -implicitDefEqProofs -dsimp only [tb_at, tb_all hk2, vcS, ↓vcP1, ↓vcP2, ↓reduceIte, reduceCtorEq, Nat.reduceLT, Nat.reduceLeDiff, Nat.reduceEqDiff, Nat.reduceAdd, Nat.reduceSub, Nat.reduceMul, Int.reduceLT, Int.reduceLE, Int.reduceEq, Int.reduceToNat, Int.reduceAdd, Int.reduceSub, Int.reduceNeg, List.reduceReplicate, Nat.reducePow, Int.reduceMul]
            exact ⟨a1.1, this⟩
          · have h8a : (S.length : Int) < 8 := by omega
            unfold rc_yfirst_l0
            simp -implicitDefEqProofs -dsimp only [tb_at, tb_all hb1, tb_all hq1, tb_all hk1, hpos, htk, hm, h8a, hh, Bool.not_false, vcS, ↓vcP1, ↓vcP2, ↓reduceIte, reduceCtorEq, Nat.reduceLT, Nat.reduceLeDiff, Nat.reduceEqDiff, Nat.reduceAdd, Nat.reduceSub, Nat.reduceMul, Int.reduceLT, Int.reduceLE, Int.reduceEq, Int.reduceToNat, Int.reduceAdd, Int.reduceSub, Int.reduceNeg, List.reduceReplicate, Nat.reducePow, Int.reduceMul, vcM]
            refine ylong_K D1 hS ?_
            rw [show longN L S (min S.length 8) = 0 from hn]
            simp -implicitDefEqProofs -dsimp only [tb_at, Int.natCast_zero, vcS, ↓vcP1, ↓vcP2, ↓reduceIte, reduceCtorEq, Nat.reduceLT, Nat.reduceLeDiff, Nat.reduceEqDiff, Nat.reduceAdd, Nat.reduceSub, Nat.reduceMul, Int.reduceLT, Int.reduceLE, Int.reduceEq, Int.reduceToNat, Int.reduceAdd, Int.reduceSub, Int.reduceNeg, List.reduceReplicate, Nat.reducePow, Int.reduceMul]
            refine ysingle_K D1 hS fun T2 d2 v k2 D2 n2 y2 => ?_
            have hk2 := k2.at hk1 (by simp; omega)
            obtain ⟨s1, s2, kk1, kk2, ev⟩ := y2.vals
            obtain ⟨a1, a2, a3⟩ := D.fin k2 D2 n2 (some (.box [.int .i64 ((singleF false S).1.getD kyZ).kind, .str ((singleF false S).1.getD kyZ).cmd, .sl s1 (intRows .u8 ((singleF false S).1.getD kyZ).seq) kk1, .int .i32 ((singleF false S).1.getD kyZ).r, .sl s2 (intRows .i32 ((singleF false S).1.getD kyZ).text) kk2]))
            have := hK _ _ _ a1 a2 a3 y2
            rw [ev] at this ⊢
            simp -implicitDefEqProofs -dsimp only [tb_at, tb_all hk2, vcS, ↓vcP1, ↓vcP2, ↓reduceIte, reduceCtorEq, Nat.reduceLT, Nat.reduceLeDiff, Nat.reduceEqDiff, Nat.reduceAdd, Nat.reduceSub, Nat.reduceMul, Int.reduceLT, Int.reduceLE, Int.reduceEq, Int.reduceToNat, Int.reduceAdd, Int.reduceSub, Int.reduceNeg, List.reduceReplicate, Nat.reducePow, Int.reduceMul]
            exact ⟨a1.1, this⟩
      · have e : yfirF L late S = (some ⟨0, cmdB L (S.take (longG L S)), S.take (longG L S), 0, []⟩, S.drop (longG L S)) := by unfold yfirF; rw [if_neg (by rintro (h | h); exact hS h; exact hw h), if_neg hn]
        rw [e] at hK
        have hn0 : ¬ ((longG L S : Nat) : Int) = 0 := by omega
        have hn1 : (0 : Int) ≤ ((longG L S : Nat) : Int) := by omega
        have hnle : longG L S ≤ S.length := longG_le
        have hnn : S.take (longG L S) ≠ [] := fun h => by
          have := congrArg List.length h
          simp at this
          rcases this with h | h
          · exact hn h
          · exact hS h
        have htn : (intRows .u8 S).take (longG L S) = intRows .u8 (S.take (longG L S)) := by simp [intRows]
        have hbg : (List.map (fun n => UInt8.ofNat n.toNat) (S.take (longG L S)) == [27, 91, 50, 48, 48, 126]) = false := by rw [str_begin (D.inS.take _), decide_eq_false hnb]
        refine CallK.of_fn FOk.nil rc_yfirst_ok (by simp [rc_yfirst]) ?_
        unfold rc_yfirst
        dsimp only
        simp -implicitDefEqProofs -dsimp only [tb_at, tb_all hb, tb_all hq, vcS, ↓vcP1, ↓vcP2, ↓reduceIte, reduceCtorEq, Nat.reduceLT, Nat.reduceLeDiff, Nat.reduceEqDiff, Nat.reduceAdd, Nat.reduceSub, Nat.reduceMul, Int.reduceLT, Int.reduceLE, Int.reduceEq, Int.reduceToNat, Int.reduceAdd, Int.reduceSub, Int.reduceNeg, List.reduceReplicate, Nat.reducePow, Int.reduceMul]
        refine LoopWp.inv FOk.nil (S := fun _ : Unit => ⟨[(0, .ptr o 0 0), (1, .bool late), (4, .ptr T.length 0 0)], T ++ [some (Ob.box [.int .i64 0, .str [], .sl 0 [] .nil, .int .i32 0, .sl 0 [] .nil])]⟩) (I := fun _ => True) (μ := fun _ => 0) () trivial ?_ ?_
        · simp -implicitDefEqProofs -dsimp only [vcS, ↓vcP1, ↓vcP2, ↓reduceIte, reduceCtorEq, Nat.reduceLT, Nat.reduceLeDiff, Nat.reduceEqDiff, Nat.reduceAdd, Nat.reduceSub, Nat.reduceMul, Int.reduceLT, Int.reduceLE, Int.reduceEq, Int.reduceToNat, Int.reduceAdd, Int.reduceSub, Int.reduceNeg, List.reduceReplicate, Nat.reducePow, Int.reduceMul]
        · intro _ _
          rcases hgo with rfl | ⟨rfl, h8⟩ | ⟨rfl, h8, hh⟩
          · unfold rc_yfirst_l0
            simp -implicitDefEqProofs -dsimp only [tb_at, tb_all hb1, tb_all hq1, tb_all hk1, hpos, htk, hm, Bool.not_true, vcS, ↓vcP1, ↓vcP2, ↓reduceIte, reduceCtorEq, Nat.reduceLT, Nat.reduceLeDiff, Nat.reduceEqDiff, Nat.reduceAdd, Nat.reduceSub, Nat.reduceMul, Int.reduceLT, Int.reduceLE, Int.reduceEq, Int.reduceToNat, Int.reduceAdd, Int.reduceSub, Int.reduceNeg, List.reduceReplicate, Nat.reducePow, Int.reduceMul, vcM]
            refine ylong_K D1 hS ?_
            rw [show longN L S (min S.length 8) = longG L S from rfl]
            simp -implicitDefEqProofs -dsimp only [tb_at, tb_all hb1, tb_all hq1, tb_all hk1, hn0, hn1, hnle, htn, hbg, Nat.sub_zero, Nat.zero_le, vcS, ↓vcP1, ↓vcP2, ↓reduceIte, reduceCtorEq, Nat.reduceLT, Nat.reduceLeDiff, Nat.reduceEqDiff, Nat.reduceAdd, Nat.reduceSub, Nat.reduceMul, Int.reduceLT, Int.reduceLE, Int.reduceEq, Int.reduceToNat, Int.reduceAdd, Int.reduceSub, Int.reduceNeg, List.reduceReplicate, Nat.reducePow, Int.reduceMul]
            refine ytake_K D1 hS (n := longG L S) hnle fun T2 d2 r2 k2 D2 n2 y2 => ?_
            have hk2 := k2.at hk1 (by simp; omega)
            obtain ⟨s1, kk1, rfl, y3⟩ := y2
            obtain rfl : s1 = 1 := y3.resolve_right hnn
            obtain ⟨C2, hC2, hCo2⟩ := D2.cm
            have hb2 := D2.box
            unfold DecB at hb2
            have hm2 : mgetR T2 none false (.str []) (.mp c) (.str (List.map (fun n => UInt8.ofNat n.toNat) (S.take (longG L S)))) = some (.str (cmdB L (S.take (longG L S)))) := by
              rw [mgetR_str hC2 (mfind_strE _ _), mgetV_no]
              have := hCo2 _ (D.inS.take (longG L S))
              unfold toB at this
              rw [this]
              unfold cmdB
              cases findB L (S.take (longG L S)) <;> rfl
            obtain ⟨a1, a2, a3⟩ := D.fin k2 D2 n2.wd (some (.box [.int .i64 0, .str (cmdB L (S.take (longG L S))), .sl 1 (intRows .u8 (S.take (longG L S))) kk1, .int .i32 0, .sl 0 [] .nil]))
            simp -implicitDefEqProofs -dsimp only [tb_at, tb_all hk2, tb_all hb2, hm2, vcS, ↓vcP1, ↓vcP2, ↓reduceIte, reduceCtorEq, Nat.reduceLT, Nat.reduceLeDiff, Nat.reduceEqDiff, Nat.reduceAdd, Nat.reduceSub, Nat.reduceMul, Int.reduceLT, Int.reduceLE, Int.reduceEq, Int.reduceToNat, Int.reduceAdd, Int.reduceSub, Int.reduceNeg, List.reduceReplicate, Nat.reducePow, Int.reduceMul, vcM]
            exact ⟨a1.1, hK _ _ _ a1 a2 a3 ⟨_, _, rfl, ⟨1, kk1, rfl, .inl rfl⟩, RB_nil⟩⟩
          · have h8a : ¬ (S.length : Int) < 8 := by omega
            unfold rc_yfirst_l0
            simp -implicitDefEqProofs -dsimp only [tb_at, tb_all hb1, tb_all hq1, tb_all hk1, hpos, htk, hm, h8a, Bool.not_false, vcS, ↓vcP1, ↓vcP2, ↓reduceIte, reduceCtorEq, Nat.reduceLT, Nat.reduceLeDiff, Nat.reduceEqDiff, Nat.reduceAdd, Nat.reduceSub, Nat.reduceMul, Int.reduceLT, Int.reduceLE, Int.reduceEq, Int.reduceToNat, Int.reduceAdd, Int.reduceSub, Int.reduceNeg, List.reduceReplicate, Nat.reducePow, Int.reduceMul, vcM]
            refine ylong_K D1 hS ?_
            rw [show longN L S (min S.length 8) = longG L S from rfl]
            simp -implicitDefEqProofs -dsimp only [tb_at, tb_all hb1, tb_all hq1, tb_all hk1, hn0, hn1, hnle, htn, hbg, Nat.sub_zero, Nat.zero_le, vcS, ↓vcP1, ↓vcP2, ↓reduceIte, reduceCtorEq, Nat.reduceLT, Nat.reduceLeDiff, Nat.reduceEqDiff, Nat.reduceAdd, Nat.reduceSub, Nat.reduceMul, Int.reduceLT, Int.reduceLE, Int.reduceEq, Int.reduceToNat, Int.reduceAdd, Int.reduceSub, Int.reduceNeg, List.reduceReplicate, Nat.reducePow, Int.reduceMul]
            refine ytake_K D1 hS (n := longG L S) hnle fun T2 d2 r2 k2 D2 n2 y2 => ?_
            have hk2 := k2.at hk1 (by simp; omega)
            obtain ⟨s1, kk1, rfl, y3⟩ := y2
            obtain rfl : s1 = 1 := y3.resolve_right hnn
            obtain ⟨C2, hC2, hCo2⟩ := D2.cm
            have hb2 := D2.box
            unfold DecB at hb2
            have hm2 : mgetR T2 none false (.str []) (.mp c) (.str (List.map (fun n => UInt8.ofNat n.toNat) (S.take (longG L S)))) = some (.str (cmdB L (S.take (longG L S)))) := by
              rw [mgetR_str hC2 (mfind_strE _ _), mgetV_no]
              have := hCo2 _ (D.inS.take (longG L S))
              unfold toB at this
              rw [this]
              unfold cmdB
              cases findB L (S.take (longG L S)) <;> rfl
            obtain ⟨a1, a2, a3⟩ := D.fin k2 D2 n2.wd (some (.box [.int .i64 0, .str (cmdB L (S.take (longG L S))), .sl 1 (intRows .u8 (S.take (longG L S))) kk1, .int .i32 0, .sl 0 [] .nil]))
            simp -implicitDefEqProofs -dsimp only [tb_at, tb_all hk2, tb_all hb2, hm2, vcS, ↓vcP1, ↓vcP2, ↓reduceIte, reduceCtorEq, Nat.reduceLT, Nat.reduceLeDiff, Nat.reduceEqDiff, Nat.reduceAdd, Nat.reduceSub, Nat.reduceMul, Int.reduceLT, Int.reduceLE, Int.reduceEq, Int.reduceToNat, Int.reduceAdd, Int.reduceSub, Int.reduceNeg, List.reduceReplicate, Nat.reducePow, Int.reduceMul, vcM]
            exact ⟨a1.1, hK _ _ _ a1 a2 a3 ⟨_, _, rfl, ⟨1, kk1, rfl, .inl rfl⟩, RB_nil⟩⟩
          · have h8a : (S.length : Int) < 8 := by omega
            unfold rc_yfirst_l0
            simp -implicitDefEqProofs -dsimp only [tb_at, tb_all hb1, tb_all hq1, tb_all hk1, hpos, htk, hm, h8a, hh, Bool.not_false, vcS, ↓vcP1, ↓vcP2, ↓reduceIte, reduceCtorEq, Nat.reduceLT, Nat.reduceLeDiff, Nat.reduceEqDiff, Nat.reduceAdd, Nat.reduceSub, Nat.reduceMul, Int.reduceLT, Int.reduceLE, Int.reduceEq, Int.reduceToNat, Int.reduceAdd, Int.reduceSub, Int.reduceNeg, List.reduceReplicate, Nat.reducePow, Int.reduceMul, vcM]
            refine ylong_K D1 hS ?_
            rw [show longN L S (min S.length 8) = longG L S from rfl]
            simp -implicitDefEqProofs -dsimp only [tb_at, tb_all hb1, tb_all hq1, tb_all hk1, hn0, hn1, hnle, htn, hbg, Nat.sub_zero, Nat.zero_le, vcS, ↓vcP1, ↓vcP2, ↓reduceIte, reduceCtorEq, Nat.reduceLT, Nat.reduceLeDiff, Nat.reduceEqDiff, Nat.reduceAdd, Nat.reduceSub, Nat.reduceMul, Int.reduceLT, Int.reduceLE, Int.reduceEq, Int.reduceToNat, Int.reduceAdd, Int.reduceSub, Int.reduceNeg, List.reduceReplicate, Nat.reducePow, Int.reduceMul]
            refine ytake_K D1 hS (n := longG L S) hnle fun T2 d2 r2 k2 D2 n2 y2 => ?_
            have hk2 := k2.at hk1 (by simp; omega)
            obtain ⟨s1, kk1, rfl, y3⟩ := y2
            obtain rfl : s1 = 1 := y3.resolve_right hnn
            obtain ⟨C2, hC2, hCo2⟩ := D2.cm
            have hb2 := D2.box
            unfold DecB at hb2
            have hm2 : mgetR T2 none false (.str []) (.mp c) (.str (List.map (fun n => UInt8.ofNat n.toNat) (S.take (longG L S)))) = some (.str (cmdB L (S.take (longG L S)))) := by
              rw [mgetR_str hC2 (mfind_strE _ _), mgetV_no]
              have := hCo2 _ (D.inS.take (longG L S))
              unfold toB at this
              rw [this]
              unfold cmdB
              cases findB L (S.take (longG L S)) <;> rfl
            obtain ⟨a1, a2, a3⟩ := D.fin k2 D2 n2.wd (some (.box [.int .i64 0, .str (cmdB L (S.take (longG L S))), .sl 1 (intRows .u8 (S.take (longG L S))) kk1, .int .i32 0, .sl 0 [] .nil]))
            simp -implicitDefEqProofs -dsimp only [tb_at, tb_all hk2, tb_all hb2, hm2, vcS, ↓vcP1, ↓vcP2, ↓reduceIte, reduceCtorEq, Nat.reduceLT, Nat.reduceLeDiff, Nat.reduceEqDiff, Nat.reduceAdd, Nat.reduceSub, Nat.reduceMul, Int.reduceLT, Int.reduceLE, Int.reduceEq, Int.reduceToNat, Int.reduceAdd, Int.reduceSub, Int.reduceNeg, List.reduceReplicate, Nat.reducePow, Int.reduceMul, vcM]
            exact ⟨a1.1, hK _ _ _ a1 a2 a3 ⟨_, _, rfl, ⟨1, kk1, rfl, .inl rfl⟩, RB_nil⟩⟩
noncomputable def rc_ynear : RFn := ⟨1, 6, .seq (.reg [⟨some 2, .mov (.c (.int .i64 0)), none, false⟩] 0 [0]) (.seq (.reg [⟨some 3, .mov (.t 0), none, false⟩, ⟨some 4, .mm true (.t 3) (.c (.int .i64 0)), none, false⟩, ⟨some 5, .mm false (.t 4) (.c (.int .i64 4611686018427387904)), none, false⟩, ⟨some 2, .mov (.t 5), none, false⟩] 0 [2]) .ret), [.t 2]⟩
theorem rc_ynear_ok : compFn PG.P [⟨0, 0, [0], []⟩, ⟨1, 0, [2], []⟩] 33 = some rc_ynear := by kernel_rfl
noncomputable def rc_ymore : RFn := ⟨1, 8, .seq (.reg [⟨some 2, .alloc [.int .i64 0, .str [], .sl 0 [] .nil, .int .i32 0, .sl 0 [] .nil], none, false⟩, ⟨some 3, .mov (.c (.bool false)), none, false⟩] 0 [0, 2]) (.seq (.reg [⟨some 4, .mov (.t 0), none, false⟩, ⟨some 5, .call 34 [.t 4, .c (.bool false)], none, false⟩, ⟨some 6, .ext (.t 5) 0, none, false⟩, ⟨some 7, .ext (.t 5) 1, none, false⟩, ⟨none, .store 5 (.t 2) (.t 6), none, false⟩, ⟨some 3, .mov (.t 7), none, false⟩] 0 [2, 3]) .ret), [.c 2 true 5, .t 3]⟩
theorem rc_ymore_ok : compFn PG.P [⟨0, 0, [0, 2], []⟩, ⟨1, 0, [2, 3], []⟩] 20 = some rc_ymore := by kernel_rfl
noncomputable def rc_yfeed : RFn := ⟨3, 27, .seq (.reg [⟨some 6, .alloc [.int .i64 0, .str [], .sl 0 [] .nil, .int .i32 0, .sl 0 [] .nil], none, false⟩, ⟨some 7, .mov (.c (.bool false)), none, false⟩] 0 [0, 1, 2, 6]) (.seq (.reg [⟨some 8, .mov (.t 0), none, false⟩, ⟨some 9, .mov (.t 0), none, false⟩, ⟨some 10, .mov (.t 0), none, false⟩, ⟨some 11, .nilck (.t 10), none, false⟩, ⟨some 12, .faddr 2 (.t 11), none, false⟩, ⟨some 13, .load false 1 (.t 12), none, false⟩, ⟨some 14, .mov (.t 1), none, false⟩, ⟨some 15, .mkrow 1 [.int .u8 0] 1 [(0, (.t 14))], none, false⟩, ⟨some 16, .append 1 1 (.t 13) (.t 15), none, false⟩, ⟨some 17, .mov (.t 2), none, false⟩, ⟨some 18, .call 33 [.t 17], none, false⟩, ⟨some 19, .nilck (.t 8), none, false⟩, ⟨some 20, .faddr 2 (.t 19), none, false⟩, ⟨none, .store 1 (.t 20) (.t 16), none, false⟩, ⟨some 21, .nilck (.t 9), none, false⟩, ⟨some 22, .faddr 5 (.t 21), none, false⟩, ⟨none, .store 1 (.t 22) (.t 18), none, false⟩] 0 [0, 6]) (.seq (.reg [⟨some 23, .mov (.t 0), none, false⟩, ⟨some 24, .call 20 [.t 23], none, false⟩, ⟨some 25, .ext (.t 24) 0, none, false⟩, ⟨some 26, .ext (.t 24) 1, none, false⟩, ⟨none, .store 5 (.t 6) (.t 25), none, false⟩, ⟨some 7, .mov (.t 26), none, false⟩] 0 [6, 7]) .ret)), [.c 6 true 5, .t 7]⟩
theorem rc_yfeed_ok : compFn PG.P [⟨0, 0, [0, 1, 2, 6], []⟩, ⟨1, 0, [0, 6], []⟩, ⟨2, 0, [6, 7], []⟩] 18 = some rc_yfeed := by kernel_rfl
noncomputable def rc_ydue : RFn := ⟨1, 21, .seq (.reg [⟨some 2, .mov (.c (.int .i64 0)), none, false⟩, ⟨some 3, .mov (.c (.bool false)), none, false⟩] 0 [0]) (.seq (.seq (.reg [⟨some 4, .mov (.t 0), none, false⟩, ⟨some 5, .nilck (.t 4), none, false⟩, ⟨some 6, .faddr 3 (.t 5), none, false⟩, ⟨some 7, .load false 1 (.t 6), none, false⟩, ⟨some 8, .mov (.t 7), none, false⟩, ⟨some 9, .mov (.t 0), some (8, false), false⟩, ⟨some 10, .nilck (.t 9), some (8, false), false⟩, ⟨some 11, .faddr 2 (.t 10), some (8, false), false⟩, ⟨some 12, .load false 1 (.t 11), some (8, false), false⟩, ⟨some 13, .len (.t 12), some (8, false), false⟩, ⟨some 14, .bin .eql (.t 13) (.c (.int .i64 0)), some (8, false), false⟩, ⟨some 15, .pick (.t 8) (.c (.bool true)) (.t 14), none, false⟩] 0 [0, 15]) (.cond (.t 15) (.seq (.reg [⟨some 2, .mov (.c (.int .i64 0)), none, false⟩, ⟨some 3, .mov (.c (.bool false)), none, false⟩] 0 [2, 3]) .ret) .skip)) (.seq (.reg [⟨some 16, .mov (.t 0), none, false⟩, ⟨some 17, .nilck (.t 16), none, false⟩, ⟨some 18, .faddr 5 (.t 17), none, false⟩, ⟨some 19, .load false 1 (.t 18), none, false⟩, ⟨some 20, .bin .add (.t 19) (.c (.int .i64 50)), none, false⟩, ⟨some 2, .mov (.t 20), none, false⟩, ⟨some 3, .mov (.c (.bool true)), none, false⟩] 0 [2, 3]) .ret)), [.t 2, .t 3]⟩
theorem rc_ydue_ok : compFn PG.P [⟨0, 0, [0], []⟩, ⟨1, 0, [0, 15], []⟩, ⟨2, 0, [2, 3], []⟩, ⟨3, 0, [2, 3], []⟩] 22 = some rc_ydue := by kernel_rfl
noncomputable def rc_ytick : RFn := ⟨2, 26, .seq (.reg [⟨some 4, .alloc [.int .i64 0, .str [], .sl 0 [] .nil, .int .i32 0, .sl 0 [] .nil], none, false⟩, ⟨some 5, .mov (.c (.bool false)), none, false⟩] 0 [0, 1, 4]) (.seq (.seq (.reg [⟨some 9, .mov (.t 0), none, false⟩, ⟨some 10, .call 22 [.t 9], none, false⟩, ⟨some 8, .mov (.t 10), none, false⟩, ⟨some 11, .ext (.t 8) 0, none, false⟩, ⟨some 12, .ext (.t 8) 1, none, false⟩, ⟨some 6, .mov (.t 11), none, false⟩, ⟨some 7, .mov (.t 12), none, false⟩] 0 [0, 1, 4, 6, 7]) (.seq (.reg [⟨some 13, .mov (.t 7), none, false⟩, ⟨some 14, .un .not (.t 13), none, false⟩, ⟨some 15, .mov (.t 14), none, false⟩, ⟨some 16, .mov (.t 1), some (15, false), false⟩, ⟨some 17, .call 33 [.t 16], some (15, false), false⟩, ⟨some 18, .mov (.t 6), some (15, false), false⟩, ⟨some 19, .bin .lss (.t 17) (.t 18), some (15, false), false⟩, ⟨some 20, .pick (.t 15) (.c (.bool true)) (.t 19), none, false⟩] 0 [0, 4, 20]) (.cond (.t 20) (.seq (.reg [⟨some 21, .build [.int .i64 0, .str [], .sl 0 [] .nil, .int .i32 0, .sl 0 [] .nil] [], none, false⟩, ⟨none, .store 5 (.t 4) (.t 21), none, false⟩, ⟨some 5, .mov (.c (.bool false)), none, false⟩] 0 [4, 5]) .ret) .skip))) (.seq (.reg [⟨some 22, .mov (.t 0), none, false⟩, ⟨some 23, .call 34 [.t 22, .c (.bool true)], none, false⟩, ⟨some 24, .ext (.t 23) 0, none, false⟩, ⟨some 25, .ext (.t 23) 1, none, false⟩, ⟨none, .store 5 (.t 4) (.t 24), none, false⟩, ⟨some 5, .mov (.t 25), none, false⟩] 0 [4, 5]) .ret)), [.c 4 true 5, .t 5]⟩
theorem rc_ytick_ok : compFn PG.P [⟨0, 0, [0, 1, 4], []⟩, ⟨1, 0, [0, 1, 4, 6, 7], []⟩, ⟨2, 0, [0, 4, 20], []⟩, ⟨3, 0, [4, 5], []⟩, ⟨4, 0, [4, 5], []⟩] 13 = some rc_ytick := by kernel_rfl
noncomputable def rc_yleft : RFn := ⟨1, 8, .seq (.reg [⟨some 2, .mov (.c (.int .i64 0)), none, false⟩] 0 [0]) (.seq (.reg [⟨some 3, .mov (.t 0), none, false⟩, ⟨some 4, .nilck (.t 3), none, false⟩, ⟨some 5, .faddr 2 (.t 4), none, false⟩, ⟨some 6, .load false 1 (.t 5), none, false⟩, ⟨some 7, .len (.t 6), none, false⟩, ⟨some 2, .mov (.t 7), none, false⟩] 0 [2]) .ret), [.t 2]⟩
theorem rc_yleft_ok : compFn PG.P [⟨0, 0, [0], []⟩, ⟨1, 0, [2], []⟩] 24 = some rc_yleft := by kernel_rfl
def nearF (n : Int) : Int := min (max n 0) 4611686018427387904
theorem ynear_P (n : Int) : PCalls PG 33 [.int .i64 n] fun k r os => r = .int .i64 (nearF n) ∧ os = [] := by
  refine PCalls.by_fn (res := fun _ => (.int .i64 (nearF n), [])) FOk.nil rc_ynear_ok (by simp [rc_ynear]) fun _ => ?_
  unfold rc_ynear
  dsimp only
  simp -implicitDefEqProofs -dsimp only [nearF, vcS, ↓vcP1, ↓vcP2, ↓reduceIte, reduceCtorEq, Nat.reduceLT, Nat.reduceLeDiff, Nat.reduceEqDiff, Nat.reduceAdd, Nat.reduceSub, Nat.reduceMul, Int.reduceLT, Int.reduceLE, Int.reduceEq, Int.reduceToNat, Int.reduceAdd, Int.reduceSub, Int.reduceNeg, List.reduceReplicate, Nat.reducePow, Int.reduceMul]
theorem ymore_K {T : Objs} {o c h : Nat} {d : DV} {L : List Bd} {S : List Int} {sc at' : Int} {K : DV → Objs → Prop} (D : DecAt T o c h d L S false sc at') (hnb : S.take (longG L S) ≠ beginL)
    (hK : ∀ T' d' v, Keep T T' [o] → DecAt T' o c h d' L (yfirF L false S).2 false sc at' → Nwd T.length d d' → KV v ((yfirF L false S).1.getD kyZ) → K (.tup [v, .bool (yfirF L false S).1.isSome]) T') :
    CallK PG 20 [.ptr o 0 0] T K := by
  have hb := D.box
  have hT := (D.fin0 [some (Ob.box [.int .i64 0, .str [], .sl 0 [] .nil, .int .i32 0, .sl 0 [] .nil])])
  have D1 := hT.2.1
  have hk1 : (T ++ [some (Ob.box [.int .i64 0, .str [], .sl 0 [] .nil, .int .i32 0, .sl 0 [] .nil])])[T.length]? = some (some (Ob.box [.int .i64 0, .str [], .sl 0 [] .nil, .int .i32 0, .sl 0 [] .nil])) := tb_get0 _ _ _
  have hoT := tb_lt hb
  refine CallK.of_fn FOk.nil rc_ymore_ok (by simp [rc_ymore]) ?_
  unfold rc_ymore
  dsimp only
  simp -implicitDefEqProofs -dsimp only [tb_at, vcS, ↓vcP1, ↓vcP2, ↓reduceIte, reduceCtorEq, Nat.reduceLT, Nat.reduceLeDiff, Nat.reduceEqDiff, Nat.reduceAdd, Nat.reduceSub, Nat.reduceMul, Int.reduceLT, Int.reduceLE, Int.reduceEq, Int.reduceToNat, Int.reduceAdd, Int.reduceSub, Int.reduceNeg, List.reduceReplicate, Nat.reducePow, Int.reduceMul]
  refine yfirst_K D1 hnb fun T2 d2 v k2 D2 n2 y2 => ?_
  have hk2 := k2.at hk1 (by simp; omega)
  obtain ⟨s1, s2, kk1, kk2, ev⟩ := y2.vals
  obtain ⟨a1, a2, a3⟩ := D.fin k2 D2 n2 (some (.box [.int .i64 ((yfirF L false S).1.getD kyZ).kind, .str ((yfirF L false S).1.getD kyZ).cmd, .sl s1 (intRows .u8 ((yfirF L false S).1.getD kyZ).seq) kk1, .int .i32 ((yfirF L false S).1.getD kyZ).r, .sl s2 (intRows .i32 ((yfirF L false S).1.getD kyZ).text) kk2]))
  have := hK _ _ _ a1 a2 a3 y2
  rw [ev] at this ⊢
  simp -implicitDefEqProofs -dsimp only [tb_at, tb_all hk2, vcS, ↓vcP1, ↓vcP2, ↓reduceIte, reduceCtorEq, Nat.reduceLT, Nat.reduceLeDiff, Nat.reduceEqDiff, Nat.reduceAdd, Nat.reduceSub, Nat.reduceMul, Int.reduceLT, Int.reduceLE, Int.reduceEq, Int.reduceToNat, Int.reduceAdd, Int.reduceSub, Int.reduceNeg, List.reduceReplicate, Nat.reducePow, Int.reduceMul]
  exact ⟨a1.1, this⟩
theorem yleft_K {T : Objs} {o c h : Nat} {d : DV} {L : List Bd} {S : List Int} {pa : Bool} {sc at' : Int} {K : DV → Objs → Prop} (D : DecAt T o c h d L S pa sc at') (hK : K (.int .i64 S.length) T) :
    CallK PG 24 [.ptr o 0 0] T K := by
  have hb := D.box
  unfold DecB at hb
  refine CallK.of_fn FOk.nil rc_yleft_ok (by simp [rc_yleft]) ?_
  unfold rc_yleft
  dsimp only
  rcases D.lf with ⟨q, rfl, hq⟩ | ⟨rfl, rfl⟩
  · simp -implicitDefEqProofs -dsimp only [tb_at, tb_all hb, tb_all hq, vcS, ↓vcP1, ↓vcP2, ↓reduceIte, reduceCtorEq, Nat.reduceLT, Nat.reduceLeDiff, Nat.reduceEqDiff, Nat.reduceAdd, Nat.reduceSub, Nat.reduceMul, Int.reduceLT, Int.reduceLE, Int.reduceEq, Int.reduceToNat, Int.reduceAdd, Int.reduceSub, Int.reduceNeg, List.reduceReplicate, Nat.reducePow, Int.reduceMul]
    exact hK
  · simp -implicitDefEqProofs -dsimp only [tb_at, tb_all hb, List.length_nil, Int.natCast_zero, vcS, ↓vcP1, ↓vcP2, ↓reduceIte, reduceCtorEq, Nat.reduceLT, Nat.reduceLeDiff, Nat.reduceEqDiff, Nat.reduceAdd, Nat.reduceSub, Nat.reduceMul, Int.reduceLT, Int.reduceLE, Int.reduceEq, Int.reduceToNat, Int.reduceAdd, Int.reduceSub, Int.reduceNeg, List.reduceReplicate, Nat.reducePow, Int.reduceMul]
    exact hK
theorem ydue_K {T : Objs} {o c h : Nat} {d : DV} {L : List Bd} {S : List Int} {sc at' : Int} {K : DV → Objs → Prop} (D : DecAt T o c h d L S false sc at') (h0 : 0 ≤ at' ∧ at' ≤ 4611686018427387904) (hK : K (if S = [] then .tup [.int .i64 0, .bool false] else .tup [.int .i64 (at' + 50), .bool true]) T) :
    CallK PG 22 [.ptr o 0 0] T K := by
  have hb := D.box
  unfold DecB at hb
  have hw : IntKind.i64.wrap (at' + 50) = at' + 50 := wI64 (by omega) (by omega)
  rcases D.lf with ⟨q, rfl, hq⟩ | ⟨rfl, rfl⟩
  · by_cases hS : S = []
    · subst hS
      rw [if_pos rfl] at hK
      refine CallK.of_fn FOk.nil rc_ydue_ok (by simp [rc_ydue]) ?_
      unfold rc_ydue
      dsimp only
      simp -implicitDefEqProofs -dsimp only [tb_at, tb_all hb, tb_all hq, List.length_nil, Int.natCast_zero, vcS, ↓vcP1, ↓vcP2, ↓reduceIte, reduceCtorEq, Nat.reduceLT, Nat.reduceLeDiff, Nat.reduceEqDiff, Nat.reduceAdd, Nat.reduceSub, Nat.reduceMul, Int.reduceLT, Int.reduceLE, Int.reduceEq, Int.reduceToNat, Int.reduceAdd, Int.reduceSub, Int.reduceNeg, List.reduceReplicate, Nat.reducePow, Int.reduceMul]
      exact hK
    · rw [if_neg hS] at hK
      have hpos : ¬ (S.length : Int) = 0 := by have := List.length_pos_iff.2 hS; omega
      refine CallK.of_fn FOk.nil rc_ydue_ok (by simp [rc_ydue]) ?_
      unfold rc_ydue
      dsimp only
      simp -implicitDefEqProofs -dsimp only [tb_at, tb_all hb, tb_all hq, hpos, hw, vcS, ↓vcP1, ↓vcP2, ↓reduceIte, reduceCtorEq, Nat.reduceLT, Nat.reduceLeDiff, Nat.reduceEqDiff, Nat.reduceAdd, Nat.reduceSub, Nat.reduceMul, Int.reduceLT, Int.reduceLE, Int.reduceEq, Int.reduceToNat, Int.reduceAdd, Int.reduceSub, Int.reduceNeg, List.reduceReplicate, Nat.reducePow, Int.reduceMul]
      exact hK
  · rw [if_pos rfl] at hK
    refine CallK.of_fn FOk.nil rc_ydue_ok (by simp [rc_ydue]) ?_
    unfold rc_ydue
    dsimp only
    simp -implicitDefEqProofs -dsimp only [tb_at, tb_all hb, List.length_nil, Int.natCast_zero, vcS, ↓vcP1, ↓vcP2, ↓reduceIte, reduceCtorEq, Nat.reduceLT, Nat.reduceLeDiff, Nat.reduceEqDiff, Nat.reduceAdd, Nat.reduceSub, Nat.reduceMul, Int.reduceLT, Int.reduceLE, Int.reduceEq, Int.reduceToNat, Int.reduceAdd, Int.reduceSub, Int.reduceNeg, List.reduceReplicate, Nat.reducePow, Int.reduceMul]
    exact hK
theorem yfeed_K {T : Objs} {o c h : Nat} {d : DV} {L : List Bd} {S : List Int} {sc at' b now : Int} {K : DV → Objs → Prop} (D : DecAt T o c h d L S false sc at') (hb255 : 0 ≤ b ∧ b ≤ 255) (hl : S.length < 1000) (hnb : (S ++ [b]).take (longG L (S ++ [b])) ≠ beginL)
    (hK : ∀ T' d' v ids, (∀ i ∈ ids, i = o ∨ ∃ off m, d = .own i off m) → Keep T T' ids → DecAt T' o c h d' L (yfirF L false (S ++ [b])).2 false sc (nearF now) → Nw T.length d' → KV v ((yfirF L false (S ++ [b])).1.getD kyZ) → K (.tup [v, .bool (yfirF L false (S ++ [b])).1.isSome]) T') :
    CallK PG 18 [.ptr o 0 0, .int .u8 b, .int .i64 now] T K := by
  have hb := D.box
  unfold DecB at hb
  rcases D.lf with ⟨q, rfl, hq⟩ | ⟨rfl, rfl⟩
  · refine CallK.of_fn FOk.nil rc_yfeed_ok (by simp [rc_yfeed]) ?_
    unfold rc_yfeed
    dsimp only
    simp -implicitDefEqProofs -dsimp only [tb_at, tb_all hb, tb_all hq, vcS, ↓vcP1, ↓vcP2, ↓reduceIte, reduceCtorEq, Nat.reduceLT, Nat.reduceLeDiff, Nat.reduceEqDiff, Nat.reduceAdd, Nat.reduceSub, Nat.reduceMul, Int.reduceLT, Int.reduceLE, Int.reduceEq, Int.reduceToNat, Int.reduceAdd, Int.reduceSub, Int.reduceNeg, List.reduceReplicate, Nat.reducePow, Int.reduceMul]
    refine ⟨by omega, (CallK.pure (ynear_P now) fun r os ⟨e1, e2⟩ => ?_)⟩
    subst e1; subst e2
    rw [List.append_nil]
    have hqT := tb_lt hq
    have hoq : o ≠ q := fun e => by rw [e, hq] at hb; simp at hb
    have k1 : Keep T (T.set q none) [q] := Keep.set1 _ _ _
    have hT0 : (T.set q none).length = T.length := by simp
    have hjs : ∀ j ∈ [q], ∃ s r, T[j]? = some (some (.arr s r)) := by simp; exact ⟨_, _, hq⟩
    have hb0 := k1.at hb (by simpa using hoq)
    rw [show T.length = (T.set q none).length from hT0.symm]
    generalize T.set q none = T0 at *
    generalize hT2 : T0 ++ [some (Ob.box [.int .i64 0, .str [], .sl 0 [] .nil, .int .i32 0, .sl 0 [] .nil]), some (Ob.arr 1 (intRows .u8 [b])), some (Ob.arr 1 (intRows .u8 (S ++ [b])))] = T2
    have k2 : Keep T T2 [q] := by rw [← hT2]; exact k1.trans (Keep.app _ _ []) (by simp) (by simp)
    have hb2 : T2[o]? = some (some (.box [.mp c, .mp h, .own q 0 S.length, .bool false, .int .i64 sc, .int .i64 at'])) := by rw [← hT2]; exact tb_f hb0 _
    have hk2 : T2[T0.length]? = some (some (Ob.box [.int .i64 0, .str [], .sl 0 [] .nil, .int .i32 0, .sl 0 [] .nil])) := by rw [← hT2]; exact tb_get0 _ _ _
    have ha2 : T2[T0.length + 2]? = some (some (.arr 1 (intRows .u8 (S ++ [b])))) := by rw [← hT2]; exact tb_geti _ _ 2
    have hl2 : T2.length = T0.length + 3 := by rw [← hT2]; simp
    have hoT := tb_lt hb0
    have hno : T0.length ≠ o := by omega
    simp -implicitDefEqProofs -dsimp only [tb_at, tb_all hb2, tb_all hk2, vcS, ↓vcP1, ↓vcP2, ↓reduceIte, reduceCtorEq, Nat.reduceLT, Nat.reduceLeDiff, Nat.reduceEqDiff, Nat.reduceAdd, Nat.reduceSub, Nat.reduceMul, Int.reduceLT, Int.reduceLE, Int.reduceEq, Int.reduceToNat, Int.reduceAdd, Int.reduceSub, Int.reduceNeg, List.reduceReplicate, Nat.reducePow, Int.reduceMul]
    simp -implicitDefEqProofs -dsimp only [List.set_set]
    rw [show S.length + 1 = (S ++ [b]).length by simp]
    have D2 := D.put (d' := .own (T0.length + 2) 0 (S ++ [b]).length) (S' := (S ++ [b])) (pa' := false) (sc' := sc) (at2 := nearF now) k2 hjs (.inl ⟨_, rfl, ha2⟩) (D.inS.append (inK_u8 (by simp) (by simpa using hb255)) (by simp; omega)) (by simp; omega)
    refine ymore_K D2 hnb fun T3 d3 v k3 D3 n3 y3 => ?_
    have hk3 := k3.at (tb_ne hk2 (some (DecB c h (.own (T0.length + 2) 0 (S ++ [b]).length) false sc (nearF now))) hno) (by simp; omega)
    obtain ⟨s1, s2, kk1, kk2, ev⟩ := y3.vals
    have nn : ∀ q off m, d3 = .own q off m → T0.length + 2 ≤ q := fun q3 off m e => by
      rcases n3 q3 off m e with h | h
      · simp at h; omega
      · rw [h] at e; injection e with e; omega
    obtain ⟨C, c1, _⟩ := D.cm
    obtain ⟨H, h1, _⟩ := D.hd
    have hcT := tb_lt c1
    have hhT := tb_lt h1
    have fin : ∀ x, Keep T (T3.set T0.length x) [o, q] ∧ DecAt (T3.set T0.length x) o c h d3 L (yfirF L false (S ++ [b])).2 false sc (nearF now) := fun x => by
      refine ⟨?_, D3.keep (Keep.set1 _ _ _) (by simp; omega) (by simp; omega) (by simp; omega) (fun q off m e => by have := nn q off m e; simp; omega)⟩
      exact ((k2.trans (k := [o, q]) (Keep.set1 _ _ _) (by simp) (by simp)).trans k3 (k := [o, q]) (by simp) (by simp)).trans (Keep.set1 _ _ _) (by simp) (by simp; omega)
    have := hK (T3.set T0.length (some (.box [.int .i64 ((yfirF L false (S ++ [b])).1.getD kyZ).kind, .str ((yfirF L false (S ++ [b])).1.getD kyZ).cmd, .sl s1 (intRows .u8 ((yfirF L false (S ++ [b])).1.getD kyZ).seq) kk1, .int .i32 ((yfirF L false (S ++ [b])).1.getD kyZ).r, .sl s2 (intRows .i32 ((yfirF L false (S ++ [b])).1.getD kyZ).text) kk2]))) d3 v [o, q] (by simp) (fin _).1 (fin _).2 (fun q off m e => by have := nn q off m e; omega) y3
    rw [ev] at this ⊢
    simp -implicitDefEqProofs -dsimp only [tb_at, tb_all hk3, vcS, ↓vcP1, ↓vcP2, ↓reduceIte, reduceCtorEq, Nat.reduceLT, Nat.reduceLeDiff, Nat.reduceEqDiff, Nat.reduceAdd, Nat.reduceSub, Nat.reduceMul, Int.reduceLT, Int.reduceLE, Int.reduceEq, Int.reduceToNat, Int.reduceAdd, Int.reduceSub, Int.reduceNeg, List.reduceReplicate, Nat.reducePow, Int.reduceMul]
    exact ⟨by have := (fin none).1.1; simp at this ⊢; omega, this⟩
  · refine CallK.of_fn FOk.nil rc_yfeed_ok (by simp [rc_yfeed]) ?_
    unfold rc_yfeed
    dsimp only
    simp -implicitDefEqProofs -dsimp only [tb_at, tb_all hb, vcS, ↓vcP1, ↓vcP2, ↓reduceIte, reduceCtorEq, Nat.reduceLT, Nat.reduceLeDiff, Nat.reduceEqDiff, Nat.reduceAdd, Nat.reduceSub, Nat.reduceMul, Int.reduceLT, Int.reduceLE, Int.reduceEq, Int.reduceToNat, Int.reduceAdd, Int.reduceSub, Int.reduceNeg, List.reduceReplicate, Nat.reducePow, Int.reduceMul]
    refine (CallK.pure (ynear_P now) fun r os ⟨e1, e2⟩ => ?_)
    subst e1; subst e2
    rw [List.append_nil]
    have k1 : Keep T T [] := .refl _ _
    have hT : T.length = T.length := rfl
    have hjs : ∀ j ∈ ([] : List Nat), ∃ s r, T[j]? = some (some (.arr s r)) := by simp
    have hb0 := hb
    generalize hT2 : T ++ [some (Ob.box [.int .i64 0, .str [], .sl 0 [] .nil, .int .i32 0, .sl 0 [] .nil]), some (Ob.arr 1 (intRows .u8 [b])), some (Ob.arr 1 (intRows .u8 [b]))] = T2
    have k2 : Keep T T2 [] := by rw [← hT2]; exact k1.trans (Keep.app _ _ []) (by simp) (by simp)
    have hb2 : T2[o]? = some (some (.box [.mp c, .mp h, .sl 0 [] .nil, .bool false, .int .i64 sc, .int .i64 at'])) := by rw [← hT2]; exact tb_f hb0 _
    have hk2 : T2[T.length]? = some (some (Ob.box [.int .i64 0, .str [], .sl 0 [] .nil, .int .i32 0, .sl 0 [] .nil])) := by rw [← hT2]; exact tb_get0 _ _ _
    have ha2 : T2[T.length + 2]? = some (some (.arr 1 (intRows .u8 [b]))) := by rw [← hT2]; exact tb_geti _ _ 2
    have hl2 : T2.length = T.length + 3 := by rw [← hT2]; simp
    have hoT := tb_lt hb0
    have hno : T.length ≠ o := by omega
    simp -implicitDefEqProofs -dsimp only [tb_at, tb_all hb2, tb_all hk2, vcS, ↓vcP1, ↓vcP2, ↓reduceIte, reduceCtorEq, Nat.reduceLT, Nat.reduceLeDiff, Nat.reduceEqDiff, Nat.reduceAdd, Nat.reduceSub, Nat.reduceMul, Int.reduceLT, Int.reduceLE, Int.reduceEq, Int.reduceToNat, Int.reduceAdd, Int.reduceSub, Int.reduceNeg, List.reduceReplicate, Nat.reducePow, Int.reduceMul]
    simp -implicitDefEqProofs -dsimp only [List.set_set]
    rw [show 1 = [b].length by simp]
    have D2 := D.put (d' := .own (T.length + 2) 0 [b].length) (S' := [b]) (pa' := false) (sc' := sc) (at2 := nearF now) k2 hjs (.inl ⟨_, rfl, ha2⟩) (inK_u8 (by simp) (by simpa using hb255)) (by first | (simp; done) | (simp; omega))
    refine ymore_K D2 hnb fun T3 d3 v k3 D3 n3 y3 => ?_
    have hk3 := k3.at (tb_ne hk2 (some (DecB c h (.own (T.length + 2) 0 [b].length) false sc (nearF now))) hno) (by simp; omega)
    obtain ⟨s1, s2, kk1, kk2, ev⟩ := y3.vals
    have nn : ∀ q off m, d3 = .own q off m → T.length + 2 ≤ q := fun q3 off m e => by
      rcases n3 q3 off m e with h | h
      · simp at h; omega
      · rw [h] at e; injection e with e; omega
    obtain ⟨C, c1, _⟩ := D.cm
    obtain ⟨H, h1, _⟩ := D.hd
    have hcT := tb_lt c1
    have hhT := tb_lt h1
    have fin : ∀ x, Keep T (T3.set T.length x) [o] ∧ DecAt (T3.set T.length x) o c h d3 L (yfirF L false [b]).2 false sc (nearF now) := fun x => by
      refine ⟨?_, D3.keep (Keep.set1 _ _ _) (by simp; omega) (by simp; omega) (by simp; omega) (fun q off m e => by have := nn q off m e; simp; omega)⟩
      exact ((k2.trans (k := [o]) (Keep.set1 _ _ _) (by simp) (by simp)).trans k3 (k := [o]) (by simp) (by simp)).trans (Keep.set1 _ _ _) (by simp) (by first | (simp; done) | (simp; omega))
    have := hK (T3.set T.length (some (.box [.int .i64 ((yfirF L false [b]).1.getD kyZ).kind, .str ((yfirF L false [b]).1.getD kyZ).cmd, .sl s1 (intRows .u8 ((yfirF L false [b]).1.getD kyZ).seq) kk1, .int .i32 ((yfirF L false [b]).1.getD kyZ).r, .sl s2 (intRows .i32 ((yfirF L false [b]).1.getD kyZ).text) kk2]))) d3 v [o] (by simp) (fin _).1 (fin _).2 (fun q off m e => by have := nn q off m e; omega) y3
    rw [ev] at this ⊢
    simp -implicitDefEqProofs -dsimp only [tb_at, tb_all hk3, vcS, ↓vcP1, ↓vcP2, ↓reduceIte, reduceCtorEq, Nat.reduceLT, Nat.reduceLeDiff, Nat.reduceEqDiff, Nat.reduceAdd, Nat.reduceSub, Nat.reduceMul, Int.reduceLT, Int.reduceLE, Int.reduceEq, Int.reduceToNat, Int.reduceAdd, Int.reduceSub, Int.reduceNeg, List.reduceReplicate, Nat.reducePow, Int.reduceMul]
    exact ⟨by have := (fin none).1.1; simp at this ⊢; omega, this⟩
def ytickF (L : List Bd) (at' now : Int) (S : List Int) : Option Ky × List Int := if S = [] ∨ nearF now < at' + 50 then (none, S) else yfirF L true S
theorem ytick_K {T : Objs} {o c h : Nat} {d : DV} {L : List Bd} {S : List Int} {sc at' now : Int} {K : DV → Objs → Prop} (D : DecAt T o c h d L S false sc at') (h0 : 0 ≤ at' ∧ at' ≤ 4611686018427387904) (hnb : S.take (longG L S) ≠ beginL)
    (hK : ∀ T' d' v, Keep T T' [o] → DecAt T' o c h d' L (ytickF L at' now S).2 false sc at' → Nwd T.length d d' → KV v ((ytickF L at' now S).1.getD kyZ) → K (.tup [v, .bool (ytickF L at' now S).1.isSome]) T') :
    CallK PG 13 [.ptr o 0 0, .int .i64 now] T K := by
  have hb := D.box
  have hT := (D.fin0 [some (Ob.box [.int .i64 0, .str [], .sl 0 [] .nil, .int .i32 0, .sl 0 [] .nil])])
  have D1 := hT.2.1
  have hk1 : (T ++ [some (Ob.box [.int .i64 0, .str [], .sl 0 [] .nil, .int .i32 0, .sl 0 [] .nil])])[T.length]? = some (some (Ob.box [.int .i64 0, .str [], .sl 0 [] .nil, .int .i32 0, .sl 0 [] .nil])) := tb_get0 _ _ _
  have hoT := tb_lt hb
  by_cases hS : S = []
  · have e : ytickF L at' now S = (none, S) := if_pos (.inl hS)
    rw [e] at hK
    refine CallK.of_fn FOk.nil rc_ytick_ok (by simp [rc_ytick]) ?_
    unfold rc_ytick
    dsimp only
    simp -implicitDefEqProofs -dsimp only [tb_at, vcS, ↓vcP1, ↓vcP2, ↓reduceIte, reduceCtorEq, Nat.reduceLT, Nat.reduceLeDiff, Nat.reduceEqDiff, Nat.reduceAdd, Nat.reduceSub, Nat.reduceMul, Int.reduceLT, Int.reduceLE, Int.reduceEq, Int.reduceToNat, Int.reduceAdd, Int.reduceSub, Int.reduceNeg, List.reduceReplicate, Nat.reducePow, Int.reduceMul]
    refine ydue_K D1 h0 ?_
    rw [if_pos hS]
    simp -implicitDefEqProofs -dsimp only [tb_at, tb_all hk1, Bool.not_false, vcS, ↓vcP1, ↓vcP2, ↓reduceIte, reduceCtorEq, Nat.reduceLT, Nat.reduceLeDiff, Nat.reduceEqDiff, Nat.reduceAdd, Nat.reduceSub, Nat.reduceMul, Int.reduceLT, Int.reduceLE, Int.reduceEq, Int.reduceToNat, Int.reduceAdd, Int.reduceSub, Int.reduceNeg, List.reduceReplicate, Nat.reducePow, Int.reduceMul]
    exact hK _ _ _ hT.1 D1 hT.2.2 KV_z
  · by_cases hlt : nearF now < at' + 50
    · have e : ytickF L at' now S = (none, S) := if_pos (.inr hlt)
      rw [e] at hK
      refine CallK.of_fn FOk.nil rc_ytick_ok (by simp [rc_ytick]) ?_
      unfold rc_ytick
      dsimp only
      simp -implicitDefEqProofs -dsimp only [tb_at, vcS, ↓vcP1, ↓vcP2, ↓reduceIte, reduceCtorEq, Nat.reduceLT, Nat.reduceLeDiff, Nat.reduceEqDiff, Nat.reduceAdd, Nat.reduceSub, Nat.reduceMul, Int.reduceLT, Int.reduceLE, Int.reduceEq, Int.reduceToNat, Int.reduceAdd, Int.reduceSub, Int.reduceNeg, List.reduceReplicate, Nat.reducePow, Int.reduceMul]
      refine ydue_K D1 h0 ?_
      rw [if_neg hS]
      simp -implicitDefEqProofs -dsimp only [tb_at, tb_all hk1, Bool.not_true, vcS, ↓vcP1, ↓vcP2, ↓reduceIte, reduceCtorEq, Nat.reduceLT, Nat.reduceLeDiff, Nat.reduceEqDiff, Nat.reduceAdd, Nat.reduceSub, Nat.reduceMul, Int.reduceLT, Int.reduceLE, Int.reduceEq, Int.reduceToNat, Int.reduceAdd, Int.reduceSub, Int.reduceNeg, List.reduceReplicate, Nat.reducePow, Int.reduceMul]
      refine CallK.pure (ynear_P now) fun r os ⟨e1, e2⟩ => ?_
      subst e1; subst e2
      rw [List.append_nil]
      simp -implicitDefEqProofs -dsimp only [tb_at, tb_all hk1, hlt, vcS, ↓vcP1, ↓vcP2, ↓reduceIte, reduceCtorEq, Nat.reduceLT, Nat.reduceLeDiff, Nat.reduceEqDiff, Nat.reduceAdd, Nat.reduceSub, Nat.reduceMul, Int.reduceLT, Int.reduceLE, Int.reduceEq, Int.reduceToNat, Int.reduceAdd, Int.reduceSub, Int.reduceNeg, List.reduceReplicate, Nat.reducePow, Int.reduceMul]
      exact hK _ _ _ hT.1 D1 hT.2.2 KV_z
    · have e : ytickF L at' now S = yfirF L true S := if_neg (by rintro (h | h); exact hS h; exact hlt h)
      rw [e] at hK
      refine CallK.of_fn FOk.nil rc_ytick_ok (by simp [rc_ytick]) ?_
      unfold rc_ytick
      dsimp only
      simp -implicitDefEqProofs -dsimp only [tb_at, vcS, ↓vcP1, ↓vcP2, ↓reduceIte, reduceCtorEq, Nat.reduceLT, Nat.reduceLeDiff, Nat.reduceEqDiff, Nat.reduceAdd, Nat.reduceSub, Nat.reduceMul, Int.reduceLT, Int.reduceLE, Int.reduceEq, Int.reduceToNat, Int.reduceAdd, Int.reduceSub, Int.reduceNeg, List.reduceReplicate, Nat.reducePow, Int.reduceMul]
      refine ydue_K D1 h0 ?_
      rw [if_neg hS]
      simp -implicitDefEqProofs -dsimp only [tb_at, tb_all hk1, Bool.not_true, vcS, ↓vcP1, ↓vcP2, ↓reduceIte, reduceCtorEq, Nat.reduceLT, Nat.reduceLeDiff, Nat.reduceEqDiff, Nat.reduceAdd, Nat.reduceSub, Nat.reduceMul, Int.reduceLT, Int.reduceLE, Int.reduceEq, Int.reduceToNat, Int.reduceAdd, Int.reduceSub, Int.reduceNeg, List.reduceReplicate, Nat.reducePow, Int.reduceMul]
      refine CallK.pure (ynear_P now) fun r os ⟨e1, e2⟩ => ?_
      subst e1; subst e2
      rw [List.append_nil]
      simp -implicitDefEqProofs -dsimp only [tb_at, tb_all hk1, hlt, vcS, ↓vcP1, ↓vcP2, ↓reduceIte, reduceCtorEq, Nat.reduceLT, Nat.reduceLeDiff, Nat.reduceEqDiff, Nat.reduceAdd, Nat.reduceSub, Nat.reduceMul, Int.reduceLT, Int.reduceLE, Int.reduceEq, Int.reduceToNat, Int.reduceAdd, Int.reduceSub, Int.reduceNeg, List.reduceReplicate, Nat.reducePow, Int.reduceMul]
      refine yfirst_K D1 hnb fun T2 d2 v k2 D2 n2 y2 => ?_
      have hk2 := k2.at hk1 (by simp; omega)
      obtain ⟨s1, s2, kk1, kk2, ev⟩ := y2.vals
      obtain ⟨a1, a2, a3⟩ := D.fin k2 D2 n2 (some (.box [.int .i64 ((yfirF L true S).1.getD kyZ).kind, .str ((yfirF L true S).1.getD kyZ).cmd, .sl s1 (intRows .u8 ((yfirF L true S).1.getD kyZ).seq) kk1, .int .i32 ((yfirF L true S).1.getD kyZ).r, .sl s2 (intRows .i32 ((yfirF L true S).1.getD kyZ).text) kk2]))
      have := hK _ _ _ a1 a2 a3 y2
      rw [ev] at this ⊢
      simp -implicitDefEqProofs -dsimp only [tb_at, tb_all hk2, vcS, ↓vcP1, ↓vcP2, ↓reduceIte, reduceCtorEq, Nat.reduceLT, Nat.reduceLeDiff, Nat.reduceEqDiff, Nat.reduceAdd, Nat.reduceSub, Nat.reduceMul, Int.reduceLT, Int.reduceLE, Int.reduceEq, Int.reduceToNat, Int.reduceAdd, Int.reduceSub, Int.reduceNeg, List.reduceReplicate, Nat.reducePow, Int.reduceMul]
      exact ⟨a1.1, this⟩
end Go.Proofs.YtdimdjcnkmkbjaaDoor
