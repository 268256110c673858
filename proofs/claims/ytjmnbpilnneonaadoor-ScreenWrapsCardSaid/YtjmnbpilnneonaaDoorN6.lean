/- Texts H7, H8 in one. -/
import Derived.Test.YtjmnbpilnneonaaDoorN3
set_option linter.unusedVariables false
set_option linter.unusedSimpArgs false
set_option maxRecDepth 10000
namespace Go.Proofs.YtjmnbpilnneonaaDoor
open Go.RowKit
noncomputable def rc_terase_l0 : RC := (.seq (.reg [⟨some 62, .bin .lss (.t 61) (.t 60), none, false⟩] 0 [0, 2, 6, 7, 60, 61, 62]) (.seq (.cond (.t 62) .skip (.ext 1)) (.seq (.blk 2 (.seq (.reg [⟨some 63, .mov (.t 61), none, false⟩, ⟨some 8, .mov (.t 63), none, false⟩] 0 [0, 2, 6, 7, 8, 60, 61]) (.blk 3 (.seq (.reg [⟨some 65, .mov (.t 8), none, false⟩, ⟨some 66, .mov (.t 0), none, false⟩, ⟨some 67, .nilck (.t 66), none, false⟩, ⟨some 68, .faddr 0 (.t 67), none, false⟩, ⟨some 69, .faddr 3 (.t 68), none, false⟩, ⟨some 70, .load false 1 (.t 69), none, false⟩, ⟨some 71, .bin .eql (.t 65) (.t 70), none, false⟩, ⟨some 64, .mov (.t 71), none, false⟩] 0 [0, 2, 6, 7, 8, 60, 61, 64]) (.cond (.t 64) (.regD (.take ⟨some 72, .mov (.t 0), none, false⟩ [] (.take ⟨some 73, .mov (.t 0), none, false⟩ [] (.take ⟨some 74, .nilck (.t 73), none, false⟩ [] (.take ⟨some 75, .faddr 0 (.t 74), none, false⟩ [] (.take ⟨some 76, .faddr 2 (.t 75), none, false⟩ [] (.take ⟨some 77, .load false 1 (.t 76), none, false⟩ [] (.take ⟨some 78, .mov (.t 0), none, false⟩ [] (.take ⟨some 79, .nilck (.t 78), none, false⟩ [] (.take ⟨some 80, .faddr 0 (.t 79), none, false⟩ [] (.take ⟨some 81, .faddr 1 (.t 80), none, false⟩ [] (.take ⟨some 82, .load false 1 (.t 81), none, false⟩ [] (.take ⟨some 83, .mov (.t 8), none, false⟩ [] (.take ⟨some 84, .mov (.t 6), none, false⟩ [] (.take ⟨some 85, .mov (.t 7), none, false⟩ [] (.mid ⟨some 86, .call 63 [.t 77, .t 82, .t 83, .t 84, .t 85], none, false⟩ (.take ⟨some 87, .nilck (.t 72), none, false⟩ [] (.take ⟨some 88, .faddr 0 (.t 87), none, false⟩ [] (.take ⟨some 89, .faddr 2 (.t 88), none, false⟩ [] (.op ⟨none, .store 1 (.t 89) (.t 86), none, false⟩ .done))))))))))))))))))) 0 [0, 2, 6, 7, 60, 61]) (.seq (.reg [⟨some 91, .mov (.t 2), none, false⟩, ⟨some 92, .bin .eql (.t 91) (.c (.int .i64 2)), none, false⟩, ⟨some 93, .mov (.t 92), none, false⟩, ⟨some 94, .mov (.t 2), some (93, false), false⟩, ⟨some 95, .bin .eql (.t 94) (.c (.int .i64 0)), some (93, false), false⟩, ⟨some 96, .mov (.t 95), some (93, false), false⟩, ⟨some 97, .mov (.t 8), some (96, true), false⟩, ⟨some 98, .mov (.t 0), some (96, true), false⟩, ⟨some 99, .nilck (.t 98), some (96, true), false⟩, ⟨some 100, .faddr 0 (.t 99), some (96, true), false⟩, ⟨some 101, .faddr 3 (.t 100), some (96, true), false⟩, ⟨some 102, .load false 1 (.t 101), some (96, true), false⟩, ⟨some 103, .bin .gtr (.t 97) (.t 102), some (96, true), false⟩, ⟨some 104, .pick (.t 96) (.t 103) (.c (.bool false)), some (93, false), false⟩, ⟨some 105, .pick (.t 93) (.c (.bool true)) (.t 104), none, false⟩, ⟨some 106, .mov (.t 105), none, false⟩, ⟨some 107, .mov (.t 2), some (106, false), false⟩, ⟨some 108, .bin .eql (.t 107) (.c (.int .i64 1)), some (106, false), false⟩, ⟨some 109, .mov (.t 108), some (106, false), false⟩, ⟨some 110, .mov (.t 8), some (109, true), false⟩, ⟨some 111, .mov (.t 0), some (109, true), false⟩, ⟨some 112, .nilck (.t 111), some (109, true), false⟩, ⟨some 113, .faddr 0 (.t 112), some (109, true), false⟩, ⟨some 114, .faddr 3 (.t 113), some (109, true), false⟩, ⟨some 115, .load false 1 (.t 114), some (109, true), false⟩, ⟨some 116, .bin .lss (.t 110) (.t 115), some (109, true), false⟩, ⟨some 117, .pick (.t 109) (.t 116) (.c (.bool false)), some (106, false), false⟩, ⟨some 118, .pick (.t 106) (.c (.bool true)) (.t 117), none, false⟩, ⟨some 90, .mov (.t 118), none, false⟩] 0 [0, 2, 6, 7, 8, 60, 61, 90]) (.cond (.t 90) (.regD (.take ⟨some 119, .mov (.t 0), none, false⟩ [] (.take ⟨some 120, .mov (.t 0), none, false⟩ [] (.take ⟨some 121, .nilck (.t 120), none, false⟩ [] (.take ⟨some 122, .faddr 0 (.t 121), none, false⟩ [] (.take ⟨some 123, .faddr 2 (.t 122), none, false⟩ [] (.take ⟨some 124, .load false 1 (.t 123), none, false⟩ [] (.take ⟨some 125, .mov (.t 0), none, false⟩ [] (.take ⟨some 126, .nilck (.t 125), none, false⟩ [] (.take ⟨some 127, .faddr 0 (.t 126), none, false⟩ [] (.take ⟨some 128, .faddr 1 (.t 127), none, false⟩ [] (.take ⟨some 129, .load false 1 (.t 128), none, false⟩ [] (.take ⟨some 130, .mov (.t 8), none, false⟩ [] (.take ⟨some 131, .mov (.t 0), none, false⟩ [] (.take ⟨some 132, .nilck (.t 131), none, false⟩ [] (.take ⟨some 133, .faddr 0 (.t 132), none, false⟩ [] (.take ⟨some 134, .faddr 1 (.t 133), none, false⟩ [] (.take ⟨some 135, .load false 1 (.t 134), none, false⟩ [] (.mid ⟨some 136, .call 63 [.t 124, .t 129, .t 130, .c (.int .i64 0), .t 135], none, false⟩ (.take ⟨some 137, .nilck (.t 119), none, false⟩ [] (.take ⟨some 138, .faddr 0 (.t 137), none, false⟩ [] (.take ⟨some 139, .faddr 2 (.t 138), none, false⟩ [] (.op ⟨none, .store 1 (.t 139) (.t 136), none, false⟩ .done)))))))))))))))))))))) 0 [0, 2, 6, 7, 60, 61]) .skip))))))) (.reg [⟨some 140, .bin .add (.t 61) (.c (.int .i64 1)), none, false⟩, ⟨some 61, .mov (.t 140), none, false⟩] 0 [0, 2, 6, 7, 60, 61]))))
noncomputable def rc_terase_c56 : RC := (.seq (.reg [⟨some 56, .mov (.t 0), none, false⟩, ⟨some 57, .nilck (.t 56), none, false⟩, ⟨some 58, .faddr 0 (.t 57), none, false⟩, ⟨some 59, .faddr 0 (.t 58), none, false⟩, ⟨some 60, .load false 1 (.t 59), none, false⟩, ⟨some 61, .mov (.c (.int .i64 0)), none, false⟩] 0 [0, 2, 6, 7, 60, 61]) (.blk 1 (.loop rc_terase_l0)))
theorem rc_terase_c56_s (E : Prg) (F : FTab) (n : Nat) (Q : Exit → St → Prop) (st : St) : RC.wp E F n rc_terase_c56 Q st = WpH E F n rc_terase_c56 Q st := nrfl _
noncomputable def rc_terase : RFn := ⟨3, 141, .seq (.regD (.take ⟨some 9, .mov (.t 0), none, false⟩ [] (.take ⟨some 10, .nilck (.t 9), none, false⟩ [] (.take ⟨some 11, .faddr 0 (.t 10), none, false⟩ [] (.take ⟨some 12, .faddr 1 (.t 11), none, false⟩ [] (.take ⟨some 13, .load false 1 (.t 12), none, false⟩ [] (.take ⟨some 6, .mov (.c (.int .i64 0)), none, false⟩ [] (.take ⟨some 7, .mov (.t 13), none, false⟩ [] .done))))))) 0 [0, 1, 2, 6, 7]) (.seq (.seq (.reg [⟨some 14, .mov (.t 2), none, false⟩] 0 [0, 1, 2, 6, 7, 14]) (.blk 0 (.seq (.reg [⟨some 16, .bin .eql (.t 14) (.c (.int .i64 0)), none, false⟩, ⟨some 15, .mov (.t 16), none, false⟩] 0 [0, 1, 2, 6, 7, 14, 15]) (.cond (.t 15) (.reg [⟨some 17, .mov (.t 0), none, false⟩, ⟨some 18, .nilck (.t 17), none, false⟩, ⟨some 19, .faddr 0 (.t 18), none, false⟩, ⟨some 20, .faddr 4 (.t 19), none, false⟩, ⟨some 21, .load false 1 (.t 20), none, false⟩, ⟨some 6, .mov (.t 21), none, false⟩] 0 [0, 1, 2, 6, 7]) (.seq (.reg [⟨some 23, .bin .eql (.t 14) (.c (.int .i64 1)), none, false⟩, ⟨some 22, .mov (.t 23), none, false⟩] 0 [0, 1, 2, 6, 7, 14, 22]) (.cond (.t 22) (.reg [⟨some 24, .mov (.t 0), none, false⟩, ⟨some 25, .nilck (.t 24), none, false⟩, ⟨some 26, .faddr 0 (.t 25), none, false⟩, ⟨some 27, .faddr 4 (.t 26), none, false⟩, ⟨some 28, .load false 1 (.t 27), none, false⟩, ⟨some 29, .bin .add (.t 28) (.c (.int .i64 1)), none, false⟩, ⟨some 7, .mov (.t 29), none, false⟩] 0 [0, 1, 2, 6, 7]) (.seq (.reg [⟨some 31, .bin .eql (.t 14) (.c (.int .i64 2)), none, false⟩, ⟨some 30, .mov (.t 31), none, false⟩] 0 [0, 1, 2, 6, 7, 30]) (.cond (.t 30) .skip .ret)))))))) (.seq (.seq (.reg [⟨some 32, .mov (.t 1), none, false⟩, ⟨some 33, .bin .eql (.t 32) (.c (.int .u8 75)), none, false⟩] 0 [0, 2, 6, 7, 33]) (.cond (.t 33) (.seq (.regD (.take ⟨some 34, .mov (.t 0), none, false⟩ [] (.take ⟨some 35, .mov (.t 0), none, false⟩ [] (.take ⟨some 36, .nilck (.t 35), none, false⟩ [] (.take ⟨some 37, .faddr 0 (.t 36), none, false⟩ [] (.take ⟨some 38, .faddr 2 (.t 37), none, false⟩ [] (.take ⟨some 39, .load false 1 (.t 38), none, false⟩ [] (.take ⟨some 40, .mov (.t 0), none, false⟩ [] (.take ⟨some 41, .nilck (.t 40), none, false⟩ [] (.take ⟨some 42, .faddr 0 (.t 41), none, false⟩ [] (.take ⟨some 43, .faddr 1 (.t 42), none, false⟩ [] (.take ⟨some 44, .load false 1 (.t 43), none, false⟩ [] (.take ⟨some 45, .mov (.t 0), none, false⟩ [] (.take ⟨some 46, .nilck (.t 45), none, false⟩ [] (.take ⟨some 47, .faddr 0 (.t 46), none, false⟩ [] (.take ⟨some 48, .faddr 3 (.t 47), none, false⟩ [] (.take ⟨some 49, .load false 1 (.t 48), none, false⟩ [] (.take ⟨some 50, .mov (.t 6), none, false⟩ [] (.take ⟨some 51, .mov (.t 7), none, false⟩ [] (.mid ⟨some 52, .call 63 [.t 39, .t 44, .t 49, .t 50, .t 51], none, false⟩ (.take ⟨some 53, .nilck (.t 34), none, false⟩ [] (.take ⟨some 54, .faddr 0 (.t 53), none, false⟩ [] (.take ⟨some 55, .faddr 2 (.t 54), none, false⟩ [] (.op ⟨none, .store 1 (.t 55) (.t 52), none, false⟩ .done))))))))))))))))))))))) 0 []) .ret) .skip)) rc_terase_c56)), []⟩
theorem rc_terase_ok : compFn PG.P [⟨0, 0, [0, 1, 2, 6, 7], []⟩, ⟨1, 0, [0, 1, 2, 6, 7, 14], []⟩, ⟨2, 0, [0, 1, 2, 6, 7, 14, 15], []⟩, ⟨3, 0, [0, 1, 2, 6, 7], []⟩, ⟨4, 0, [0, 1, 2, 6, 7, 14, 22], []⟩, ⟨5, 0, [0, 1, 2, 6, 7], []⟩, ⟨6, 0, [0, 1, 2, 6, 7, 30], []⟩, ⟨7, 0, [0, 2, 6, 7, 33], []⟩, ⟨8, 0, [], []⟩, ⟨9, 0, [0, 2, 6, 7, 60, 61], []⟩, ⟨10, 0, [0, 2, 6, 7, 60, 61, 62], []⟩, ⟨11, 0, [0, 2, 6, 7, 8, 60, 61], []⟩, ⟨12, 0, [0, 2, 6, 7, 8, 60, 61, 64], []⟩, ⟨13, 0, [0, 2, 6, 7, 60, 61], []⟩, ⟨14, 0, [0, 2, 6, 7, 8, 60, 61, 90], []⟩, ⟨15, 0, [0, 2, 6, 7, 60, 61], []⟩, ⟨16, 0, [0, 2, 6, 7, 60, 61], []⟩] 59 = some rc_terase := by kernel_rfl
def eraP (s : Sc) (row : Bool) (k : Int) : Sc :=
  if 0 ≤ k ∧ k ≤ 2 then { s with cells := if row = true then eraF s.cells s.cols s.y (fromF s k) (toK s k) else eraJ s k s.rows } else s
theorem terase_no {T0 T : Objs} {o : Nat} {s : Sc} {p : Pa} {b k : Int} {K : DV → Objs → Prop} (hk : ¬ (0 ≤ k ∧ k ≤ 2)) (h : TermAt T0 T o s p) (hK : K (.tup []) T) : CallK PG 59 [.ptr o 0 0, .int .u8 b, .int .i64 k] T K := by
  obtain ⟨k0, q, tq, od, m, pr, d1, d2, d3, pa, t⟩ := h
  have hb := t.box
  unfold tmBox at hb
  have e0 : ¬ k = 0 := by omega
  have e1 : ¬ k = 1 := by omega
  have e2 : ¬ k = 2 := by omega
  refine CallK.of_fn FOk.nil rc_terase_ok (by simp [rc_terase]) ?_
  unfold rc_terase
  dsimp only
  simp -implicitDefEqProofs -dsimp only [tb_at, tb_all hb, eq_false e0, eq_false e1, eq_false e2, vcS, ↓vcP1, ↓vcP2, ↓reduceIte, reduceCtorEq, Nat.reduceLT, Nat.reduceLeDiff, Nat.reduceEqDiff, Nat.reduceAdd, Nat.reduceSub, Nat.reduceMul, Int.reduceLT, Int.reduceLE, Int.reduceEq, Int.reduceToNat, Int.reduceAdd, Int.reduceSub, Int.reduceNeg, List.reduceReplicate, Nat.reducePow, Int.reduceMul]
  exact hK
theorem terase_row {T0 T : Objs} {o : Nat} {s : Sc} {p : Pa} {k : Int} {K : DV → Objs → Prop} (hk : k = 0 ∨ k = 1 ∨ k = 2) (ok : ScOk s) (h : TermAt T0 T o s p) (hK : ∀ T', T.length ≤ T'.length → TermAt T0 T' o { s with cells := eraF s.cells s.cols s.y (fromF s k) (toK s k) } p → K (.tup []) T') :
    CallK PG 59 [.ptr o 0 0, .int .u8 75, .int .i64 k] T K := by
  obtain ⟨k0, q, tq, od, m, pr, d1, d2, d3, pa, t⟩ := h
  have hb := t.box
  unfold tmBox at hb
  have hc := ok.g.c
  have hx := ok.x
  have w1 : IntKind.i64.wrap ((s.x : Int) + 1) = (s.x : Int) + 1 := wI64 (by omega) (by omega)
  rcases hk with rfl | rfl | rfl
  all_goals
    refine CallK.of_fn FOk.nil rc_terase_ok (by simp [rc_terase]) ?_
    unfold rc_terase
    dsimp only
    simp -implicitDefEqProofs -dsimp only [tb_at, tb_all hb, w1, vcS, ↓vcP1, ↓vcP2, ↓reduceIte, reduceCtorEq, Nat.reduceLT, Nat.reduceLeDiff, Nat.reduceEqDiff, Nat.reduceAdd, Nat.reduceSub, Nat.reduceMul, Int.reduceLT, Int.reduceLE, Int.reduceEq, Int.reduceToNat, Int.reduceAdd, Int.reduceSub, Int.reduceNeg, List.reduceReplicate, Nat.reducePow, Int.reduceMul]
    refine gera_K t.cells ok.g ok.y fun T' p hp hc k => ?_
    simp -implicitDefEqProofs -dsimp only [tb_at, tb_all (k.at hb (by simp)), vcS, ↓vcP1, ↓vcP2, ↓reduceIte, reduceCtorEq, Nat.reduceLT, Nat.reduceLeDiff, Nat.reduceEqDiff, Nat.reduceAdd, Nat.reduceSub, Nat.reduceMul, Int.reduceLT, Int.reduceLE, Int.reduceEq, Int.reduceToNat, Int.reduceAdd, Int.reduceSub, Int.reduceNeg, List.reduceReplicate, Nat.reducePow, Int.reduceMul]
    exact ⟨by simpa using k.1, hK _ (by simpa using k.1) (.newG (s2 := s) pa k0 t k hp hc (eraF_len ok.g ok.y) rfl rfl rfl)⟩
theorem terase_c56 {T0 T : Objs} {o : Nat} {s : Sc} {p : Pa} {k fr to : Int} {K : Objs → Prop} {Q : Exit → St → Prop} (hk : k = 0 ∨ k = 1 ∨ k = 2) (ok : ScOk s) (h : TermAt T0 T o s p) (hf : fr = fromF s k) (ht : to = toK s k) (hK : ∀ T', T.length ≤ T'.length → TermAt T0 T' o { s with cells := eraJ s k s.rows } p → K T')
    (hQ : ∀ env T', K T' → Q .normal ⟨env, T'⟩) : WpH PG (tab []) 141 rc_terase_c56 Q ⟨[(0, .ptr o 0 0), (2, .int .i64 k), (6, .int .i64 fr), (7, .int .i64 to), (33, .bool false)], T⟩ := by
  obtain ⟨k0, q, tq, od, m, pr, d1, d2, d3, pa, t⟩ := id h
  have hb := t.box
  unfold tmBox at hb
  have hr := ok.g.r
  have hc := ok.g.c
  unfold WpH rc_terase_c56
  simp -implicitDefEqProofs -dsimp only [tb_at, tb_all hb, vcS, ↓vcP1, ↓vcP2, ↓reduceIte, reduceCtorEq, Nat.reduceLT, Nat.reduceLeDiff, Nat.reduceEqDiff, Nat.reduceAdd, Nat.reduceSub, Nat.reduceMul, Int.reduceLT, Int.reduceLE, Int.reduceEq, Int.reduceToNat, Int.reduceAdd, Int.reduceSub, Int.reduceNeg, List.reduceReplicate, Nat.reducePow, Int.reduceMul]
  refine LoopWp.inv FOk.nil (S := fun σ : Nat × Objs => ⟨[(0, .ptr o 0 0), (2, .int .i64 k), (6, .int .i64 fr), (7, .int .i64 to), (60, .int .i64 s.rows), (61, .int .i64 σ.1)], σ.2⟩)
    (I := fun σ => σ.1 ≤ s.rows ∧ T.length ≤ σ.2.length ∧ TermAt T0 σ.2 o { s with cells := eraJ s k σ.1 } p) (μ := fun σ => s.rows - σ.1) (0, T) ⟨by simp, Nat.le_refl _, h⟩ ?_ ?_
  · simp -implicitDefEqProofs -dsimp only [wkT_self, vcS, ↓vcP1, ↓vcP2, ↓reduceIte, reduceCtorEq, Nat.reduceLT, Nat.reduceLeDiff, Nat.reduceEqDiff, Nat.reduceAdd, Nat.reduceSub, Nat.reduceMul, Int.reduceLT, Int.reduceLE, Int.reduceEq, Int.reduceToNat, Int.reduceAdd, Int.reduceSub, Int.reduceNeg, List.reduceReplicate, Nat.reducePow, Int.reduceMul]
  · intro ⟨i, A⟩ ⟨h1, h2, h3⟩
    dsimp only at h1 h2 h3 ⊢
    obtain ⟨k1, q1, tq1, od1, m1, pr1, f1, f2, f3, pa1, t1⟩ := id h3
    have hb1 := t1.box
    unfold tmBox at hb1
    dsimp only at hb1
    have gi := eraJ_g ok k i h1
    unfold rc_terase_l0
    have w1 : IntKind.i64.wrap ((i : Int) + 1) = ((i + 1 : Nat) : Int) := by rw [wI64 (by omega) (by omega)]; omega
    rcases Nat.lt_or_ge i s.rows with hlt | hge
    · have hii : (i : Int) < s.rows := by omega
      rcases Decidable.em (i = s.y) with c1 | c1
      · have c1' : (i : Int) = s.y := by omega
        simp -implicitDefEqProofs -dsimp only [tb_at, tb_all hb1, hii, eq_true c1', w1, vcS, ↓vcP1, ↓vcP2, ↓reduceIte, reduceCtorEq, Nat.reduceLT, Nat.reduceLeDiff, Nat.reduceEqDiff, Nat.reduceAdd, Nat.reduceSub, Nat.reduceMul, Int.reduceLT, Int.reduceLE, Int.reduceEq, Int.reduceToNat, Int.reduceAdd, Int.reduceSub, Int.reduceNeg, List.reduceReplicate, Nat.reducePow, Int.reduceMul]
        refine gera_K t1.cells gi hlt fun T' pp hp hc kk => ?_
        simp -implicitDefEqProofs -dsimp only [tb_at, tb_all (kk.at hb1 (by simp)), hii, eq_true c1', w1, wkT_self, vcS, ↓vcP1, ↓vcP2, ↓reduceIte, reduceCtorEq, Nat.reduceLT, Nat.reduceLeDiff, Nat.reduceEqDiff, Nat.reduceAdd, Nat.reduceSub, Nat.reduceMul, Int.reduceLT, Int.reduceLE, Int.reduceEq, Int.reduceToNat, Int.reduceAdd, Int.reduceSub, Int.reduceNeg, List.reduceReplicate, Nat.reducePow, Int.reduceMul]
        have e : eraJ s k (i + 1) = eraF (eraJ s k i) s.cols i (fromF s k) (toK s k) := by rw [eraJ, if_pos c1]
        refine ⟨(i + 1, _), ⟨rfl, objsWk_refl _⟩, ⟨hlt, by simpa using Nat.le_trans h2 kk.1, ?_⟩, by dsimp only; omega⟩
        rw [hf, ht] at hc
        dsimp only
        rw [e]
        exact .newG (s2 := { s with cells := eraJ s k i }) pa1 k1 t1 kk hp hc (eraF_len gi hlt) rfl rfl rfl
      · have c1' : ¬ (i : Int) = s.y := by omega
        have skip : eraJ s k (i + 1) = eraJ s k i → ∃ s' : Nat × Objs, (((i + 1 : Nat) : Int) = (s'.1 : Int) ∧ objsWk A s'.2) ∧ (s'.1 ≤ s.rows ∧ T.length ≤ s'.2.length ∧ TermAt T0 s'.2 o { s with cells := eraJ s k s'.1 } p) ∧ s.rows - s'.1 < s.rows - i := fun e =>
          ⟨(i + 1, A), ⟨rfl, objsWk_refl _⟩, ⟨hlt, h2, by dsimp only; rw [e]; exact h3⟩, by dsimp only; omega⟩
        have done : ∀ {T' : Objs} {pp : Nat}, A.length ≤ pp → T'[pp]? = some (some (.arr 3 (ceRows (eraF (eraJ s k i) s.cols i 0 s.cols)))) → Keep A T' [] → eraJ s k (i + 1) = eraF (eraJ s k i) s.cols i 0 s.cols →
            ∃ s' : Nat × Objs, (((i + 1 : Nat) : Int) = (s'.1 : Int) ∧ objsWk (T'.set o (some (.box (tmBox { s with cells := eraJ s k i } pp tq1 od1 m1 pr1 f1 f2 f3)))) s'.2) ∧ (s'.1 ≤ s.rows ∧ T.length ≤ s'.2.length ∧ TermAt T0 s'.2 o { s with cells := eraJ s k s'.1 } p) ∧ s.rows - s'.1 < s.rows - i := fun hp hc kk e =>
          ⟨(i + 1, _), ⟨rfl, objsWk_refl _⟩, ⟨hlt, by simpa using Nat.le_trans h2 kk.1, by dsimp only; rw [e]; exact .newG (s2 := { s with cells := eraJ s k i }) pa1 k1 t1 kk hp hc (eraF_len gi hlt) rfl rfl rfl⟩, by dsimp only; omega⟩
        rcases hk with rfl | rfl | rfl
        · rcases Nat.lt_or_ge s.y i with c2 | c2
          · have c2' : (s.y : Int) < i := by omega
            simp -implicitDefEqProofs -dsimp only [tb_at, tb_all hb1, hii, eq_false c1', c2', w1, vcS, ↓vcP1, ↓vcP2, ↓reduceIte, reduceCtorEq, Nat.reduceLT, Nat.reduceLeDiff, Nat.reduceEqDiff, Nat.reduceAdd, Nat.reduceSub, Nat.reduceMul, Int.reduceLT, Int.reduceLE, Int.reduceEq, Int.reduceToNat, Int.reduceAdd, Int.reduceSub, Int.reduceNeg, List.reduceReplicate, Nat.reducePow, Int.reduceMul]
            refine gera_K t1.cells gi hlt fun T' pp hp hc kk => ?_
            simp -implicitDefEqProofs -dsimp only [tb_at, tb_all (kk.at hb1 (by simp)), hii, w1, wkT_self, vcS, ↓vcP1, ↓vcP2, ↓reduceIte, reduceCtorEq, Nat.reduceLT, Nat.reduceLeDiff, Nat.reduceEqDiff, Nat.reduceAdd, Nat.reduceSub, Nat.reduceMul, Int.reduceLT, Int.reduceLE, Int.reduceEq, Int.reduceToNat, Int.reduceAdd, Int.reduceSub, Int.reduceNeg, List.reduceReplicate, Nat.reducePow, Int.reduceMul]
            exact done hp hc kk (by rw [eraJ, if_neg c1, if_pos (.inr (.inl ⟨rfl, c2⟩))])
          · have c2' : ¬ (s.y : Int) < i := by omega
            simp -implicitDefEqProofs -dsimp only [tb_at, tb_all hb1, hii, eq_false c1', c2', w1, wkT_self, vcS, ↓vcP1, ↓vcP2, ↓reduceIte, reduceCtorEq, Nat.reduceLT, Nat.reduceLeDiff, Nat.reduceEqDiff, Nat.reduceAdd, Nat.reduceSub, Nat.reduceMul, Int.reduceLT, Int.reduceLE, Int.reduceEq, Int.reduceToNat, Int.reduceAdd, Int.reduceSub, Int.reduceNeg, List.reduceReplicate, Nat.reducePow, Int.reduceMul]
            exact skip (by rw [eraJ, if_neg c1, if_neg (by omega)])
        · rcases Nat.lt_or_ge i s.y with c2 | c2
          · have c2' : (i : Int) < s.y := by omega
            simp -implicitDefEqProofs -dsimp only [tb_at, tb_all hb1, hii, eq_false c1', c2', w1, vcS, ↓vcP1, ↓vcP2, ↓reduceIte, reduceCtorEq, Nat.reduceLT, Nat.reduceLeDiff, Nat.reduceEqDiff, Nat.reduceAdd, Nat.reduceSub, Nat.reduceMul, Int.reduceLT, Int.reduceLE, Int.reduceEq, Int.reduceToNat, Int.reduceAdd, Int.reduceSub, Int.reduceNeg, List.reduceReplicate, Nat.reducePow, Int.reduceMul]
            refine gera_K t1.cells gi hlt fun T' pp hp hc kk => ?_
            simp -implicitDefEqProofs -dsimp only [tb_at, tb_all (kk.at hb1 (by simp)), hii, w1, wkT_self, vcS, ↓vcP1, ↓vcP2, ↓reduceIte, reduceCtorEq, Nat.reduceLT, Nat.reduceLeDiff, Nat.reduceEqDiff, Nat.reduceAdd, Nat.reduceSub, Nat.reduceMul, Int.reduceLT, Int.reduceLE, Int.reduceEq, Int.reduceToNat, Int.reduceAdd, Int.reduceSub, Int.reduceNeg, List.reduceReplicate, Nat.reducePow, Int.reduceMul]
            exact done hp hc kk (by rw [eraJ, if_neg c1, if_pos (.inr (.inr ⟨rfl, c2⟩))])
          · have c2' : ¬ (i : Int) < s.y := by omega
            simp -implicitDefEqProofs -dsimp only [tb_at, tb_all hb1, hii, eq_false c1', c2', w1, wkT_self, vcS, ↓vcP1, ↓vcP2, ↓reduceIte, reduceCtorEq, Nat.reduceLT, Nat.reduceLeDiff, Nat.reduceEqDiff, Nat.reduceAdd, Nat.reduceSub, Nat.reduceMul, Int.reduceLT, Int.reduceLE, Int.reduceEq, Int.reduceToNat, Int.reduceAdd, Int.reduceSub, Int.reduceNeg, List.reduceReplicate, Nat.reducePow, Int.reduceMul]
            exact skip (by rw [eraJ, if_neg c1, if_neg (by omega)])
        · simp -implicitDefEqProofs -dsimp only [tb_at, tb_all hb1, hii, eq_false c1', w1, vcS, ↓vcP1, ↓vcP2, ↓reduceIte, reduceCtorEq, Nat.reduceLT, Nat.reduceLeDiff, Nat.reduceEqDiff, Nat.reduceAdd, Nat.reduceSub, Nat.reduceMul, Int.reduceLT, Int.reduceLE, Int.reduceEq, Int.reduceToNat, Int.reduceAdd, Int.reduceSub, Int.reduceNeg, List.reduceReplicate, Nat.reducePow, Int.reduceMul]
          refine gera_K t1.cells gi hlt fun T' pp hp hc kk => ?_
          simp -implicitDefEqProofs -dsimp only [tb_at, tb_all (kk.at hb1 (by simp)), hii, w1, wkT_self, vcS, ↓vcP1, ↓vcP2, ↓reduceIte, reduceCtorEq, Nat.reduceLT, Nat.reduceLeDiff, Nat.reduceEqDiff, Nat.reduceAdd, Nat.reduceSub, Nat.reduceMul, Int.reduceLT, Int.reduceLE, Int.reduceEq, Int.reduceToNat, Int.reduceAdd, Int.reduceSub, Int.reduceNeg, List.reduceReplicate, Nat.reducePow, Int.reduceMul]
          exact done hp hc kk (by rw [eraJ, if_neg c1, if_pos (.inl rfl)])
    · have hii : ¬ (i : Int) < s.rows := by omega
      obtain rfl : i = s.rows := by omega
      simp -implicitDefEqProofs -dsimp only [tb_at, hii, wkT_self, vcS, ↓vcP1, ↓vcP2, ↓reduceIte, reduceCtorEq, Nat.reduceLT, Nat.reduceLeDiff, Nat.reduceEqDiff, Nat.reduceAdd, Nat.reduceSub, Nat.reduceMul, Int.reduceLT, Int.reduceLE, Int.reduceEq, Int.reduceToNat, Int.reduceAdd, Int.reduceSub, Int.reduceNeg, List.reduceReplicate, Nat.reducePow, Int.reduceMul]
      exact hQ _ _ (hK _ h2 h3)
theorem terase_all {T0 T : Objs} {o : Nat} {s : Sc} {p : Pa} {k : Int} {K : DV → Objs → Prop} (hk : k = 0 ∨ k = 1 ∨ k = 2) (ok : ScOk s) (h : TermAt T0 T o s p) (hK : ∀ T', T.length ≤ T'.length → TermAt T0 T' o { s with cells := eraJ s k s.rows } p → K (.tup []) T') :
    CallK PG 59 [.ptr o 0 0, .int .u8 74, .int .i64 k] T K := by
  obtain ⟨k0, q, tq, od, m, pr, d1, d2, d3, pa, t⟩ := id h
  have hb := t.box
  unfold tmBox at hb
  have hc := ok.g.c
  have hx := ok.x
  have w1 : IntKind.i64.wrap ((s.x : Int) + 1) = (s.x : Int) + 1 := wI64 (by omega) (by omega)
  have hk' := hk
  rcases hk with rfl | rfl | rfl
  all_goals
    refine CallK.of_fn FOk.nil rc_terase_ok (by simp [rc_terase]) ?_
    unfold rc_terase
    dsimp only
    simp -implicitDefEqProofs -dsimp only [tb_at, tb_all hb, w1, ↓rc_terase_c56_s, vcS, ↓vcP1, ↓vcP2, ↓reduceIte, reduceCtorEq, Nat.reduceLT, Nat.reduceLeDiff, Nat.reduceEqDiff, Nat.reduceAdd, Nat.reduceSub, Nat.reduceMul, Int.reduceLT, Int.reduceLE, Int.reduceEq, Int.reduceToNat, Int.reduceAdd, Int.reduceSub, Int.reduceNeg, List.reduceReplicate, Nat.reducePow, Int.reduceMul]
    exact terase_c56 (K := fun T' => T.length ≤ T'.length ∧ K (.tup []) T') hk' ok h rfl rfl (fun T' l t' => ⟨l, hK T' l t'⟩) fun _ _ h => h
theorem terase_K {T0 T : Objs} {o : Nat} {s : Sc} {p : Pa} {row : Bool} {k : Int} {K : DV → Objs → Prop} (ok : ScOk s) (h : TermAt T0 T o s p) (hK : ∀ T', T.length ≤ T'.length → TermAt T0 T' o (eraP s row k) p → K (.tup []) T') :
    CallK PG 59 [.ptr o 0 0, .int .u8 (if row = true then 75 else 74), .int .i64 k] T K := by
  unfold eraP at hK
  rcases Decidable.em (0 ≤ k ∧ k ≤ 2) with hk | hk
  · rw [if_pos hk] at hK
    cases row with
    | true => exact terase_row (by omega) ok h hK
    | false => exact terase_all (by omega) ok h hK
  · rw [if_neg hk] at hK
    exact terase_no hk h (hK _ (Nat.le_refl _) h)
noncomputable def rc_tattrs_l0 : RC := (.seq (.reg [⟨some 15, .bin .lss (.t 14) (.t 13), none, false⟩] 0 [2, 4, 12, 13, 14, 15]) (.seq (.cond (.t 15) .skip (.ext 0)) (.seq (.blk 1 (.seq (.reg [⟨some 16, .iaddr 1 (.t 12) (.t 14), none, false⟩, ⟨some 17, .load false 1 (.t 16), none, false⟩, ⟨some 6, .mov (.t 17), none, false⟩] 0 [2, 4, 6, 12, 13, 14]) (.blk 2 (.seq (.reg [⟨some 19, .mov (.t 6), none, false⟩, ⟨some 20, .bin .eql (.t 19) (.c (.int .i64 0)), none, false⟩, ⟨some 18, .mov (.t 20), none, false⟩] 0 [2, 4, 6, 12, 13, 14, 18]) (.cond (.t 18) (.reg [⟨some 21, .load false 1 (.t 2), none, false⟩, ⟨some 22, .nilck (.t 21), none, false⟩, ⟨some 23, .faddr 0 (.t 22), none, false⟩, ⟨some 24, .faddr 6 (.t 23), none, false⟩, ⟨none, .store 1 (.t 24) (.c (.int .u16 0)), none, false⟩] 0 [2, 4, 12, 13, 14]) (.seq (.reg [⟨some 26, .mov (.t 6), none, false⟩, ⟨some 27, .bin .eql (.t 26) (.c (.int .i64 1)), none, false⟩, ⟨some 25, .mov (.t 27), none, false⟩] 0 [2, 4, 6, 12, 13, 14, 25]) (.cond (.t 25) (.reg [⟨some 28, .load false 1 (.t 2), none, false⟩, ⟨some 29, .nilck (.t 28), none, false⟩, ⟨some 30, .faddr 0 (.t 29), none, false⟩, ⟨some 31, .faddr 6 (.t 30), none, false⟩, ⟨some 32, .load false 1 (.t 31), none, false⟩, ⟨some 33, .bin .or (.t 32) (.c (.int .u16 1)), none, false⟩, ⟨some 34, .nilck (.t 28), none, false⟩, ⟨some 35, .faddr 0 (.t 34), none, false⟩, ⟨some 36, .faddr 6 (.t 35), none, false⟩, ⟨none, .store 1 (.t 36) (.t 33), none, false⟩] 0 [2, 4, 12, 13, 14]) (.seq (.reg [⟨some 38, .mov (.t 6), none, false⟩, ⟨some 39, .bin .eql (.t 38) (.c (.int .i64 4)), none, false⟩, ⟨some 37, .mov (.t 39), none, false⟩] 0 [2, 4, 6, 12, 13, 14, 37]) (.cond (.t 37) (.reg [⟨some 40, .load false 1 (.t 2), none, false⟩, ⟨some 41, .nilck (.t 40), none, false⟩, ⟨some 42, .faddr 0 (.t 41), none, false⟩, ⟨some 43, .faddr 6 (.t 42), none, false⟩, ⟨some 44, .load false 1 (.t 43), none, false⟩, ⟨some 45, .bin .or (.t 44) (.c (.int .u16 2)), none, false⟩, ⟨some 46, .nilck (.t 40), none, false⟩, ⟨some 47, .faddr 0 (.t 46), none, false⟩, ⟨some 48, .faddr 6 (.t 47), none, false⟩, ⟨none, .store 1 (.t 48) (.t 45), none, false⟩] 0 [2, 4, 12, 13, 14]) (.seq (.reg [⟨some 50, .mov (.t 6), none, false⟩, ⟨some 51, .bin .eql (.t 50) (.c (.int .i64 7)), none, false⟩, ⟨some 49, .mov (.t 51), none, false⟩] 0 [2, 4, 6, 12, 13, 14, 49]) (.cond (.t 49) (.reg [⟨some 52, .load false 1 (.t 2), none, false⟩, ⟨some 53, .nilck (.t 52), none, false⟩, ⟨some 54, .faddr 0 (.t 53), none, false⟩, ⟨some 55, .faddr 6 (.t 54), none, false⟩, ⟨some 56, .load false 1 (.t 55), none, false⟩, ⟨some 57, .bin .or (.t 56) (.c (.int .u16 4)), none, false⟩, ⟨some 58, .nilck (.t 52), none, false⟩, ⟨some 59, .faddr 0 (.t 58), none, false⟩, ⟨some 60, .faddr 6 (.t 59), none, false⟩, ⟨none, .store 1 (.t 60) (.t 57), none, false⟩] 0 [2, 4, 12, 13, 14]) (.seq (.reg [⟨some 62, .mov (.t 6), none, false⟩, ⟨some 63, .bin .eql (.t 62) (.c (.int .i64 22)), none, false⟩, ⟨some 61, .mov (.t 63), none, false⟩] 0 [2, 4, 6, 12, 13, 14, 61]) (.cond (.t 61) (.reg [⟨some 64, .load false 1 (.t 2), none, false⟩, ⟨some 65, .nilck (.t 64), none, false⟩, ⟨some 66, .faddr 0 (.t 65), none, false⟩, ⟨some 67, .faddr 6 (.t 66), none, false⟩, ⟨some 68, .load false 1 (.t 67), none, false⟩, ⟨some 69, .bin .andNot (.t 68) (.c (.int .u16 1)), none, false⟩, ⟨some 70, .nilck (.t 64), none, false⟩, ⟨some 71, .faddr 0 (.t 70), none, false⟩, ⟨some 72, .faddr 6 (.t 71), none, false⟩, ⟨none, .store 1 (.t 72) (.t 69), none, false⟩] 0 [2, 4, 12, 13, 14]) (.seq (.reg [⟨some 74, .mov (.t 6), none, false⟩, ⟨some 75, .bin .eql (.t 74) (.c (.int .i64 24)), none, false⟩, ⟨some 73, .mov (.t 75), none, false⟩] 0 [2, 4, 6, 12, 13, 14, 73]) (.cond (.t 73) (.reg [⟨some 76, .load false 1 (.t 2), none, false⟩, ⟨some 77, .nilck (.t 76), none, false⟩, ⟨some 78, .faddr 0 (.t 77), none, false⟩, ⟨some 79, .faddr 6 (.t 78), none, false⟩, ⟨some 80, .load false 1 (.t 79), none, false⟩, ⟨some 81, .bin .andNot (.t 80) (.c (.int .u16 2)), none, false⟩, ⟨some 82, .nilck (.t 76), none, false⟩, ⟨some 83, .faddr 0 (.t 82), none, false⟩, ⟨some 84, .faddr 6 (.t 83), none, false⟩, ⟨none, .store 1 (.t 84) (.t 81), none, false⟩] 0 [2, 4, 12, 13, 14]) (.seq (.reg [⟨some 86, .mov (.t 6), none, false⟩, ⟨some 87, .bin .eql (.t 86) (.c (.int .i64 27)), none, false⟩, ⟨some 85, .mov (.t 87), none, false⟩] 0 [2, 4, 6, 12, 13, 14, 85]) (.cond (.t 85) (.reg [⟨some 88, .load false 1 (.t 2), none, false⟩, ⟨some 89, .nilck (.t 88), none, false⟩, ⟨some 90, .faddr 0 (.t 89), none, false⟩, ⟨some 91, .faddr 6 (.t 90), none, false⟩, ⟨some 92, .load false 1 (.t 91), none, false⟩, ⟨some 93, .bin .andNot (.t 92) (.c (.int .u16 4)), none, false⟩, ⟨some 94, .nilck (.t 88), none, false⟩, ⟨some 95, .faddr 0 (.t 94), none, false⟩, ⟨some 96, .faddr 6 (.t 95), none, false⟩, ⟨none, .store 1 (.t 96) (.t 93), none, false⟩] 0 [2, 4, 12, 13, 14]) (.seq (.reg [⟨some 98, .mov (.t 6), none, false⟩, ⟨some 99, .bin .geq (.t 98) (.c (.int .i64 30)), none, false⟩, ⟨some 100, .mov (.t 99), none, false⟩, ⟨some 101, .mov (.t 6), some (100, true), false⟩, ⟨some 102, .bin .leq (.t 101) (.c (.int .i64 37)), some (100, true), false⟩, ⟨some 103, .pick (.t 100) (.t 102) (.c (.bool false)), none, false⟩, ⟨some 97, .mov (.t 103), none, false⟩] 0 [2, 4, 6, 12, 13, 14, 97]) (.cond (.t 97) (.reg [⟨some 104, .mov (.t 4), none, false⟩, ⟨some 105, .mov (.t 6), none, false⟩, ⟨some 106, .bin .sub (.t 105) (.c (.int .i64 29)), none, false⟩, ⟨some 107, .calld (.t 104) [.c (.int .i64 4), .t 106], none, false⟩] 0 [2, 4, 12, 13, 14]) (.seq (.reg [⟨some 109, .mov (.t 6), none, false⟩, ⟨some 110, .bin .eql (.t 109) (.c (.int .i64 39)), none, false⟩, ⟨some 108, .mov (.t 110), none, false⟩] 0 [2, 4, 6, 12, 13, 14, 108]) (.cond (.t 108) (.reg [⟨some 111, .mov (.t 4), none, false⟩, ⟨some 112, .calld (.t 111) [.c (.int .i64 4), .c (.int .i64 0)], none, false⟩] 0 [2, 4, 12, 13, 14]) (.seq (.reg [⟨some 114, .mov (.t 6), none, false⟩, ⟨some 115, .bin .geq (.t 114) (.c (.int .i64 40)), none, false⟩, ⟨some 116, .mov (.t 115), none, false⟩, ⟨some 117, .mov (.t 6), some (116, true), false⟩, ⟨some 118, .bin .leq (.t 117) (.c (.int .i64 47)), some (116, true), false⟩, ⟨some 119, .pick (.t 116) (.t 118) (.c (.bool false)), none, false⟩, ⟨some 113, .mov (.t 119), none, false⟩] 0 [2, 4, 6, 12, 13, 14, 113]) (.cond (.t 113) (.reg [⟨some 120, .mov (.t 4), none, false⟩, ⟨some 121, .mov (.t 6), none, false⟩, ⟨some 122, .bin .sub (.t 121) (.c (.int .i64 39)), none, false⟩, ⟨some 123, .calld (.t 120) [.c (.int .i64 8), .t 122], none, false⟩] 0 [2, 4, 12, 13, 14]) (.seq (.reg [⟨some 125, .mov (.t 6), none, false⟩, ⟨some 126, .bin .eql (.t 125) (.c (.int .i64 49)), none, false⟩, ⟨some 124, .mov (.t 126), none, false⟩] 0 [2, 4, 12, 13, 14, 124]) (.cond (.t 124) (.reg [⟨some 127, .mov (.t 4), none, false⟩, ⟨some 128, .calld (.t 127) [.c (.int .i64 8), .c (.int .i64 0)], none, false⟩] 0 [2, 4, 12, 13, 14]) .skip))))))))))))))))))))))))) (.reg [⟨some 129, .bin .add (.t 14) (.c (.int .i64 1)), none, false⟩, ⟨some 14, .mov (.t 129), none, false⟩] 0 [2, 4, 12, 13, 14]))))
noncomputable def rc_tattrs : RFn := ⟨2, 130, .seq (.reg [⟨some 2, .box 1 (.t 0), none, false⟩] 0 [1, 2]) (.seq (.seq (.reg [⟨some 7, .mov (.t 1), none, false⟩, ⟨some 8, .len (.t 7), none, false⟩, ⟨some 9, .bin .eql (.t 8) (.c (.int .i64 0)), none, false⟩] 0 [1, 2, 9]) (.cond (.t 9) (.reg [⟨some 10, .mkrow 1 [.int .i64 0] 1 [(0, (.c (.int .i64 0)))], none, false⟩, ⟨some 1, .mov (.t 10), none, false⟩] 0 [1, 2]) .skip)) (.seq (.reg [⟨some 11, .mkfn 81 [.t 2], none, false⟩, ⟨some 4, .mov (.t 11), none, false⟩] 0 [1, 2, 4]) (.seq (.reg [⟨some 12, .mov (.t 1), none, false⟩, ⟨some 13, .len (.t 12), none, false⟩, ⟨some 14, .mov (.c (.int .i64 0)), none, false⟩] 0 [2, 4, 12, 13, 14]) (.blk 0 (.loop rc_tattrs_l0))))), []⟩
theorem rc_tattrs_ok : compFn PG.P [⟨0, 0, [1, 2], []⟩, ⟨1, 0, [1, 2, 9], []⟩, ⟨2, 0, [1, 2], []⟩, ⟨3, 0, [1, 2, 4], []⟩, ⟨4, 0, [2, 4, 12, 13, 14], []⟩, ⟨5, 0, [2, 4, 12, 13, 14, 15], []⟩, ⟨6, 0, [2, 4, 6, 12, 13, 14], []⟩, ⟨7, 0, [2, 4, 6, 12, 13, 14, 18], []⟩, ⟨8, 0, [2, 4, 12, 13, 14], []⟩, ⟨9, 0, [2, 4, 6, 12, 13, 14, 25], []⟩, ⟨10, 0, [2, 4, 12, 13, 14], []⟩, ⟨11, 0, [2, 4, 6, 12, 13, 14, 37], []⟩, ⟨12, 0, [2, 4, 12, 13, 14], []⟩, ⟨13, 0, [2, 4, 6, 12, 13, 14, 49], []⟩, ⟨14, 0, [2, 4, 12, 13, 14], []⟩, ⟨15, 0, [2, 4, 6, 12, 13, 14, 61], []⟩, ⟨16, 0, [2, 4, 12, 13, 14], []⟩, ⟨17, 0, [2, 4, 6, 12, 13, 14, 73], []⟩, ⟨18, 0, [2, 4, 12, 13, 14], []⟩, ⟨19, 0, [2, 4, 6, 12, 13, 14, 85], []⟩, ⟨20, 0, [2, 4, 12, 13, 14], []⟩, ⟨21, 0, [2, 4, 6, 12, 13, 14, 97], []⟩, ⟨22, 0, [2, 4, 12, 13, 14], []⟩, ⟨23, 0, [2, 4, 6, 12, 13, 14, 108], []⟩, ⟨24, 0, [2, 4, 12, 13, 14], []⟩, ⟨25, 0, [2, 4, 6, 12, 13, 14, 113], []⟩, ⟨26, 0, [2, 4, 12, 13, 14], []⟩, ⟨27, 0, [2, 4, 12, 13, 14, 124], []⟩, ⟨28, 0, [2, 4, 12, 13, 14], []⟩, ⟨29, 0, [2, 4, 12, 13, 14], []⟩] 66 = some rc_tattrs := by kernel_rfl
noncomputable def rc_tattrs1 : RFn := ⟨2, 22, .regD (.take ⟨some 5, .load false 1 (.t 2), none, false⟩ [] (.take ⟨some 6, .load false 1 (.t 2), none, false⟩ [] (.take ⟨some 7, .nilck (.t 6), none, false⟩ [] (.take ⟨some 8, .faddr 0 (.t 7), none, false⟩ [] (.take ⟨some 9, .faddr 6 (.t 8), none, false⟩ [] (.take ⟨some 10, .load false 1 (.t 9), none, false⟩ [] (.take ⟨some 11, .mov (.t 0), none, false⟩ [] (.take ⟨some 12, .bin .shl (.c (.int .u16 15)) (.t 11), none, false⟩ [] (.take ⟨some 13, .bin .andNot (.t 10) (.t 12), none, false⟩ [] (.take ⟨some 14, .mov (.t 1), none, false⟩ [] (.take ⟨some 15, .conv (.i2i .u16) (.t 14), none, false⟩ [] (.take ⟨some 16, .mov (.t 0), none, false⟩ [] (.take ⟨some 17, .bin .shl (.t 15) (.t 16), none, false⟩ [] (.take ⟨some 18, .bin .or (.t 13) (.t 17), none, false⟩ [] (.take ⟨some 19, .nilck (.t 5), none, false⟩ [] (.take ⟨some 20, .faddr 0 (.t 19), none, false⟩ [] (.take ⟨some 21, .faddr 6 (.t 20), none, false⟩ [] (.op ⟨none, .store 1 (.t 21) (.t 18), none, false⟩ .done)))))))))))))))))) 0 [], []⟩
theorem rc_tattrs1_ok : compFn PG.P [⟨0, 0, [], []⟩] 81 = some rc_tattrs1 := by kernel_rfl
theorem ofInt16 {a : Int} (h : 0 ≤ a ∧ a ≤ 65535) : (BitVec.ofInt IntKind.u16.bits a).toNat = a.toNat := by
  have := ofInt_toNat IntKind.u16.bits a
  rw [Int.emod_eq_of_lt h.1 (by show a < 2 ^ 16; omega)] at this
  omega
theorem wU16 {n : Int} (h0 : 0 ≤ n) (h1 : n ≤ 65535) : IntKind.u16.wrap n = n := by
  unfold IntKind.wrap
  simp only [show IntKind.u16.bits = 16 from rfl, show IntKind.u16.signed = false from rfl]
  simp
  omega
theorem or16 {a b : Int} (ha : 0 ≤ a ∧ a ≤ 65535) (hb : 0 ≤ b ∧ b ≤ 65535) : IntKind.u16.wrap ((BitVec.ofInt IntKind.u16.bits a ||| BitVec.ofInt IntKind.u16.bits b).toNat : Nat) = bitN a b := by
  have := bitN_in ha hb
  rw [BitVec.toNat_or, ofInt16 ha, ofInt16 hb]
  exact wU16 this.1 this.2
theorem clr16 {a : Int} (m : Nat) (hm : (~~~ BitVec.ofInt IntKind.u16.bits (m : Int)).toNat = 65535 ^^^ m) (ha : 0 ≤ a ∧ a ≤ 65535) : IntKind.u16.wrap ((BitVec.ofInt IntKind.u16.bits a &&& ~~~ BitVec.ofInt IntKind.u16.bits (m : Int)).toNat : Nat) = clrN a m := by
  have := clrN_in (m := m) ha
  rw [BitVec.toNat_and, ofInt16 ha, hm]
  exact wU16 this.1 this.2
theorem bitN_0 {a : Int} (ha : 0 ≤ a ∧ a ≤ 65535) : bitN a 0 = a := by unfold bitN; simp; omega
def colF (s : Sc) (at' c : Int) : Sc := { s with attr := if at' = 4 then bitN (clrN s.attr 0xf0) (c * 16) else bitN (clrN s.attr 0xf00) (c * 256) }
theorem tattrs1_K {T0 T : Objs} {o b : Nat} {s : Sc} {p : Pa} {a c : Int} {K : DV → Objs → Prop} (hs : 0 ≤ s.attr ∧ s.attr ≤ 65535) (hc : 0 ≤ c ∧ c ≤ 8) (h : TermAt T0 T o s p) (ha : a = 4 ∨ a = 8) (hb : T[b]? = some (some (.box [.ptr o 0 0])))
    (hK : ∀ T', T.length ≤ T'.length → Keep T T' [o] → TermAt T0 T' o (colF s a c) p → K (.tup []) T') : CallK PG 81 [.int .i64 a, .int .i64 c, .ptr b 0 0] T K := by
  obtain ⟨k0, q, tq, od, m, pr, d1, d2, d3, pa, t⟩ := h
  have hbo := t.box
  unfold tmBox at hbo
  have w4 : IntKind.u16.wrap (15 * 2 ^ min 4 IntKind.u16.bits) = 240 := by decide
  have w8 : IntKind.u16.wrap (15 * 2 ^ min 8 IntKind.u16.bits) = 3840 := by decide
  have c4 := clr16 (a := s.attr) 240 (by decide) hs
  have c8 := clr16 (a := s.attr) 3840 (by decide) hs
  have wc : IntKind.u16.wrap c = c := wU16 hc.1 (by omega)
  have s4 : IntKind.u16.wrap (c * 2 ^ min 4 IntKind.u16.bits) = c * 16 := wU16 (by show 0 ≤ c * 16; omega) (by show c * 16 ≤ 65535; omega)
  have s8 : IntKind.u16.wrap (c * 2 ^ min 8 IntKind.u16.bits) = c * 256 := wU16 (by show 0 ≤ c * 256; omega) (by show c * 256 ≤ 65535; omega)
  have o4 := or16 (clrN_in (m := 240) hs) (show 0 ≤ c * 16 ∧ c * 16 ≤ 65535 by omega)
  have o8 := or16 (clrN_in (m := 3840) hs) (show 0 ≤ c * 256 ∧ c * 256 ≤ 65535 by omega)
  have c4' : IntKind.u16.wrap ((BitVec.ofInt IntKind.u16.bits s.attr &&& ~~~ BitVec.ofInt IntKind.u16.bits 240).toNat : Nat) = clrN s.attr 240 := c4
  have c8' : IntKind.u16.wrap ((BitVec.ofInt IntKind.u16.bits s.attr &&& ~~~ BitVec.ofInt IntKind.u16.bits 3840).toNat : Nat) = clrN s.attr 3840 := c8
  rcases ha with rfl | rfl
  all_goals
    refine CallK.of_fn FOk.nil rc_tattrs1_ok (by simp [rc_tattrs1]) ?_
    unfold rc_tattrs1
    dsimp only
    simp -implicitDefEqProofs -dsimp only [tb_at, tb_all hb, tb_all hbo, show ¬ (4 : Int) < 0 by decide, show ¬ (8 : Int) < 0 by decide, show (4 : Int).toNat = 4 from rfl, show (8 : Int).toNat = 8 from rfl, w4, w8, wc, s4, s8, c4', c8', o4, o8, vcS, ↓vcP1, ↓vcP2, ↓reduceIte, reduceCtorEq, Nat.reduceLT, Nat.reduceLeDiff, Nat.reduceEqDiff, Nat.reduceAdd, Nat.reduceSub, Nat.reduceMul, Int.reduceLT, Int.reduceLE, Int.reduceEq, Int.reduceToNat, Int.reduceAdd, Int.reduceSub, Int.reduceNeg, List.reduceReplicate, Nat.reducePow, Int.reduceMul]
    exact ⟨by simp, hK _ (by simp) (Keep.set T o _) (.mk (k0.put t.no _) pa (t.put rfl rfl rfl rfl rfl))⟩
theorem lookF_col {a k : Int} (s : Sc) (hs : s.attr = a) : (30 ≤ k ∧ k ≤ 37 → (colF s 4 (k - 29)).attr = lookF a k) ∧ (40 ≤ k ∧ k ≤ 47 → (colF s 8 (k - 39)).attr = lookF a k) := by
  subst hs
  refine ⟨fun h => ?_, fun h => ?_⟩
  · unfold lookF
    rw [if_neg (by omega), if_neg (by omega), if_neg (by omega), if_neg (by omega), if_neg (by omega), if_neg (by omega), if_neg (by omega), if_pos h]
    rfl
  · unfold lookF
    rw [if_neg (by omega), if_neg (by omega), if_neg (by omega), if_neg (by omega), if_neg (by omega), if_neg (by omega), if_neg (by omega), if_neg (by omega), if_neg (by omega), if_pos h]
    rfl
theorem looks_step {ps : List Int} {a : Int} {i : Nat} (hi : i < ps.length) : (ps.take (i + 1)).foldl lookF a = lookF ((ps.take i).foldl lookF a) (ps.getD i 0) := by
  rw [List.take_succ_eq_append_getElem hi, List.foldl_append]
  simp [List.getD_eq_getElem?_getD, hi]
theorem tattrs_l0 {T0 T : Objs} {o b : Nat} {s : Sc} {p : Pa} {sz : Nat} {sk : SK} {ps : List Int} {K : Objs → Prop} {Q : Exit → St → Prop} (hs : sz = 1 ∨ ps = []) (hi64 : ∀ k ∈ ps, 0 ≤ k ∧ k ≤ 65535) (hl : ps.length ≤ 1000000) (ok : ScOk s) (hb : T[b]? = some (some (.box [.ptr o 0 0]))) (hbo : b ≠ o) (h : TermAt T0 T o s p)
    (hK : ∀ T', T.length ≤ T'.length → TermAt T0 T' o { s with attr := ps.foldl lookF s.attr } p → K T') (hQ : ∀ env T', K T' → Q .normal ⟨env, T'⟩) :
    LoopWp PG 130 rc_tattrs_l0 (inBlk 0 Q) ⟨[(2, .ptr b 0 0), (4, .wrap (.clo 81) [.ptr b 0 0]), (12, .sl sz (intRows .i64 ps) sk), (13, .int .i64 ps.length), (14, .int .i64 0)], T⟩ := by
  refine LoopWp.inv FOk.nil (S := fun σ : Nat × Objs => ⟨[(2, .ptr b 0 0), (4, .wrap (.clo 81) [.ptr b 0 0]), (12, .sl sz (intRows .i64 ps) sk), (13, .int .i64 ps.length), (14, .int .i64 σ.1)], σ.2⟩)
    (I := fun σ => σ.1 ≤ ps.length ∧ T.length ≤ σ.2.length ∧ σ.2[b]? = some (some (.box [.ptr o 0 0])) ∧ TermAt T0 σ.2 o { s with attr := (ps.take σ.1).foldl lookF s.attr } p) (μ := fun σ => ps.length - σ.1) (0, T) ⟨by simp, Nat.le_refl _, hb, h⟩ ?_ ?_
  · simp -implicitDefEqProofs -dsimp only [wkT_self, vcS, ↓vcP1, ↓vcP2, ↓reduceIte, reduceCtorEq, Nat.reduceLT, Nat.reduceLeDiff, Nat.reduceEqDiff, Nat.reduceAdd, Nat.reduceSub, Nat.reduceMul, Int.reduceLT, Int.reduceLE, Int.reduceEq, Int.reduceToNat, Int.reduceAdd, Int.reduceSub, Int.reduceNeg, List.reduceReplicate, Nat.reducePow, Int.reduceMul]
  · intro ⟨i, A⟩ ⟨h1, h2, h3, h4⟩
    dsimp only at h1 h2 h3 h4 ⊢
    have ha0 := looks_in (ps := ps.take i) ok.at'
    have hst := fun hi => looks_step (a := s.attr) (i := i) (ps := ps) hi
    have hfin : ps.length ≤ i → (ps.take i).foldl lookF s.attr = ps.foldl lookF s.attr := fun hh => by rw [List.take_of_length_le hh]
    generalize (ps.take i).foldl lookF s.attr = a at *
    obtain ⟨k1, q1, tq1, od1, m1, pr1, f1, f2, f3, pa1, t1⟩ := id h4
    have hb1 := t1.box
    unfold tmBox at hb1
    dsimp only at hb1
    have w1 : IntKind.i64.wrap ((i : Int) + 1) = ((i + 1 : Nat) : Int) := by rw [wI64 (by omega) (by omega)]; omega
    have hb77 : hasBody PG.P 81 = true := by kernel_rfl
    rcases Nat.lt_or_ge i ps.length with hlt | hge
    · have hii : (i : Int) < ps.length := by omega
      have i0 : (0 : Int) ≤ i := by omega
      have hsz : sz = 1 := by rcases hs with h | h; exact h; subst h; simp at hlt
      subst hsz
      have hg : (intRows .i64 ps)[i]? = some [.int .i64 (ps.getD i 0)] := by simp [intRows, hlt]
      have hlr : (intRows .i64 ps).length = ps.length := by simp [intRows]
      have hr : 0 ≤ ps.getD i 0 ∧ ps.getD i 0 ≤ 65535 := hi64 _ (by simp [List.getD_eq_getElem?_getD, hlt])
      have hst := hst hlt
      generalize ps.getD i 0 = k at *
      have done : ∀ {A' : Objs} {v : Int}, v = lookF a k → A.length ≤ A'.length → A'[b]? = some (some (.box [.ptr o 0 0])) → TermAt T0 A' o { s with attr := v } p →
          ∃ s' : Nat × Objs, (((i + 1 : Nat) : Int) = (s'.1 : Int) ∧ objsWk A' s'.2) ∧ (s'.1 ≤ ps.length ∧ T.length ≤ s'.2.length ∧ s'.2[b]? = some (some (.box [.ptr o 0 0])) ∧ TermAt T0 s'.2 o { s with attr := (ps.take s'.1).foldl lookF s.attr } p) ∧ ps.length - s'.1 < ps.length - i := fun hv hl hbb ht =>
        ⟨(i + 1, _), ⟨rfl, objsWk_refl _⟩, ⟨hlt, Nat.le_trans h2 hl, hbb, by dsimp only; rw [hst, ← hv]; exact ht⟩, by dsimp only; omega⟩
      have put : ∀ {v : Int}, v = lookF a k → ∃ s' : Nat × Objs, (((i + 1 : Nat) : Int) = (s'.1 : Int) ∧ objsWk (A.set o (some (.box (tmBox { s with attr := v } q1 tq1 od1 m1 pr1 f1 f2 f3)))) s'.2) ∧ (s'.1 ≤ ps.length ∧ T.length ≤ s'.2.length ∧ s'.2[b]? = some (some (.box [.ptr o 0 0])) ∧ TermAt T0 s'.2 o { s with attr := (ps.take s'.1).foldl lookF s.attr } p) ∧ ps.length - s'.1 < ps.length - i := fun hv =>
        done hv (by simp) (tb_ne h3 _ hbo) (.mk (k1.put t1.no _) pa1 (t1.put rfl rfl rfl rfl rfl))
      have o1 := or16 ha0 (show 0 ≤ (1 : Int) ∧ (1 : Int) ≤ 65535 by omega)
      have o2 := or16 ha0 (show 0 ≤ (2 : Int) ∧ (2 : Int) ≤ 65535 by omega)
      have o4 := or16 ha0 (show 0 ≤ (4 : Int) ∧ (4 : Int) ≤ 65535 by omega)
      have c1 : IntKind.u16.wrap ((BitVec.ofInt IntKind.u16.bits a &&& ~~~ BitVec.ofInt IntKind.u16.bits 1).toNat : Nat) = clrN a 1 := clr16 1 (by decide) ha0
      have c2 : IntKind.u16.wrap ((BitVec.ofInt IntKind.u16.bits a &&& ~~~ BitVec.ofInt IntKind.u16.bits 2).toNat : Nat) = clrN a 2 := clr16 2 (by decide) ha0
      have c4 : IntKind.u16.wrap ((BitVec.ofInt IntKind.u16.bits a &&& ~~~ BitVec.ofInt IntKind.u16.bits 4).toNat : Nat) = clrN a 4 := clr16 4 (by decide) ha0
      have wk1 : IntKind.i64.wrap (k - 29) = k - 29 := wI64 (by omega) (by omega)
      have wk2 : IntKind.i64.wrap (k - 39) = k - 39 := wI64 (by omega) (by omega)
      have lc := lookF_col (k := k) { s with attr := a } rfl
      unfold rc_tattrs_l0
      rcases (show (k = 0 ∨ k = 1 ∨ k = 4 ∨ k = 7 ∨ k = 22 ∨ k = 24 ∨ k = 27 ∨ k = 39 ∨ k = 49) ∨ (30 ≤ k ∧ k ≤ 37) ∨ (40 ≤ k ∧ k ≤ 47) ∨ (k ≠ 0 ∧ k ≠ 1 ∧ k ≠ 4 ∧ k ≠ 7 ∧ k ≠ 22 ∧ k ≠ 24 ∧ k ≠ 27 ∧ ¬ (30 ≤ k ∧ k ≤ 37) ∧ k ≠ 39 ∧ ¬ (40 ≤ k ∧ k ≤ 47) ∧ k ≠ 49) by omega) with hk | hk | hk | hk
      · rcases hk with rfl | rfl | rfl | rfl | rfl | rfl | rfl | rfl | rfl
        all_goals
          simp -implicitDefEqProofs -dsimp only [tb_at, tb_all hb1, tb_all h3, hii, i0, hg, hlr, w1, o1, o2, o4, c1, c2, c4, hb77, stV_calld, calldV_clo, wkT_self, vcS, ↓vcP1, ↓vcP2, ↓reduceIte, reduceCtorEq, Nat.reduceLT, Nat.reduceLeDiff, Nat.reduceEqDiff, Nat.reduceAdd, Nat.reduceSub, Nat.reduceMul, Int.reduceLT, Int.reduceLE, Int.reduceEq, Int.reduceToNat, Int.reduceAdd, Int.reduceSub, Int.reduceNeg, List.reduceReplicate, Nat.reducePow, Int.reduceMul]
          first
            | exact put rfl
            | (refine tattrs1_K (T0 := T0) (s := { s with attr := a }) (p := p) ha0 (by omega) h4 (by omega) h3 fun T' l kk t' => ?_
               simp -implicitDefEqProofs -dsimp only [tb_at, w1, wkT_self, vcS, ↓vcP1, ↓vcP2, ↓reduceIte, reduceCtorEq, Nat.reduceLT, Nat.reduceLeDiff, Nat.reduceEqDiff, Nat.reduceAdd, Nat.reduceSub, Nat.reduceMul, Int.reduceLT, Int.reduceLE, Int.reduceEq, Int.reduceToNat, Int.reduceAdd, Int.reduceSub, Int.reduceNeg, List.reduceReplicate, Nat.reducePow, Int.reduceMul]
               exact done (by show bitN _ _ = _; simp only [Int.zero_mul]; rw [bitN_0 (clrN_in ha0)]; rfl) l (kk.at h3 (by simpa using hbo)) t')
            | skip
      · have n0 : ¬ k = 0 := by omega
        have n1 : ¬ k = 1 := by omega
        have n4 : ¬ k = 4 := by omega
        have n7 : ¬ k = 7 := by omega
        have n22 : ¬ k = 22 := by omega
        have n24 : ¬ k = 24 := by omega
        have n27 : ¬ k = 27 := by omega
        simp -implicitDefEqProofs -dsimp only [tb_at, tb_all hb1, tb_all h3, hii, i0, hg, hlr, w1, eq_false n0, eq_false n1, eq_false n4, eq_false n7, eq_false n22, eq_false n24, eq_false n27, hk.1, hk.2, wk1, hb77, stV_calld, calldV_clo, wkT_self, vcS, ↓vcP1, ↓vcP2, ↓reduceIte, reduceCtorEq, Nat.reduceLT, Nat.reduceLeDiff, Nat.reduceEqDiff, Nat.reduceAdd, Nat.reduceSub, Nat.reduceMul, Int.reduceLT, Int.reduceLE, Int.reduceEq, Int.reduceToNat, Int.reduceAdd, Int.reduceSub, Int.reduceNeg, List.reduceReplicate, Nat.reducePow, Int.reduceMul]
        refine tattrs1_K (T0 := T0) (s := { s with attr := a }) (p := p) ha0 (by omega) h4 (.inl rfl) h3 fun T' l kk t' => ?_
        simp -implicitDefEqProofs -dsimp only [tb_at, w1, wkT_self, vcS, ↓vcP1, ↓vcP2, ↓reduceIte, reduceCtorEq, Nat.reduceLT, Nat.reduceLeDiff, Nat.reduceEqDiff, Nat.reduceAdd, Nat.reduceSub, Nat.reduceMul, Int.reduceLT, Int.reduceLE, Int.reduceEq, Int.reduceToNat, Int.reduceAdd, Int.reduceSub, Int.reduceNeg, List.reduceReplicate, Nat.reducePow, Int.reduceMul]
        exact done (lc.1 hk) l (kk.at h3 (by simpa using hbo)) t'
      · have n0 : ¬ k = 0 := by omega
        have n1 : ¬ k = 1 := by omega
        have n4 : ¬ k = 4 := by omega
        have n7 : ¬ k = 7 := by omega
        have n22 : ¬ k = 22 := by omega
        have n24 : ¬ k = 24 := by omega
        have n27 : ¬ k = 27 := by omega
        have n37 : ¬ k ≤ 37 := by omega
        have n30 : 30 ≤ k := by omega
        have n39 : ¬ k = 39 := by omega
        simp -implicitDefEqProofs -dsimp only [tb_at, tb_all hb1, tb_all h3, hii, i0, hg, hlr, w1, eq_false n0, eq_false n1, eq_false n4, eq_false n7, eq_false n22, eq_false n24, eq_false n27, n30, n37, eq_false n39, hk.1, hk.2, wk2, hb77, stV_calld, calldV_clo, wkT_self, vcS, ↓vcP1, ↓vcP2, ↓reduceIte, reduceCtorEq, Nat.reduceLT, Nat.reduceLeDiff, Nat.reduceEqDiff, Nat.reduceAdd, Nat.reduceSub, Nat.reduceMul, Int.reduceLT, Int.reduceLE, Int.reduceEq, Int.reduceToNat, Int.reduceAdd, Int.reduceSub, Int.reduceNeg, List.reduceReplicate, Nat.reducePow, Int.reduceMul]
        refine tattrs1_K (T0 := T0) (s := { s with attr := a }) (p := p) ha0 (by omega) h4 (.inr rfl) h3 fun T' l kk t' => ?_
        simp -implicitDefEqProofs -dsimp only [tb_at, w1, wkT_self, vcS, ↓vcP1, ↓vcP2, ↓reduceIte, reduceCtorEq, Nat.reduceLT, Nat.reduceLeDiff, Nat.reduceEqDiff, Nat.reduceAdd, Nat.reduceSub, Nat.reduceMul, Int.reduceLT, Int.reduceLE, Int.reduceEq, Int.reduceToNat, Int.reduceAdd, Int.reduceSub, Int.reduceNeg, List.reduceReplicate, Nat.reducePow, Int.reduceMul]
        exact done (lc.2 hk) l (kk.at h3 (by simpa using hbo)) t'
      · obtain ⟨n0, n1, n4, n7, n22, n24, n27, n30, n39, n40, n49⟩ := hk
        have e : lookF a k = a := by unfold lookF; rw [if_neg n0, if_neg n1, if_neg n4, if_neg n7, if_neg n22, if_neg n24, if_neg n27, if_neg n30, if_neg n39, if_neg n40, if_neg n49]
        have d3 : ∀ x y : Bool, (x && y) = decide (x = true ∧ y = true) := fun x y => by simp
        rcases Decidable.em (30 ≤ k) with a1 | a1
        · have a2 : ¬ k ≤ 37 := fun h => n30 ⟨a1, h⟩
          rcases Decidable.em (40 ≤ k) with b1 | b1
          · have b2 : ¬ k ≤ 47 := fun h => n40 ⟨b1, h⟩
            simp -implicitDefEqProofs -dsimp only [tb_at, tb_all hb1, tb_all h3, hii, i0, hg, hlr, w1, eq_false n0, eq_false n1, eq_false n4, eq_false n7, eq_false n22, eq_false n24, eq_false n27, a1, a2, eq_false n39, b1, b2, eq_false n49, wkT_self, vcS, ↓vcP1, ↓vcP2, ↓reduceIte, reduceCtorEq, Nat.reduceLT, Nat.reduceLeDiff, Nat.reduceEqDiff, Nat.reduceAdd, Nat.reduceSub, Nat.reduceMul, Int.reduceLT, Int.reduceLE, Int.reduceEq, Int.reduceToNat, Int.reduceAdd, Int.reduceSub, Int.reduceNeg, List.reduceReplicate, Nat.reducePow, Int.reduceMul]
            exact done e.symm (Nat.le_refl _) h3 h4
          · simp -implicitDefEqProofs -dsimp only [tb_at, tb_all hb1, tb_all h3, hii, i0, hg, hlr, w1, eq_false n0, eq_false n1, eq_false n4, eq_false n7, eq_false n22, eq_false n24, eq_false n27, a1, a2, eq_false n39, b1, eq_false n49, wkT_self, vcS, ↓vcP1, ↓vcP2, ↓reduceIte, reduceCtorEq, Nat.reduceLT, Nat.reduceLeDiff, Nat.reduceEqDiff, Nat.reduceAdd, Nat.reduceSub, Nat.reduceMul, Int.reduceLT, Int.reduceLE, Int.reduceEq, Int.reduceToNat, Int.reduceAdd, Int.reduceSub, Int.reduceNeg, List.reduceReplicate, Nat.reducePow, Int.reduceMul]
            exact done e.symm (Nat.le_refl _) h3 h4
        · have b1 : ¬ 40 ≤ k := by omega
          simp -implicitDefEqProofs -dsimp only [tb_at, tb_all hb1, tb_all h3, hii, i0, hg, hlr, w1, eq_false n0, eq_false n1, eq_false n4, eq_false n7, eq_false n22, eq_false n24, eq_false n27, a1, eq_false n39, b1, eq_false n49, wkT_self, vcS, ↓vcP1, ↓vcP2, ↓reduceIte, reduceCtorEq, Nat.reduceLT, Nat.reduceLeDiff, Nat.reduceEqDiff, Nat.reduceAdd, Nat.reduceSub, Nat.reduceMul, Int.reduceLT, Int.reduceLE, Int.reduceEq, Int.reduceToNat, Int.reduceAdd, Int.reduceSub, Int.reduceNeg, List.reduceReplicate, Nat.reducePow, Int.reduceMul]
          exact done e.symm (Nat.le_refl _) h3 h4
    · have hii : ¬ (i : Int) < ps.length := by omega
      obtain rfl : i = ps.length := by omega
      unfold rc_tattrs_l0
      simp -implicitDefEqProofs -dsimp only [tb_at, hii, wkT_self, vcS, ↓vcP1, ↓vcP2, ↓reduceIte, reduceCtorEq, Nat.reduceLT, Nat.reduceLeDiff, Nat.reduceEqDiff, Nat.reduceAdd, Nat.reduceSub, Nat.reduceMul, Int.reduceLT, Int.reduceLE, Int.reduceEq, Int.reduceToNat, Int.reduceAdd, Int.reduceSub, Int.reduceNeg, List.reduceReplicate, Nat.reducePow, Int.reduceMul]
      rw [hfin (Nat.le_refl _)] at h4
      exact hQ _ _ (hK _ h2 h4)
theorem tattrs_K {T0 T : Objs} {o : Nat} {s : Sc} {p : Pa} {sz : Nat} {sk : SK} {ps : List Int} {K : DV → Objs → Prop} (hs : sz = 1 ∨ ps = []) (hi64 : ∀ k ∈ ps, 0 ≤ k ∧ k ≤ 65535) (hl : ps.length ≤ 1000000) (ok : ScOk s) (h : TermAt T0 T o s p)
    (hK : ∀ T', T.length ≤ T'.length → TermAt T0 T' o { s with attr := if ps = [] then 0 else ps.foldl lookF s.attr } p → K (.tup []) T') : CallK PG 66 [.ptr o 0 0, .sl sz (intRows .i64 ps) sk] T K := by
  refine CallK.of_fn FOk.nil rc_tattrs_ok (by simp [rc_tattrs]) ?_
  unfold rc_tattrs
  dsimp only
  simp -implicitDefEqProofs -dsimp only [tb_at, vcS, ↓vcP1, ↓vcP2, ↓reduceIte, reduceCtorEq, Nat.reduceLT, Nat.reduceLeDiff, Nat.reduceEqDiff, Nat.reduceAdd, Nat.reduceSub, Nat.reduceMul, Int.reduceLT, Int.reduceLE, Int.reduceEq, Int.reduceToNat, Int.reduceAdd, Int.reduceSub, Int.reduceNeg, List.reduceReplicate, Nat.reducePow, Int.reduceMul]
  have ho : o < T.length := by
    obtain ⟨k0, q, tq, od, m, pr, d1, d2, d3, pa, t⟩ := h
    exact tb_lt t.box
  refine ⟨fun h0 => ?_, fun h0 => ?_⟩
  · have e : ps = [] := List.length_eq_zero_iff.1 (by omega)
    subst e
    rw [if_pos rfl] at hK
    refine LoopWp.inv FOk.nil (S := fun σ : Nat × Objs => ⟨[(2, .ptr T.length 0 0), (4, .wrap (.clo 81) [.ptr T.length 0 0]), (12, .own (T.length + 1) 0 1), (13, .int .i64 1), (14, .int .i64 σ.1)], σ.2⟩)
      (I := fun σ => σ.1 ≤ 1 ∧ T.length ≤ σ.2.length ∧ σ.2[T.length]? = some (some (.box [.ptr o 0 0])) ∧ σ.2[T.length + 1]? = some (some (.arr 1 (intRows .i64 [0]))) ∧ TermAt T0 σ.2 o { s with attr := if σ.1 = 0 then s.attr else 0 } p) (μ := fun σ => 1 - σ.1) (0, T ++ [some (.box [.ptr o 0 0]), some (.arr 1 (intRows .i64 [0]))]) ⟨by simp, by simp, tb_get0 _ _ _, tb_geti _ _ 1, h.keep (Keep.app _ _ _)⟩ ?_ ?_
    · simp -implicitDefEqProofs -dsimp only [wkT_self, vcS, ↓vcP1, ↓vcP2, ↓reduceIte, reduceCtorEq, Nat.reduceLT, Nat.reduceLeDiff, Nat.reduceEqDiff, Nat.reduceAdd, Nat.reduceSub, Nat.reduceMul, Int.reduceLT, Int.reduceLE, Int.reduceEq, Int.reduceToNat, Int.reduceAdd, Int.reduceSub, Int.reduceNeg, List.reduceReplicate, Nat.reducePow, Int.reduceMul]
    · intro ⟨i, A⟩ ⟨h1, h2, h3, h5, h4⟩
      dsimp only at h1 h2 h3 h4 h5 ⊢
      obtain ⟨k1, q1, tq1, od1, m1, pr1, f1, f2, f3, pa1, t1⟩ := id h4
      have hb1 := t1.box
      unfold tmBox at hb1
      dsimp only at hb1
      unfold rc_tattrs_l0
      have hg : (intRows .i64 [0])[0]? = some [.int .i64 0] := rfl
      rcases Nat.lt_or_ge i 1 with hlt | hge
      · obtain rfl : i = 0 := by omega
        have e01 : ((0 : Nat) : Int) < 1 := by omega
        have e02 : (0 : Int) ≤ ((0 : Nat) : Int) := by omega
        have w1 : IntKind.i64.wrap (((0 : Nat) : Int) + 1) = ((1 : Nat) : Int) := by decide
        simp -implicitDefEqProofs -dsimp only [tb_at, tb_all hb1, tb_all h3, tb_all h5, e01, e02, hg, w1, Int.toNat_natCast, Nat.zero_add, Nat.add_zero, wkT_self, vcS, ↓vcP1, ↓vcP2, ↓reduceIte, reduceCtorEq, Nat.reduceLT, Nat.reduceLeDiff, Nat.reduceEqDiff, Nat.reduceAdd, Nat.reduceSub, Nat.reduceMul, Int.reduceLT, Int.reduceLE, Int.reduceEq, Int.reduceToNat, Int.reduceAdd, Int.reduceSub, Int.reduceNeg, List.reduceReplicate, Nat.reducePow, Int.reduceMul]
        refine ⟨(1, A.set o (some (.box (tmBox { s with attr := 0 } q1 tq1 od1 m1 pr1 f1 f2 f3)))), ⟨rfl, objsWk_refl _⟩, ⟨by simp, by simpa using h2, tb_ne h3 _ (by omega), tb_ne h5 _ (by omega), .mk (k1.put t1.no _) pa1 (t1.put rfl rfl rfl rfl rfl)⟩, by simp⟩
      · obtain rfl : i = 1 := by omega
        have e01 : ¬ ((1 : Nat) : Int) < 1 := by omega
        simp -implicitDefEqProofs -dsimp only [tb_at, e01, wkT_self, vcS, ↓vcP1, ↓vcP2, ↓reduceIte, reduceCtorEq, Nat.reduceLT, Nat.reduceLeDiff, Nat.reduceEqDiff, Nat.reduceAdd, Nat.reduceSub, Nat.reduceMul, Int.reduceLT, Int.reduceLE, Int.reduceEq, Int.reduceToNat, Int.reduceAdd, Int.reduceSub, Int.reduceNeg, List.reduceReplicate, Nat.reducePow, Int.reduceMul]
        exact ⟨h2, hK _ h2 h4⟩
  · have e : ¬ ps = [] := fun e => h0 (by rw [e]; rfl)
    rw [if_neg e] at hK
    refine tattrs_l0 (T := T ++ [some (.box [.ptr o 0 0])]) (K := fun T' => T.length ≤ T'.length ∧ K (.tup []) T') hs hi64 hl ok (tb_get0 _ _ _) (by omega) (h.keep (Keep.app _ _ _)) (fun T' l t' => ⟨by simp at l; omega, hK T' (by simp at l; omega) t'⟩) ?_
    exact fun _ _ h => h
end Go.Proofs.YtjmnbpilnneonaaDoor
