/- Texts P23 in one. -/
import Derived.Test.YtjmnbpilnneonaaDoorM5
import Derived.Test.YtjmnbpilnneonaaDoorM3
set_option linter.unusedVariables false
set_option linter.unusedSimpArgs false
set_option maxRecDepth 10000
namespace Go.Proofs.YtjmnbpilnneonaaDoor
open Go.RowKit
noncomputable def rc_vcopied : RFn := ⟨1, 16, .seq (.reg [⟨some 1, .box 5 (.t 0), none, false⟩, ⟨some 2, .alloc [.int .i64 0, .int .u8 0, .sl 0 [] .nil, .sl 0 [] .nil, .sl 0 [] .nil], none, false⟩] 0 [1, 2]) (.seq (.regD (.take ⟨some 3, .faddr 2 (.t 1), none, false⟩ [] (.take ⟨some 4, .load false 1 (.t 3), none, false⟩ [] (.take ⟨some 6, .faddr 3 (.t 1), none, false⟩ [] (.take ⟨some 7, .load false 1 (.t 6), none, false⟩ [] (.take ⟨some 9, .faddr 4 (.t 1), none, false⟩ [] (.take ⟨some 10, .load false 1 (.t 9), none, false⟩ [] (.op ⟨some 5, .call 26 [.t 4], none, false⟩ (.alt (.op ⟨some 8, .call 27 [.t 7], none, false⟩ (.alt (.mid ⟨some 11, .call 27 [.t 10], none, true⟩ (.take ⟨some 12, .faddr 2 (.t 1), none, false⟩ [] (.op ⟨none, .store 1 (.t 12) (.t 5), none, false⟩ (.take ⟨some 13, .faddr 3 (.t 1), none, false⟩ [] (.op ⟨none, .store 1 (.t 13) (.t 8), none, false⟩ (.take ⟨some 14, .faddr 4 (.t 1), none, false⟩ [] (.op ⟨none, .store 1 (.t 14) (.t 11), none, false⟩ .done))))))) (.op ⟨some 12, .faddr 2 (.t 1), none, false⟩ (.mid ⟨some 11, .call 27 [.t 10], none, true⟩ (.op ⟨none, .store 1 (.t 12) (.t 5), none, false⟩ (.take ⟨some 13, .faddr 3 (.t 1), none, false⟩ [] (.op ⟨none, .store 1 (.t 13) (.t 8), none, false⟩ (.take ⟨some 14, .faddr 4 (.t 1), none, false⟩ [] (.op ⟨none, .store 1 (.t 14) (.t 11), none, false⟩ .done))))))))) (.op ⟨some 12, .faddr 2 (.t 1), none, false⟩ (.op ⟨some 8, .call 27 [.t 7], none, false⟩ (.mid ⟨some 11, .call 27 [.t 10], none, true⟩ (.op ⟨none, .store 1 (.t 12) (.t 5), none, false⟩ (.take ⟨some 13, .faddr 3 (.t 1), none, false⟩ [] (.op ⟨none, .store 1 (.t 13) (.t 8), none, false⟩ (.take ⟨some 14, .faddr 4 (.t 1), none, false⟩ [] (.op ⟨none, .store 1 (.t 14) (.t 11), none, false⟩ .done)))))))))))))))) 0 [1, 2]) (.seq (.reg [⟨some 15, .load true 5 (.t 1), none, false⟩, ⟨none, .store 5 (.t 2) (.t 15), none, false⟩] 0 [2]) .ret)), [.c 2 true 5]⟩
theorem rc_vcopied_ok : compFn PG.P [⟨0, 0, [1, 2], []⟩, ⟨1, 0, [1, 2], [11]⟩, ⟨2, 0, [2], []⟩] 28 = some rc_vcopied := by kernel_rfl
theorem vcopied_P {m pr : Int} {p i u : DV} (hp : isInts .i64 p) (hi : isInts .u8 i) (hu : isInts .u8 u) (hl : (intsD p).length ≤ 1000000 ∧ (intsD i).length ≤ 1000000 ∧ (intsD u).length ≤ 1000000) :
    PCalls PG 28 [.agg [.int .i64 m, .int .u8 pr, p, i, u]] fun n r os => r = .agg [.int .i64 m, .int .u8 pr, .own n 0 (intsD p).length, .own (n + 1) 0 (intsD i).length, .sl 1 (intRows .u8 (intsD u)) .any] ∧
      os = [some (.arr 1 (intRows .i64 (intsD p))), some (.arr 1 (intRows .u8 (intsD i)))] := by
  obtain ⟨s1, k1, e1, h1, g1⟩ := isInts_inv hp
  obtain ⟨s2, k2, e2, h2, g2⟩ := isInts_inv hi
  obtain ⟨s3, k3, e3, h3, g3⟩ := isInts_inv hu
  rw [e1, e2, e3]
  simp only [intsD_sl]
  generalize intsD p = P at *
  generalize intsD i = I at *
  generalize intsD u = U at *
  refine PCalls.by_fn (res := fun n => (.agg [.int .i64 m, .int .u8 pr, .own n 0 P.length, .own (n + 1) 0 I.length, .sl 1 (intRows .u8 U) .any], [some (.arr 1 (intRows .i64 P)), some (.arr 1 (intRows .u8 I))])) T20_ok rc_vcopied_ok (by simp [rc_vcopied]) fun n => ?_
  unfold rc_vcopied
  dsimp only
  have e1 : isInts .i64 (.sl s1 (intRows .i64 P) k1) := isInts_mk h1 g1
  have e2 : isInts .u8 (.sl s2 (intRows .u8 I) k2) := isInts_mk h2 g2
  have e3 : isInts .u8 (.sl s3 (intRows .u8 U) k3) := isInts_mk h3 g3
  simp -implicitDefEqProofs -dsimp only [T20_b, e1, e2, e3, hl.1, hl.2.1, hl.2.2, List.take_length, vcB1, vcB4, vcR, ↓vcP1, ↓vcP2, ↓reduceIte, if_true, if_false, reduceCtorEq, implies_true, Nat.reduceLT, Nat.reduceLeDiff, Nat.reduceEqDiff, Nat.reduceAdd, Nat.reduceSub, Nat.reduceMul, Int.reduceLT, Int.reduceLE, Int.reduceEq, Int.reduceToNat, Int.reduceAdd, Int.reduceSub, Int.reduceNeg, List.reduceReplicate, ne_eq, exists_eq_left, exists_eq_left', Nat.reducePow, Int.reduceMul, Function.comp_apply]
end Go.Proofs.YtjmnbpilnneonaaDoor
