/- VtParts is true. -/
import Derived.Test.YteemmpghpdaloaaDoorM7
set_option linter.unusedVariables false
set_option linter.unusedSimpArgs false
set_option maxRecDepth 10000
namespace Go.Proofs.YteemmpghpdaloaaDoor
open Go.RowKit

noncomputable def rc_vtParts : RFn := ⟨2, 59, (.seq (.reg [⟨(some 4), (.mov (.c (.bool false))), none, false⟩] 0 [0, 1]) (.seq (.seq (.reg [⟨(some 13), (.call 25 []), none, false⟩, ⟨(some 14), (.un .not (.t 13)), none, false⟩] 0 [0, 1, 14]) (.cond (.t 14) (.seq (.reg [⟨(some 4), (.mov (.c (.bool false))), none, false⟩] 0 [4]) .ret) .skip)) (.seq (.seq (.reg [⟨(some 15), (.mov (.t 0)), none, false⟩, ⟨(some 16), (.len (.t 15)), none, false⟩, ⟨(some 17), (.bin .gtr (.t 16) (.c (.int .i64 40))), none, false⟩] 0 [0, 1, 17]) (.cond (.t 17) (.seq (.reg [⟨(some 4), (.mov (.c (.bool true))), none, false⟩] 0 [4]) .ret) .skip)) (.seq (.reg [⟨(some 18), (.mov (.t 0)), none, false⟩, ⟨(some 19), (.call 29 [(.t 18)]), none, false⟩, ⟨(some 5), (.mov (.t 19)), none, false⟩] 0 [1, 5]) (.seq (.reg [⟨(some 20), (.mov (.t 1)), none, false⟩, ⟨(some 21), (.conv (.i2i .i64) (.t 20)), none, false⟩, ⟨(some 22), (.mov (.t 5)), none, false⟩, ⟨(some 23), (.len (.t 22)), none, false⟩, ⟨(some 24), (.bin .add (.t 23) (.c (.int .i64 1))), none, false⟩, ⟨(some 25), (.bin .rem (.t 21) (.t 24)), none, false⟩, ⟨(some 6), (.mov (.t 25)), none, false⟩] 0 [5, 6]) (.seq (.reg [⟨(some 27), (.build [(.int .i64 0), (.int .u8 0), (.sl 0 [] .nil), (.sl 0 [] .nil), (.sl 0 [] .nil)] []), none, false⟩, ⟨(some 28), (.mov (.t 5)), none, false⟩, ⟨(some 29), (.call 34 [(.t 27), (.t 28)]), none, false⟩, ⟨(some 26), (.mov (.t 29)), none, false⟩, ⟨(some 30), (.ext (.t 26) 0), none, false⟩, ⟨(some 31), (.ext (.t 26) 1), none, false⟩, ⟨(some 7), (.alloc [(.int .i64 0), (.int .u8 0), (.sl 0 [] .nil), (.sl 0 [] .nil), (.sl 0 [] .nil)]), none, false⟩, ⟨none, (.store 5 (.t 7) (.t 30)), none, false⟩, ⟨(some 8), (.mov (.t 31)), none, false⟩] 0 [5, 6, 7, 8]) (.seq (.reg [⟨(some 33), (.build [(.int .i64 0), (.int .u8 0), (.sl 0 [] .nil), (.sl 0 [] .nil), (.sl 0 [] .nil)] []), none, false⟩, ⟨(some 34), (.mov (.t 5)), none, false⟩, ⟨(some 35), (.mov (.t 6)), none, false⟩, ⟨(some 36), (.slice 1 (.t 34) none (some (.t 35)) none), none, false⟩, ⟨(some 37), (.call 34 [(.t 33), (.t 36)]), none, false⟩, ⟨(some 32), (.mov (.t 37)), none, false⟩, ⟨(some 38), (.ext (.t 32) 0), none, false⟩, ⟨(some 39), (.ext (.t 32) 1), none, false⟩, ⟨(some 9), (.alloc [(.int .i64 0), (.int .u8 0), (.sl 0 [] .nil), (.sl 0 [] .nil), (.sl 0 [] .nil)]), none, false⟩, ⟨none, (.store 5 (.t 9) (.t 38)), none, false⟩, ⟨(some 10), (.mov (.t 39)), none, false⟩] 0 [5, 6, 7, 8, 9, 10]) (.seq (.regD (.take ⟨(some 41), (.load true 5 (.t 9)), none, false⟩ [] (.take ⟨(some 42), (.mov (.t 5)), none, false⟩ [] (.take ⟨(some 43), (.mov (.t 6)), none, false⟩ [] (.take ⟨(some 44), (.slice 1 (.t 42) (some (.t 43)) none none), none, false⟩ [] (.alt (.op ⟨(some 45), (.call 34 [(.t 41), (.t 44)]), none, false⟩ (.take ⟨(some 40), (.mov (.t 45)), none, false⟩ [] (.take ⟨(some 46), (.ext (.t 40) 0), none, false⟩ [] (.take ⟨(some 47), (.ext (.t 40) 1), none, false⟩ [] (.op ⟨(some 11), (.alloc [(.int .i64 0), (.int .u8 0), (.sl 0 [] .nil), (.sl 0 [] .nil), (.sl 0 [] .nil)]), none, false⟩ (.op ⟨none, (.store 5 (.t 11) (.t 46)), none, false⟩ (.take ⟨(some 12), (.mov (.t 47)), none, false⟩ [] .done))))))) (.op ⟨(some 11), (.alloc [(.int .i64 0), (.int .u8 0), (.sl 0 [] .nil), (.sl 0 [] .nil), (.sl 0 [] .nil)]), none, false⟩ (.op ⟨(some 45), (.call 34 [(.t 41), (.t 44)]), none, false⟩ (.take ⟨(some 40), (.mov (.t 45)), none, false⟩ [] (.take ⟨(some 46), (.ext (.t 40) 0), none, false⟩ [] (.take ⟨(some 47), (.ext (.t 40) 1), none, false⟩ [] (.op ⟨none, (.store 5 (.t 11) (.t 46)), none, false⟩ (.take ⟨(some 12), (.mov (.t 47)), none, false⟩ [] .done)))))))))))) 0 [7, 8, 10, 11, 12]) (.seq (.reg [⟨(some 48), (.load true 5 (.t 7)), none, false⟩, ⟨(some 49), (.load true 5 (.t 11)), none, false⟩, ⟨(some 50), (.call 32 [(.t 48), (.t 49)]), none, false⟩, ⟨(some 51), (.mov (.t 50)), none, false⟩, ⟨(some 52), (.mov (.t 8)), (some (51, true)), false⟩, ⟨(some 53), (.mov (.t 10)), (some (51, true)), false⟩, ⟨(some 54), (.append 6 64 (.c (.sl 0 [] .nil)) (.t 53)), (some (51, true)), false⟩, ⟨(some 55), (.mov (.t 12)), (some (51, true)), false⟩, ⟨(some 56), (.append 6 64 (.t 54) (.t 55)), (some (51, true)), true⟩, ⟨(some 57), (.call 33 [(.t 52), (.t 56)]), (some (51, true)), false⟩, ⟨(some 58), (.pick (.t 51) (.t 57) (.c (.bool false))), none, false⟩, ⟨(some 4), (.mov (.t 58)), none, false⟩] 0 [4]) .ret))))))))), [(.t 4)]⟩
theorem rc_vtParts_ok : compFn PG.P [⟨0, 0, [0, 1], []⟩, ⟨1, 0, [0, 1, 14], []⟩, ⟨2, 0, [4], []⟩, ⟨3, 0, [0, 1, 17], []⟩, ⟨4, 0, [4], []⟩, ⟨5, 0, [1, 5], []⟩, ⟨6, 0, [5, 6], []⟩, ⟨7, 0, [5, 6, 7, 8], []⟩, ⟨8, 0, [5, 6, 7, 8, 9, 10], []⟩, ⟨9, 0, [7, 8, 10, 11, 12], []⟩, ⟨10, 0, [4], [56]⟩] 8 = some rc_vtParts := by kernel_rfl
set_option maxHeartbeats 4000000 in
theorem vtParts_true (dv : List DV) (h : ConfL [(false, [.sl [.int .u8]]), (false, [.int .u16])] dv) : PCalls PG 8 dv fun _ r _ => r = .bool true := by
  obtain ⟨d0, r0, rfl, c0, h⟩ := h.cons
  obtain ⟨d1, r1, rfl, c1, h⟩ := h.cons
  obtain rfl := h.nil
  obtain ⟨l, rfl, hl⟩ := confA_ints c0
  obtain ⟨cut, rfl, hcut⟩ := confA_int c1
  refine PCalls.mono (R := fun n r os => r = .bool true ∧ os = []) ?_ fun n r os h => h.1
  refine PCalls.by_fn (res := fun n => (.bool true, [])) T38_ok rc_vtParts_ok (by simp [rc_vtParts]) fun n => ?_
  unfold rc_vtParts
  dsimp only
  have u16 : IntKind.u16.min = 0 ∧ IntKind.u16.max = 65535 := by decide
  simp -implicitDefEqProofs only [T38_l, paR_eq, isInts_sl, isInts_nil, intsD_nil, intsD_sl, ints_intRows, ints_nil, ↓bindO_iteN, acB1, vcB1, vcB2, vcB3, vcA1, vcA2, vcA3, vcA4, vcA5, vcA6, vcA7, ↓vcP1, ↓vcP2, ↓reduceIte, Option.map_some, Option.map_none, Option.bind_some, Option.bind_none, if_true, if_false, reduceCtorEq, beq_true, beq_false, Bool.not_true, Bool.not_false, BEq.rfl, Bool.true_beq, Bool.false_beq, and_true, true_and, and_self, decide_true, decide_false, List.length_cons, List.length_nil, List.all_cons, List.all_nil, Bool.and_true, Bool.and_self, List.getElem?_cons_zero, List.getElem?_cons_succ, List.set_cons_zero, List.set_cons_succ, List.nil_append, List.cons_append, List.append_nil, List.map_cons, List.map_nil, not_true_eq_false, not_false_eq_true, false_implies, true_implies, implies_true, List.take_succ_cons, List.take_zero, List.take_nil, List.drop_succ_cons, List.drop_zero, List.drop_nil, Nat.reduceLT, Nat.reduceLeDiff, Nat.reduceEqDiff, Nat.reduceAdd, Nat.reduceSub, Nat.reduceMul, Int.reduceLT, Int.reduceLE, Int.reduceEq, Int.reduceToNat, Int.reduceAdd, Int.reduceSub, Int.reduceNeg, List.reduceReplicate, List.replicate_zero, List.replicate_succ, ne_eq, List.flatMap_cons, List.flatMap_nil, List.length_replicate, List.length_append, Nat.le_refl, Nat.le_add_right, Nat.add_assoc, List.append_assoc, or_true, true_or, or_false, false_or, and_false, false_and, exists_eq_left, exists_eq_left', Option.some.injEq, DV.int.injEq, DV.bool.injEq, DV.sl.injEq, DV.own.injEq, DV.tup.injEq, List.cons.injEq, Ob.arr.injEq, Ob.box.injEq, Option.map_map, Int.toNat_natCast, Int.toNat_zero, Nat.reducePow, Int.toNat_one, Int.reduceMul, Nat.mul_one, Nat.zero_add, Nat.add_zero, Function.comp_apply, List.map_append, List.map_replicate, Int.cast_ofNat_Int, Nat.left_eq_add, Nat.add_eq_left, Nat.add_left_cancel_iff]
  intro hL
  have hll : l.length ≤ 40 := by omega
  have hin : inK .u8 l := inK_of hl (by omega)
  have hB := sbytesF_in l (by omega)
  have hBl := sbytesF_len l
  rw [u16.1, u16.2] at hcut
  generalize sbytesF l = B at *
  have w1 : IntKind.i64.wrap (B.length + 1) = B.length + 1 := wI64 (by omega) (by omega)
  have w2 : IntKind.i64.wrap cut = cut := wI64 (by omega) (by omega)
  rw [w1, w2, Int.tmod_eq_emod_of_nonneg hcut.1]
  have hm0 := Int.emod_nonneg cut (show (B.length + 1 : Int) ≠ 0 by omega)
  have hm1 := Int.emod_lt_of_pos cut (show (0 : Int) < B.length + 1 by omega)
  generalize cut % (B.length + 1 : Int) = N0 at *
  obtain ⟨N, rfl⟩ := Int.eq_ofNat_of_zero_le hm0
  simp only [Int.toNat_natCast, Nat.sub_zero]
  have hN : N ≤ B.length := by omega
  have ht : List.take (B.length - N) (List.drop N B) = List.drop N B := List.take_of_length_le (by simp)
  simp only [ht]
  have k0 : paOk (pa0 0) := paOk_pa0 0
  have f1 := vall_ok B (pa0 0) [] k0 hB
  have g1 := vall_len B (pa0 0) []
  have p1 := vall_ps B (pa0 0) [] k0 hB (fun a h => by cases h)
  have f2 := vall_ok (B.take N) (pa0 0) [] k0 (hB.take N)
  have g2 := vall_len (B.take N) (pa0 0) []
  have f3 := vall_ok (B.drop N) _ [] f2 (hB.drop N)
  have g3 := vall_len (B.drop N) (vallF (pa0 0) [] (B.take N)).1 []
  have e1 : vallF (pa0 0) [] B = ((vallF (vallF (pa0 0) [] (B.take N)).1 [] (B.drop N)).1, (vallF (pa0 0) [] (B.take N)).2 ++ (vallF (vallF (pa0 0) [] (B.take N)).1 [] (B.drop N)).2) := by
    conv => lhs; rw [← List.take_append_drop N B, vall_app, vall_acc]
  rw [List.length_take] at g2
  rw [List.length_drop] at g3
  simp only [List.length_nil] at g1 g2 g3
  simp only [pa0] at *
  generalize hX1 : vallF ⟨0, 0, [], [], []⟩ [] (B.take N) = X1 at *
  have hp : (⟨X1.1.m, X1.1.pr, X1.1.P, X1.1.I, X1.1.U⟩ : Pa) = X1.1 := rfl
  simp only [hp] at *
  generalize hX2 : vallF X1.1 [] (B.drop N) = X2 at *
  generalize vallF ⟨0, 0, [], [], []⟩ [] B = X0 at *
  subst e1
  obtain ⟨a1, a2, a3, a4, a5, a6⟩ := paOk_in f2
  obtain ⟨b1, b2, b3, b4, b5, b6⟩ := paOk_in f3
  exact ⟨⟨hin, by omega⟩, by omega, ⟨k0, hB, by omega⟩, by omega, ⟨by omega, hN⟩, ⟨k0, hB.take N, by simp; omega⟩, by omega, hN, ⟨a1, a2, a3, f2, hB.drop N, by simp; omega⟩, ⟨⟨⟨b1, b2, b3⟩, ⟨b1, b2, b3⟩, b4, b5, b6⟩, rfl⟩, ⟨by omega, by omega⟩, ⟨by omega, by omega⟩, by rw [List.take_of_length_le (by simp)], X1.2 ++ X2.2, rfl, acsOk_of p1 (by simp; omega)⟩
end Go.Proofs.YteemmpghpdaloaaDoor
