/- Texts P1, P2, P3, P4, P5, P6, P7, P8, P9, P10, P11, P12, P13, P14, P15 in one. -/
import Derived.Test.YtdimdjcnkmkbjaaDoorM3
import Derived.Test.YtdimdjcnkmkbjaaDoorProg
set_option linter.unusedVariables false
set_option linter.unusedSimpArgs false
set_option maxRecDepth 10000
namespace Go.Proofs.YtdimdjcnkmkbjaaDoor
open Go.RowKit
def firstF (b : Int) : Int := if b < 128 then 240 else if b < 194 then 241 else if b < 224 then 2 else if b = 224 then 19 else if b < 237 then 3 else if b = 237 then 35 else if b < 240 then 3 else if b = 240 then 52 else if b < 244 then 4 else if b = 244 then 68 else 241
def accLo (a : Int) : Int := if a = 0 then 128 else if a = 1 then 160 else if a = 2 then 128 else if a = 3 then 144 else if a = 4 then 128 else 0
def accHi (a : Int) : Int := if a = 0 then 191 else if a = 1 then 191 else if a = 2 then 159 else if a = 3 then 191 else if a = 4 then 143 else 0
def firstRow : List DV := (List.range 256).map fun i : Nat => .int .u8 (firstF (i : Int))
def accRow : List DV := (List.range 32).map fun i : Nat => .int .u8 (if i % 2 = 0 then accLo ((i / 2 : Nat) : Int) else accHi ((i / 2 : Nat) : Int))
noncomputable def PG : Prg := ⟨Tryd.prog, fun g => if g = 1 then some firstRow else if g = 2 then some accRow else none⟩
theorem gv_first (st : St) : Opd.ev PG st (.g 1) = .rp firstRow 0 := by simp [Opd.ev, PG]
theorem gv_acc (st : St) : Opd.ev PG st (.g 2) = .rp accRow 0 := by simp [Opd.ev, PG]
theorem accRow_len : accRow.length = 32 := by simp [accRow]
theorem bindO_first (n : Nat) (f : DV → Prop) : bindO firstRow[n]? f = (n < 256 ∧ f (.int .u8 (firstF n))) := by
  by_cases h : n < 256
  · simp [firstRow, h, bindO]
  · simp [firstRow, h, bindO]
theorem rowAt_acc (n : Nat) : rowAt true 2 accRow (n * 2) = if n < 16 then some (.agg [.int .u8 (accLo n), .int .u8 (accHi n)]) else none := by
  by_cases h : n < 16
  · have : n = 0 ∨ n = 1 ∨ n = 2 ∨ n = 3 ∨ n = 4 ∨ n = 5 ∨ n = 6 ∨ n = 7 ∨ n = 8 ∨ n = 9 ∨ n = 10 ∨ n = 11 ∨ n = 12 ∨ n = 13 ∨ n = 14 ∨ n = 15 := by omega
    rcases this with rfl | rfl | rfl | rfl | rfl | rfl | rfl | rfl | rfl | rfl | rfl | rfl | rfl | rfl | rfl | rfl <;> rfl
  · rw [if_neg h, rowAt_t, if_neg (by rw [accRow_len]; omega)]
noncomputable def rc_may : RFn := ⟨1, 17, .seq (.reg [⟨some 2, .mov (.c (.bool false)), none, false⟩] 0 [0]) (.seq (.reg [⟨some 3, .mov (.t 0), none, false⟩, ⟨some 4, .bin .geq (.t 3) (.c (.int .i32 0)), none, false⟩, ⟨some 5, .mov (.t 4), none, false⟩, ⟨some 6, .mov (.t 0), some (5, true), false⟩, ⟨some 7, .bin .leq (.t 6) (.c (.int .i32 1114111)), some (5, true), false⟩, ⟨some 8, .pick (.t 5) (.t 7) (.c (.bool false)), none, false⟩, ⟨some 9, .mov (.t 8), none, false⟩, ⟨some 10, .mov (.t 0), some (9, true), false⟩, ⟨some 11, .bin .lss (.t 10) (.c (.int .i32 55296)), some (9, true), false⟩, ⟨some 12, .mov (.t 11), some (9, true), false⟩, ⟨some 13, .mov (.t 0), some (12, false), false⟩, ⟨some 14, .bin .gtr (.t 13) (.c (.int .i32 57343)), some (12, false), false⟩, ⟨some 15, .pick (.t 12) (.c (.bool true)) (.t 14), some (9, true), false⟩, ⟨some 16, .pick (.t 9) (.t 15) (.c (.bool false)), none, false⟩, ⟨some 2, .mov (.t 16), none, false⟩] 0 [2]) .ret), [.t 2]⟩
theorem rc_may_ok : compFn PG.P [⟨0, 0, [0], []⟩, ⟨1, 0, [2], []⟩] 28 = some rc_may := by kernel_rfl
noncomputable def rc_runes_l0 : RC := (.seq (.seq (.reg [⟨some 11, .mov (.t 5), none, false⟩, ⟨some 12, .mov (.t 0), none, false⟩, ⟨some 13, .len (.t 12), none, false⟩, ⟨some 14, .bin .lss (.t 11) (.t 13), none, false⟩] 0 [0, 1, 5, 14]) (.cond (.t 14) .skip (.ext 0))) (.seq (.blk 1 (.seq (.regD (.take ⟨some 17, .mov (.t 0), none, false⟩ [] (.take ⟨some 18, .mov (.t 5), none, false⟩ [] (.take ⟨some 19, .iaddr 1 (.t 17) (.t 18), none, false⟩ [] (.take ⟨some 20, .load false 1 (.t 19), none, false⟩ [] (.take ⟨some 21, .mov (.t 1), none, false⟩ [] (.take ⟨some 22, .mov (.t 5), none, false⟩ [] (.take ⟨some 23, .iaddr 1 (.t 21) (.t 22), none, false⟩ [] (.take ⟨some 24, .load false 1 (.t 23), none, false⟩ [] (.take ⟨some 25, .bin .neq (.t 20) (.t 24), none, false⟩ [] .done))))))))) 0 [0, 1, 5, 25]) (.cond (.t 25) (.seq (.reg [⟨some 4, .mov (.c (.bool false)), none, false⟩] 0 [4]) .ret) .skip))) (.reg [⟨some 15, .mov (.t 5), none, false⟩, ⟨some 16, .bin .add (.t 15) (.c (.int .i64 1)), none, false⟩, ⟨some 5, .mov (.t 16), none, false⟩] 0 [0, 1, 5])))
noncomputable def rc_runes : RFn := ⟨2, 26, .seq (.reg [⟨some 4, .mov (.c (.bool false)), none, false⟩] 0 [0, 1]) (.seq (.seq (.reg [⟨some 6, .mov (.t 0), none, false⟩, ⟨some 7, .len (.t 6), none, false⟩, ⟨some 8, .mov (.t 1), none, false⟩, ⟨some 9, .len (.t 8), none, false⟩, ⟨some 10, .bin .neq (.t 7) (.t 9), none, false⟩] 0 [0, 1, 10]) (.cond (.t 10) (.seq (.reg [⟨some 4, .mov (.c (.bool false)), none, false⟩] 0 [4]) .ret) .skip)) (.seq (.seq (.reg [⟨some 5, .mov (.c (.int .i64 0)), none, false⟩] 0 [0, 1, 5]) (.blk 0 (.loop rc_runes_l0))) (.seq (.reg [⟨some 4, .mov (.c (.bool true)), none, false⟩] 0 [4]) .ret))), [.t 4]⟩
theorem rc_runes_ok : compFn PG.P [⟨0, 0, [0, 1], []⟩, ⟨1, 0, [0, 1, 10], []⟩, ⟨2, 0, [4], []⟩, ⟨3, 0, [0, 1, 5], []⟩, ⟨4, 0, [0, 1, 5, 14], []⟩, ⟨5, 0, [0, 1, 5], []⟩, ⟨6, 0, [0, 1, 5, 25], []⟩, ⟨7, 0, [4], []⟩, ⟨8, 0, [4], []⟩] 37 = some rc_runes := by kernel_rfl
def may (r : Int) : Bool := decide (0 ≤ r) && decide (r ≤ 1114111) && (decide (r < 55296) || decide (57343 < r))
def F_may : List DV → Option FSpec
  | [.int .i32 r] => some ⟨True, fun _ => (.bool (may r), [])⟩
  | _ => none
theorem may_ok (args : List DV) (s : FSpec) (hs : F_may args = some s) (hp : s.pre) : PCalls PG 28 args fun n r os => r = (s.res n).1 ∧ os = (s.res n).2 := by
  unfold F_may at hs
  split at hs
  · obtain rfl := sj hs
    refine FSpec.by_fn FOk.nil rc_may_ok (by simp [rc_may]) fun n => ?_
    unfold rc_may
    dsimp only
    simp -implicitDefEqProofs -dsimp only [vcR, ↓vcP1, ↓vcP2, ↓reduceIte, if_true, if_false, reduceCtorEq, implies_true, Nat.reduceLT, Nat.reduceLeDiff, Nat.reduceEqDiff, Nat.reduceAdd, Nat.reduceSub, Nat.reduceMul, Int.reduceLT, Int.reduceLE, Int.reduceEq, Int.reduceToNat, Int.reduceAdd, Int.reduceSub, Int.reduceNeg, List.reduceReplicate, ne_eq, exists_eq_left, exists_eq_left', Nat.reducePow, Int.reduceMul, Function.comp_apply]
    grind [may]
  · cases hs
def dec (p : List Int) : Int × Int :=
  if p.length = 0 then (65533, 0)
  else if 240 ≤ firstF (p.getD 0 0) then (if firstF (p.getD 0 0) = 241 then 65533 else p.getD 0 0, 1)
  else if (p.length : Int) < firstF (p.getD 0 0) % 8 then (65533, 1)
  else if p.getD 1 0 < accLo (firstF (p.getD 0 0) / 16) ∨ accHi (firstF (p.getD 0 0) / 16) < p.getD 1 0 then (65533, 1)
  else if firstF (p.getD 0 0) % 8 ≤ 2 then (p.getD 0 0 % 32 * 64 + p.getD 1 0 % 64, 2)
  else if p.getD 2 0 < 128 ∨ 191 < p.getD 2 0 then (65533, 1)
  else if firstF (p.getD 0 0) % 8 ≤ 3 then (p.getD 0 0 % 16 * 4096 + p.getD 1 0 % 64 * 64 + p.getD 2 0 % 64, 3)
  else if p.getD 3 0 < 128 ∨ 191 < p.getD 3 0 then (65533, 1)
  else (p.getD 0 0 % 8 * 262144 + p.getD 1 0 % 64 * 4096 + p.getD 2 0 % 64 * 64 + p.getD 3 0 % 64, 4)
theorem runes_P {sa sb : Nat} {ka kb : SK} {la lb : List Int} (ha : sa = 1 ∨ la = []) (hb : sb = 1 ∨ lb = []) (hka : inK .i32 la) (hkb : inK .i32 lb) :
    PCalls PG 37 [.sl sa (intRows .i32 la) ka, .sl sb (intRows .i32 lb) kb] fun n r os => r = .bool (decide (la = lb)) ∧ os = [] := by
  refine FSpec.by_fn (s := ⟨True, fun n => (.bool (decide (la = lb)), [])⟩) FOk.nil rc_runes_ok (by simp [rc_runes]) fun n => ?_
  unfold rc_runes
  dsimp only
  simp -implicitDefEqProofs -dsimp only [vcR, ↓vcP1, ↓vcP2, ↓reduceIte, if_true, if_false, reduceCtorEq, implies_true, Nat.reduceLT, Nat.reduceLeDiff, Nat.reduceEqDiff, Nat.reduceAdd, Nat.reduceSub, Nat.reduceMul, Int.reduceLT, Int.reduceLE, Int.reduceEq, Int.reduceToNat, Int.reduceAdd, Int.reduceSub, Int.reduceNeg, List.reduceReplicate, ne_eq, exists_eq_left, exists_eq_left', Nat.reducePow, Int.reduceMul, Function.comp_apply]
  refine ⟨fun hl => ?_, fun hl => ?_⟩
  · refine LoopWp.inv FOk.nil (S := fun i : Nat => ⟨[(0, .sl sa (intRows .i32 la) ka), (1, .sl sb (intRows .i32 lb) kb), (5, .int .i64 i)], List.replicate n none⟩) (I := fun i => i ≤ la.length ∧ la.take i = lb.take i) (μ := fun i => la.length - i) 0 ⟨by omega, by simp⟩ ?_ ?_
    · simp -implicitDefEqProofs -dsimp only [vcR, ↓vcP1, ↓vcP2, ↓reduceIte, if_true, if_false, reduceCtorEq, implies_true, Nat.reduceLT, Nat.reduceLeDiff, Nat.reduceEqDiff, Nat.reduceAdd, Nat.reduceSub, Nat.reduceMul, Int.reduceLT, Int.reduceLE, Int.reduceEq, Int.reduceToNat, Int.reduceAdd, Int.reduceSub, Int.reduceNeg, List.reduceReplicate, ne_eq, exists_eq_left, exists_eq_left', Nat.reducePow, Int.reduceMul, Function.comp_apply]
    · intro i ⟨hi, hpre⟩
      unfold rc_runes_l0
      simp -implicitDefEqProofs -dsimp only [vcR, ↓vcP1, ↓vcP2, ↓reduceIte, if_true, if_false, reduceCtorEq, implies_true, Nat.reduceLT, Nat.reduceLeDiff, Nat.reduceEqDiff, Nat.reduceAdd, Nat.reduceSub, Nat.reduceMul, Int.reduceLT, Int.reduceLE, Int.reduceEq, Int.reduceToNat, Int.reduceAdd, Int.reduceSub, Int.reduceNeg, List.reduceReplicate, ne_eq, exists_eq_left, exists_eq_left', Nat.reducePow, Int.reduceMul, Function.comp_apply]
      have hk := hka.1
      refine ⟨fun h => ?_, fun h => ?_⟩
      · have h1 : i < la.length := by omega
        have h2 : i < lb.length := by omega
        have hna : la ≠ [] := fun e => by simp [e] at h1
        have hnb : lb ≠ [] := fun e => by simp [e] at h2
        refine ⟨⟨by omega, h, ha.resolve_right hna⟩, h1, ⟨by omega, by omega, hb.resolve_right hnb⟩, h2, ?_⟩
        simp only [List.getD_eq_getElem?_getD, List.getElem?_eq_getElem h1, List.getElem?_eq_getElem h2, Option.getD_some]
        refine ⟨fun e => ⟨i + 1, by rw [wI64] <;> omega, ⟨by omega, ?_⟩, by omega⟩, fun e => ?_⟩
        · rw [List.take_succ_eq_append_getElem h1, List.take_succ_eq_append_getElem h2, hpre, e]
        · symm
          apply decide_eq_false
          intro e2
          subst e2
          exact e rfl
      · have h1 : i = la.length := by omega
        have h2 : i = lb.length := by omega
        rw [h1, List.take_length, ← h1, h2, List.take_length] at hpre
        simp [hpre]
  · symm
    apply decide_eq_false
    intro e
    subst e
    exact hl rfl
def F_runes : List DV → Option FSpec
  | [a, b] => some ⟨isInts .i32 a ∧ isInts .i32 b, fun _ => (.bool (decide (intsD a = intsD b)), [])⟩
  | _ => none
theorem runes_ok (args : List DV) (s : FSpec) (hs : F_runes args = some s) (hp : s.pre) : PCalls PG 37 args fun n r os => r = (s.res n).1 ∧ os = (s.res n).2 := by
  unfold F_runes at hs
  split at hs
  · rename_i a b
    obtain rfl := sj hs
    obtain ⟨sa, ka, ha, ha2, ha3⟩ := isInts_inv hp.1
    obtain ⟨sb, kb, hb, hb2, hb3⟩ := isInts_inv hp.2
    have := runes_P (ka := ka) (kb := kb) ha2 hb2 ha3 hb3
    rw [← ha, ← hb] at this
    exact this
  · cases hs
noncomputable def rc_slow : RFn := ⟨1, 122, .seq (.reg [⟨some 2, .mov (.c (.int .i32 0)), none, false⟩, ⟨some 3, .mov (.c (.int .i64 0)), none, false⟩] 0 [0]) (.seq (.reg [⟨some 13, .mov (.t 0), none, false⟩, ⟨some 14, .len (.t 13), none, false⟩, ⟨some 4, .mov (.t 14), none, false⟩] 0 [0, 4]) (.seq (.seq (.reg [⟨some 15, .mov (.t 4), none, false⟩, ⟨some 16, .bin .lss (.t 15) (.c (.int .i64 1)), none, false⟩] 0 [0, 4, 16]) (.cond (.t 16) (.seq (.reg [⟨some 2, .mov (.c (.int .i32 65533)), none, false⟩, ⟨some 3, .mov (.c (.int .i64 0)), none, false⟩] 0 [2, 3]) .ret) .skip)) (.seq (.reg [⟨some 17, .mov (.t 0), none, false⟩, ⟨some 18, .iaddr 1 (.t 17) (.c (.int .i64 0)), none, false⟩, ⟨some 19, .load false 1 (.t 18), none, false⟩, ⟨some 5, .mov (.t 19), none, false⟩] 0 [0, 4, 5]) (.seq (.reg [⟨some 20, .mov (.t 5), none, false⟩, ⟨some 21, .iaddrA 256 1 (.g 1) (.t 20), none, false⟩, ⟨some 22, .load false 1 (.t 21), none, false⟩, ⟨some 6, .mov (.t 22), none, false⟩] 0 [0, 4, 5, 6]) (.seq (.seq (.reg [⟨some 23, .mov (.t 6), none, false⟩, ⟨some 24, .bin .geq (.t 23) (.c (.int .u8 240)), none, false⟩] 0 [0, 4, 5, 6, 24]) (.cond (.t 24) (.seq (.reg [⟨some 25, .mov (.t 6), none, false⟩, ⟨some 26, .conv (.i2i .i32) (.t 25), none, false⟩, ⟨some 27, .bin .shl (.t 26) (.c (.int .u64 31)), none, false⟩, ⟨some 28, .bin .shr (.t 27) (.c (.int .u64 31)), none, false⟩, ⟨some 7, .mov (.t 28), none, false⟩] 0 [0, 7]) (.seq (.reg [⟨some 29, .mov (.t 0), none, false⟩, ⟨some 30, .iaddr 1 (.t 29) (.c (.int .i64 0)), none, false⟩, ⟨some 31, .load false 1 (.t 30), none, false⟩, ⟨some 32, .conv (.i2i .i32) (.t 31), none, false⟩, ⟨some 33, .mov (.t 7), none, false⟩, ⟨some 34, .bin .andNot (.t 32) (.t 33), none, false⟩, ⟨some 35, .mov (.t 7), none, false⟩, ⟨some 36, .bin .and (.c (.int .i32 65533)) (.t 35), none, false⟩, ⟨some 37, .bin .or (.t 34) (.t 36), none, false⟩, ⟨some 2, .mov (.t 37), none, false⟩, ⟨some 3, .mov (.c (.int .i64 1)), none, false⟩] 0 [2, 3]) .ret)) .skip)) (.seq (.reg [⟨some 38, .mov (.t 6), none, false⟩, ⟨some 39, .bin .and (.t 38) (.c (.int .u8 7)), none, false⟩, ⟨some 40, .conv (.i2i .i64) (.t 39), none, false⟩, ⟨some 8, .mov (.t 40), none, false⟩] 0 [0, 4, 5, 6, 8]) (.seq (.reg [⟨some 41, .mov (.t 6), none, false⟩, ⟨some 42, .bin .shr (.t 41) (.c (.int .u64 4)), none, false⟩, ⟨some 43, .iaddrA 16 2 (.g 2) (.t 42), none, false⟩, ⟨some 44, .load true 2 (.t 43), none, false⟩, ⟨some 9, .alloc [.int .u8 0, .int .u8 0], none, false⟩, ⟨none, .store 2 (.t 9) (.t 44), none, false⟩] 0 [0, 4, 5, 8, 9]) (.seq (.seq (.reg [⟨some 45, .mov (.t 4), none, false⟩, ⟨some 46, .mov (.t 8), none, false⟩, ⟨some 47, .bin .lss (.t 45) (.t 46), none, false⟩] 0 [0, 5, 8, 9, 47]) (.cond (.t 47) (.seq (.reg [⟨some 2, .mov (.c (.int .i32 65533)), none, false⟩, ⟨some 3, .mov (.c (.int .i64 1)), none, false⟩] 0 [2, 3]) .ret) .skip)) (.seq (.reg [⟨some 48, .mov (.t 0), none, false⟩, ⟨some 49, .iaddr 1 (.t 48) (.c (.int .i64 1)), none, false⟩, ⟨some 50, .load false 1 (.t 49), none, false⟩, ⟨some 10, .mov (.t 50), none, false⟩] 0 [0, 5, 8, 9, 10]) (.seq (.seq (.reg [⟨some 51, .mov (.t 10), none, false⟩, ⟨some 52, .faddr 0 (.t 9), none, false⟩, ⟨some 53, .load false 1 (.t 52), none, false⟩, ⟨some 54, .bin .lss (.t 51) (.t 53), none, false⟩, ⟨some 55, .mov (.t 54), none, false⟩, ⟨some 56, .faddr 1 (.t 9), some (55, false), false⟩, ⟨some 57, .load false 1 (.t 56), some (55, false), false⟩, ⟨some 58, .mov (.t 10), some (55, false), false⟩, ⟨some 59, .bin .lss (.t 57) (.t 58), some (55, false), false⟩, ⟨some 60, .pick (.t 55) (.c (.bool true)) (.t 59), none, false⟩] 0 [0, 5, 8, 10, 60]) (.cond (.t 60) (.seq (.reg [⟨some 2, .mov (.c (.int .i32 65533)), none, false⟩, ⟨some 3, .mov (.c (.int .i64 1)), none, false⟩] 0 [2, 3]) .ret) .skip)) (.seq (.seq (.reg [⟨some 61, .mov (.t 8), none, false⟩, ⟨some 62, .bin .leq (.t 61) (.c (.int .i64 2)), none, false⟩] 0 [0, 5, 8, 10, 62]) (.cond (.t 62) (.seq (.reg [⟨some 63, .mov (.t 5), none, false⟩, ⟨some 64, .bin .and (.t 63) (.c (.int .u8 31)), none, false⟩, ⟨some 65, .conv (.i2i .i32) (.t 64), none, false⟩, ⟨some 66, .bin .shl (.t 65) (.c (.int .u64 6)), none, false⟩, ⟨some 67, .mov (.t 10), none, false⟩, ⟨some 68, .bin .and (.t 67) (.c (.int .u8 63)), none, false⟩, ⟨some 69, .conv (.i2i .i32) (.t 68), none, false⟩, ⟨some 70, .bin .or (.t 66) (.t 69), none, false⟩, ⟨some 2, .mov (.t 70), none, false⟩, ⟨some 3, .mov (.c (.int .i64 2)), none, false⟩] 0 [2, 3]) .ret) .skip)) (.seq (.reg [⟨some 71, .mov (.t 0), none, false⟩, ⟨some 72, .iaddr 1 (.t 71) (.c (.int .i64 2)), none, false⟩, ⟨some 73, .load false 1 (.t 72), none, false⟩, ⟨some 11, .mov (.t 73), none, false⟩] 0 [0, 5, 8, 10, 11]) (.seq (.seq (.reg [⟨some 74, .mov (.t 11), none, false⟩, ⟨some 75, .bin .lss (.t 74) (.c (.int .u8 128)), none, false⟩, ⟨some 76, .mov (.t 75), none, false⟩, ⟨some 77, .mov (.t 11), some (76, false), false⟩, ⟨some 78, .bin .lss (.c (.int .u8 191)) (.t 77), some (76, false), false⟩, ⟨some 79, .pick (.t 76) (.c (.bool true)) (.t 78), none, false⟩] 0 [0, 5, 8, 10, 11, 79]) (.cond (.t 79) (.seq (.reg [⟨some 2, .mov (.c (.int .i32 65533)), none, false⟩, ⟨some 3, .mov (.c (.int .i64 1)), none, false⟩] 0 [2, 3]) .ret) .skip)) (.seq (.seq (.reg [⟨some 80, .mov (.t 8), none, false⟩, ⟨some 81, .bin .leq (.t 80) (.c (.int .i64 3)), none, false⟩] 0 [0, 5, 10, 11, 81]) (.cond (.t 81) (.seq (.reg [⟨some 82, .mov (.t 5), none, false⟩, ⟨some 83, .bin .and (.t 82) (.c (.int .u8 15)), none, false⟩, ⟨some 84, .conv (.i2i .i32) (.t 83), none, false⟩, ⟨some 85, .bin .shl (.t 84) (.c (.int .u64 12)), none, false⟩, ⟨some 86, .mov (.t 10), none, false⟩, ⟨some 87, .bin .and (.t 86) (.c (.int .u8 63)), none, false⟩, ⟨some 88, .conv (.i2i .i32) (.t 87), none, false⟩, ⟨some 89, .bin .shl (.t 88) (.c (.int .u64 6)), none, false⟩, ⟨some 90, .bin .or (.t 85) (.t 89), none, false⟩, ⟨some 91, .mov (.t 11), none, false⟩, ⟨some 92, .bin .and (.t 91) (.c (.int .u8 63)), none, false⟩, ⟨some 93, .conv (.i2i .i32) (.t 92), none, false⟩, ⟨some 94, .bin .or (.t 90) (.t 93), none, false⟩, ⟨some 2, .mov (.t 94), none, false⟩, ⟨some 3, .mov (.c (.int .i64 3)), none, false⟩] 0 [2, 3]) .ret) .skip)) (.seq (.reg [⟨some 95, .mov (.t 0), none, false⟩, ⟨some 96, .iaddr 1 (.t 95) (.c (.int .i64 3)), none, false⟩, ⟨some 97, .load false 1 (.t 96), none, false⟩, ⟨some 12, .mov (.t 97), none, false⟩] 0 [5, 10, 11, 12]) (.seq (.seq (.reg [⟨some 98, .mov (.t 12), none, false⟩, ⟨some 99, .bin .lss (.t 98) (.c (.int .u8 128)), none, false⟩, ⟨some 100, .mov (.t 99), none, false⟩, ⟨some 101, .mov (.t 12), some (100, false), false⟩, ⟨some 102, .bin .lss (.c (.int .u8 191)) (.t 101), some (100, false), false⟩, ⟨some 103, .pick (.t 100) (.c (.bool true)) (.t 102), none, false⟩] 0 [5, 10, 11, 12, 103]) (.cond (.t 103) (.seq (.reg [⟨some 2, .mov (.c (.int .i32 65533)), none, false⟩, ⟨some 3, .mov (.c (.int .i64 1)), none, false⟩] 0 [2, 3]) .ret) .skip)) (.seq (.reg [⟨some 104, .mov (.t 5), none, false⟩, ⟨some 105, .bin .and (.t 104) (.c (.int .u8 7)), none, false⟩, ⟨some 106, .conv (.i2i .i32) (.t 105), none, false⟩, ⟨some 107, .bin .shl (.t 106) (.c (.int .u64 18)), none, false⟩, ⟨some 108, .mov (.t 10), none, false⟩, ⟨some 109, .bin .and (.t 108) (.c (.int .u8 63)), none, false⟩, ⟨some 110, .conv (.i2i .i32) (.t 109), none, false⟩, ⟨some 111, .bin .shl (.t 110) (.c (.int .u64 12)), none, false⟩, ⟨some 112, .bin .or (.t 107) (.t 111), none, false⟩, ⟨some 113, .mov (.t 11), none, false⟩, ⟨some 114, .bin .and (.t 113) (.c (.int .u8 63)), none, false⟩, ⟨some 115, .conv (.i2i .i32) (.t 114), none, false⟩, ⟨some 116, .bin .shl (.t 115) (.c (.int .u64 6)), none, false⟩, ⟨some 117, .bin .or (.t 112) (.t 116), none, false⟩, ⟨some 118, .mov (.t 12), none, false⟩, ⟨some 119, .bin .and (.t 118) (.c (.int .u8 63)), none, false⟩, ⟨some 120, .conv (.i2i .i32) (.t 119), none, false⟩, ⟨some 121, .bin .or (.t 117) (.t 120), none, false⟩, ⟨some 2, .mov (.t 121), none, false⟩, ⟨some 3, .mov (.c (.int .i64 4)), none, false⟩] 0 [2, 3]) .ret))))))))))))))))), [.t 2, .t 3]⟩
theorem rc_slow_ok : compFn PG.P [⟨0, 0, [0], []⟩, ⟨1, 0, [0, 4], []⟩, ⟨2, 0, [0, 4, 16], []⟩, ⟨3, 0, [2, 3], []⟩, ⟨4, 0, [0, 4, 5], []⟩, ⟨5, 0, [0, 4, 5, 6], []⟩, ⟨6, 0, [0, 4, 5, 6, 24], []⟩, ⟨7, 0, [0, 7], []⟩, ⟨8, 0, [2, 3], []⟩, ⟨9, 0, [0, 4, 5, 6, 8], []⟩, ⟨10, 0, [0, 4, 5, 8, 9], []⟩, ⟨11, 0, [0, 5, 8, 9, 47], []⟩, ⟨12, 0, [2, 3], []⟩, ⟨13, 0, [0, 5, 8, 9, 10], []⟩, ⟨14, 0, [0, 5, 8, 10, 60], []⟩, ⟨15, 0, [2, 3], []⟩, ⟨16, 0, [0, 5, 8, 10, 62], []⟩, ⟨17, 0, [2, 3], []⟩, ⟨18, 0, [0, 5, 8, 10, 11], []⟩, ⟨19, 0, [0, 5, 8, 10, 11, 79], []⟩, ⟨20, 0, [2, 3], []⟩, ⟨21, 0, [0, 5, 10, 11, 81], []⟩, ⟨22, 0, [2, 3], []⟩, ⟨23, 0, [5, 10, 11, 12], []⟩, ⟨24, 0, [5, 10, 11, 12, 103], []⟩, ⟨25, 0, [2, 3], []⟩, ⟨26, 0, [2, 3], []⟩] 79 = some rc_slow := by kernel_rfl
theorem firstF_in (b : Int) : firstF b = 240 ∨ firstF b = 241 ∨ firstF b = 2 ∨ firstF b = 3 ∨ firstF b = 4 ∨ firstF b = 19 ∨ firstF b = 35 ∨ firstF b = 52 ∨ firstF b = 68 := by
  unfold firstF
  repeat (first | split | simp)
theorem w32 {x : Int} (a : 0 ≤ x) (b : x ≤ 2147483647) : IntKind.i32.wrap x = x := wI32 (by omega) b
theorem or2 (a b : Int) : IntKind.i32.wrap (BitVec.ofInt IntKind.i32.bits (IntKind.i32.wrap (IntKind.i32.wrap (a % 32) * 2 ^ min 6 IntKind.i32.bits)) ||| BitVec.ofInt IntKind.i32.bits (IntKind.i32.wrap (b % 64))).toNat = a % 32 * 64 + b % 64 := by
  have e : (2 : Int) ^ min 6 IntKind.i32.bits = 64 := rfl
  rw [e, w32 (x := a % 32) (by omega) (by omega), w32 (x := a % 32 * 64) (by omega) (by omega), w32 (x := b % 64) (by omega) (by omega)]
  exact or_i32 6 _ _ (by omega) (by omega) (by omega) (by omega) (by omega)
theorem or3 (a b c : Int) : IntKind.i32.wrap (BitVec.ofInt IntKind.i32.bits (IntKind.i32.wrap (BitVec.ofInt IntKind.i32.bits (IntKind.i32.wrap (IntKind.i32.wrap (a % 16) * 2 ^ min 12 IntKind.i32.bits)) ||| BitVec.ofInt IntKind.i32.bits (IntKind.i32.wrap (IntKind.i32.wrap (b % 64) * 2 ^ min 6 IntKind.i32.bits))).toNat) ||| BitVec.ofInt IntKind.i32.bits (IntKind.i32.wrap (c % 64))).toNat
    = a % 16 * 4096 + b % 64 * 64 + c % 64 := by
  have e : (2 : Int) ^ min 6 IntKind.i32.bits = 64 := rfl
  have e2 : (2 : Int) ^ min 12 IntKind.i32.bits = 4096 := rfl
  rw [e, e2, w32 (x := a % 16) (by omega) (by omega), w32 (x := a % 16 * 4096) (by omega) (by omega), w32 (x := b % 64) (by omega) (by omega), w32 (x := b % 64 * 64) (by omega) (by omega), w32 (x := c % 64) (by omega) (by omega)]
  rw [or_i32 12 (a % 16 * 4096) (b % 64 * 64) (by omega) (by omega) (by omega) (by omega) (by omega)]
  exact or_i32 6 _ _ (by omega) (by omega) (by omega) (by omega) (by omega)
theorem or4 (a b c d : Int) : IntKind.i32.wrap (BitVec.ofInt IntKind.i32.bits (IntKind.i32.wrap (BitVec.ofInt IntKind.i32.bits (IntKind.i32.wrap (BitVec.ofInt IntKind.i32.bits (IntKind.i32.wrap (IntKind.i32.wrap (a % 8) * 2 ^ min 18 IntKind.i32.bits)) ||| BitVec.ofInt IntKind.i32.bits (IntKind.i32.wrap (IntKind.i32.wrap (b % 64) * 2 ^ min 12 IntKind.i32.bits))).toNat) |||
      BitVec.ofInt IntKind.i32.bits (IntKind.i32.wrap (IntKind.i32.wrap (c % 64) * 2 ^ min 6 IntKind.i32.bits))).toNat) ||| BitVec.ofInt IntKind.i32.bits (IntKind.i32.wrap (d % 64))).toNat
    = a % 8 * 262144 + b % 64 * 4096 + c % 64 * 64 + d % 64 := by
  have e : (2 : Int) ^ min 6 IntKind.i32.bits = 64 := rfl
  have e2 : (2 : Int) ^ min 12 IntKind.i32.bits = 4096 := rfl
  have e3 : (2 : Int) ^ min 18 IntKind.i32.bits = 262144 := rfl
  rw [e, e2, e3, w32 (x := a % 8) (by omega) (by omega), w32 (x := a % 8 * 262144) (by omega) (by omega), w32 (x := b % 64) (by omega) (by omega), w32 (x := b % 64 * 4096) (by omega) (by omega), w32 (x := c % 64) (by omega) (by omega), w32 (x := c % 64 * 64) (by omega) (by omega), w32 (x := d % 64) (by omega) (by omega)]
  rw [or_i32 18 (a % 8 * 262144) (b % 64 * 4096) (by omega) (by omega) (by omega) (by omega) (by omega)]
  rw [or_i32 12 _ (c % 64 * 64) (by omega) (by omega) (by omega) (by omega) (by omega)]
  exact or_i32 6 _ _ (by omega) (by omega) (by omega) (by omega) (by omega)
def msk (x b : Int) : Int := IntKind.i32.wrap (BitVec.ofInt IntKind.i32.bits (IntKind.i32.wrap (BitVec.ofInt IntKind.i32.bits (IntKind.i32.wrap b) &&& ~~~BitVec.ofInt IntKind.i32.bits ((IntKind.i32.wrap (IntKind.i32.wrap x * 2 ^ min 31 IntKind.i32.bits)).fdiv (2 ^ min 31 IntKind.i32.bits))).toNat) |||
    BitVec.ofInt IntKind.i32.bits (IntKind.i32.wrap (BitVec.ofInt IntKind.i32.bits 65533 &&& BitVec.ofInt IntKind.i32.bits ((IntKind.i32.wrap (IntKind.i32.wrap x * 2 ^ min 31 IntKind.i32.bits)).fdiv (2 ^ min 31 IntKind.i32.bits))).toNat)).toNat
theorem msk_eq (b : Int) (h0 : 0 ≤ b) (h1 : b ≤ 255) : msk 240 b = b ∧ msk 241 b = 65533 := by
  have key : ∀ b : Fin 256, msk 240 (b.val : Nat) = (b.val : Nat) ∧ msk 241 (b.val : Nat) = 65533 := by decide +kernel
  have := key ⟨b.toNat, by omega⟩
  simpa [Int.toNat_of_nonneg h0] using this
theorem slow_P {sz : Nat} {k : SK} {l : List Int} (hs : sz = 1 ∨ l = []) (hk : inK .u8 l) :
    PCalls PG 79 [.sl sz (intRows .u8 l) k] fun n r os => r = .tup [.int .i32 (dec l).1, .int .i64 (dec l).2] ∧ os = [] := by
  refine FSpec.by_fn (s := ⟨True, fun n => (.tup [.int .i32 (dec l).1, .int .i64 (dec l).2], [])⟩) FOk.nil rc_slow_ok (by simp [rc_slow]) fun n => ?_
  unfold rc_slow
  dsimp only
  simp -implicitDefEqProofs -dsimp only [gv_first, gv_acc, ↓bindO_first, ↓rowAt_acc, and7_u8, and15_u8, and31_u8, and63_u8, vcR, ↓vcP1, ↓vcP2, ↓reduceIte, if_true, if_false, reduceCtorEq, implies_true, Nat.reduceLT, Nat.reduceLeDiff, Nat.reduceEqDiff, Nat.reduceAdd, Nat.reduceSub, Nat.reduceMul, Int.reduceLT, Int.reduceLE, Int.reduceEq, Int.reduceToNat, Int.reduceAdd, Int.reduceSub, Int.reduceNeg, List.reduceReplicate, ne_eq, exists_eq_left, exists_eq_left', Nat.reducePow, Int.reduceMul, Function.comp_apply]
  by_cases h0 : l.length = 0
  · have : dec l = (65533, 0) := by simp [dec, h0]
    rw [this]
    refine ⟨fun _ => ⟨rfl, rfl⟩, fun h => absurd h (by omega)⟩
  have hsz : sz = 1 := hs.resolve_right fun e => h0 (by simp [e])
  have hb0 : ∀ i, i < l.length → 0 ≤ l.getD i 0 ∧ l.getD i 0 ≤ 255 := fun i hi => by
    rw [List.getD_eq_getElem?_getD, List.getElem?_eq_getElem hi]
    exact hk.u8 (List.getElem_mem hi)
  obtain ⟨h00, h01⟩ := hb0 0 (by omega)
  refine ⟨fun h => absurd h (by omega), fun _ => ⟨⟨by omega, hsz⟩, by omega, ⟨h00, by omega⟩, by omega, ?_⟩⟩
  rw [Int.toNat_of_nonneg h00]
  have hw : ∀ x : Int, IntKind.i64.wrap (x % 8) = x % 8 := fun x => wI64 (by omega) (by omega)
  have hfd : ∀ x : Int, x.fdiv (2 ^ min 4 IntKind.u8.bits) = x / 16 := fun x => Int.fdiv_eq_ediv_of_nonneg x (by decide)
  simp only [hw, hfd, or2, or3, or4]
  have hm := msk_eq _ h00 h01
  unfold msk at hm
  rcases firstF_in (l.getD 0 0) with hX | hX | hX | hX | hX | hX | hX | hX | hX <;> simp only [dec, h0, hX, if_false] <;> clear hX
  · rw [hm.1]; simp [hsz]; omega
  · rw [hm.2]; simp [hsz]; omega
  all_goals
    clear hm
    simp [hsz, accLo, accHi]
    grind
noncomputable def rc_decode_l0 : RC := (.seq (.reg [⟨some 9, .bin .lss (.t 8) (.t 7), none, false⟩] 0 [0, 6, 8, 9]) (.seq (.cond (.t 9) .skip (.ext 0)) (.seq (.blk 1 (.seq (.reg [⟨some 10, .iaddr 1 (.t 6) (.t 8), none, false⟩, ⟨some 11, .load false 1 (.t 10), none, false⟩, ⟨some 5, .mov (.t 11), none, false⟩] 0 [0, 5]) (.seq (.seq (.reg [⟨some 12, .mov (.t 5), none, false⟩, ⟨some 13, .bin .lss (.t 12) (.c (.int .u8 128)), none, false⟩] 0 [0, 5, 13]) (.cond (.t 13) (.seq (.reg [⟨some 14, .mov (.t 5), none, false⟩, ⟨some 15, .conv (.i2i .i32) (.t 14), none, false⟩, ⟨some 2, .mov (.t 15), none, false⟩, ⟨some 3, .mov (.c (.int .i64 1)), none, false⟩] 0 [2, 3]) .ret) .skip)) (.ext 0)))) (.reg [⟨some 16, .bin .add (.t 8) (.c (.int .i64 1)), none, false⟩, ⟨some 8, .mov (.t 16), none, false⟩] 0 [0, 6, 7, 8]))))
noncomputable def rc_decode : RFn := ⟨1, 22, .seq (.reg [⟨some 2, .mov (.c (.int .i32 0)), none, false⟩, ⟨some 3, .mov (.c (.int .i64 0)), none, false⟩] 0 [0]) (.seq (.seq (.reg [⟨some 6, .mov (.t 0), none, false⟩, ⟨some 7, .len (.t 6), none, false⟩, ⟨some 8, .mov (.c (.int .i64 0)), none, false⟩] 0 [0, 6, 7, 8]) (.blk 0 (.loop rc_decode_l0))) (.seq (.reg [⟨some 18, .mov (.t 0), none, false⟩, ⟨some 19, .call 79 [.t 18], none, false⟩, ⟨some 17, .mov (.t 19), none, false⟩, ⟨some 20, .ext (.t 17) 0, none, false⟩, ⟨some 21, .ext (.t 17) 1, none, false⟩, ⟨some 2, .mov (.t 20), none, false⟩, ⟨some 3, .mov (.t 21), none, false⟩] 0 [2, 3]) .ret)), [.t 2, .t 3]⟩
theorem rc_decode_ok : compFn PG.P [⟨0, 0, [0], []⟩, ⟨1, 0, [0, 6, 7, 8], []⟩, ⟨2, 0, [0, 6, 8, 9], []⟩, ⟨3, 0, [0, 5], []⟩, ⟨4, 0, [0, 5, 13], []⟩, ⟨5, 0, [2, 3], []⟩, ⟨6, 0, [0, 6, 7, 8], []⟩, ⟨7, 0, [2, 3], []⟩] 76 = some rc_decode := by kernel_rfl
noncomputable def rc_full : RFn := ⟨1, 56, .seq (.reg [⟨some 2, .mov (.c (.bool false)), none, false⟩] 0 [0]) (.seq (.reg [⟨some 6, .mov (.t 0), none, false⟩, ⟨some 7, .len (.t 6), none, false⟩, ⟨some 3, .mov (.t 7), none, false⟩] 0 [0, 3]) (.seq (.seq (.reg [⟨some 8, .mov (.t 3), none, false⟩, ⟨some 9, .bin .eql (.t 8) (.c (.int .i64 0)), none, false⟩] 0 [0, 3, 9]) (.cond (.t 9) (.seq (.reg [⟨some 2, .mov (.c (.bool false)), none, false⟩] 0 [2]) .ret) .skip)) (.seq (.reg [⟨some 10, .mov (.t 0), none, false⟩, ⟨some 11, .iaddr 1 (.t 10) (.c (.int .i64 0)), none, false⟩, ⟨some 12, .load false 1 (.t 11), none, false⟩, ⟨some 13, .iaddrA 256 1 (.g 1) (.t 12), none, false⟩, ⟨some 14, .load false 1 (.t 13), none, false⟩, ⟨some 4, .mov (.t 14), none, false⟩] 0 [0, 3, 4]) (.seq (.seq (.reg [⟨some 15, .mov (.t 3), none, false⟩, ⟨some 16, .mov (.t 4), none, false⟩, ⟨some 17, .bin .and (.t 16) (.c (.int .u8 7)), none, false⟩, ⟨some 18, .conv (.i2i .i64) (.t 17), none, false⟩, ⟨some 19, .bin .geq (.t 15) (.t 18), none, false⟩] 0 [0, 3, 4, 19]) (.cond (.t 19) (.seq (.reg [⟨some 2, .mov (.c (.bool true)), none, false⟩] 0 [2]) .ret) .skip)) (.seq (.reg [⟨some 20, .mov (.t 4), none, false⟩, ⟨some 21, .bin .shr (.t 20) (.c (.int .u64 4)), none, false⟩, ⟨some 22, .iaddrA 16 2 (.g 2) (.t 21), none, false⟩, ⟨some 23, .load true 2 (.t 22), none, false⟩, ⟨some 5, .alloc [.int .u8 0, .int .u8 0], none, false⟩, ⟨none, .store 2 (.t 5) (.t 23), none, false⟩] 0 [0, 3, 5]) (.seq (.seq (.regD (.take ⟨some 24, .mov (.t 3), none, false⟩ [] (.take ⟨some 25, .bin .gtr (.t 24) (.c (.int .i64 1)), none, false⟩ [] (.take ⟨some 26, .mov (.t 25), none, false⟩ [] (.take ⟨some 27, .mov (.t 0), some (26, true), false⟩ [] (.take ⟨some 28, .iaddr 1 (.t 27) (.c (.int .i64 1)), some (26, true), false⟩ [] (.take ⟨some 29, .load false 1 (.t 28), some (26, true), false⟩ [] (.take ⟨some 30, .faddr 0 (.t 5), some (26, true), false⟩ [] (.take ⟨some 31, .load false 1 (.t 30), some (26, true), false⟩ [] (.take ⟨some 32, .bin .lss (.t 29) (.t 31), some (26, true), false⟩ [] (.take ⟨some 33, .mov (.t 32), some (26, true), false⟩ [] (.take ⟨some 34, .faddr 1 (.t 5), some (33, false), false⟩ [] (.take ⟨some 35, .load false 1 (.t 34), some (33, false), false⟩ [] (.take ⟨some 36, .mov (.t 0), some (33, false), false⟩ [] (.take ⟨some 37, .iaddr 1 (.t 36) (.c (.int .i64 1)), some (33, false), false⟩ [] (.take ⟨some 38, .load false 1 (.t 37), some (33, false), false⟩ [] (.take ⟨some 39, .bin .lss (.t 35) (.t 38), some (33, false), false⟩ [] (.take ⟨some 40, .pick (.t 33) (.c (.bool true)) (.t 39), some (26, true), false⟩ [] (.take ⟨some 41, .pick (.t 26) (.t 40) (.c (.bool false)), none, false⟩ [] .done)))))))))))))))))) 0 [0, 3, 41]) (.cond (.t 41) (.seq (.reg [⟨some 2, .mov (.c (.bool true)), none, false⟩] 0 [2]) .ret) (.seq (.reg [⟨some 42, .mov (.t 3), none, false⟩, ⟨some 43, .bin .gtr (.t 42) (.c (.int .i64 2)), none, false⟩, ⟨some 44, .mov (.t 43), none, false⟩, ⟨some 45, .mov (.t 0), some (44, true), false⟩, ⟨some 46, .iaddr 1 (.t 45) (.c (.int .i64 2)), some (44, true), false⟩, ⟨some 47, .load false 1 (.t 46), some (44, true), false⟩, ⟨some 48, .bin .lss (.t 47) (.c (.int .u8 128)), some (44, true), false⟩, ⟨some 49, .mov (.t 48), some (44, true), false⟩, ⟨some 50, .mov (.t 0), some (49, false), false⟩, ⟨some 51, .iaddr 1 (.t 50) (.c (.int .i64 2)), some (49, false), false⟩, ⟨some 52, .load false 1 (.t 51), some (49, false), false⟩, ⟨some 53, .bin .lss (.c (.int .u8 191)) (.t 52), some (49, false), false⟩, ⟨some 54, .pick (.t 49) (.c (.bool true)) (.t 53), some (44, true), false⟩, ⟨some 55, .pick (.t 44) (.t 54) (.c (.bool false)), none, false⟩] 0 [55]) (.cond (.t 55) (.seq (.reg [⟨some 2, .mov (.c (.bool true)), none, false⟩] 0 [2]) .ret) .skip)))) (.seq (.reg [⟨some 2, .mov (.c (.bool false)), none, false⟩] 0 [2]) .ret))))))), [.t 2]⟩
theorem rc_full_ok : compFn PG.P [⟨0, 0, [0], []⟩, ⟨1, 0, [0, 3], []⟩, ⟨2, 0, [0, 3, 9], []⟩, ⟨3, 0, [2], []⟩, ⟨4, 0, [0, 3, 4], []⟩, ⟨5, 0, [0, 3, 4, 19], []⟩, ⟨6, 0, [2], []⟩, ⟨7, 0, [0, 3, 5], []⟩, ⟨8, 0, [0, 3, 41], []⟩, ⟨9, 0, [2], []⟩, ⟨10, 0, [55], []⟩, ⟨11, 0, [2], []⟩, ⟨12, 0, [2], []⟩] 78 = some rc_full := by kernel_rfl
theorem tab_cons (f : Nat) (g : Ent) (l : FL) (k : Nat) (args : List DV) : tab ((f, g) :: l) k args = if k = f then g.app args else tab l k args := tab_eq f g l k args
def F_slow : List DV → Option FSpec
  | [a] => some ⟨isInts .u8 a, fun _ => (.tup [.int .i32 (dec (intsD a)).1, .int .i64 (dec (intsD a)).2], [])⟩
  | _ => none
theorem F_slow_1 (a : DV) : F_slow [a] = some ⟨isInts .u8 a, fun _ => (.tup [.int .i32 (dec (intsD a)).1, .int .i64 (dec (intsD a)).2], [])⟩ := nrfl _
theorem slow_ok (args : List DV) (s : FSpec) (hs : F_slow args = some s) (hp : s.pre) : PCalls PG 79 args fun n r os => r = (s.res n).1 ∧ os = (s.res n).2 := by
  unfold F_slow at hs
  split at hs
  · rename_i a
    obtain rfl := sj hs
    obtain ⟨sa, ka, ha, ha2, ha3⟩ := isInts_inv hp
    have := slow_P (k := ka) ha2 ha3
    rw [← ha] at this
    exact this
  · cases hs
theorem isInts_mk {k : IntKind} {sz : Nat} {l : List Int} {s : SK} (hs : sz = 1 ∨ l = []) (hk : inK k l) : isInts k (.sl sz (intRows k l) s) := by
  simp only [isInts, ints_intRows, intRows_eq_nil]
  exact ⟨trivial, hs, hk⟩
def T1 : FL := [(79, F_slow), (28, F_may), (37, F_runes)]
theorem T1_ok : FOk PG (tab T1) := FOk.cons (FOk.cons (FOk.cons FOk.nil runes_ok) may_ok) slow_ok
theorem decode_P {sz : Nat} {k : SK} {l : List Int} (hs : sz = 1 ∨ l = []) (hk : inK .u8 l) :
    PCalls PG 76 [.sl sz (intRows .u8 l) k] fun n r os => r = .tup [.int .i32 (dec l).1, .int .i64 (dec l).2] ∧ os = [] := by
  refine FSpec.by_fn (s := ⟨True, fun n => (.tup [.int .i32 (dec l).1, .int .i64 (dec l).2], [])⟩) T1_ok rc_decode_ok (by simp [rc_decode]) fun n => ?_
  unfold rc_decode
  dsimp only
  simp -implicitDefEqProofs -dsimp only [vcR, ↓vcP1, ↓vcP2, ↓reduceIte, if_true, if_false, reduceCtorEq, implies_true, Nat.reduceLT, Nat.reduceLeDiff, Nat.reduceEqDiff, Nat.reduceAdd, Nat.reduceSub, Nat.reduceMul, Int.reduceLT, Int.reduceLE, Int.reduceEq, Int.reduceToNat, Int.reduceAdd, Int.reduceSub, Int.reduceNeg, List.reduceReplicate, ne_eq, exists_eq_left, exists_eq_left', Nat.reducePow, Int.reduceMul, Function.comp_apply]
  refine LoopWp.inv T1_ok (S := fun _ : Unit => ⟨[(0, .sl sz (intRows .u8 l) k), (6, .sl sz (intRows .u8 l) k), (7, .int .i64 l.length), (8, .int .i64 0)], List.replicate n none⟩) (I := fun _ => True) (μ := fun _ => 0) () trivial ?_ ?_
  · simp -implicitDefEqProofs -dsimp only [vcR, ↓vcP1, ↓vcP2, ↓reduceIte, if_true, if_false, reduceCtorEq, implies_true, Nat.reduceLT, Nat.reduceLeDiff, Nat.reduceEqDiff, Nat.reduceAdd, Nat.reduceSub, Nat.reduceMul, Int.reduceLT, Int.reduceLE, Int.reduceEq, Int.reduceToNat, Int.reduceAdd, Int.reduceSub, Int.reduceNeg, List.reduceReplicate, ne_eq, exists_eq_left, exists_eq_left', Nat.reducePow, Int.reduceMul, Function.comp_apply]
  · intro _ _
    unfold rc_decode_l0 T1
    simp -implicitDefEqProofs -dsimp only [tab_cons, F_slow_1, isInts_sl, vcR, ↓vcP1, ↓vcP2, ↓reduceIte, if_true, if_false, reduceCtorEq, implies_true, Nat.reduceLT, Nat.reduceLeDiff, Nat.reduceEqDiff, Nat.reduceAdd, Nat.reduceSub, Nat.reduceMul, Int.reduceLT, Int.reduceLE, Int.reduceEq, Int.reduceToNat, Int.reduceAdd, Int.reduceSub, Int.reduceNeg, List.reduceReplicate, ne_eq, exists_eq_left, exists_eq_left', Nat.reducePow, Int.reduceMul, Function.comp_apply]
    have hi : isInts .u8 (.sl sz (intRows .u8 l) k) := isInts_mk hs hk
    refine ⟨fun h => ?_, fun _ => hi⟩
    have h0 : 0 < l.length := by omega
    have hne : l ≠ [] := fun e => by simp [e] at h0
    have hb : 0 ≤ l.getD 0 0 ∧ l.getD 0 0 ≤ 255 := by
      rw [List.getD_eq_getElem?_getD, List.getElem?_eq_getElem h0]
      exact hk.u8 (List.getElem_mem h0)
    refine ⟨⟨by omega, hs.resolve_right hne⟩, h0, fun h => ?_, fun _ => hi⟩
    have hf : firstF (l.getD 0 0) = 240 := by unfold firstF; rw [if_pos h]
    rw [w32 hb.1 (by omega)]
    simp only [dec, hf]
    have : ¬ l.length = 0 := by omega
    simp [this]
def F_decode : List DV → Option FSpec
  | [a] => some ⟨isInts .u8 a, fun _ => (.tup [.int .i32 (dec (intsD a)).1, .int .i64 (dec (intsD a)).2], [])⟩
  | _ => none
theorem F_decode_1 (a : DV) : F_decode [a] = some ⟨isInts .u8 a, fun _ => (.tup [.int .i32 (dec (intsD a)).1, .int .i64 (dec (intsD a)).2], [])⟩ := nrfl _
theorem decode_ok (args : List DV) (s : FSpec) (hs : F_decode args = some s) (hp : s.pre) : PCalls PG 76 args fun n r os => r = (s.res n).1 ∧ os = (s.res n).2 := by
  unfold F_decode at hs
  split at hs
  · rename_i a
    obtain rfl := sj hs
    obtain ⟨sa, ka, ha, ha2, ha3⟩ := isInts_inv hp
    have := decode_P (k := ka) ha2 ha3
    rw [← ha] at this
    exact this
  · cases hs
def full (p : List Int) : Bool :=
  if p.length = 0 then false
  else if firstF (p.getD 0 0) % 8 ≤ (p.length : Int) then true
  else if 1 < p.length ∧ (p.getD 1 0 < accLo (firstF (p.getD 0 0) / 16) ∨ accHi (firstF (p.getD 0 0) / 16) < p.getD 1 0) then true
  else if 2 < p.length ∧ (p.getD 2 0 < 128 ∨ 191 < p.getD 2 0) then true
  else false
theorem full_P {sz : Nat} {k : SK} {l : List Int} (hs : sz = 1 ∨ l = []) (hk : inK .u8 l) :
    PCalls PG 78 [.sl sz (intRows .u8 l) k] fun n r os => r = .bool (full l) ∧ os = [] := by
  refine FSpec.by_fn (s := ⟨True, fun n => (.bool (full l), [])⟩) FOk.nil rc_full_ok (by simp [rc_full]) fun n => ?_
  unfold rc_full
  dsimp only
  simp -implicitDefEqProofs -dsimp only [gv_first, gv_acc, ↓bindO_first, ↓rowAt_acc, and7_u8, and15_u8, and31_u8, and63_u8, vcR, ↓vcP1, ↓vcP2, ↓reduceIte, if_true, if_false, reduceCtorEq, implies_true, Nat.reduceLT, Nat.reduceLeDiff, Nat.reduceEqDiff, Nat.reduceAdd, Nat.reduceSub, Nat.reduceMul, Int.reduceLT, Int.reduceLE, Int.reduceEq, Int.reduceToNat, Int.reduceAdd, Int.reduceSub, Int.reduceNeg, List.reduceReplicate, ne_eq, exists_eq_left, exists_eq_left', Nat.reducePow, Int.reduceMul, Function.comp_apply]
  by_cases h0 : l.length = 0
  · have : full l = false := by simp [full, h0]
    rw [this]
    refine ⟨fun _ => rfl, fun h => absurd h (by omega)⟩
  have hsz : sz = 1 := hs.resolve_right fun e => h0 (by simp [e])
  have hb0 : ∀ i, i < l.length → 0 ≤ l.getD i 0 ∧ l.getD i 0 ≤ 255 := fun i hi => by
    rw [List.getD_eq_getElem?_getD, List.getElem?_eq_getElem hi]
    exact hk.u8 (List.getElem_mem hi)
  obtain ⟨h00, h01⟩ := hb0 0 (by omega)
  refine ⟨fun h => absurd h (by omega), fun _ => ⟨⟨by omega, hsz⟩, by omega, ⟨h00, by omega⟩, by omega, ?_⟩⟩
  rw [Int.toNat_of_nonneg h00]
  have hw : ∀ x : Int, IntKind.i64.wrap (x % 8) = x % 8 := fun x => wI64 (by omega) (by omega)
  have hfd : ∀ x : Int, x.fdiv (2 ^ min 4 IntKind.u8.bits) = x / 16 := fun x => Int.fdiv_eq_ediv_of_nonneg x (by decide)
  simp only [hw, hfd]
  rcases firstF_in (l.getD 0 0) with hX | hX | hX | hX | hX | hX | hX | hX | hX <;> simp only [full, h0, hX, if_false] <;> clear hX
  all_goals simp [hsz, accLo, accHi]
  all_goals grind
noncomputable def rc_cloneB : RFn := ⟨1, 8, .seq (.reg [⟨some 2, .mov (.c (.sl 0 [] .nil)), none, false⟩] 0 [0]) (.seq (.seq (.reg [⟨some 3, .mov (.t 0), none, false⟩, ⟨some 4, .eqNil false (.t 3) (.c (.sl 0 [] .nil)), none, false⟩] 0 [0, 4]) (.cond (.t 4) (.seq (.reg [⟨some 2, .mov (.c (.sl 0 [] .nil)), none, false⟩] 0 [2]) .ret) .skip)) (.seq (.reg [⟨some 5, .mkrow 1 [.int .u8 0] 0 [], none, false⟩, ⟨some 6, .mov (.t 0), none, false⟩, ⟨some 7, .append 1 1 (.t 5) (.t 6), none, false⟩, ⟨some 2, .mov (.t 7), none, false⟩] 0 [2]) .ret)), [.t 2]⟩
theorem rc_cloneB_ok : compFn PG.P [⟨0, 0, [0], []⟩, ⟨1, 0, [0, 4], []⟩, ⟨2, 0, [2], []⟩, ⟨3, 0, [2], []⟩] 75 = some rc_cloneB := by kernel_rfl
noncomputable def rc_ubegins : RFn := ⟨1, 22, .seq (.reg [⟨some 2, .mov (.c (.bool false)), none, false⟩] 0 [0]) (.seq (.reg [⟨some 3, .mov (.t 0), none, false⟩, ⟨some 4, .len (.t 3), none, false⟩, ⟨some 5, .bin .gtr (.t 4) (.c (.int .i64 0)), none, false⟩, ⟨some 6, .mov (.t 5), none, false⟩, ⟨some 7, .mov (.t 0), some (6, true), false⟩, ⟨some 8, .len (.t 7), some (6, true), false⟩, ⟨some 9, .bin .lss (.t 8) (.c (.int .i64 4)), some (6, true), false⟩, ⟨some 10, .pick (.t 6) (.t 9) (.c (.bool false)), none, false⟩, ⟨some 11, .mov (.t 10), none, false⟩, ⟨some 12, .mov (.t 0), some (11, true), false⟩, ⟨some 13, .iaddr 1 (.t 12) (.c (.int .i64 0)), some (11, true), false⟩, ⟨some 14, .load false 1 (.t 13), some (11, true), false⟩, ⟨some 15, .bin .geq (.t 14) (.c (.int .u8 128)), some (11, true), false⟩, ⟨some 16, .pick (.t 11) (.t 15) (.c (.bool false)), none, false⟩, ⟨some 17, .mov (.t 16), none, false⟩, ⟨some 18, .mov (.t 0), some (17, true), false⟩, ⟨some 19, .call 78 [.t 18], some (17, true), false⟩, ⟨some 20, .un .not (.t 19), some (17, true), false⟩, ⟨some 21, .pick (.t 17) (.t 20) (.c (.bool false)), none, false⟩, ⟨some 2, .mov (.t 21), none, false⟩] 0 [2]) .ret), [.t 2]⟩
theorem rc_ubegins_ok : compFn PG.P [⟨0, 0, [0], []⟩, ⟨1, 0, [2], []⟩] 74 = some rc_ubegins := by kernel_rfl
theorem cloneB_nil {sz : Nat} : PCalls PG 75 [.sl sz [] .nil] fun n r os => r = .sl 0 [] .nil ∧ os = [] := by
  refine FSpec.by_fn (s := ⟨True, fun n => (.sl 0 [] .nil, [])⟩) FOk.nil rc_cloneB_ok (by simp [rc_cloneB]) fun n => ?_
  unfold rc_cloneB
  dsimp only
  simp -implicitDefEqProofs -dsimp only [vcR, ↓vcP1, ↓vcP2, ↓reduceIte, if_true, if_false, reduceCtorEq, implies_true, Nat.reduceLT, Nat.reduceLeDiff, Nat.reduceEqDiff, Nat.reduceAdd, Nat.reduceSub, Nat.reduceMul, Int.reduceLT, Int.reduceLE, Int.reduceEq, Int.reduceToNat, Int.reduceAdd, Int.reduceSub, Int.reduceNeg, List.reduceReplicate, ne_eq, exists_eq_left, exists_eq_left', Nat.reducePow, Int.reduceMul, Function.comp_apply]
theorem cloneB_P {sz : Nat} {l : List Int} (hs : sz = 1 ∨ l = []) (hk : inK .u8 l) (hl : l.length ≤ 140737488355328) : PCalls PG 75 [.sl sz (intRows .u8 l) .nonnil] fun n r os => r = .own n 0 l.length ∧ os = [some (.arr 1 (intRows .u8 l))] := by
  refine FSpec.by_fn (s := ⟨True, fun n => (.own n 0 l.length, [some (.arr 1 (intRows .u8 l))])⟩) FOk.nil rc_cloneB_ok (by simp [rc_cloneB]) fun n => ?_
  unfold rc_cloneB
  dsimp only
  simp -implicitDefEqProofs -dsimp only [vcR, ↓vcP1, ↓vcP2, ↓reduceIte, if_true, if_false, reduceCtorEq, implies_true, Nat.reduceLT, Nat.reduceLeDiff, Nat.reduceEqDiff, Nat.reduceAdd, Nat.reduceSub, Nat.reduceMul, Int.reduceLT, Int.reduceLE, Int.reduceEq, Int.reduceToNat, Int.reduceAdd, Int.reduceSub, Int.reduceNeg, List.reduceReplicate, ne_eq, exists_eq_left, exists_eq_left', Nat.reducePow, Int.reduceMul, Function.comp_apply]
  exact ⟨hs.imp id fun h => by simp [h, intRows], hl, by omega⟩
def F_clone : List DV → Option FSpec
  | [.sl sz rows k] => match k with
    | .nil => some ⟨rows = [], fun _ => (.sl 0 [] .nil, [])⟩
    | .nonnil => some ⟨isInts .u8 (.sl sz rows .nonnil) ∧ rows.length ≤ 140737488355328, fun n => (.own n 0 rows.length, [some (.arr 1 rows)])⟩
    | _ => none
  | _ => none
theorem F_clone_nil (sz : Nat) (rows : List (List DV)) : F_clone [.sl sz rows .nil] = some ⟨rows = [], fun _ => (.sl 0 [] .nil, [])⟩ := nrfl _
theorem F_clone_non (sz : Nat) (rows : List (List DV)) : F_clone [.sl sz rows .nonnil] = some ⟨isInts .u8 (.sl sz rows .nonnil) ∧ rows.length ≤ 140737488355328, fun n => (.own n 0 rows.length, [some (.arr 1 rows)])⟩ := nrfl _
theorem clone_ok (args : List DV) (s : FSpec) (hs : F_clone args = some s) (hp : s.pre) : PCalls PG 75 args fun n r os => r = (s.res n).1 ∧ os = (s.res n).2 := by
  unfold F_clone at hs
  split at hs
  · rename_i sz rows k
    split at hs
    · obtain rfl := sj hs
      have hp : rows = [] := hp
      subst hp
      exact cloneB_nil
    · obtain rfl := sj hs
      obtain ⟨⟨h1, h2, h3⟩, h4⟩ := hp
      have h5 : rows.length = (ints rows).length := by simp [ints]
      have := cloneB_P (sz := sz) (l := ints rows) (h2.imp id fun h => by simp [h, ints]) h3 (by omega)
      rw [← h1, ← h5] at this
      exact this
    · cases hs
  · cases hs
def F_full : List DV → Option FSpec
  | [a] => some ⟨isInts .u8 a, fun _ => (.bool (full (intsD a)), [])⟩
  | _ => none
theorem F_full_1 (a : DV) : F_full [a] = some ⟨isInts .u8 a, fun _ => (.bool (full (intsD a)), [])⟩ := nrfl _
theorem full_ok (args : List DV) (s : FSpec) (hs : F_full args = some s) (hp : s.pre) : PCalls PG 78 args fun n r os => r = (s.res n).1 ∧ os = (s.res n).2 := by
  unfold F_full at hs
  split at hs
  · rename_i a
    obtain rfl := sj hs
    obtain ⟨sa, ka, ha, ha2, ha3⟩ := isInts_inv hp
    have := full_P (k := ka) ha2 ha3
    rw [← ha] at this
    exact this
  · cases hs
def T2 : FL := (76, F_decode) :: (78, F_full) :: (75, F_clone) :: T1
theorem T2_ok : FOk PG (tab T2) := FOk.cons (FOk.cons (FOk.cons T1_ok clone_ok) full_ok) decode_ok
def ubeg (l : List Int) : Bool := decide (0 < l.length) && decide (l.length < 4) && decide (128 ≤ l.getD 0 0) && !full l
theorem ubegins_P {sz : Nat} {k : SK} {l : List Int} (hs : sz = 1 ∨ l = []) (hk : inK .u8 l) :
    PCalls PG 74 [.sl sz (intRows .u8 l) k] fun n r os => r = .bool (ubeg l) ∧ os = [] := by
  refine FSpec.by_fn (s := ⟨True, fun n => (.bool (ubeg l), [])⟩) T2_ok rc_ubegins_ok (by simp [rc_ubegins]) fun n => ?_
  unfold rc_ubegins T2
  dsimp only
  simp -implicitDefEqProofs -dsimp only [tab_cons, F_full_1, vcR, ↓vcP1, ↓vcP2, ↓reduceIte, if_true, if_false, reduceCtorEq, implies_true, Nat.reduceLT, Nat.reduceLeDiff, Nat.reduceEqDiff, Nat.reduceAdd, Nat.reduceSub, Nat.reduceMul, Int.reduceLT, Int.reduceLE, Int.reduceEq, Int.reduceToNat, Int.reduceAdd, Int.reduceSub, Int.reduceNeg, List.reduceReplicate, ne_eq, exists_eq_left, exists_eq_left', Nat.reducePow, Int.reduceMul, Function.comp_apply]
  have hi : isInts .u8 (.sl sz (intRows .u8 l) k) := isInts_mk hs hk
  have hne : 0 < l.length → sz = 1 := fun h => hs.resolve_right fun e => by simp [e] at h
  simp only [hi, ubeg]
  grind
def enc (r : Int) : List Int :=
  if 0 ≤ r ∧ r ≤ 127 then [r]
  else if 0 ≤ r ∧ r ≤ 2047 then [192 + r / 64, 128 + r % 64]
  else if (0 ≤ r ∧ r < 55296) ∨ (57343 < r ∧ r ≤ 65535) then [224 + r / 4096, 128 + r / 64 % 64, 128 + r % 64]
  else if 65535 < r ∧ r ≤ 1114111 then [240 + r / 262144, 128 + r / 4096 % 64, 128 + r / 64 % 64, 128 + r % 64]
  else [239, 191, 189]
noncomputable def rc_ustep : RFn := ⟨2, 54, .seq (.reg [⟨some 4, .mov (.c (.sl 0 [] .nil)), none, false⟩, ⟨some 5, .mov (.c (.sl 0 [] .nil)), none, false⟩] 0 [0, 1]) (.seq (.seq (.reg [⟨some 11, .mov (.t 0), none, false⟩, ⟨some 12, .call 74 [.t 11], none, false⟩, ⟨some 13, .un .not (.t 12), none, false⟩] 0 [0, 1, 13]) (.cond (.t 13) (.reg [⟨some 0, .mov (.c (.sl 0 [] .nil)), none, false⟩] 0 [0, 1]) .skip)) (.seq (.reg [⟨some 14, .mov (.t 0), none, false⟩, ⟨some 15, .call 75 [.t 14], none, false⟩, ⟨some 16, .mov (.t 1), none, false⟩, ⟨some 17, .mkrow 1 [.int .u8 0] 1 [(0, (.t 16))], none, false⟩, ⟨some 18, .append 1 1 (.t 15) (.t 17), none, false⟩, ⟨some 6, .mov (.t 18), none, true⟩] 0 [0, 1, 6]) (.seq (.seq (.reg [⟨some 20, .mov (.t 6), none, false⟩, ⟨some 21, .call 76 [.t 20], none, false⟩, ⟨some 19, .mov (.t 21), none, false⟩, ⟨some 22, .ext (.t 19) 0, none, false⟩, ⟨some 23, .ext (.t 19) 1, none, false⟩, ⟨some 7, .mov (.t 22), none, false⟩, ⟨some 8, .mov (.t 23), none, false⟩] 0 [0, 1, 6, 7, 8]) (.seq (.reg [⟨some 24, .mov (.t 8), none, false⟩, ⟨some 25, .mov (.t 6), none, false⟩, ⟨some 26, .len (.t 25), none, false⟩, ⟨some 27, .bin .eql (.t 24) (.t 26), none, false⟩, ⟨some 28, .mov (.t 27), none, false⟩, ⟨some 29, .mov (.t 7), some (28, true), false⟩, ⟨some 30, .bin .neq (.t 29) (.c (.int .i32 65533)), some (28, true), false⟩, ⟨some 31, .mov (.t 30), some (28, true), false⟩, ⟨some 32, .mov (.t 8), some (31, false), false⟩, ⟨some 33, .bin .gtr (.t 32) (.c (.int .i64 1)), some (31, false), false⟩, ⟨some 34, .pick (.t 31) (.c (.bool true)) (.t 33), some (28, true), false⟩, ⟨some 35, .pick (.t 28) (.t 34) (.c (.bool false)), none, false⟩] 0 [0, 1, 6, 7, 35]) (.cond (.t 35) (.seq (.reg [⟨some 36, .mov (.t 7), none, false⟩, ⟨some 37, .mkrow 1 [.int .i32 0] 1 [(0, (.t 36))], none, false⟩, ⟨some 4, .mov (.c (.sl 0 [] .nil)), none, false⟩, ⟨some 5, .mov (.t 37), none, true⟩] 0 [4, 5]) .ret) .skip))) (.seq (.seq (.reg [⟨some 38, .mov (.t 6), none, false⟩, ⟨some 39, .call 74 [.t 38], none, false⟩] 0 [0, 1, 6, 39]) (.cond (.t 39) (.seq (.reg [⟨some 40, .mov (.t 6), none, false⟩, ⟨some 4, .mov (.t 40), none, false⟩, ⟨some 5, .mov (.c (.sl 0 [] .nil)), none, false⟩] 0 [4, 5]) .ret) .skip)) (.seq (.seq (.reg [⟨some 41, .mov (.t 0), none, false⟩, ⟨some 42, .len (.t 41), none, false⟩, ⟨some 43, .bin .eql (.t 42) (.c (.int .i64 0)), none, false⟩] 0 [1, 43]) (.cond (.t 43) (.seq (.reg [⟨some 44, .mkrow 1 [.int .i32 0] 1 [(0, (.c (.int .i32 65533)))], none, false⟩, ⟨some 4, .mov (.c (.sl 0 [] .nil)), none, false⟩, ⟨some 5, .mov (.t 44), none, true⟩] 0 [4, 5]) .ret) .skip)) (.seq (.reg [⟨some 46, .mov (.t 1), none, false⟩, ⟨some 47, .call 66 [.c (.sl 0 [] .nil), .t 46], none, false⟩, ⟨some 45, .mov (.t 47), none, false⟩, ⟨some 48, .ext (.t 45) 0, none, false⟩, ⟨some 49, .ext (.t 45) 1, none, false⟩, ⟨some 9, .mov (.t 48), none, false⟩, ⟨some 10, .mov (.t 49), none, false⟩] 0 [9, 10]) (.seq (.reg [⟨some 50, .mov (.t 9), none, false⟩, ⟨some 51, .mkrow 1 [.int .i32 0] 1 [(0, (.c (.int .i32 65533)))], none, false⟩, ⟨some 52, .mov (.t 10), none, false⟩, ⟨some 53, .append 1 4 (.t 51) (.t 52), none, false⟩, ⟨some 4, .mov (.t 50), none, false⟩, ⟨some 5, .mov (.t 53), none, true⟩] 0 [4, 5]) .ret))))))), [.t 4, .t 5]⟩
theorem rc_ustep_ok : compFn PG.P [⟨0, 0, [0, 1], []⟩, ⟨1, 0, [0, 1, 13], []⟩, ⟨2, 0, [0, 1], []⟩, ⟨3, 0, [0, 1, 6], [6]⟩, ⟨4, 0, [0, 1, 6, 7, 8], []⟩, ⟨5, 0, [0, 1, 6, 7, 35], []⟩, ⟨6, 0, [4, 5], [5]⟩, ⟨7, 0, [0, 1, 6, 39], []⟩, ⟨8, 0, [4, 5], []⟩, ⟨9, 0, [1, 43], []⟩, ⟨10, 0, [4, 5], [5]⟩, ⟨11, 0, [9, 10], []⟩, ⟨12, 0, [4, 5], [5]⟩] 66 = some rc_ustep := by kernel_rfl
def F_ubegins : List DV → Option FSpec
  | [a] => some ⟨isInts .u8 a, fun _ => (.bool (ubeg (intsD a)), [])⟩
  | _ => none
theorem F_ubegins_1 (a : DV) : F_ubegins [a] = some ⟨isInts .u8 a, fun _ => (.bool (ubeg (intsD a)), [])⟩ := nrfl _
theorem ubegins_ok (args : List DV) (s : FSpec) (hs : F_ubegins args = some s) (hp : s.pre) : PCalls PG 74 args fun n r os => r = (s.res n).1 ∧ os = (s.res n).2 := by
  unfold F_ubegins at hs
  split at hs
  · rename_i a
    obtain rfl := sj hs
    obtain ⟨sa, ka, ha, ha2, ha3⟩ := isInts_inv hp
    have := ubegins_P (k := ka) ha2 ha3
    rw [← ha] at this
    exact this
  · cases hs
def T3 : FL := (74, F_ubegins) :: T2
theorem T3_ok : FOk PG (tab T3) := FOk.cons T2_ok ubegins_ok
def ustepA (p : List Int) (b : Int) : List Int × List Int :=
  if (dec (p ++ [b])).2 = ((p ++ [b]).length : Int) ∧ ((dec (p ++ [b])).1 ≠ 65533 ∨ 1 < (dec (p ++ [b])).2) then ([], [(dec (p ++ [b])).1])
  else if ubeg (p ++ [b]) = true then (p ++ [b], [])
  else ([], [65533])
def ustep (p : List Int) (b : Int) : List Int × List Int :=
  if ubeg p = false then ustepA [] b
  else if (dec (p ++ [b])).2 = ((p ++ [b]).length : Int) ∧ ((dec (p ++ [b])).1 ≠ 65533 ∨ 1 < (dec (p ++ [b])).2) then ([], [(dec (p ++ [b])).1])
  else if ubeg (p ++ [b]) = true then (p ++ [b], [])
  else ((ustepA [] b).1, 65533 :: (ustepA [] b).2)
theorem step0_P {sz : Nat} {b : Int} (hb : 0 ≤ b ∧ b ≤ 255) :
    PCalls PG 66 [.sl sz [] .nil, .int .u8 b] fun n r os => r = .tup [.sl 1 (intRows .u8 (ustepA [] b).1) .any, .sl 1 (intRows .i32 (ustepA [] b).2) .any] ∧ os = [] := by
  refine PCalls.by_fn (res := fun n => (.tup [.sl 1 (intRows .u8 (ustepA [] b).1) .any, .sl 1 (intRows .i32 (ustepA [] b).2) .any], [])) T3_ok rc_ustep_ok (by simp [rc_ustep]) fun n => ?_
  unfold rc_ustep T3 T2
  dsimp only
  simp -implicitDefEqProofs -dsimp only [tab_cons, F_ubegins_1, F_decode_1, F_clone_nil, vcR, ↓vcP1, ↓vcP2, ↓reduceIte, if_true, if_false, reduceCtorEq, implies_true, Nat.reduceLT, Nat.reduceLeDiff, Nat.reduceEqDiff, Nat.reduceAdd, Nat.reduceSub, Nat.reduceMul, Int.reduceLT, Int.reduceLE, Int.reduceEq, Int.reduceToNat, Int.reduceAdd, Int.reduceSub, Int.reduceNeg, List.reduceReplicate, ne_eq, exists_eq_left, exists_eq_left', Nat.reducePow, Int.reduceMul, Function.comp_apply]
  have hi : inK .u8 [b] := inK_u8 (by simp) (by simpa using hb)
  have hz : ((0 : Nat) : Int) = 0 := rfl
  simp only [cnd_gen, hi, hz, true_and, not_true_eq_false, false_implies, and_true, ustepA, List.nil_append, List.length_cons, List.length_nil]
  have h1 : ((0 + 1 : Nat) : Int) = 1 := rfl
  simp only [h1]
  grind [intRows_nil]
def F_step0 : List DV → Option FSpec
  | [.sl sz [] .nil, .int .u8 b] => some ⟨0 ≤ b ∧ b ≤ 255, fun n => (.tup [.sl 1 (intRows .u8 (ustepA [] b).1) .any, .sl 1 (intRows .i32 (ustepA [] b).2) .any], [])⟩
  | _ => none
theorem F_step0_1 (sz : Nat) (b : Int) : F_step0 [.sl sz [] .nil, .int .u8 b] = some ⟨0 ≤ b ∧ b ≤ 255, fun n => (.tup [.sl 1 (intRows .u8 (ustepA [] b).1) .any, .sl 1 (intRows .i32 (ustepA [] b).2) .any], [])⟩ := nrfl _
theorem step0_ok (args : List DV) (s : FSpec) (hs : F_step0 args = some s) (hp : s.pre) : PCalls PG 66 args fun n r os => r = (s.res n).1 ∧ os = (s.res n).2 := by
  unfold F_step0 at hs
  split at hs
  · rename_i sz b
    obtain rfl := sj hs
    exact step0_P hp
  · cases hs
def T4 : FL := (66, F_step0) :: T3
theorem T4_ok : FOk PG (tab T4) := FOk.cons T3_ok step0_ok
theorem step_P {sz : Nat} {b : Int} {l : List Int} (hs : sz = 1 ∨ l = []) (hk : inK .u8 l) (hl : l.length ≤ 1000000) (hb : 0 ≤ b ∧ b ≤ 255) :
    PCalls PG 66 [.sl sz (intRows .u8 l) .nonnil, .int .u8 b] fun n r os => r = .tup [.sl 1 (intRows .u8 (ustep l b).1) .any, .sl 1 (intRows .i32 (ustep l b).2) .any] ∧ os = [] := by
  refine PCalls.by_fn (res := fun n => (.tup [.sl 1 (intRows .u8 (ustep l b).1) .any, .sl 1 (intRows .i32 (ustep l b).2) .any], [])) T4_ok rc_ustep_ok (by simp [rc_ustep]) fun n => ?_
  unfold rc_ustep T4 T3 T2
  dsimp only
  simp -implicitDefEqProofs -dsimp only [tab_cons, F_ubegins_1, F_decode_1, F_clone_nil, F_clone_non, F_step0_1, vcR, ↓vcP1, ↓vcP2, ↓reduceIte, if_true, if_false, reduceCtorEq, implies_true, Nat.reduceLT, Nat.reduceLeDiff, Nat.reduceEqDiff, Nat.reduceAdd, Nat.reduceSub, Nat.reduceMul, Int.reduceLT, Int.reduceLE, Int.reduceEq, Int.reduceToNat, Int.reduceAdd, Int.reduceSub, Int.reduceNeg, List.reduceReplicate, ne_eq, exists_eq_left, exists_eq_left', Nat.reducePow, Int.reduceMul, Function.comp_apply]
  have hi : isInts .u8 (.sl sz (intRows .u8 l) .nonnil) := isInts_mk hs hk
  have hkb : inK .u8 [b] := inK_u8 (by simp) (by simpa using hb)
  have hka : inK .u8 (l ++ [b]) := hk.append hkb (by simp; omega)
  have ht : List.take (l.length + 1) (l ++ [b]) = l ++ [b] := List.take_of_length_le (by simp)
  have hx : ∀ X : List Int, (1 + X.length ≤ X.length + 1) = True := fun X => by simp [Nat.add_comm]
  have ht2 : ∀ X : List Int, List.take (1 + X.length) (65533 :: X) = 65533 :: X := fun X => List.take_of_length_le (by simp; omega)
  have hs1 : (ustepA [] b).2.length ≤ 1 := by unfold ustepA; split <;> (try split) <;> simp
  simp -implicitDefEqProofs -dsimp only [hi, hb, ht, hx, ht2, hka, vcR, ↓vcP1, ↓vcP2, ↓reduceIte, if_true, if_false, reduceCtorEq, implies_true, Nat.reduceLT, Nat.reduceLeDiff, Nat.reduceEqDiff, Nat.reduceAdd, Nat.reduceSub, Nat.reduceMul, Int.reduceLT, Int.reduceLE, Int.reduceEq, Int.reduceToNat, Int.reduceAdd, Int.reduceSub, Int.reduceNeg, List.reduceReplicate, ne_eq, exists_eq_left, exists_eq_left', Nat.reducePow, Int.reduceMul, Function.comp_apply]
  simp only [cnd_gen, ustep, ustepA]
  have hlb : ((l ++ [b]).length : Int) = l.length + 1 := by simp
  have hlc : ((l.length + 1 : Nat) : Int) = l.length + 1 := by simp
  have h1 : ((0 + 1 : Nat) : Int) = 1 := rfl
  have hne : ubeg l = true → ¬ (l.length : Int) = 0 := fun h => by
    simp only [ubeg, Bool.and_eq_true, decide_eq_true_eq] at h
    omega
  rw [ustepA] at hs1
  simp only [hlb, hlc, List.nil_append, List.length_cons, List.length_nil, h1] at hs1 ⊢
  generalize dec (l ++ [b]) = D
  generalize ubeg (l ++ [b]) = U
  generalize dec [b] = D1 at hs1 ⊢
  generalize ubeg [b] = U1 at hs1 ⊢
  have hsl : ∀ h : ubeg l = true, sz = 1 := fun h => hs.resolve_right fun e => hne h (by simp [e])
  clear hx ht2 ht hk
  cases hu : ubeg l
  · simp only [if_true, Bool.true_eq_false, Bool.false_eq_true, if_false, false_implies, true_implies, true_and, and_true]
    (repeat' (first | assumption | intro _ | apply And.intro)) <;> first | omega | grind [intRows_nil]
  · generalize (if D1.2 = 1 ∧ (D1.1 ≠ 65533 ∨ 1 < D1.2) then (([], [D1.1]) : List Int × List Int) else if U1 = true then ([b], []) else ([], [65533])) = A at hs1 ⊢
    obtain ⟨d1, d2⟩ := D
    obtain ⟨a1, a2⟩ := A
    simp only [if_true, Bool.true_eq_false, Bool.false_eq_true, if_false, false_implies, true_implies, true_and, and_true]
    (repeat' (first | assumption | intro _ | apply And.intro)) <;> first | omega | (simp only at hs1; omega) | (split <;> grind [intRows_nil]) | grind [intRows_nil]
theorem ustep_nil (b : Int) : ustep [] b = ustepA [] b := by simp [ustep, ubeg]
theorem step_any {sz : Nat} {k : SK} {b : Int} {l : List Int} (hs : sz = 1 ∨ l = []) (hk : inK .u8 l) (hl : l.length ≤ 1000000) (hb : 0 ≤ b ∧ b ≤ 255) :
    PCalls PG 66 [.sl sz (intRows .u8 l) k, .int .u8 b] fun n r os => r = .tup [.sl 1 (intRows .u8 (ustep l b).1) .any, .sl 1 (intRows .i32 (ustep l b).2) .any] ∧ os = [] := by
  refine PCalls.any_arg (i := 0) rfl (fun h => ?_) ?_
  · have hn : l = [] := by simpa [intRows] using h
    subst hn
    rw [ustep_nil]
    exact step0_P hb
  · exact step_P hs hk hl hb
def F_step : List DV → Option FSpec
  | [.sl sz rows k, .int .u8 b] => some ⟨isInts .u8 (.sl sz rows k) ∧ rows.length ≤ 1000000 ∧ 0 ≤ b ∧ b ≤ 255, fun n => (.tup [.sl 1 (intRows .u8 (ustep (ints rows) b).1) .any, .sl 1 (intRows .i32 (ustep (ints rows) b).2) .any], [])⟩
  | _ => none
def T5 : FL := (66, F_step) :: T3
def T6 : FL := T5
def uallF (l : List Int) : List Int × List Int := l.foldl (fun a b => (a.1 ++ (ustep a.2 b).2, (ustep a.2 b).1)) ([], [])
theorem ustepA_in {b : Int} (hb : 0 ≤ b ∧ b ≤ 255) : inK .u8 (ustepA [] b).1 := by
  unfold ustepA
  split
  · exact inK_nil _
  · split
    · exact inK_u8 (by simp) (by simpa using hb)
    · exact inK_nil _
theorem ustep_in {p : List Int} {b : Int} (hp : inK .u8 p) (hb : 0 ≤ b ∧ b ≤ 255) (hl : p.length ≤ 1000000) : inK .u8 (ustep p b).1 := by
  unfold ustep
  split
  · exact ustepA_in hb
  · split
    · exact inK_nil _
    · split
      · exact hp.append (inK_u8 (by simp) (by simpa using hb)) (by simp; omega)
      · exact ustepA_in hb
def rlo (b : Int) : Int := if b = 224 then 160 else if b = 240 then 144 else 128
def rhi (b : Int) : Int := if b = 237 then 159 else if b = 244 then 143 else 191
def rnum (b : Int) : Int := if 240 ≤ b then 4 else if 224 ≤ b then 3 else 2
def F_uall : List DV → Option FSpec
  | [a_l] => some ⟨isInts .u8 a_l ∧ (intsD a_l).length ≤ 10000000, fun n => (.tup [.sl 1 (intRows .i32 (uallF (intsD a_l)).1) .any, .sl 1 (intRows .u8 (uallF (intsD a_l)).2) .any], [])⟩
  | _ => none
def F_rbegins : List DV → Option FSpec
  | [a_l] => some ⟨isInts .u8 a_l ∧ True, fun n => (.bool (ubeg (intsD a_l)), [])⟩
  | _ => none
def T10 : FL := (53, F_uall) :: (67, F_rbegins) :: T6

theorem byte_cases {p : Int → Prop} (h : ∀ n : Nat, n < 256 → p n) {a : Int} (ha : 0 ≤ a ∧ a ≤ 255) : p a := by
  have h1 : a = (a.toNat : Int) := by omega
  rw [h1]
  exact h _ (by omega)
theorem cls {a : Int} (h : 194 ≤ a ∧ a ≤ 244) : firstF a % 8 = rnum a ∧ accLo (firstF a / 16) = rlo a ∧ accHi (firstF a / 16) = rhi a ∧ firstF a < 240 := by
  have : ∀ n : Nat, n < 256 → 194 ≤ (n : Int) ∧ (n : Int) ≤ 244 → firstF n % 8 = rnum n ∧ accLo (firstF n / 16) = rlo n ∧ accHi (firstF n / 16) = rhi n ∧ firstF n < 240 := by decide +kernel
  exact byte_cases (p := fun a => 194 ≤ a ∧ a ≤ 244 → firstF a % 8 = rnum a ∧ accLo (firstF a / 16) = rlo a ∧ accHi (firstF a / 16) = rhi a ∧ firstF a < 240) this (by omega) h
theorem cls0 {a : Int} (ha : 0 ≤ a ∧ a ≤ 255) (h : ¬ (194 ≤ a ∧ a ≤ 244)) : 240 ≤ firstF a ∧ (firstF a = 241 ↔ 128 ≤ a) := by
  have : ∀ n : Nat, n < 256 → ¬ (194 ≤ (n : Int) ∧ (n : Int) ≤ 244) → 240 ≤ firstF n ∧ (firstF n = 241 ↔ 128 ≤ (n : Int)) := by decide +kernel
  exact byte_cases (p := fun a => ¬ (194 ≤ a ∧ a ≤ 244) → 240 ≤ firstF a ∧ (firstF a = 241 ↔ 128 ≤ a)) this ha h
theorem rnums (a : Int) : (2 ≤ rnum a ∧ rnum a ≤ 4) ∧ (rnum a = 4 ↔ 240 ≤ a) ∧ (rnum a = 3 ↔ 224 ≤ a ∧ a < 240) ∧ (rnum a = 2 ↔ a < 224) := by
  unfold rnum
  refine ⟨?_, ?_, ?_, ?_⟩ <;> (split <;> (try split) <;> omega)
theorem ubeg1 {a : Int} (ha : 0 ≤ a ∧ a ≤ 255) : ubeg [a] = decide (194 ≤ a ∧ a ≤ 244) := by
  have : ∀ n : Nat, n < 256 → ubeg [(n : Int)] = decide (194 ≤ (n : Int) ∧ (n : Int) ≤ 244) := by decide +kernel
  exact byte_cases (p := fun a => ubeg [a] = decide (194 ≤ a ∧ a ≤ 244)) this ha
theorem dec1 {a : Int} (ha : 0 ≤ a ∧ a ≤ 255) : dec [a] = if a < 128 then (a, 1) else (65533, 1) := by
  by_cases h : 194 ≤ a ∧ a ≤ 244
  · obtain ⟨h1, h2, h3, h4⟩ := cls h
    have hr := rnums a
    simp only [dec, List.length_cons, List.length_nil, List.getD_cons_zero, List.getD_cons_succ, h1, h2, h3]
    rw [if_neg (by omega), if_neg (by omega), if_pos (by omega), if_neg (by omega)]
  · obtain ⟨h1, h2⟩ := cls0 ha h
    simp only [dec, List.length_cons, List.length_nil, List.getD_cons_zero]
    rw [if_neg (by omega), if_pos h1]
    split
    · rw [if_neg (by omega)]
    · rw [if_pos (by omega)]
def one (b : Int) : List Int × List Int := if b < 128 then ([], [b]) else if 194 ≤ b ∧ b ≤ 244 then ([b], []) else ([], [65533])
theorem ustepA_one {b : Int} (hb : 0 ≤ b ∧ b ≤ 255) : ustepA [] b = one b := by
  unfold ustepA one
  rw [List.nil_append, dec1 hb, ubeg1 hb]
  by_cases h : b < 128
  · rw [if_pos h, if_pos h]
    simp
    omega
  · rw [if_neg h, if_neg h]
    simp
def good (q : List Int) : Option Int :=
  if (dec q).2 = (q.length : Int) ∧ ((dec q).1 ≠ 65533 ∨ 1 < (dec q).2) then some (dec q).1 else none
theorem ustep_eq {p : List Int} {b : Int} (hb : 0 ≤ b ∧ b ≤ 255) : ustep p b = if ubeg p = false then one b else match good (p ++ [b]) with
    | some r => ([], [r])
    | none => if ubeg (p ++ [b]) = true then (p ++ [b], []) else ((one b).1, 65533 :: (one b).2) := by
  unfold ustep good
  rw [ustepA_one hb]
  split
  · rfl
  · split
    · rfl
    · rfl




end Go.Proofs.YtdimdjcnkmkbjaaDoor
