/- Texts P33, P34, P35, P36, P37, P38, P39 in one. -/
import Derived.Test.YteemmpghpdaloaaDoorM6
import Derived.Test.YteemmpghpdaloaaDoorM4
section
/- Which parsers may be. -/
set_option linter.unusedVariables false
set_option linter.unusedSimpArgs false
set_option maxRecDepth 10000
namespace Go.Proofs.YteemmpghpdaloaaDoor
open Go.RowKit
def F_vIndexFunc : List DV → Option FSpec
  | [a, .lit v] => some ⟨isInts .u8 a ∧ v = .func (.func 52) #[] #[], fun n => (.int .i64 (notI (intsD a)), [])⟩
  | _ => none
theorem F_vIndexFunc_1 (a : DV) (v : Value) : F_vIndexFunc [a, .lit v] = some ⟨isInts .u8 a ∧ v = .func (.func 52) #[] #[], fun n => (.int .i64 (notI (intsD a)), [])⟩ := nrfl _
theorem vIndexFunc_ok (args : List DV) (s : FSpec) (hs : F_vIndexFunc args = some s) (hp : s.pre) : PCalls PG 63 args fun n r os => r = (s.res n).1 ∧ os = (s.res n).2 := by
  unfold F_vIndexFunc at hs
  split at hs
  · obtain rfl := Option.some.inj hs
    obtain ⟨h1, rfl⟩ := hp
    obtain ⟨s0, k0, e1, h2, h3⟩ := isInts_inv h1
    have := vIndexFunc_P (k := k0) h2 h3
    rw [← e1] at this
    exact this
  · cases hs
def T33a : FL := (63, F_vIndexFunc) :: T30
theorem T33a_ok : FOk PG (tab T33a) := FOk.cons T30_ok vIndexFunc_ok
theorem T33a_at (args : List DV) : tab T33a 63 args = (F_vIndexFunc args).map .o := nrfl _
noncomputable def rc_vContainsFunc : RFn := ⟨2, 9, (.seq (.reg [⟨(some 4), (.mov (.c (.bool false))), none, false⟩] 0 [0, 1]) (.seq (.reg [⟨(some 5), (.mov (.t 0)), none, false⟩, ⟨(some 6), (.mov (.t 1)), none, false⟩, ⟨(some 7), (.call 63 [(.t 5), (.t 6)]), none, false⟩, ⟨(some 8), (.bin .geq (.t 7) (.c (.int .i64 0))), none, false⟩, ⟨(some 4), (.mov (.t 8)), none, false⟩] 0 [4]) .ret)), [(.t 4)]⟩
theorem rc_vContainsFunc_ok : compFn PG.P [⟨0, 0, [0, 1], []⟩, ⟨1, 0, [4], []⟩] 51 = some rc_vContainsFunc := by kernel_rfl
theorem vContains_P {sz : Nat} {k : SK} {l : List Int} (hs : sz = 1 ∨ l = []) (hk : inK .u8 l) :
    PCalls PG 51 [.sl sz (intRows .u8 l) k, .lit (.func (.func 52) #[] #[])] fun n r os => r = .bool (decide (0 ≤ notI l)) ∧ os = [] := by
  refine PCalls.by_fn (res := fun n => (.bool (decide (0 ≤ notI l)), [])) T33a_ok rc_vContainsFunc_ok (by simp [rc_vContainsFunc]) fun n => ?_
  unfold rc_vContainsFunc
  dsimp only
  have e1 : isInts .u8 (.sl sz (intRows .u8 l) k) := isInts_mk hs hk
  simp -implicitDefEqProofs only [T33a_at, F_vIndexFunc_1, e1, intsD_sl, vcB1, vcB2, vcB3, vcA1, vcA2, vcA3, vcA4, vcA5, vcA6, vcA7, ↓vcP1, ↓vcP2, ↓reduceIte, Option.map_some, Option.map_none, Option.bind_some, Option.bind_none, if_true, if_false, reduceCtorEq, beq_true, beq_false, Bool.not_true, Bool.not_false, BEq.rfl, Bool.true_beq, Bool.false_beq, and_true, true_and, and_self, decide_true, decide_false, List.length_cons, List.length_nil, List.all_cons, List.all_nil, Bool.and_true, Bool.and_self, List.getElem?_cons_zero, List.getElem?_cons_succ, List.set_cons_zero, List.set_cons_succ, List.nil_append, List.cons_append, List.append_nil, List.map_cons, List.map_nil, not_true_eq_false, not_false_eq_true, false_implies, true_implies, implies_true, List.take_succ_cons, List.take_zero, List.take_nil, List.drop_succ_cons, List.drop_zero, List.drop_nil, Nat.reduceLT, Nat.reduceLeDiff, Nat.reduceEqDiff, Nat.reduceAdd, Nat.reduceSub, Nat.reduceMul, Int.reduceLT, Int.reduceLE, Int.reduceEq, Int.reduceToNat, Int.reduceAdd, Int.reduceSub, Int.reduceNeg, List.reduceReplicate, List.replicate_zero, List.replicate_succ, ne_eq, List.flatMap_cons, List.flatMap_nil, List.length_replicate, List.length_append, Nat.le_refl, Nat.le_add_right, Nat.add_assoc, List.append_assoc, or_true, true_or, or_false, false_or, and_false, false_and, exists_eq_left, exists_eq_left', Option.some.injEq, DV.int.injEq, DV.bool.injEq, DV.sl.injEq, DV.own.injEq, DV.tup.injEq, List.cons.injEq, Ob.arr.injEq, Ob.box.injEq, Option.map_map, Int.toNat_natCast, Int.toNat_zero, Nat.reducePow, Int.toNat_one, Int.reduceMul, Nat.mul_one, Nat.zero_add, Nat.add_zero, Function.comp_apply, List.map_append, List.map_replicate, Int.cast_ofNat_Int, Nat.left_eq_add, Nat.add_eq_left, Nat.add_left_cancel_iff]
def F_vContains : List DV → Option FSpec
  | [a, .lit v] => some ⟨isInts .u8 a ∧ v = .func (.func 52) #[] #[], fun n => (.bool (decide (0 ≤ notI (intsD a))), [])⟩
  | _ => none
theorem F_vContains_1 (a : DV) (v : Value) : F_vContains [a, .lit v] = some ⟨isInts .u8 a ∧ v = .func (.func 52) #[] #[], fun n => (.bool (decide (0 ≤ notI (intsD a))), [])⟩ := nrfl _
theorem vContains_ok (args : List DV) (s : FSpec) (hs : F_vContains args = some s) (hp : s.pre) : PCalls PG 51 args fun n r os => r = (s.res n).1 ∧ os = (s.res n).2 := by
  unfold F_vContains at hs
  split at hs
  · obtain rfl := Option.some.inj hs
    obtain ⟨h1, rfl⟩ := hp
    obtain ⟨s0, k0, e1, h2, h3⟩ := isInts_inv h1
    have := vContains_P (k := k0) h2 h3
    rw [← e1] at this
    exact this
  · cases hs
def T33b : FL := (51, F_vContains) :: T33a
theorem T33b_ok : FOk PG (tab T33b) := FOk.cons T33a_ok vContains_ok
theorem T33b_at (args : List DV) : tab T33b 51 args = (F_vContains args).map .o := nrfl _
def intersF (l : List Int) : Bool := decide (1 ≤ l.length) && decide (l.length ≤ 2) && l.all vint
theorem notI_all (l : List Int) : decide (0 ≤ notI l) = !l.all vint := by
  unfold notI
  cases h : l.findIdx? (fun b => !vint b) with
  | none =>
    rw [List.findIdx?_eq_none_iff] at h
    have : l.all vint = true := List.all_eq_true.2 fun x hx => by simpa using h x hx
    rw [this]; rfl
  | some i =>
    rw [List.findIdx?_eq_some_iff_getElem] at h
    obtain ⟨h1, h2, _⟩ := h
    have : l.all vint = false := by
      rw [List.all_eq_false]
      exact ⟨l[i], List.getElem_mem _, by simpa using h2⟩
    rw [this]
    simp
noncomputable def rc_vinters : RFn := ⟨1, 16, (.seq (.reg [⟨(some 2), (.mov (.c (.bool false))), none, false⟩] 0 [0]) (.seq (.reg [⟨(some 3), (.mov (.t 0)), none, false⟩, ⟨(some 4), (.len (.t 3)), none, false⟩, ⟨(some 5), (.bin .geq (.t 4) (.c (.int .i64 1))), none, false⟩, ⟨(some 6), (.mov (.t 5)), none, false⟩, ⟨(some 7), (.mov (.t 0)), (some (6, true)), false⟩, ⟨(some 8), (.len (.t 7)), (some (6, true)), false⟩, ⟨(some 9), (.bin .leq (.t 8) (.c (.int .i64 2))), (some (6, true)), false⟩, ⟨(some 10), (.pick (.t 6) (.t 9) (.c (.bool false))), none, false⟩, ⟨(some 11), (.mov (.t 10)), none, false⟩, ⟨(some 12), (.mov (.t 0)), (some (11, true)), false⟩, ⟨(some 13), (.call 51 [(.t 12), (.c (.lit (.func (.func 52) #[] #[])))]), (some (11, true)), false⟩, ⟨(some 14), (.un .not (.t 13)), (some (11, true)), false⟩, ⟨(some 15), (.pick (.t 11) (.t 14) (.c (.bool false))), none, false⟩, ⟨(some 2), (.mov (.t 15)), none, false⟩] 0 [2]) .ret)), [(.t 2)]⟩
theorem rc_vinters_ok : compFn PG.P [⟨0, 0, [0], []⟩, ⟨1, 0, [2], []⟩] 41 = some rc_vinters := by kernel_rfl
theorem vinters_P {sz_l : Nat} {k_l : SK} {l : List Int} (hs_l : sz_l = 1 ∨ l = []) (hk_l : inK .u8 l)  :
    PCalls PG 41 [.sl sz_l (intRows .u8 l) k_l] fun n RR OO => RR = ((.bool (intersF l), []) : DV × Objs).1 ∧ OO = ((.bool (intersF l), []) : DV × Objs).2 := by
  refine PCalls.by_fn (res := fun n => (.bool (intersF l), [])) T33b_ok rc_vinters_ok (by simp [rc_vinters]) fun n => ?_
  unfold rc_vinters
  dsimp only
  have e1 : isInts .u8 (.sl sz_l (intRows .u8 l) k_l) := isInts_mk hs_l hk_l
  simp -implicitDefEqProofs only [T33b_at, F_vContains_1, e1, intsD_sl, notI_all, vcB1, vcB2, vcB3, vcA1, vcA2, vcA3, vcA4, vcA5, vcA6, vcA7, ↓vcP1, ↓vcP2, ↓reduceIte, Option.map_some, Option.map_none, Option.bind_some, Option.bind_none, if_true, if_false, reduceCtorEq, beq_true, beq_false, Bool.not_true, Bool.not_false, BEq.rfl, Bool.true_beq, Bool.false_beq, and_true, true_and, and_self, decide_true, decide_false, List.length_cons, List.length_nil, List.all_cons, List.all_nil, Bool.and_true, Bool.and_self, List.getElem?_cons_zero, List.getElem?_cons_succ, List.set_cons_zero, List.set_cons_succ, List.nil_append, List.cons_append, List.append_nil, List.map_cons, List.map_nil, not_true_eq_false, not_false_eq_true, false_implies, true_implies, implies_true, List.take_succ_cons, List.take_zero, List.take_nil, List.drop_succ_cons, List.drop_zero, List.drop_nil, Nat.reduceLT, Nat.reduceLeDiff, Nat.reduceEqDiff, Nat.reduceAdd, Nat.reduceSub, Nat.reduceMul, Int.reduceLT, Int.reduceLE, Int.reduceEq, Int.reduceToNat, Int.reduceAdd, Int.reduceSub, Int.reduceNeg, List.reduceReplicate, List.replicate_zero, List.replicate_succ, ne_eq, List.flatMap_cons, List.flatMap_nil, List.length_replicate, List.length_append, Nat.le_refl, Nat.le_add_right, Nat.add_assoc, List.append_assoc, or_true, true_or, or_false, false_or, and_false, false_and, exists_eq_left, exists_eq_left', Option.some.injEq, DV.int.injEq, DV.bool.injEq, DV.sl.injEq, DV.own.injEq, DV.tup.injEq, List.cons.injEq, Ob.arr.injEq, Ob.box.injEq, Option.map_map, Int.toNat_natCast, Int.toNat_zero, Nat.reducePow, Int.toNat_one, Int.reduceMul, Nat.mul_one, Nat.zero_add, Nat.add_zero, Function.comp_apply, List.map_append, List.map_replicate, Int.cast_ofNat_Int, Nat.left_eq_add, Nat.add_eq_left, Nat.add_left_cancel_iff]
  unfold intersF
  refine ⟨fun a => ⟨fun b => ?_, fun b => ?_⟩, fun a => ?_⟩
  · rw [decide_eq_true (show 1 ≤ l.length by omega), decide_eq_true (show l.length ≤ 2 by omega)]; simp
  · rw [decide_eq_false (show ¬ l.length ≤ 2 by omega)]; simp
  · rw [decide_eq_false (show ¬ 1 ≤ l.length by omega)]; simp
def F_vinters : List DV → Option FSpec
  | [a_l] => some ⟨isInts .u8 a_l ∧ True, fun n => (.bool (intersF (intsD a_l)), [])⟩
  | _ => none
theorem F_vinters_1 (a_l : DV) : F_vinters [a_l] = some ⟨isInts .u8 a_l ∧ True, fun n => (.bool (intersF (intsD a_l)), [])⟩ := nrfl _
theorem vinters_ok (args : List DV) (s : FSpec) (hs : F_vinters args = some s) (hp : s.pre) : PCalls PG 41 args fun n r os => r = (s.res n).1 ∧ os = (s.res n).2 := by
  unfold F_vinters at hs
  split at hs
  · rename_i a_l
    obtain rfl := Option.some.inj hs
    obtain ⟨hi_l, hp⟩ := hp
    obtain ⟨s0_l, k0_l, h1_l, h2_l, h3_l⟩ := isInts_inv hi_l
    have this := vinters_P (k_l := k0_l) h2_l h3_l 
    rw [← h1_l] at this
    exact this
  · cases hs

def T33 : FL := (41, F_vinters) :: T33b
theorem T33_ok : FOk PG (tab T33) := FOk.cons T33b_ok vinters_ok
theorem T33_at_inters (args : List DV) : tab T33 41 args = (F_vinters args).map .o := nrfl _
theorem T33_at_beg (args : List DV) : tab T33 19 args = (F_ubegins args).map .o := nrfl _
theorem T33_at_rbeg (args : List DV) : tab T33 20 args = (F_rbegins args).map .o := nrfl _
theorem T33_at_rinter (args : List DV) : tab T33 42 args = (F_rinter args).map .o := nrfl _
def prA (p : Pa) : Prop := 0 ≤ p.m ∧ p.m ≤ 7 ∧ (p.U.length = 0 ∨ (p.m = 0 ∧ ubeg p.U = true)) ∧ ((p.m = 4 ∨ p.m = 5) ∨ (p.pr = 0 ∧ p.P.length = 0)) ∧ p.P.length ≤ 16 ∧ (p.pr = 0 ∨ (60 ≤ p.pr ∧ p.pr ≤ 63))
def prB (p : Pa) : Prop := ∀ n ∈ p.P, 0 ≤ n ∧ n ≤ 65535
def prC (p : Pa) : Bool := if p.m = 2 ∨ p.m = 5 then intersF p.I else decide (p.I.length = 0)
instance (p : Pa) : Decidable (prA p) := by unfold prA; infer_instance
instance (p : Pa) : Decidable (prB p) := by unfold prB; infer_instance
/-- Which parsers may be. -/
def prightF (p : Pa) : Bool := decide (prA p) && (decide (prB p) && prC p)
theorem pright_A {p : Pa} (h : ¬ prA p) : false = prightF p := by unfold prightF; rw [decide_eq_false h]; rfl
theorem pright_B {p : Pa} (h : ¬ prB p) : false = prightF p := by unfold prightF; rw [decide_eq_false h]; simp
theorem pright_C {p : Pa} (h : prC p = false) : false = prightF p := by unfold prightF; rw [h]; simp
theorem pright_AB {p : Pa} (h : prA p) (h2 : prB p) : prightF p = prC p := by unfold prightF; rw [decide_eq_true h, decide_eq_true h2]; simp
theorem getD_mem {l : List Int} {i : Nat} (h : i < l.length) : l.getD i 0 ∈ l := by
  rw [List.getD_eq_getElem?_getD, List.getElem?_eq_getElem h]
  exact List.getElem_mem _
theorem all_getD {l : List Int} {q : Int → Prop} (h : ∀ j, j < l.length → q (l.getD j 0)) : ∀ x ∈ l, q x := fun x hx => by
  obtain ⟨j, hj, rfl⟩ := List.getElem_of_mem hx
  have := h j hj
  rwa [List.getD_eq_getElem?_getD, List.getElem?_eq_getElem hj] at this
theorem prB_get {m pr : Int} {P I U : List Int} (h : prB ⟨m, pr, P, I, U⟩) {i : Nat} (hi : i < P.length) : 0 ≤ P.getD i 0 ∧ P.getD i 0 ≤ 65535 := h _ (getD_mem hi)
theorem prB_mk {m pr : Int} {P I U : List Int} (h : ∀ j, j < P.length → 0 ≤ P.getD j 0 ∧ P.getD j 0 ≤ 65535) : prB ⟨m, pr, P, I, U⟩ := fun x hx => all_getD (q := fun x => 0 ≤ x ∧ x ≤ 65535) h x hx
theorem intersF_iff (l : List Int) : intersF l = true ↔ 1 ≤ l.length ∧ l.length ≤ 2 ∧ ∀ x ∈ l, vint x = true := by
  unfold intersF
  rw [Bool.and_eq_true, Bool.and_eq_true, decide_eq_true_eq, decide_eq_true_eq, List.all_eq_true, and_assoc]
noncomputable def rc_vRight_l0 : RC := (.seq (.reg [⟨(some 77), (.bin .lss (.t 76) (.t 75)), none, false⟩] 0 [1, 74, 75, 76, 77]) (.seq (.cond (.t 77) .skip (.ext 0)) (.seq (.blk 1 (.seq (.reg [⟨(some 78), (.iaddr 1 (.t 74) (.t 76)), none, false⟩, ⟨(some 79), (.load false 1 (.t 78)), none, false⟩, ⟨(some 5), (.mov (.t 79)), none, false⟩] 0 [1, 5, 74, 75, 76]) (.seq (.reg [⟨(some 80), (.mov (.t 5)), none, false⟩, ⟨(some 81), (.bin .lss (.t 80) (.c (.int .i64 0))), none, false⟩, ⟨(some 82), (.mov (.t 81)), none, false⟩, ⟨(some 83), (.mov (.t 5)), (some (82, false)), false⟩, ⟨(some 84), (.bin .gtr (.t 83) (.c (.int .i64 65535))), (some (82, false)), false⟩, ⟨(some 85), (.pick (.t 82) (.c (.bool true)) (.t 84)), none, false⟩] 0 [1, 74, 75, 76, 85]) (.cond (.t 85) (.seq (.reg [⟨(some 2), (.mov (.c (.bool false))), none, false⟩] 0 [2]) .ret) .skip)))) (.reg [⟨(some 86), (.bin .add (.t 76) (.c (.int .i64 1))), none, false⟩, ⟨(some 76), (.mov (.t 86)), none, false⟩] 0 [1, 74, 75, 76]))))
noncomputable def rc_vRight : RFn := ⟨1, 102, (.seq (.reg [⟨(some 1), (.box 5 (.t 0)), none, false⟩, ⟨(some 2), (.mov (.c (.bool false))), none, false⟩] 0 [1]) (.seq (.seq (.reg [⟨(some 6), (.faddr 0 (.t 1)), none, false⟩, ⟨(some 7), (.load false 1 (.t 6)), none, false⟩, ⟨(some 8), (.bin .lss (.t 7) (.c (.int .i64 0))), none, false⟩, ⟨(some 9), (.mov (.t 8)), none, false⟩, ⟨(some 10), (.faddr 0 (.t 1)), (some (9, false)), false⟩, ⟨(some 11), (.load false 1 (.t 10)), (some (9, false)), false⟩, ⟨(some 12), (.bin .gtr (.t 11) (.c (.int .i64 7))), (some (9, false)), false⟩, ⟨(some 13), (.pick (.t 9) (.c (.bool true)) (.t 12)), none, false⟩, ⟨(some 14), (.mov (.t 13)), none, false⟩, ⟨(some 15), (.faddr 4 (.t 1)), (some (14, false)), false⟩, ⟨(some 16), (.load false 1 (.t 15)), (some (14, false)), false⟩, ⟨(some 17), (.len (.t 16)), (some (14, false)), false⟩, ⟨(some 18), (.bin .gtr (.t 17) (.c (.int .i64 0))), (some (14, false)), false⟩, ⟨(some 19), (.mov (.t 18)), (some (14, false)), false⟩, ⟨(some 20), (.faddr 0 (.t 1)), (some (19, true)), false⟩, ⟨(some 21), (.load false 1 (.t 20)), (some (19, true)), false⟩, ⟨(some 22), (.bin .neq (.t 21) (.c (.int .i64 0))), (some (19, true)), false⟩, ⟨(some 23), (.mov (.t 22)), (some (19, true)), false⟩, ⟨(some 24), (.faddr 4 (.t 1)), (some (23, false)), false⟩, ⟨(some 25), (.load false 1 (.t 24)), (some (23, false)), false⟩, ⟨(some 26), (.call 19 [(.t 25)]), (some (23, false)), false⟩, ⟨(some 27), (.un .not (.t 26)), (some (23, false)), false⟩, ⟨(some 28), (.pick (.t 23) (.c (.bool true)) (.t 27)), (some (19, true)), false⟩, ⟨(some 29), (.pick (.t 19) (.t 28) (.c (.bool false))), (some (14, false)), false⟩, ⟨(some 30), (.pick (.t 14) (.c (.bool true)) (.t 29)), none, false⟩] 0 [1, 30]) (.cond (.t 30) (.seq (.reg [⟨(some 2), (.mov (.c (.bool false))), none, false⟩] 0 [2]) .ret) .skip)) (.seq (.reg [⟨(some 31), (.faddr 0 (.t 1)), none, false⟩, ⟨(some 32), (.load false 1 (.t 31)), none, false⟩, ⟨(some 33), (.bin .eql (.t 32) (.c (.int .i64 4))), none, false⟩, ⟨(some 34), (.mov (.t 33)), none, false⟩, ⟨(some 35), (.faddr 0 (.t 1)), (some (34, false)), false⟩, ⟨(some 36), (.load false 1 (.t 35)), (some (34, false)), false⟩, ⟨(some 37), (.bin .eql (.t 36) (.c (.int .i64 5))), (some (34, false)), false⟩, ⟨(some 38), (.pick (.t 34) (.c (.bool true)) (.t 37)), none, false⟩, ⟨(some 3), (.mov (.t 38)), none, false⟩] 0 [1, 3]) (.seq (.seq (.reg [⟨(some 39), (.mov (.t 3)), none, false⟩, ⟨(some 40), (.un .not (.t 39)), none, false⟩, ⟨(some 41), (.mov (.t 40)), none, false⟩, ⟨(some 42), (.faddr 1 (.t 1)), (some (41, true)), false⟩, ⟨(some 43), (.load false 1 (.t 42)), (some (41, true)), false⟩, ⟨(some 44), (.bin .neq (.t 43) (.c (.int .u8 0))), (some (41, true)), false⟩, ⟨(some 45), (.mov (.t 44)), (some (41, true)), false⟩, ⟨(some 46), (.faddr 2 (.t 1)), (some (45, false)), false⟩, ⟨(some 47), (.load false 1 (.t 46)), (some (45, false)), false⟩, ⟨(some 48), (.len (.t 47)), (some (45, false)), false⟩, ⟨(some 49), (.bin .gtr (.t 48) (.c (.int .i64 0))), (some (45, false)), false⟩, ⟨(some 50), (.pick (.t 45) (.c (.bool true)) (.t 49)), (some (41, true)), false⟩, ⟨(some 51), (.pick (.t 41) (.t 50) (.c (.bool false))), none, false⟩, ⟨(some 52), (.mov (.t 51)), none, false⟩, ⟨(some 53), (.faddr 2 (.t 1)), (some (52, false)), false⟩, ⟨(some 54), (.load false 1 (.t 53)), (some (52, false)), false⟩, ⟨(some 55), (.len (.t 54)), (some (52, false)), false⟩, ⟨(some 56), (.bin .gtr (.t 55) (.c (.int .i64 16))), (some (52, false)), false⟩, ⟨(some 57), (.pick (.t 52) (.c (.bool true)) (.t 56)), none, false⟩, ⟨(some 58), (.mov (.t 57)), none, false⟩, ⟨(some 59), (.faddr 1 (.t 1)), (some (58, false)), false⟩, ⟨(some 60), (.load false 1 (.t 59)), (some (58, false)), false⟩, ⟨(some 61), (.bin .neq (.t 60) (.c (.int .u8 0))), (some (58, false)), false⟩, ⟨(some 62), (.mov (.t 61)), (some (58, false)), false⟩, ⟨(some 63), (.faddr 1 (.t 1)), (some (62, true)), false⟩, ⟨(some 64), (.load false 1 (.t 63)), (some (62, true)), false⟩, ⟨(some 65), (.bin .lss (.t 64) (.c (.int .u8 60))), (some (62, true)), false⟩, ⟨(some 66), (.mov (.t 65)), (some (62, true)), false⟩, ⟨(some 67), (.faddr 1 (.t 1)), (some (66, false)), false⟩, ⟨(some 68), (.load false 1 (.t 67)), (some (66, false)), false⟩, ⟨(some 69), (.bin .gtr (.t 68) (.c (.int .u8 63))), (some (66, false)), false⟩, ⟨(some 70), (.pick (.t 66) (.c (.bool true)) (.t 69)), (some (62, true)), false⟩, ⟨(some 71), (.pick (.t 62) (.t 70) (.c (.bool false))), (some (58, false)), false⟩, ⟨(some 72), (.pick (.t 58) (.c (.bool true)) (.t 71)), none, false⟩] 0 [1, 72]) (.cond (.t 72) (.seq (.reg [⟨(some 2), (.mov (.c (.bool false))), none, false⟩] 0 [2]) .ret) .skip)) (.seq (.seq (.reg [⟨(some 73), (.faddr 2 (.t 1)), none, false⟩, ⟨(some 74), (.load false 1 (.t 73)), none, false⟩, ⟨(some 75), (.len (.t 74)), none, false⟩, ⟨(some 76), (.mov (.c (.int .i64 0))), none, false⟩] 0 [1, 74, 75, 76]) (.blk 0 (.loop rc_vRight_l0))) (.seq (.seq (.reg [⟨(some 87), (.faddr 0 (.t 1)), none, false⟩, ⟨(some 88), (.load false 1 (.t 87)), none, false⟩, ⟨(some 89), (.bin .eql (.t 88) (.c (.int .i64 2))), none, false⟩, ⟨(some 90), (.mov (.t 89)), none, false⟩, ⟨(some 91), (.faddr 0 (.t 1)), (some (90, false)), false⟩, ⟨(some 92), (.load false 1 (.t 91)), (some (90, false)), false⟩, ⟨(some 93), (.bin .eql (.t 92) (.c (.int .i64 5))), (some (90, false)), false⟩, ⟨(some 94), (.pick (.t 90) (.c (.bool true)) (.t 93)), none, false⟩] 0 [1, 94]) (.cond (.t 94) (.seq (.reg [⟨(some 95), (.faddr 3 (.t 1)), none, false⟩, ⟨(some 96), (.load false 1 (.t 95)), none, false⟩, ⟨(some 97), (.call 41 [(.t 96)]), none, false⟩, ⟨(some 2), (.mov (.t 97)), none, false⟩] 0 [2]) .ret) .skip)) (.seq (.reg [⟨(some 98), (.faddr 3 (.t 1)), none, false⟩, ⟨(some 99), (.load false 1 (.t 98)), none, false⟩, ⟨(some 100), (.len (.t 99)), none, false⟩, ⟨(some 101), (.bin .eql (.t 100) (.c (.int .i64 0))), none, false⟩, ⟨(some 2), (.mov (.t 101)), none, false⟩] 0 [2]) .ret))))))), [(.t 2)]⟩
theorem rc_vRight_ok : compFn PG.P [⟨0, 0, [1], []⟩, ⟨1, 0, [1, 30], []⟩, ⟨2, 0, [2], []⟩, ⟨3, 0, [1, 3], []⟩, ⟨4, 0, [1, 72], []⟩, ⟨5, 0, [2], []⟩, ⟨6, 0, [1, 74, 75, 76], []⟩, ⟨7, 0, [1, 74, 75, 76, 77], []⟩, ⟨8, 0, [1, 5, 74, 75, 76], []⟩, ⟨9, 0, [1, 74, 75, 76, 85], []⟩, ⟨10, 0, [2], []⟩, ⟨11, 0, [1, 74, 75, 76], []⟩, ⟨12, 0, [1, 94], []⟩, ⟨13, 0, [2], []⟩, ⟨14, 0, [2], []⟩] 26 = some rc_vRight := by kernel_rfl
noncomputable def rc_rRight_l0 : RC := (.seq (.seq (.reg [⟨(some 44), (.mov (.t 3)), none, false⟩, ⟨(some 45), (.faddr 2 (.t 1)), none, false⟩, ⟨(some 46), (.load false 1 (.t 45)), none, false⟩, ⟨(some 47), (.len (.t 46)), none, false⟩, ⟨(some 48), (.bin .lss (.t 44) (.t 47)), none, false⟩] 0 [1, 3, 48]) (.cond (.t 48) .skip (.ext 0))) (.seq (.blk 1 (.seq (.reg [⟨(some 51), (.faddr 2 (.t 1)), none, false⟩, ⟨(some 52), (.load false 1 (.t 51)), none, false⟩, ⟨(some 53), (.mov (.t 3)), none, false⟩, ⟨(some 54), (.iaddr 1 (.t 52) (.t 53)), none, false⟩, ⟨(some 55), (.load false 1 (.t 54)), none, false⟩, ⟨(some 56), (.bin .lss (.t 55) (.c (.int .i64 0))), none, false⟩, ⟨(some 57), (.mov (.t 56)), none, false⟩, ⟨(some 58), (.faddr 2 (.t 1)), (some (57, false)), false⟩, ⟨(some 59), (.load false 1 (.t 58)), (some (57, false)), false⟩, ⟨(some 60), (.mov (.t 3)), (some (57, false)), false⟩, ⟨(some 61), (.iaddr 1 (.t 59) (.t 60)), (some (57, false)), false⟩, ⟨(some 62), (.load false 1 (.t 61)), (some (57, false)), false⟩, ⟨(some 63), (.bin .gtr (.t 62) (.c (.int .i64 65535))), (some (57, false)), false⟩, ⟨(some 64), (.pick (.t 57) (.c (.bool true)) (.t 63)), none, false⟩] 0 [1, 3, 64]) (.cond (.t 64) (.seq (.reg [⟨(some 2), (.mov (.c (.bool false))), none, false⟩] 0 [2]) .ret) .skip))) (.reg [⟨(some 49), (.mov (.t 3)), none, false⟩, ⟨(some 50), (.bin .add (.t 49) (.c (.int .i64 1))), none, false⟩, ⟨(some 3), (.mov (.t 50)), none, false⟩] 0 [1, 3])))
noncomputable def rc_rRight_l1 : RC := (.seq (.seq (.reg [⟨(some 65), (.mov (.t 4)), none, false⟩, ⟨(some 66), (.faddr 3 (.t 1)), none, false⟩, ⟨(some 67), (.load false 1 (.t 66)), none, false⟩, ⟨(some 68), (.len (.t 67)), none, false⟩, ⟨(some 69), (.bin .lss (.t 65) (.t 68)), none, false⟩] 0 [1, 4, 69]) (.cond (.t 69) .skip (.ext 2))) (.seq (.blk 3 (.seq (.reg [⟨(some 72), (.faddr 3 (.t 1)), none, false⟩, ⟨(some 73), (.load false 1 (.t 72)), none, false⟩, ⟨(some 74), (.mov (.t 4)), none, false⟩, ⟨(some 75), (.iaddr 1 (.t 73) (.t 74)), none, false⟩, ⟨(some 76), (.load false 1 (.t 75)), none, false⟩, ⟨(some 77), (.call 42 [(.t 76)]), none, false⟩, ⟨(some 78), (.un .not (.t 77)), none, false⟩] 0 [1, 4, 78]) (.cond (.t 78) (.seq (.reg [⟨(some 2), (.mov (.c (.bool false))), none, false⟩] 0 [2]) .ret) .skip))) (.reg [⟨(some 70), (.mov (.t 4)), none, false⟩, ⟨(some 71), (.bin .add (.t 70) (.c (.int .i64 1))), none, false⟩, ⟨(some 4), (.mov (.t 71)), none, false⟩] 0 [1, 4])))
noncomputable def rc_rRight : RFn := ⟨1, 128, (.seq (.reg [⟨(some 1), (.box 5 (.t 0)), none, false⟩, ⟨(some 2), (.mov (.c (.bool false))), none, false⟩] 0 [1]) (.seq (.seq (.reg [⟨(some 7), (.faddr 0 (.t 1)), none, false⟩, ⟨(some 8), (.load false 1 (.t 7)), none, false⟩, ⟨(some 9), (.bin .lss (.t 8) (.c (.int .i64 0))), none, false⟩, ⟨(some 10), (.mov (.t 9)), none, false⟩, ⟨(some 11), (.faddr 0 (.t 1)), (some (10, false)), false⟩, ⟨(some 12), (.load false 1 (.t 11)), (some (10, false)), false⟩, ⟨(some 13), (.bin .gtr (.t 12) (.c (.int .i64 7))), (some (10, false)), false⟩, ⟨(some 14), (.pick (.t 10) (.c (.bool true)) (.t 13)), none, false⟩, ⟨(some 15), (.mov (.t 14)), none, false⟩, ⟨(some 16), (.faddr 2 (.t 1)), (some (15, false)), false⟩, ⟨(some 17), (.load false 1 (.t 16)), (some (15, false)), false⟩, ⟨(some 18), (.len (.t 17)), (some (15, false)), false⟩, ⟨(some 19), (.bin .gtr (.t 18) (.c (.int .i64 16))), (some (15, false)), false⟩, ⟨(some 20), (.pick (.t 15) (.c (.bool true)) (.t 19)), none, false⟩, ⟨(some 21), (.mov (.t 20)), none, false⟩, ⟨(some 22), (.faddr 3 (.t 1)), (some (21, false)), false⟩, ⟨(some 23), (.load false 1 (.t 22)), (some (21, false)), false⟩, ⟨(some 24), (.len (.t 23)), (some (21, false)), false⟩, ⟨(some 25), (.bin .gtr (.t 24) (.c (.int .i64 2))), (some (21, false)), false⟩, ⟨(some 26), (.pick (.t 21) (.c (.bool true)) (.t 25)), none, false⟩, ⟨(some 27), (.mov (.t 26)), none, false⟩, ⟨(some 28), (.faddr 4 (.t 1)), (some (27, false)), false⟩, ⟨(some 29), (.load false 1 (.t 28)), (some (27, false)), false⟩, ⟨(some 30), (.len (.t 29)), (some (27, false)), false⟩, ⟨(some 31), (.bin .gtr (.t 30) (.c (.int .i64 0))), (some (27, false)), false⟩, ⟨(some 32), (.mov (.t 31)), (some (27, false)), false⟩, ⟨(some 33), (.faddr 0 (.t 1)), (some (32, true)), false⟩, ⟨(some 34), (.load false 1 (.t 33)), (some (32, true)), false⟩, ⟨(some 35), (.bin .neq (.t 34) (.c (.int .i64 0))), (some (32, true)), false⟩, ⟨(some 36), (.mov (.t 35)), (some (32, true)), false⟩, ⟨(some 37), (.faddr 4 (.t 1)), (some (36, false)), false⟩, ⟨(some 38), (.load false 1 (.t 37)), (some (36, false)), false⟩, ⟨(some 39), (.call 20 [(.t 38)]), (some (36, false)), false⟩, ⟨(some 40), (.un .not (.t 39)), (some (36, false)), false⟩, ⟨(some 41), (.pick (.t 36) (.c (.bool true)) (.t 40)), (some (32, true)), false⟩, ⟨(some 42), (.pick (.t 32) (.t 41) (.c (.bool false))), (some (27, false)), false⟩, ⟨(some 43), (.pick (.t 27) (.c (.bool true)) (.t 42)), none, false⟩] 0 [1, 43]) (.cond (.t 43) (.seq (.reg [⟨(some 2), (.mov (.c (.bool false))), none, false⟩] 0 [2]) .ret) .skip)) (.seq (.seq (.reg [⟨(some 3), (.mov (.c (.int .i64 0))), none, false⟩] 0 [1, 3]) (.blk 0 (.loop rc_rRight_l0))) (.seq (.seq (.reg [⟨(some 4), (.mov (.c (.int .i64 0))), none, false⟩] 0 [1, 4]) (.blk 2 (.loop rc_rRight_l1))) (.seq (.seq (.reg [⟨(some 79), (.faddr 1 (.t 1)), none, false⟩, ⟨(some 80), (.load false 1 (.t 79)), none, false⟩, ⟨(some 81), (.bin .neq (.t 80) (.c (.int .u8 0))), none, false⟩, ⟨(some 82), (.mov (.t 81)), none, false⟩, ⟨(some 83), (.faddr 1 (.t 1)), (some (82, true)), false⟩, ⟨(some 84), (.load false 1 (.t 83)), (some (82, true)), false⟩, ⟨(some 85), (.bin .lss (.t 84) (.c (.int .u8 60))), (some (82, true)), false⟩, ⟨(some 86), (.mov (.t 85)), (some (82, true)), false⟩, ⟨(some 87), (.faddr 1 (.t 1)), (some (86, false)), false⟩, ⟨(some 88), (.load false 1 (.t 87)), (some (86, false)), false⟩, ⟨(some 89), (.bin .gtr (.t 88) (.c (.int .u8 63))), (some (86, false)), false⟩, ⟨(some 90), (.pick (.t 86) (.c (.bool true)) (.t 89)), (some (82, true)), false⟩, ⟨(some 91), (.pick (.t 82) (.t 90) (.c (.bool false))), none, false⟩] 0 [1, 91]) (.cond (.t 91) (.seq (.reg [⟨(some 2), (.mov (.c (.bool false))), none, false⟩] 0 [2]) .ret) .skip)) (.seq (.reg [⟨(some 92), (.faddr 0 (.t 1)), none, false⟩, ⟨(some 93), (.load false 1 (.t 92)), none, false⟩, ⟨(some 94), (.bin .eql (.t 93) (.c (.int .i64 4))), none, false⟩, ⟨(some 95), (.mov (.t 94)), none, false⟩, ⟨(some 96), (.faddr 0 (.t 1)), (some (95, false)), false⟩, ⟨(some 97), (.load false 1 (.t 96)), (some (95, false)), false⟩, ⟨(some 98), (.bin .eql (.t 97) (.c (.int .i64 5))), (some (95, false)), false⟩, ⟨(some 99), (.pick (.t 95) (.c (.bool true)) (.t 98)), none, false⟩, ⟨(some 5), (.mov (.t 99)), none, false⟩] 0 [1, 5]) (.seq (.reg [⟨(some 100), (.faddr 0 (.t 1)), none, false⟩, ⟨(some 101), (.load false 1 (.t 100)), none, false⟩, ⟨(some 102), (.bin .eql (.t 101) (.c (.int .i64 2))), none, false⟩, ⟨(some 103), (.mov (.t 102)), none, false⟩, ⟨(some 104), (.faddr 0 (.t 1)), (some (103, false)), false⟩, ⟨(some 105), (.load false 1 (.t 104)), (some (103, false)), false⟩, ⟨(some 106), (.bin .eql (.t 105) (.c (.int .i64 5))), (some (103, false)), false⟩, ⟨(some 107), (.pick (.t 103) (.c (.bool true)) (.t 106)), none, false⟩, ⟨(some 6), (.mov (.t 107)), none, false⟩] 0 [1, 5, 6]) (.seq (.reg [⟨(some 108), (.mov (.t 5)), none, false⟩, ⟨(some 109), (.mov (.t 108)), none, false⟩, ⟨(some 110), (.faddr 1 (.t 1)), (some (109, false)), false⟩, ⟨(some 111), (.load false 1 (.t 110)), (some (109, false)), false⟩, ⟨(some 112), (.bin .eql (.t 111) (.c (.int .u8 0))), (some (109, false)), false⟩, ⟨(some 113), (.mov (.t 112)), (some (109, false)), false⟩, ⟨(some 114), (.faddr 2 (.t 1)), (some (113, true)), false⟩, ⟨(some 115), (.load false 1 (.t 114)), (some (113, true)), false⟩, ⟨(some 116), (.len (.t 115)), (some (113, true)), false⟩, ⟨(some 117), (.bin .eql (.t 116) (.c (.int .i64 0))), (some (113, true)), false⟩, ⟨(some 118), (.pick (.t 113) (.t 117) (.c (.bool false))), (some (109, false)), false⟩, ⟨(some 119), (.pick (.t 109) (.c (.bool true)) (.t 118)), none, false⟩, ⟨(some 120), (.mov (.t 119)), none, false⟩, ⟨(some 121), (.mov (.t 6)), (some (120, true)), false⟩, ⟨(some 122), (.faddr 3 (.t 1)), (some (120, true)), false⟩, ⟨(some 123), (.load false 1 (.t 122)), (some (120, true)), false⟩, ⟨(some 124), (.len (.t 123)), (some (120, true)), false⟩, ⟨(some 125), (.bin .gtr (.t 124) (.c (.int .i64 0))), (some (120, true)), false⟩, ⟨(some 126), (.eqB false (.t 121) (.t 125)), (some (120, true)), false⟩, ⟨(some 127), (.pick (.t 120) (.t 126) (.c (.bool false))), none, false⟩, ⟨(some 2), (.mov (.t 127)), none, false⟩] 0 [2]) .ret)))))))), [(.t 2)]⟩
theorem rc_rRight_ok : compFn PG.P [⟨0, 0, [1], []⟩, ⟨1, 0, [1, 43], []⟩, ⟨2, 0, [2], []⟩, ⟨3, 0, [1, 3], []⟩, ⟨4, 0, [1, 3, 48], []⟩, ⟨5, 0, [1, 3], []⟩, ⟨6, 0, [1, 3, 64], []⟩, ⟨7, 0, [2], []⟩, ⟨8, 0, [1, 4], []⟩, ⟨9, 0, [1, 4, 69], []⟩, ⟨10, 0, [1, 4], []⟩, ⟨11, 0, [1, 4, 78], []⟩, ⟨12, 0, [2], []⟩, ⟨13, 0, [1, 91], []⟩, ⟨14, 0, [2], []⟩, ⟨15, 0, [1, 5], []⟩, ⟨16, 0, [1, 5, 6], []⟩, ⟨17, 0, [2], []⟩] 27 = some rc_rRight := by kernel_rfl
theorem vRight_P {p : Pa} (h1 : inK .i64 p.P) (h2 : inK .u8 p.I) (h3 : inK .u8 p.U) (hl : p.P.length ≤ 1000 ∧ p.I.length ≤ 1000 ∧ p.U.length ≤ 1000) : PCalls PG 26 [paD p] fun n r os => r = .bool (prightF p) ∧ os = [] := by
  obtain ⟨m, pr, P, I, U⟩ := p
  simp only at h1 h2 h3 hl
  refine PCalls.by_fn (res := fun n => (.bool (prightF ⟨m, pr, P, I, U⟩), [])) T33_ok rc_vRight_ok (by simp [rc_vRight]) fun n => ?_
  unfold rc_vRight
  dsimp only [paD]
  simp -implicitDefEqProofs only [T33_at_inters, T33_at_beg, T33_at_rinter, F_vinters_1, F_ubegins_1, isInts_sl, intsD_sl, vcB1, vcB2, vcB3, vcA1, vcA2, vcA3, vcA4, vcA5, vcA6, vcA7, ↓vcP1, ↓vcP2, ↓reduceIte, Option.map_some, Option.map_none, Option.bind_some, Option.bind_none, if_true, if_false, reduceCtorEq, beq_true, beq_false, Bool.not_true, Bool.not_false, BEq.rfl, Bool.true_beq, Bool.false_beq, and_true, true_and, and_self, decide_true, decide_false, List.length_cons, List.length_nil, List.all_cons, List.all_nil, Bool.and_true, Bool.and_self, List.getElem?_cons_zero, List.getElem?_cons_succ, List.set_cons_zero, List.set_cons_succ, List.nil_append, List.cons_append, List.append_nil, List.map_cons, List.map_nil, not_true_eq_false, not_false_eq_true, false_implies, true_implies, implies_true, List.take_succ_cons, List.take_zero, List.take_nil, List.drop_succ_cons, List.drop_zero, List.drop_nil, Nat.reduceLT, Nat.reduceLeDiff, Nat.reduceEqDiff, Nat.reduceAdd, Nat.reduceSub, Nat.reduceMul, Int.reduceLT, Int.reduceLE, Int.reduceEq, Int.reduceToNat, Int.reduceAdd, Int.reduceSub, Int.reduceNeg, List.reduceReplicate, List.replicate_zero, List.replicate_succ, ne_eq, List.flatMap_cons, List.flatMap_nil, List.length_replicate, List.length_append, Nat.le_refl, Nat.le_add_right, Nat.add_assoc, List.append_assoc, or_true, true_or, or_false, false_or, and_false, false_and, exists_eq_left, exists_eq_left', Option.some.injEq, DV.int.injEq, DV.bool.injEq, DV.sl.injEq, DV.own.injEq, DV.tup.injEq, List.cons.injEq, Ob.arr.injEq, Ob.box.injEq, Option.map_map, Int.toNat_natCast, Int.toNat_zero, Nat.reducePow, Int.toNat_one, Int.reduceMul, Nat.mul_one, Nat.zero_add, Nat.add_zero, Function.comp_apply, List.map_append, List.map_replicate, Int.cast_ofNat_Int, Nat.left_eq_add, Nat.add_eq_left, Nat.add_left_cancel_iff]
  generalize hG : LoopWp PG 102 rc_vRight_l0 _ _ = G
  have hF : ¬ prA ⟨m, pr, P, I, U⟩ → false = prightF ⟨m, pr, P, I, U⟩ := pright_A
  have hGt : prA ⟨m, pr, P, I, U⟩ → G := fun hA => by
    rw [← hG]; clear hG
    refine LoopWp.inv T33_ok (S := fun i : Nat => ⟨[(1, .ptr n 0 0), (74, .sl 1 (intRows .i64 P) .any), (75, .int .i64 P.length), (76, .int .i64 i)], List.replicate n none ++ [some (.box [.int .i64 m, .int .u8 pr, .sl 1 (intRows .i64 P) .any, .sl 1 (intRows .u8 I) .any, .sl 1 (intRows .u8 U) .any])]⟩) (I := fun i => i ≤ P.length ∧ ∀ j, j < i → 0 ≤ P.getD j 0 ∧ P.getD j 0 ≤ 65535) (μ := fun i => P.length - i) 0 ⟨by omega, by omega⟩ ?_ ?_
    · simp -implicitDefEqProofs only [vcB1, vcB2, vcB3, vcA1, vcA2, vcA3, vcA4, vcA5, vcA6, vcA7, ↓vcP1, ↓vcP2, ↓reduceIte, Option.map_some, Option.map_none, Option.bind_some, Option.bind_none, if_true, if_false, reduceCtorEq, beq_true, beq_false, Bool.not_true, Bool.not_false, BEq.rfl, Bool.true_beq, Bool.false_beq, and_true, true_and, and_self, decide_true, decide_false, List.length_cons, List.length_nil, List.all_cons, List.all_nil, Bool.and_true, Bool.and_self, List.getElem?_cons_zero, List.getElem?_cons_succ, List.set_cons_zero, List.set_cons_succ, List.nil_append, List.cons_append, List.append_nil, List.map_cons, List.map_nil, not_true_eq_false, not_false_eq_true, false_implies, true_implies, implies_true, List.take_succ_cons, List.take_zero, List.take_nil, List.drop_succ_cons, List.drop_zero, List.drop_nil, Nat.reduceLT, Nat.reduceLeDiff, Nat.reduceEqDiff, Nat.reduceAdd, Nat.reduceSub, Nat.reduceMul, Int.reduceLT, Int.reduceLE, Int.reduceEq, Int.reduceToNat, Int.reduceAdd, Int.reduceSub, Int.reduceNeg, List.reduceReplicate, List.replicate_zero, List.replicate_succ, ne_eq, List.flatMap_cons, List.flatMap_nil, List.length_replicate, List.length_append, Nat.le_refl, Nat.le_add_right, Nat.add_assoc, List.append_assoc, or_true, true_or, or_false, false_or, and_false, false_and, exists_eq_left, exists_eq_left', Option.some.injEq, DV.int.injEq, DV.bool.injEq, DV.sl.injEq, DV.own.injEq, DV.tup.injEq, List.cons.injEq, Ob.arr.injEq, Ob.box.injEq, Option.map_map, Int.toNat_natCast, Int.toNat_zero, Nat.reducePow, Int.toNat_one, Int.reduceMul, Nat.mul_one, Nat.zero_add, Nat.add_zero, Function.comp_apply, List.map_append, List.map_replicate, Int.cast_ofNat_Int, Nat.left_eq_add, Nat.add_eq_left, Nat.add_left_cancel_iff]
    · intro i ⟨hi, hv⟩
      unfold rc_vRight_l0
      simp -implicitDefEqProofs only [T33_at_inters, F_vinters_1, isInts_sl, intsD_sl, vcB1, vcB2, vcB3, vcA1, vcA2, vcA3, vcA4, vcA5, vcA6, vcA7, ↓vcP1, ↓vcP2, ↓reduceIte, Option.map_some, Option.map_none, Option.bind_some, Option.bind_none, if_true, if_false, reduceCtorEq, beq_true, beq_false, Bool.not_true, Bool.not_false, BEq.rfl, Bool.true_beq, Bool.false_beq, and_true, true_and, and_self, decide_true, decide_false, List.length_cons, List.length_nil, List.all_cons, List.all_nil, Bool.and_true, Bool.and_self, List.getElem?_cons_zero, List.getElem?_cons_succ, List.set_cons_zero, List.set_cons_succ, List.nil_append, List.cons_append, List.append_nil, List.map_cons, List.map_nil, not_true_eq_false, not_false_eq_true, false_implies, true_implies, implies_true, List.take_succ_cons, List.take_zero, List.take_nil, List.drop_succ_cons, List.drop_zero, List.drop_nil, Nat.reduceLT, Nat.reduceLeDiff, Nat.reduceEqDiff, Nat.reduceAdd, Nat.reduceSub, Nat.reduceMul, Int.reduceLT, Int.reduceLE, Int.reduceEq, Int.reduceToNat, Int.reduceAdd, Int.reduceSub, Int.reduceNeg, List.reduceReplicate, List.replicate_zero, List.replicate_succ, ne_eq, List.flatMap_cons, List.flatMap_nil, List.length_replicate, List.length_append, Nat.le_refl, Nat.le_add_right, Nat.add_assoc, List.append_assoc, or_true, true_or, or_false, false_or, and_false, false_and, exists_eq_left, exists_eq_left', Option.some.injEq, DV.int.injEq, DV.bool.injEq, DV.sl.injEq, DV.own.injEq, DV.tup.injEq, List.cons.injEq, Ob.arr.injEq, Ob.box.injEq, Option.map_map, Int.toNat_natCast, Int.toNat_zero, Nat.reducePow, Int.toNat_one, Int.reduceMul, Nat.mul_one, Nat.zero_add, Nat.add_zero, Function.comp_apply, List.map_append, List.map_replicate, Int.cast_ofNat_Int, Nat.left_eq_add, Nat.add_eq_left, Nat.add_left_cancel_iff]
      refine ⟨fun h => ⟨⟨by omega, h⟩, by omega, fun h2 => pright_B fun hb => ?_, fun h2 => ⟨fun h3 => pright_B fun hb => ?_, fun h3 => ⟨i + 1, by rw [wI64] <;> omega, ⟨by omega, fun j hj => ?_⟩, by omega⟩⟩⟩, fun h => ?_⟩
      · have := prB_get hb (i := i) (by omega); omega
      · have := prB_get hb (i := i) (by omega); omega
      · by_cases hji : j = i
        · subst hji; omega
        · exact hv j (by omega)
      · have hB : prB ⟨m, pr, P, I, U⟩ := prB_mk fun j hj => hv j (by omega)
        rw [pright_AB hA hB]
        refine ⟨fun e => ⟨h2, ?_⟩, fun e => ⟨fun e2 => ⟨h2, ?_⟩, fun e2 => ?_⟩⟩
        · unfold prC; rw [if_pos (.inl e)]
        · unfold prC; rw [if_pos (.inr e2)]
        · unfold prC; rw [if_neg (by simp only; omega)]; congr 1; simp
  clear hG
  have hpr : prA ⟨m, pr, P, I, U⟩ ↔ (0 ≤ m ∧ m ≤ 7 ∧ (U.length = 0 ∨ (m = 0 ∧ ubeg U = true)) ∧ ((m = 4 ∨ m = 5) ∨ (pr = 0 ∧ P.length = 0)) ∧ P.length ≤ 16 ∧ (pr = 0 ∨ (60 ≤ pr ∧ pr ≤ 63))) := Iff.rfl
  generalize (false = prightF ⟨m, pr, P, I, U⟩) = FF at *
  cases hu : ubeg U <;> simp only [cnd_true, cnd_false] <;> rw [hu] at hpr <;> simp only [Bool.false_eq_true, and_false, or_false, and_true] at hpr
  all_goals (repeat' (first | intro _ | (with_reducible apply And.intro)))
  all_goals first
    | assumption
    | exact hF (fun h => by have := hpr.1 h; omega)
    | exact hGt (hpr.2 (by omega))
theorem rRight_P {p : Pa} (h1 : inK .i64 p.P) (h2 : inK .u8 p.I) (h3 : inK .u8 p.U) (hl : p.P.length ≤ 1000 ∧ p.I.length ≤ 1000 ∧ p.U.length ≤ 1000) : PCalls PG 27 [paD p] fun n r os => r = .bool (prightF p) ∧ os = [] := by
  obtain ⟨m, pr, P, I, U⟩ := p
  simp only at h1 h2 h3 hl
  refine PCalls.by_fn (res := fun n => (.bool (prightF ⟨m, pr, P, I, U⟩), [])) T33_ok rc_rRight_ok (by simp [rc_rRight]) fun n => ?_
  unfold rc_rRight
  dsimp only [paD]
  simp -implicitDefEqProofs only [T33_at_rbeg, T33_at_rinter, F_rbegins_1, F_rinter_1, isInts_sl, intsD_sl, vcB1, vcB2, vcB3, vcA1, vcA2, vcA3, vcA4, vcA5, vcA6, vcA7, ↓vcP1, ↓vcP2, ↓reduceIte, Option.map_some, Option.map_none, Option.bind_some, Option.bind_none, if_true, if_false, reduceCtorEq, beq_true, beq_false, Bool.not_true, Bool.not_false, BEq.rfl, Bool.true_beq, Bool.false_beq, and_true, true_and, and_self, decide_true, decide_false, List.length_cons, List.length_nil, List.all_cons, List.all_nil, Bool.and_true, Bool.and_self, List.getElem?_cons_zero, List.getElem?_cons_succ, List.set_cons_zero, List.set_cons_succ, List.nil_append, List.cons_append, List.append_nil, List.map_cons, List.map_nil, not_true_eq_false, not_false_eq_true, false_implies, true_implies, implies_true, List.take_succ_cons, List.take_zero, List.take_nil, List.drop_succ_cons, List.drop_zero, List.drop_nil, Nat.reduceLT, Nat.reduceLeDiff, Nat.reduceEqDiff, Nat.reduceAdd, Nat.reduceSub, Nat.reduceMul, Int.reduceLT, Int.reduceLE, Int.reduceEq, Int.reduceToNat, Int.reduceAdd, Int.reduceSub, Int.reduceNeg, List.reduceReplicate, List.replicate_zero, List.replicate_succ, ne_eq, List.flatMap_cons, List.flatMap_nil, List.length_replicate, List.length_append, Nat.le_refl, Nat.le_add_right, Nat.add_assoc, List.append_assoc, or_true, true_or, or_false, false_or, and_false, false_and, exists_eq_left, exists_eq_left', Option.some.injEq, DV.int.injEq, DV.bool.injEq, DV.sl.injEq, DV.own.injEq, DV.tup.injEq, List.cons.injEq, Ob.arr.injEq, Ob.box.injEq, Option.map_map, Int.toNat_natCast, Int.toNat_zero, Nat.reducePow, Int.toNat_one, Int.reduceMul, Nat.mul_one, Nat.zero_add, Nat.add_zero, Function.comp_apply, List.map_append, List.map_replicate, Int.cast_ofNat_Int, Nat.left_eq_add, Nat.add_eq_left, Nat.add_left_cancel_iff]
  generalize hG : LoopWp PG 128 rc_rRight_l0 _ _ = G
  have hF : ¬ prA ⟨m, pr, P, I, U⟩ → false = prightF ⟨m, pr, P, I, U⟩ := pright_A
  have hF2 : 2 < I.length → false = prightF ⟨m, pr, P, I, U⟩ := fun h => pright_C (by
    unfold prC
    split
    · unfold intersF; rw [decide_eq_false (show ¬ I.length ≤ 2 by omega)]; simp
    · rw [decide_eq_false_iff_not]; show ¬ I.length = 0; omega)
  have hpr : prA ⟨m, pr, P, I, U⟩ ↔ (0 ≤ m ∧ m ≤ 7 ∧ (U.length = 0 ∨ (m = 0 ∧ ubeg U = true)) ∧ ((m = 4 ∨ m = 5) ∨ (pr = 0 ∧ P.length = 0)) ∧ P.length ≤ 16 ∧ (pr = 0 ∨ (60 ≤ pr ∧ pr ≤ 63))) := Iff.rfl
  have hGt : (0 ≤ m ∧ m ≤ 7 ∧ P.length ≤ 16 ∧ I.length ≤ 2 ∧ (U.length = 0 ∨ (m = 0 ∧ ubeg U = true))) → G := fun hA => by
    rw [← hG]; clear hG
    refine LoopWp.inv T33_ok (S := fun i : Nat => ⟨[(1, .ptr n 0 0), (3, .int .i64 i)], List.replicate n none ++ [some (.box [.int .i64 m, .int .u8 pr, .sl 1 (intRows .i64 P) .any, .sl 1 (intRows .u8 I) .any, .sl 1 (intRows .u8 U) .any])]⟩) (I := fun i => i ≤ P.length ∧ ∀ j, j < i → 0 ≤ P.getD j 0 ∧ P.getD j 0 ≤ 65535) (μ := fun i => P.length - i) 0 ⟨by omega, by omega⟩ ?_ ?_
    · simp -implicitDefEqProofs only [vcB1, vcB2, vcB3, vcA1, vcA2, vcA3, vcA4, vcA5, vcA6, vcA7, ↓vcP1, ↓vcP2, ↓reduceIte, Option.map_some, Option.map_none, Option.bind_some, Option.bind_none, if_true, if_false, reduceCtorEq, beq_true, beq_false, Bool.not_true, Bool.not_false, BEq.rfl, Bool.true_beq, Bool.false_beq, and_true, true_and, and_self, decide_true, decide_false, List.length_cons, List.length_nil, List.all_cons, List.all_nil, Bool.and_true, Bool.and_self, List.getElem?_cons_zero, List.getElem?_cons_succ, List.set_cons_zero, List.set_cons_succ, List.nil_append, List.cons_append, List.append_nil, List.map_cons, List.map_nil, not_true_eq_false, not_false_eq_true, false_implies, true_implies, implies_true, List.take_succ_cons, List.take_zero, List.take_nil, List.drop_succ_cons, List.drop_zero, List.drop_nil, Nat.reduceLT, Nat.reduceLeDiff, Nat.reduceEqDiff, Nat.reduceAdd, Nat.reduceSub, Nat.reduceMul, Int.reduceLT, Int.reduceLE, Int.reduceEq, Int.reduceToNat, Int.reduceAdd, Int.reduceSub, Int.reduceNeg, List.reduceReplicate, List.replicate_zero, List.replicate_succ, ne_eq, List.flatMap_cons, List.flatMap_nil, List.length_replicate, List.length_append, Nat.le_refl, Nat.le_add_right, Nat.add_assoc, List.append_assoc, or_true, true_or, or_false, false_or, and_false, false_and, exists_eq_left, exists_eq_left', Option.some.injEq, DV.int.injEq, DV.bool.injEq, DV.sl.injEq, DV.own.injEq, DV.tup.injEq, List.cons.injEq, Ob.arr.injEq, Ob.box.injEq, Option.map_map, Int.toNat_natCast, Int.toNat_zero, Nat.reducePow, Int.toNat_one, Int.reduceMul, Nat.mul_one, Nat.zero_add, Nat.add_zero, Function.comp_apply, List.map_append, List.map_replicate, Int.cast_ofNat_Int, Nat.left_eq_add, Nat.add_eq_left, Nat.add_left_cancel_iff]
    · intro i ⟨hi, hv⟩
      unfold rc_rRight_l0
      simp -implicitDefEqProofs only [T33_at_rinter, F_rinter_1, isInts_sl, intsD_sl, vcB1, vcB2, vcB3, vcA1, vcA2, vcA3, vcA4, vcA5, vcA6, vcA7, ↓vcP1, ↓vcP2, ↓reduceIte, Option.map_some, Option.map_none, Option.bind_some, Option.bind_none, if_true, if_false, reduceCtorEq, beq_true, beq_false, Bool.not_true, Bool.not_false, BEq.rfl, Bool.true_beq, Bool.false_beq, and_true, true_and, and_self, decide_true, decide_false, List.length_cons, List.length_nil, List.all_cons, List.all_nil, Bool.and_true, Bool.and_self, List.getElem?_cons_zero, List.getElem?_cons_succ, List.set_cons_zero, List.set_cons_succ, List.nil_append, List.cons_append, List.append_nil, List.map_cons, List.map_nil, not_true_eq_false, not_false_eq_true, false_implies, true_implies, implies_true, List.take_succ_cons, List.take_zero, List.take_nil, List.drop_succ_cons, List.drop_zero, List.drop_nil, Nat.reduceLT, Nat.reduceLeDiff, Nat.reduceEqDiff, Nat.reduceAdd, Nat.reduceSub, Nat.reduceMul, Int.reduceLT, Int.reduceLE, Int.reduceEq, Int.reduceToNat, Int.reduceAdd, Int.reduceSub, Int.reduceNeg, List.reduceReplicate, List.replicate_zero, List.replicate_succ, ne_eq, List.flatMap_cons, List.flatMap_nil, List.length_replicate, List.length_append, Nat.le_refl, Nat.le_add_right, Nat.add_assoc, List.append_assoc, or_true, true_or, or_false, false_or, and_false, false_and, exists_eq_left, exists_eq_left', Option.some.injEq, DV.int.injEq, DV.bool.injEq, DV.sl.injEq, DV.own.injEq, DV.tup.injEq, List.cons.injEq, Ob.arr.injEq, Ob.box.injEq, Option.map_map, Int.toNat_natCast, Int.toNat_zero, Nat.reducePow, Int.toNat_one, Int.reduceMul, Nat.mul_one, Nat.zero_add, Nat.add_zero, Function.comp_apply, List.map_append, List.map_replicate, Int.cast_ofNat_Int, Nat.left_eq_add, Nat.add_eq_left, Nat.add_left_cancel_iff]
      refine ⟨fun h => ⟨⟨by omega, h⟩, by omega, fun h2 => pright_B fun hb => ?_, fun h2 => ⟨⟨by omega, h⟩, by omega, fun h3 => pright_B fun hb => ?_, fun h3 => ⟨i + 1, by rw [wI64] <;> omega, ⟨by omega, fun j hj => ?_⟩, by omega⟩⟩⟩, fun h => ?_⟩
      · have := prB_get hb (i := i) (by omega); omega
      · have := prB_get hb (i := i) (by omega); omega
      · by_cases hji : j = i
        · subst hji; omega
        · exact hv j (by omega)
      · have hB : prB ⟨m, pr, P, I, U⟩ := prB_mk fun j hj => hv j (by omega)
        refine LoopWp.inv T33_ok (S := fun i : Nat => ⟨[(1, .ptr n 0 0), (4, .int .i64 i)], List.replicate n none ++ [some (.box [.int .i64 m, .int .u8 pr, .sl 1 (intRows .i64 P) .any, .sl 1 (intRows .u8 I) .any, .sl 1 (intRows .u8 U) .any])]⟩) (I := fun i => i ≤ I.length ∧ ∀ j, j < i → vint (I.getD j 0) = true) (μ := fun i => I.length - i) 0 ⟨by omega, by omega⟩ ?_ ?_
        · simp -implicitDefEqProofs only [vcB1, vcB2, vcB3, vcA1, vcA2, vcA3, vcA4, vcA5, vcA6, vcA7, ↓vcP1, ↓vcP2, ↓reduceIte, Option.map_some, Option.map_none, Option.bind_some, Option.bind_none, if_true, if_false, reduceCtorEq, beq_true, beq_false, Bool.not_true, Bool.not_false, BEq.rfl, Bool.true_beq, Bool.false_beq, and_true, true_and, and_self, decide_true, decide_false, List.length_cons, List.length_nil, List.all_cons, List.all_nil, Bool.and_true, Bool.and_self, List.getElem?_cons_zero, List.getElem?_cons_succ, List.set_cons_zero, List.set_cons_succ, List.nil_append, List.cons_append, List.append_nil, List.map_cons, List.map_nil, not_true_eq_false, not_false_eq_true, false_implies, true_implies, implies_true, List.take_succ_cons, List.take_zero, List.take_nil, List.drop_succ_cons, List.drop_zero, List.drop_nil, Nat.reduceLT, Nat.reduceLeDiff, Nat.reduceEqDiff, Nat.reduceAdd, Nat.reduceSub, Nat.reduceMul, Int.reduceLT, Int.reduceLE, Int.reduceEq, Int.reduceToNat, Int.reduceAdd, Int.reduceSub, Int.reduceNeg, List.reduceReplicate, List.replicate_zero, List.replicate_succ, ne_eq, List.flatMap_cons, List.flatMap_nil, List.length_replicate, List.length_append, Nat.le_refl, Nat.le_add_right, Nat.add_assoc, List.append_assoc, or_true, true_or, or_false, false_or, and_false, false_and, exists_eq_left, exists_eq_left', Option.some.injEq, DV.int.injEq, DV.bool.injEq, DV.sl.injEq, DV.own.injEq, DV.tup.injEq, List.cons.injEq, Ob.arr.injEq, Ob.box.injEq, Option.map_map, Int.toNat_natCast, Int.toNat_zero, Nat.reducePow, Int.toNat_one, Int.reduceMul, Nat.mul_one, Nat.zero_add, Nat.add_zero, Function.comp_apply, List.map_append, List.map_replicate, Int.cast_ofNat_Int, Nat.left_eq_add, Nat.add_eq_left, Nat.add_left_cancel_iff]
        · intro i ⟨hi, hv⟩
          unfold rc_rRight_l1
          simp -implicitDefEqProofs only [T33_at_rinter, F_rinter_1, isInts_sl, intsD_sl, vcB1, vcB2, vcB3, vcA1, vcA2, vcA3, vcA4, vcA5, vcA6, vcA7, ↓vcP1, ↓vcP2, ↓reduceIte, Option.map_some, Option.map_none, Option.bind_some, Option.bind_none, if_true, if_false, reduceCtorEq, beq_true, beq_false, Bool.not_true, Bool.not_false, BEq.rfl, Bool.true_beq, Bool.false_beq, and_true, true_and, and_self, decide_true, decide_false, List.length_cons, List.length_nil, List.all_cons, List.all_nil, Bool.and_true, Bool.and_self, List.getElem?_cons_zero, List.getElem?_cons_succ, List.set_cons_zero, List.set_cons_succ, List.nil_append, List.cons_append, List.append_nil, List.map_cons, List.map_nil, not_true_eq_false, not_false_eq_true, false_implies, true_implies, implies_true, List.take_succ_cons, List.take_zero, List.take_nil, List.drop_succ_cons, List.drop_zero, List.drop_nil, Nat.reduceLT, Nat.reduceLeDiff, Nat.reduceEqDiff, Nat.reduceAdd, Nat.reduceSub, Nat.reduceMul, Int.reduceLT, Int.reduceLE, Int.reduceEq, Int.reduceToNat, Int.reduceAdd, Int.reduceSub, Int.reduceNeg, List.reduceReplicate, List.replicate_zero, List.replicate_succ, ne_eq, List.flatMap_cons, List.flatMap_nil, List.length_replicate, List.length_append, Nat.le_refl, Nat.le_add_right, Nat.add_assoc, List.append_assoc, or_true, true_or, or_false, false_or, and_false, false_and, exists_eq_left, exists_eq_left', Option.some.injEq, DV.int.injEq, DV.bool.injEq, DV.sl.injEq, DV.own.injEq, DV.tup.injEq, List.cons.injEq, Ob.arr.injEq, Ob.box.injEq, Option.map_map, Int.toNat_natCast, Int.toNat_zero, Nat.reducePow, Int.toNat_one, Int.reduceMul, Nat.mul_one, Nat.zero_add, Nat.add_zero, Function.comp_apply, List.map_append, List.map_replicate, Int.cast_ofNat_Int, Nat.left_eq_add, Nat.add_eq_left, Nat.add_left_cancel_iff]
          obtain ⟨a1, a2, a3, a4, a5⟩ := hA
          have hF : ¬ prA ⟨m, pr, P, I, U⟩ → false = prightF ⟨m, pr, P, I, U⟩ := pright_A
          have g1 : ((m = 4 ∨ m = 5) ∨ pr = 0 ∧ P.length = 0) → (pr = 0 ∨ (60 ≤ pr ∧ pr ≤ 63)) → prA ⟨m, pr, P, I, U⟩ := fun x y => ⟨a1, a2, a5, x, a3, y⟩
          have g2 : prA ⟨m, pr, P, I, U⟩ → ((m = 4 ∨ m = 5) ∨ pr = 0 ∧ P.length = 0) ∧ (pr = 0 ∨ (60 ≤ pr ∧ pr ≤ 63)) := fun ⟨_, _, _, x, _, y⟩ => ⟨x, y⟩
          have kT : prA ⟨m, pr, P, I, U⟩ → (m = 2 ∨ m = 5) → ¬ i < I.length → prightF ⟨m, pr, P, I, U⟩ = decide (0 < (I.length : Int)) := fun h e hi2 => by
            rw [pright_AB h hB]
            unfold prC
            rw [if_pos e]
            have : (∀ x ∈ I, vint x = true) := all_getD (q := fun x => vint x = true) fun j hj => hv j (by omega)
            by_cases h0 : 0 < I.length
            · rw [decide_eq_true (show 0 < (I.length : Int) by omega)]
              exact (intersF_iff I).2 ⟨by omega, by omega, this⟩
            · rw [decide_eq_false (show ¬ 0 < (I.length : Int) by omega), ← Bool.not_eq_true]
              intro hx
              have := (intersF_iff I).1 hx
              omega
          have kF : prA ⟨m, pr, P, I, U⟩ → ¬ (m = 2 ∨ m = 5) → prightF ⟨m, pr, P, I, U⟩ = !decide (0 < (I.length : Int)) := fun h e => by
            rw [pright_AB h hB]
            unfold prC
            rw [if_neg e]
            by_cases h0 : 0 < I.length
            · rw [decide_eq_true (show 0 < (I.length : Int) by omega), decide_eq_false (show ¬ I.length = 0 by omega)]; rfl
            · rw [decide_eq_false (show ¬ 0 < (I.length : Int) by omega), decide_eq_true (show I.length = 0 by omega)]; rfl
          have kI : i < I.length → vint (I.getD i 0) = false → false = prightF ⟨m, pr, P, I, U⟩ := fun h e => pright_C (by
            unfold prC
            split
            · rw [← Bool.not_eq_true]
              intro hx
              have := ((intersF_iff I).1 hx).2.2 _ (getD_mem h)
              rw [e] at this; cases this
            · rw [decide_eq_false_iff_not]; show ¬ I.length = 0; omega)
          have hv0 := hv
          have hkb := fun h : i < I.length => h2.u8 (getD_mem h)
          clear a5 hB hv
          generalize prightF ⟨m, pr, P, I, U⟩ = K at *
          generalize prA ⟨m, pr, P, I, U⟩ = A at *
          refine ⟨fun h => ⟨⟨by omega, h⟩, by omega, hkb (by omega), ?_⟩, ?_⟩
          · cases hvi : vint (I.getD i 0) with
            | true =>
              rw [cnd_true]
              refine ⟨i + 1, by rw [wI64] <;> omega, ⟨by omega, fun j hj => ?_⟩, by omega⟩
              by_cases hji : j = i
              · subst hji; exact hvi
              · exact hv0 j (by omega)
            | false =>
              rw [cnd_false]
              exact kI (by omega) hvi
          · by_cases hm5 : m = 5
            · rw [decide_eq_true hm5]
              (repeat' (first | intro _ | (with_reducible apply And.intro)))
              all_goals first
                | exact hF (fun h => by have := g2 h; omega)
                | (rw [kT (g1 (by omega) (by omega)) (by omega) (by omega)]; cases decide (0 < (I.length : Int)) <;> rfl)
                | (exfalso; omega)
            · rw [decide_eq_false hm5]
              (repeat' (first | intro _ | (with_reducible apply And.intro)))
              all_goals first
                | exact hF (fun h => by have := g2 h; omega)
                | (rw [kT (g1 (by omega) (by omega)) (by omega) (by omega)]; cases decide (0 < (I.length : Int)) <;> rfl)
                | (rw [kF (g1 (by omega) (by omega)) (by omega)]; cases decide (0 < (I.length : Int)) <;> rfl)
                | (exfalso; omega)
  clear hG
  generalize (false = prightF ⟨m, pr, P, I, U⟩) = FF at *
  cases hu : ubeg U <;> simp only [cnd_true, cnd_false] <;> rw [hu] at hpr hGt <;> simp only [Bool.false_eq_true, and_false, or_false, and_true] at hpr hGt
  all_goals (repeat' (first | intro _ | (with_reducible apply And.intro)))
  all_goals first
    | assumption
    | exact hF (fun h => by have := hpr.1 h; omega)
    | exact hF2 (by omega)
    | exact hGt (by omega)
end Go.Proofs.YteemmpghpdaloaaDoor
end
section
/- The document's step is the program's; right parsers stay right. -/
set_option linter.unusedVariables false
set_option linter.unusedSimpArgs false
set_option maxRecDepth 10000
namespace Go.Proofs.YteemmpghpdaloaaDoor
open Go.RowKit

theorem vint_t (b : Int) : (vint b = true) = (32 ≤ b ∧ b ≤ 47) := by simp [vint]
theorem vint_f (b : Int) : (vint b = false) = ¬ (32 ≤ b ∧ b ≤ 47) := by rw [← vint_t]; simp
structure Rt (p : Pa) : Prop where
  a : prA p
  b : prB p
  c : prC p = true
theorem rt_iff (p : Pa) : prightF p = true ↔ Rt p := by
  unfold prightF
  rw [Bool.and_eq_true, Bool.and_eq_true, decide_eq_true_eq, decide_eq_true_eq]
  exact ⟨fun h => ⟨h.1, h.2.1, h.2.2⟩, fun h => ⟨h.a, h.b, h.c⟩⟩
theorem Rt.i {p : Pa} (h : Rt p) : (p.m = 2 ∨ p.m = 5 → 1 ≤ p.I.length ∧ p.I.length ≤ 2 ∧ ∀ x ∈ p.I, vint x = true) ∧ (¬ (p.m = 2 ∨ p.m = 5) → p.I = []) := by
  have := h.c
  unfold prC at this
  refine ⟨fun e => ?_, fun e => ?_⟩
  · rw [if_pos e] at this; exact (intersF_iff _).1 this
  · rw [if_neg e, decide_eq_true_eq] at this; exact List.eq_nil_of_length_eq_zero this
theorem Rt.mk0 {m pr : Int} {P I U : List Int} (a : prA ⟨m, pr, P, I, U⟩) (b : ∀ n ∈ P, 0 ≤ n ∧ n ≤ 65535) (c : (m = 2 ∨ m = 5 → 1 ≤ I.length ∧ I.length ≤ 2 ∧ ∀ x ∈ I, vint x = true)) (d : ¬ (m = 2 ∨ m = 5) → I = []) : Rt ⟨m, pr, P, I, U⟩ := by
  refine ⟨a, b, ?_⟩
  unfold prC
  split
  · rename_i e; exact (intersF_iff _).2 (c e)
  · rename_i e; rw [decide_eq_true_eq]; show I.length = 0; rw [d e]; rfl
theorem Rt.pa0 {m : Int} (h : 0 ≤ m ∧ m ≤ 7 ∧ m ≠ 2 ∧ m ≠ 5) : Rt (pa0 m) :=
  Rt.mk0 ⟨h.1, h.2.1, .inl rfl, .inr ⟨rfl, rfl⟩, by simp, .inl rfl⟩ (by simp) (fun e => by omega) (fun _ => rfl)
/-- With nothing pending. -/
theorem take_eq {p : Pa} {b : Int} (h : Rt p) (hU : p.U = []) (hb : 0 ≤ b ∧ b ≤ 255) : r7F p b = vtakeF p b := by
  have e0 : rstep [] b = ustep [] b := rstep_eq (inK_nil _) hb
  obtain ⟨c1, c2⟩ := h.i
  obtain ⟨⟨a1, a2, a3, a4, a5, a6⟩, hB, _⟩ := h
  obtain ⟨m, pr, P, I, U⟩ := p
  simp only at *
  subst hU
  have hz : ¬ (m = 4 ∨ m = 5) → pr = 0 ∧ P = [] := fun h => by
    rcases a4 with h2 | h2
    · exact absurd h2 h
    · exact ⟨h2.1, List.eq_nil_of_length_eq_zero h2.2⟩
  have hm : m = 0 ∨ m = 1 ∨ m = 2 ∨ m = 3 ∨ m = 4 ∨ m = 5 ∨ m = 6 ∨ m = 7 := by omega
  clear a1 a2 a3 a4 a5 a6 hB
  unfold r7F vtakeF
  rcases hm with rfl | rfl | rfl | rfl | rfl | rfl | rfl | rfl
  · obtain ⟨rfl, rfl⟩ := hz (by omega)
    obtain rfl := c2 (by omega)
    simp only [e0, vgroundF, pa0]
    rw [show (fun r : Int => (⟨0, r, 0, 0, none, none⟩ : Ac)) = prF from rfl]
    clear hz c1 c2
    grind
  · obtain ⟨rfl, rfl⟩ := hz (by omega)
    obtain rfl := c2 (by omega)
    simp only [pa0]
    grind
  · obtain ⟨rfl, rfl⟩ := hz (by omega)
    clear hz c1 c2
    simp only [pa0, vescIF]
    grind
  · obtain ⟨rfl, rfl⟩ := hz (by omega)
    obtain rfl := c2 (by omega)
    simp only [pa0, vint_t]
    grind
  · obtain rfl := c2 (by omega)
    clear hz c1 c2
    simp only [pa0, vint_t, rcsiF, vcsiF, List.nil_append, List.length_nil]
    grind
  · clear hz c1 c2
    simp only [pa0, vint_t, vint_f, rcsiF, vcsiIF]
    grind
  · obtain ⟨rfl, rfl⟩ := hz (by omega)
    obtain rfl := c2 (by omega)
    simp only [pa0]
    grind
  · obtain ⟨rfl, rfl⟩ := hz (by omega)
    obtain rfl := c2 (by omega)
    simp only [pa0]
    grind
theorem good_b {U : List Int} {b r : Int} (hk : inK .u8 U) (hu : ubeg U = true) (hb : 0 ≤ b ∧ b ≤ 255) (h : good (U ++ [b]) = some r) : 128 ≤ b ∧ (r = 65533 → U = [239, 191] ∧ b = 189) := by
  have hgood : ∀ q : List Int, good q = some r → (dec q).2 = (q.length : Int) ∧ (dec q).1 = r := fun q hq => by
    unfold good at hq
    split at hq
    · rename_i hc; exact ⟨hc.1, Option.some.inj hq⟩
    · cases hq
  obtain ⟨g1, g2⟩ := hgood _ h
  rcases ubeg_inv hk hu with ⟨a, rfl, ha⟩ | ⟨a, b1, rfl, ha, hb1⟩ | ⟨a, b1, c, rfl, ha, hb1, hc⟩
  · have hl := rlohi a
    rw [List.singleton_append, dec2 ha] at g1 g2
    split at g1
    · rename_i hc
      rw [if_pos hc] at g2
      simp only at g2
      exact ⟨by omega, fun e => by omega⟩
    · simp at g1
  · have hl := rlohi a
    rw [List.cons_append, List.singleton_append, dec3 ha] at g1 g2
    split at g1
    · rename_i hc
      rw [if_pos hc] at g2
      simp only at g2
      refine ⟨by omega, fun e => ?_⟩
      have e1 : a = 239 := by omega
      have e2 : b1 = 191 := by omega
      exact ⟨by rw [e1, e2], by omega⟩
    · simp at g1
  · have hl := rlohi a
    rw [List.cons_append, List.cons_append, List.singleton_append, dec4 (by omega)] at g1 g2
    split at g1
    · rename_i hc
      rw [if_pos hc] at g2
      simp only at g2
      exact ⟨by omega, fun e => by omega⟩
    · simp at g1
theorem ubeg_b {U : List Int} {b : Int} (hk : inK .u8 U) (hu : ubeg U = true) (hb : 0 ≤ b ∧ b ≤ 255) (h : ubeg (U ++ [b]) = true) : 128 ≤ b := by
  rcases ubeg_inv hk hu with ⟨a, rfl, ha⟩ | ⟨a, b1, rfl, ha, hb1⟩ | ⟨a, b1, c, rfl, ha, hb1, hc⟩
  · have hl := rlohi a
    rw [List.singleton_append, ubeg2 (by omega), decide_eq_true_eq] at h
    omega
  · have hl := rlohi a
    rw [List.cons_append, List.singleton_append, ubeg3 (by omega), decide_eq_true_eq] at h
    omega
  · rw [ubeg4 (by simp)] at h; cases h
/-- The document's step is the program's. -/
theorem step_eq {p : Pa} {b : Int} (h : Rt p) (hp : paOk p) (hb : 0 ≤ b ∧ b ≤ 255) : rstepF p b = vstepF p b := by
  by_cases hU : p.U = []
  · have h1 : vcut p b = false := by unfold vcut; simp [hU]
    unfold rstepF vstepF
    rw [if_neg (by rw [hU]; simp), h1, if_neg (by decide)]
    exact take_eq h hU hb
  · have hlen : 0 < p.U.length := List.length_pos_iff.2 hU
    obtain ⟨hm, hu⟩ : p.m = 0 ∧ ubeg p.U = true := by
      rcases h.a.2.2.1 with h2 | h2
      · omega
      · exact h2
    obtain ⟨c1, c2⟩ := h.i
    have hI := c2 (by omega)
    have hz : p.pr = 0 ∧ p.P = [] := by
      rcases h.a.2.2.2.1 with h2 | h2
      · omega
      · exact ⟨h2.1, List.eq_nil_of_length_eq_zero h2.2⟩
    have h0 : Rt { p with U := [] } := Rt.mk0 ⟨h.a.1, h.a.2.1, .inl rfl, h.a.2.2.2.1, h.a.2.2.2.2.1, h.a.2.2.2.2.2⟩ h.b c1 c2
    have ht := take_eq h0 rfl hb
    have hk : inK .u8 p.U := hp.2.2.1
    have e0 : rstep p.U b = ustep p.U b := rstep_eq hk hb
    have es := ustep_eq (p := p.U) hb
    rw [hu, if_neg (by decide)] at es
    obtain ⟨m, pr, P, I, U⟩ := p
    simp only at hm hu hI hz ht hk e0 es hlen hU
    obtain ⟨hz1, hz2⟩ := hz
    subst hm hI hz1 hz2
    have hgnd : 128 ≤ b → vtakeF ⟨0, 0, [], [], U⟩ b = (⟨0, 0, [], [], (ustep U b).1⟩, (ustep U b).2.map prF) := fun h8 => by
      unfold vtakeF vgroundF
      simp only
      rw [if_neg (by omega), if_neg (by omega), if_neg (by omega), if_neg (by omega), if_neg (by omega), if_pos trivial]
      rfl
    unfold rstepF vstepF
    simp only
    rw [if_pos ⟨trivial, hlen⟩, ht]
    have hkeep : rkeep ⟨0, 0, [], [], U⟩ b ↔ (128 ≤ b ∧ ((ustep U b).2.length = 0 ∨ (ustep U b).2.getD 0 0 ≠ 65533 ∨ ((ustep U b).2.length = 1 ∧ (ustep U b).1.length = 0 ∧ rformedF U b = true))) := by
      unfold rkeep; simp only [e0]
    have hcut : vcut ⟨0, 0, [], [], U⟩ b = (decide (1 < (ustep U b).2.length) || (decide ((ustep U b).2.length = 1) && decide (0 < (ustep U b).1.length))) := by
      unfold vcut; simp [hlen]
    rw [e0]
    cases hg : good (U ++ [b]) with
    | some r =>
      rw [hg] at es
      simp only at es
      obtain ⟨g1, g2⟩ := good_b hk hu hb hg
      rw [es] at hkeep hcut hgnd ⊢
      rw [if_pos (hkeep.2 ⟨g1, ?_⟩), hcut, hgnd g1]
      · rfl
      · by_cases hr : r = 65533
        · obtain ⟨q1, q2⟩ := g2 hr
          exact .inr (.inr ⟨rfl, rfl, by unfold rformedF; simp [q1, q2]⟩)
        · exact .inr (.inl (by simpa using hr))
    | none =>
      rw [hg] at es
      simp only at es
      by_cases hq : ubeg (U ++ [b]) = true
      · rw [if_pos hq] at es
        have g1 := ubeg_b hk hu hb hq
        rw [es] at hkeep hcut hgnd ⊢
        rw [if_pos (hkeep.2 ⟨g1, .inl rfl⟩), hcut, hgnd g1]
        rfl
      · rw [if_neg hq] at es
        rw [es] at hkeep hcut
        have hone : (one b).2.length ≤ 1 ∧ (128 ≤ b → 1 ≤ (one b).1.length + (one b).2.length ∧ ((one b).1.length = 0 → (one b).2.length = 1)) ∧ (b < 128 → (one b).2.length = 1) := by
          unfold one
          refine ⟨?_, fun h8 => ?_, fun h8 => ?_⟩
          · split
            · simp
            · split <;> simp
          · rw [if_neg (by omega)]
            split <;> simp
          · rw [if_pos h8]; rfl
        have hcut2 : vcut ⟨0, 0, [], [], U⟩ b = true := by
          rw [hcut]
          simp only [List.length_cons, Bool.or_eq_true, decide_eq_true_eq, Bool.and_eq_true]
          omega
        have hkeep2 : ¬ rkeep ⟨0, 0, [], [], U⟩ b := fun hx => by
          have := hkeep.1 hx
          simp only [List.length_cons, List.getD_cons_zero, ne_eq, not_true_eq_false, false_or] at this
          obtain ⟨g1, g2⟩ := this
          have := hone.2.1 g1
          omega
        rw [if_neg hkeep2, hcut2, if_pos rfl]
        rfl
/-- A right parser stays right. -/
theorem vtake_rt {p : Pa} {b : Int} (h : Rt p) (hb : 0 ≤ b ∧ b ≤ 255) : Rt (vtakeF p b).1 := by
  obtain ⟨c1, c2⟩ := id h.i
  obtain ⟨⟨a1, a2, a3, a4, a5, a6⟩, hB, _⟩ := id h
  have hit : ∀ {c : Prop} [Decidable c] {x y : Pa × List Ac}, (c → Rt x.1) → (¬ c → Rt y.1) → Rt (if c then x else y).1 := fun h1 h2 => by split; exact h1 ‹_›; exact h2 ‹_›
  have h0 : Rt (pa0 0) := Rt.pa0 (by decide)
  have h6 : Rt (pa0 6) := Rt.pa0 (by decide)
  unfold vtakeF
  refine hit (fun _ => h0) fun _ => hit (fun _ => Rt.pa0 (by decide)) fun _ => hit (fun _ => h0) fun _ => hit (fun _ => h) fun hn7 => hit (fun _ => h) fun hb32 => hit (fun hm => ?_) fun _ => hit (fun _ => h0) fun _ => hit (fun _ => ?_) fun _ => hit (fun hm => ?_) fun _ => hit (fun _ => ?_) fun _ => hit (fun hm => ?_) fun _ => hit (fun hm => ?_) fun _ => ?_
  · obtain ⟨m, pr, P, I, U⟩ := p
    simp only at *
    refine Rt.mk0 ⟨a1, a2, ?_, a4, a5, a6⟩ hB c1 c2
    rcases ustep_pend (p := U) hb with h2 | h2
    · exact .inl (by show (ustep U b).1.length = 0; rw [h2]; rfl)
    · exact .inr ⟨hm, h2⟩
  · unfold vescF
    refine hit (fun hv => Rt.mk0 (m := 2) ⟨(show (0 : Int) ≤ 2 by decide), (show (2 : Int) ≤ 7 by decide), .inl rfl, .inr ⟨rfl, rfl⟩, by simp, .inl rfl⟩ (by simp) (fun _ => ⟨by simp, by simp, by simpa using hv⟩) (by simp)) fun _ => hit (fun _ => Rt.pa0 (by decide)) fun _ => hit (fun _ => Rt.pa0 (by decide)) fun _ => h0
  · unfold vescIF
    refine hit (fun _ => h0) fun hv => hit (fun _ => Rt.pa0 (by decide)) fun hl => ?_
    obtain ⟨i1, i2, i3⟩ := c1 (.inl hm)
    refine Rt.mk0 ⟨a1, a2, a3, a4, a5, a6⟩ hB (fun _ => ⟨by simp, by simp; omega, fun x hx => ?_⟩) (fun e => absurd (.inl hm) e)
    rcases List.mem_append.1 hx with hx | hx
    · exact i3 x hx
    · simp at hx; subst hx; simpa using hv
  · show Rt (if vint b = true then p else pa0 0)
    split
    · exact h
    · exact h0
  · have hI := c2 (by omega)
    unfold vcsiF
    refine hit (fun hv => Rt.mk0 (m := 5) ⟨(show (0 : Int) ≤ 5 by decide), (show (5 : Int) ≤ 7 by decide), ?_, .inl (.inr rfl), a5, a6⟩ hB (fun _ => ⟨by simp, by simp, by simpa using hv⟩) (by simp)) fun _ => hit (fun _ => h0) fun h64 => hit (fun _ => h6) fun h58 => hit (fun h59 => Rt.mk0 ⟨a1, a2, a3, .inl (.inl hm), a5, .inr (show 60 ≤ b ∧ b ≤ 63 by omega)⟩ hB c1 c2) fun h59 => hit (fun hl => hit (fun _ => ?_) fun _ => ?_) fun hl => hit (fun _ => hit (fun _ => h6) fun h16 => ?_) fun _ => ?_
    · rcases a3 with h2 | h2
      · exact .inl h2
      · omega
    · exact Rt.mk0 ⟨a1, a2, a3, .inl (.inl hm), by simp, a6⟩ (by simp) c1 c2
    · rename_i hv _
      rw [vint_t] at hv
      exact Rt.mk0 ⟨a1, a2, a3, .inl (.inl hm), by simp, a6⟩ (by simp; omega) c1 c2
    · refine Rt.mk0 ⟨a1, a2, a3, .inl (.inl hm), by simp; omega, a6⟩ (fun n hn => ?_) c1 c2
      rcases List.mem_append.1 hn with hx | hx
      · exact hB n hx
      · simp at hx; omega
    · rename_i hv _
      rw [vint_t] at hv
      refine Rt.mk0 ⟨a1, a2, a3, .inl (.inl hm), by simpa [digP] using a5, a6⟩ (fun n hn => ?_) c1 c2
      rcases List.mem_or_eq_of_mem_set hn with hx | rfl
      · exact hB n hx
      · have := hB _ (getD_mem (l := p.P) (i := p.P.length - 1) (by omega))
        omega
  · unfold vcsiIF
    refine hit (fun _ => h0) fun hv => hit (fun _ => h6) fun hl => ?_
    obtain ⟨i1, i2, i3⟩ := c1 (.inr hm)
    refine Rt.mk0 ⟨a1, a2, a3, a4, a5, a6⟩ hB (fun _ => ⟨by simp, by simp; omega, fun x hx => ?_⟩) (fun e => absurd (.inr hm) e)
    rcases List.mem_append.1 hx with hx | hx
    · exact i3 x hx
    · simp at hx; subst hx
      have : ¬ vint x = false := fun e => hl (.inl e)
      simpa using this
  · show Rt (if 64 ≤ b then pa0 0 else p)
    split
    · exact h0
    · exact h
theorem vstep_rt {p : Pa} {b : Int} (h : Rt p) (hb : 0 ≤ b ∧ b ≤ 255) : Rt (vstepF p b).1 := by
  unfold vstepF
  split
  · obtain ⟨c1, c2⟩ := h.i
    exact vtake_rt (p := { p with U := [] }) (Rt.mk0 ⟨h.a.1, h.a.2.1, .inl rfl, h.a.2.2.2.1, h.a.2.2.2.2.1, h.a.2.2.2.2.2⟩ h.b c1 c2) hb
  · exact vtake_rt h hb
end Go.Proofs.YteemmpghpdaloaaDoor
end
section
/- Parsers, acts held against one another. -/
set_option linter.unusedVariables false
set_option linter.unusedSimpArgs false
set_option maxRecDepth 10000
namespace Go.Proofs.YteemmpghpdaloaaDoor
open Go.RowKit

noncomputable def rc_rsame_l0 : RC := (.seq (.seq (.reg [⟨(some 45), (.mov (.t 5)), none, false⟩, ⟨(some 46), (.faddr 2 (.t 2)), none, false⟩, ⟨(some 47), (.load false 1 (.t 46)), none, false⟩, ⟨(some 48), (.len (.t 47)), none, false⟩, ⟨(some 49), (.bin .lss (.t 45) (.t 48)), none, false⟩] 0 [2, 3, 5, 49]) (.cond (.t 49) .skip (.ext 0))) (.seq (.blk 1 (.seq (.regD (.take ⟨(some 52), (.faddr 2 (.t 2)), none, false⟩ [] (.take ⟨(some 53), (.load false 1 (.t 52)), none, false⟩ [] (.take ⟨(some 54), (.mov (.t 5)), none, false⟩ [] (.take ⟨(some 55), (.iaddr 1 (.t 53) (.t 54)), none, false⟩ [] (.take ⟨(some 56), (.load false 1 (.t 55)), none, false⟩ [] (.take ⟨(some 57), (.faddr 2 (.t 3)), none, false⟩ [] (.take ⟨(some 58), (.load false 1 (.t 57)), none, false⟩ [] (.take ⟨(some 59), (.mov (.t 5)), none, false⟩ [] (.take ⟨(some 60), (.iaddr 1 (.t 58) (.t 59)), none, false⟩ [] (.take ⟨(some 61), (.load false 1 (.t 60)), none, false⟩ [] (.take ⟨(some 62), (.bin .neq (.t 56) (.t 61)), none, false⟩ [] .done))))))))))) 0 [2, 3, 5, 62]) (.cond (.t 62) (.seq (.reg [⟨(some 4), (.mov (.c (.bool false))), none, false⟩] 0 [4]) .ret) .skip))) (.reg [⟨(some 50), (.mov (.t 5)), none, false⟩, ⟨(some 51), (.bin .add (.t 50) (.c (.int .i64 1))), none, false⟩, ⟨(some 5), (.mov (.t 51)), none, false⟩] 0 [2, 3, 5])))
noncomputable def rc_rsame : RFn := ⟨2, 63, (.seq (.reg [⟨(some 2), (.box 5 (.t 0)), none, false⟩, ⟨(some 3), (.box 5 (.t 1)), none, false⟩, ⟨(some 4), (.mov (.c (.bool false))), none, false⟩] 0 [2, 3]) (.seq (.seq (.reg [⟨(some 6), (.faddr 0 (.t 2)), none, false⟩, ⟨(some 7), (.load false 1 (.t 6)), none, false⟩, ⟨(some 8), (.faddr 0 (.t 3)), none, false⟩, ⟨(some 9), (.load false 1 (.t 8)), none, false⟩, ⟨(some 10), (.bin .neq (.t 7) (.t 9)), none, false⟩, ⟨(some 11), (.mov (.t 10)), none, false⟩, ⟨(some 12), (.faddr 1 (.t 2)), (some (11, false)), false⟩, ⟨(some 13), (.load false 1 (.t 12)), (some (11, false)), false⟩, ⟨(some 14), (.faddr 1 (.t 3)), (some (11, false)), false⟩, ⟨(some 15), (.load false 1 (.t 14)), (some (11, false)), false⟩, ⟨(some 16), (.bin .neq (.t 13) (.t 15)), (some (11, false)), false⟩, ⟨(some 17), (.pick (.t 11) (.c (.bool true)) (.t 16)), none, false⟩, ⟨(some 18), (.mov (.t 17)), none, false⟩, ⟨(some 19), (.faddr 2 (.t 2)), (some (18, false)), false⟩, ⟨(some 20), (.load false 1 (.t 19)), (some (18, false)), false⟩, ⟨(some 21), (.len (.t 20)), (some (18, false)), false⟩, ⟨(some 22), (.faddr 2 (.t 3)), (some (18, false)), false⟩, ⟨(some 23), (.load false 1 (.t 22)), (some (18, false)), false⟩, ⟨(some 24), (.len (.t 23)), (some (18, false)), false⟩, ⟨(some 25), (.bin .neq (.t 21) (.t 24)), (some (18, false)), false⟩, ⟨(some 26), (.pick (.t 18) (.c (.bool true)) (.t 25)), none, false⟩, ⟨(some 27), (.mov (.t 26)), none, false⟩, ⟨(some 28), (.faddr 3 (.t 2)), (some (27, false)), false⟩, ⟨(some 29), (.load false 1 (.t 28)), (some (27, false)), false⟩, ⟨(some 30), (.conv .b2s (.t 29)), (some (27, false)), false⟩, ⟨(some 31), (.faddr 3 (.t 3)), (some (27, false)), false⟩, ⟨(some 32), (.load false 1 (.t 31)), (some (27, false)), false⟩, ⟨(some 33), (.conv .b2s (.t 32)), (some (27, false)), false⟩, ⟨(some 34), (.bin .neq (.t 30) (.t 33)), (some (27, false)), false⟩, ⟨(some 35), (.pick (.t 27) (.c (.bool true)) (.t 34)), none, false⟩, ⟨(some 36), (.mov (.t 35)), none, false⟩, ⟨(some 37), (.faddr 4 (.t 2)), (some (36, false)), false⟩, ⟨(some 38), (.load false 1 (.t 37)), (some (36, false)), false⟩, ⟨(some 39), (.conv .b2s (.t 38)), (some (36, false)), false⟩, ⟨(some 40), (.faddr 4 (.t 3)), (some (36, false)), false⟩, ⟨(some 41), (.load false 1 (.t 40)), (some (36, false)), false⟩, ⟨(some 42), (.conv .b2s (.t 41)), (some (36, false)), false⟩, ⟨(some 43), (.bin .neq (.t 39) (.t 42)), (some (36, false)), false⟩, ⟨(some 44), (.pick (.t 36) (.c (.bool true)) (.t 43)), none, false⟩] 0 [2, 3, 44]) (.cond (.t 44) (.seq (.reg [⟨(some 4), (.mov (.c (.bool false))), none, false⟩] 0 [4]) .ret) .skip)) (.seq (.seq (.reg [⟨(some 5), (.mov (.c (.int .i64 0))), none, false⟩] 0 [2, 3, 5]) (.blk 0 (.loop rc_rsame_l0))) (.seq (.reg [⟨(some 4), (.mov (.c (.bool true))), none, false⟩] 0 [4]) .ret)))), [(.t 4)]⟩
theorem rc_rsame_ok : compFn PG.P [⟨0, 0, [2, 3], []⟩, ⟨1, 0, [2, 3, 44], []⟩, ⟨2, 0, [4], []⟩, ⟨3, 0, [2, 3, 5], []⟩, ⟨4, 0, [2, 3, 5, 49], []⟩, ⟨5, 0, [2, 3, 5], []⟩, ⟨6, 0, [2, 3, 5, 62], []⟩, ⟨7, 0, [4], []⟩, ⟨8, 0, [4], []⟩] 32 = some rc_rsame := by kernel_rfl
noncomputable def rc_hActs_l0 : RC := (.seq (.seq (.reg [⟨(some 72), (.mov (.t 8)), none, false⟩, ⟨(some 73), (.faddr 4 (.t 6)), none, false⟩, ⟨(some 74), (.load false 1 (.t 73)), none, false⟩, ⟨(some 75), (.len (.t 74)), none, false⟩, ⟨(some 76), (.bin .lss (.t 72) (.t 75)), none, false⟩] 0 [0, 1, 5, 6, 7, 8, 76]) (.cond (.t 76) .skip (.ext 2))) (.seq (.blk 3 (.seq (.regD (.take ⟨(some 79), (.faddr 4 (.t 6)), none, false⟩ [] (.take ⟨(some 80), (.load false 1 (.t 79)), none, false⟩ [] (.take ⟨(some 81), (.mov (.t 8)), none, false⟩ [] (.take ⟨(some 82), (.iaddr 1 (.t 80) (.t 81)), none, false⟩ [] (.take ⟨(some 83), (.load false 1 (.t 82)), none, false⟩ [] (.take ⟨(some 84), (.faddr 4 (.t 7)), none, false⟩ [] (.take ⟨(some 85), (.load false 1 (.t 84)), none, false⟩ [] (.take ⟨(some 86), (.mov (.t 8)), none, false⟩ [] (.take ⟨(some 87), (.iaddr 1 (.t 85) (.t 86)), none, false⟩ [] (.take ⟨(some 88), (.load false 1 (.t 87)), none, false⟩ [] (.take ⟨(some 89), (.bin .neq (.t 83) (.t 88)), none, false⟩ [] .done))))))))))) 0 [0, 1, 5, 6, 7, 8, 89]) (.cond (.t 89) (.seq (.reg [⟨(some 4), (.mov (.c (.bool false))), none, false⟩] 0 [4]) .ret) .skip))) (.reg [⟨(some 77), (.mov (.t 8)), none, false⟩, ⟨(some 78), (.bin .add (.t 77) (.c (.int .i64 1))), none, false⟩, ⟨(some 8), (.mov (.t 78)), none, false⟩] 0 [0, 1, 5, 6, 7, 8])))
noncomputable def rc_hActs_d0 : RC := (.seq (.seq (.reg [⟨(some 28), (.faddr 0 (.t 6)), none, false⟩, ⟨(some 29), (.load false 1 (.t 28)), none, false⟩, ⟨(some 30), (.faddr 0 (.t 7)), none, false⟩, ⟨(some 31), (.load false 1 (.t 30)), none, false⟩, ⟨(some 32), (.bin .neq (.t 29) (.t 31)), none, false⟩, ⟨(some 33), (.mov (.t 32)), none, false⟩, ⟨(some 34), (.faddr 1 (.t 6)), (some (33, false)), false⟩, ⟨(some 35), (.load false 1 (.t 34)), (some (33, false)), false⟩, ⟨(some 36), (.faddr 1 (.t 7)), (some (33, false)), false⟩, ⟨(some 37), (.load false 1 (.t 36)), (some (33, false)), false⟩, ⟨(some 38), (.bin .neq (.t 35) (.t 37)), (some (33, false)), false⟩, ⟨(some 39), (.pick (.t 33) (.c (.bool true)) (.t 38)), none, false⟩, ⟨(some 40), (.mov (.t 39)), none, false⟩, ⟨(some 41), (.faddr 2 (.t 6)), (some (40, false)), false⟩, ⟨(some 42), (.load false 1 (.t 41)), (some (40, false)), false⟩, ⟨(some 43), (.faddr 2 (.t 7)), (some (40, false)), false⟩, ⟨(some 44), (.load false 1 (.t 43)), (some (40, false)), false⟩, ⟨(some 45), (.bin .neq (.t 42) (.t 44)), (some (40, false)), false⟩, ⟨(some 46), (.pick (.t 40) (.c (.bool true)) (.t 45)), none, false⟩, ⟨(some 47), (.mov (.t 46)), none, false⟩, ⟨(some 48), (.faddr 3 (.t 6)), (some (47, false)), false⟩, ⟨(some 49), (.load false 1 (.t 48)), (some (47, false)), false⟩, ⟨(some 50), (.faddr 3 (.t 7)), (some (47, false)), false⟩, ⟨(some 51), (.load false 1 (.t 50)), (some (47, false)), false⟩, ⟨(some 52), (.bin .neq (.t 49) (.t 51)), (some (47, false)), false⟩, ⟨(some 53), (.pick (.t 47) (.c (.bool true)) (.t 52)), none, false⟩, ⟨(some 54), (.mov (.t 53)), none, false⟩, ⟨(some 55), (.faddr 5 (.t 6)), (some (54, false)), false⟩, ⟨(some 56), (.load false 1 (.t 55)), (some (54, false)), false⟩, ⟨(some 57), (.conv .b2s (.t 56)), (some (54, false)), false⟩, ⟨(some 58), (.faddr 5 (.t 7)), (some (54, false)), false⟩, ⟨(some 59), (.load false 1 (.t 58)), (some (54, false)), false⟩, ⟨(some 60), (.conv .b2s (.t 59)), (some (54, false)), false⟩, ⟨(some 61), (.bin .neq (.t 57) (.t 60)), (some (54, false)), false⟩, ⟨(some 62), (.pick (.t 54) (.c (.bool true)) (.t 61)), none, false⟩, ⟨(some 63), (.mov (.t 62)), none, false⟩, ⟨(some 64), (.faddr 4 (.t 6)), (some (63, false)), false⟩, ⟨(some 65), (.load false 1 (.t 64)), (some (63, false)), false⟩, ⟨(some 66), (.len (.t 65)), (some (63, false)), false⟩, ⟨(some 67), (.faddr 4 (.t 7)), (some (63, false)), false⟩, ⟨(some 68), (.load false 1 (.t 67)), (some (63, false)), false⟩, ⟨(some 69), (.len (.t 68)), (some (63, false)), false⟩, ⟨(some 70), (.bin .neq (.t 66) (.t 69)), (some (63, false)), false⟩, ⟨(some 71), (.pick (.t 63) (.c (.bool true)) (.t 70)), none, false⟩] 0 [0, 1, 5, 6, 7, 71]) (.cond (.t 71) (.seq (.reg [⟨(some 4), (.mov (.c (.bool false))), none, false⟩] 0 [4]) .ret) .skip)) (.seq (.reg [⟨(some 8), (.mov (.c (.int .i64 0))), none, false⟩] 0 [0, 1, 5, 6, 7, 8]) (.blk 2 (.loop rc_hActs_l0))))
noncomputable def rc_hActs_l1 : RC := (.seq (.seq (.reg [⟨(some 14), (.mov (.t 5)), none, false⟩, ⟨(some 15), (.mov (.t 0)), none, false⟩, ⟨(some 16), (.len (.t 15)), none, false⟩, ⟨(some 17), (.bin .lss (.t 14) (.t 16)), none, false⟩] 0 [0, 1, 5, 17]) (.cond (.t 17) .skip (.ext 0))) (.seq (.blk 1 (.seq (.regD (.take ⟨(some 20), (.mov (.t 0)), none, false⟩ [] (.take ⟨(some 21), (.mov (.t 5)), none, false⟩ [] (.take ⟨(some 22), (.iaddr 6 (.t 20) (.t 21)), none, false⟩ [] (.take ⟨(some 23), (.load true 6 (.t 22)), none, false⟩ [] (.take ⟨(some 24), (.mov (.t 1)), none, false⟩ [] (.take ⟨(some 25), (.mov (.t 5)), none, false⟩ [] (.alt (.op ⟨(some 26), (.iaddr 6 (.t 24) (.t 25)), none, false⟩ (.alt (.op ⟨(some 27), (.load true 6 (.t 26)), none, false⟩ (.alt (.op ⟨(some 6), (.alloc [(.int .i64 0), (.int .i32 0), (.int .u8 0), (.int .u8 0), (.sl 0 [] .nil), (.sl 0 [] .nil)]), none, false⟩ (.op ⟨(some 7), (.alloc [(.int .i64 0), (.int .i32 0), (.int .u8 0), (.int .u8 0), (.sl 0 [] .nil), (.sl 0 [] .nil)]), none, false⟩ (.op ⟨none, (.store 6 (.t 6) (.t 23)), none, false⟩ (.op ⟨none, (.store 6 (.t 7) (.t 27)), none, false⟩ .done)))) (.op ⟨(some 7), (.alloc [(.int .i64 0), (.int .i32 0), (.int .u8 0), (.int .u8 0), (.sl 0 [] .nil), (.sl 0 [] .nil)]), none, false⟩ (.op ⟨(some 6), (.alloc [(.int .i64 0), (.int .i32 0), (.int .u8 0), (.int .u8 0), (.sl 0 [] .nil), (.sl 0 [] .nil)]), none, false⟩ (.op ⟨none, (.store 6 (.t 6) (.t 23)), none, false⟩ (.op ⟨none, (.store 6 (.t 7) (.t 27)), none, false⟩ .done)))))) (.alt (.op ⟨(some 6), (.alloc [(.int .i64 0), (.int .i32 0), (.int .u8 0), (.int .u8 0), (.sl 0 [] .nil), (.sl 0 [] .nil)]), none, false⟩ (.take ⟨(some 27), (.load true 6 (.t 26)), none, false⟩ [(.t 6)] (.op ⟨(some 7), (.alloc [(.int .i64 0), (.int .i32 0), (.int .u8 0), (.int .u8 0), (.sl 0 [] .nil), (.sl 0 [] .nil)]), none, false⟩ (.op ⟨none, (.store 6 (.t 6) (.t 23)), none, false⟩ (.op ⟨none, (.store 6 (.t 7) (.t 27)), none, false⟩ .done))))) (.op ⟨(some 7), (.alloc [(.int .i64 0), (.int .i32 0), (.int .u8 0), (.int .u8 0), (.sl 0 [] .nil), (.sl 0 [] .nil)]), none, false⟩ (.alt (.op ⟨(some 27), (.load true 6 (.t 26)), none, false⟩ (.op ⟨(some 6), (.alloc [(.int .i64 0), (.int .i32 0), (.int .u8 0), (.int .u8 0), (.sl 0 [] .nil), (.sl 0 [] .nil)]), none, false⟩ (.op ⟨none, (.store 6 (.t 6) (.t 23)), none, false⟩ (.op ⟨none, (.store 6 (.t 7) (.t 27)), none, false⟩ .done)))) (.op ⟨(some 6), (.alloc [(.int .i64 0), (.int .i32 0), (.int .u8 0), (.int .u8 0), (.sl 0 [] .nil), (.sl 0 [] .nil)]), none, false⟩ (.take ⟨(some 27), (.load true 6 (.t 26)), none, false⟩ [(.t 6)] (.op ⟨none, (.store 6 (.t 6) (.t 23)), none, false⟩ (.op ⟨none, (.store 6 (.t 7) (.t 27)), none, false⟩ .done))))))))) (.alt (.op ⟨(some 6), (.alloc [(.int .i64 0), (.int .i32 0), (.int .u8 0), (.int .u8 0), (.sl 0 [] .nil), (.sl 0 [] .nil)]), none, false⟩ (.take ⟨(some 26), (.iaddr 6 (.t 24) (.t 25)), none, false⟩ [(.t 6)] (.take ⟨(some 27), (.load true 6 (.t 26)), none, false⟩ [(.t 6)] (.op ⟨(some 7), (.alloc [(.int .i64 0), (.int .i32 0), (.int .u8 0), (.int .u8 0), (.sl 0 [] .nil), (.sl 0 [] .nil)]), none, false⟩ (.op ⟨none, (.store 6 (.t 6) (.t 23)), none, false⟩ (.op ⟨none, (.store 6 (.t 7) (.t 27)), none, false⟩ .done)))))) (.op ⟨(some 7), (.alloc [(.int .i64 0), (.int .i32 0), (.int .u8 0), (.int .u8 0), (.sl 0 [] .nil), (.sl 0 [] .nil)]), none, false⟩ (.alt (.op ⟨(some 26), (.iaddr 6 (.t 24) (.t 25)), none, false⟩ (.alt (.op ⟨(some 27), (.load true 6 (.t 26)), none, false⟩ (.op ⟨(some 6), (.alloc [(.int .i64 0), (.int .i32 0), (.int .u8 0), (.int .u8 0), (.sl 0 [] .nil), (.sl 0 [] .nil)]), none, false⟩ (.op ⟨none, (.store 6 (.t 6) (.t 23)), none, false⟩ (.op ⟨none, (.store 6 (.t 7) (.t 27)), none, false⟩ .done)))) (.op ⟨(some 6), (.alloc [(.int .i64 0), (.int .i32 0), (.int .u8 0), (.int .u8 0), (.sl 0 [] .nil), (.sl 0 [] .nil)]), none, false⟩ (.take ⟨(some 27), (.load true 6 (.t 26)), none, false⟩ [(.t 6)] (.op ⟨none, (.store 6 (.t 6) (.t 23)), none, false⟩ (.op ⟨none, (.store 6 (.t 7) (.t 27)), none, false⟩ .done)))))) (.op ⟨(some 6), (.alloc [(.int .i64 0), (.int .i32 0), (.int .u8 0), (.int .u8 0), (.sl 0 [] .nil), (.sl 0 [] .nil)]), none, false⟩ (.take ⟨(some 26), (.iaddr 6 (.t 24) (.t 25)), none, false⟩ [(.t 6)] (.take ⟨(some 27), (.load true 6 (.t 26)), none, false⟩ [(.t 6)] (.op ⟨none, (.store 6 (.t 6) (.t 23)), none, false⟩ (.op ⟨none, (.store 6 (.t 7) (.t 27)), none, false⟩ .done))))))))))))))) 0 [0, 1, 5, 6, 7]) rc_hActs_d0)) (.reg [⟨(some 18), (.mov (.t 5)), none, false⟩, ⟨(some 19), (.bin .add (.t 18) (.c (.int .i64 1))), none, false⟩, ⟨(some 5), (.mov (.t 19)), none, false⟩] 0 [0, 1, 5])))
noncomputable def rc_hActs : RFn := ⟨2, 90, (.seq (.reg [⟨(some 4), (.mov (.c (.bool false))), none, false⟩] 0 [0, 1]) (.seq (.seq (.reg [⟨(some 9), (.mov (.t 0)), none, false⟩, ⟨(some 10), (.len (.t 9)), none, false⟩, ⟨(some 11), (.mov (.t 1)), none, false⟩, ⟨(some 12), (.len (.t 11)), none, false⟩, ⟨(some 13), (.bin .neq (.t 10) (.t 12)), none, false⟩] 0 [0, 1, 13]) (.cond (.t 13) (.seq (.reg [⟨(some 4), (.mov (.c (.bool false))), none, false⟩] 0 [4]) .ret) .skip)) (.seq (.seq (.reg [⟨(some 5), (.mov (.c (.int .i64 0))), none, false⟩] 0 [0, 1, 5]) (.blk 0 (.loop rc_hActs_l1))) (.seq (.reg [⟨(some 4), (.mov (.c (.bool true))), none, false⟩] 0 [4]) .ret)))), [(.t 4)]⟩
theorem rc_hActs_ok : compFn PG.P [⟨0, 0, [0, 1], []⟩, ⟨1, 0, [0, 1, 13], []⟩, ⟨2, 0, [4], []⟩, ⟨3, 0, [0, 1, 5], []⟩, ⟨4, 0, [0, 1, 5, 17], []⟩, ⟨5, 0, [0, 1, 5], []⟩, ⟨6, 0, [0, 1, 5, 6, 7], []⟩, ⟨7, 0, [0, 1, 5, 6, 7, 71], []⟩, ⟨8, 0, [4], []⟩, ⟨9, 0, [0, 1, 5, 6, 7, 8], []⟩, ⟨10, 0, [0, 1, 5, 6, 7, 8, 76], []⟩, ⟨11, 0, [0, 1, 5, 6, 7, 8], []⟩, ⟨12, 0, [0, 1, 5, 6, 7, 8, 89], []⟩, ⟨13, 0, [4], []⟩, ⟨14, 0, [4], []⟩] 33 = some rc_hActs := by kernel_rfl
theorem rsame_P {p : Pa} (h1 : inK .i64 p.P) (h2 : inK .u8 p.I) (h3 : inK .u8 p.U) (hl : p.P.length ≤ 1000 ∧ p.I.length ≤ 1000 ∧ p.U.length ≤ 1000) : PCalls PG 32 [paD p, paD p] fun n r os => r = .bool true ∧ os = [] := by
  obtain ⟨m, pr, P, I, U⟩ := p
  simp only at h1 h2 h3 hl
  refine PCalls.by_fn (res := fun n => (.bool true, [])) T33_ok rc_rsame_ok (by simp [rc_rsame]) fun n => ?_
  unfold rc_rsame
  dsimp only [paD]
  simp -implicitDefEqProofs only [rowsBytes_int, isInts_sl, intsD_sl, vcB1, vcB2, vcB3, vcA1, vcA2, vcA3, vcA4, vcA5, vcA6, vcA7, ↓vcP1, ↓vcP2, ↓reduceIte, Option.map_some, Option.map_none, Option.bind_some, Option.bind_none, if_true, if_false, reduceCtorEq, beq_true, beq_false, Bool.not_true, Bool.not_false, BEq.rfl, Bool.true_beq, Bool.false_beq, and_true, true_and, and_self, decide_true, decide_false, List.length_cons, List.length_nil, List.all_cons, List.all_nil, Bool.and_true, Bool.and_self, List.getElem?_cons_zero, List.getElem?_cons_succ, List.set_cons_zero, List.set_cons_succ, List.nil_append, List.cons_append, List.append_nil, List.map_cons, List.map_nil, not_true_eq_false, not_false_eq_true, false_implies, true_implies, implies_true, List.take_succ_cons, List.take_zero, List.take_nil, List.drop_succ_cons, List.drop_zero, List.drop_nil, Nat.reduceLT, Nat.reduceLeDiff, Nat.reduceEqDiff, Nat.reduceAdd, Nat.reduceSub, Nat.reduceMul, Int.reduceLT, Int.reduceLE, Int.reduceEq, Int.reduceToNat, Int.reduceAdd, Int.reduceSub, Int.reduceNeg, List.reduceReplicate, List.replicate_zero, List.replicate_succ, ne_eq, List.flatMap_cons, List.flatMap_nil, List.length_replicate, List.length_append, Nat.le_refl, Nat.le_add_right, Nat.add_assoc, List.append_assoc, or_true, true_or, or_false, false_or, and_false, false_and, exists_eq_left, exists_eq_left', Option.some.injEq, DV.int.injEq, DV.bool.injEq, DV.sl.injEq, DV.own.injEq, DV.tup.injEq, List.cons.injEq, Ob.arr.injEq, Ob.box.injEq, Option.map_map, Int.toNat_natCast, Int.toNat_zero, Nat.reducePow, Int.toNat_one, Int.reduceMul, Nat.mul_one, Nat.zero_add, Nat.add_zero, Function.comp_apply, List.map_append, List.map_replicate, Int.cast_ofNat_Int, Nat.left_eq_add, Nat.add_eq_left, Nat.add_left_cancel_iff]
  refine LoopWp.inv T33_ok (S := fun i : Nat => ⟨[(2, .ptr n 0 0), (3, .ptr (n + 1) 0 0), (5, .int .i64 i)], List.replicate n none ++ [some (.box [.int .i64 m, .int .u8 pr, .sl 1 (intRows .i64 P) .any, .sl 1 (intRows .u8 I) .any, .sl 1 (intRows .u8 U) .any]), some (.box [.int .i64 m, .int .u8 pr, .sl 1 (intRows .i64 P) .any, .sl 1 (intRows .u8 I) .any, .sl 1 (intRows .u8 U) .any])]⟩) (I := fun i => i ≤ P.length) (μ := fun i => P.length - i) 0 (by omega) ?_ ?_
  · simp -implicitDefEqProofs only [vcB1, vcB2, vcB3, vcA1, vcA2, vcA3, vcA4, vcA5, vcA6, vcA7, ↓vcP1, ↓vcP2, ↓reduceIte, Option.map_some, Option.map_none, Option.bind_some, Option.bind_none, if_true, if_false, reduceCtorEq, beq_true, beq_false, Bool.not_true, Bool.not_false, BEq.rfl, Bool.true_beq, Bool.false_beq, and_true, true_and, and_self, decide_true, decide_false, List.length_cons, List.length_nil, List.all_cons, List.all_nil, Bool.and_true, Bool.and_self, List.getElem?_cons_zero, List.getElem?_cons_succ, List.set_cons_zero, List.set_cons_succ, List.nil_append, List.cons_append, List.append_nil, List.map_cons, List.map_nil, not_true_eq_false, not_false_eq_true, false_implies, true_implies, implies_true, List.take_succ_cons, List.take_zero, List.take_nil, List.drop_succ_cons, List.drop_zero, List.drop_nil, Nat.reduceLT, Nat.reduceLeDiff, Nat.reduceEqDiff, Nat.reduceAdd, Nat.reduceSub, Nat.reduceMul, Int.reduceLT, Int.reduceLE, Int.reduceEq, Int.reduceToNat, Int.reduceAdd, Int.reduceSub, Int.reduceNeg, List.reduceReplicate, List.replicate_zero, List.replicate_succ, ne_eq, List.flatMap_cons, List.flatMap_nil, List.length_replicate, List.length_append, Nat.le_refl, Nat.le_add_right, Nat.add_assoc, List.append_assoc, or_true, true_or, or_false, false_or, and_false, false_and, exists_eq_left, exists_eq_left', Option.some.injEq, DV.int.injEq, DV.bool.injEq, DV.sl.injEq, DV.own.injEq, DV.tup.injEq, List.cons.injEq, Ob.arr.injEq, Ob.box.injEq, Option.map_map, Int.toNat_natCast, Int.toNat_zero, Nat.reducePow, Int.toNat_one, Int.reduceMul, Nat.mul_one, Nat.zero_add, Nat.add_zero, Function.comp_apply, List.map_append, List.map_replicate, Int.cast_ofNat_Int, Nat.left_eq_add, Nat.add_eq_left, Nat.add_left_cancel_iff]
  · intro i hi
    unfold rc_rsame_l0
    simp -implicitDefEqProofs only [isInts_sl, intsD_sl, vcB1, vcB2, vcB3, vcA1, vcA2, vcA3, vcA4, vcA5, vcA6, vcA7, ↓vcP1, ↓vcP2, ↓reduceIte, Option.map_some, Option.map_none, Option.bind_some, Option.bind_none, if_true, if_false, reduceCtorEq, beq_true, beq_false, Bool.not_true, Bool.not_false, BEq.rfl, Bool.true_beq, Bool.false_beq, and_true, true_and, and_self, decide_true, decide_false, List.length_cons, List.length_nil, List.all_cons, List.all_nil, Bool.and_true, Bool.and_self, List.getElem?_cons_zero, List.getElem?_cons_succ, List.set_cons_zero, List.set_cons_succ, List.nil_append, List.cons_append, List.append_nil, List.map_cons, List.map_nil, not_true_eq_false, not_false_eq_true, false_implies, true_implies, implies_true, List.take_succ_cons, List.take_zero, List.take_nil, List.drop_succ_cons, List.drop_zero, List.drop_nil, Nat.reduceLT, Nat.reduceLeDiff, Nat.reduceEqDiff, Nat.reduceAdd, Nat.reduceSub, Nat.reduceMul, Int.reduceLT, Int.reduceLE, Int.reduceEq, Int.reduceToNat, Int.reduceAdd, Int.reduceSub, Int.reduceNeg, List.reduceReplicate, List.replicate_zero, List.replicate_succ, ne_eq, List.flatMap_cons, List.flatMap_nil, List.length_replicate, List.length_append, Nat.le_refl, Nat.le_add_right, Nat.add_assoc, List.append_assoc, or_true, true_or, or_false, false_or, and_false, false_and, exists_eq_left, exists_eq_left', Option.some.injEq, DV.int.injEq, DV.bool.injEq, DV.sl.injEq, DV.own.injEq, DV.tup.injEq, List.cons.injEq, Ob.arr.injEq, Ob.box.injEq, Option.map_map, Int.toNat_natCast, Int.toNat_zero, Nat.reducePow, Int.toNat_one, Int.reduceMul, Nat.mul_one, Nat.zero_add, Nat.add_zero, Function.comp_apply, List.map_append, List.map_replicate, Int.cast_ofNat_Int, Nat.left_eq_add, Nat.add_eq_left, Nat.add_left_cancel_iff]
    exact fun h => ⟨⟨by omega, h⟩, by omega, ⟨by omega, h⟩, by omega, i + 1, by rw [wI64] <;> omega, by omega, by omega⟩
def F_rsame : List DV → Option FSpec
  | [.agg [.int .i64 m, .int .u8 pr, p, i, u], .agg [.int .i64 m', .int .u8 pr', p', i', u']] => some ⟨((isInts .i64 p ∧ isInts .u8 i ∧ isInts .u8 u) ∧ (isInts .i64 p' ∧ isInts .u8 i' ∧ isInts .u8 u') ∧ (intsD p).length ≤ 1000 ∧ (intsD i).length ≤ 1000 ∧ (intsD u).length ≤ 1000) ∧
      ((⟨m, pr, intsD p, intsD i, intsD u⟩ : Pa) = ⟨m', pr', intsD p', intsD i', intsD u'⟩), fun n => (.bool true, [])⟩
  | _ => none
theorem F_rsame_1 (m pr m' pr' : Int) (p i u p' i' u' : DV) : F_rsame [.agg [.int .i64 m, .int .u8 pr, p, i, u], .agg [.int .i64 m', .int .u8 pr', p', i', u']] = some ⟨((isInts .i64 p ∧ isInts .u8 i ∧ isInts .u8 u) ∧ (isInts .i64 p' ∧ isInts .u8 i' ∧ isInts .u8 u') ∧ (intsD p).length ≤ 1000 ∧ (intsD i).length ≤ 1000 ∧ (intsD u).length ≤ 1000) ∧
      ((⟨m, pr, intsD p, intsD i, intsD u⟩ : Pa) = ⟨m', pr', intsD p', intsD i', intsD u'⟩), fun n => (.bool true, [])⟩ := nrfl _
theorem rsame_ok (args : List DV) (s : FSpec) (hs : F_rsame args = some s) (hp : s.pre) : PCalls PG 32 args fun n r os => r = (s.res n).1 ∧ os = (s.res n).2 := by
  unfold F_rsame at hs
  split at hs
  · rename_i m pr p i u m' pr' p' i' u'
    obtain rfl := Option.some.inj hs
    obtain ⟨⟨⟨h1, h2, h3⟩, ⟨g1, g2, g3⟩, hl⟩, he⟩ := hp
    obtain ⟨_, _, _, _, k1⟩ := isInts_inv h1
    obtain ⟨_, _, _, _, k2⟩ := isInts_inv h2
    obtain ⟨_, _, _, _, k3⟩ := isInts_inv h3
    injection he with e1 e2 e3 e4 e5
    refine (rsame_P (p := ⟨m, pr, intsD p, intsD i, intsD u⟩) k1 k2 k3 hl).wk ⟨⟨rfl, rfl, wk0_of (isInts_wk h1) h1, wk0_of (isInts_wk h2) h2, wk0_of (isInts_wk h3) h3, trivial⟩, ⟨by rw [e1]; rfl, by rw [e2]; rfl, ?_, ?_, ?_, trivial⟩, trivial⟩
    · simp only [e3]; exact wk0_of (isInts_wk g1) g1
    · simp only [e4]; exact wk0_of (isInts_wk g2) g2
    · simp only [e5]; exact wk0_of (isInts_wk g3) g3
  · cases hs
def oSz (o : Option (List Int)) : Nat := if o.isSome then 1 else 0
def oL (o : Option (List Int)) : List Int := o.getD []
def oK (o : Option (List Int)) : SK := if o.isSome then .any else .nil
theorem oSl_eq (k : IntKind) (o : Option (List Int)) : oSl k o = .sl (oSz o) (intRows k (oL o)) (oK o) := by cases o <;> rfl
theorem oSz_1 {o : Option (List Int)} (h : oL o ≠ []) : oSz o = 1 := by
  cases o with
  | none => exact absurd rfl h
  | some l => rfl
theorem oSz_ok (o : Option (List Int)) (k : IntKind) : (oSz o = 1 ∨ intRows k (oL o) = []) = True := by cases o <;> simp [oSz, oL, intRows]
def ac0 : Ac := ⟨0, 0, 0, 0, none, none⟩
theorem bindO_acRows (l : List Ac) (n : Nat) (f : List DV → Prop) : bindO (acRows l)[n]? f = (n < l.length ∧ f (acRow (l.getD n ac0))) := by
  unfold acRows
  rw [List.getElem?_map, bindO_map]
  by_cases h : n < l.length
  · rw [List.getElem?_eq_getElem h, List.getD_eq_getElem?_getD, List.getElem?_eq_getElem h]
    simp [h, bindO_some]
  · rw [List.getElem?_eq_none (by omega)]
    simp [h, bindO_none]
theorem acRow_eq (a : Ac) : acRow a = [.int .i64 a.k, .int .i32 a.r, .int .u8 a.b, .int .u8 a.p, .sl (oSz a.ps) (intRows .i64 (oL a.ps)) (oK a.ps), .sl (oSz a.is) (intRows .u8 (oL a.is)) (oK a.is)] := by
  rw [← oSl_eq, ← oSl_eq]; rfl
def acsOk (l : List Ac) : Prop := l.length ≤ 1000000 ∧ ∀ a ∈ l, (oL a.ps).length ≤ 1000000
set_option maxHeartbeats 4000000 in
theorem hActs_P {s1 s2 : Nat} {k1 k2 : SK} {l : List Ac} (hs1 : s1 = 6 ∨ l = []) (hs2 : s2 = 6 ∨ l = []) (hl : acsOk l) : PCalls PG 33 [.sl s1 (acRows l) k1, .sl s2 (acRows l) k2] fun n r os => r = .bool true ∧ os = [] := by
  obtain ⟨hl1, hl2⟩ := hl
  refine PCalls.by_fn (res := fun n => (.bool true, [])) T33_ok rc_hActs_ok (by simp [rc_hActs]) fun n => ?_
  unfold rc_hActs
  dsimp only
  simp -implicitDefEqProofs only [acB1, vcB1, vcB2, vcB3, vcA1, vcA2, vcA3, vcA4, vcA5, vcA6, vcA7, ↓vcP1, ↓vcP2, ↓reduceIte, Option.map_some, Option.map_none, Option.bind_some, Option.bind_none, if_true, if_false, reduceCtorEq, beq_true, beq_false, Bool.not_true, Bool.not_false, BEq.rfl, Bool.true_beq, Bool.false_beq, and_true, true_and, and_self, decide_true, decide_false, List.length_cons, List.length_nil, List.all_cons, List.all_nil, Bool.and_true, Bool.and_self, List.getElem?_cons_zero, List.getElem?_cons_succ, List.set_cons_zero, List.set_cons_succ, List.nil_append, List.cons_append, List.append_nil, List.map_cons, List.map_nil, not_true_eq_false, not_false_eq_true, false_implies, true_implies, implies_true, List.take_succ_cons, List.take_zero, List.take_nil, List.drop_succ_cons, List.drop_zero, List.drop_nil, Nat.reduceLT, Nat.reduceLeDiff, Nat.reduceEqDiff, Nat.reduceAdd, Nat.reduceSub, Nat.reduceMul, Int.reduceLT, Int.reduceLE, Int.reduceEq, Int.reduceToNat, Int.reduceAdd, Int.reduceSub, Int.reduceNeg, List.reduceReplicate, List.replicate_zero, List.replicate_succ, ne_eq, List.flatMap_cons, List.flatMap_nil, List.length_replicate, List.length_append, Nat.le_refl, Nat.le_add_right, Nat.add_assoc, List.append_assoc, or_true, true_or, or_false, false_or, and_false, false_and, exists_eq_left, exists_eq_left', Option.some.injEq, DV.int.injEq, DV.bool.injEq, DV.sl.injEq, DV.own.injEq, DV.tup.injEq, List.cons.injEq, Ob.arr.injEq, Ob.box.injEq, Option.map_map, Int.toNat_natCast, Int.toNat_zero, Nat.reducePow, Int.toNat_one, Int.reduceMul, Nat.mul_one, Nat.zero_add, Nat.add_zero, Function.comp_apply, List.map_append, List.map_replicate, Int.cast_ofNat_Int, Nat.left_eq_add, Nat.add_eq_left, Nat.add_left_cancel_iff]
  refine LoopWp.invR T33_ok (S := fun q (i : Nat) => ⟨[(0, .sl s1 (acRows l) k1), (1, .sl s2 (acRows l) k2), (5, .int .i64 i)], List.replicate q none⟩) (I := fun i => i ≤ l.length) (μ := fun i => l.length - i) n 0 (by omega) ?_ ?_
  · simp -implicitDefEqProofs only [acB1, vcB1, vcB2, vcB3, vcA1, vcA2, vcA3, vcA4, vcA5, vcA6, vcA7, ↓vcP1, ↓vcP2, ↓reduceIte, Option.map_some, Option.map_none, Option.bind_some, Option.bind_none, if_true, if_false, reduceCtorEq, beq_true, beq_false, Bool.not_true, Bool.not_false, BEq.rfl, Bool.true_beq, Bool.false_beq, and_true, true_and, and_self, decide_true, decide_false, List.length_cons, List.length_nil, List.all_cons, List.all_nil, Bool.and_true, Bool.and_self, List.getElem?_cons_zero, List.getElem?_cons_succ, List.set_cons_zero, List.set_cons_succ, List.nil_append, List.cons_append, List.append_nil, List.map_cons, List.map_nil, not_true_eq_false, not_false_eq_true, false_implies, true_implies, implies_true, List.take_succ_cons, List.take_zero, List.take_nil, List.drop_succ_cons, List.drop_zero, List.drop_nil, Nat.reduceLT, Nat.reduceLeDiff, Nat.reduceEqDiff, Nat.reduceAdd, Nat.reduceSub, Nat.reduceMul, Int.reduceLT, Int.reduceLE, Int.reduceEq, Int.reduceToNat, Int.reduceAdd, Int.reduceSub, Int.reduceNeg, List.reduceReplicate, List.replicate_zero, List.replicate_succ, ne_eq, List.flatMap_cons, List.flatMap_nil, List.length_replicate, List.length_append, Nat.le_refl, Nat.le_add_right, Nat.add_assoc, List.append_assoc, or_true, true_or, or_false, false_or, and_false, false_and, exists_eq_left, exists_eq_left', Option.some.injEq, DV.int.injEq, DV.bool.injEq, DV.sl.injEq, DV.own.injEq, DV.tup.injEq, List.cons.injEq, Ob.arr.injEq, Ob.box.injEq, Option.map_map, Int.toNat_natCast, Int.toNat_zero, Nat.reducePow, Int.toNat_one, Int.reduceMul, Nat.mul_one, Nat.zero_add, Nat.add_zero, Function.comp_apply, List.map_append, List.map_replicate, Int.cast_ofNat_Int, Nat.left_eq_add, Nat.add_eq_left, Nat.add_left_cancel_iff]
  · intro q i hq hi
    unfold rc_hActs_l1
    generalize ha : l.getD i ac0 = a
    simp (config := { maxSteps := 5000000, implicitDefEqProofs := false }) only [bindO_acRows, acRow_eq, ha, rowsBytes_int, oSz_ok, acB1, vcB1, vcB2, vcB3, vcA1, vcA2, vcA3, vcA4, vcA5, vcA6, vcA7, ↓vcP1, ↓vcP2, ↓reduceIte, Option.map_some, Option.map_none, Option.bind_some, Option.bind_none, if_true, if_false, reduceCtorEq, beq_true, beq_false, Bool.not_true, Bool.not_false, BEq.rfl, Bool.true_beq, Bool.false_beq, and_true, true_and, and_self, decide_true, decide_false, List.length_cons, List.length_nil, List.all_cons, List.all_nil, Bool.and_true, Bool.and_self, List.getElem?_cons_zero, List.getElem?_cons_succ, List.set_cons_zero, List.set_cons_succ, List.nil_append, List.cons_append, List.append_nil, List.map_cons, List.map_nil, not_true_eq_false, not_false_eq_true, false_implies, true_implies, implies_true, List.take_succ_cons, List.take_zero, List.take_nil, List.drop_succ_cons, List.drop_zero, List.drop_nil, Nat.reduceLT, Nat.reduceLeDiff, Nat.reduceEqDiff, Nat.reduceAdd, Nat.reduceSub, Nat.reduceMul, Int.reduceLT, Int.reduceLE, Int.reduceEq, Int.reduceToNat, Int.reduceAdd, Int.reduceSub, Int.reduceNeg, List.reduceReplicate, List.replicate_zero, List.replicate_succ, ne_eq, List.flatMap_cons, List.flatMap_nil, List.length_replicate, List.length_append, Nat.le_refl, Nat.le_add_right, Nat.add_assoc, List.append_assoc, or_true, true_or, or_false, false_or, and_false, false_and, exists_eq_left, exists_eq_left', Option.some.injEq, DV.int.injEq, DV.bool.injEq, DV.sl.injEq, DV.own.injEq, DV.tup.injEq, List.cons.injEq, Ob.arr.injEq, Ob.box.injEq, Option.map_map, Int.toNat_natCast, Int.toNat_zero, Nat.reducePow, Int.toNat_one, Int.reduceMul, Nat.mul_one, Nat.zero_add, Nat.add_zero, Function.comp_apply, List.map_append, List.map_replicate, Int.cast_ofNat_Int, Nat.left_eq_add, Nat.add_eq_left, Nat.add_left_cancel_iff]
    generalize hG : RC.wp PG (tab T33) 90 rc_hActs_d0 _ _ = G1
    have g1 : i < l.length → G1 := fun hil => by
      rw [← hG]
      unfold rc_hActs_d0
      simp -implicitDefEqProofs only [rowsBytes_int, oSz_ok, acB1, vcB1, vcB2, vcB3, vcA1, vcA2, vcA3, vcA4, vcA5, vcA6, vcA7, ↓vcP1, ↓vcP2, ↓reduceIte, Option.map_some, Option.map_none, Option.bind_some, Option.bind_none, if_true, if_false, reduceCtorEq, beq_true, beq_false, Bool.not_true, Bool.not_false, BEq.rfl, Bool.true_beq, Bool.false_beq, and_true, true_and, and_self, decide_true, decide_false, List.length_cons, List.length_nil, List.all_cons, List.all_nil, Bool.and_true, Bool.and_self, List.getElem?_cons_zero, List.getElem?_cons_succ, List.set_cons_zero, List.set_cons_succ, List.nil_append, List.cons_append, List.append_nil, List.map_cons, List.map_nil, not_true_eq_false, not_false_eq_true, false_implies, true_implies, implies_true, List.take_succ_cons, List.take_zero, List.take_nil, List.drop_succ_cons, List.drop_zero, List.drop_nil, Nat.reduceLT, Nat.reduceLeDiff, Nat.reduceEqDiff, Nat.reduceAdd, Nat.reduceSub, Nat.reduceMul, Int.reduceLT, Int.reduceLE, Int.reduceEq, Int.reduceToNat, Int.reduceAdd, Int.reduceSub, Int.reduceNeg, List.reduceReplicate, List.replicate_zero, List.replicate_succ, ne_eq, List.flatMap_cons, List.flatMap_nil, List.length_replicate, List.length_append, Nat.le_refl, Nat.le_add_right, Nat.add_assoc, List.append_assoc, or_true, true_or, or_false, false_or, and_false, false_and, exists_eq_left, exists_eq_left', Option.some.injEq, DV.int.injEq, DV.bool.injEq, DV.sl.injEq, DV.own.injEq, DV.tup.injEq, List.cons.injEq, Ob.arr.injEq, Ob.box.injEq, Option.map_map, Int.toNat_natCast, Int.toNat_zero, Nat.reducePow, Int.toNat_one, Int.reduceMul, Nat.mul_one, Nat.zero_add, Nat.add_zero, Function.comp_apply, List.map_append, List.map_replicate, Int.cast_ofNat_Int, Nat.left_eq_add, Nat.add_eq_left, Nat.add_left_cancel_iff]
      have hla : (oL a.ps).length ≤ 1000000 := by
        refine hl2 a ?_
        rw [← ha, List.getD_eq_getElem?_getD, List.getElem?_eq_getElem hil]
        exact List.getElem_mem _
      refine LoopWp.inv T33_ok (S := fun j : Nat => ⟨[(0, .sl s1 (acRows l) k1), (1, .sl s2 (acRows l) k2), (5, .int .i64 i), (6, .ptr q 0 0), (7, .ptr (q + 1) 0 0), (8, .int .i64 j)], List.replicate q none ++ [some (.box [.int .i64 a.k, .int .i32 a.r, .int .u8 a.b, .int .u8 a.p, .sl (oSz a.ps) (intRows .i64 (oL a.ps)) (oK a.ps), .sl (oSz a.is) (intRows .u8 (oL a.is)) (oK a.is)]), some (.box [.int .i64 a.k, .int .i32 a.r, .int .u8 a.b, .int .u8 a.p, .sl (oSz a.ps) (intRows .i64 (oL a.ps)) (oK a.ps), .sl (oSz a.is) (intRows .u8 (oL a.is)) (oK a.is)])]⟩) (I := fun j => j ≤ (oL a.ps).length) (μ := fun j => (oL a.ps).length - j) 0 (by omega) ?_ ?_
      · simp -implicitDefEqProofs only [vcB1, vcB2, vcB3, vcA1, vcA2, vcA3, vcA4, vcA5, vcA6, vcA7, ↓vcP1, ↓vcP2, ↓reduceIte, Option.map_some, Option.map_none, Option.bind_some, Option.bind_none, if_true, if_false, reduceCtorEq, beq_true, beq_false, Bool.not_true, Bool.not_false, BEq.rfl, Bool.true_beq, Bool.false_beq, and_true, true_and, and_self, decide_true, decide_false, List.length_cons, List.length_nil, List.all_cons, List.all_nil, Bool.and_true, Bool.and_self, List.getElem?_cons_zero, List.getElem?_cons_succ, List.set_cons_zero, List.set_cons_succ, List.nil_append, List.cons_append, List.append_nil, List.map_cons, List.map_nil, not_true_eq_false, not_false_eq_true, false_implies, true_implies, implies_true, List.take_succ_cons, List.take_zero, List.take_nil, List.drop_succ_cons, List.drop_zero, List.drop_nil, Nat.reduceLT, Nat.reduceLeDiff, Nat.reduceEqDiff, Nat.reduceAdd, Nat.reduceSub, Nat.reduceMul, Int.reduceLT, Int.reduceLE, Int.reduceEq, Int.reduceToNat, Int.reduceAdd, Int.reduceSub, Int.reduceNeg, List.reduceReplicate, List.replicate_zero, List.replicate_succ, ne_eq, List.flatMap_cons, List.flatMap_nil, List.length_replicate, List.length_append, Nat.le_refl, Nat.le_add_right, Nat.add_assoc, List.append_assoc, or_true, true_or, or_false, false_or, and_false, false_and, exists_eq_left, exists_eq_left', Option.some.injEq, DV.int.injEq, DV.bool.injEq, DV.sl.injEq, DV.own.injEq, DV.tup.injEq, List.cons.injEq, Ob.arr.injEq, Ob.box.injEq, Option.map_map, Int.toNat_natCast, Int.toNat_zero, Nat.reducePow, Int.toNat_one, Int.reduceMul, Nat.mul_one, Nat.zero_add, Nat.add_zero, Function.comp_apply, List.map_append, List.map_replicate, Int.cast_ofNat_Int, Nat.left_eq_add, Nat.add_eq_left, Nat.add_left_cancel_iff]
      · intro j hj
        unfold rc_hActs_l0
        simp -implicitDefEqProofs only [vcB1, vcB2, vcB3, vcA1, vcA2, vcA3, vcA4, vcA5, vcA6, vcA7, ↓vcP1, ↓vcP2, ↓reduceIte, Option.map_some, Option.map_none, Option.bind_some, Option.bind_none, if_true, if_false, reduceCtorEq, beq_true, beq_false, Bool.not_true, Bool.not_false, BEq.rfl, Bool.true_beq, Bool.false_beq, and_true, true_and, and_self, decide_true, decide_false, List.length_cons, List.length_nil, List.all_cons, List.all_nil, Bool.and_true, Bool.and_self, List.getElem?_cons_zero, List.getElem?_cons_succ, List.set_cons_zero, List.set_cons_succ, List.nil_append, List.cons_append, List.append_nil, List.map_cons, List.map_nil, not_true_eq_false, not_false_eq_true, false_implies, true_implies, implies_true, List.take_succ_cons, List.take_zero, List.take_nil, List.drop_succ_cons, List.drop_zero, List.drop_nil, Nat.reduceLT, Nat.reduceLeDiff, Nat.reduceEqDiff, Nat.reduceAdd, Nat.reduceSub, Nat.reduceMul, Int.reduceLT, Int.reduceLE, Int.reduceEq, Int.reduceToNat, Int.reduceAdd, Int.reduceSub, Int.reduceNeg, List.reduceReplicate, List.replicate_zero, List.replicate_succ, ne_eq, List.flatMap_cons, List.flatMap_nil, List.length_replicate, List.length_append, Nat.le_refl, Nat.le_add_right, Nat.add_assoc, List.append_assoc, or_true, true_or, or_false, false_or, and_false, false_and, exists_eq_left, exists_eq_left', Option.some.injEq, DV.int.injEq, DV.bool.injEq, DV.sl.injEq, DV.own.injEq, DV.tup.injEq, List.cons.injEq, Ob.arr.injEq, Ob.box.injEq, Option.map_map, Int.toNat_natCast, Int.toNat_zero, Nat.reducePow, Int.toNat_one, Int.reduceMul, Nat.mul_one, Nat.zero_add, Nat.add_zero, Function.comp_apply, List.map_append, List.map_replicate, Int.cast_ofNat_Int, Nat.left_eq_add, Nat.add_eq_left, Nat.add_left_cancel_iff]
        refine ⟨fun h => ?_, fun h => ?_⟩
        · have hz : oSz a.ps = 1 := oSz_1 (fun e => by rw [e] at h; simp at h; omega)
          exact ⟨⟨by omega, h, hz⟩, by omega, ⟨by omega, h, hz⟩, by omega, j + 1, by rw [wI64] <;> omega, by omega, by omega⟩
        · refine ⟨by omega, i + 1, by rw [wI64] <;> omega, by omega, by omega⟩
    clear hG
    generalize hG : RC.wp PG (tab T33) 90 rc_hActs_d0 _ _ = G2
    have g2 : i < l.length → G2 := fun hil => by
      rw [← hG]
      unfold rc_hActs_d0
      simp -implicitDefEqProofs only [rowsBytes_int, oSz_ok, acB1, vcB1, vcB2, vcB3, vcA1, vcA2, vcA3, vcA4, vcA5, vcA6, vcA7, ↓vcP1, ↓vcP2, ↓reduceIte, Option.map_some, Option.map_none, Option.bind_some, Option.bind_none, if_true, if_false, reduceCtorEq, beq_true, beq_false, Bool.not_true, Bool.not_false, BEq.rfl, Bool.true_beq, Bool.false_beq, and_true, true_and, and_self, decide_true, decide_false, List.length_cons, List.length_nil, List.all_cons, List.all_nil, Bool.and_true, Bool.and_self, List.getElem?_cons_zero, List.getElem?_cons_succ, List.set_cons_zero, List.set_cons_succ, List.nil_append, List.cons_append, List.append_nil, List.map_cons, List.map_nil, not_true_eq_false, not_false_eq_true, false_implies, true_implies, implies_true, List.take_succ_cons, List.take_zero, List.take_nil, List.drop_succ_cons, List.drop_zero, List.drop_nil, Nat.reduceLT, Nat.reduceLeDiff, Nat.reduceEqDiff, Nat.reduceAdd, Nat.reduceSub, Nat.reduceMul, Int.reduceLT, Int.reduceLE, Int.reduceEq, Int.reduceToNat, Int.reduceAdd, Int.reduceSub, Int.reduceNeg, List.reduceReplicate, List.replicate_zero, List.replicate_succ, ne_eq, List.flatMap_cons, List.flatMap_nil, List.length_replicate, List.length_append, Nat.le_refl, Nat.le_add_right, Nat.add_assoc, List.append_assoc, or_true, true_or, or_false, false_or, and_false, false_and, exists_eq_left, exists_eq_left', Option.some.injEq, DV.int.injEq, DV.bool.injEq, DV.sl.injEq, DV.own.injEq, DV.tup.injEq, List.cons.injEq, Ob.arr.injEq, Ob.box.injEq, Option.map_map, Int.toNat_natCast, Int.toNat_zero, Nat.reducePow, Int.toNat_one, Int.reduceMul, Nat.mul_one, Nat.zero_add, Nat.add_zero, Function.comp_apply, List.map_append, List.map_replicate, Int.cast_ofNat_Int, Nat.left_eq_add, Nat.add_eq_left, Nat.add_left_cancel_iff]
      have hla : (oL a.ps).length ≤ 1000000 := by
        refine hl2 a ?_
        rw [← ha, List.getD_eq_getElem?_getD, List.getElem?_eq_getElem hil]
        exact List.getElem_mem _
      refine LoopWp.inv T33_ok (S := fun j : Nat => ⟨[(0, .sl s1 (acRows l) k1), (1, .sl s2 (acRows l) k2), (5, .int .i64 i), (6, .ptr (q + 1) 0 0), (7, .ptr q 0 0), (8, .int .i64 j)], List.replicate q none ++ [some (.box [.int .i64 a.k, .int .i32 a.r, .int .u8 a.b, .int .u8 a.p, .sl (oSz a.ps) (intRows .i64 (oL a.ps)) (oK a.ps), .sl (oSz a.is) (intRows .u8 (oL a.is)) (oK a.is)]), some (.box [.int .i64 a.k, .int .i32 a.r, .int .u8 a.b, .int .u8 a.p, .sl (oSz a.ps) (intRows .i64 (oL a.ps)) (oK a.ps), .sl (oSz a.is) (intRows .u8 (oL a.is)) (oK a.is)])]⟩) (I := fun j => j ≤ (oL a.ps).length) (μ := fun j => (oL a.ps).length - j) 0 (by omega) ?_ ?_
      · simp -implicitDefEqProofs only [vcB1, vcB2, vcB3, vcA1, vcA2, vcA3, vcA4, vcA5, vcA6, vcA7, ↓vcP1, ↓vcP2, ↓reduceIte, Option.map_some, Option.map_none, Option.bind_some, Option.bind_none, if_true, if_false, reduceCtorEq, beq_true, beq_false, Bool.not_true, Bool.not_false, BEq.rfl, Bool.true_beq, Bool.false_beq, and_true, true_and, and_self, decide_true, decide_false, List.length_cons, List.length_nil, List.all_cons, List.all_nil, Bool.and_true, Bool.and_self, List.getElem?_cons_zero, List.getElem?_cons_succ, List.set_cons_zero, List.set_cons_succ, List.nil_append, List.cons_append, List.append_nil, List.map_cons, List.map_nil, not_true_eq_false, not_false_eq_true, false_implies, true_implies, implies_true, List.take_succ_cons, List.take_zero, List.take_nil, List.drop_succ_cons, List.drop_zero, List.drop_nil, Nat.reduceLT, Nat.reduceLeDiff, Nat.reduceEqDiff, Nat.reduceAdd, Nat.reduceSub, Nat.reduceMul, Int.reduceLT, Int.reduceLE, Int.reduceEq, Int.reduceToNat, Int.reduceAdd, Int.reduceSub, Int.reduceNeg, List.reduceReplicate, List.replicate_zero, List.replicate_succ, ne_eq, List.flatMap_cons, List.flatMap_nil, List.length_replicate, List.length_append, Nat.le_refl, Nat.le_add_right, Nat.add_assoc, List.append_assoc, or_true, true_or, or_false, false_or, and_false, false_and, exists_eq_left, exists_eq_left', Option.some.injEq, DV.int.injEq, DV.bool.injEq, DV.sl.injEq, DV.own.injEq, DV.tup.injEq, List.cons.injEq, Ob.arr.injEq, Ob.box.injEq, Option.map_map, Int.toNat_natCast, Int.toNat_zero, Nat.reducePow, Int.toNat_one, Int.reduceMul, Nat.mul_one, Nat.zero_add, Nat.add_zero, Function.comp_apply, List.map_append, List.map_replicate, Int.cast_ofNat_Int, Nat.left_eq_add, Nat.add_eq_left, Nat.add_left_cancel_iff]
      · intro j hj
        unfold rc_hActs_l0
        simp -implicitDefEqProofs only [vcB1, vcB2, vcB3, vcA1, vcA2, vcA3, vcA4, vcA5, vcA6, vcA7, ↓vcP1, ↓vcP2, ↓reduceIte, Option.map_some, Option.map_none, Option.bind_some, Option.bind_none, if_true, if_false, reduceCtorEq, beq_true, beq_false, Bool.not_true, Bool.not_false, BEq.rfl, Bool.true_beq, Bool.false_beq, and_true, true_and, and_self, decide_true, decide_false, List.length_cons, List.length_nil, List.all_cons, List.all_nil, Bool.and_true, Bool.and_self, List.getElem?_cons_zero, List.getElem?_cons_succ, List.set_cons_zero, List.set_cons_succ, List.nil_append, List.cons_append, List.append_nil, List.map_cons, List.map_nil, not_true_eq_false, not_false_eq_true, false_implies, true_implies, implies_true, List.take_succ_cons, List.take_zero, List.take_nil, List.drop_succ_cons, List.drop_zero, List.drop_nil, Nat.reduceLT, Nat.reduceLeDiff, Nat.reduceEqDiff, Nat.reduceAdd, Nat.reduceSub, Nat.reduceMul, Int.reduceLT, Int.reduceLE, Int.reduceEq, Int.reduceToNat, Int.reduceAdd, Int.reduceSub, Int.reduceNeg, List.reduceReplicate, List.replicate_zero, List.replicate_succ, ne_eq, List.flatMap_cons, List.flatMap_nil, List.length_replicate, List.length_append, Nat.le_refl, Nat.le_add_right, Nat.add_assoc, List.append_assoc, or_true, true_or, or_false, false_or, and_false, false_and, exists_eq_left, exists_eq_left', Option.some.injEq, DV.int.injEq, DV.bool.injEq, DV.sl.injEq, DV.own.injEq, DV.tup.injEq, List.cons.injEq, Ob.arr.injEq, Ob.box.injEq, Option.map_map, Int.toNat_natCast, Int.toNat_zero, Nat.reducePow, Int.toNat_one, Int.reduceMul, Nat.mul_one, Nat.zero_add, Nat.add_zero, Function.comp_apply, List.map_append, List.map_replicate, Int.cast_ofNat_Int, Nat.left_eq_add, Nat.add_eq_left, Nat.add_left_cancel_iff]
        refine ⟨fun h => ?_, fun h => ?_⟩
        · have hz : oSz a.ps = 1 := oSz_1 (fun e => by rw [e] at h; simp at h; omega)
          exact ⟨⟨by omega, h, hz⟩, by omega, ⟨by omega, h, hz⟩, by omega, j + 1, by rw [wI64] <;> omega, by omega, by omega⟩
        · refine ⟨by omega, i + 1, by rw [wI64] <;> omega, by omega, by omega⟩
    clear hG
    refine ⟨fun h => ?_, fun _ => hq⟩
    have hil : i < l.length := by omega
    have hz1 : s1 = 6 := by rcases hs1 with h | h; exact h; subst h; simp at hil
    have hz2 : s2 = 6 := by rcases hs2 with h | h; exact h; subst h; simp at hil
    have f1 : 0 ≤ (i : Int) ∧ (i : Int) < l.length ∧ s1 = 6 := ⟨by omega, h, hz1⟩
    have f2 : 0 ≤ (i : Int) ∧ (i : Int) < l.length ∧ s2 = 6 := ⟨by omega, h, hz2⟩
    exact ⟨f1, hil, ⟨f2, hil, g1 hil, g2 hil⟩, ⟨f2, hil, g1 hil⟩, f2, hil, g2 hil⟩
def F_hActs : List DV → Option FSpec
  | [.sl s1 r1 k1, .sl s2 r2 k2] => some ⟨r1 = r2 ∧ (s1 = 6 ∨ r1 = []) ∧ (s2 = 6 ∨ r2 = []) ∧ ∃ l, r1 = acRows l ∧ acsOk l, fun n => (.bool true, [])⟩
  | _ => none
theorem F_hActs_1 (s1 s2 : Nat) (r1 r2 : List (List DV)) (k1 k2 : SK) : F_hActs [.sl s1 r1 k1, .sl s2 r2 k2] = some ⟨r1 = r2 ∧ (s1 = 6 ∨ r1 = []) ∧ (s2 = 6 ∨ r2 = []) ∧ ∃ l, r1 = acRows l ∧ acsOk l, fun n => (.bool true, [])⟩ := nrfl _
theorem acRows_eqn (l : List Ac) : (acRows l = []) = (l = []) := by simp [acRows]
theorem hActs_ok (args : List DV) (s : FSpec) (hs : F_hActs args = some s) (hp : s.pre) : PCalls PG 33 args fun n r os => r = (s.res n).1 ∧ os = (s.res n).2 := by
  unfold F_hActs at hs
  split at hs
  · obtain rfl := Option.some.inj hs
    obtain ⟨rfl, h1, h2, l, rfl, h3⟩ := hp
    rw [acRows_eqn] at h1 h2
    exact hActs_P h1 h2 h3
  · cases hs
end Go.Proofs.YteemmpghpdaloaaDoor
end
section
/- The seat's bytes; places. -/
set_option linter.unusedVariables false
set_option linter.unusedSimpArgs false
set_option maxRecDepth 10000
namespace Go.Proofs.YteemmpghpdaloaaDoor
open Go.RowKit

noncomputable def rc_place : RFn := ⟨2, 14, (.seq (.reg [⟨(some 4), (.mov (.c (.int .i64 0))), none, false⟩] 0 [0, 1]) (.seq (.reg [⟨(some 5), (.mov (.t 0)), none, false⟩, ⟨(some 6), (.mov (.t 1)), none, false⟩, ⟨(some 7), (.bin .rem (.t 5) (.t 6)), none, false⟩, ⟨(some 0), (.mov (.t 7)), none, false⟩] 0 [0, 1]) (.seq (.seq (.reg [⟨(some 8), (.mov (.t 0)), none, false⟩, ⟨(some 9), (.bin .lss (.t 8) (.c (.int .i64 0))), none, false⟩] 0 [0, 1, 9]) (.cond (.t 9) (.reg [⟨(some 10), (.mov (.t 0)), none, false⟩, ⟨(some 11), (.mov (.t 1)), none, false⟩, ⟨(some 12), (.bin .add (.t 10) (.t 11)), none, false⟩, ⟨(some 0), (.mov (.t 12)), none, false⟩] 0 [0]) .skip)) (.seq (.reg [⟨(some 13), (.mov (.t 0)), none, false⟩, ⟨(some 4), (.mov (.t 13)), none, false⟩] 0 [4]) .ret)))), [(.t 4)]⟩
theorem rc_place_ok : compFn PG.P [⟨0, 0, [0, 1], []⟩, ⟨1, 0, [0, 1], []⟩, ⟨2, 0, [0, 1, 9], []⟩, ⟨3, 0, [0], []⟩, ⟨4, 0, [4], []⟩] 43 = some rc_place := by kernel_rfl
theorem place_P {k : Int} {m : Int} (hb_k : -9223372036854775808 ≤ k ∧ k ≤ 9223372036854775807) (hb_m : -9223372036854775808 ≤ m ∧ m ≤ 9223372036854775807) (hp : 0 < m) :
    PCalls PG 43 [.int .i64 k, .int .i64 m] fun n RR OO => RR = ((.int .i64 (k % m), []) : DV × Objs).1 ∧ OO = ((.int .i64 (k % m), []) : DV × Objs).2 := by
  refine PCalls.by_fn (res := fun n => (.int .i64 (k % m), [])) T33_ok rc_place_ok (by simp [rc_place]) fun n => ?_
  unfold rc_place
  dsimp only
  simp -implicitDefEqProofs only [↓bindO_iteN, vcB1, vcB2, vcB3, vcA1, vcA2, vcA3, vcA4, vcA5, vcA6, vcA7, ↓vcP1, ↓vcP2, ↓reduceIte, Option.map_some, Option.map_none, Option.bind_some, Option.bind_none, if_true, if_false, reduceCtorEq, beq_true, beq_false, Bool.not_true, Bool.not_false, BEq.rfl, Bool.true_beq, Bool.false_beq, and_true, true_and, and_self, decide_true, decide_false, List.length_cons, List.length_nil, List.all_cons, List.all_nil, Bool.and_true, Bool.and_self, List.getElem?_cons_zero, List.getElem?_cons_succ, List.set_cons_zero, List.set_cons_succ, List.nil_append, List.cons_append, List.append_nil, List.map_cons, List.map_nil, not_true_eq_false, not_false_eq_true, false_implies, true_implies, implies_true, List.take_succ_cons, List.take_zero, List.take_nil, List.drop_succ_cons, List.drop_zero, List.drop_nil, Nat.reduceLT, Nat.reduceLeDiff, Nat.reduceEqDiff, Nat.reduceAdd, Nat.reduceSub, Nat.reduceMul, Int.reduceLT, Int.reduceLE, Int.reduceEq, Int.reduceToNat, Int.reduceAdd, Int.reduceSub, Int.reduceNeg, List.reduceReplicate, List.replicate_zero, List.replicate_succ, ne_eq, List.flatMap_cons, List.flatMap_nil, List.length_replicate, List.length_append, Nat.le_refl, Nat.le_add_right, Nat.add_assoc, List.append_assoc, or_true, true_or, or_false, false_or, and_false, false_and, exists_eq_left, exists_eq_left', Option.some.injEq, DV.int.injEq, DV.bool.injEq, DV.sl.injEq, DV.own.injEq, DV.tup.injEq, List.cons.injEq, Ob.arr.injEq, Ob.box.injEq, Option.map_map, Int.toNat_natCast, Int.toNat_zero, Nat.reducePow, Int.toNat_one, Int.reduceMul, Nat.mul_one, Nat.zero_add, Nat.add_zero, Function.comp_apply, List.map_append, List.map_replicate, Int.cast_ofNat_Int, Nat.left_eq_add, Nat.add_eq_left, Nat.add_left_cancel_iff]
  have hm0 := Int.emod_nonneg k (show m ≠ 0 by omega)
  have hm1 := Int.emod_lt_of_pos k hp
  have ht : k.tmod m = k % m ∨ (k.tmod m = k % m - m ∧ 0 < k % m) := by
    rw [Int.tmod_eq_emod]
    split
    · left; omega
    · rename_i h
      right
      refine ⟨by omega, ?_⟩
      have : k % m ≠ 0 := fun e => h (.inr (Int.dvd_of_emod_eq_zero e))
      omega
  refine ⟨by omega, fun h => ?_, fun h => by omega⟩
  rw [wI64 (by omega) (by omega)]
  omega
def F_place : List DV → Option FSpec
  | [.int .i64 k, .int .i64 m] => some ⟨(-9223372036854775808 ≤ k ∧ k ≤ 9223372036854775807) ∧ (-9223372036854775808 ≤ m ∧ m ≤ 9223372036854775807) ∧ 0 < m, fun n => (.int .i64 (k % m), [])⟩
  | _ => none
theorem F_place_1 (k : Int) (m : Int) : F_place [.int .i64 k, .int .i64 m] = some ⟨(-9223372036854775808 ≤ k ∧ k ≤ 9223372036854775807) ∧ (-9223372036854775808 ≤ m ∧ m ≤ 9223372036854775807) ∧ 0 < m, fun n => (.int .i64 (k % m), [])⟩ := nrfl _
theorem place_ok (args : List DV) (s : FSpec) (hs : F_place args = some s) (hp : s.pre) : PCalls PG 43 args fun n r os => r = (s.res n).1 ∧ os = (s.res n).2 := by
  unfold F_place at hs
  split at hs
  · rename_i k m
    obtain rfl := Option.some.inj hs
    obtain ⟨hb_k, hb_m, hp⟩ := hp
    have this := place_P  hb_k hb_m hp
    exact this
  · cases hs

def pieces69 : List (List UInt8) := [[97, 98], [120], [230, 188, 162], [195, 169], [13, 10], [10], [13], [8], [9], [27, 91, 65], [27, 91, 51, 66], [27, 91, 50, 67], [27, 91, 68], [27, 91, 50, 59, 51, 72], [27, 91, 74], [27, 91, 49, 74], [27, 91, 50, 74], [27, 91, 75], [27, 91, 49, 75], [27, 91, 76], [27, 91, 50, 77], [27, 91, 50, 64], [27, 91, 80], [27, 91, 51, 88], [27, 91, 83], [27, 91, 84], [27, 91, 50, 59, 52, 114], [27, 91, 114], [27, 77], [27, 68], [27, 69], [27, 55], [27, 56], [27, 99], [27, 72], [27, 91, 103], [27, 91, 51, 103], [27, 91, 49, 59, 51, 49, 109], [27, 91, 48, 59, 52, 59, 52, 55, 109], [27, 91, 109], [27, 91, 63, 55, 108], [27, 91, 63, 55, 104], [27, 91, 63, 50, 53, 108], [27, 91, 63, 49, 48, 52, 57, 104], [27, 91, 63, 49, 48, 52, 57, 108], [27, 91, 53, 71], [27, 91, 50, 100], [27, 93, 48, 59, 116, 7], [27, 80, 49, 27, 92], [230], [255], [27, 91], [27], [49, 50, 59], [24], [97, 98, 99, 100, 101, 102, 103, 104], [27, 91, 57, 57, 57, 57, 57, 57, 57, 57, 57, 57, 57, 109], [27, 40, 66], [27, 91, 49, 58, 50, 109], [27, 91, 62, 99], [195], [169], [229, 173, 151, 229, 173, 151], [27, 91, 33, 112], [204, 129], [12], [127], [27, 91, 59, 72], [27, 91, 48, 75]]
theorem pieces69_len : pieces69.length = 69 := rfl
def sbytesF (l : List Int) : List Int := l.flatMap fun k => nums (pieces69.getD (k.tmod 69).toNat [])
theorem sbytesF_snoc (l : List Int) (k : Int) : sbytesF (l ++ [k]) = sbytesF l ++ nums (pieces69.getD (k.tmod 69).toNat []) := by simp [sbytesF]
theorem piece69_len (n : Nat) : (pieces69.getD n []).length ≤ 14 := by
  by_cases h : n < 69
  · have : ∀ n, n < 69 → (pieces69.getD n []).length ≤ 14 := by decide
    exact this n h
  · rw [List.getD_eq_getElem?_getD, List.getElem?_eq_none (by rw [pieces69_len]; omega)]; simp
theorem sbytesF_len (l : List Int) : (sbytesF l).length ≤ 14 * l.length := by
  induction l with
  | nil => simp [sbytesF]
  | cons a l ih =>
    have := piece69_len (a.tmod 69).toNat
    have e : sbytesF (a :: l) = nums (pieces69.getD (a.tmod 69).toNat []) ++ sbytesF l := by simp [sbytesF]
    rw [e, List.length_append, nums_length, List.length_cons]
    omega
theorem sbytesF_in (l : List Int) (h : l.length ≤ 1000000) : inK .u8 (sbytesF l) := by
  have hl := sbytesF_len l
  refine inK_u8 (by omega) fun n hn => ?_
  simp only [sbytesF, List.mem_flatMap] at hn
  obtain ⟨k, _, hk⟩ := hn
  exact (nums_in (pieces69.getD (k.tmod 69).toNat []) (by have := piece69_len (k.tmod 69).toNat; omega)).u8 hk
noncomputable def rc_sBytes_l0 : RC := (.seq (.seq (.reg [⟨(some 7), (.mov (.t 5)), none, false⟩, ⟨(some 8), (.mov (.t 0)), none, false⟩, ⟨(some 9), (.len (.t 8)), none, false⟩, ⟨(some 10), (.bin .lss (.t 7) (.t 9)), none, false⟩] 0 [0, 3, 4, 5, 10]) (.cond (.t 10) .skip (.ext 0))) (.seq (.blk 1 (.reg [⟨(some 13), (.mov (.t 4)), none, false⟩, ⟨(some 14), (.mov (.t 3)), none, false⟩, ⟨(some 15), (.mov (.t 0)), none, false⟩, ⟨(some 16), (.mov (.t 5)), none, false⟩, ⟨(some 17), (.iaddr 1 (.t 15) (.t 16)), none, false⟩, ⟨(some 18), (.load false 1 (.t 17)), none, false⟩, ⟨(some 19), (.conv (.i2i .i64) (.t 18)), none, false⟩, ⟨(some 20), (.mov (.t 3)), none, false⟩, ⟨(some 21), (.len (.t 20)), none, false⟩, ⟨(some 22), (.bin .rem (.t 19) (.t 21)), none, false⟩, ⟨(some 23), (.iaddr 1 (.t 14) (.t 22)), none, false⟩, ⟨(some 24), (.load false 1 (.t 23)), none, false⟩, ⟨(some 25), (.append 1 1 (.t 13) (.t 24)), none, false⟩, ⟨(some 4), (.mov (.t 25)), none, false⟩] 0 [0, 3, 4, 5])) (.reg [⟨(some 11), (.mov (.t 5)), none, false⟩, ⟨(some 12), (.bin .add (.t 11) (.c (.int .i64 1))), none, false⟩, ⟨(some 5), (.mov (.t 12)), none, false⟩] 0 [0, 3, 4, 5])))
noncomputable def rc_sBytes : RFn := ⟨1, 27, (.seq (.reg [⟨(some 2), (.mov (.c (.sl 0 [] .nil))), none, false⟩] 0 [0]) (.seq (.reg [⟨(some 6), (.mkrow 1 [(.str [])] 69 [(0, (.c (.str [(97), (98)]))), (1, (.c (.str [(120)]))), (2, (.c (.str [(230), (188), (162)]))), (3, (.c (.str [(195), (169)]))), (4, (.c (.str [(13), (10)]))), (5, (.c (.str [(10)]))), (6, (.c (.str [(13)]))), (7, (.c (.str [(8)]))), (8, (.c (.str [(9)]))), (9, (.c (.str [(27), (91), (65)]))), (10, (.c (.str [(27), (91), (51), (66)]))), (11, (.c (.str [(27), (91), (50), (67)]))), (12, (.c (.str [(27), (91), (68)]))), (13, (.c (.str [(27), (91), (50), (59), (51), (72)]))), (14, (.c (.str [(27), (91), (74)]))), (15, (.c (.str [(27), (91), (49), (74)]))), (16, (.c (.str [(27), (91), (50), (74)]))), (17, (.c (.str [(27), (91), (75)]))), (18, (.c (.str [(27), (91), (49), (75)]))), (19, (.c (.str [(27), (91), (76)]))), (20, (.c (.str [(27), (91), (50), (77)]))), (21, (.c (.str [(27), (91), (50), (64)]))), (22, (.c (.str [(27), (91), (80)]))), (23, (.c (.str [(27), (91), (51), (88)]))), (24, (.c (.str [(27), (91), (83)]))), (25, (.c (.str [(27), (91), (84)]))), (26, (.c (.str [(27), (91), (50), (59), (52), (114)]))), (27, (.c (.str [(27), (91), (114)]))), (28, (.c (.str [(27), (77)]))), (29, (.c (.str [(27), (68)]))), (30, (.c (.str [(27), (69)]))), (31, (.c (.str [(27), (55)]))), (32, (.c (.str [(27), (56)]))), (33, (.c (.str [(27), (99)]))), (34, (.c (.str [(27), (72)]))), (35, (.c (.str [(27), (91), (103)]))), (36, (.c (.str [(27), (91), (51), (103)]))), (37, (.c (.str [(27), (91), (49), (59), (51), (49), (109)]))), (38, (.c (.str [(27), (91), (48), (59), (52), (59), (52), (55), (109)]))), (39, (.c (.str [(27), (91), (109)]))), (40, (.c (.str [(27), (91), (63), (55), (108)]))), (41, (.c (.str [(27), (91), (63), (55), (104)]))), (42, (.c (.str [(27), (91), (63), (50), (53), (108)]))), (43, (.c (.str [(27), (91), (63), (49), (48), (52), (57), (104)]))), (44, (.c (.str [(27), (91), (63), (49), (48), (52), (57), (108)]))), (45, (.c (.str [(27), (91), (53), (71)]))), (46, (.c (.str [(27), (91), (50), (100)]))), (47, (.c (.str [(27), (93), (48), (59), (116), (7)]))), (48, (.c (.str [(27), (80), (49), (27), (92)]))), (49, (.c (.str [(230)]))), (50, (.c (.str [(255)]))), (51, (.c (.str [(27), (91)]))), (52, (.c (.str [(27)]))), (53, (.c (.str [(49), (50), (59)]))), (54, (.c (.str [(24)]))), (55, (.c (.str [(97), (98), (99), (100), (101), (102), (103), (104)]))), (56, (.c (.str [(27), (91), (57), (57), (57), (57), (57), (57), (57), (57), (57), (57), (57), (109)]))), (57, (.c (.str [(27), (40), (66)]))), (58, (.c (.str [(27), (91), (49), (58), (50), (109)]))), (59, (.c (.str [(27), (91), (62), (99)]))), (60, (.c (.str [(195)]))), (61, (.c (.str [(169)]))), (62, (.c (.str [(229), (173), (151), (229), (173), (151)]))), (63, (.c (.str [(27), (91), (33), (112)]))), (64, (.c (.str [(204), (129)]))), (65, (.c (.str [(12)]))), (66, (.c (.str [(127)]))), (67, (.c (.str [(27), (91), (59), (72)]))), (68, (.c (.str [(27), (91), (48), (75)])))]), none, true⟩, ⟨(some 3), (.mov (.t 6)), none, false⟩] 0 [0, 3]) (.seq (.reg [⟨(some 4), (.mov (.c (.sl 0 [] .nil))), none, false⟩] 0 [0, 3, 4]) (.seq (.seq (.reg [⟨(some 5), (.mov (.c (.int .i64 0))), none, false⟩] 0 [0, 3, 4, 5]) (.blk 0 (.loop rc_sBytes_l0))) (.seq (.reg [⟨(some 26), (.mov (.t 4)), none, false⟩, ⟨(some 2), (.mov (.t 26)), none, false⟩] 0 [2]) .ret))))), [(.t 2)]⟩
theorem rc_sBytes_ok : compFn PG.P [⟨0, 0, [0], []⟩, ⟨1, 0, [0, 3], [6]⟩, ⟨2, 0, [0, 3, 4], []⟩, ⟨3, 0, [0, 3, 4, 5], []⟩, ⟨4, 0, [0, 3, 4, 5, 10], []⟩, ⟨5, 0, [0, 3, 4, 5], []⟩, ⟨6, 0, [0, 3, 4, 5], []⟩, ⟨7, 0, [2], []⟩] 29 = some rc_sBytes := by kernel_rfl
theorem sBytes_P {sz_l : Nat} {k_l : SK} {l : List Int} (hs_l : sz_l = 1 ∨ l = []) (hk_l : inK .u8 l) (hp : l.length ≤ 1000000) :
    PCalls PG 29 [.sl sz_l (intRows .u8 l) k_l] fun n r os => r = .sl 1 (intRows .u8 (sbytesF l)) .any ∧ os = [] := by
  refine PCalls.by_fnF (res := fun n => (.sl 1 (intRows .u8 (sbytesF l)) .any, [])) T33_ok rc_sBytes_ok (by simp [rc_sBytes]) fun n => ?_
  unfold rc_sBytes
  dsimp only
  simp -implicitDefEqProofs only [vcB1, vcB2, vcB3, vcA1, vcA2, vcA3, vcA4, vcA5, vcA6, vcA7, ↓vcP1, ↓vcP2, ↓reduceIte, Option.map_some, Option.map_none, Option.bind_some, Option.bind_none, if_true, if_false, reduceCtorEq, beq_true, beq_false, Bool.not_true, Bool.not_false, BEq.rfl, Bool.true_beq, Bool.false_beq, and_true, true_and, and_self, decide_true, decide_false, List.length_cons, List.length_nil, List.all_cons, List.all_nil, Bool.and_true, Bool.and_self, List.getElem?_cons_zero, List.getElem?_cons_succ, List.set_cons_zero, List.set_cons_succ, List.nil_append, List.cons_append, List.append_nil, List.map_cons, List.map_nil, not_true_eq_false, not_false_eq_true, false_implies, true_implies, implies_true, List.take_succ_cons, List.take_zero, List.take_nil, List.drop_succ_cons, List.drop_zero, List.drop_nil, Nat.reduceLT, Nat.reduceLeDiff, Nat.reduceEqDiff, Nat.reduceAdd, Nat.reduceSub, Nat.reduceMul, Int.reduceLT, Int.reduceLE, Int.reduceEq, Int.reduceToNat, Int.reduceAdd, Int.reduceSub, Int.reduceNeg, List.reduceReplicate, List.replicate_zero, List.replicate_succ, ne_eq, List.flatMap_cons, List.flatMap_nil, List.length_replicate, List.length_append, Nat.le_refl, Nat.le_add_right, Nat.add_assoc, List.append_assoc, or_true, true_or, or_false, false_or, and_false, false_and, exists_eq_left, exists_eq_left', Option.some.injEq, DV.int.injEq, DV.bool.injEq, DV.sl.injEq, DV.own.injEq, DV.tup.injEq, List.cons.injEq, Ob.arr.injEq, Ob.box.injEq, Option.map_map, Int.toNat_natCast, Int.toNat_zero, Nat.reducePow, Int.toNat_one, Int.reduceMul, Nat.mul_one, Nat.zero_add, Nat.add_zero, Function.comp_apply, List.map_append, List.map_replicate, Int.cast_ofNat_Int, Nat.left_eq_add, Nat.add_eq_left, Nat.add_left_cancel_iff]
  refine LoopWp.own 4 1 rfl (.inl rfl) ?_
  refine LoopWp.invR T33_ok (S := fun m (i : Nat) => ⟨[(0, .sl sz_l (intRows .u8 l) k_l), (3, .sl 1 (strRows pieces69) .any), (4, .own m 0 (sbytesF (l.take i)).length), (5, .int .i64 i)],
        List.replicate m none ++ [some (.arr 1 (intRows .u8 (sbytesF (l.take i))))]⟩) (I := fun i => i ≤ l.length) (μ := fun i => l.length - i) n 0 (by omega) ?_ ?_
  · simp -implicitDefEqProofs only [List.take_zero, vcB1, vcB2, vcB3, vcA1, vcA2, vcA3, vcA4, vcA5, vcA6, vcA7, ↓vcP1, ↓vcP2, ↓reduceIte, Option.map_some, Option.map_none, Option.bind_some, Option.bind_none, if_true, if_false, reduceCtorEq, beq_true, beq_false, Bool.not_true, Bool.not_false, BEq.rfl, Bool.true_beq, Bool.false_beq, and_true, true_and, and_self, decide_true, decide_false, List.length_cons, List.length_nil, List.all_cons, List.all_nil, Bool.and_true, Bool.and_self, List.getElem?_cons_zero, List.getElem?_cons_succ, List.set_cons_zero, List.set_cons_succ, List.nil_append, List.cons_append, List.append_nil, List.map_cons, List.map_nil, not_true_eq_false, not_false_eq_true, false_implies, true_implies, implies_true, List.take_succ_cons, List.take_zero, List.take_nil, List.drop_succ_cons, List.drop_zero, List.drop_nil, Nat.reduceLT, Nat.reduceLeDiff, Nat.reduceEqDiff, Nat.reduceAdd, Nat.reduceSub, Nat.reduceMul, Int.reduceLT, Int.reduceLE, Int.reduceEq, Int.reduceToNat, Int.reduceAdd, Int.reduceSub, Int.reduceNeg, List.reduceReplicate, List.replicate_zero, List.replicate_succ, ne_eq, List.flatMap_cons, List.flatMap_nil, List.length_replicate, List.length_append, Nat.le_refl, Nat.le_add_right, Nat.add_assoc, List.append_assoc, or_true, true_or, or_false, false_or, and_false, false_and, exists_eq_left, exists_eq_left', Option.some.injEq, DV.int.injEq, DV.bool.injEq, DV.sl.injEq, DV.own.injEq, DV.tup.injEq, List.cons.injEq, Ob.arr.injEq, Ob.box.injEq, Option.map_map, Int.toNat_natCast, Int.toNat_zero, Nat.reducePow, Int.toNat_one, Int.reduceMul, Nat.mul_one, Nat.zero_add, Nat.add_zero, Function.comp_apply, List.map_append, List.map_replicate, Int.cast_ofNat_Int, Nat.left_eq_add, Nat.add_eq_left, Nat.add_left_cancel_iff]
    exact ⟨⟨rfl, rfl⟩, rfl⟩
  · intro m i hm hi
    unfold rc_sBytes_l0
    simp -implicitDefEqProofs only [strRows_length, pieces69_len, bindO_strRows, ↓bindO_iteN, bytesRows_nums, vcB1, vcB2, vcB3, vcA1, vcA2, vcA3, vcA4, vcA5, vcA6, vcA7, ↓vcP1, ↓vcP2, ↓reduceIte, Option.map_some, Option.map_none, Option.bind_some, Option.bind_none, if_true, if_false, reduceCtorEq, beq_true, beq_false, Bool.not_true, Bool.not_false, BEq.rfl, Bool.true_beq, Bool.false_beq, and_true, true_and, and_self, decide_true, decide_false, List.length_cons, List.length_nil, List.all_cons, List.all_nil, Bool.and_true, Bool.and_self, List.getElem?_cons_zero, List.getElem?_cons_succ, List.set_cons_zero, List.set_cons_succ, List.nil_append, List.cons_append, List.append_nil, List.map_cons, List.map_nil, not_true_eq_false, not_false_eq_true, false_implies, true_implies, implies_true, List.take_succ_cons, List.take_zero, List.take_nil, List.drop_succ_cons, List.drop_zero, List.drop_nil, Nat.reduceLT, Nat.reduceLeDiff, Nat.reduceEqDiff, Nat.reduceAdd, Nat.reduceSub, Nat.reduceMul, Int.reduceLT, Int.reduceLE, Int.reduceEq, Int.reduceToNat, Int.reduceAdd, Int.reduceSub, Int.reduceNeg, List.reduceReplicate, List.replicate_zero, List.replicate_succ, ne_eq, List.flatMap_cons, List.flatMap_nil, List.length_replicate, List.length_append, Nat.le_refl, Nat.le_add_right, Nat.add_assoc, List.append_assoc, or_true, true_or, or_false, false_or, and_false, false_and, exists_eq_left, exists_eq_left', Option.some.injEq, DV.int.injEq, DV.bool.injEq, DV.sl.injEq, DV.own.injEq, DV.tup.injEq, List.cons.injEq, Ob.arr.injEq, Ob.box.injEq, Option.map_map, Int.toNat_natCast, Int.toNat_zero, Nat.reducePow, Int.toNat_one, Int.reduceMul, Nat.mul_one, Nat.zero_add, Nat.add_zero, Function.comp_apply, List.map_append, List.map_replicate, Int.cast_ofNat_Int, Nat.left_eq_add, Nat.add_eq_left, Nat.add_left_cancel_iff]
    have hl4 := sbytesF_len (l.take i)
    have htl : (l.take i).length = i := by rw [List.length_take]; omega
    rw [htl] at hl4
    refine ⟨fun h => ?_, fun h => ?_⟩
    · have h0 : i < l.length := by omega
      have hsz : sz_l = 1 := hs_l.resolve_right fun e => by simp [e] at h0
      have hb := getD_lt hk_l h0
      have hgd : l.getD i 0 = l[i] := by rw [List.getD_eq_getElem?_getD, List.getElem?_eq_getElem h0]; rfl
      have e : sbytesF (l.take (i + 1)) = sbytesF (l.take i) ++ nums (pieces69.getD ((l.getD i 0).tmod 69).toNat []) := by
        rw [List.take_succ_eq_append_getElem h0, sbytesF_snoc, hgd]
      rw [wI64 (n := l.getD i 0) (by omega) (by omega)]
      have hm17 : (l.getD i 0).tmod 69 = l.getD i 0 % 69 := Int.tmod_eq_emod_of_nonneg hb.1
      have hpl := piece69_len ((l.getD i 0).tmod 69).toNat
      rw [nums_length]
      refine ⟨⟨by omega, h, hsz⟩, h0, ⟨by omega, by omega⟩, by omega, ⟨by omega, by omega⟩, by omega, i + 1, ?_, by omega, by omega⟩
      rw [e]
      exact ⟨⟨by simp [nums_length], by rw [wI64] <;> omega⟩, rfl⟩
    · have h1 : i = l.length := by omega
      subst h1
      rw [List.take_length, List.take_length]
      exact ⟨by omega, rfl⟩
end Go.Proofs.YteemmpghpdaloaaDoor
end
section
/- A parser of a number. -/
set_option linter.unusedVariables false
set_option linter.unusedSimpArgs false
set_option maxRecDepth 10000
namespace Go.Proofs.YteemmpghpdaloaaDoor
open Go.RowKit

def T37 : FL := (43, F_place) :: T33
theorem T37_ok : FOk PG (tab T37) := FOk.cons T33_ok place_ok
theorem T37_at_place (args : List DV) : tab T37 43 args = (F_place args).map .o := nrfl _
noncomputable def rc_some7_l0 : RC := (.seq (.seq (.reg [⟨(some 19), (.mov (.t 6)), none, false⟩, ⟨(some 20), (.mov (.t 1)), none, false⟩, ⟨(some 21), (.len (.t 20)), none, false⟩, ⟨(some 22), (.bin .lss (.t 19) (.t 21)), none, false⟩, ⟨(some 23), (.mov (.t 22)), none, false⟩, ⟨(some 24), (.mov (.t 6)), (some (23, true)), false⟩, ⟨(some 25), (.bin .lss (.t 24) (.c (.int .i64 16))), (some (23, true)), false⟩, ⟨(some 26), (.pick (.t 23) (.t 25) (.c (.bool false))), none, false⟩] 0 [0, 1, 4, 5, 6, 26]) (.cond (.t 26) .skip (.ext 0))) (.seq (.blk 1 (.regD (.take ⟨(some 29), (.faddr 2 (.t 5)), none, false⟩ [] (.take ⟨(some 30), (.load false 1 (.t 29)), none, false⟩ [] (.take ⟨(some 31), (.mov (.t 1)), none, false⟩ [] (.take ⟨(some 32), (.mov (.t 6)), none, false⟩ [] (.take ⟨(some 33), (.iaddr 1 (.t 31) (.t 32)), none, false⟩ [(.t 30)] (.take ⟨(some 34), (.load false 1 (.t 33)), none, false⟩ [(.t 30)] (.op ⟨(some 35), (.call 43 [(.t 34), (.c (.int .i64 65536))]), none, false⟩ (.op ⟨(some 36), (.mkrow 1 [(.int .i64 0)] 1 [(0, (.t 35))]), none, false⟩ (.op ⟨(some 37), (.append 1 8 (.t 30) (.t 36)), none, false⟩ (.take ⟨(some 38), (.faddr 2 (.t 5)), none, false⟩ [] (.op ⟨none, (.store 1 (.t 38) (.t 37)), none, false⟩ .done))))))))))) 0 [0, 1, 4, 5, 6])) (.reg [⟨(some 27), (.mov (.t 6)), none, false⟩, ⟨(some 28), (.bin .add (.t 27) (.c (.int .i64 1))), none, false⟩, ⟨(some 6), (.mov (.t 28)), none, false⟩] 0 [0, 1, 4, 5, 6])))
noncomputable def rc_some7 : RFn := ⟨2, 84, (.seq (.reg [⟨(some 4), (.alloc [(.int .i64 0), (.int .u8 0), (.sl 0 [] .nil), (.sl 0 [] .nil), (.sl 0 [] .nil)]), none, false⟩] 0 [0, 1, 4]) (.seq (.reg [⟨(some 7), (.mov (.t 0)), none, false⟩, ⟨(some 8), (.bin .rem (.t 7) (.c (.int .u8 8))), none, false⟩, ⟨(some 9), (.conv (.i2i .i64) (.t 8)), none, false⟩, ⟨(some 10), (.build [(.int .i64 0), (.int .u8 0), (.sl 0 [] .nil), (.sl 0 [] .nil), (.sl 0 [] .nil)] [(0, (1, (.t 9)))]), none, false⟩, ⟨(some 5), (.alloc [(.int .i64 0), (.int .u8 0), (.sl 0 [] .nil), (.sl 0 [] .nil), (.sl 0 [] .nil)]), none, false⟩, ⟨none, (.store 5 (.t 5) (.t 10)), none, false⟩] 0 [0, 1, 4, 5]) (.seq (.seq (.reg [⟨(some 11), (.faddr 0 (.t 5)), none, false⟩, ⟨(some 12), (.load false 1 (.t 11)), none, false⟩, ⟨(some 13), (.bin .eql (.t 12) (.c (.int .i64 4))), none, false⟩, ⟨(some 14), (.mov (.t 13)), none, false⟩, ⟨(some 15), (.faddr 0 (.t 5)), (some (14, false)), false⟩, ⟨(some 16), (.load false 1 (.t 15)), (some (14, false)), false⟩, ⟨(some 17), (.bin .eql (.t 16) (.c (.int .i64 5))), (some (14, false)), false⟩, ⟨(some 18), (.pick (.t 14) (.c (.bool true)) (.t 17)), none, false⟩] 0 [0, 1, 4, 5, 18]) (.cond (.t 18) (.seq (.seq (.reg [⟨(some 6), (.mov (.c (.int .i64 0))), none, false⟩] 0 [0, 1, 4, 5, 6]) (.blk 0 (.loop rc_some7_l0))) (.seq (.reg [⟨(some 39), (.mov (.t 0)), none, false⟩, ⟨(some 40), (.bin .geq (.t 39) (.c (.int .u8 128))), none, false⟩] 0 [0, 4, 5, 40]) (.cond (.t 40) (.reg [⟨(some 41), (.mov (.t 0)), none, false⟩, ⟨(some 42), (.bin .quo (.t 41) (.c (.int .u8 8))), none, false⟩, ⟨(some 43), (.bin .rem (.t 42) (.c (.int .u8 4))), none, false⟩, ⟨(some 44), (.bin .add (.c (.int .u8 60)) (.t 43)), none, false⟩, ⟨(some 45), (.faddr 1 (.t 5)), none, false⟩, ⟨none, (.store 1 (.t 45) (.t 44)), none, false⟩] 0 [0, 4, 5]) .skip))) .skip)) (.seq (.seq (.reg [⟨(some 46), (.faddr 0 (.t 5)), none, false⟩, ⟨(some 47), (.load false 1 (.t 46)), none, false⟩, ⟨(some 48), (.bin .eql (.t 47) (.c (.int .i64 2))), none, false⟩, ⟨(some 49), (.mov (.t 48)), none, false⟩, ⟨(some 50), (.faddr 0 (.t 5)), (some (49, false)), false⟩, ⟨(some 51), (.load false 1 (.t 50)), (some (49, false)), false⟩, ⟨(some 52), (.bin .eql (.t 51) (.c (.int .i64 5))), (some (49, false)), false⟩, ⟨(some 53), (.pick (.t 49) (.c (.bool true)) (.t 52)), none, false⟩] 0 [0, 4, 5, 53]) (.cond (.t 53) (.reg [⟨(some 54), (.mov (.t 0)), none, false⟩, ⟨(some 55), (.bin .quo (.t 54) (.c (.int .u8 8))), none, false⟩, ⟨(some 56), (.bin .rem (.t 55) (.c (.int .u8 16))), none, false⟩, ⟨(some 57), (.bin .add (.c (.int .u8 32)) (.t 56)), none, false⟩, ⟨(some 58), (.mkrow 1 [(.int .u8 0)] 2 [(0, (.t 57)), (1, (.c (.int .u8 47)))]), none, true⟩, ⟨(some 59), (.mov (.t 0)), none, false⟩, ⟨(some 60), (.bin .quo (.t 59) (.c (.int .u8 64))), none, false⟩, ⟨(some 61), (.bin .rem (.t 60) (.c (.int .u8 2))), none, false⟩, ⟨(some 62), (.bin .add (.c (.int .u8 1)) (.t 61)), none, false⟩, ⟨(some 63), (.slice 1 (.t 58) none (some (.t 62)) none), none, false⟩, ⟨(some 64), (.faddr 3 (.t 5)), none, false⟩, ⟨none, (.store 1 (.t 64) (.t 63)), none, false⟩] 0 [0, 4, 5]) .skip)) (.seq (.seq (.reg [⟨(some 65), (.faddr 0 (.t 5)), none, false⟩, ⟨(some 66), (.load false 1 (.t 65)), none, false⟩, ⟨(some 67), (.bin .eql (.t 66) (.c (.int .i64 0))), none, false⟩, ⟨(some 68), (.mov (.t 67)), none, false⟩, ⟨(some 69), (.mov (.t 0)), (some (68, true)), false⟩, ⟨(some 70), (.bin .geq (.t 69) (.c (.int .u8 128))), (some (68, true)), false⟩, ⟨(some 71), (.pick (.t 68) (.t 70) (.c (.bool false))), none, false⟩] 0 [0, 4, 5, 71]) (.cond (.t 71) (.reg [⟨(some 72), (.mkrow 1 [(.int .u8 0)] 1 [(0, (.c (.int .u8 195)))]), none, true⟩, ⟨(some 73), (.mkrow 1 [(.int .u8 0)] 1 [(0, (.c (.int .u8 230)))]), none, true⟩, ⟨(some 74), (.mkrow 1 [(.int .u8 0)] 2 [(0, (.c (.int .u8 230))), (1, (.c (.int .u8 188)))]), none, true⟩, ⟨(some 75), (.mkrow 1 [(.int .u8 0)] 3 [(0, (.c (.int .u8 240))), (1, (.c (.int .u8 159))), (2, (.c (.int .u8 152)))]), none, true⟩, ⟨(some 76), (.mkrow 1 [(.sl 0 [] .nil)] 4 [(0, (.t 72)), (1, (.t 73)), (2, (.t 74)), (3, (.t 75))]), none, true⟩, ⟨(some 77), (.mov (.t 0)), none, false⟩, ⟨(some 78), (.bin .quo (.t 77) (.c (.int .u8 8))), none, false⟩, ⟨(some 79), (.bin .rem (.t 78) (.c (.int .u8 4))), none, false⟩, ⟨(some 80), (.iaddr 1 (.t 76) (.t 79)), none, false⟩, ⟨(some 81), (.load false 1 (.t 80)), none, false⟩, ⟨(some 82), (.faddr 4 (.t 5)), none, false⟩, ⟨none, (.store 1 (.t 82) (.t 81)), none, false⟩] 0 [4, 5]) .skip)) (.seq (.reg [⟨(some 83), (.load true 5 (.t 5)), none, false⟩, ⟨none, (.store 5 (.t 4) (.t 83)), none, false⟩] 0 [4]) .ret)))))), [(.c 4 true 5)]⟩
theorem rc_some7_ok : compFn PG.P [⟨0, 0, [0, 1, 4], []⟩, ⟨1, 0, [0, 1, 4, 5], []⟩, ⟨2, 0, [0, 1, 4, 5, 18], []⟩, ⟨3, 0, [0, 1, 4, 5, 6], []⟩, ⟨4, 0, [0, 1, 4, 5, 6, 26], []⟩, ⟨5, 0, [0, 1, 4, 5, 6], []⟩, ⟨6, 0, [0, 1, 4, 5, 6], []⟩, ⟨7, 0, [0, 4, 5, 40], []⟩, ⟨8, 0, [0, 4, 5], []⟩, ⟨9, 0, [0, 4, 5, 53], []⟩, ⟨10, 0, [0, 4, 5], [58]⟩, ⟨11, 0, [0, 4, 5, 71], []⟩, ⟨12, 0, [4, 5], [72, 73, 74, 75, 76]⟩, ⟨13, 0, [4], []⟩] 28 = some rc_some7 := by kernel_rfl
def smP (l : List Int) : List Int := (l.take 16).map fun x => x % 65536
def smI (k : Int) : List Int := [32 + k / 8 % 16, 47].take (1 + k / 64 % 2).toNat
def smUL : List (List Int) := [[195], [230], [230, 188], [240, 159, 152]]
def smU (k : Int) : List Int := smUL.getD (k / 8 % 4).toNat []
theorem smU_rows : [[DV.sl 1 (intRows .u8 [195]) .any], [.sl 1 (intRows .u8 [230]) .any], [.sl 1 (intRows .u8 [230, 188]) .any], [.sl 1 (intRows .u8 [240, 159, 152]) .any]] = slRows .u8 smUL := rfl
theorem smU_take : List.take 4 (slRows .u8 smUL) = slRows .u8 smUL := rfl
theorem smUL_len : smUL.length = 4 := rfl
def someP (k : Int) (l : List Int) : Pa :=
  ⟨k % 8, if (k % 8 = 4 ∨ k % 8 = 5) ∧ 128 ≤ k then 60 + k / 8 % 4 else 0, if k % 8 = 4 ∨ k % 8 = 5 then smP l else [], if k % 8 = 2 ∨ k % 8 = 5 then smI k else [], if k % 8 = 0 ∧ 128 ≤ k then smU k else []⟩
set_option maxHeartbeats 4000000 in
theorem some7_P {k : Int} {sz : Nat} {kl : SK} {l : List Int} (hb : 0 ≤ k ∧ k ≤ 255) (hs : sz = 1 ∨ l = []) (hk : inK .i64 l) (hl : l.length ≤ 1000000) :
    PCalls PG 28 [.int .u8 k, .sl sz (intRows .i64 l) kl] fun n r os => r = paD (someP k l) ∧ os = [] := by
  refine PCalls.by_fnF (res := fun n => (paD (someP k l), [])) T37_ok rc_some7_ok (by simp [rc_some7]) fun n => ?_
  unfold rc_some7
  dsimp only
  have e1 : k.tmod 8 = k % 8 := Int.tmod_eq_emod_of_nonneg hb.1
  have e2 : k.tdiv 8 = k / 8 := Int.tdiv_eq_ediv_of_nonneg hb.1
  have e3 : k.tdiv 64 = k / 64 := Int.tdiv_eq_ediv_of_nonneg hb.1
  have e4 : (k / 8).tmod 4 = k / 8 % 4 := Int.tmod_eq_emod_of_nonneg (by omega)
  have e5 : (k / 64).tmod 2 = k / 64 % 2 := Int.tmod_eq_emod_of_nonneg (by omega)
  have e6 : (k / 8).tmod 16 = k / 8 % 16 := Int.tmod_eq_emod_of_nonneg (by omega)
  have w1 : IntKind.i64.wrap (k % 8) = k % 8 := wI64 (by omega) (by omega)
  have w2 : IntKind.u8.wrap (k / 8) = k / 8 := wU8 (by omega) (by omega)
  have w3 : IntKind.u8.wrap (k / 64) = k / 64 := wU8 (by omega) (by omega)
  have w4 : IntKind.u8.wrap (1 + k / 64 % 2) = 1 + k / 64 % 2 := wU8 (by omega) (by omega)
  have w5 : IntKind.u8.wrap (60 + k / 8 % 4) = 60 + k / 8 % 4 := wU8 (by omega) (by omega)
  have w6 : IntKind.u8.wrap (32 + k / 8 % 16) = 32 + k / 8 % 16 := wU8 (by omega) (by omega)
  simp -implicitDefEqProofs only [e1, e2, e3, e4, e5, e6, w1, w2, w3, w4, w5, w6, smU_take, Int.sub_zero, Nat.sub_zero, smU_rows, bindO_slRows, slRows_length, smUL_len, T37_at_place, F_place_1, ↓bindO_iteN, vcB1, vcB2, vcB3, vcA1, vcA2, vcA3, vcA4, vcA5, vcA6, vcA7, ↓vcP1, ↓vcP2, ↓reduceIte, Option.map_some, Option.map_none, Option.bind_some, Option.bind_none, if_true, if_false, reduceCtorEq, beq_true, beq_false, Bool.not_true, Bool.not_false, BEq.rfl, Bool.true_beq, Bool.false_beq, and_true, true_and, and_self, decide_true, decide_false, List.length_cons, List.length_nil, List.all_cons, List.all_nil, Bool.and_true, Bool.and_self, List.getElem?_cons_zero, List.getElem?_cons_succ, List.set_cons_zero, List.set_cons_succ, List.nil_append, List.cons_append, List.append_nil, List.map_cons, List.map_nil, not_true_eq_false, not_false_eq_true, false_implies, true_implies, implies_true, List.take_succ_cons, List.take_zero, List.take_nil, List.drop_succ_cons, List.drop_zero, List.drop_nil, Nat.reduceLT, Nat.reduceLeDiff, Nat.reduceEqDiff, Nat.reduceAdd, Nat.reduceSub, Nat.reduceMul, Int.reduceLT, Int.reduceLE, Int.reduceEq, Int.reduceToNat, Int.reduceAdd, Int.reduceSub, Int.reduceNeg, List.reduceReplicate, List.replicate_zero, List.replicate_succ, ne_eq, List.flatMap_cons, List.flatMap_nil, List.length_replicate, List.length_append, Nat.le_refl, Nat.le_add_right, Nat.add_assoc, List.append_assoc, or_true, true_or, or_false, false_or, and_false, false_and, exists_eq_left, exists_eq_left', Option.some.injEq, DV.int.injEq, DV.bool.injEq, DV.sl.injEq, DV.own.injEq, DV.tup.injEq, List.cons.injEq, Ob.arr.injEq, Ob.box.injEq, Option.map_map, Int.toNat_natCast, Int.toNat_zero, Nat.reducePow, Int.toNat_one, Int.reduceMul, Nat.mul_one, Nat.zero_add, Nat.add_zero, Function.comp_apply, List.map_append, List.map_replicate, Int.cast_ofNat_Int, Nat.left_eq_add, Nat.add_eq_left, Nat.add_left_cancel_iff]
  generalize hG : LoopWp PG 84 rc_some7_l0 _ _ = G
  have hGt : (k % 8 = 4 ∨ k % 8 = 5) → G := fun hm => by
    rw [← hG]; clear hG
    refine LoopWp.invR T37_ok (S := fun q (i : Nat) => match i with
      | 0 => ⟨[(0, .int .u8 k), (1, .sl sz (intRows .i64 l) kl), (4, .ptr q 0 0), (5, .ptr (q + 1) 0 0), (6, .int .i64 0)], List.replicate q none ++ [some (.box [.int .i64 0, .int .u8 0, .sl 0 [] .nil, .sl 0 [] .nil, .sl 0 [] .nil]), some (.box [.int .i64 (k % 8), .int .u8 0, .sl 0 [] .nil, .sl 0 [] .nil, .sl 0 [] .nil])]⟩
      | i + 1 => ⟨[(0, .int .u8 k), (1, .sl sz (intRows .i64 l) kl), (4, .ptr q 0 0), (5, .ptr (q + 1) 0 0), (6, .int .i64 (i + 1 : Nat))], List.replicate q none ++ [some (.box [.int .i64 0, .int .u8 0, .sl 0 [] .nil, .sl 0 [] .nil, .sl 0 [] .nil]), some (.box [.int .i64 (k % 8), .int .u8 0, .own (q + 2) 0 (i + 1), .sl 0 [] .nil, .sl 0 [] .nil]), some (.arr 1 (intRows .i64 ((l.take (i + 1)).map fun x => x % 65536)))]⟩)
      (I := fun i => i ≤ l.length ∧ i ≤ 16) (μ := fun i => l.length - i) n 0 (by omega) ?_ ?_
    · simp -implicitDefEqProofs only [vcB1, vcB2, vcB3, vcA1, vcA2, vcA3, vcA4, vcA5, vcA6, vcA7, ↓vcP1, ↓vcP2, ↓reduceIte, Option.map_some, Option.map_none, Option.bind_some, Option.bind_none, if_true, if_false, reduceCtorEq, beq_true, beq_false, Bool.not_true, Bool.not_false, BEq.rfl, Bool.true_beq, Bool.false_beq, and_true, true_and, and_self, decide_true, decide_false, List.length_cons, List.length_nil, List.all_cons, List.all_nil, Bool.and_true, Bool.and_self, List.getElem?_cons_zero, List.getElem?_cons_succ, List.set_cons_zero, List.set_cons_succ, List.nil_append, List.cons_append, List.append_nil, List.map_cons, List.map_nil, not_true_eq_false, not_false_eq_true, false_implies, true_implies, implies_true, List.take_succ_cons, List.take_zero, List.take_nil, List.drop_succ_cons, List.drop_zero, List.drop_nil, Nat.reduceLT, Nat.reduceLeDiff, Nat.reduceEqDiff, Nat.reduceAdd, Nat.reduceSub, Nat.reduceMul, Int.reduceLT, Int.reduceLE, Int.reduceEq, Int.reduceToNat, Int.reduceAdd, Int.reduceSub, Int.reduceNeg, List.reduceReplicate, List.replicate_zero, List.replicate_succ, ne_eq, List.flatMap_cons, List.flatMap_nil, List.length_replicate, List.length_append, Nat.le_refl, Nat.le_add_right, Nat.add_assoc, List.append_assoc, or_true, true_or, or_false, false_or, and_false, false_and, exists_eq_left, exists_eq_left', Option.some.injEq, DV.int.injEq, DV.bool.injEq, DV.sl.injEq, DV.own.injEq, DV.tup.injEq, List.cons.injEq, Ob.arr.injEq, Ob.box.injEq, Option.map_map, Int.toNat_natCast, Int.toNat_zero, Nat.reducePow, Int.toNat_one, Int.reduceMul, Nat.mul_one, Nat.zero_add, Nat.add_zero, Function.comp_apply, List.map_append, List.map_replicate, Int.cast_ofNat_Int, Nat.left_eq_add, Nat.add_eq_left, Nat.add_left_cancel_iff]
    · intro q i hq hi
      unfold rc_some7_l0
      rcases i with _ | i
      · dsimp only
        simp -implicitDefEqProofs only [e1, e2, e3, e4, e5, e6, w1, w2, w3, w4, w5, w6, smU_take, Int.sub_zero, Nat.sub_zero, smU_rows, bindO_slRows, slRows_length, smUL_len, T37_at_place, F_place_1, ↓bindO_iteN, vcB1, vcB2, vcB3, vcA1, vcA2, vcA3, vcA4, vcA5, vcA6, vcA7, ↓vcP1, ↓vcP2, ↓reduceIte, Option.map_some, Option.map_none, Option.bind_some, Option.bind_none, if_true, if_false, reduceCtorEq, beq_true, beq_false, Bool.not_true, Bool.not_false, BEq.rfl, Bool.true_beq, Bool.false_beq, and_true, true_and, and_self, decide_true, decide_false, List.length_cons, List.length_nil, List.all_cons, List.all_nil, Bool.and_true, Bool.and_self, List.getElem?_cons_zero, List.getElem?_cons_succ, List.set_cons_zero, List.set_cons_succ, List.nil_append, List.cons_append, List.append_nil, List.map_cons, List.map_nil, not_true_eq_false, not_false_eq_true, false_implies, true_implies, implies_true, List.take_succ_cons, List.take_zero, List.take_nil, List.drop_succ_cons, List.drop_zero, List.drop_nil, Nat.reduceLT, Nat.reduceLeDiff, Nat.reduceEqDiff, Nat.reduceAdd, Nat.reduceSub, Nat.reduceMul, Int.reduceLT, Int.reduceLE, Int.reduceEq, Int.reduceToNat, Int.reduceAdd, Int.reduceSub, Int.reduceNeg, List.reduceReplicate, List.replicate_zero, List.replicate_succ, ne_eq, List.flatMap_cons, List.flatMap_nil, List.length_replicate, List.length_append, Nat.le_refl, Nat.le_add_right, Nat.add_assoc, List.append_assoc, or_true, true_or, or_false, false_or, and_false, false_and, exists_eq_left, exists_eq_left', Option.some.injEq, DV.int.injEq, DV.bool.injEq, DV.sl.injEq, DV.own.injEq, DV.tup.injEq, List.cons.injEq, Ob.arr.injEq, Ob.box.injEq, Option.map_map, Int.toNat_natCast, Int.toNat_zero, Nat.reducePow, Int.toNat_one, Int.reduceMul, Nat.mul_one, Nat.zero_add, Nat.add_zero, Function.comp_apply, List.map_append, List.map_replicate, Int.cast_ofNat_Int, Nat.left_eq_add, Nat.add_eq_left, Nat.add_left_cancel_iff]
        refine ⟨fun h => ?_, fun h => ?_⟩
        · have hsz : sz = 1 := by rcases hs with h1 | h1; exact h1; subst h1; simp at h
          have hx : -9223372036854775808 ≤ l.getD 0 0 ∧ l.getD 0 0 ≤ 9223372036854775807 := hk.i64 (getD_mem (by omega))
          refine ⟨⟨h, hsz⟩, by omega, hx, by omega, 1, ?_, by omega, by omega⟩
          dsimp only
          simp -implicitDefEqProofs only [vcB1, vcB2, vcB3, vcA1, vcA2, vcA3, vcA4, vcA5, vcA6, vcA7, ↓vcP1, ↓vcP2, ↓reduceIte, Option.map_some, Option.map_none, Option.bind_some, Option.bind_none, if_true, if_false, reduceCtorEq, beq_true, beq_false, Bool.not_true, Bool.not_false, BEq.rfl, Bool.true_beq, Bool.false_beq, and_true, true_and, and_self, decide_true, decide_false, List.length_cons, List.length_nil, List.all_cons, List.all_nil, Bool.and_true, Bool.and_self, List.getElem?_cons_zero, List.getElem?_cons_succ, List.set_cons_zero, List.set_cons_succ, List.nil_append, List.cons_append, List.append_nil, List.map_cons, List.map_nil, not_true_eq_false, not_false_eq_true, false_implies, true_implies, implies_true, List.take_succ_cons, List.take_zero, List.take_nil, List.drop_succ_cons, List.drop_zero, List.drop_nil, Nat.reduceLT, Nat.reduceLeDiff, Nat.reduceEqDiff, Nat.reduceAdd, Nat.reduceSub, Nat.reduceMul, Int.reduceLT, Int.reduceLE, Int.reduceEq, Int.reduceToNat, Int.reduceAdd, Int.reduceSub, Int.reduceNeg, List.reduceReplicate, List.replicate_zero, List.replicate_succ, ne_eq, List.flatMap_cons, List.flatMap_nil, List.length_replicate, List.length_append, Nat.le_refl, Nat.le_add_right, Nat.add_assoc, List.append_assoc, or_true, true_or, or_false, false_or, and_false, false_and, exists_eq_left, exists_eq_left', Option.some.injEq, DV.int.injEq, DV.bool.injEq, DV.sl.injEq, DV.own.injEq, DV.tup.injEq, List.cons.injEq, Ob.arr.injEq, Ob.box.injEq, Option.map_map, Int.toNat_natCast, Int.toNat_zero, Nat.reducePow, Int.toNat_one, Int.reduceMul, Nat.mul_one, Nat.zero_add, Nat.add_zero, Function.comp_apply, List.map_append, List.map_replicate, Int.cast_ofNat_Int, Nat.left_eq_add, Nat.add_eq_left, Nat.add_left_cancel_iff]
          refine ⟨by decide, ?_⟩
          rcases l with _ | ⟨x, l⟩
          · simp at h
          · rfl
        have hsm : smP l = [] := by
          have : l = [] := List.eq_nil_of_length_eq_zero (by omega)
          rw [this]; rfl
        all_goals (repeat' (first | intro _ | (with_reducible apply And.intro)))
        all_goals first
          | omega
          | (exfalso; omega)
          | (dsimp only [someP, paD]; (repeat (first | rw [if_pos (by first | omega | assumption | exact Or.inl (by assumption) | exact Or.inr (by assumption))] | rw [if_neg (by first | omega | exact Bool.eq_false_iff.1 (by assumption) | exact Bool.eq_true_imp_not_false (by assumption) | assumption)])); simp [smI, smU, hsm, wkT, wkA, wkL, wk0, intRows_nil]; done)
      · dsimp only
        have hL : ((l.take (i + 1)).map fun x => x % 65536).length = i + 1 := by rw [List.length_map, List.length_take]; omega
        simp -implicitDefEqProofs only [hL, e1, e2, e3, e4, e5, e6, w1, w2, w3, w4, w5, w6, smU_take, Int.sub_zero, Nat.sub_zero, smU_rows, bindO_slRows, slRows_length, smUL_len, T37_at_place, F_place_1, ↓bindO_iteN, vcB1, vcB2, vcB3, vcA1, vcA2, vcA3, vcA4, vcA5, vcA6, vcA7, ↓vcP1, ↓vcP2, ↓reduceIte, Option.map_some, Option.map_none, Option.bind_some, Option.bind_none, if_true, if_false, reduceCtorEq, beq_true, beq_false, Bool.not_true, Bool.not_false, BEq.rfl, Bool.true_beq, Bool.false_beq, and_true, true_and, and_self, decide_true, decide_false, List.length_cons, List.length_nil, List.all_cons, List.all_nil, Bool.and_true, Bool.and_self, List.getElem?_cons_zero, List.getElem?_cons_succ, List.set_cons_zero, List.set_cons_succ, List.nil_append, List.cons_append, List.append_nil, List.map_cons, List.map_nil, not_true_eq_false, not_false_eq_true, false_implies, true_implies, implies_true, List.take_succ_cons, List.take_zero, List.take_nil, List.drop_succ_cons, List.drop_zero, List.drop_nil, Nat.reduceLT, Nat.reduceLeDiff, Nat.reduceEqDiff, Nat.reduceAdd, Nat.reduceSub, Nat.reduceMul, Int.reduceLT, Int.reduceLE, Int.reduceEq, Int.reduceToNat, Int.reduceAdd, Int.reduceSub, Int.reduceNeg, List.reduceReplicate, List.replicate_zero, List.replicate_succ, ne_eq, List.flatMap_cons, List.flatMap_nil, List.length_replicate, List.length_append, Nat.le_refl, Nat.le_add_right, Nat.add_assoc, List.append_assoc, or_true, true_or, or_false, false_or, and_false, false_and, exists_eq_left, exists_eq_left', Option.some.injEq, DV.int.injEq, DV.bool.injEq, DV.sl.injEq, DV.own.injEq, DV.tup.injEq, List.cons.injEq, Ob.arr.injEq, Ob.box.injEq, Option.map_map, Int.toNat_natCast, Int.toNat_zero, Nat.reducePow, Int.toNat_one, Int.reduceMul, Nat.mul_one, Nat.zero_add, Nat.add_zero, Function.comp_apply, List.map_append, List.map_replicate, Int.cast_ofNat_Int, Nat.left_eq_add, Nat.add_eq_left, Nat.add_left_cancel_iff]
        have ht : List.take (i + 1) ((l.take (i + 1)).map fun x => x % 65536) = (l.take (i + 1)).map fun x => x % 65536 := List.take_of_length_le (by omega)
        simp only [ht]
        refine ⟨fun h => ⟨fun h2 => ?_, fun h2 => ?_⟩, fun h => ?_⟩
        · have h0 : i + 1 < l.length := by omega
          have hsz : sz = 1 := by rcases hs with h1 | h1; exact h1; subst h1; simp at h0
          have hx : -9223372036854775808 ≤ l.getD (i + 1) 0 ∧ l.getD (i + 1) 0 ≤ 9223372036854775807 := hk.i64 (getD_mem h0)
          have hgd : l.getD (i + 1) 0 = l[i + 1] := by rw [List.getD_eq_getElem?_getD, List.getElem?_eq_getElem h0]; rfl
          refine ⟨⟨by omega, h, hsz⟩, by omega, hx, ⟨by omega, by omega⟩, by omega, i + 2, ?_, by omega, by omega⟩
          dsimp only
          simp -implicitDefEqProofs only [vcB1, vcB2, vcB3, vcA1, vcA2, vcA3, vcA4, vcA5, vcA6, vcA7, ↓vcP1, ↓vcP2, ↓reduceIte, Option.map_some, Option.map_none, Option.bind_some, Option.bind_none, if_true, if_false, reduceCtorEq, beq_true, beq_false, Bool.not_true, Bool.not_false, BEq.rfl, Bool.true_beq, Bool.false_beq, and_true, true_and, and_self, decide_true, decide_false, List.length_cons, List.length_nil, List.all_cons, List.all_nil, Bool.and_true, Bool.and_self, List.getElem?_cons_zero, List.getElem?_cons_succ, List.set_cons_zero, List.set_cons_succ, List.nil_append, List.cons_append, List.append_nil, List.map_cons, List.map_nil, not_true_eq_false, not_false_eq_true, false_implies, true_implies, implies_true, List.take_succ_cons, List.take_zero, List.take_nil, List.drop_succ_cons, List.drop_zero, List.drop_nil, Nat.reduceLT, Nat.reduceLeDiff, Nat.reduceEqDiff, Nat.reduceAdd, Nat.reduceSub, Nat.reduceMul, Int.reduceLT, Int.reduceLE, Int.reduceEq, Int.reduceToNat, Int.reduceAdd, Int.reduceSub, Int.reduceNeg, List.reduceReplicate, List.replicate_zero, List.replicate_succ, ne_eq, List.flatMap_cons, List.flatMap_nil, List.length_replicate, List.length_append, Nat.le_refl, Nat.le_add_right, Nat.add_assoc, List.append_assoc, or_true, true_or, or_false, false_or, and_false, false_and, exists_eq_left, exists_eq_left', Option.some.injEq, DV.int.injEq, DV.bool.injEq, DV.sl.injEq, DV.own.injEq, DV.tup.injEq, List.cons.injEq, Ob.arr.injEq, Ob.box.injEq, Option.map_map, Int.toNat_natCast, Int.toNat_zero, Nat.reducePow, Int.toNat_one, Int.reduceMul, Nat.mul_one, Nat.zero_add, Nat.add_zero, Function.comp_apply, List.map_append, List.map_replicate, Int.cast_ofNat_Int, Nat.left_eq_add, Nat.add_eq_left, Nat.add_left_cancel_iff]
          rw [show l.take (i + 2) = l.take (i + 1) ++ [l[i + 1]] from List.take_succ_eq_append_getElem h0, List.map_append, hgd]
          exact ⟨by rw [wI64] <;> omega, rfl⟩
        · have hsm : smP l = (l.take (i + 1)).map (fun x => x % 65536) := by
            have : i + 1 = 16 := by omega
            unfold smP; rw [this]
          all_goals (repeat' (first | intro _ | (with_reducible apply And.intro)))
          all_goals first
            | omega
            | (exfalso; omega)
            | (dsimp only [someP, paD]; (repeat (first | rw [if_pos (by first | omega | assumption | exact Or.inl (by assumption) | exact Or.inr (by assumption))] | rw [if_neg (by first | omega | exact Bool.eq_false_iff.1 (by assumption) | exact Bool.eq_true_imp_not_false (by assumption) | assumption)])); simp [smI, smU, hsm, wkT, wkA, wkL, wk0, intRows_nil]; done)
        · have hsm : smP l = (l.take (i + 1)).map (fun x => x % 65536) := by
            unfold smP; rw [List.take_of_length_le (show l.length ≤ 16 by omega), List.take_of_length_le (show l.length ≤ i + 1 by omega)]
          all_goals (repeat' (first | intro _ | (with_reducible apply And.intro)))
          all_goals first
            | omega
            | (exfalso; omega)
            | (dsimp only [someP, paD]; (repeat (first | rw [if_pos (by first | omega | assumption | exact Or.inl (by assumption) | exact Or.inr (by assumption))] | rw [if_neg (by first | omega | exact Bool.eq_false_iff.1 (by assumption) | exact Bool.eq_true_imp_not_false (by assumption) | assumption)])); simp [smI, smU, hsm, wkT, wkA, wkL, wk0, intRows_nil]; done)
  clear hG
  (repeat' (first | intro _ | (with_reducible apply And.intro)))
  all_goals first
    | exact hGt (by omega)
    | omega
    | (exfalso; omega)
    | (dsimp only [someP, paD]; (repeat (first | rw [if_pos (by first | omega | assumption | exact Or.inl (by assumption) | exact Or.inr (by assumption))] | rw [if_neg (by first | omega | exact Bool.eq_false_iff.1 (by assumption) | exact Bool.eq_true_imp_not_false (by assumption) | assumption)])); simp [smI, smU, wkT, wkA, wkL, wk0, intRows_nil]; done)
end Go.Proofs.YteemmpghpdaloaaDoor
end
section
/- What is known of the functions of chapter 7, in one table. -/
set_option linter.unusedVariables false
set_option linter.unusedSimpArgs false
set_option maxRecDepth 10000
namespace Go.Proofs.YteemmpghpdaloaaDoor
open Go.RowKit

theorem pcalls_pa {f : Nat} {m pr : Int} {p i u : DV} {rest : List DV} {R : Nat → DV → Objs → Prop} (h1 : isInts .i64 p) (h2 : isInts .u8 i) (h3 : isInts .u8 u) (h : PCalls PG f (paD ⟨m, pr, intsD p, intsD i, intsD u⟩ :: rest) R) : PCalls PG f (.agg [.int .i64 m, .int .u8 pr, p, i, u] :: rest) R :=
  h.wk ⟨⟨rfl, rfl, wk0_of (isInts_wk h1) h1, wk0_of (isInts_wk h2) h2, wk0_of (isInts_wk h3) h3, trivial⟩, wkL_refl wkT_refl _⟩
def F_vall : List DV → Option FSpec
  | [.agg [.int .i64 m, .int .u8 pr, p, i, u], .sl sz rows k] => some ⟨isInts .i64 p ∧ isInts .u8 i ∧ isInts .u8 u ∧ paOk ⟨m, pr, intsD p, intsD i, intsD u⟩ ∧ isInts .u8 (.sl sz rows k) ∧ rows.length ≤ 1000000, fun n => (paR (vallF ⟨m, pr, intsD p, intsD i, intsD u⟩ [] (ints rows)), [])⟩
  | _ => none
theorem F_vall_1 (m pr : Int) (p i u : DV) (sz : Nat) (rows : List (List DV)) (k : SK) : F_vall [.agg [.int .i64 m, .int .u8 pr, p, i, u], .sl sz rows k] = some ⟨isInts .i64 p ∧ isInts .u8 i ∧ isInts .u8 u ∧ paOk ⟨m, pr, intsD p, intsD i, intsD u⟩ ∧ isInts .u8 (.sl sz rows k) ∧ rows.length ≤ 1000000, fun n => (paR (vallF ⟨m, pr, intsD p, intsD i, intsD u⟩ [] (ints rows)), [])⟩ := nrfl _
theorem fvall_ok (args : List DV) (s : FSpec) (hs : F_vall args = some s) (hp : s.pre) : PCalls PG 34 args fun n r os => r = (s.res n).1 ∧ os = (s.res n).2 := by
  unfold F_vall at hs
  split at hs
  · rename_i m pr p i u sz rows k
    obtain rfl := Option.some.inj hs
    obtain ⟨h1, h2, h3, h4, h5, h6⟩ := hp
    obtain ⟨s0, k0, e0, g1, g2⟩ := isInts_inv h5
    have e1 : intsD (.sl sz rows k) = ints rows := nrfl _
    rw [e1] at e0 g1 g2
    have hl : (ints rows).length ≤ 1000000 := by simpa [ints] using h6
    have := vall_P (k := k0) h1 h2 h3 h4 g1 g2 hl
    rw [← e0] at this
    exact this
  · cases hs
def F_vRight : List DV → Option FSpec
  | [.agg [.int .i64 m, .int .u8 pr, p, i, u]] => some ⟨isInts .i64 p ∧ isInts .u8 i ∧ isInts .u8 u ∧ ((intsD p).length ≤ 1000 ∧ (intsD i).length ≤ 1000 ∧ (intsD u).length ≤ 1000), fun n => (.bool (prightF ⟨m, pr, intsD p, intsD i, intsD u⟩), [])⟩
  | _ => none
theorem F_vRight_1 (m pr : Int) (p i u : DV) : F_vRight [.agg [.int .i64 m, .int .u8 pr, p, i, u]] = some ⟨isInts .i64 p ∧ isInts .u8 i ∧ isInts .u8 u ∧ ((intsD p).length ≤ 1000 ∧ (intsD i).length ≤ 1000 ∧ (intsD u).length ≤ 1000), fun n => (.bool (prightF ⟨m, pr, intsD p, intsD i, intsD u⟩), [])⟩ := nrfl _
theorem right_ok {f : Nat} (h : ∀ {p : Pa}, inK .i64 p.P → inK .u8 p.I → inK .u8 p.U → (p.P.length ≤ 1000 ∧ p.I.length ≤ 1000 ∧ p.U.length ≤ 1000) → PCalls PG f [paD p] fun n r os => r = .bool (prightF p) ∧ os = []) (args : List DV) (s : FSpec) (hs : F_vRight args = some s) (hp : s.pre) : PCalls PG f args fun n r os => r = (s.res n).1 ∧ os = (s.res n).2 := by
  unfold F_vRight at hs
  split at hs
  · obtain rfl := Option.some.inj hs
    obtain ⟨h1, h2, h3, h4⟩ := hp
    obtain ⟨_, _, _, _, k1⟩ := isInts_inv h1
    obtain ⟨_, _, _, _, k2⟩ := isInts_inv h2
    obtain ⟨_, _, _, _, k3⟩ := isInts_inv h3
    exact pcalls_pa h1 h2 h3 (h k1 k2 k3 h4)
  · cases hs
def F_sBytes : List DV → Option FSpec
  | [a] => some ⟨isInts .u8 a ∧ (intsD a).length ≤ 1000000, fun n => (.sl 1 (intRows .u8 (sbytesF (intsD a))) .any, [])⟩
  | _ => none
theorem F_sBytes_1 (a : DV) : F_sBytes [a] = some ⟨isInts .u8 a ∧ (intsD a).length ≤ 1000000, fun n => (.sl 1 (intRows .u8 (sbytesF (intsD a))) .any, [])⟩ := nrfl _
theorem sBytes_ok (args : List DV) (s : FSpec) (hs : F_sBytes args = some s) (hp : s.pre) : PCalls PG 29 args fun n r os => r = (s.res n).1 ∧ os = (s.res n).2 := by
  unfold F_sBytes at hs
  split at hs
  · obtain rfl := Option.some.inj hs
    obtain ⟨h1, h2⟩ := hp
    obtain ⟨s0, k0, e0, g1, g2⟩ := isInts_inv h1
    have := sBytes_P (k_l := k0) g1 g2 h2
    rw [← e0] at this
    exact this
  · cases hs
def F_some7 : List DV → Option FSpec
  | [.int .u8 k, a] => some ⟨(0 ≤ k ∧ k ≤ 255) ∧ isInts .i64 a ∧ (intsD a).length ≤ 1000000, fun n => (paD (someP k (intsD a)), [])⟩
  | _ => none
theorem F_some7_1 (k : Int) (a : DV) : F_some7 [.int .u8 k, a] = some ⟨(0 ≤ k ∧ k ≤ 255) ∧ isInts .i64 a ∧ (intsD a).length ≤ 1000000, fun n => (paD (someP k (intsD a)), [])⟩ := nrfl _
theorem fsome7_ok (args : List DV) (s : FSpec) (hs : F_some7 args = some s) (hp : s.pre) : PCalls PG 28 args fun n r os => r = (s.res n).1 ∧ os = (s.res n).2 := by
  unfold F_some7 at hs
  split at hs
  · obtain rfl := Option.some.inj hs
    obtain ⟨h0, h1, h2⟩ := hp
    obtain ⟨s0, k0, e0, g1, g2⟩ := isInts_inv h1
    have := some7_P (kl := k0) h0 g1 g2 h2
    rw [← e0] at this
    exact this
  · cases hs
def F_rStep7 := F_pb rstepF qP
theorem rStep7_ok (args : List DV) (s : FSpec) (hs : F_rStep7 args = some s) (hp : s.pre) : PCalls PG 31 args fun n r os => r = (s.res n).1 ∧ os = (s.res n).2 :=
  pb_ok (g := rstepF) (q := qP) (fun p b h => rStep7_P h.1 h.2) args s hs hp
def T38a : FL := (32, F_rsame) :: (33, F_hActs) :: (34, F_vall) :: (26, F_vRight) :: (27, F_vRight) :: (29, F_sBytes) :: (28, F_some7) :: (31, F_rStep7) :: T37
theorem T38a_ok : FOk PG (tab T38a) := FOk.cons (FOk.cons (FOk.cons (FOk.cons (FOk.cons (FOk.cons (FOk.cons (FOk.cons T37_ok rStep7_ok) fsome7_ok) sBytes_ok) (right_ok fun h1 h2 h3 h4 => rRight_P h1 h2 h3 h4)) (right_ok fun h1 h2 h3 h4 => vRight_P h1 h2 h3 h4)) fvall_ok) hActs_ok) rsame_ok
theorem T38a_at_all (args : List DV) : tab T38a 34 args = (F_vall args).map .o := nrfl _
theorem T38a_at_right (args : List DV) : tab T38a 26 args = (F_vRight args).map .o := nrfl _
noncomputable def rc_known7 : RFn := ⟨0, 65, (.seq (.reg [⟨(some 0), (.mov (.c (.bool false))), none, false⟩] 0 []) (.seq (.reg [⟨(some 4), (.build [(.int .i64 0), (.int .u8 0), (.sl 0 [] .nil), (.sl 0 [] .nil), (.sl 0 [] .nil)] []), none, false⟩, ⟨(some 5), (.mkrow 1 [(.int .u8 0)] 10 [(0, (.c (.int .u8 27))), (1, (.c (.int .u8 91))), (2, (.c (.int .u8 49))), (3, (.c (.int .u8 59))), (4, (.c (.int .u8 51))), (5, (.c (.int .u8 49))), (6, (.c (.int .u8 109))), (7, (.c (.int .u8 195))), (8, (.c (.int .u8 169))), (9, (.c (.int .u8 27)))]), none, false⟩, ⟨(some 6), (.conv .lit (.t 5)), none, true⟩, ⟨(some 7), (.call 34 [(.t 4), (.t 6)]), none, false⟩, ⟨(some 3), (.mov (.t 7)), none, false⟩, ⟨(some 8), (.ext (.t 3) 0), none, false⟩, ⟨(some 9), (.ext (.t 3) 1), none, false⟩, ⟨(some 1), (.alloc [(.int .i64 0), (.int .u8 0), (.sl 0 [] .nil), (.sl 0 [] .nil), (.sl 0 [] .nil)]), none, false⟩, ⟨none, (.store 5 (.t 1) (.t 8)), none, false⟩, ⟨(some 2), (.mov (.t 9)), none, false⟩] 0 [1, 2]) (.seq (.reg [⟨(some 10), (.faddr 0 (.t 1)), none, false⟩, ⟨(some 11), (.load false 1 (.t 10)), none, false⟩, ⟨(some 12), (.bin .eql (.t 11) (.c (.int .i64 1))), none, false⟩, ⟨(some 13), (.mov (.t 12)), none, false⟩, ⟨(some 14), (.mov (.t 2)), (some (13, true)), false⟩, ⟨(some 15), (.len (.t 14)), (some (13, true)), false⟩, ⟨(some 16), (.bin .eql (.t 15) (.c (.int .i64 2))), (some (13, true)), false⟩, ⟨(some 17), (.pick (.t 13) (.t 16) (.c (.bool false))), none, false⟩, ⟨(some 18), (.mov (.t 17)), none, false⟩, ⟨(some 19), (.mov (.t 2)), (some (18, true)), false⟩, ⟨(some 20), (.iaddr 6 (.t 19) (.c (.int .i64 0))), (some (18, true)), false⟩, ⟨(some 21), (.faddr 0 (.t 20)), (some (18, true)), false⟩, ⟨(some 22), (.load false 1 (.t 21)), (some (18, true)), false⟩, ⟨(some 23), (.bin .eql (.t 22) (.c (.int .i64 3))), (some (18, true)), false⟩, ⟨(some 24), (.pick (.t 18) (.t 23) (.c (.bool false))), none, false⟩, ⟨(some 25), (.mov (.t 24)), none, false⟩, ⟨(some 26), (.mov (.t 2)), (some (25, true)), false⟩, ⟨(some 27), (.iaddr 6 (.t 26) (.c (.int .i64 0))), (some (25, true)), false⟩, ⟨(some 28), (.faddr 2 (.t 27)), (some (25, true)), false⟩, ⟨(some 29), (.load false 1 (.t 28)), (some (25, true)), false⟩, ⟨(some 30), (.bin .eql (.t 29) (.c (.int .u8 109))), (some (25, true)), false⟩, ⟨(some 31), (.pick (.t 25) (.t 30) (.c (.bool false))), none, false⟩, ⟨(some 32), (.mov (.t 31)), none, false⟩, ⟨(some 33), (.mov (.t 2)), (some (32, true)), false⟩, ⟨(some 34), (.iaddr 6 (.t 33) (.c (.int .i64 0))), (some (32, true)), false⟩, ⟨(some 35), (.faddr 4 (.t 34)), (some (32, true)), false⟩, ⟨(some 36), (.load false 1 (.t 35)), (some (32, true)), false⟩, ⟨(some 37), (.len (.t 36)), (some (32, true)), false⟩, ⟨(some 38), (.bin .eql (.t 37) (.c (.int .i64 2))), (some (32, true)), false⟩, ⟨(some 39), (.pick (.t 32) (.t 38) (.c (.bool false))), none, false⟩, ⟨(some 40), (.mov (.t 39)), none, false⟩, ⟨(some 41), (.mov (.t 2)), (some (40, true)), false⟩, ⟨(some 42), (.iaddr 6 (.t 41) (.c (.int .i64 0))), (some (40, true)), false⟩, ⟨(some 43), (.faddr 4 (.t 42)), (some (40, true)), false⟩, ⟨(some 44), (.load false 1 (.t 43)), (some (40, true)), false⟩, ⟨(some 45), (.iaddr 1 (.t 44) (.c (.int .i64 1))), (some (40, true)), false⟩, ⟨(some 46), (.load false 1 (.t 45)), (some (40, true)), false⟩, ⟨(some 47), (.bin .eql (.t 46) (.c (.int .i64 31))), (some (40, true)), false⟩, ⟨(some 48), (.pick (.t 40) (.t 47) (.c (.bool false))), none, false⟩, ⟨(some 49), (.mov (.t 48)), none, false⟩, ⟨(some 50), (.mov (.t 2)), (some (49, true)), false⟩, ⟨(some 51), (.iaddr 6 (.t 50) (.c (.int .i64 1))), (some (49, true)), false⟩, ⟨(some 52), (.faddr 1 (.t 51)), (some (49, true)), false⟩, ⟨(some 53), (.load false 1 (.t 52)), (some (49, true)), false⟩, ⟨(some 54), (.bin .eql (.t 53) (.c (.int .i32 233))), (some (49, true)), false⟩, ⟨(some 55), (.pick (.t 49) (.t 54) (.c (.bool false))), none, false⟩, ⟨(some 56), (.mov (.t 55)), none, false⟩, ⟨(some 57), (.load true 5 (.t 1)), (some (56, true)), false⟩, ⟨(some 58), (.call 26 [(.t 57)]), (some (56, true)), false⟩, ⟨(some 59), (.pick (.t 56) (.t 58) (.c (.bool false))), none, false⟩, ⟨(some 60), (.mov (.t 59)), none, false⟩, ⟨(some 61), (.build [(.int .i64 0), (.int .u8 0), (.sl 0 [] .nil), (.sl 0 [] .nil), (.sl 0 [] .nil)] [(0, (1, (.c (.int .i64 99))))]), (some (60, true)), false⟩, ⟨(some 62), (.call 26 [(.t 61)]), (some (60, true)), false⟩, ⟨(some 63), (.un .not (.t 62)), (some (60, true)), false⟩, ⟨(some 64), (.pick (.t 60) (.t 63) (.c (.bool false))), none, false⟩, ⟨(some 0), (.mov (.t 64)), none, false⟩] 0 [0]) .ret))), [(.t 0)]⟩
theorem rc_known7_ok : compFn PG.P [⟨0, 0, [], []⟩, ⟨1, 0, [1, 2], [6]⟩, ⟨2, 0, [0], []⟩] 25 = some rc_known7 := by kernel_rfl
theorem k7r : prightF ⟨1, 0, [], [], []⟩ = true := by decide
theorem k7r2 : prightF ⟨99, 0, [], [], []⟩ = false := by decide
theorem k7 : paR (vallF ⟨0, 0, [], [], []⟩ [] [27, 91, 49, 59, 51, 49, 109, 195, 169, 27]) = .tup [.agg [.int .i64 1, .int .u8 0, .sl 1 [] .any, .sl 1 [] .any, .sl 1 [] .any],
    .sl 6 [[.int .i64 3, .int .i32 0, .int .u8 109, .int .u8 0, .sl 1 (intRows .i64 [1, 31]) .any, .sl 1 [] .any], [.int .i64 0, .int .i32 233, .int .u8 0, .int .u8 0, .sl 0 [] .nil, .sl 0 [] .nil]] .any] := by rfl
theorem k7ok : paOk ⟨0, 0, [], [], []⟩ := ⟨inK_nil _, inK_nil _, inK_nil _, by simp, by simp, by simp, by simp⟩
theorem known7_P : PCalls PG 25 [] fun n r os => r = .bool true ∧ os = [] := by
  refine PCalls.by_fn (res := fun n => (.bool true, [])) T38a_ok rc_known7_ok (by simp [rc_known7]) fun n => ?_
  unfold rc_known7
  dsimp only
  simp -implicitDefEqProofs only [T38a_at_all, T38a_at_right, F_vall_1, F_vRight_1, isInts_sl, isInts_nil, intsD_nil, intsD_sl, ints_intRows, ints_nil, k7, k7ok, k7r, k7r2, vcB1, vcB2, vcB3, vcA1, vcA2, vcA3, vcA4, vcA5, vcA6, vcA7, ↓vcP1, ↓vcP2, ↓reduceIte, Option.map_some, Option.map_none, Option.bind_some, Option.bind_none, if_true, if_false, reduceCtorEq, beq_true, beq_false, Bool.not_true, Bool.not_false, BEq.rfl, Bool.true_beq, Bool.false_beq, and_true, true_and, and_self, decide_true, decide_false, List.length_cons, List.length_nil, List.all_cons, List.all_nil, Bool.and_true, Bool.and_self, List.getElem?_cons_zero, List.getElem?_cons_succ, List.set_cons_zero, List.set_cons_succ, List.nil_append, List.cons_append, List.append_nil, List.map_cons, List.map_nil, not_true_eq_false, not_false_eq_true, false_implies, true_implies, implies_true, List.take_succ_cons, List.take_zero, List.take_nil, List.drop_succ_cons, List.drop_zero, List.drop_nil, Nat.reduceLT, Nat.reduceLeDiff, Nat.reduceEqDiff, Nat.reduceAdd, Nat.reduceSub, Nat.reduceMul, Int.reduceLT, Int.reduceLE, Int.reduceEq, Int.reduceToNat, Int.reduceAdd, Int.reduceSub, Int.reduceNeg, List.reduceReplicate, List.replicate_zero, List.replicate_succ, ne_eq, List.flatMap_cons, List.flatMap_nil, List.length_replicate, List.length_append, Nat.le_refl, Nat.le_add_right, Nat.add_assoc, List.append_assoc, or_true, true_or, or_false, false_or, and_false, false_and, exists_eq_left, exists_eq_left', Option.some.injEq, DV.int.injEq, DV.bool.injEq, DV.sl.injEq, DV.own.injEq, DV.tup.injEq, List.cons.injEq, Ob.arr.injEq, Ob.box.injEq, Option.map_map, Int.toNat_natCast, Int.toNat_zero, Nat.reducePow, Int.toNat_one, Int.reduceMul, Nat.mul_one, Nat.zero_add, Nat.add_zero, Function.comp_apply, List.map_append, List.map_replicate, Int.cast_ofNat_Int, Nat.left_eq_add, Nat.add_eq_left, Nat.add_left_cancel_iff]
  exact ⟨by simp, by decide⟩
def F_known7 : List DV → Option FSpec
  | [] => some ⟨True, fun n => (.bool true, [])⟩
  | _ => none
theorem F_known7_1 : F_known7 [] = some ⟨True, fun n => (.bool true, [])⟩ := nrfl _
theorem fknown7_ok (args : List DV) (s : FSpec) (hs : F_known7 args = some s) (hp : s.pre) : PCalls PG 25 args fun n r os => r = (s.res n).1 ∧ os = (s.res n).2 := by
  unfold F_known7 at hs
  split at hs
  · obtain rfl := Option.some.inj hs
    exact known7_P
  · cases hs
def T38 : FL := (25, F_known7) :: T38a
theorem T38_ok : FOk PG (tab T38) := FOk.cons T38a_ok fknown7_ok
theorem T38_at_known (args : List DV) : tab T38 25 args = (F_known7 args).map .o := nrfl _
theorem T38_at_all (args : List DV) : tab T38 34 args = (F_vall args).map .o := nrfl _
theorem T38_at_right (args : List DV) : tab T38 26 args = (F_vRight args).map .o := nrfl _
theorem T38_at_rright (args : List DV) : tab T38 27 args = (F_vRight args).map .o := nrfl _
theorem T38_at_same (args : List DV) : tab T38 32 args = (F_rsame args).map .o := nrfl _
theorem T38_at_acts (args : List DV) : tab T38 33 args = (F_hActs args).map .o := nrfl _
theorem T38_at_bytes (args : List DV) : tab T38 29 args = (F_sBytes args).map .o := nrfl _
theorem T38_at_some (args : List DV) : tab T38 28 args = (F_some7 args).map .o := nrfl _
theorem T38_at_rstep (args : List DV) : tab T38 31 args = (F_pb rstepF qP args).map .o := nrfl _
theorem T38_at_vstep (args : List DV) : tab T38 30 args = (F_vstep args).map .o := nrfl _
theorem T38_l : type_of% (And.intro @T38_at_known <| And.intro @T38_at_all <| And.intro @T38_at_right <| And.intro @T38_at_rright <| And.intro @T38_at_same <| And.intro @T38_at_acts <| And.intro @T38_at_bytes <| And.intro @T38_at_some <| And.intro @T38_at_rstep <| And.intro @T38_at_vstep <| And.intro @F_known7_1 <| And.intro @F_vall_1 <| And.intro @F_vRight_1 <| And.intro @F_rsame_1 <| And.intro @F_hActs_1 <| And.intro @F_sBytes_1 <| And.intro @F_some7_1 <| And.intro @F_pb_1 @F_vstep_1) :=
  And.intro @T38_at_known <| And.intro @T38_at_all <| And.intro @T38_at_right <| And.intro @T38_at_rright <| And.intro @T38_at_same <| And.intro @T38_at_acts <| And.intro @T38_at_bytes <| And.intro @T38_at_some <| And.intro @T38_at_rstep <| And.intro @T38_at_vstep <| And.intro @F_known7_1 <| And.intro @F_vall_1 <| And.intro @F_vRight_1 <| And.intro @F_rsame_1 <| And.intro @F_hActs_1 <| And.intro @F_sBytes_1 <| And.intro @F_some7_1 <| And.intro @F_pb_1 @F_vstep_1
end Go.Proofs.YteemmpghpdaloaaDoor
end
section
/- All bytes, one behind another. -/
set_option linter.unusedVariables false
set_option linter.unusedSimpArgs false
set_option maxRecDepth 10000
namespace Go.Proofs.YteemmpghpdaloaaDoor
open Go.RowKit

theorem vall_acc (l : List Int) : ∀ (p : Pa) (acc : List Ac), vallF p acc l = ((vallF p [] l).1, acc ++ (vallF p [] l).2) := by
  induction l with
  | nil => intro p acc; simp [vallF]
  | cons c l ih =>
    intro p acc
    simp only [vallF, List.nil_append]
    rw [ih (vstepF p c).1 (acc ++ (vstepF p c).2), ih (vstepF p c).1 (vstepF p c).2]
    simp
theorem vall_app (a b : List Int) : ∀ (p : Pa) (acc : List Ac), vallF p acc (a ++ b) = vallF (vallF p acc a).1 (vallF p acc a).2 b := by
  induction a with
  | nil => intro p acc; rfl
  | cons c a ih => intro p acc; simp only [List.cons_append, vallF]; exact ih _ _
theorem vall_ok (l : List Int) : ∀ (p : Pa) (acc : List Ac), paOk p → inK .u8 l → paOk (vallF p acc l).1 := by
  induction l with
  | nil => intro p acc h _; exact h
  | cons c l ih =>
    intro p acc h hl
    have hl2 : inK .u8 l := hl.drop 1
    exact ih _ _ (vstep_pok h (hl.u8 (by simp))) hl2
theorem vall_len (l : List Int) : ∀ (p : Pa) (acc : List Ac), (vallF p acc l).2.length ≤ acc.length + 3 * l.length := by
  induction l with
  | nil => intro p acc; simp [vallF]
  | cons c l ih =>
    intro p acc
    have h1 := ih (vstepF p c).1 (acc ++ (vstepF p c).2)
    have h2 := vstep_len p c
    simp only [vallF, List.length_cons]
    rw [List.length_append] at h1
    omega
def psOk (l : List Ac) : Prop := ∀ a ∈ l, (oL a.ps).length ≤ 1000
theorem psOk_app {a b : List Ac} (ha : psOk a) (hb : psOk b) : psOk (a ++ b) := fun x hx => (List.mem_append.1 hx).elim (ha x) (hb x)
theorem vtake_ps {p : Pa} (b : Int) (hp : paOk p) : psOk (vtakeF p b).2 := by
  have hit : ∀ {c : Prop} [Decidable c] {x y : Pa × List Ac}, (c → psOk x.2) → (¬ c → psOk y.2) → psOk (if c then x else y).2 := fun h1 h2 => by split; exact h1 ‹_›; exact h2 ‹_›
  have h0 : psOk [] := fun a h => by cases h
  have hact : psOk (vactF p b).2 := fun a ha => by simp [vactF] at ha; subst ha; exact hp.2.2.2.1
  unfold vtakeF
  refine hit (fun _ => h0) fun _ => hit (fun _ => h0) fun _ => hit (fun _ => h0) fun _ => hit (fun _ => h0) fun _ => hit (fun _ a ha => ?_) fun _ => hit (fun _ a ha => ?_) fun _ => hit (fun _ => h0) fun _ => hit (fun _ => ?_) fun _ => hit (fun _ => ?_) fun _ => hit (fun _ => h0) fun _ => hit (fun _ => ?_) fun _ => hit (fun _ => ?_) fun _ => h0
  · simp at ha; subst ha; simp [oL]
  · simp [vgroundF] at ha; obtain ⟨r, _, rfl⟩ := ha; simp [oL]
  · unfold vescF
    exact hit (fun _ => h0) fun _ => hit (fun _ => h0) fun _ => hit (fun _ => h0) fun _ a ha => by simp at ha; subst ha; simp [oL]
  · unfold vescIF
    exact hit (fun _ a ha => by simp at ha; subst ha; simp [oL]) fun _ => hit (fun _ => h0) fun _ => h0
  · unfold vcsiF
    exact hit (fun _ => h0) fun _ => hit (fun _ => hact) fun _ => hit (fun _ => h0) fun _ => hit (fun _ => h0) fun _ => hit (fun _ => hit (fun _ => h0) fun _ => h0) fun _ => hit (fun _ => hit (fun _ => h0) fun _ => h0) fun _ => h0
  · unfold vcsiIF
    exact hit (fun _ => hact) fun _ => hit (fun _ => h0) fun _ => h0
theorem vstep_ps {p : Pa} (b : Int) (hp : paOk p) : psOk (vstepF p b).2 := by
  unfold vstepF
  split
  · intro a ha
    simp at ha
    rcases ha with rfl | ha
    · simp [oL]
    · exact vtake_ps (p := { p with U := [] }) b ⟨hp.1, hp.2.1, inK_nil _, hp.2.2.2.1, hp.2.2.2.2.1, by simp, hp.2.2.2.2.2.2⟩ a ha
  · exact vtake_ps b hp
theorem vall_ps (l : List Int) : ∀ (p : Pa) (acc : List Ac), paOk p → inK .u8 l → psOk acc → psOk (vallF p acc l).2 := by
  induction l with
  | nil => intro p acc _ _ h; exact h
  | cons c l ih =>
    intro p acc h hl ha
    exact ih _ _ (vstep_pok h (hl.u8 (by simp))) (hl.drop 1) (psOk_app ha (vstep_ps c h))
theorem vall_rt (l : List Int) : ∀ (p : Pa) (acc : List Ac), Rt p → inK .u8 l → Rt (vallF p acc l).1 := by
  induction l with
  | nil => intro p acc h _; exact h
  | cons c l ih => intro p acc h hl; exact ih _ _ (vstep_rt h (hl.u8 (by simp))) (hl.drop 1)
theorem acsOk_of {l : List Ac} (h : psOk l) (hl : l.length ≤ 1000000) : acsOk l := ⟨hl, fun a ha => Nat.le_trans (h a ha) (by omega)⟩
/-- A parser is its fields. -/
theorem pa_eta (p : Pa) : (⟨p.m, p.pr, p.P, p.I, p.U⟩ : Pa) = p := nrfl _
theorem paOk_eta (p : Pa) : paOk ⟨p.m, p.pr, p.P, p.I, p.U⟩ = paOk p := nrfl _
theorem paD_eq (p : Pa) : paD p = .agg [.int .i64 p.m, .int .u8 p.pr, .sl 1 (intRows .i64 p.P) .any, .sl 1 (intRows .u8 p.I) .any, .sl 1 (intRows .u8 p.U) .any] := nrfl _
theorem paOk_in {p : Pa} (h : paOk p) : inK .i64 p.P ∧ inK .u8 p.I ∧ inK .u8 p.U ∧ p.P.length ≤ 1000 ∧ p.I.length ≤ 1000 ∧ p.U.length ≤ 1000 := ⟨h.1, h.2.1, h.2.2.1, h.2.2.2.1, h.2.2.2.2.1, h.2.2.2.2.2.1⟩
theorem someP_rt {k : Int} (l : List Int) (hk : 0 ≤ k ∧ k ≤ 255) : Rt (someP k l) := by
  unfold someP
  refine Rt.mk0 ⟨by show 0 ≤ k % 8; omega, by show k % 8 ≤ 7; omega, ?_, ?_, ?_, ?_⟩ (fun n hn => ?_) (fun e => ?_) (fun e => ?_)
  · simp only
    split
    · rename_i h
      right
      refine ⟨h.1, ?_⟩
      unfold smU
      have : k / 8 % 4 = 0 ∨ k / 8 % 4 = 1 ∨ k / 8 % 4 = 2 ∨ k / 8 % 4 = 3 := by omega
      rcases this with e | e | e | e <;> rw [e] <;> decide
    · left; rfl
  · simp only
    by_cases h : k % 8 = 4 ∨ k % 8 = 5
    · exact .inl h
    · right
      rw [if_neg (by omega), if_neg h]
      exact ⟨rfl, rfl⟩
  · simp only
    split
    · unfold smP; rw [List.length_map, List.length_take]; omega
    · simp
  · simp only
    split
    · right; omega
    · left; rfl
  · split at hn
    · unfold smP at hn
      simp only [List.mem_map] at hn
      obtain ⟨x, _, rfl⟩ := hn
      omega
    · simp at hn
  · rw [if_pos e]
    unfold smI
    have : k / 64 % 2 = 0 ∨ k / 64 % 2 = 1 := by omega
    rcases this with e2 | e2 <;> rw [e2] <;> simp [vint_t] <;> omega
  · rw [if_neg e]
theorem rt_ok {p : Pa} (h : Rt p) (h2 : inK .u8 p.I) (h3 : inK .u8 p.U) : paOk p := by
  obtain ⟨c1, c2⟩ := h.i
  have hP : p.P.length ≤ 16 := h.a.2.2.2.2.1
  have hI : p.I.length ≤ 1000 := by
    by_cases e : p.m = 2 ∨ p.m = 5
    · have := (c1 e).2.1; omega
    · rw [c2 e]; simp
  have hU : p.U.length ≤ 1000 := by
    rcases h.a.2.2.1 with e | e
    · omega
    · have := ubeg_len e.2; omega
  exact ⟨inK_P (by omega) h.b, h2, h3, by omega, hI, hU, h.b⟩
theorem someP_ok {k : Int} (l : List Int) (hk : 0 ≤ k ∧ k ≤ 255) : paOk (someP k l) := by
  refine rt_ok (someP_rt l hk) ?_ ?_
  · unfold someP
    simp only
    split
    · unfold smI
      have : k / 64 % 2 = 0 ∨ k / 64 % 2 = 1 := by omega
      rcases this with e2 | e2 <;> rw [e2] <;> exact inK_u8 (by simp) (by simp; omega)
    · exact inK_nil _
  · unfold someP
    simp only
    split
    · unfold smU
      have : k / 8 % 4 = 0 ∨ k / 8 % 4 = 1 ∨ k / 8 % 4 = 2 ∨ k / 8 % 4 = 3 := by omega
      rcases this with e | e | e | e <;> rw [e] <;> exact ⟨by decide, by decide⟩
    · exact inK_nil _
end Go.Proofs.YteemmpghpdaloaaDoor
end
