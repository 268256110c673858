/- Texts P20, P21, P22 in one. -/
import Derived.Test.YtjmnbpilnneonaaDoorM4
import Derived.Test.YtjmnbpilnneonaaDoorM3
set_option linter.unusedVariables false
set_option linter.unusedSimpArgs false
set_option maxRecDepth 10000
namespace Go.Proofs.YtjmnbpilnneonaaDoor
open Go.RowKit
noncomputable def rc_cloneI : RFn := ⟨1, 8, .seq (.reg [⟨some 2, .mov (.c (.sl 0 [] .nil)), none, false⟩] 0 [0]) (.seq (.seq (.reg [⟨some 3, .mov (.t 0), none, false⟩, ⟨some 4, .eqNil false (.t 3) (.c (.sl 0 [] .nil)), none, false⟩] 0 [0, 4]) (.cond (.t 4) (.seq (.reg [⟨some 2, .mov (.c (.sl 0 [] .nil)), none, false⟩] 0 [2]) .ret) .skip)) (.seq (.reg [⟨some 5, .mkrow 1 [.int .i64 0] 0 [], none, false⟩, ⟨some 6, .mov (.t 0), none, false⟩, ⟨some 7, .append 1 8 (.t 5) (.t 6), none, false⟩, ⟨some 2, .mov (.t 7), none, false⟩] 0 [2]) .ret)), [.t 2]⟩
theorem rc_cloneI_ok : compFn PG.P [⟨0, 0, [0], []⟩, ⟨1, 0, [0, 4], []⟩, ⟨2, 0, [2], []⟩, ⟨3, 0, [2], []⟩] 26 = some rc_cloneI := by kernel_rfl
noncomputable def rc_vmode : RFn := ⟨1, 5, .seq (.reg [⟨some 2, .alloc [.int .i64 0, .int .u8 0, .sl 0 [] .nil, .sl 0 [] .nil, .sl 0 [] .nil], none, false⟩] 0 [0, 2]) (.seq (.reg [⟨some 3, .mov (.t 0), none, false⟩, ⟨some 4, .build [.int .i64 0, .int .u8 0, .sl 0 [] .nil, .sl 0 [] .nil, .sl 0 [] .nil] [(0, (1, (.t 3)))], none, false⟩, ⟨none, .store 5 (.t 2) (.t 4), none, false⟩] 0 [2]) .ret), [.c 2 true 5]⟩
theorem rc_vmode_ok : compFn PG.P [⟨0, 0, [0, 2], []⟩, ⟨1, 0, [2], []⟩] 47 = some rc_vmode := by kernel_rfl
noncomputable def rc_vinter : RFn := ⟨1, 9, .seq (.reg [⟨some 2, .mov (.c (.bool false)), none, false⟩] 0 [0]) (.seq (.reg [⟨some 3, .mov (.t 0), none, false⟩, ⟨some 4, .bin .geq (.t 3) (.c (.int .u8 32)), none, false⟩, ⟨some 5, .mov (.t 4), none, false⟩, ⟨some 6, .mov (.t 0), some (5, true), false⟩, ⟨some 7, .bin .leq (.t 6) (.c (.int .u8 47)), some (5, true), false⟩, ⟨some 8, .pick (.t 5) (.t 7) (.c (.bool false)), none, false⟩, ⟨some 2, .mov (.t 8), none, false⟩] 0 [2]) .ret), [.t 2]⟩
theorem rc_vinter_ok : compFn PG.P [⟨0, 0, [0], []⟩, ⟨1, 0, [2], []⟩] 51 = some rc_vinter := by kernel_rfl
theorem cloneI_nil {sz : Nat} : PCalls PG 26 [.sl sz [] .nil] fun n r os => r = .sl 0 [] .nil ∧ os = [] := by
  refine PCalls.by_fn (res := fun n => (.sl 0 [] .nil, [])) FOk.nil rc_cloneI_ok (by simp [rc_cloneI]) fun n => ?_
  unfold rc_cloneI
  dsimp only
  simp -implicitDefEqProofs -dsimp only [vcR, ↓vcP1, ↓vcP2, ↓reduceIte, if_true, if_false, reduceCtorEq, implies_true, Nat.reduceLT, Nat.reduceLeDiff, Nat.reduceEqDiff, Nat.reduceAdd, Nat.reduceSub, Nat.reduceMul, Int.reduceLT, Int.reduceLE, Int.reduceEq, Int.reduceToNat, Int.reduceAdd, Int.reduceSub, Int.reduceNeg, List.reduceReplicate, ne_eq, exists_eq_left, exists_eq_left', Nat.reducePow, Int.reduceMul, Function.comp_apply]
theorem cloneI_non {sz : Nat} {l : List Int} (hs : sz = 1 ∨ l = []) (hk : inK .i64 l) (hl : l.length ≤ 1000000) : PCalls PG 26 [.sl sz (intRows .i64 l) .nonnil] fun n r os => r = .own n 0 l.length ∧ os = [some (.arr 1 (intRows .i64 l))] := by
  refine PCalls.by_fn (res := fun n => (.own n 0 l.length, [some (.arr 1 (intRows .i64 l))])) FOk.nil rc_cloneI_ok (by simp [rc_cloneI]) fun n => ?_
  unfold rc_cloneI
  dsimp only
  simp -implicitDefEqProofs -dsimp only [vcR, ↓vcP1, ↓vcP2, ↓reduceIte, if_true, if_false, reduceCtorEq, implies_true, Nat.reduceLT, Nat.reduceLeDiff, Nat.reduceEqDiff, Nat.reduceAdd, Nat.reduceSub, Nat.reduceMul, Int.reduceLT, Int.reduceLE, Int.reduceEq, Int.reduceToNat, Int.reduceAdd, Int.reduceSub, Int.reduceNeg, List.reduceReplicate, ne_eq, exists_eq_left, exists_eq_left', Nat.reducePow, Int.reduceMul, Function.comp_apply]
  exact ⟨hs.imp id fun h => by simp [h, intRows], by omega, by omega⟩
theorem cloneI_P {sz_l : Nat} {k_l : SK} {l : List Int} (hs_l : sz_l = 1 ∨ l = []) (hk_l : inK .i64 l) (hp : l.length ≤ 1000000) :
    PCalls PG 26 [.sl sz_l (intRows .i64 l) k_l] fun n r os => r = .own n 0 l.length ∧ os = [some (.arr 1 (intRows .i64 l))] := by
  refine PCalls.any_arg (i := 0) rfl (fun h => ?_) ?_
  · have hn : l = [] := by simpa [intRows] using h
    subst hn
    exact cloneI_nil.nil_own
  · exact cloneI_non hs_l hk_l hp
theorem cloneO_P {sz_l : Nat} {k_l : SK} {l : List Int} (hs_l : sz_l = 1 ∨ l = []) (hk_l : inK .u8 l) (hp : l.length ≤ 1000000) :
    PCalls PG 27 [.sl sz_l (intRows .u8 l) k_l] fun n r os => r = .own n 0 l.length ∧ os = [some (.arr 1 (intRows .u8 l))] := by
  refine PCalls.any_arg (i := 0) rfl (fun h => ?_) ?_
  · have hn : l = [] := by simpa [intRows] using h
    subst hn
    exact cloneB_nil.nil_own
  · exact cloneB_P hs_l hk_l (by omega)
def F_cloneI : List DV → Option FSpec
  | [a_l] => some ⟨isInts .i64 a_l ∧ (intsD a_l).length ≤ 1000000, fun n => (.own n 0 (intsD a_l).length, [some (.arr 1 (intRows .i64 (intsD a_l)))])⟩
  | _ => none
theorem F_cloneI_1 (a_l : DV) : F_cloneI [a_l] = some ⟨isInts .i64 a_l ∧ (intsD a_l).length ≤ 1000000, fun n => (.own n 0 (intsD a_l).length, [some (.arr 1 (intRows .i64 (intsD a_l)))])⟩ := nrfl _
theorem cloneI_ok (args : List DV) (s : FSpec) (hs : F_cloneI args = some s) (hp : s.pre) : PCalls PG 26 args fun n r os => r = (s.res n).1 ∧ os = (s.res n).2 := by
  unfold F_cloneI at hs
  split at hs
  · rename_i a_l
    obtain rfl := sj hs
    obtain ⟨hi_l, hp⟩ := hp
    obtain ⟨s0_l, k0_l, h1_l, h2_l, h3_l⟩ := isInts_inv hi_l
    have this := cloneI_P (k_l := k0_l) h2_l h3_l hp
    rw [← h1_l] at this
    exact this
  · cases hs
def F_cloneO : List DV → Option FSpec
  | [a_l] => some ⟨isInts .u8 a_l ∧ (intsD a_l).length ≤ 1000000, fun n => (.own n 0 (intsD a_l).length, [some (.arr 1 (intRows .u8 (intsD a_l)))])⟩
  | _ => none
theorem F_cloneO_1 (a_l : DV) : F_cloneO [a_l] = some ⟨isInts .u8 a_l ∧ (intsD a_l).length ≤ 1000000, fun n => (.own n 0 (intsD a_l).length, [some (.arr 1 (intRows .u8 (intsD a_l)))])⟩ := nrfl _
theorem cloneO_ok (args : List DV) (s : FSpec) (hs : F_cloneO args = some s) (hp : s.pre) : PCalls PG 27 args fun n r os => r = (s.res n).1 ∧ os = (s.res n).2 := by
  unfold F_cloneO at hs
  split at hs
  · rename_i a_l
    obtain rfl := sj hs
    obtain ⟨hi_l, hp⟩ := hp
    obtain ⟨s0_l, k0_l, h1_l, h2_l, h3_l⟩ := isInts_inv hi_l
    have this := cloneO_P (k_l := k0_l) h2_l h3_l hp
    rw [← h1_l] at this
    exact this
  · cases hs
def vint (b : Int) : Bool := decide (32 ≤ b) && decide (b ≤ 47)
theorem vinter_P {b : Int} (hb_b : 0 ≤ b ∧ b ≤ 255)  :
    PCalls PG 51 [.int .u8 b] fun n RR OO => RR = ((.bool (vint b), []) : DV × Objs).1 ∧ OO = ((.bool (vint b), []) : DV × Objs).2 := by
  refine PCalls.by_fn (res := fun n => (.bool (vint b), [])) T16_ok rc_vinter_ok (by simp [rc_vinter]) fun n => ?_
  unfold rc_vinter
  dsimp only
  simp -implicitDefEqProofs -dsimp only [vcR, ↓vcP1, ↓vcP2, ↓reduceIte, if_true, if_false, reduceCtorEq, implies_true, Nat.reduceLT, Nat.reduceLeDiff, Nat.reduceEqDiff, Nat.reduceAdd, Nat.reduceSub, Nat.reduceMul, Int.reduceLT, Int.reduceLE, Int.reduceEq, Int.reduceToNat, Int.reduceAdd, Int.reduceSub, Int.reduceNeg, List.reduceReplicate, ne_eq, exists_eq_left, exists_eq_left', Nat.reducePow, Int.reduceMul, Function.comp_apply]
  grind [vint]
def F_vinter : List DV → Option FSpec
  | [.int .u8 b] => some ⟨(0 ≤ b ∧ b ≤ 255) ∧ True, fun n => (.bool (vint b), [])⟩
  | _ => none
theorem F_vinter_1 (b : Int) : F_vinter [.int .u8 b] = some ⟨(0 ≤ b ∧ b ≤ 255) ∧ True, fun n => (.bool (vint b), [])⟩ := nrfl _
theorem vinter_ok (args : List DV) (s : FSpec) (hs : F_vinter args = some s) (hp : s.pre) : PCalls PG 51 args fun n r os => r = (s.res n).1 ∧ os = (s.res n).2 := by
  unfold F_vinter at hs
  split at hs
  · rename_i b
    obtain rfl := sj hs
    obtain ⟨hb_b, hp⟩ := hp
    have this := vinter_P  hb_b 
    exact this
  · cases hs
theorem vmode_P {m : Int} (hb_m : -9223372036854775808 ≤ m ∧ m ≤ 9223372036854775807)  :
    PCalls PG 47 [.int .i64 m] fun n RR OO => RR = ((.agg [.int .i64 m, .int .u8 0, .sl 0 [] .nil, .sl 0 [] .nil, .sl 0 [] .nil], []) : DV × Objs).1 ∧ OO = ((.agg [.int .i64 m, .int .u8 0, .sl 0 [] .nil, .sl 0 [] .nil, .sl 0 [] .nil], []) : DV × Objs).2 := by
  refine PCalls.by_fn (res := fun n => (.agg [.int .i64 m, .int .u8 0, .sl 0 [] .nil, .sl 0 [] .nil, .sl 0 [] .nil], [])) T16_ok rc_vmode_ok (by simp [rc_vmode]) fun n => ?_
  unfold rc_vmode
  dsimp only
  simp -implicitDefEqProofs -dsimp only [vcB1, vcR, ↓vcP1, ↓vcP2, ↓reduceIte, if_true, if_false, reduceCtorEq, implies_true, Nat.reduceLT, Nat.reduceLeDiff, Nat.reduceEqDiff, Nat.reduceAdd, Nat.reduceSub, Nat.reduceMul, Int.reduceLT, Int.reduceLE, Int.reduceEq, Int.reduceToNat, Int.reduceAdd, Int.reduceSub, Int.reduceNeg, List.reduceReplicate, ne_eq, exists_eq_left, exists_eq_left', Nat.reducePow, Int.reduceMul, Function.comp_apply]
def F_vmode : List DV → Option FSpec
  | [.int .i64 m] => some ⟨(-9223372036854775808 ≤ m ∧ m ≤ 9223372036854775807) ∧ True, fun n => (.agg [.int .i64 m, .int .u8 0, .sl 0 [] .nil, .sl 0 [] .nil, .sl 0 [] .nil], [])⟩
  | _ => none
theorem F_vmode_1 (m : Int) : F_vmode [.int .i64 m] = some ⟨(-9223372036854775808 ≤ m ∧ m ≤ 9223372036854775807) ∧ True, fun n => (.agg [.int .i64 m, .int .u8 0, .sl 0 [] .nil, .sl 0 [] .nil, .sl 0 [] .nil], [])⟩ := nrfl _
theorem vmode_ok (args : List DV) (s : FSpec) (hs : F_vmode args = some s) (hp : s.pre) : PCalls PG 47 args fun n r os => r = (s.res n).1 ∧ os = (s.res n).2 := by
  unfold F_vmode at hs
  split at hs
  · rename_i m
    obtain rfl := sj hs
    obtain ⟨hb_m, hp⟩ := hp
    have this := vmode_P  hb_m 
    exact this
  · cases hs
def T20 : FL := (26, F_cloneI) :: (27, F_cloneO) :: (51, F_vinter) :: (47, F_vmode) :: T16
theorem T20_ok : FOk PG (tab T20) := FOk.cons (FOk.cons (FOk.cons (FOk.cons (T16_ok) vmode_ok) vinter_ok) cloneO_ok) cloneI_ok
theorem T20_at_cloneI (args : List DV) : tab T20 26 args = (F_cloneI args).map .o := nrfl _
theorem T20_at_cloneO (args : List DV) : tab T20 27 args = (F_cloneO args).map .o := nrfl _
theorem T20_at_vinter (args : List DV) : tab T20 51 args = (F_vinter args).map .o := nrfl _
theorem T20_at_vmode (args : List DV) : tab T20 47 args = (F_vmode args).map .o := nrfl _
theorem T20_at_step (args : List DV) : tab T20 29 args = (F_step args).map .o := nrfl _
theorem T20_at_ubegins (args : List DV) : tab T20 43 args = (F_ubegins args).map .o := nrfl _
theorem T20_at_decode (args : List DV) : tab T20 46 args = (F_decode args).map .o := nrfl _
theorem T20_at_full (args : List DV) : tab T20 70 args = (F_full args).map .o := nrfl _
theorem T20_at_slow (args : List DV) : tab T20 73 args = (F_slow args).map .o := nrfl _
theorem T20_b : type_of% (And.intro @T20_at_cloneI <| And.intro @F_cloneI_1 <| And.intro @T20_at_cloneO <| And.intro @F_cloneO_1 <| And.intro @T20_at_vinter <| And.intro @F_vinter_1 <| And.intro @T20_at_vmode <| And.intro @F_vmode_1 <| And.intro @T20_at_step <| And.intro @F_step_1 <| And.intro @T20_at_ubegins <| And.intro @F_ubegins_1 <| And.intro @T20_at_decode <| And.intro @F_decode_1 <| And.intro @T20_at_full <| And.intro @F_full_1 <| And.intro @T20_at_slow <| @F_slow_1) := And.intro @T20_at_cloneI <| And.intro @F_cloneI_1 <| And.intro @T20_at_cloneO <| And.intro @F_cloneO_1 <| And.intro @T20_at_vinter <| And.intro @F_vinter_1 <| And.intro @T20_at_vmode <| And.intro @F_vmode_1 <| And.intro @T20_at_step <| And.intro @F_step_1 <| And.intro @T20_at_ubegins <| And.intro @F_ubegins_1 <| And.intro @T20_at_decode <| And.intro @F_decode_1 <| And.intro @T20_at_full <| And.intro @F_full_1 <| And.intro @T20_at_slow <| @F_slow_1
structure Ac where
  k : Int
  r : Int
  b : Int
  p : Int
  ps : Option (List Int)
  is : Option (List Int)
def oSl (k : IntKind) : Option (List Int) → DV
  | none => .sl 0 [] .nil
  | some l => .sl 1 (intRows k l) .any
def acRow (a : Ac) : List DV := [.int .i64 a.k, .int .i32 a.r, .int .u8 a.b, .int .u8 a.p, oSl .i64 a.ps, oSl .u8 a.is]
def acRows (l : List Ac) : List (List DV) := l.map acRow
theorem acRow_nn (k r b p : Int) : [[.int .i64 k, .int .i32 r, .int .u8 b, .int .u8 p, .sl 0 [] .nil, .sl 0 [] .nil]] = acRows [⟨k, r, b, p, none, none⟩] := nrfl _
theorem acRow_ns (k r b p : Int) (i : List Int) : [[.int .i64 k, .int .i32 r, .int .u8 b, .int .u8 p, .sl 0 [] .nil, .sl 1 (intRows .u8 i) .any]] = acRows [⟨k, r, b, p, none, some i⟩] := nrfl _
theorem acRow_ss (k r b p : Int) (l i : List Int) : [[.int .i64 k, .int .i32 r, .int .u8 b, .int .u8 p, .sl 1 (intRows .i64 l) .any, .sl 1 (intRows .u8 i) .any]] = acRows [⟨k, r, b, p, some l, some i⟩] := nrfl _
theorem acRows_one (a : Ac) : [acRow a] = acRows [a] := nrfl _
theorem acRows_set0 (a : Ac) (row : List DV) : (acRows [a]).set 0 row = [row] := nrfl _
theorem acRows_cons (a : Ac) (l : List Ac) : acRow a :: acRows l = acRows (a :: l) := nrfl _
theorem acRows_app (a b : List Ac) : acRows a ++ acRows b = acRows (a ++ b) := by simp [acRows]
theorem acRows_nil : acRows [] = [] := nrfl _
theorem acRows_length (a : List Ac) : (acRows a).length = a.length := by simp [acRows]
theorem acRows_take (l : List Ac) (n : Nat) : (acRows l).take n = acRows (l.take n) := by simp [acRows, List.map_take]
theorem acRows_drop (l : List Ac) (n : Nat) : (acRows l).drop n = acRows (l.drop n) := by simp [acRows, List.map_drop]
theorem acRow_len (a : Ac) : (acRow a).length = 6 := nrfl _
theorem acRow_one (a : Ac) : (acRow a).all DV.one = true := by
  obtain ⟨k, r, b, p, ps, is⟩ := a
  cases ps <;> cases is <;> rfl
theorem oSl_Cl (k : IntKind) (o : Option (List Int)) : Cl (oSl k o) := by
  cases o with
  | none => exact Cl.sl 0 [] .nil (by simp)
  | some l => exact Cl.sl 1 _ .any (ClRows_int k l)
theorem acRows_Cl (l : List Ac) : ClRows (acRows l) = True := by
  refine eq_true fun row hrow c hc => ?_
  simp only [acRows, List.mem_map] at hrow
  obtain ⟨a, _, rfl⟩ := hrow
  simp only [acRow, List.mem_cons, List.not_mem_nil, or_false] at hc
  rcases hc with rfl | rfl | rfl | rfl | rfl | rfl
  · exact Cl.int _ _
  · exact Cl.int _ _
  · exact Cl.int _ _
  · exact Cl.int _ _
  · exact oSl_Cl _ _
  · exact oSl_Cl _ _
theorem acB1 : type_of% (And.intro @acRow_nn <| And.intro @acRow_ns <| And.intro @acRow_ss <| And.intro @acRows_one <| And.intro @acRows_set0 <| And.intro @acRows_cons <| And.intro @acRows_app <| And.intro @acRows_nil <| And.intro @acRows_length <| And.intro @acRows_take <| And.intro @acRows_drop <| And.intro @acRow_len <| And.intro @acRow_one <| @acRows_Cl) :=
  And.intro @acRow_nn <| And.intro @acRow_ns <| And.intro @acRow_ss <| And.intro @acRows_one <| And.intro @acRows_set0 <| And.intro @acRows_cons <| And.intro @acRows_app <| And.intro @acRows_nil <| And.intro @acRows_length <| And.intro @acRows_take <| And.intro @acRows_drop <| And.intro @acRow_len <| And.intro @acRow_one <| @acRows_Cl
structure Pa where
  m : Int
  pr : Int
  P : List Int
  I : List Int
  U : List Int
def paD (p : Pa) : DV := .agg [.int .i64 p.m, .int .u8 p.pr, .sl 1 (intRows .i64 p.P) .any, .sl 1 (intRows .u8 p.I) .any, .sl 1 (intRows .u8 p.U) .any]
def pa0 (m : Int) : Pa := ⟨m, 0, [], [], []⟩
def paR (x : Pa × List Ac) : DV := .tup [paD x.1, .sl 6 (acRows x.2) .any]
noncomputable def rc_vact : RFn := ⟨2, 16, .seq (.reg [⟨some 2, .box 5 (.t 0), none, false⟩, ⟨some 4, .alloc [.int .i64 0, .int .u8 0, .sl 0 [] .nil, .sl 0 [] .nil, .sl 0 [] .nil], none, false⟩, ⟨some 5, .mov (.c (.sl 0 [] .nil)), none, false⟩] 0 [1, 2, 4]) (.seq (.regD (.take ⟨some 7, .faddr 1 (.t 2), none, false⟩ [] (.take ⟨some 8, .load false 1 (.t 7), none, false⟩ [.t 4] (.take ⟨some 9, .faddr 2 (.t 2), none, false⟩ [] (.take ⟨some 10, .load false 1 (.t 9), none, false⟩ [.t 4] (.take ⟨some 11, .faddr 3 (.t 2), none, false⟩ [] (.take ⟨some 12, .load false 1 (.t 11), none, false⟩ [.t 4] (.take ⟨some 13, .mov (.t 1), none, false⟩ [] (.take ⟨some 14, .build [.int .i64 0, .int .i32 0, .int .u8 0, .int .u8 0, .sl 0 [] .nil, .sl 0 [] .nil] [(0, (1, (.c (.int .i64 3)))), (3, (1, (.t 8))), (4, (1, (.t 10))), (5, (1, (.t 12))), (2, (1, (.t 13)))], none, false⟩ [] (.alt (.op ⟨some 6, .call 47 [.c (.int .i64 0)], none, false⟩ (.alt (.op ⟨some 15, .mkrow 6 [.int .i64 0, .int .i32 0, .int .u8 0, .int .u8 0, .sl 0 [] .nil, .sl 0 [] .nil] 1 [(0, (.t 14))], none, false⟩ (.op ⟨none, .store 5 (.t 4) (.t 6), none, false⟩ (.take ⟨some 5, .mov (.t 15), none, false⟩ [] .done))) (.op ⟨none, .store 5 (.t 4) (.t 6), none, false⟩ (.op ⟨some 15, .mkrow 6 [.int .i64 0, .int .i32 0, .int .u8 0, .int .u8 0, .sl 0 [] .nil, .sl 0 [] .nil] 1 [(0, (.t 14))], none, false⟩ (.take ⟨some 5, .mov (.t 15), none, false⟩ [] .done))))) (.op ⟨some 15, .mkrow 6 [.int .i64 0, .int .i32 0, .int .u8 0, .int .u8 0, .sl 0 [] .nil, .sl 0 [] .nil] 1 [(0, (.t 14))], none, false⟩ (.op ⟨some 6, .call 47 [.c (.int .i64 0)], none, false⟩ (.op ⟨none, .store 5 (.t 4) (.t 6), none, false⟩ (.take ⟨some 5, .mov (.t 15), none, false⟩ [] .done))))))))))))) 0 [4, 5]) .ret), [.c 4 true 5, .t 5]⟩
theorem rc_vact_ok : compFn PG.P [⟨0, 0, [1, 2, 4], []⟩, ⟨1, 0, [4, 5], []⟩] 74 = some rc_vact := by kernel_rfl
def vactF (p : Pa) (b : Int) : Pa × List Ac := (pa0 0, [⟨3, 0, b, p.pr, some p.P, some p.I⟩])
def paO (n : Nat) (x : Pa × List Ac) : DV × Objs := (.tup [paD x.1, .own n 0 x.2.length], [some (.arr 6 (acRows x.2))])
theorem vact_P {p : Pa} {b : Int} : PCalls PG 74 [paD p, .int .u8 b] fun n r os => r = (paO n (vactF p b)).1 ∧ os = (paO n (vactF p b)).2 := by
  refine PCalls.by_fn (res := fun n => paO n (vactF p b)) T20_ok rc_vact_ok (by simp [rc_vact]) fun n => ?_
  unfold rc_vact
  dsimp only [paD, paO, vactF, pa0]
  simp -implicitDefEqProofs -dsimp only [T20_b, acB1, vcB1, vcB2, vcR, ↓vcP1, ↓vcP2, ↓reduceIte, if_true, if_false, reduceCtorEq, implies_true, Nat.reduceLT, Nat.reduceLeDiff, Nat.reduceEqDiff, Nat.reduceAdd, Nat.reduceSub, Nat.reduceMul, Int.reduceLT, Int.reduceLE, Int.reduceEq, Int.reduceToNat, Int.reduceAdd, Int.reduceSub, Int.reduceNeg, List.reduceReplicate, ne_eq, exists_eq_left, exists_eq_left', Nat.reducePow, Int.reduceMul, Function.comp_apply]
def isS (k : IntKind) : DV → Prop
  | .sl sz rows .any => sz = 1 ∧ rows = intRows k (ints rows) ∧ inK k (ints rows)
  | _ => False
theorem isS_sl (k : IntKind) (l : List Int) : isS k (.sl 1 (intRows k l) .any) = inK k l := by simp [isS, ints_intRows]
theorem isS_inv {k : IntKind} {d : DV} (h : isS k d) : d = .sl 1 (intRows k (intsD d)) .any ∧ inK k (intsD d) := by
  unfold isS at h
  split at h
  · obtain ⟨rfl, h1, h2⟩ := h
    refine ⟨?_, h2⟩
    simp only [intsD]
    rw [← h1]
  · exact h.elim
def F_vact : List DV → Option FSpec
  | [.agg [.int .i64 m, .int .u8 pr, x, y, z], .int .u8 b] => some ⟨isS .i64 x ∧ isS .u8 y ∧ isS .u8 z, fun n => (.tup [.agg [.int .i64 0, .int .u8 0, .sl 1 [] .any, .sl 1 [] .any, .sl 1 [] .any], .own n 0 1], [some (.arr 6 (acRows [⟨3, 0, b, pr, some (intsD x), some (intsD y)⟩]))])⟩
  | _ => none
theorem F_vact_1 (m pr b : Int) (x y z : DV) : F_vact [.agg [.int .i64 m, .int .u8 pr, x, y, z], .int .u8 b] = some ⟨isS .i64 x ∧ isS .u8 y ∧ isS .u8 z, fun n => (.tup [.agg [.int .i64 0, .int .u8 0, .sl 1 [] .any, .sl 1 [] .any, .sl 1 [] .any], .own n 0 1], [some (.arr 6 (acRows [⟨3, 0, b, pr, some (intsD x), some (intsD y)⟩]))])⟩ := nrfl _
theorem vact_ok (args : List DV) (s : FSpec) (hs : F_vact args = some s) (hp : s.pre) : PCalls PG 74 args fun n r os => r = (s.res n).1 ∧ os = (s.res n).2 := by
  unfold F_vact at hs
  split at hs
  · rename_i m pr x y z b
    obtain rfl := sj hs
    obtain ⟨h1, h2, h3⟩ := hp
    obtain ⟨e1, _⟩ := isS_inv h1
    obtain ⟨e2, _⟩ := isS_inv h2
    obtain ⟨e3, _⟩ := isS_inv h3
    have := vact_P (p := ⟨m, pr, intsD x, intsD y, intsD z⟩) (b := b)
    unfold paD at this
    simp only at this
    rw [← e1, ← e2, ← e3] at this
    exact this
  · cases hs
def T21 : FL := (74, F_vact) :: T20
theorem T21_ok : FOk PG (tab T21) := FOk.cons (T20_ok) vact_ok
theorem T21_at_vact (args : List DV) : tab T21 74 args = (F_vact args).map .o := nrfl _
theorem T21_at_cloneI (args : List DV) : tab T21 26 args = (F_cloneI args).map .o := nrfl _
theorem T21_at_cloneO (args : List DV) : tab T21 27 args = (F_cloneO args).map .o := nrfl _
theorem T21_at_vinter (args : List DV) : tab T21 51 args = (F_vinter args).map .o := nrfl _
theorem T21_at_vmode (args : List DV) : tab T21 47 args = (F_vmode args).map .o := nrfl _
theorem T21_at_step (args : List DV) : tab T21 29 args = (F_step args).map .o := nrfl _
theorem T21_at_ubegins (args : List DV) : tab T21 43 args = (F_ubegins args).map .o := nrfl _
theorem T21_at_decode (args : List DV) : tab T21 46 args = (F_decode args).map .o := nrfl _
theorem T21_at_full (args : List DV) : tab T21 70 args = (F_full args).map .o := nrfl _
theorem T21_at_slow (args : List DV) : tab T21 73 args = (F_slow args).map .o := nrfl _
theorem T21_b : type_of% (And.intro @T21_at_vact <| And.intro @F_vact_1 <| And.intro @T21_at_cloneI <| And.intro @F_cloneI_1 <| And.intro @T21_at_cloneO <| And.intro @F_cloneO_1 <| And.intro @T21_at_vinter <| And.intro @F_vinter_1 <| And.intro @T21_at_vmode <| And.intro @F_vmode_1 <| And.intro @T21_at_step <| And.intro @F_step_1 <| And.intro @T21_at_ubegins <| And.intro @F_ubegins_1 <| And.intro @T21_at_decode <| And.intro @F_decode_1 <| And.intro @T21_at_full <| And.intro @F_full_1 <| And.intro @T21_at_slow <| @F_slow_1) := And.intro @T21_at_vact <| And.intro @F_vact_1 <| And.intro @T21_at_cloneI <| And.intro @F_cloneI_1 <| And.intro @T21_at_cloneO <| And.intro @F_cloneO_1 <| And.intro @T21_at_vinter <| And.intro @F_vinter_1 <| And.intro @T21_at_vmode <| And.intro @F_vmode_1 <| And.intro @T21_at_step <| And.intro @F_step_1 <| And.intro @T21_at_ubegins <| And.intro @F_ubegins_1 <| And.intro @T21_at_decode <| And.intro @F_decode_1 <| And.intro @T21_at_full <| And.intro @F_full_1 <| And.intro @T21_at_slow <| @F_slow_1
noncomputable def rc_vcsi : RFn := ⟨2, 87, .seq (.reg [⟨some 2, .box 5 (.t 0), none, false⟩, ⟨some 4, .alloc [.int .i64 0, .int .u8 0, .sl 0 [] .nil, .sl 0 [] .nil, .sl 0 [] .nil], none, false⟩, ⟨some 5, .mov (.c (.sl 0 [] .nil)), none, false⟩] 0 [1, 2, 4]) (.seq (.blk 0 (.seq (.reg [⟨some 8, .mov (.t 1), none, false⟩, ⟨some 9, .call 51 [.t 8], none, false⟩, ⟨some 7, .mov (.t 9), none, false⟩] 0 [1, 2, 4, 7]) (.cond (.t 7) (.seq (.reg [⟨some 10, .mov (.t 1), none, false⟩, ⟨some 11, .mkrow 1 [.int .u8 0] 1 [(0, (.t 10))], none, false⟩, ⟨some 12, .faddr 0 (.t 2), none, false⟩, ⟨none, .store 1 (.t 12) (.c (.int .i64 5)), none, false⟩, ⟨some 13, .faddr 3 (.t 2), none, false⟩, ⟨none, .store 1 (.t 13) (.t 11), none, false⟩] 0 [2, 4]) (.seq (.reg [⟨some 14, .load true 5 (.t 2), none, false⟩, ⟨none, .store 5 (.t 4) (.t 14), none, false⟩, ⟨some 5, .mov (.c (.sl 0 [] .nil)), none, false⟩] 0 [4, 5]) .ret)) (.seq (.reg [⟨some 16, .mov (.t 1), none, false⟩, ⟨some 17, .bin .geq (.t 16) (.c (.int .u8 64)), none, false⟩, ⟨some 15, .mov (.t 17), none, false⟩] 0 [1, 2, 4, 15]) (.cond (.t 15) (.seq (.reg [⟨some 18, .load true 5 (.t 2), none, true⟩, ⟨some 19, .mov (.t 1), none, false⟩, ⟨some 20, .call 74 [.t 18, .t 19], none, false⟩, ⟨some 21, .ext (.t 20) 0, none, false⟩, ⟨some 22, .ext (.t 20) 1, none, false⟩, ⟨none, .store 5 (.t 4) (.t 21), none, false⟩, ⟨some 5, .mov (.t 22), none, false⟩] 0 [4, 5]) .ret) (.seq (.reg [⟨some 24, .mov (.t 1), none, false⟩, ⟨some 25, .bin .eql (.t 24) (.c (.int .u8 58)), none, false⟩, ⟨some 26, .mov (.t 25), none, false⟩, ⟨some 27, .mov (.t 1), some (26, false), false⟩, ⟨some 28, .bin .gtr (.t 27) (.c (.int .u8 59)), some (26, false), false⟩, ⟨some 29, .mov (.t 28), some (26, false), false⟩, ⟨some 30, .faddr 2 (.t 2), some (29, true), false⟩, ⟨some 31, .load false 1 (.t 30), some (29, true), false⟩, ⟨some 32, .len (.t 31), some (29, true), false⟩, ⟨some 33, .bin .gtr (.t 32) (.c (.int .i64 0)), some (29, true), false⟩, ⟨some 34, .mov (.t 33), some (29, true), false⟩, ⟨some 35, .faddr 1 (.t 2), some (34, false), false⟩, ⟨some 36, .load false 1 (.t 35), some (34, false), false⟩, ⟨some 37, .bin .neq (.t 36) (.c (.int .u8 0)), some (34, false), false⟩, ⟨some 38, .pick (.t 34) (.c (.bool true)) (.t 37), some (29, true), false⟩, ⟨some 39, .pick (.t 29) (.t 38) (.c (.bool false)), some (26, false), false⟩, ⟨some 40, .pick (.t 26) (.c (.bool true)) (.t 39), none, false⟩, ⟨some 23, .mov (.t 40), none, false⟩] 0 [1, 2, 4, 23]) (.cond (.t 23) (.seq (.reg [⟨some 41, .call 47 [.c (.int .i64 6)], none, false⟩, ⟨none, .store 5 (.t 4) (.t 41), none, false⟩, ⟨some 5, .mov (.c (.sl 0 [] .nil)), none, false⟩] 0 [4, 5]) .ret) (.seq (.reg [⟨some 43, .mov (.t 1), none, false⟩, ⟨some 44, .bin .gtr (.t 43) (.c (.int .u8 59)), none, false⟩, ⟨some 42, .mov (.t 44), none, false⟩] 0 [1, 2, 4, 42]) (.cond (.t 42) (.seq (.reg [⟨some 45, .mov (.t 1), none, false⟩, ⟨some 46, .faddr 1 (.t 2), none, false⟩, ⟨none, .store 1 (.t 46) (.t 45), none, false⟩] 0 [2, 4]) (.seq (.reg [⟨some 47, .load true 5 (.t 2), none, false⟩, ⟨none, .store 5 (.t 4) (.t 47), none, false⟩, ⟨some 5, .mov (.c (.sl 0 [] .nil)), none, false⟩] 0 [4, 5]) .ret)) .skip))))))))) (.seq (.seq (.reg [⟨some 48, .faddr 2 (.t 2), none, false⟩, ⟨some 49, .load false 1 (.t 48), none, false⟩, ⟨some 50, .len (.t 49), none, false⟩, ⟨some 51, .bin .eql (.t 50) (.c (.int .i64 0)), none, false⟩] 0 [1, 2, 4, 51]) (.cond (.t 51) (.reg [⟨some 52, .mkrow 1 [.int .i64 0] 1 [(0, (.c (.int .i64 0)))], none, false⟩, ⟨some 53, .faddr 2 (.t 2), none, false⟩, ⟨none, .store 1 (.t 53) (.t 52), none, false⟩] 0 [1, 2, 4]) .skip)) (.seq (.reg [⟨some 54, .faddr 2 (.t 2), none, false⟩, ⟨some 55, .load false 1 (.t 54), none, false⟩, ⟨some 56, .faddr 2 (.t 2), none, false⟩, ⟨some 57, .load false 1 (.t 56), none, false⟩, ⟨some 58, .len (.t 57), none, false⟩, ⟨some 59, .bin .sub (.t 58) (.c (.int .i64 1)), none, false⟩, ⟨some 60, .iaddr 1 (.t 55) (.t 59), none, false⟩, ⟨some 6, .mov (.t 60), none, false⟩] 0 [1, 2, 4, 6]) (.seq (.blk 1 (.seq (.reg [⟨some 67, .mov (.t 1), none, false⟩, ⟨some 68, .bin .neq (.t 67) (.c (.int .u8 59)), none, false⟩, ⟨some 66, .mov (.t 68), none, false⟩] 0 [1, 2, 4, 6, 66]) (.cond (.t 66) (.reg [⟨some 69, .mov (.t 6), none, false⟩, ⟨some 70, .mov (.t 6), none, false⟩, ⟨some 71, .nilck (.t 70), none, false⟩, ⟨some 72, .load false 1 (.t 71), none, false⟩, ⟨some 73, .bin .mul (.c (.int .i64 10)) (.t 72), none, false⟩, ⟨some 74, .mov (.t 1), none, false⟩, ⟨some 75, .bin .sub (.t 74) (.c (.int .u8 48)), none, false⟩, ⟨some 76, .conv (.i2i .i64) (.t 75), none, false⟩, ⟨some 77, .bin .add (.t 73) (.t 76), none, false⟩, ⟨some 78, .mm false (.t 77) (.c (.int .i64 65535)), none, false⟩, ⟨some 79, .nilck (.t 69), none, false⟩, ⟨none, .store 1 (.t 79) (.t 78), none, false⟩] 0 [2, 4]) (.seq (.reg [⟨some 81, .faddr 2 (.t 2), none, false⟩, ⟨some 82, .load false 1 (.t 81), none, false⟩, ⟨some 83, .len (.t 82), none, false⟩, ⟨some 84, .bin .geq (.t 83) (.c (.int .i64 16)), none, false⟩, ⟨some 80, .mov (.t 84), none, false⟩] 0 [2, 4, 80]) (.cond (.t 80) (.seq (.reg [⟨some 85, .call 47 [.c (.int .i64 6)], none, false⟩, ⟨none, .store 5 (.t 4) (.t 85), none, false⟩, ⟨some 5, .mov (.c (.sl 0 [] .nil)), none, false⟩] 0 [4, 5]) .ret) (.reg [⟨some 61, .faddr 2 (.t 2), none, false⟩, ⟨some 62, .load false 1 (.t 61), none, false⟩, ⟨some 63, .mkrow 1 [.int .i64 0] 1 [(0, (.c (.int .i64 0)))], none, false⟩, ⟨some 64, .append 1 8 (.t 62) (.t 63), none, false⟩, ⟨some 65, .faddr 2 (.t 2), none, false⟩, ⟨none, .store 1 (.t 65) (.t 64), none, false⟩] 0 [2, 4])))))) (.seq (.reg [⟨some 86, .load true 5 (.t 2), none, false⟩, ⟨none, .store 5 (.t 4) (.t 86), none, false⟩, ⟨some 5, .mov (.c (.sl 0 [] .nil)), none, false⟩] 0 [4, 5]) .ret))))), [.c 4 true 5, .t 5]⟩
theorem rc_vcsi_ok : compFn PG.P [⟨0, 0, [1, 2, 4], []⟩, ⟨1, 0, [1, 2, 4, 7], []⟩, ⟨2, 0, [2, 4], []⟩, ⟨3, 0, [4, 5], []⟩, ⟨4, 0, [1, 2, 4, 15], []⟩, ⟨5, 0, [4, 5], [18]⟩, ⟨6, 0, [1, 2, 4, 23], []⟩, ⟨7, 0, [4, 5], []⟩, ⟨8, 0, [1, 2, 4, 42], []⟩, ⟨9, 0, [2, 4], []⟩, ⟨10, 0, [4, 5], []⟩, ⟨11, 0, [1, 2, 4, 51], []⟩, ⟨12, 0, [1, 2, 4], []⟩, ⟨13, 0, [1, 2, 4, 6], []⟩, ⟨14, 0, [2, 4], []⟩, ⟨15, 0, [1, 2, 4, 6, 66], []⟩, ⟨16, 0, [2, 4], []⟩, ⟨17, 0, [2, 4, 80], []⟩, ⟨18, 0, [4, 5], []⟩, ⟨19, 0, [4, 5], []⟩] 52 = some rc_vcsi := by kernel_rfl
def digP (P : List Int) (b : Int) : List Int := P.set (P.length - 1) (min (10 * P.getD (P.length - 1) 0 + (b - 48)) 65535)
def vcsiF (p : Pa) (b : Int) : Pa × List Ac :=
  if vint b = true then (⟨5, p.pr, p.P, [b], p.U⟩, [])
  else if 64 ≤ b then vactF p b
  else if b = 58 ∨ (59 < b ∧ (0 < (p.P.length : Int) ∨ p.pr ≠ 0)) then (pa0 6, [])
  else if 59 < b then (⟨p.m, b, p.P, p.I, p.U⟩, [])
  else if (p.P.length : Int) = 0 then (if b = 59 then (⟨p.m, p.pr, [0, 0], p.I, p.U⟩, []) else (⟨p.m, p.pr, [min (b - 48) 65535], p.I, p.U⟩, []))
  else if b = 59 then (if 16 ≤ (p.P.length : Int) then (pa0 6, []) else (⟨p.m, p.pr, p.P ++ [0], p.I, p.U⟩, []))
  else (⟨p.m, p.pr, digP p.P b, p.I, p.U⟩, [])
theorem vcsiF_0 {p : Pa} {b : Int} (hv : vint b = false) : vcsiF p b = if 64 ≤ b then vactF p b
  else if b = 58 ∨ (59 < b ∧ (0 < (p.P.length : Int) ∨ p.pr ≠ 0)) then (pa0 6, [])
  else if 59 < b then (⟨p.m, b, p.P, p.I, p.U⟩, [])
  else if (p.P.length : Int) = 0 then (if b = 59 then (⟨p.m, p.pr, [0, 0], p.I, p.U⟩, []) else (⟨p.m, p.pr, [min (b - 48) 65535], p.I, p.U⟩, []))
  else if b = 59 then (if 16 ≤ (p.P.length : Int) then (pa0 6, []) else (⟨p.m, p.pr, p.P ++ [0], p.I, p.U⟩, []))
  else (⟨p.m, p.pr, digP p.P b, p.I, p.U⟩, []) := by
  unfold vcsiF
  rw [hv, if_neg (by decide)]
theorem vcsiF_1 {p : Pa} {b : Int} (hv : vint b = false) (h : 64 ≤ b) : vcsiF p b = vactF p b := by rw [vcsiF_0 hv, if_pos h]
theorem vcsiF_2 {p : Pa} {b : Int} (hv : vint b = false) (h : ¬ 64 ≤ b) (h2 : b = 58 ∨ (59 < b ∧ (0 < (p.P.length : Int) ∨ p.pr ≠ 0))) : vcsiF p b = (pa0 6, []) := by rw [vcsiF_0 hv, if_neg h, if_pos h2]
theorem vcsiF_3 {p : Pa} {b : Int} (hv : vint b = false) (h : ¬ 64 ≤ b) (h2 : ¬ (b = 58 ∨ (59 < b ∧ (0 < (p.P.length : Int) ∨ p.pr ≠ 0)))) (h3 : 59 < b) : vcsiF p b = (⟨p.m, b, p.P, p.I, p.U⟩, []) := by rw [vcsiF_0 hv, if_neg h, if_neg h2, if_pos h3]
theorem vcsiF_4 {p : Pa} {b : Int} (hv : vint b = false) (h : b = 59) (h4 : (p.P.length : Int) = 0) : vcsiF p b = (⟨p.m, p.pr, [0, 0], p.I, p.U⟩, []) := by
  rw [vcsiF_0 hv, if_neg (by omega), if_neg (by omega), if_neg (by omega), if_pos h4, if_pos h]
theorem vcsiF_5 {p : Pa} {b : Int} (hv : vint b = false) (h : b < 58) (h4 : (p.P.length : Int) = 0) : vcsiF p b = (⟨p.m, p.pr, [min (b - 48) 65535], p.I, p.U⟩, []) := by
  rw [vcsiF_0 hv, if_neg (by omega), if_neg (by omega), if_neg (by omega), if_pos h4, if_neg (by omega)]
theorem vcsiF_6 {p : Pa} {b : Int} (hv : vint b = false) (h : b = 59) (h4 : ¬ (p.P.length : Int) = 0) (h5 : 16 ≤ (p.P.length : Int)) : vcsiF p b = (pa0 6, []) := by
  rw [vcsiF_0 hv, if_neg (by omega), if_neg (by omega), if_neg (by omega), if_neg h4, if_pos h, if_pos h5]
theorem vcsiF_7 {p : Pa} {b : Int} (hv : vint b = false) (h : b = 59) (h4 : ¬ (p.P.length : Int) = 0) (h5 : ¬ 16 ≤ (p.P.length : Int)) : vcsiF p b = (⟨p.m, p.pr, p.P ++ [0], p.I, p.U⟩, []) := by
  rw [vcsiF_0 hv, if_neg (by omega), if_neg (by omega), if_neg (by omega), if_neg h4, if_pos h, if_neg h5]
theorem vcsiF_8 {p : Pa} {b : Int} (hv : vint b = false) (h : b < 58) (h4 : ¬ (p.P.length : Int) = 0) : vcsiF p b = (⟨p.m, p.pr, digP p.P b, p.I, p.U⟩, []) := by
  rw [vcsiF_0 hv, if_neg (by omega), if_neg (by omega), if_neg (by omega), if_neg h4, if_neg (by omega)]
def paH (p : Pa) (b : Int) (n : Nat) : List DV := [.agg [.int .i64 p.m, .int .u8 p.pr, .own n 0 p.P.length, .own (n + 1) 0 p.I.length, .sl 1 (intRows .u8 p.U) .any], .int .u8 b]
def paObs (p : Pa) : List Ob := [.arr 1 (intRows .i64 p.P), .arr 1 (intRows .u8 p.I)]
def paOk (p : Pa) : Prop := inK .i64 p.P ∧ inK .u8 p.I ∧ inK .u8 p.U ∧ p.P.length ≤ 1000 ∧ p.I.length ≤ 1000 ∧ p.U.length ≤ 1000 ∧ ∀ n ∈ p.P, 0 ≤ n ∧ n ≤ 65535
theorem i64w0 : IntKind.i64.wrap 0 = 0 := by decide
def paF (x : Pa × List Ac) : DV × Objs := (paR x, [])
theorem vcsi_H {p : Pa} {b : Int} (hp : paOk p) (hb : 32 ≤ b ∧ b ≤ 255) : HCalls PG 52 (paH p b) (paObs p) (fun n => paF (vcsiF p b)) := by
  obtain ⟨m, pr, P, I, U⟩ := p
  obtain ⟨h1, h2, h3, h4, h5, h6, h7⟩ := hp
  simp only at *
  refine HCalls.by_fnF T21_ok rc_vcsi_ok (fun n => by simp [rc_vcsi, paH]) fun n => ?_
  unfold rc_vcsi
  dsimp only [paH, paObs]
  simp -implicitDefEqProofs -dsimp only [T21_b, isS_sl, List.length_set, List.take_length, i64w0, acB1, vcB1, vcB2, vcB3, vcR, ↓vcP1, ↓vcP2, ↓reduceIte, if_true, if_false, reduceCtorEq, implies_true, Nat.reduceLT, Nat.reduceLeDiff, Nat.reduceEqDiff, Nat.reduceAdd, Nat.reduceSub, Nat.reduceMul, Int.reduceLT, Int.reduceLE, Int.reduceEq, Int.reduceToNat, Int.reduceAdd, Int.reduceSub, Int.reduceNeg, List.reduceReplicate, ne_eq, exists_eq_left, exists_eq_left', Nat.reducePow, Int.reduceMul, Function.comp_apply]
  have hb' : 0 ≤ b ∧ b ≤ 255 := by omega
  refine ⟨hb', ?_⟩
  have ht1 : List.take (P.length + 1) (P ++ [0]) = P ++ [0] := List.take_of_length_le (by simp)
  have ht2 : ∀ k v, List.take P.length (P.set k v) = P.set k v := fun k v => List.take_of_length_le (by simp)
  simp only [ht1, ht2]
  cases hv : vint b
  · have h48 : 48 ≤ b := by
      simp only [vint, Bool.and_eq_false_iff, decide_eq_false_iff_not] at hv; omega
    have hw8 : IntKind.u8.wrap (b - 48) = b - 48 := wU8 (by omega) (by omega)
    have hw9 : IntKind.i64.wrap (b - 48) = b - 48 := wI64 (by omega) (by omega)
    have hw10 : IntKind.i64.wrap (0 + (b - 48)) = b - 48 := by rw [Int.zero_add]; exact hw9
    have hw11 : IntKind.i64.wrap ((P.length : Int) - 1) = (P.length : Int) - 1 := wI64 (by omega) (by omega)
    have hw12 : ((P.length : Int) - 1).toNat = P.length - 1 := by omega
    have hd : 0 < P.length → min (IntKind.i64.wrap (IntKind.i64.wrap (10 * P.getD (P.length - 1) 0) + (b - 48))) 65535 = min (10 * P.getD (P.length - 1) 0 + (b - 48)) 65535 := fun h => by
      have hmem : P.getD (P.length - 1) 0 ∈ P := by
        rw [List.getD_eq_getElem?_getD, List.getElem?_eq_getElem (by omega)]
        exact List.getElem_mem _
      have := h7 _ hmem
      rw [wI64 (n := 10 * P.getD (P.length - 1) 0) (by omega) (by omega), wI64 (by omega) (by omega)]
    simp only [hw8, hw9, hw10, hw11, hw12, cnd_false]
    clear h7 hw8 hw9 hw10 hw11 hw12 ht1 ht2
    have leaf : ∀ (x : DV) (y : Pa × List Ac), vcsiF ⟨m, pr, P, I, U⟩ b = y → wkT x (paR y) → wkT x (paF (vcsiF ⟨m, pr, P, I, U⟩ b)).1 ∧ [] = (paF (vcsiF ⟨m, pr, P, I, U⟩ b)).2 := fun x y h1 h2 => by rw [h1]; exact ⟨h2, rfl⟩
    refine ⟨fun c1 => ⟨⟨h1, h2, h3⟩, leaf _ _ (vcsiF_1 hv c1) (wkT_refl _)⟩, fun c1 => ⟨fun c2 => leaf _ _ (vcsiF_2 hv c1 (.inl c2)) ?_, fun c2 => ⟨fun c3 => ⟨fun c4 => leaf _ _ (vcsiF_2 hv c1 (.inr ⟨c3, .inl c4⟩)) ?_, fun c4 => ⟨fun c5 => ⟨fun c6 => leaf _ _ (vcsiF_3 hv c1 (by
      show ¬ (b = 58 ∨ (59 < b ∧ (0 < (P.length : Int) ∨ pr ≠ 0)))
      omega) c3) ?_, fun c6 => absurd c3 c6⟩, fun c5 => leaf _ _ (vcsiF_2 hv c1 (.inr ⟨c3, .inr c5⟩)) ?_⟩⟩, fun c3 => ?_⟩⟩⟩
    case refine_5 =>
      have hc2 : ¬ b = 58 := c2
      refine ⟨fun c6 => absurd c6 c3, fun _ => ⟨fun c7 => ⟨fun c8 => leaf _ _ (vcsiF_4 hv c8 c7) ?_, fun c8 => leaf _ _ (vcsiF_5 hv (by omega) c7) ?_⟩, fun c7 => ⟨⟨by omega, by omega⟩, fun c8 => ⟨fun c9 => leaf _ _ (vcsiF_6 hv c8 c7 c9) ?_, fun c9 => ⟨⟨by omega, by omega⟩, leaf _ _ (vcsiF_7 hv c8 c7 c9) ?_⟩⟩, fun c8 => ⟨by omega, by omega, leaf _ _ (vcsiF_8 hv (by omega) c7) ?_⟩⟩⟩⟩
      case refine_5 =>
        rw [hd (by omega)]
        simp [paR, paD, pa0, digP, wkT_tup, wkL_cons, wkL_nil, wkA_agg, wk0_int, wk0_sl, wkA_sl, acRows_nil, intRows_nil]
      all_goals simp [paR, paD, pa0, digP, wkT_tup, wkL_cons, wkL_nil, wkA_agg, wk0_int, wk0_sl, wkA_sl, acRows_nil, intRows_nil]
    all_goals simp [paR, paD, pa0, digP, wkT_tup, wkL_cons, wkL_nil, wkA_agg, wk0_int, wk0_sl, wkA_sl, acRows_nil, intRows_nil]
  · rw [cnd_true]
    have : vcsiF ⟨m, pr, P, I, U⟩ b = (⟨5, pr, P, [b], U⟩, []) := by unfold vcsiF; rw [hv, if_pos rfl]
    rw [this]
    simp [paF, paR, paD, wkT_tup, wkL_cons, wkL_nil, wkA_agg, wk0_int, wk0_sl, wkA_sl, acRows_nil]
noncomputable def rc_vcsiI : RFn := ⟨2, 32, .seq (.reg [⟨some 2, .box 5 (.t 0), none, false⟩, ⟨some 4, .alloc [.int .i64 0, .int .u8 0, .sl 0 [] .nil, .sl 0 [] .nil, .sl 0 [] .nil], none, false⟩, ⟨some 5, .mov (.c (.sl 0 [] .nil)), none, false⟩] 0 [1, 2, 4]) (.seq (.blk 0 (.seq (.reg [⟨some 7, .mov (.t 1), none, false⟩, ⟨some 8, .bin .geq (.t 7) (.c (.int .u8 64)), none, false⟩, ⟨some 6, .mov (.t 8), none, false⟩] 0 [1, 2, 4, 6]) (.cond (.t 6) (.seq (.reg [⟨some 9, .load true 5 (.t 2), none, true⟩, ⟨some 10, .mov (.t 1), none, false⟩, ⟨some 11, .call 74 [.t 9, .t 10], none, false⟩, ⟨some 12, .ext (.t 11) 0, none, false⟩, ⟨some 13, .ext (.t 11) 1, none, false⟩, ⟨none, .store 5 (.t 4) (.t 12), none, false⟩, ⟨some 5, .mov (.t 13), none, false⟩] 0 [4, 5]) .ret) (.seq (.reg [⟨some 15, .mov (.t 1), none, false⟩, ⟨some 16, .call 51 [.t 15], none, false⟩, ⟨some 17, .un .not (.t 16), none, false⟩, ⟨some 18, .mov (.t 17), none, false⟩, ⟨some 19, .faddr 3 (.t 2), some (18, false), false⟩, ⟨some 20, .load false 1 (.t 19), some (18, false), false⟩, ⟨some 21, .len (.t 20), some (18, false), false⟩, ⟨some 22, .bin .geq (.t 21) (.c (.int .i64 2)), some (18, false), false⟩, ⟨some 23, .pick (.t 18) (.c (.bool true)) (.t 22), none, false⟩, ⟨some 14, .mov (.t 23), none, false⟩] 0 [1, 2, 4, 14]) (.cond (.t 14) (.seq (.reg [⟨some 24, .call 47 [.c (.int .i64 6)], none, false⟩, ⟨none, .store 5 (.t 4) (.t 24), none, false⟩, ⟨some 5, .mov (.c (.sl 0 [] .nil)), none, false⟩] 0 [4, 5]) .ret) .skip))))) (.seq (.reg [⟨some 25, .faddr 3 (.t 2), none, false⟩, ⟨some 26, .load false 1 (.t 25), none, false⟩, ⟨some 27, .mov (.t 1), none, false⟩, ⟨some 28, .mkrow 1 [.int .u8 0] 1 [(0, (.t 27))], none, false⟩, ⟨some 29, .append 1 1 (.t 26) (.t 28), none, false⟩, ⟨some 30, .faddr 3 (.t 2), none, false⟩, ⟨none, .store 1 (.t 30) (.t 29), none, false⟩] 0 [2, 4]) (.seq (.reg [⟨some 31, .load true 5 (.t 2), none, false⟩, ⟨none, .store 5 (.t 4) (.t 31), none, false⟩, ⟨some 5, .mov (.c (.sl 0 [] .nil)), none, false⟩] 0 [4, 5]) .ret))), [.c 4 true 5, .t 5]⟩
theorem rc_vcsiI_ok : compFn PG.P [⟨0, 0, [1, 2, 4], []⟩, ⟨1, 0, [1, 2, 4, 6], []⟩, ⟨2, 0, [4, 5], [9]⟩, ⟨3, 0, [1, 2, 4, 14], []⟩, ⟨4, 0, [4, 5], []⟩, ⟨5, 0, [2, 4], []⟩, ⟨6, 0, [4, 5], []⟩] 53 = some rc_vcsiI := by kernel_rfl
noncomputable def rc_vescI : RFn := ⟨2, 29, .seq (.reg [⟨some 2, .box 5 (.t 0), none, false⟩, ⟨some 4, .alloc [.int .i64 0, .int .u8 0, .sl 0 [] .nil, .sl 0 [] .nil, .sl 0 [] .nil], none, false⟩, ⟨some 5, .mov (.c (.sl 0 [] .nil)), none, false⟩] 0 [1, 2, 4]) (.seq (.blk 0 (.seq (.reg [⟨some 7, .mov (.t 1), none, false⟩, ⟨some 8, .call 51 [.t 7], none, false⟩, ⟨some 9, .un .not (.t 8), none, false⟩, ⟨some 6, .mov (.t 9), none, false⟩] 0 [1, 2, 4, 6]) (.cond (.t 6) (.seq (.regD (.take ⟨some 11, .faddr 3 (.t 2), none, false⟩ [] (.alt (.op ⟨some 10, .call 47 [.c (.int .i64 0)], none, false⟩ (.alt (.op ⟨some 12, .load false 1 (.t 11), none, true⟩ (.take ⟨some 13, .mov (.t 1), none, false⟩ [] (.take ⟨some 14, .build [.int .i64 0, .int .i32 0, .int .u8 0, .int .u8 0, .sl 0 [] .nil, .sl 0 [] .nil] [(0, (1, (.c (.int .i64 2)))), (5, (1, (.t 12))), (2, (1, (.t 13)))], none, false⟩ [] (.alt (.op ⟨some 15, .mkrow 6 [.int .i64 0, .int .i32 0, .int .u8 0, .int .u8 0, .sl 0 [] .nil, .sl 0 [] .nil] 1 [(0, (.t 14))], none, false⟩ (.op ⟨none, .store 5 (.t 4) (.t 10), none, false⟩ (.take ⟨some 5, .mov (.t 15), none, false⟩ [] .done))) (.op ⟨none, .store 5 (.t 4) (.t 10), none, false⟩ (.op ⟨some 15, .mkrow 6 [.int .i64 0, .int .i32 0, .int .u8 0, .int .u8 0, .sl 0 [] .nil, .sl 0 [] .nil] 1 [(0, (.t 14))], none, false⟩ (.take ⟨some 5, .mov (.t 15), none, false⟩ [] .done))))))) (.alt (.op ⟨some 13, .mov (.t 1), none, false⟩ (.alt (.op ⟨some 12, .load false 1 (.t 11), none, true⟩ (.take ⟨some 14, .build [.int .i64 0, .int .i32 0, .int .u8 0, .int .u8 0, .sl 0 [] .nil, .sl 0 [] .nil] [(0, (1, (.c (.int .i64 2)))), (5, (1, (.t 12))), (2, (1, (.t 13)))], none, false⟩ [] (.alt (.op ⟨some 15, .mkrow 6 [.int .i64 0, .int .i32 0, .int .u8 0, .int .u8 0, .sl 0 [] .nil, .sl 0 [] .nil] 1 [(0, (.t 14))], none, false⟩ (.op ⟨none, .store 5 (.t 4) (.t 10), none, false⟩ (.take ⟨some 5, .mov (.t 15), none, false⟩ [] .done))) (.op ⟨none, .store 5 (.t 4) (.t 10), none, false⟩ (.op ⟨some 15, .mkrow 6 [.int .i64 0, .int .i32 0, .int .u8 0, .int .u8 0, .sl 0 [] .nil, .sl 0 [] .nil] 1 [(0, (.t 14))], none, false⟩ (.take ⟨some 5, .mov (.t 15), none, false⟩ [] .done)))))) (.op ⟨none, .store 5 (.t 4) (.t 10), none, false⟩ (.op ⟨some 12, .load false 1 (.t 11), none, true⟩ (.take ⟨some 14, .build [.int .i64 0, .int .i32 0, .int .u8 0, .int .u8 0, .sl 0 [] .nil, .sl 0 [] .nil] [(0, (1, (.c (.int .i64 2)))), (5, (1, (.t 12))), (2, (1, (.t 13)))], none, false⟩ [] (.op ⟨some 15, .mkrow 6 [.int .i64 0, .int .i32 0, .int .u8 0, .int .u8 0, .sl 0 [] .nil, .sl 0 [] .nil] 1 [(0, (.t 14))], none, false⟩ (.take ⟨some 5, .mov (.t 15), none, false⟩ [] .done))))))) (.op ⟨none, .store 5 (.t 4) (.t 10), none, false⟩ (.alt (.op ⟨some 12, .load false 1 (.t 11), none, true⟩ (.take ⟨some 13, .mov (.t 1), none, false⟩ [] (.take ⟨some 14, .build [.int .i64 0, .int .i32 0, .int .u8 0, .int .u8 0, .sl 0 [] .nil, .sl 0 [] .nil] [(0, (1, (.c (.int .i64 2)))), (5, (1, (.t 12))), (2, (1, (.t 13)))], none, false⟩ [] (.op ⟨some 15, .mkrow 6 [.int .i64 0, .int .i32 0, .int .u8 0, .int .u8 0, .sl 0 [] .nil, .sl 0 [] .nil] 1 [(0, (.t 14))], none, false⟩ (.take ⟨some 5, .mov (.t 15), none, false⟩ [] .done))))) (.op ⟨some 13, .mov (.t 1), none, false⟩ (.op ⟨some 12, .load false 1 (.t 11), none, true⟩ (.take ⟨some 14, .build [.int .i64 0, .int .i32 0, .int .u8 0, .int .u8 0, .sl 0 [] .nil, .sl 0 [] .nil] [(0, (1, (.c (.int .i64 2)))), (5, (1, (.t 12))), (2, (1, (.t 13)))], none, false⟩ [] (.op ⟨some 15, .mkrow 6 [.int .i64 0, .int .i32 0, .int .u8 0, .int .u8 0, .sl 0 [] .nil, .sl 0 [] .nil] 1 [(0, (.t 14))], none, false⟩ (.take ⟨some 5, .mov (.t 15), none, false⟩ [] .done)))))))))) (.alt (.op ⟨some 12, .load false 1 (.t 11), none, true⟩ (.take ⟨some 13, .mov (.t 1), none, false⟩ [] (.take ⟨some 14, .build [.int .i64 0, .int .i32 0, .int .u8 0, .int .u8 0, .sl 0 [] .nil, .sl 0 [] .nil] [(0, (1, (.c (.int .i64 2)))), (5, (1, (.t 12))), (2, (1, (.t 13)))], none, false⟩ [] (.alt (.op ⟨some 10, .call 47 [.c (.int .i64 0)], none, false⟩ (.alt (.op ⟨some 15, .mkrow 6 [.int .i64 0, .int .i32 0, .int .u8 0, .int .u8 0, .sl 0 [] .nil, .sl 0 [] .nil] 1 [(0, (.t 14))], none, false⟩ (.op ⟨none, .store 5 (.t 4) (.t 10), none, false⟩ (.take ⟨some 5, .mov (.t 15), none, false⟩ [] .done))) (.op ⟨none, .store 5 (.t 4) (.t 10), none, false⟩ (.op ⟨some 15, .mkrow 6 [.int .i64 0, .int .i32 0, .int .u8 0, .int .u8 0, .sl 0 [] .nil, .sl 0 [] .nil] 1 [(0, (.t 14))], none, false⟩ (.take ⟨some 5, .mov (.t 15), none, false⟩ [] .done))))) (.op ⟨some 15, .mkrow 6 [.int .i64 0, .int .i32 0, .int .u8 0, .int .u8 0, .sl 0 [] .nil, .sl 0 [] .nil] 1 [(0, (.t 14))], none, false⟩ (.op ⟨some 10, .call 47 [.c (.int .i64 0)], none, false⟩ (.op ⟨none, .store 5 (.t 4) (.t 10), none, false⟩ (.take ⟨some 5, .mov (.t 15), none, false⟩ [] .done)))))))) (.op ⟨some 13, .mov (.t 1), none, false⟩ (.alt (.op ⟨some 10, .call 47 [.c (.int .i64 0)], none, false⟩ (.alt (.op ⟨some 12, .load false 1 (.t 11), none, true⟩ (.take ⟨some 14, .build [.int .i64 0, .int .i32 0, .int .u8 0, .int .u8 0, .sl 0 [] .nil, .sl 0 [] .nil] [(0, (1, (.c (.int .i64 2)))), (5, (1, (.t 12))), (2, (1, (.t 13)))], none, false⟩ [] (.alt (.op ⟨some 15, .mkrow 6 [.int .i64 0, .int .i32 0, .int .u8 0, .int .u8 0, .sl 0 [] .nil, .sl 0 [] .nil] 1 [(0, (.t 14))], none, false⟩ (.op ⟨none, .store 5 (.t 4) (.t 10), none, false⟩ (.take ⟨some 5, .mov (.t 15), none, false⟩ [] .done))) (.op ⟨none, .store 5 (.t 4) (.t 10), none, false⟩ (.op ⟨some 15, .mkrow 6 [.int .i64 0, .int .i32 0, .int .u8 0, .int .u8 0, .sl 0 [] .nil, .sl 0 [] .nil] 1 [(0, (.t 14))], none, false⟩ (.take ⟨some 5, .mov (.t 15), none, false⟩ [] .done)))))) (.op ⟨none, .store 5 (.t 4) (.t 10), none, false⟩ (.op ⟨some 12, .load false 1 (.t 11), none, true⟩ (.take ⟨some 14, .build [.int .i64 0, .int .i32 0, .int .u8 0, .int .u8 0, .sl 0 [] .nil, .sl 0 [] .nil] [(0, (1, (.c (.int .i64 2)))), (5, (1, (.t 12))), (2, (1, (.t 13)))], none, false⟩ [] (.op ⟨some 15, .mkrow 6 [.int .i64 0, .int .i32 0, .int .u8 0, .int .u8 0, .sl 0 [] .nil, .sl 0 [] .nil] 1 [(0, (.t 14))], none, false⟩ (.take ⟨some 5, .mov (.t 15), none, false⟩ [] .done))))))) (.op ⟨some 12, .load false 1 (.t 11), none, true⟩ (.take ⟨some 14, .build [.int .i64 0, .int .i32 0, .int .u8 0, .int .u8 0, .sl 0 [] .nil, .sl 0 [] .nil] [(0, (1, (.c (.int .i64 2)))), (5, (1, (.t 12))), (2, (1, (.t 13)))], none, false⟩ [] (.alt (.op ⟨some 10, .call 47 [.c (.int .i64 0)], none, false⟩ (.alt (.op ⟨some 15, .mkrow 6 [.int .i64 0, .int .i32 0, .int .u8 0, .int .u8 0, .sl 0 [] .nil, .sl 0 [] .nil] 1 [(0, (.t 14))], none, false⟩ (.op ⟨none, .store 5 (.t 4) (.t 10), none, false⟩ (.take ⟨some 5, .mov (.t 15), none, false⟩ [] .done))) (.op ⟨none, .store 5 (.t 4) (.t 10), none, false⟩ (.op ⟨some 15, .mkrow 6 [.int .i64 0, .int .i32 0, .int .u8 0, .int .u8 0, .sl 0 [] .nil, .sl 0 [] .nil] 1 [(0, (.t 14))], none, false⟩ (.take ⟨some 5, .mov (.t 15), none, false⟩ [] .done))))) (.op ⟨some 15, .mkrow 6 [.int .i64 0, .int .i32 0, .int .u8 0, .int .u8 0, .sl 0 [] .nil, .sl 0 [] .nil] 1 [(0, (.t 14))], none, false⟩ (.op ⟨some 10, .call 47 [.c (.int .i64 0)], none, false⟩ (.op ⟨none, .store 5 (.t 4) (.t 10), none, false⟩ (.take ⟨some 5, .mov (.t 15), none, false⟩ [] .done)))))))))))) 0 [4, 5]) .ret) (.seq (.reg [⟨some 17, .faddr 3 (.t 2), none, false⟩, ⟨some 18, .load false 1 (.t 17), none, false⟩, ⟨some 19, .len (.t 18), none, false⟩, ⟨some 20, .bin .geq (.t 19) (.c (.int .i64 2)), none, false⟩, ⟨some 16, .mov (.t 20), none, false⟩] 0 [1, 2, 4, 16]) (.cond (.t 16) (.seq (.reg [⟨some 21, .call 47 [.c (.int .i64 3)], none, false⟩, ⟨none, .store 5 (.t 4) (.t 21), none, false⟩, ⟨some 5, .mov (.c (.sl 0 [] .nil)), none, false⟩] 0 [4, 5]) .ret) .skip))))) (.seq (.reg [⟨some 22, .faddr 3 (.t 2), none, false⟩, ⟨some 23, .load false 1 (.t 22), none, false⟩, ⟨some 24, .mov (.t 1), none, false⟩, ⟨some 25, .mkrow 1 [.int .u8 0] 1 [(0, (.t 24))], none, false⟩, ⟨some 26, .append 1 1 (.t 23) (.t 25), none, false⟩, ⟨some 27, .faddr 3 (.t 2), none, false⟩, ⟨none, .store 1 (.t 27) (.t 26), none, false⟩] 0 [2, 4]) (.seq (.reg [⟨some 28, .load true 5 (.t 2), none, false⟩, ⟨none, .store 5 (.t 4) (.t 28), none, false⟩, ⟨some 5, .mov (.c (.sl 0 [] .nil)), none, false⟩] 0 [4, 5]) .ret))), [.c 4 true 5, .t 5]⟩
theorem rc_vescI_ok : compFn PG.P [⟨0, 0, [1, 2, 4], []⟩, ⟨1, 0, [1, 2, 4, 6], []⟩, ⟨2, 0, [4, 5], [12]⟩, ⟨3, 0, [1, 2, 4, 16], []⟩, ⟨4, 0, [4, 5], []⟩, ⟨5, 0, [2, 4], []⟩, ⟨6, 0, [4, 5], []⟩] 50 = some rc_vescI := by kernel_rfl
noncomputable def rc_vesc : RFn := ⟨2, 32, .seq (.reg [⟨some 2, .box 5 (.t 0), none, false⟩, ⟨some 4, .alloc [.int .i64 0, .int .u8 0, .sl 0 [] .nil, .sl 0 [] .nil, .sl 0 [] .nil], none, false⟩, ⟨some 5, .mov (.c (.sl 0 [] .nil)), none, false⟩] 0 [1, 4]) (.seq (.blk 0 (.seq (.reg [⟨some 7, .mov (.t 1), none, false⟩, ⟨some 8, .call 51 [.t 7], none, false⟩, ⟨some 6, .mov (.t 8), none, false⟩] 0 [1, 4, 6]) (.cond (.t 6) (.seq (.reg [⟨some 9, .mov (.t 1), none, false⟩, ⟨some 10, .mkrow 1 [.int .u8 0] 1 [(0, (.t 9))], none, false⟩, ⟨some 11, .build [.int .i64 0, .int .u8 0, .sl 0 [] .nil, .sl 0 [] .nil, .sl 0 [] .nil] [(0, (1, (.c (.int .i64 2)))), (3, (1, (.t 10)))], none, false⟩, ⟨none, .store 5 (.t 4) (.t 11), none, false⟩, ⟨some 5, .mov (.c (.sl 0 [] .nil)), none, false⟩] 0 [4, 5]) .ret) (.seq (.reg [⟨some 13, .mov (.t 1), none, false⟩, ⟨some 14, .bin .eql (.t 13) (.c (.int .u8 91)), none, false⟩, ⟨some 12, .mov (.t 14), none, false⟩] 0 [1, 4, 12]) (.cond (.t 12) (.seq (.reg [⟨some 15, .call 47 [.c (.int .i64 4)], none, false⟩, ⟨none, .store 5 (.t 4) (.t 15), none, false⟩, ⟨some 5, .mov (.c (.sl 0 [] .nil)), none, false⟩] 0 [4, 5]) .ret) (.seq (.seq (.reg [⟨some 17, .mov (.t 1), none, false⟩, ⟨some 18, .bin .eql (.t 17) (.c (.int .u8 93)), none, false⟩, ⟨some 16, .mov (.t 18), none, false⟩] 0 [1, 4, 16]) (.cond (.t 16) .skip (.seq (.reg [⟨some 19, .mov (.t 1), none, false⟩, ⟨some 20, .bin .eql (.t 19) (.c (.int .u8 80)), none, false⟩, ⟨some 16, .mov (.t 20), none, false⟩] 0 [1, 4, 16]) (.cond (.t 16) .skip (.seq (.reg [⟨some 21, .mov (.t 1), none, false⟩, ⟨some 22, .bin .eql (.t 21) (.c (.int .u8 88)), none, false⟩, ⟨some 16, .mov (.t 22), none, false⟩] 0 [1, 4, 16]) (.cond (.t 16) .skip (.seq (.reg [⟨some 23, .mov (.t 1), none, false⟩, ⟨some 24, .bin .eql (.t 23) (.c (.int .u8 94)), none, false⟩, ⟨some 16, .mov (.t 24), none, false⟩] 0 [1, 4, 16]) (.cond (.t 16) .skip (.reg [⟨some 25, .mov (.t 1), none, false⟩, ⟨some 26, .bin .eql (.t 25) (.c (.int .u8 95)), none, false⟩, ⟨some 16, .mov (.t 26), none, false⟩] 0 [1, 4, 16]))))))))) (.cond (.t 16) (.seq (.reg [⟨some 27, .call 47 [.c (.int .i64 7)], none, false⟩, ⟨none, .store 5 (.t 4) (.t 27), none, false⟩, ⟨some 5, .mov (.c (.sl 0 [] .nil)), none, false⟩] 0 [4, 5]) .ret) .skip))))))) (.seq (.reg [⟨some 28, .call 47 [.c (.int .i64 0)], none, false⟩, ⟨some 29, .mov (.t 1), none, false⟩, ⟨some 30, .build [.int .i64 0, .int .i32 0, .int .u8 0, .int .u8 0, .sl 0 [] .nil, .sl 0 [] .nil] [(0, (1, (.c (.int .i64 2)))), (2, (1, (.t 29)))], none, false⟩, ⟨some 31, .mkrow 6 [.int .i64 0, .int .i32 0, .int .u8 0, .int .u8 0, .sl 0 [] .nil, .sl 0 [] .nil] 1 [(0, (.t 30))], none, false⟩, ⟨none, .store 5 (.t 4) (.t 28), none, false⟩, ⟨some 5, .mov (.t 31), none, false⟩] 0 [4, 5]) .ret)), [.c 4 true 5, .t 5]⟩
theorem rc_vesc_ok : compFn PG.P [⟨0, 0, [1, 4], []⟩, ⟨1, 0, [1, 4, 6], []⟩, ⟨2, 0, [4, 5], []⟩, ⟨3, 0, [1, 4, 12], []⟩, ⟨4, 0, [4, 5], []⟩, ⟨5, 0, [1, 4, 16], []⟩, ⟨6, 0, [1, 4, 16], []⟩, ⟨7, 0, [1, 4, 16], []⟩, ⟨8, 0, [1, 4, 16], []⟩, ⟨9, 0, [1, 4, 16], []⟩, ⟨10, 0, [4, 5], []⟩, ⟨11, 0, [4, 5], []⟩] 49 = some rc_vesc := by kernel_rfl
noncomputable def rc_vground_l0 : RC := (.seq (.reg [⟨some 23, .bin .lss (.t 22) (.t 21), none, false⟩] 0 [2, 4, 8, 20, 21, 22, 23]) (.seq (.cond (.t 23) .skip (.ext 0)) (.seq (.blk 1 (.seq (.reg [⟨some 24, .iaddr 1 (.t 20) (.t 22), none, false⟩, ⟨some 25, .load false 1 (.t 24), none, false⟩, ⟨some 10, .mov (.t 25), none, false⟩] 0 [2, 4, 8, 10, 20, 21, 22]) (.reg [⟨some 26, .mov (.t 8), none, false⟩, ⟨some 27, .mov (.t 10), none, false⟩, ⟨some 28, .build [.int .i64 0, .int .i32 0, .int .u8 0, .int .u8 0, .sl 0 [] .nil, .sl 0 [] .nil] [(0, (1, (.c (.int .i64 0)))), (1, (1, (.t 27)))], none, false⟩, ⟨some 29, .mkrow 6 [.int .i64 0, .int .i32 0, .int .u8 0, .int .u8 0, .sl 0 [] .nil, .sl 0 [] .nil] 1 [(0, (.t 28))], none, false⟩, ⟨some 30, .append 6 64 (.t 26) (.t 29), none, false⟩, ⟨some 8, .mov (.t 30), none, false⟩] 0 [2, 4, 8, 20, 21, 22]))) (.reg [⟨some 31, .bin .add (.t 22) (.c (.int .i64 1)), none, false⟩, ⟨some 22, .mov (.t 31), none, false⟩] 0 [2, 4, 8, 20, 21, 22]))))
noncomputable def rc_vground : RFn := ⟨2, 34, .seq (.reg [⟨some 2, .box 5 (.t 0), none, false⟩, ⟨some 4, .alloc [.int .i64 0, .int .u8 0, .sl 0 [] .nil, .sl 0 [] .nil, .sl 0 [] .nil], none, false⟩, ⟨some 5, .mov (.c (.sl 0 [] .nil)), none, false⟩] 0 [1, 2, 4]) (.seq (.reg [⟨some 12, .faddr 4 (.t 2), none, false⟩, ⟨some 13, .load false 1 (.t 12), none, false⟩, ⟨some 14, .mov (.t 1), none, false⟩, ⟨some 15, .call 29 [.t 13, .t 14], none, false⟩, ⟨some 11, .mov (.t 15), none, false⟩, ⟨some 16, .ext (.t 11) 0, none, false⟩, ⟨some 17, .ext (.t 11) 1, none, false⟩, ⟨some 6, .mov (.t 16), none, false⟩, ⟨some 7, .mov (.t 17), none, false⟩] 0 [2, 4, 6, 7]) (.seq (.reg [⟨some 18, .mov (.t 6), none, false⟩, ⟨some 19, .faddr 4 (.t 2), none, false⟩, ⟨none, .store 1 (.t 19) (.t 18), none, false⟩] 0 [2, 4, 7]) (.seq (.reg [⟨some 8, .mov (.c (.sl 0 [] .nil)), none, false⟩] 0 [2, 4, 7, 8]) (.seq (.seq (.reg [⟨some 20, .mov (.t 7), none, false⟩, ⟨some 21, .len (.t 20), none, false⟩, ⟨some 22, .mov (.c (.int .i64 0)), none, false⟩] 0 [2, 4, 8, 20, 21, 22]) (.blk 0 (.loop rc_vground_l0))) (.seq (.reg [⟨some 32, .load true 5 (.t 2), none, false⟩, ⟨some 33, .mov (.t 8), none, false⟩, ⟨none, .store 5 (.t 4) (.t 32), none, false⟩, ⟨some 5, .mov (.t 33), none, false⟩] 0 [4, 5]) .ret))))), [.c 4 true 5, .t 5]⟩
theorem rc_vground_ok : compFn PG.P [⟨0, 0, [1, 2, 4], []⟩, ⟨1, 0, [2, 4, 6, 7], []⟩, ⟨2, 0, [2, 4, 7], []⟩, ⟨3, 0, [2, 4, 7, 8], []⟩, ⟨4, 0, [2, 4, 8, 20, 21, 22], []⟩, ⟨5, 0, [2, 4, 8, 20, 21, 22, 23], []⟩, ⟨6, 0, [2, 4, 8, 10, 20, 21, 22], []⟩, ⟨7, 0, [2, 4, 8, 20, 21, 22], []⟩, ⟨8, 0, [2, 4, 8, 20, 21, 22], []⟩, ⟨9, 0, [4, 5], []⟩] 48 = some rc_vground := by kernel_rfl
def vcsiIF (p : Pa) (b : Int) : Pa × List Ac :=
  if 64 ≤ b then vactF p b
  else if vint b = false ∨ 2 ≤ (p.I.length : Int) then (pa0 6, [])
  else (⟨p.m, p.pr, p.P, p.I ++ [b], p.U⟩, [])
theorem vcsiI_H {p : Pa} {b : Int} (hp : paOk p) (hb : 0 ≤ b ∧ b ≤ 255) : HCalls PG 53 (paH p b) (paObs p) (fun n => paF (vcsiIF p b)) := by
  obtain ⟨m, pr, P, I, U⟩ := p
  obtain ⟨h1, h2, h3, h4, h5, h6, h7⟩ := hp
  simp only at *
  refine HCalls.by_fnF T21_ok rc_vcsiI_ok (fun n => by simp [rc_vcsiI, paH]) fun n => ?_
  unfold rc_vcsiI
  dsimp only [paH, paObs]
  simp -implicitDefEqProofs -dsimp only [T21_b, isS_sl, List.length_set, List.take_length, i64w0, acB1, vcB1, vcB2, vcB3, vcR, ↓vcP1, ↓vcP2, ↓reduceIte, if_true, if_false, reduceCtorEq, implies_true, Nat.reduceLT, Nat.reduceLeDiff, Nat.reduceEqDiff, Nat.reduceAdd, Nat.reduceSub, Nat.reduceMul, Int.reduceLT, Int.reduceLE, Int.reduceEq, Int.reduceToNat, Int.reduceAdd, Int.reduceSub, Int.reduceNeg, List.reduceReplicate, ne_eq, exists_eq_left, exists_eq_left', Nat.reducePow, Int.reduceMul, Function.comp_apply]
  have ht1 : List.take (I.length + 1) (I ++ [b]) = I ++ [b] := List.take_of_length_le (by simp)
  rw [ht1]
  have leaf : ∀ (x : DV) (y : Pa × List Ac), vcsiIF ⟨m, pr, P, I, U⟩ b = y → wkT x (paR y) → wkT x (paF (vcsiIF ⟨m, pr, P, I, U⟩ b)).1 ∧ [] = (paF (vcsiIF ⟨m, pr, P, I, U⟩ b)).2 := fun x y h1 h2 => by rw [h1]; exact ⟨h2, rfl⟩
  refine ⟨fun c1 => ⟨⟨h1, h2, h3⟩, leaf _ _ (by unfold vcsiIF; rw [if_pos c1]) (wkT_refl _)⟩, fun c1 => ⟨hb, ?_⟩⟩
  cases hv : vint b
  · rw [cnd_false]
    refine leaf _ (pa0 6, []) (by unfold vcsiIF; rw [if_neg c1, if_pos (.inl hv)]) ?_
    simp [paR, paD, pa0, digP, wkT_tup, wkL_cons, wkL_nil, wkA_agg, wk0_int, wk0_sl, wkA_sl, acRows_nil, intRows_nil]
  · rw [cnd_true]
    refine ⟨fun c2 => leaf _ (pa0 6, []) (by unfold vcsiIF; rw [if_neg c1, if_pos (.inr c2)]) ?_, fun c2 => ⟨⟨by omega, by omega⟩, leaf _ (⟨m, pr, P, I ++ [b], U⟩, []) (by unfold vcsiIF; rw [if_neg c1, if_neg (by rw [hv]; simp; exact Int.not_le.1 c2)]) ?_⟩⟩
    all_goals simp [paR, paD, pa0, digP, wkT_tup, wkL_cons, wkL_nil, wkA_agg, wk0_int, wk0_sl, wkA_sl, acRows_nil, intRows_nil]
def vescIF (p : Pa) (b : Int) : Pa × List Ac :=
  if vint b = false then (pa0 0, [⟨2, 0, b, 0, none, some p.I⟩])
  else if 2 ≤ (p.I.length : Int) then (pa0 3, [])
  else (⟨p.m, p.pr, p.P, p.I ++ [b], p.U⟩, [])
theorem vescI_H {p : Pa} {b : Int} (hp : paOk p) (hb : 0 ≤ b ∧ b ≤ 255) : HCalls PG 50 (paH p b) (paObs p) (fun n => paF (vescIF p b)) := by
  obtain ⟨m, pr, P, I, U⟩ := p
  obtain ⟨h1, h2, h3, h4, h5, h6, h7⟩ := hp
  simp only at *
  refine HCalls.by_fnF T21_ok rc_vescI_ok (fun n => by simp [rc_vescI, paH]) fun n => ?_
  unfold rc_vescI
  dsimp only [paH, paObs]
  simp -implicitDefEqProofs -dsimp only [T21_b, isS_sl, List.length_set, List.take_length, i64w0, acB1, vcB1, vcB2, vcB3, vcR, ↓vcP1, ↓vcP2, ↓reduceIte, if_true, if_false, reduceCtorEq, implies_true, Nat.reduceLT, Nat.reduceLeDiff, Nat.reduceEqDiff, Nat.reduceAdd, Nat.reduceSub, Nat.reduceMul, Int.reduceLT, Int.reduceLE, Int.reduceEq, Int.reduceToNat, Int.reduceAdd, Int.reduceSub, Int.reduceNeg, List.reduceReplicate, ne_eq, exists_eq_left, exists_eq_left', Nat.reducePow, Int.reduceMul, Function.comp_apply]
  have ht1 : List.take (I.length + 1) (I ++ [b]) = I ++ [b] := List.take_of_length_le (by simp)
  rw [ht1]
  have leaf : ∀ (x : DV) (y : Pa × List Ac), vescIF ⟨m, pr, P, I, U⟩ b = y → wkT x (paR y) → wkT x (paF (vescIF ⟨m, pr, P, I, U⟩ b)).1 ∧ [] = (paF (vescIF ⟨m, pr, P, I, U⟩ b)).2 := fun x y h1 h2 => by rw [h1]; exact ⟨h2, rfl⟩
  refine ⟨hb, ?_⟩
  cases hv : vint b
  · rw [cnd_false]
    refine leaf _ (pa0 0, [⟨2, 0, b, 0, none, some I⟩]) (by unfold vescIF; rw [hv, if_pos rfl]) ?_
    simp [paR, paD, pa0, digP, wkT_tup, wkL_cons, wkL_nil, wkA_agg, wk0_int, wk0_sl, wkA_sl, acRows_nil, intRows_nil]
  · rw [cnd_true]
    refine ⟨fun c2 => leaf _ (pa0 3, []) (by unfold vescIF; rw [hv, if_neg (by decide), if_pos c2]) ?_, fun c2 => ⟨⟨by omega, by omega⟩, leaf _ (⟨m, pr, P, I ++ [b], U⟩, []) (by unfold vescIF; rw [hv, if_neg (by decide), if_neg c2]) ?_⟩⟩
    all_goals simp [paR, paD, pa0, digP, wkT_tup, wkL_cons, wkL_nil, wkA_agg, wk0_int, wk0_sl, wkA_sl, acRows_nil, intRows_nil]
def vescF (b : Int) : Pa × List Ac :=
  if vint b = true then (⟨2, 0, [], [b], []⟩, [])
  else if b = 91 then (pa0 4, [])
  else if b = 93 ∨ b = 80 ∨ b = 88 ∨ b = 94 ∨ b = 95 then (pa0 7, [])
  else (pa0 0, [⟨2, 0, b, 0, none, none⟩])
theorem vesc_H {p : Pa} {b : Int} (hp : paOk p) (hb : 0 ≤ b ∧ b ≤ 255) : HCalls PG 49 (paH p b) (paObs p) (fun n => paF (vescF b)) := by
  obtain ⟨m, pr, P, I, U⟩ := p
  obtain ⟨h1, h2, h3, h4, h5, h6, h7⟩ := hp
  simp only at *
  refine HCalls.by_fnF T21_ok rc_vesc_ok (fun n => by simp [rc_vesc, paH]) fun n => ?_
  unfold rc_vesc
  dsimp only [paH, paObs]
  simp -implicitDefEqProofs -dsimp only [T21_b, isS_sl, List.length_set, List.take_length, i64w0, acB1, vcB1, vcB2, vcB3, vcR, ↓vcP1, ↓vcP2, ↓reduceIte, if_true, if_false, reduceCtorEq, implies_true, Nat.reduceLT, Nat.reduceLeDiff, Nat.reduceEqDiff, Nat.reduceAdd, Nat.reduceSub, Nat.reduceMul, Int.reduceLT, Int.reduceLE, Int.reduceEq, Int.reduceToNat, Int.reduceAdd, Int.reduceSub, Int.reduceNeg, List.reduceReplicate, ne_eq, exists_eq_left, exists_eq_left', Nat.reducePow, Int.reduceMul, Function.comp_apply]
  refine ⟨hb, ?_⟩
  have leaf : ∀ (x : DV) (y : Pa × List Ac), vescF b = y → wkT x (paR y) → wkT x (paF (vescF b)).1 ∧ [] = (paF (vescF b)).2 := fun x y h1 h2 => by rw [h1]; exact ⟨h2, rfl⟩
  cases hv : vint b
  · rw [cnd_false]
    have e0 : vescF b = if b = 91 then (pa0 4, []) else if b = 93 ∨ b = 80 ∨ b = 88 ∨ b = 94 ∨ b = 95 then (pa0 7, []) else (pa0 0, [⟨2, 0, b, 0, none, none⟩]) := by unfold vescF; rw [hv, if_neg (by decide)]
    have e1 : b = 91 → vescF b = (pa0 4, []) := fun h => by rw [e0, if_pos h]
    have e2 : ¬ b = 91 → (b = 93 ∨ b = 80 ∨ b = 88 ∨ b = 94 ∨ b = 95) → vescF b = (pa0 7, []) := fun h h2 => by rw [e0, if_neg h, if_pos h2]
    have e3 : ¬ b = 91 → ¬ (b = 93 ∨ b = 80 ∨ b = 88 ∨ b = 94 ∨ b = 95) → vescF b = (pa0 0, [⟨2, 0, b, 0, none, none⟩]) := fun h h2 => by rw [e0, if_neg h, if_neg h2]
    refine ⟨fun c1 => leaf _ _ (e1 c1) ?_, fun c1 => ⟨fun c2 => leaf _ _ (e2 c1 (by omega)) ?_, fun c2 => ⟨fun c3 => leaf _ _ (e2 c1 (by omega)) ?_, fun c3 => ⟨fun c4 => leaf _ _ (e2 c1 (by omega)) ?_, fun c4 => ⟨fun c5 => leaf _ _ (e2 c1 (by omega)) ?_, fun c5 => ?_⟩⟩⟩⟩⟩
    case refine_6 => exact ⟨fun c6 => leaf _ _ (e2 c1 (by omega)) (by simp [paR, paD, pa0, digP, wkT_tup, wkL_cons, wkL_nil, wkA_agg, wk0_int, wk0_sl, wkA_sl, acRows_nil, intRows_nil]), fun c6 => leaf _ _ (e3 c1 (by omega)) (by simp [paR, paD, pa0, digP, wkT_tup, wkL_cons, wkL_nil, wkA_agg, wk0_int, wk0_sl, wkA_sl, acRows_nil, intRows_nil])⟩
    all_goals simp [paR, paD, pa0, digP, wkT_tup, wkL_cons, wkL_nil, wkA_agg, wk0_int, wk0_sl, wkA_sl, acRows_nil, intRows_nil]
  · rw [cnd_true]
    refine leaf _ (⟨2, 0, [], [b], []⟩, []) (by unfold vescF; rw [hv, if_pos rfl]) ?_
    simp [paR, paD, pa0, digP, wkT_tup, wkL_cons, wkL_nil, wkA_agg, wk0_int, wk0_sl, wkA_sl, acRows_nil, intRows_nil]
def vgroundF (p : Pa) (b : Int) : Pa × List Ac := (⟨p.m, p.pr, p.P, p.I, (ustep p.U b).1⟩, (ustep p.U b).2.map fun r => ⟨0, r, 0, 0, none, none⟩)
theorem vground_H {p : Pa} {b : Int} (hp : paOk p) (hb : 0 ≤ b ∧ b ≤ 255) : HCalls PG 48 (paH p b) (paObs p) (fun n => paF (vgroundF p b)) := by
  obtain ⟨m, pr, P, I, U⟩ := p
  obtain ⟨h1, h2, h3, h4, h5, h6, h7⟩ := hp
  simp only at *
  refine HCalls.by_fnF T21_ok rc_vground_ok (fun n => by simp [rc_vground, paH]) fun n => ?_
  unfold rc_vground
  dsimp only [paH, paObs]
  simp -implicitDefEqProofs -dsimp only [T21_b, isS_sl, ints_intRows, List.length_set, List.take_length, i64w0, acB1, vcB1, vcB2, vcB3, vcR, ↓vcP1, ↓vcP2, ↓reduceIte, if_true, if_false, reduceCtorEq, implies_true, Nat.reduceLT, Nat.reduceLeDiff, Nat.reduceEqDiff, Nat.reduceAdd, Nat.reduceSub, Nat.reduceMul, Int.reduceLT, Int.reduceLE, Int.reduceEq, Int.reduceToNat, Int.reduceAdd, Int.reduceSub, Int.reduceNeg, List.reduceReplicate, ne_eq, exists_eq_left, exists_eq_left', Nat.reducePow, Int.reduceMul, Function.comp_apply]
  have hU : U.length ≤ 1000000 := by omega
  refine ⟨⟨h3, hU, hb⟩, ?_⟩
  have hr := ustep_r h3 hb hU
  have hl2 := ustep_len U b
  have hgF : vgroundF ⟨m, pr, P, I, U⟩ b = (⟨m, pr, P, I, (ustep U b).1⟩, (ustep U b).2.map fun r => ⟨0, r, 0, 0, none, none⟩) := rfl
  rw [hgF]
  generalize (ustep U b).2 = R at hr hl2 ⊢
  generalize (ustep U b).1 = U1
  clear hgF
  refine LoopWp.own 8 6 rfl (.inl rfl) ?_
  refine LoopWp.invR T21_ok (S := fun k (i : Nat) => ⟨[(2, .ptr k 0 0), (4, .ptr (k + 1) 0 0), (8, .own (k + 2) 0 i), (20, .sl 1 (intRows .i32 R) .any), (21, .int .i64 R.length), (22, .int .i64 i)],
    List.replicate k none ++ [some (.box [.int .i64 m, .int .u8 pr, .own (k + 3) 0 P.length, .own (k + 4) 0 I.length, .sl 1 (intRows .u8 U1) .any]), some (.box [.int .i64 0, .int .u8 0, .sl 0 [] .nil, .sl 0 [] .nil, .sl 0 [] .nil]),
      some (.arr 6 (acRows ((R.take i).map fun r => ⟨0, r, 0, 0, none, none⟩))), some (.arr 1 (intRows .i64 P)), some (.arr 1 (intRows .u8 I))]⟩) (I := fun i => i ≤ R.length) (μ := fun i => R.length - i) (n + 2) 0 (by omega) ?_ ?_
  · simp -implicitDefEqProofs -dsimp only [List.take_zero, acB1, vcB1, vcB2, vcB3, vcR, ↓vcP1, ↓vcP2, ↓reduceIte, if_true, if_false, reduceCtorEq, implies_true, Nat.reduceLT, Nat.reduceLeDiff, Nat.reduceEqDiff, Nat.reduceAdd, Nat.reduceSub, Nat.reduceMul, Int.reduceLT, Int.reduceLE, Int.reduceEq, Int.reduceToNat, Int.reduceAdd, Int.reduceSub, Int.reduceNeg, List.reduceReplicate, ne_eq, exists_eq_left, exists_eq_left', Nat.reducePow, Int.reduceMul, Function.comp_apply]
  · intro k i hk hi
    have hL : ((R.take i).map fun r => (⟨0, r, 0, 0, none, none⟩ : Ac)).length = i := by rw [List.length_map, List.length_take]; omega
    unfold rc_vground_l0
    simp -implicitDefEqProofs -dsimp only [T21_b, hL, isS_sl, ints_intRows, List.length_set, List.take_length, acB1, vcB1, vcB2, vcB3, vcR, ↓vcP1, ↓vcP2, ↓reduceIte, if_true, if_false, reduceCtorEq, implies_true, Nat.reduceLT, Nat.reduceLeDiff, Nat.reduceEqDiff, Nat.reduceAdd, Nat.reduceSub, Nat.reduceMul, Int.reduceLT, Int.reduceLE, Int.reduceEq, Int.reduceToNat, Int.reduceAdd, Int.reduceSub, Int.reduceNeg, List.reduceReplicate, ne_eq, exists_eq_left, exists_eq_left', Nat.reducePow, Int.reduceMul, Function.comp_apply]
    refine ⟨fun h => ?_, fun h => ?_⟩
    · have h0 : i < R.length := by omega
      refine ⟨⟨by omega, h⟩, h0, ⟨by omega, by omega⟩, by omega, i + 1, ⟨⟨rfl, by rw [wI64] <;> omega⟩, ?_⟩, by omega, by omega⟩
      have hgd : R.getD i 0 = R[i] := by rw [List.getD_eq_getElem?_getD, List.getElem?_eq_getElem h0]; rfl
      rw [List.take_succ_eq_append_getElem h0, List.map_append, hgd]
      rfl
    · have h1 : i = R.length := by omega
      subst h1
      rw [List.take_length, List.take_of_length_le (by simp)]
      exact ⟨by omega, wkT_refl _, rfl⟩
def F_hand (g : Pa → Int → Pa × List Ac) (q : Int → Prop) : List DV → Option HSpec
  | [.agg [.int .i64 m, .int .u8 pr, .own o1 f1 n1, .own o2 f2 n2, u], .int .u8 b] => some ⟨fun T => ¬ o1 = o2 ∧ f1 = 0 ∧ f2 = 0 ∧ isOwn .i64 n1 T[o1]? ∧ isOwn .u8 n2 T[o2]? ∧ isS .u8 u ∧ paOk ⟨m, pr, objInts T[o1]?, objInts T[o2]?, intsD u⟩ ∧ q b,
      fun T => (paR (g ⟨m, pr, objInts T[o1]?, objInts T[o2]?, intsD u⟩ b), killL [o1, o2] T ++ [none, none])⟩
  | _ => none
theorem F_hand_1 (g : Pa → Int → Pa × List Ac) (q : Int → Prop) (m pr b : Int) (o1 f1 n1 o2 f2 n2 : Nat) (u : DV) : F_hand g q [.agg [.int .i64 m, .int .u8 pr, .own o1 f1 n1, .own o2 f2 n2, u], .int .u8 b] =
    some ⟨fun T => ¬ o1 = o2 ∧ f1 = 0 ∧ f2 = 0 ∧ isOwn .i64 n1 T[o1]? ∧ isOwn .u8 n2 T[o2]? ∧ isS .u8 u ∧ paOk ⟨m, pr, objInts T[o1]?, objInts T[o2]?, intsD u⟩ ∧ q b,
      fun T => (paR (g ⟨m, pr, objInts T[o1]?, objInts T[o2]?, intsD u⟩ b), killL [o1, o2] T ++ [none, none])⟩ := nrfl _
theorem hand_ok {f : Nat} {g : Pa → Int → Pa × List Ac} {q : Int → Prop} (h : ∀ p b, paOk p → q b → HCalls PG f (paH p b) (paObs p) (fun n => paF (g p b))) (args : List DV) (s : HSpec) (hs : F_hand g q args = some s) : HOk PG f args s := by
  unfold F_hand at hs
  split at hs
  · rename_i m pr o1 f1 n1 o2 f2 n2 u b
    obtain rfl := sj hs
    intro T K ⟨p1, p2, p3, p4, p5, p6, p7, p8⟩ hK
    subst p2 p3
    obtain ⟨e1, l1, k1⟩ := isOwn_inv p4
    obtain ⟨e2, l2, k2⟩ := isOwn_inv p5
    obtain ⟨e3, k3⟩ := isS_inv p6
    refine CallK.hand [o1, o2] _ (by simp [p1]) rfl (fun i o ob ho hob => ?_) (fun d hd o ho => ?_) ?_ (h _ b p7 p8) (by simpa [paF] using hK)
    · rcases i with _ | _ | i
      · simp [paObs] at ho hob; subst ho hob; exact e1
      · simp [paObs] at ho hob; subst ho hob; exact e2
      · simp at ho
    · simp only [List.mem_cons, List.not_mem_nil, or_false] at hd
      rcases hd with rfl | rfl
      · rw [e3] at ho
        simp [idsT, idsA, ids0] at ho
        simp; exact ho
      · simp [idsT, idsA, ids0] at ho
    · simp only [paH, List.map_cons, List.map_nil, canT, canA, can0, pos, l1, l2]
      rw [e3]
      simp [canT, canA, can0, pos, p1, intsD_sl]
  · cases hs
end Go.Proofs.YtjmnbpilnneonaaDoor
