/- Texts K18, K19, K20 in one. -/
import Derived.Test.YtdimdjcnkmkbjaaDoorN5
set_option linter.unusedVariables false
set_option linter.unusedSimpArgs false
set_option maxRecDepth 10000
namespace Go.Proofs.YtdimdjcnkmkbjaaDoor
open Go.RowKit
section
open Go.ChangeShapes Go.WideShapes
theorem conf_ints {k : IntKind} {d : DV} (h : Conf (.sl [.int k]) d) : ∃ l, d = .sl 1 (intRows k l) .any ∧ (∀ n ∈ l, k.min ≤ n ∧ n ≤ k.max) := by
  cases h with
  | sl row rows h1 h2 h3 =>
    refine ⟨ints rows, ?_, ?_⟩
    · congr 1
      have : ∀ R : List (List DV), (∀ r ∈ R, r.length = 1) → (∀ r ∈ R, ∀ (i : Nat) c d, [CS.int k][i]? = some c → r[i]? = some d → Conf c d) → R = intRows k (ints R) := by
        intro R
        induction R with
        | nil => intro _ _; rfl
        | cons r R ih =>
          intro g1 g2
          have g3 := g1 r (by simp)
          match r, g3 with
          | [c], _ =>
            have g4 := g2 [c] (by simp) 0 (.int k) c rfl rfl
            cases g4 with
            | int k n a b =>
              have := ih (fun r hr => g1 r (by simp [hr])) (fun r hr => g2 r (by simp [hr]))
              conv => lhs; rw [this]
              simp [ints, intRows]
      exact this rows h2 h3
    · intro n hn
      simp only [ints, List.mem_map] at hn
      obtain ⟨r, hr, rfl⟩ := hn
      have g3 := h2 r hr
      match r, g3 with
      | [c], _ =>
        have g4 := h3 [c] hr 0 (.int k) c rfl rfl
        cases g4 with
        | int k n a b => exact ⟨a, b⟩
theorem confA_ints {k : IntKind} {d : DV} (h : ConfA (false, [.sl [.int k]]) d) : ∃ l, d = .sl 1 (intRows k l) .any ∧ (∀ n ∈ l, k.min ≤ n ∧ n ≤ k.max) := by
  obtain ⟨c, h1, h2⟩ := h
  obtain rfl := (List.cons.inj h1).1
  exact conf_ints h2
def goOn : Int → List Int → Option Int
  | r, [] => some r
  | r, b :: l => if b % 256 / 64 * 64 = 128 then goOn (r * 64 + b % 64) l else none
def wholeF (l : List Int) : Int × Bool :=
  let c := l.getD 0 0
  let fin (n : Nat) (least r : Int) : Int × Bool := if (l.length : Int) = n then match goOn r (l.drop 1) with
    | some r => (r, decide (least ≤ r) && may r)
    | none => (0, false) else (0, false)
  if 192 ≤ c ∧ c < 224 then fin 2 128 (c % 32)
  else if 224 ≤ c ∧ c < 240 then fin 3 2048 (c % 16)
  else if 240 ≤ c ∧ c < 248 then fin 4 65536 (c % 8)
  else if 128 ≤ c then (0, false)
  else fin 1 0 c
def F_whole : List DV → Option FSpec
  | [a_l] => some ⟨isInts .u8 a_l ∧ 0 < (intsD a_l).length, fun n => (.tup [.int .i32 (wholeF (intsD a_l)).1, .bool (wholeF (intsD a_l)).2], [])⟩
  | _ => none
def T11 : FL := (68, F_whole) :: T10
def usualN (m : Int) : Nat := if m = 0 then 51 else if m = 1 then 17 else 39
theorem usual_len (m : Int) (h : 0 ≤ m ∧ m ≤ 2) : (usualF m).length = usualN m := by
  obtain rfl | rfl | rfl : m = 0 ∨ m = 1 ∨ m = 2 := by omega
  all_goals decide +kernel
end
def LM (m : Int) : List Bd := useL (usualF m)
def seqAt (m : Int) (k : Nat) : Bd := (usualF m).getD k default
theorem seqs_go : ∀ m ∈ [(0 : Int), 1, 2], ∀ k < (usualF m).length, ∀ i < (seqAt m k).seq.length - 1, yfirF (LM m) false ((seqAt m k).seq.take (i + 1)) = (none, (seqAt m k).seq.take (i + 1)) ∧ ((seqAt m k).seq.take (i + 1)).take (longG (LM m) ((seqAt m k).seq.take (i + 1))) ≠ beginL := by decide +kernel
theorem seqs_end : ∀ m ∈ [(0 : Int), 1, 2], ∀ k < (usualF m).length, (yfirF (LM m) false (seqAt m k).seq = (some ⟨0, (seqAt m k).cmd, (seqAt m k).seq, 0, []⟩, []) ∨ yfirF (LM m) false (seqAt m k).seq = (none, (seqAt m k).seq) ∧ yfirF (LM m) true (seqAt m k).seq = (some ⟨0, (seqAt m k).cmd, (seqAt m k).seq, 0, []⟩, [])) ∧ (seqAt m k).seq.take (longG (LM m) (seqAt m k).seq) ≠ beginL ∧ 1 ≤ (seqAt m k).seq.length ∧ (seqAt m k).seq.length ≤ 8 := by decide +kernel
theorem seqs_ahead : ∀ m ∈ [(0 : Int), 1, 2], ∀ b < 4, yfirF (LM m) false [81 + (b : Nat)] = (some (kyR (81 + (b : Nat))), []) ∧ [(81 : Int) + (b : Nat)].take (longG (LM m) [81 + (b : Nat)]) ≠ beginL := by decide +kernel
noncomputable def rc_yseqs_l0 : RC := (.seq (.seq (.reg [⟨some 54, .mov (.t 12), none, false⟩] 0 [2, 8, 9, 10, 11, 54]) (.cond (.t 54) .skip (.ext 2))) (.seq (.blk 3 .skip) (.seq (.seq (.reg [⟨some 60, .load true 5 (.t 11), none, false⟩] 0 [2, 8, 9, 10, 60]) (.reg [⟨some 11, .alloc [.int .i64 0, .str [], .sl 0 [] .nil, .int .i32 0, .sl 0 [] .nil], none, false⟩, ⟨none, .store 5 (.t 11) (.t 60), none, false⟩] 0 [2, 8, 9, 10, 11])) (.reg [⟨some 56, .mov (.t 9), none, false⟩, ⟨some 57, .call 20 [.t 56], none, false⟩, ⟨some 55, .mov (.t 57), none, false⟩, ⟨some 58, .ext (.t 55) 0, none, false⟩, ⟨some 59, .ext (.t 55) 1, none, false⟩, ⟨some 12, .mov (.t 59), none, false⟩] 0 [2, 8, 9, 10, 11, 12]))))
noncomputable def rc_yseqs_l1 : RC := (.seq (.seq (.reg [⟨some 37, .mov (.t 10), none, false⟩, ⟨some 38, .mov (.t 2), none, false⟩, ⟨some 39, .len (.t 38), none, false⟩, ⟨some 40, .bin .lss (.t 37) (.t 39), none, false⟩] 0 [2, 8, 9, 10, 40]) (.cond (.t 40) .skip (.ext 0))) (.seq (.blk 1 (.seq (.reg [⟨some 44, .mov (.t 9), none, false⟩, ⟨some 45, .mov (.t 2), none, false⟩, ⟨some 46, .mov (.t 10), none, false⟩, ⟨some 47, .iaddr 1 (.t 45) (.t 46), none, false⟩, ⟨some 48, .load false 1 (.t 47), none, false⟩, ⟨some 49, .bin .rem (.t 48) (.c (.int .u8 4)), none, false⟩, ⟨some 50, .bin .add (.c (.int .u8 81)) (.t 49), none, false⟩, ⟨some 51, .call 18 [.t 44, .t 50, .c (.int .i64 0)], none, false⟩, ⟨some 43, .mov (.t 51), none, false⟩, ⟨some 52, .ext (.t 43) 0, none, false⟩, ⟨some 53, .ext (.t 43) 1, none, false⟩, ⟨some 11, .alloc [.int .i64 0, .str [], .sl 0 [] .nil, .int .i32 0, .sl 0 [] .nil], none, false⟩, ⟨none, .store 5 (.t 11) (.t 52), none, false⟩, ⟨some 12, .mov (.t 53), none, false⟩] 0 [2, 8, 9, 10, 11, 12]) (.blk 2 (.loop rc_yseqs_l0)))) (.reg [⟨some 41, .mov (.t 10), none, false⟩, ⟨some 42, .bin .add (.t 41) (.c (.int .i64 1)), none, false⟩, ⟨some 10, .mov (.t 42), none, false⟩] 0 [2, 8, 9, 10])))
noncomputable def rc_yseqs_l2 : RC := (.seq (.seq (.reg [⟨some 61, .mov (.t 13), none, false⟩, ⟨some 62, .faddr 0 (.t 8), none, false⟩, ⟨some 63, .load false 1 (.t 62), none, false⟩, ⟨some 64, .len (.t 63), none, false⟩, ⟨some 65, .bin .lss (.t 61) (.t 64), none, false⟩] 0 [8, 9, 13, 65]) (.cond (.t 65) .skip (.ext 4))) (.seq (.blk 5 (.seq (.reg [⟨some 69, .mov (.t 9), none, false⟩, ⟨some 70, .faddr 0 (.t 8), none, false⟩, ⟨some 71, .load false 1 (.t 70), none, false⟩, ⟨some 72, .mov (.t 13), none, false⟩, ⟨some 73, .iaddr 1 (.t 71) (.t 72), none, false⟩, ⟨some 74, .load false 1 (.t 73), none, false⟩, ⟨some 75, .call 18 [.t 69, .t 74, .c (.int .i64 9)], none, false⟩, ⟨some 68, .mov (.t 75), none, false⟩, ⟨some 76, .ext (.t 68) 0, none, false⟩, ⟨some 77, .ext (.t 68) 1, none, false⟩, ⟨some 14, .alloc [.int .i64 0, .str [], .sl 0 [] .nil, .int .i32 0, .sl 0 [] .nil], none, false⟩, ⟨none, .store 5 (.t 14) (.t 76), none, false⟩, ⟨some 15, .mov (.t 77), none, false⟩] 0 [8, 9, 13, 14, 15]) (.seq (.seq (.reg [⟨some 78, .mov (.t 15), none, false⟩, ⟨some 79, .mov (.t 13), none, false⟩, ⟨some 80, .faddr 0 (.t 8), none, false⟩, ⟨some 81, .load false 1 (.t 80), none, false⟩, ⟨some 82, .len (.t 81), none, false⟩, ⟨some 83, .bin .sub (.t 82) (.c (.int .i64 1)), none, false⟩, ⟨some 84, .bin .eql (.t 79) (.t 83), none, false⟩, ⟨some 85, .eqB true (.t 78) (.t 84), none, false⟩] 0 [8, 9, 13, 14, 15, 85]) (.cond (.t 85) (.seq (.reg [⟨some 87, .mov (.t 9), none, false⟩, ⟨some 88, .call 13 [.t 87, .c (.int .i64 59)], none, false⟩, ⟨some 86, .mov (.t 88), none, false⟩, ⟨some 89, .ext (.t 86) 0, none, false⟩, ⟨some 90, .ext (.t 86) 1, none, false⟩, ⟨some 16, .alloc [.int .i64 0, .str [], .sl 0 [] .nil, .int .i32 0, .sl 0 [] .nil], none, false⟩, ⟨none, .store 5 (.t 16) (.t 89), none, false⟩, ⟨some 17, .mov (.t 90), none, false⟩] 0 [8, 13, 15, 16, 17]) (.seq (.reg [⟨some 91, .mov (.t 15), none, false⟩, ⟨some 92, .un .not (.t 91), none, false⟩, ⟨some 93, .mov (.t 92), none, false⟩, ⟨some 94, .mov (.t 13), some (93, true), false⟩, ⟨some 95, .faddr 0 (.t 8), some (93, true), false⟩, ⟨some 96, .load false 1 (.t 95), some (93, true), false⟩, ⟨some 97, .len (.t 96), some (93, true), false⟩, ⟨some 98, .bin .sub (.t 97) (.c (.int .i64 1)), some (93, true), false⟩, ⟨some 99, .bin .eql (.t 94) (.t 98), some (93, true), false⟩, ⟨some 100, .pick (.t 93) (.t 99) (.c (.bool false)), none, false⟩, ⟨some 101, .mov (.t 100), none, false⟩, ⟨some 102, .mov (.t 17), some (101, true), false⟩, ⟨some 103, .pick (.t 101) (.t 102) (.c (.bool false)), none, false⟩, ⟨some 104, .mov (.t 103), none, false⟩, ⟨some 105, .faddr 1 (.t 16), some (104, true), false⟩, ⟨some 106, .load false 1 (.t 105), some (104, true), false⟩, ⟨some 107, .faddr 1 (.t 8), some (104, true), false⟩, ⟨some 108, .load false 1 (.t 107), some (104, true), false⟩, ⟨some 109, .bin .eql (.t 106) (.t 108), some (104, true), false⟩, ⟨some 110, .pick (.t 104) (.t 109) (.c (.bool false)), none, false⟩, ⟨some 6, .mov (.t 110), none, false⟩] 0 [6]) .ret)) .skip)) (.seq (.reg [⟨some 111, .mov (.t 15), none, false⟩, ⟨some 112, .mov (.t 111), none, false⟩, ⟨some 113, .faddr 0 (.t 14), some (112, true), false⟩, ⟨some 114, .load false 1 (.t 113), some (112, true), false⟩, ⟨some 115, .bin .neq (.t 114) (.c (.int .i64 0)), some (112, true), false⟩, ⟨some 116, .mov (.t 115), some (112, true), false⟩, ⟨some 117, .faddr 1 (.t 14), some (116, false), false⟩, ⟨some 118, .load false 1 (.t 117), some (116, false), false⟩, ⟨some 119, .faddr 1 (.t 8), some (116, false), false⟩, ⟨some 120, .load false 1 (.t 119), some (116, false), false⟩, ⟨some 121, .bin .neq (.t 118) (.t 120), some (116, false), false⟩, ⟨some 122, .pick (.t 116) (.c (.bool true)) (.t 121), some (112, true), false⟩, ⟨some 123, .mov (.t 122), some (112, true), false⟩, ⟨some 124, .faddr 2 (.t 14), some (123, false), false⟩, ⟨some 125, .load false 1 (.t 124), some (123, false), false⟩, ⟨some 126, .conv .b2s (.t 125), some (123, false), false⟩, ⟨some 127, .faddr 0 (.t 8), some (123, false), false⟩, ⟨some 128, .load false 1 (.t 127), some (123, false), false⟩, ⟨some 129, .conv .b2s (.t 128), some (123, false), false⟩, ⟨some 130, .bin .neq (.t 126) (.t 129), some (123, false), false⟩, ⟨some 131, .pick (.t 123) (.c (.bool true)) (.t 130), some (112, true), false⟩, ⟨some 132, .pick (.t 112) (.t 131) (.c (.bool false)), none, false⟩] 0 [8, 9, 13, 132]) (.cond (.t 132) (.seq (.reg [⟨some 6, .mov (.c (.bool false)), none, false⟩] 0 [6]) .ret) .skip))))) (.reg [⟨some 66, .mov (.t 13), none, false⟩, ⟨some 67, .bin .add (.t 66) (.c (.int .i64 1)), none, false⟩, ⟨some 13, .mov (.t 67), none, false⟩] 0 [8, 9, 13])))
noncomputable def rc_yseqs : RFn := ⟨3, 136, .seq (.reg [⟨some 6, .mov (.c (.bool false)), none, false⟩] 0 [0, 1, 2]) (.seq (.seq (.reg [⟨some 18, .call 8 [], none, false⟩, ⟨some 19, .un .not (.t 18), none, false⟩] 0 [0, 1, 2, 19]) (.cond (.t 19) (.seq (.reg [⟨some 6, .mov (.c (.bool false)), none, false⟩] 0 [6]) .ret) .skip)) (.seq (.seq (.reg [⟨some 20, .mov (.t 2), none, false⟩, ⟨some 21, .len (.t 20), none, false⟩, ⟨some 22, .bin .gtr (.t 21) (.c (.int .i64 10)), none, false⟩] 0 [0, 1, 2, 22]) (.cond (.t 22) (.seq (.reg [⟨some 6, .mov (.c (.bool true)), none, false⟩] 0 [6]) .ret) .skip)) (.seq (.reg [⟨some 23, .mov (.t 1), none, false⟩, ⟨some 24, .bin .rem (.t 23) (.c (.int .u8 3)), none, false⟩, ⟨some 25, .conv (.i2i .i64) (.t 24), none, false⟩, ⟨some 26, .call 10 [.t 25], none, false⟩, ⟨some 7, .mov (.t 26), none, false⟩] 0 [0, 2, 7]) (.seq (.reg [⟨some 27, .mov (.t 7), none, false⟩, ⟨some 28, .mov (.t 0), none, false⟩, ⟨some 29, .conv (.i2i .i64) (.t 28), none, false⟩, ⟨some 30, .mov (.t 7), none, false⟩, ⟨some 31, .len (.t 30), none, false⟩, ⟨some 32, .bin .rem (.t 29) (.t 31), none, false⟩, ⟨some 33, .iaddr 2 (.t 27) (.t 32), none, false⟩, ⟨some 34, .load true 2 (.t 33), none, false⟩, ⟨some 8, .alloc [.sl 0 [] .nil, .str []], none, false⟩, ⟨none, .store 2 (.t 8) (.t 34), none, false⟩] 0 [2, 7, 8]) (.seq (.reg [⟨some 35, .mov (.t 7), none, false⟩, ⟨some 36, .call 11 [.t 35], none, false⟩, ⟨some 9, .mov (.t 36), none, false⟩] 0 [2, 8, 9]) (.seq (.seq (.reg [⟨some 10, .mov (.c (.int .i64 0)), none, false⟩] 0 [2, 8, 9, 10]) (.blk 0 (.loop rc_yseqs_l1))) (.seq (.seq (.reg [⟨some 13, .mov (.c (.int .i64 0)), none, false⟩] 0 [8, 9, 13]) (.blk 4 (.loop rc_yseqs_l2))) (.seq (.reg [⟨some 133, .mov (.t 9), none, false⟩, ⟨some 134, .call 24 [.t 133], none, false⟩, ⟨some 135, .bin .eql (.t 134) (.c (.int .i64 0)), none, false⟩, ⟨some 6, .mov (.t 135), none, false⟩] 0 [6]) .ret)))))))), [.t 6]⟩
theorem rc_yseqs_ok : compFn PG.P [⟨0, 0, [0, 1, 2], []⟩, ⟨1, 0, [0, 1, 2, 19], []⟩, ⟨2, 0, [6], []⟩, ⟨3, 0, [0, 1, 2, 22], []⟩, ⟨4, 0, [6], []⟩, ⟨5, 0, [0, 2, 7], []⟩, ⟨6, 0, [2, 7, 8], []⟩, ⟨7, 0, [2, 8, 9], []⟩, ⟨8, 0, [2, 8, 9, 10], []⟩, ⟨9, 0, [2, 8, 9, 10, 40], []⟩, ⟨10, 0, [2, 8, 9, 10], []⟩, ⟨11, 0, [2, 8, 9, 10, 11, 12], []⟩, ⟨12, 0, [2, 8, 9, 10, 11, 54], []⟩, ⟨13, 0, [2, 8, 9, 10, 11, 12], []⟩, ⟨14, 0, [2, 8, 9, 10, 60], []⟩, ⟨15, 0, [2, 8, 9, 10, 11], []⟩, ⟨16, 0, [8, 9, 13], []⟩, ⟨17, 0, [8, 9, 13, 65], []⟩, ⟨18, 0, [8, 9, 13], []⟩, ⟨19, 0, [8, 9, 13, 14, 15], []⟩, ⟨20, 0, [8, 9, 13, 14, 15, 85], []⟩, ⟨21, 0, [8, 13, 15, 16, 17], []⟩, ⟨22, 0, [6], []⟩, ⟨23, 0, [8, 9, 13, 132], []⟩, ⟨24, 0, [6], []⟩, ⟨25, 0, [6], []⟩] 5 = some rc_yseqs := by kernel_rfl
theorem kseqs_K {T : Objs} {k m : Int} {l : List Int} {kk : SK} {K : DV → Objs → Prop} (hk : 0 ≤ k ∧ k ≤ 255) (hm : 0 ≤ m ∧ m ≤ 255) (hl0 : ∀ n ∈ l, IntKind.u8.min ≤ n ∧ n ≤ IntKind.u8.max) (hK : ∀ T', K (.bool true) T') :
    CallK PG 5 [.int .u8 k, .int .u8 m, .sl 1 (intRows .u8 l) kk] T K := by
  by_cases h10 : 10 < l.length
  · have h10' : (10 : Int) < l.length := by omega
    refine CallK.of_fn FOk.nil rc_yseqs_ok (by simp [rc_yseqs]) ?_
    unfold rc_yseqs
    dsimp only
    simp -implicitDefEqProofs -dsimp only [vcS, ↓vcP1, ↓vcP2, ↓reduceIte, reduceCtorEq, Nat.reduceLT, Nat.reduceLeDiff, Nat.reduceEqDiff, Nat.reduceAdd, Nat.reduceSub, Nat.reduceMul, Int.reduceLT, Int.reduceLE, Int.reduceEq, Int.reduceToNat, Int.reduceAdd, Int.reduceSub, Int.reduceNeg, List.reduceReplicate, Nat.reducePow, Int.reduceMul]
    refine yknown_K fun T1 k1 => ?_
    simp -implicitDefEqProofs -dsimp only [tb_at, Bool.not_true, intRows_length, h10', vcS, ↓vcP1, ↓vcP2, ↓reduceIte, reduceCtorEq, Nat.reduceLT, Nat.reduceLeDiff, Nat.reduceEqDiff, Nat.reduceAdd, Nat.reduceSub, Nat.reduceMul, Int.reduceLT, Int.reduceLE, Int.reduceEq, Int.reduceToNat, Int.reduceAdd, Int.reduceSub, Int.reduceNeg, List.reduceReplicate, Nat.reducePow, Int.reduceMul]
    exact ⟨k1.1, hK _⟩
  · have h10' : ¬ (10 : Int) < l.length := by omega
    have hl : inK .u8 l := ⟨by omega, hl0⟩
    obtain ⟨r, hr, hmr⟩ : ∃ r : Int, (0 ≤ r ∧ r ≤ 2) ∧ m.tmod 3 = r := ⟨m % 3, by omega, Int.tmod_eq_emod_of_nonneg hm.1⟩
    have hrm : r ∈ [(0 : Int), 1, 2] := by simp; omega
    have hw1 : IntKind.i64.wrap r = r := wI64 (by omega) (by omega)
    have hw2 : IntKind.i64.wrap k = k := wI64 (by omega) (by omega)
    have hn : 0 < (usualF r).length ∧ (usualF r).length ≤ 51 := by rw [usual_len r hr]; unfold usualN; split <;> (try split) <;> omega
    obtain ⟨j, hj, hkj⟩ : ∃ j : Nat, j < (usualF r).length ∧ k.tmod ((usualF r).length : Int) = (j : Int) := by
      refine ⟨(k % ((usualF r).length : Int)).toNat, ?_, ?_⟩
      · have := Int.emod_lt_of_pos k (b := ((usualF r).length : Int)) (by omega)
        have := Int.emod_nonneg k (b := ((usualF r).length : Int)) (by omega)
        omega
      · rw [Int.tmod_eq_emod_of_nonneg hk.1]
        have := Int.emod_nonneg k (b := ((usualF r).length : Int)) (by omega)
        omega
    have hj' : (j : Int) < (usualF r).length := by omega
    have hj0 : (0 : Int) ≤ j := by omega
    have hn0 : ¬ ((usualF r).length : Int) = 0 := by omega
    have hw3 : IntKind.i64.wrap (j : Int) = j := wI64 (by omega) (by omega)
    have g : (bdRows (usualF r))[j]? = some [.sl 1 (intRows .u8 (seqAt r j).seq) .any, .str (seqAt r j).cmd] := bdRows_get (L := usualF r) (i := j) hj
    have gl : (bdRows (usualF r)).length = (usualF r).length := bdRows_len _
    refine CallK.of_fn FOk.nil rc_yseqs_ok (by simp [rc_yseqs]) ?_
    unfold rc_yseqs
    dsimp only
    simp -implicitDefEqProofs -dsimp only [vcS, ↓vcP1, ↓vcP2, ↓reduceIte, reduceCtorEq, Nat.reduceLT, Nat.reduceLeDiff, Nat.reduceEqDiff, Nat.reduceAdd, Nat.reduceSub, Nat.reduceMul, Int.reduceLT, Int.reduceLE, Int.reduceEq, Int.reduceToNat, Int.reduceAdd, Int.reduceSub, Int.reduceNeg, List.reduceReplicate, Nat.reducePow, Int.reduceMul]
    refine yknown_K fun T1 k1 => ?_
    simp -implicitDefEqProofs -dsimp only [tb_at, Bool.not_true, intRows_length, h10', hmr, hw1, vcS, ↓vcP1, ↓vcP2, ↓reduceIte, reduceCtorEq, Nat.reduceLT, Nat.reduceLeDiff, Nat.reduceEqDiff, Nat.reduceAdd, Nat.reduceSub, Nat.reduceMul, Int.reduceLT, Int.reduceLE, Int.reduceEq, Int.reduceToNat, Int.reduceAdd, Int.reduceSub, Int.reduceNeg, List.reduceReplicate, Nat.reducePow, Int.reduceMul]
    refine usual_K hr fun T2 q hq gq k2 => ?_
    simp -implicitDefEqProofs -dsimp only [tb_at, tb_all gq, hw2, hw3, hkj, hj', hj0, hn0, g, gl, Nat.zero_add, vcS, ↓vcP1, ↓vcP2, ↓reduceIte, reduceCtorEq, Nat.reduceLT, Nat.reduceLeDiff, Nat.reduceEqDiff, Nat.reduceAdd, Nat.reduceSub, Nat.reduceMul, Int.reduceLT, Int.reduceLE, Int.reduceEq, Int.reduceToNat, Int.reduceAdd, Int.reduceSub, Int.reduceNeg, List.reduceReplicate, Nat.reducePow, Int.reduceMul]
    generalize hBX : Ob.box [.sl 1 (intRows .u8 (seqAt r j).seq) .any, .str (seqAt r j).cmd] = BX
    refine ynew_K (tb_f gq _) (by omega) (usual_in r hr) fun T3 o c h k3 ho hc hh D3 => ?_
    simp -implicitDefEqProofs -dsimp only [tb_at, intRows_length, vcS, ↓vcP1, ↓vcP2, ↓reduceIte, reduceCtorEq, Nat.reduceLT, Nat.reduceLeDiff, Nat.reduceEqDiff, Nat.reduceAdd, Nat.reduceSub, Nat.reduceMul, Int.reduceLT, Int.reduceLE, Int.reduceEq, Int.reduceToNat, Int.reduceAdd, Int.reduceSub, Int.reduceNeg, List.reduceReplicate, Nat.reducePow, Int.reduceMul]
    have B3 := k3.at (tb_get0 T2 [] (some BX)) (by simp)
    simp only [List.length_append, List.length_cons, List.length_nil] at ho hc hh
    have l2 := k2.1
    have l1 := k1.1
    have l3 := k3.1
    simp only [List.length_append, List.length_cons, List.length_nil] at l3
    refine LoopWp.inv FOk.nil (S := fun s : Objs × Nat => ⟨[(2, .sl 1 (intRows .u8 l) kk), (8, .ptr T2.length 0 0), (9, .ptr o 0 0), (10, .int .i64 s.2)], s.1⟩)
      (I := fun s => s.2 ≤ l.length ∧ T.length ≤ s.1.length ∧ s.1[T2.length]? = some (some BX) ∧ ∃ d at', DecAt s.1 o c h d (LM r) [] false 0 at' ∧ ∀ q off m, d = .own q off m → T2.length < q) (μ := fun s => l.length - s.2) (T3, 0) ⟨by simp, by dsimp only; omega, B3, _, _, D3, by simp⟩ ?_ ?_
    · simp -implicitDefEqProofs -dsimp only [vcS, ↓vcP1, ↓vcP2, ↓reduceIte, reduceCtorEq, Nat.reduceLT, Nat.reduceLeDiff, Nat.reduceEqDiff, Nat.reduceAdd, Nat.reduceSub, Nat.reduceMul, Int.reduceLT, Int.reduceLE, Int.reduceEq, Int.reduceToNat, Int.reduceAdd, Int.reduceSub, Int.reduceNeg, List.reduceReplicate, Nat.reducePow, Int.reduceMul]
    · intro ⟨T5, i⟩ ⟨i1, i2, i3, d5, at5, D5, i5⟩
      dsimp only at i1 i2 i3 D5 ⊢
      by_cases hc : i < l.length
      · have hc' : (i : Int) < l.length := by omega
        have hc0 : (0 : Int) ≤ i := by omega
        have hw : IntKind.i64.wrap ((i : Int) + 1) = ((i + 1 : Nat) : Int) := by rw [wI64 (by omega) (by omega)]; omega
        have hby := hl.u8 (n := l.getD i 0) (getD_mem hc)
        obtain ⟨t, ht, hbt⟩ : ∃ t : Nat, t < 4 ∧ (l.getD i 0).tmod 4 = (t : Int) := ⟨(l.getD i 0 % 4).toNat, by omega, by rw [Int.tmod_eq_emod_of_nonneg hby.1]; omega⟩
        have hw8 : IntKind.u8.wrap (81 + (t : Int)) = 81 + (t : Int) := by rw [IntKind.wrap_u8]; omega
        obtain ⟨f1, f2⟩ := seqs_ahead r hrm t ht
        unfold rc_yseqs_l1
        simp -implicitDefEqProofs -dsimp only [tb_at, hc', hc0, hw, hbt, hw8, intRows_length, vcS, ↓vcP1, ↓vcP2, ↓reduceIte, reduceCtorEq, Nat.reduceLT, Nat.reduceLeDiff, Nat.reduceEqDiff, Nat.reduceAdd, Nat.reduceSub, Nat.reduceMul, Int.reduceLT, Int.reduceLE, Int.reduceEq, Int.reduceToNat, Int.reduceAdd, Int.reduceSub, Int.reduceNeg, List.reduceReplicate, Nat.reducePow, Int.reduceMul]
        have l5 := tb_lt i3
        refine ⟨hc, yfeed_K D5 (by omega) (by simp) f2 fun T6 d6 v6 ids6 hi6 k6 D6 n6 y6 => ?_⟩
        rw [List.nil_append, f1] at D6 y6 ⊢
        have B6 := k6.at i3 (fun hm => by
          rcases hi6 _ hm with h | ⟨off, m, h⟩
          · omega
          · have := i5 _ _ _ h; omega)
        have l6 := k6.1
        obtain ⟨s1, s2, kk1, kk2, rfl⟩ := y6.vals
        dsimp only [Option.getD_some, kyR, Option.isSome_some] at D6 ⊢
        simp -implicitDefEqProofs -dsimp only [tb_at, vcS, ↓vcP1, ↓vcP2, ↓reduceIte, reduceCtorEq, Nat.reduceLT, Nat.reduceLeDiff, Nat.reduceEqDiff, Nat.reduceAdd, Nat.reduceSub, Nat.reduceMul, Int.reduceLT, Int.reduceLE, Int.reduceEq, Int.reduceToNat, Int.reduceAdd, Int.reduceSub, Int.reduceNeg, List.reduceReplicate, Nat.reducePow, Int.reduceMul]
        have B7 := tb_f B6 [some (Ob.box [.int .i64 1, .str [], .sl s1 (intRows .u8 []) kk1, .int .i32 (81 + (t : Int)), .sl s2 (intRows .i32 []) kk2])]
        have X7 := tb_get0 T6 [] (some (Ob.box [.int .i64 1, .str [], .sl s1 (intRows .u8 []) kk1, .int .i32 (81 + (t : Int)), .sl s2 (intRows .i32 []) kk2]))
        have D7 := (D6.fin0 [some (Ob.box [.int .i64 1, .str [], .sl s1 (intRows .u8 []) kk1, .int .i32 (81 + (t : Int)), .sl s2 (intRows .i32 []) kk2])]).2.1
        have L7 : T.length ≤ (T6 ++ [some (Ob.box [.int .i64 1, .str [], .sl s1 (intRows .u8 []) kk1, .int .i32 (81 + (t : Int)), .sl s2 (intRows .i32 []) kk2])]).length := by simp; omega
        refine LoopWp.inv FOk.nil (S := fun s : Objs × Nat × Bool => ⟨[(2, .sl 1 (intRows .u8 l) kk), (8, .ptr T2.length 0 0), (9, .ptr o 0 0), (10, .int .i64 i), (11, .ptr s.2.1 0 0), (12, .bool s.2.2)], s.1⟩)
          (I := fun s => T.length ≤ s.1.length ∧ s.1[T2.length]? = some (some BX) ∧ (∃ d at', DecAt s.1 o c h d (LM r) [] false 0 at' ∧ ∀ q off m, d = .own q off m → T2.length < q) ∧ ∃ a b s1 r1 k1 e s2 r2 k2, s.1[s.2.1]? = some (some (Ob.box [.int .i64 a, .str b, .sl s1 r1 k1, .int .i32 e, .sl s2 r2 k2]))) (μ := fun s => if s.2.2 = true then 1 else 0) (_, T6.length, true) ⟨L7, B7, ⟨_, _, D7, fun q off m e => by have := n6 q off m e; omega⟩, _, _, _, _, _, _, _, _, _, X7⟩ ?_ ?_
        · simp -implicitDefEqProofs -dsimp only [intRows_nil, objsWk_self, vcS, ↓vcP1, ↓vcP2, ↓reduceIte, reduceCtorEq, Nat.reduceLT, Nat.reduceLeDiff, Nat.reduceEqDiff, Nat.reduceAdd, Nat.reduceSub, Nat.reduceMul, Int.reduceLT, Int.reduceLE, Int.reduceEq, Int.reduceToNat, Int.reduceAdd, Int.reduceSub, Int.reduceNeg, List.reduceReplicate, Nat.reducePow, Int.reduceMul]
        · intro ⟨T8, n8, fl⟩ ⟨j1, j2, ⟨d8, at8, D8, j3⟩, a, b, s3, r3, k3, e, s4, r4, k4, j4⟩
          dsimp only at j1 j2 D8 j4 ⊢
          cases fl
          · unfold rc_yseqs_l0
            simp -implicitDefEqProofs -dsimp only [tb_at, tb_all j4, hw, vcS, ↓vcP1, ↓vcP2, ↓reduceIte, reduceCtorEq, Nat.reduceLT, Nat.reduceLeDiff, Nat.reduceEqDiff, Nat.reduceAdd, Nat.reduceSub, Nat.reduceMul, Int.reduceLT, Int.reduceLE, Int.reduceEq, Int.reduceToNat, Int.reduceAdd, Int.reduceSub, Int.reduceNeg, List.reduceReplicate, Nat.reducePow, Int.reduceMul]
            exact ⟨(T8, i + 1), ⟨rfl, objsWk_refl _⟩, ⟨by dsimp only; omega, j1, j2, d8, at8, D8, j3⟩, by dsimp only; omega⟩
          · unfold rc_yseqs_l0
            simp -implicitDefEqProofs -dsimp only [tb_at, tb_all j4, vcS, ↓vcP1, ↓vcP2, ↓reduceIte, reduceCtorEq, Nat.reduceLT, Nat.reduceLeDiff, Nat.reduceEqDiff, Nat.reduceAdd, Nat.reduceSub, Nat.reduceMul, Int.reduceLT, Int.reduceLE, Int.reduceEq, Int.reduceToNat, Int.reduceAdd, Int.reduceSub, Int.reduceNeg, List.reduceReplicate, Nat.reducePow, Int.reduceMul]
            generalize hX9 : some (Ob.box [.int .i64 a, .str b, .sl s3 r3 k3, .int .i32 e, .sl s4 r4 k4]) = X9
            have D9 := (D8.fin0 [X9]).2.1
            have l8 := tb_lt j2
            refine ymore_K D9 (by simp [beginL]) fun T10 d10 v10 k10 D10 n10 y10 => ?_
            rw [show yfirF (LM r) false [] = (none, []) from if_pos (.inl rfl)] at D10 y10 ⊢
            obtain ⟨s5, s6, kk5, kk6, rfl⟩ := y10.vals
            have B10 := k10.at (tb_f j2 [X9]) (by simp; omega)
            have X10 := k10.at (by rw [← hX9]; exact tb_get0 T8 [] _) (by have := tb_lt D8.box; simp; omega)
            have l10 := k10.1
            simp only [List.length_append, List.length_cons, List.length_nil] at l10
            dsimp only [Option.getD_none, kyZ, Option.isSome_none] at D10 ⊢
            simp -implicitDefEqProofs -dsimp only [tb_at, vcS, ↓vcP1, ↓vcP2, ↓reduceIte, reduceCtorEq, Nat.reduceLT, Nat.reduceLeDiff, Nat.reduceEqDiff, Nat.reduceAdd, Nat.reduceSub, Nat.reduceMul, Int.reduceLT, Int.reduceLE, Int.reduceEq, Int.reduceToNat, Int.reduceAdd, Int.reduceSub, Int.reduceNeg, List.reduceReplicate, Nat.reducePow, Int.reduceMul]
            refine ⟨(T10, T8.length, false), ⟨⟨rfl, rfl⟩, objsWk_refl _⟩, ⟨by dsimp only; omega, B10, ⟨d10, at8, D10, fun q off m e => ?_⟩, _, _, _, _, _, _, _, _, _, X10⟩, by simp⟩
            rcases n10 q off m e with h | h
            · simp at h; omega
            · exact j3 q off m (by rw [← h, e])
      · have hc' : ¬ (i : Int) < l.length := by omega
        unfold rc_yseqs_l1
        simp -implicitDefEqProofs -dsimp only [tb_at, hc', intRows_length, vcS, ↓vcP1, ↓vcP2, ↓reduceIte, reduceCtorEq, Nat.reduceLT, Nat.reduceLeDiff, Nat.reduceEqDiff, Nat.reduceAdd, Nat.reduceSub, Nat.reduceMul, Int.reduceLT, Int.reduceLE, Int.reduceEq, Int.reduceToNat, Int.reduceAdd, Int.reduceSub, Int.reduceNeg, List.reduceReplicate, Nat.reducePow, Int.reduceMul]
        subst hBX
        obtain ⟨e1, e2, e3, e4⟩ := seqs_end r hrm j hj
        have hinb := (usual_in r hr (seqAt r j) (by unfold seqAt; rw [List.getD_eq_getElem?_getD, List.getElem?_eq_getElem hj]; exact List.getElem_mem _)).1
        have go := seqs_go r hrm j hj
        generalize seqAt r j = b at *
        have l5 := tb_lt i3
        refine LoopWp.inv FOk.nil (S := fun s : Objs × Nat => ⟨[(8, .ptr T2.length 0 0), (9, .ptr o 0 0), (13, .int .i64 s.2)], s.1⟩)
          (I := fun s => s.2 ≤ b.seq.length ∧ T.length ≤ s.1.length ∧ s.1[T2.length]? = some (some (Ob.box [.sl 1 (intRows .u8 b.seq) .any, .str b.cmd])) ∧ ∃ d at', DecAt s.1 o c h d (LM r) (if s.2 = b.seq.length then [] else b.seq.take s.2) false 0 at' ∧ ∀ q off m, d = .own q off m → T2.length < q) (μ := fun s => b.seq.length - s.2) (T5, 0) ⟨by simp, i2, i3, d5, at5, by rw [if_neg (by dsimp only; omega)]; exact D5, i5⟩ ?_ ?_
        · simp -implicitDefEqProofs -dsimp only [objsWk_self, vcS, ↓vcP1, ↓vcP2, ↓reduceIte, reduceCtorEq, Nat.reduceLT, Nat.reduceLeDiff, Nat.reduceEqDiff, Nat.reduceAdd, Nat.reduceSub, Nat.reduceMul, Int.reduceLT, Int.reduceLE, Int.reduceEq, Int.reduceToNat, Int.reduceAdd, Int.reduceSub, Int.reduceNeg, List.reduceReplicate, Nat.reducePow, Int.reduceMul]
        · intro ⟨T8, n⟩ ⟨j1, j2, j3, d8, at8, D8, j4⟩
          dsimp only at j1 j2 j3 D8 ⊢
          have hwn : IntKind.i64.wrap ((b.seq.length : Int) - 1) = ((b.seq.length - 1 : Nat) : Int) := by rw [wI64 (by omega) (by omega)]; omega
          have l8 := tb_lt j3
          by_cases hn1 : n < b.seq.length
          · have hn1' : (n : Int) < b.seq.length := by omega
            have hn0' : (0 : Int) ≤ n := by omega
            have hwi : IntKind.i64.wrap ((n : Int) + 1) = ((n + 1 : Nat) : Int) := by rw [wI64 (by omega) (by omega)]; omega
            rw [if_neg (by omega)] at D8
            have hby := hinb.u8 (getD_mem hn1)
            have hsn : b.seq.take n ++ [b.seq.getD n 0] = b.seq.take (n + 1) := by
              rw [List.take_succ_eq_append_getElem hn1, List.getD_eq_getElem?_getD, List.getElem?_eq_getElem hn1]; rfl
            by_cases hlast : n + 1 = b.seq.length
            · have heq : (n : Int) = ((b.seq.length - 1 : Nat) : Int) := by omega
              have hfull : b.seq.take (n + 1) = b.seq := List.take_of_length_le (by omega)
              rcases e1 with e1 | ⟨e1, e1'⟩
              · unfold rc_yseqs_l2
                simp -implicitDefEqProofs -dsimp only [tb_at, tb_all j3, hn1', hn0', hwi, hwn, intRows_length, vcS, ↓vcP1, ↓vcP2, ↓reduceIte, reduceCtorEq, Nat.reduceLT, Nat.reduceLeDiff, Nat.reduceEqDiff, Nat.reduceAdd, Nat.reduceSub, Nat.reduceMul, Int.reduceLT, Int.reduceLE, Int.reduceEq, Int.reduceToNat, Int.reduceAdd, Int.reduceSub, Int.reduceNeg, List.reduceReplicate, Nat.reducePow, Int.reduceMul]
                refine ⟨hn1, yfeed_K D8 hby (by rw [List.length_take]; omega) (by rw [hsn, hfull]; exact e2) fun T9 d9 v9 ids9 hi9 k9 D9 n9 y9 => ?_⟩
                rw [hsn, hfull, e1] at D9 y9 ⊢
                have B9 := k9.at j3 (fun hm => by
                  rcases hi9 _ hm with h | ⟨off, m, h⟩
                  · omega
                  · have := j4 _ _ _ h; omega)
                have l9 := k9.1
                obtain ⟨ds, dt, rfl, ⟨s1, kk1, rfl, y1⟩, ⟨s2, kk2, rfl, y2⟩⟩ := y9
                obtain rfl : s1 = 1 := y1.resolve_right (fun h => by
                  have := congrArg List.length h
                  dsimp only [Option.getD_some] at this
                  rw [List.length_nil] at this; omega)
                dsimp only [Option.getD_some, Option.isSome_some] at D9 ⊢
                simp -implicitDefEqProofs -dsimp only [tb_at, tb_all B9, hwn, hwi, heq, decide_eq_true heq, beq_self_eq_true, Bool.not_true, intRows_length, vcS, ↓vcP1, ↓vcP2, ↓reduceIte, reduceCtorEq, Nat.reduceLT, Nat.reduceLeDiff, Nat.reduceEqDiff, Nat.reduceAdd, Nat.reduceSub, Nat.reduceMul, Int.reduceLT, Int.reduceLE, Int.reduceEq, Int.reduceToNat, Int.reduceAdd, Int.reduceSub, Int.reduceNeg, List.reduceReplicate, Nat.reducePow, Int.reduceMul]
                have hwl : IntKind.i64.wrap (((b.seq.length - 1 : Nat) : Int) + 1) = (b.seq.length : Int) := by rw [wI64 (by omega) (by omega)]; omega
                rw [hwl]
                generalize hx : some (Ob.box [.int .i64 0, .str b.cmd, .sl 1 (intRows .u8 b.seq) kk1, .int .i32 0, .sl s2 [] kk2]) = X9
                refine ⟨(T9 ++ [X9], b.seq.length), ⟨rfl, objsWk_refl _⟩, ⟨by dsimp only; omega, by simp; omega, tb_f B9 _, d9, nearF 9, ?_, fun q off m e => by have := n9 q off m e; omega⟩, by dsimp only; omega⟩
                dsimp only
                rw [if_pos rfl]
                exact (D9.fin0 [X9]).2.1
              · unfold rc_yseqs_l2
                simp -implicitDefEqProofs -dsimp only [tb_at, tb_all j3, hn1', hn0', hwi, hwn, intRows_length, vcS, ↓vcP1, ↓vcP2, ↓reduceIte, reduceCtorEq, Nat.reduceLT, Nat.reduceLeDiff, Nat.reduceEqDiff, Nat.reduceAdd, Nat.reduceSub, Nat.reduceMul, Int.reduceLT, Int.reduceLE, Int.reduceEq, Int.reduceToNat, Int.reduceAdd, Int.reduceSub, Int.reduceNeg, List.reduceReplicate, Nat.reducePow, Int.reduceMul]
                refine ⟨hn1, yfeed_K D8 hby (by rw [List.length_take]; omega) (by rw [hsn, hfull]; exact e2) fun T9 d9 v9 ids9 hi9 k9 D9 n9 y9 => ?_⟩
                rw [hsn, hfull, e1] at D9 y9 ⊢
                have B9 := k9.at j3 (fun hm => by
                  rcases hi9 _ hm with h | ⟨off, m, h⟩
                  · omega
                  · have := j4 _ _ _ h; omega)
                have l9 := k9.1
                obtain ⟨s1, s2, kk1, kk2, rfl⟩ := y9.vals
                dsimp only [Option.getD_none, kyZ, Option.isSome_none] at D9 ⊢
                simp -implicitDefEqProofs -dsimp only [tb_at, tb_all B9, hwn, hwi, heq, decide_eq_true heq, intRows_length, vcS, ↓vcP1, ↓vcP2, ↓reduceIte, reduceCtorEq, Nat.reduceLT, Nat.reduceLeDiff, Nat.reduceEqDiff, Nat.reduceAdd, Nat.reduceSub, Nat.reduceMul, Int.reduceLT, Int.reduceLE, Int.reduceEq, Int.reduceToNat, Int.reduceAdd, Int.reduceSub, Int.reduceNeg, List.reduceReplicate, Nat.reducePow, Int.reduceMul]
                generalize hx : some (Ob.box [.int .i64 0, .str [], .sl s1 [] kk1, .int .i32 0, .sl s2 [] kk2]) = X9
                have D10 := (D9.fin0 [X9]).2.1
                rw [show nearF 9 = 9 by decide] at D10
                have B10 := tb_f B9 [X9]
                have hbne : b.seq ≠ [] := fun h => by rw [h] at e3; simp at e3
                have q1 : ytickF (LM r) 9 59 b.seq = (some ⟨0, b.cmd, b.seq, 0, []⟩, []) := by
                  rw [← e1']
                  exact if_neg (by rintro (h | h); exact hbne h; rw [show nearF 59 = 59 by decide] at h; omega)
                refine ytick_K D10 (by omega) e2 fun T11 d11 v11 k11 D11 n11 y11 => ?_
                rw [q1] at D11 y11 ⊢
                have B11 := k11.at B10 (by simp; omega)
                have l11 := k11.1
                simp only [List.length_append, List.length_cons, List.length_nil] at l11
                obtain ⟨s3, s4, kk3, kk4, rfl⟩ := y11.vals
                dsimp only [Option.getD_some, Option.isSome_some]
                simp -implicitDefEqProofs -dsimp only [tb_at, tb_all B11, hwn, heq, decide_eq_true heq, beq_self_eq_true, Bool.not_false, intRows_length, vcS, ↓vcP1, ↓vcP2, ↓reduceIte, reduceCtorEq, Nat.reduceLT, Nat.reduceLeDiff, Nat.reduceEqDiff, Nat.reduceAdd, Nat.reduceSub, Nat.reduceMul, Int.reduceLT, Int.reduceLE, Int.reduceEq, Int.reduceToNat, Int.reduceAdd, Int.reduceSub, Int.reduceNeg, List.reduceReplicate, Nat.reducePow, Int.reduceMul]
                exact ⟨by omega, hK _⟩
            · obtain ⟨g1, g2⟩ := go n (by omega)
              have hne : ¬ (n : Int) = ((b.seq.length - 1 : Nat) : Int) := by omega
              unfold rc_yseqs_l2
              simp -implicitDefEqProofs -dsimp only [tb_at, tb_all j3, hn1', hn0', hwi, hwn, intRows_length, vcS, ↓vcP1, ↓vcP2, ↓reduceIte, reduceCtorEq, Nat.reduceLT, Nat.reduceLeDiff, Nat.reduceEqDiff, Nat.reduceAdd, Nat.reduceSub, Nat.reduceMul, Int.reduceLT, Int.reduceLE, Int.reduceEq, Int.reduceToNat, Int.reduceAdd, Int.reduceSub, Int.reduceNeg, List.reduceReplicate, Nat.reducePow, Int.reduceMul]
              refine ⟨hn1, yfeed_K D8 hby (by rw [List.length_take]; omega) (by rw [hsn]; exact g2) fun T9 d9 v9 ids9 hi9 k9 D9 n9 y9 => ?_⟩
              rw [hsn, g1] at D9 y9 ⊢
              have B9 := k9.at j3 (fun hm => by
                rcases hi9 _ hm with h | ⟨off, m, h⟩
                · omega
                · have := j4 _ _ _ h; omega)
              have l9 := k9.1
              obtain ⟨s1, s2, kk1, kk2, rfl⟩ := y9.vals
              dsimp only [Option.getD_none, kyZ, Option.isSome_none] at D9 ⊢
              simp -implicitDefEqProofs -dsimp only [tb_at, tb_all B9, hwn, hwi, hne, decide_eq_false hne, intRows_length, vcS, ↓vcP1, ↓vcP2, ↓reduceIte, reduceCtorEq, Nat.reduceLT, Nat.reduceLeDiff, Nat.reduceEqDiff, Nat.reduceAdd, Nat.reduceSub, Nat.reduceMul, Int.reduceLT, Int.reduceLE, Int.reduceEq, Int.reduceToNat, Int.reduceAdd, Int.reduceSub, Int.reduceNeg, List.reduceReplicate, Nat.reducePow, Int.reduceMul]
              generalize hx : some (Ob.box [.int .i64 0, .str [], .sl s1 [] kk1, .int .i32 0, .sl s2 [] kk2]) = X9
              refine ⟨(T9 ++ [X9], n + 1), ⟨rfl, objsWk_refl _⟩, ⟨by dsimp only; omega, by simp; omega, tb_f B9 _, d9, nearF 9, ?_, fun q off m e => by have := n9 q off m e; omega⟩, by dsimp only; omega⟩
              dsimp only
              rw [if_neg hlast]
              exact (D9.fin0 [X9]).2.1
          · have hn1' : ¬ (n : Int) < b.seq.length := by omega
            have : n = b.seq.length := by omega
            subst this
            rw [if_pos rfl] at D8
            unfold rc_yseqs_l2
            simp -implicitDefEqProofs -dsimp only [tb_at, tb_all j3, hn1', intRows_length, vcS, ↓vcP1, ↓vcP2, ↓reduceIte, reduceCtorEq, Nat.reduceLT, Nat.reduceLeDiff, Nat.reduceEqDiff, Nat.reduceAdd, Nat.reduceSub, Nat.reduceMul, Int.reduceLT, Int.reduceLE, Int.reduceEq, Int.reduceToNat, Int.reduceAdd, Int.reduceSub, Int.reduceNeg, List.reduceReplicate, Nat.reducePow, Int.reduceMul]
            refine yleft_K D8 ?_
            simp -implicitDefEqProofs -dsimp only [tb_at, List.length_nil, Int.natCast_zero, vcS, ↓vcP1, ↓vcP2, ↓reduceIte, reduceCtorEq, Nat.reduceLT, Nat.reduceLeDiff, Nat.reduceEqDiff, Nat.reduceAdd, Nat.reduceSub, Nat.reduceMul, Int.reduceLT, Int.reduceLE, Int.reduceEq, Int.reduceToNat, Int.reduceAdd, Int.reduceSub, Int.reduceNeg, List.reduceReplicate, Nat.reducePow, Int.reduceMul]
            exact ⟨by omega, hK _⟩
theorem keysSeqs_true (dv : List DV) (h : ConfL [(false, [.int .u8]), (false, [.int .u8]), (false, [.sl [.int .u8]])] dv) {K : DV → Objs → Prop} (hK : ∀ T', K (.bool true) T') : CallK PG 5 dv [] K := by
  obtain ⟨a0, r0, rfl, h0, h⟩ := h.cons
  obtain ⟨a1, r1, rfl, h1, h⟩ := h.cons
  obtain ⟨a2, r2, rfl, h2, h⟩ := h.cons
  obtain rfl := h.nil
  obtain ⟨x, rfl, hx⟩ := confA_int h0
  obtain ⟨y, rfl, hy⟩ := confA_int h1
  obtain ⟨l, rfl, hl⟩ := confA_ints h2
  exact kseqs_K (by simpa [IntKind.min, IntKind.max, IntKind.signed, IntKind.bits] using hx) (by simpa [IntKind.min, IntKind.max, IntKind.signed, IntKind.bits] using hy) hl hK
end Go.Proofs.YtdimdjcnkmkbjaaDoor
