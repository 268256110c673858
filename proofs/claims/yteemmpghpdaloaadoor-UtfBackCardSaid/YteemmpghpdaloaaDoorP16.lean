/- 'UtfBack'. -/
import Derived.Test.YteemmpghpdaloaaDoorP15
set_option linter.unusedVariables false
set_option linter.unusedSimpArgs false
set_option maxRecDepth 10000
namespace Go.Proofs.YteemmpghpdaloaaDoor
open Go.RowKit

/-- The valid rune of a number. -/
def fix (r : Int) : Int := if may r = true then r else 65533
theorem uallF_app (l : List Int) : ∀ (m : List Int), uallF (l ++ m) = m.foldl (fun a b => (a.1 ++ (ustep a.2 b).2, (ustep a.2 b).1)) (uallF l) := by
  intro m
  simp [uallF]
theorem enc_in {r : Int} (hr : -2147483648 ≤ r ∧ r ≤ 2147483647) : inK .u8 (enc r) ∧ 1 ≤ (enc r).length ∧ (enc r).length ≤ 4 := by
  unfold enc
  split
  · exact ⟨inK_u8 (by simp) (by simp; omega), by simp, by simp⟩
  · split
    · exact ⟨inK_u8 (by simp) (by simp; omega), by simp, by simp⟩
    · split
      · exact ⟨inK_u8 (by simp) (by simp; omega), by simp, by simp⟩
      · split
        · exact ⟨inK_u8 (by simp) (by simp; omega), by simp, by simp⟩
        · exact ⟨inK_u8 (by simp) (by simp), by simp, by simp⟩
theorem one_a {a : Int} (h : 194 ≤ a ∧ a ≤ 244) : ustep [] a = ([a], []) := by
  rw [ustep_eq (by omega), if_pos ubeg0]
  unfold one
  rw [if_neg (by omega), if_pos h]
theorem two_end {a b : Int} (ha : 194 ≤ a ∧ a < 224) (hb : 128 ≤ b ∧ b ≤ 191) : ustep [a] b = ([], [a % 32 * 64 + b % 64]) := by
  have hl := rlohi a
  rw [ustep_eq (by omega), ubeg1 (by omega), decide_eq_true (by omega), if_neg (by decide)]
  have hd := dec2 (a := a) (b := b) (by omega)
  rw [if_pos (by omega)] at hd
  have : good ([a] ++ [b]) = some (a % 32 * 64 + b % 64) := by
    show good [a, b] = _
    unfold good
    rw [hd, if_pos (by simp)]
  rw [this]
theorem two_go {a b : Int} (ha : 224 ≤ a ∧ a ≤ 244) (hb : rlo a ≤ b ∧ b ≤ rhi a) : ustep [a] b = ([a, b], []) := by
  have hl := rlohi a
  rw [ustep_eq (by omega), ubeg1 (by omega), decide_eq_true (by omega), if_neg (by decide)]
  have hd := dec2 (a := a) (b := b) (by omega)
  rw [if_neg (by omega)] at hd
  have h1 : good ([a] ++ [b]) = none := by
    show good [a, b] = _
    unfold good
    rw [hd, if_neg (by simp)]
  have h2 : ubeg ([a] ++ [b]) = true := by
    show ubeg [a, b] = true
    rw [ubeg2 (by omega)]
    simp
    omega
  rw [h1, h2]
  rfl
theorem three_end {a b c : Int} (ha : 224 ≤ a ∧ a < 240) (hb : rlo a ≤ b ∧ b ≤ rhi a) (hc : 128 ≤ c ∧ c ≤ 191) : ustep [a, b] c = ([], [a % 16 * 4096 + b % 64 * 64 + c % 64]) := by
  have hl := rlohi a
  rw [ustep_eq (by omega), ubeg2 (by omega), decide_eq_true (by omega), if_neg (by decide)]
  have hd := dec3 (a := a) (b := b) (c := c) (by omega)
  rw [if_pos (by omega)] at hd
  have : good ([a, b] ++ [c]) = some (a % 16 * 4096 + b % 64 * 64 + c % 64) := by
    show good [a, b, c] = _
    unfold good
    rw [hd, if_pos (by simp)]
  rw [this]
theorem three_go {a b c : Int} (ha : 240 ≤ a ∧ a ≤ 244) (hb : rlo a ≤ b ∧ b ≤ rhi a) (hc : 128 ≤ c ∧ c ≤ 191) : ustep [a, b] c = ([a, b, c], []) := by
  have hl := rlohi a
  rw [ustep_eq (by omega), ubeg2 (by omega), decide_eq_true (by omega), if_neg (by decide)]
  have hd := dec3 (a := a) (b := b) (c := c) (by omega)
  rw [if_neg (by omega)] at hd
  have h1 : good ([a, b] ++ [c]) = none := by
    show good [a, b, c] = _
    unfold good
    rw [hd, if_neg (by simp)]
  have h2 : ubeg ([a, b] ++ [c]) = true := by
    show ubeg [a, b, c] = true
    rw [ubeg3 (by omega)]
    simp
    omega
  rw [h1, h2]
  rfl
theorem four_end {a b c d : Int} (ha : 240 ≤ a ∧ a ≤ 244) (hb : rlo a ≤ b ∧ b ≤ rhi a) (hc : 128 ≤ c ∧ c ≤ 191) (hd0 : 128 ≤ d ∧ d ≤ 191) : ustep [a, b, c] d = ([], [a % 8 * 262144 + b % 64 * 4096 + c % 64 * 64 + d % 64]) := by
  have hl := rlohi a
  rw [ustep_eq (by omega), ubeg3 (by omega), decide_eq_true (by omega), if_neg (by decide)]
  have hd := dec4 (a := a) (b := b) (c := c) (d := d) (by omega)
  rw [if_pos (by omega)] at hd
  have : good ([a, b, c] ++ [d]) = some (a % 8 * 262144 + b % 64 * 4096 + c % 64 * 64 + d % 64) := by
    show good [a, b, c, d] = _
    unfold good
    rw [hd, if_pos (by simp)]
  rw [this]
/-- A rune's bytes come to that rune. -/
theorem enc_back {r : Int} (acc : List Int) : (enc r).foldl (fun a b => (a.1 ++ (ustep a.2 b).2, (ustep a.2 b).1)) (acc, []) = (acc ++ [fix r], []) := by
  have key : ∀ q : List Int × List Int, q = (acc ++ [fix r], []) → q = (acc ++ [fix r], []) := fun _ h => h
  unfold enc
  split
  · rename_i h
    have hm : may r = true := (may_iff r).2 (by omega)
    simp only [List.foldl_cons, List.foldl_nil]
    rw [ustep_eq (by omega), if_pos ubeg0]
    unfold one fix
    rw [if_pos (by omega), if_pos hm]
  · split
    · rename_i h1 h
      have hm : may r = true := (may_iff r).2 (by omega)
      simp only [List.foldl_cons, List.foldl_nil]
      rw [one_a (by omega), two_end (by omega) (by omega)]
      unfold fix
      rw [if_pos hm]
      simp only [List.append_nil]
      congr 3
      omega
    · split
      · rename_i h1 h2 h
        have hm : may r = true := (may_iff r).2 (by omega)
        have hl := rlohi (224 + r / 4096)
        have hb : rlo (224 + r / 4096) ≤ 128 + r / 64 % 64 ∧ 128 + r / 64 % 64 ≤ rhi (224 + r / 4096) := by
          have : 224 + r / 4096 = 224 ∨ 224 + r / 4096 = 237 ∨ (224 + r / 4096 ≠ 224 ∧ 224 + r / 4096 ≠ 237) := by omega
          omega
        simp only [List.foldl_cons, List.foldl_nil]
        rw [one_a (by omega), two_go (by omega) hb, three_end (by omega) hb (by omega)]
        unfold fix
        rw [if_pos hm]
        simp only [List.append_nil]
        congr 3
        omega
      · split
        · rename_i h1 h2 h3 h
          have hm : may r = true := (may_iff r).2 (by omega)
          have hl := rlohi (240 + r / 262144)
          have hb : rlo (240 + r / 262144) ≤ 128 + r / 4096 % 64 ∧ 128 + r / 4096 % 64 ≤ rhi (240 + r / 262144) := by
            have : 240 + r / 262144 = 240 ∨ 240 + r / 262144 = 244 ∨ (240 + r / 262144 ≠ 240 ∧ 240 + r / 262144 ≠ 244) := by omega
            omega
          simp only [List.foldl_cons, List.foldl_nil]
          rw [one_a (by omega), two_go (by omega) hb, three_go (by omega) hb (by omega), four_end (by omega) hb (by omega) (by omega)]
          unfold fix
          rw [if_pos hm]
          simp only [List.append_nil]
          congr 3
          omega
        · rename_i h1 h2 h3 h4
          have hm : ¬ may r = true := fun h => by have := (may_iff r).1 h; omega
          simp only [List.foldl_cons, List.foldl_nil]
          have hl := rlohi 239
          rw [one_a (by omega), two_go (by omega) (by omega), three_end (by omega) (by omega) (by omega)]
          unfold fix
          rw [if_neg hm]
          simp
theorem uallF_back (l : List Int) : uallF (l.flatMap enc) = (l.map fix, []) := by
  suffices h : ∀ i, i ≤ l.length → uallF ((l.take i).flatMap enc) = ((l.take i).map fix, []) by
    have := h l.length (Nat.le_refl _)
    rwa [List.take_length] at this
  intro i
  induction i with
  | zero => intro _; simp [uallF]
  | succ i ih =>
    intro hi
    rw [List.take_succ_eq_append_getElem (by omega), List.flatMap_append, List.map_append, uallF_app, ih (by omega)]
    simp only [List.flatMap_cons, List.flatMap_nil, List.append_nil]
    exact enc_back _

noncomputable def rc_utfBack_l0 : RC := (.seq (.seq (.reg [⟨(some 25), (.mov (.t 7)), none, false⟩, ⟨(some 26), (.mov (.t 6)), none, false⟩, ⟨(some 27), (.len (.t 26)), none, false⟩, ⟨(some 28), (.bin .lss (.t 25) (.t 27)), none, false⟩] 0 [5, 6, 7, 28]) (.cond (.t 28) .skip (.ext 0))) (.seq (.blk 1 (.seq (.reg [⟨(some 31), (.mov (.t 5)), none, false⟩, ⟨(some 32), (.mov (.t 6)), none, false⟩, ⟨(some 33), (.mov (.t 7)), none, false⟩, ⟨(some 34), (.iaddr 1 (.t 32) (.t 33)), none, false⟩, ⟨(some 35), (.load false 1 (.t 34)), none, false⟩, ⟨(some 36), (.call 21 [(.t 35)]), none, false⟩, ⟨(some 37), (.append 1 1 (.t 31) (.t 36)), none, false⟩, ⟨(some 5), (.mov (.t 37)), none, false⟩] 0 [5, 6, 7]) (.seq (.reg [⟨(some 38), (.mov (.t 6)), none, false⟩, ⟨(some 39), (.mov (.t 7)), none, false⟩, ⟨(some 40), (.iaddr 1 (.t 38) (.t 39)), none, false⟩, ⟨(some 41), (.load false 1 (.t 40)), none, false⟩, ⟨(some 42), (.call 24 [(.t 41)]), none, false⟩, ⟨(some 43), (.un .not (.t 42)), none, false⟩] 0 [5, 6, 7, 43]) (.cond (.t 43) (.reg [⟨(some 44), (.mov (.t 6)), none, false⟩, ⟨(some 45), (.mov (.t 7)), none, false⟩, ⟨(some 46), (.iaddr 1 (.t 44) (.t 45)), none, false⟩, ⟨none, (.store 1 (.t 46) (.c (.int .i32 65533))), none, false⟩] 0 [5, 6, 7]) .skip)))) (.reg [⟨(some 29), (.mov (.t 7)), none, false⟩, ⟨(some 30), (.bin .add (.t 29) (.c (.int .i64 1))), none, false⟩, ⟨(some 7), (.mov (.t 30)), none, false⟩] 0 [5, 6, 7])))
noncomputable def rc_utfBack : RFn := ⟨2, 60, (.seq (.reg [⟨(some 4), (.mov (.c (.bool false))), none, false⟩] 0 [0, 1]) (.seq (.seq (.reg [⟨(some 10), (.call 12 []), none, false⟩, ⟨(some 11), (.un .not (.t 10)), none, false⟩] 0 [0, 1, 11]) (.cond (.t 11) (.seq (.reg [⟨(some 4), (.mov (.c (.bool false))), none, false⟩] 0 [4]) .ret) .skip)) (.seq (.seq (.reg [⟨(some 12), (.mov (.t 0)), none, false⟩, ⟨(some 13), (.len (.t 12)), none, false⟩, ⟨(some 14), (.bin .gtr (.t 13) (.c (.int .i64 60))), none, false⟩, ⟨(some 15), (.mov (.t 14)), none, false⟩, ⟨(some 16), (.mov (.t 1)), (some (15, false)), false⟩, ⟨(some 17), (.len (.t 16)), (some (15, false)), false⟩, ⟨(some 18), (.bin .gtr (.t 17) (.c (.int .i64 40))), (some (15, false)), false⟩, ⟨(some 19), (.pick (.t 15) (.c (.bool true)) (.t 18)), none, false⟩] 0 [0, 1, 19]) (.cond (.t 19) (.seq (.reg [⟨(some 4), (.mov (.c (.bool true))), none, false⟩] 0 [4]) .ret) .skip)) (.seq (.reg [⟨(some 5), (.mov (.c (.sl 0 [] .nil))), none, false⟩] 0 [0, 1, 5]) (.seq (.reg [⟨(some 20), (.mov (.t 0)), none, false⟩, ⟨(some 21), (.append 1 4 (.c (.sl 0 [] .nil)) (.t 20)), none, false⟩, ⟨(some 22), (.mov (.t 1)), none, false⟩, ⟨(some 23), (.call 23 [(.t 22)]), none, false⟩, ⟨(some 24), (.append 1 4 (.t 21) (.t 23)), none, false⟩, ⟨(some 6), (.mov (.t 24)), none, false⟩] 0 [5, 6]) (.seq (.seq (.reg [⟨(some 7), (.mov (.c (.int .i64 0))), none, false⟩] 0 [5, 6, 7]) (.blk 0 (.loop rc_utfBack_l0))) (.seq (.reg [⟨(some 48), (.mov (.t 5)), none, true⟩, ⟨(some 49), (.call 14 [(.t 48)]), none, false⟩, ⟨(some 47), (.mov (.t 49)), none, false⟩, ⟨(some 50), (.ext (.t 47) 0), none, false⟩, ⟨(some 51), (.ext (.t 47) 1), none, false⟩, ⟨(some 8), (.mov (.t 50)), none, false⟩, ⟨(some 9), (.mov (.t 51)), none, false⟩] 0 [6, 8, 9]) (.seq (.reg [⟨(some 52), (.mov (.t 9)), none, false⟩, ⟨(some 53), (.len (.t 52)), none, false⟩, ⟨(some 54), (.bin .eql (.t 53) (.c (.int .i64 0))), none, false⟩, ⟨(some 55), (.mov (.t 54)), none, false⟩, ⟨(some 56), (.mov (.t 8)), (some (55, true)), false⟩, ⟨(some 57), (.mov (.t 6)), (some (55, true)), true⟩, ⟨(some 58), (.call 16 [(.t 56), (.t 57)]), (some (55, true)), false⟩, ⟨(some 59), (.pick (.t 55) (.t 58) (.c (.bool false))), none, false⟩, ⟨(some 4), (.mov (.t 59)), none, false⟩] 0 [4]) .ret)))))))), [(.t 4)]⟩
theorem rc_utfBack_ok : compFn PG.P [⟨0, 0, [0, 1], []⟩, ⟨1, 0, [0, 1, 11], []⟩, ⟨2, 0, [4], []⟩, ⟨3, 0, [0, 1, 19], []⟩, ⟨4, 0, [4], []⟩, ⟨5, 0, [0, 1, 5], []⟩, ⟨6, 0, [5, 6], []⟩, ⟨7, 0, [5, 6, 7], []⟩, ⟨8, 0, [5, 6, 7, 28], []⟩, ⟨9, 0, [5, 6, 7], []⟩, ⟨10, 0, [5, 6, 7], []⟩, ⟨11, 0, [5, 6, 7, 43], []⟩, ⟨12, 0, [5, 6, 7], []⟩, ⟨13, 0, [6, 8, 9], [48]⟩, ⟨14, 0, [4], [57]⟩] 5 = some rc_utfBack := by kernel_rfl
theorem utfBack_true (dv : List DV) (h : ConfL [(false, [.sl [.int .i32]]), (false, [.sl [.int .u8]])] dv) : PCalls PG 5 dv fun _ r _ => r = .bool true := by
  obtain ⟨a0, r, rfl, h0, h⟩ := h.cons
  obtain ⟨b0, r, rfl, h1, h⟩ := h.cons
  obtain rfl := h.nil
  obtain ⟨l, rfl, hl⟩ := confA_ints h0
  obtain ⟨picks, rfl, hpk⟩ := confA_ints h1
  clear h h0 h1
  refine (PCalls.by_fn (res := fun n => (.bool true, [])) T16_ok rc_utfBack_ok (by simp [rc_utfBack]) fun n => ?_).mono fun _ _ _ h => h.1
  unfold rc_utfBack
  dsimp only
  simp -implicitDefEqProofs only [T16_b, ↓bindO_iteN, vcA1, vcA2, vcA3, vcA4, vcA5, vcA6, vcA7, ↓vcP1, ↓vcP2, ↓reduceIte, Option.map_some, Option.map_none, Option.bind_some, Option.bind_none, if_true, if_false, reduceCtorEq, beq_true, beq_false, Bool.not_true, Bool.not_false, BEq.rfl, Bool.true_beq, Bool.false_beq, and_true, true_and, and_self, decide_true, decide_false, List.length_cons, List.length_nil, List.all_cons, List.all_nil, Bool.and_true, Bool.and_self, List.getElem?_cons_zero, List.getElem?_cons_succ, List.set_cons_zero, List.set_cons_succ, List.nil_append, List.cons_append, List.append_nil, List.map_cons, List.map_nil, not_true_eq_false, not_false_eq_true, false_implies, true_implies, implies_true, List.take_succ_cons, List.take_zero, List.take_nil, List.drop_succ_cons, List.drop_zero, List.drop_nil, Nat.reduceLT, Nat.reduceLeDiff, Nat.reduceEqDiff, Nat.reduceAdd, Nat.reduceSub, Nat.reduceMul, Int.reduceLT, Int.reduceLE, Int.reduceEq, Int.reduceToNat, Int.reduceAdd, Int.reduceSub, Int.reduceNeg, List.reduceReplicate, List.replicate_zero, List.replicate_succ, ne_eq, List.flatMap_cons, List.flatMap_nil, List.length_replicate, List.length_append, Nat.le_refl, Nat.le_add_right, Nat.add_assoc, List.append_assoc, or_true, true_or, or_false, false_or, and_false, false_and, exists_eq_left, exists_eq_left', Option.some.injEq, DV.int.injEq, DV.bool.injEq, DV.sl.injEq, DV.own.injEq, DV.tup.injEq, List.cons.injEq, Ob.arr.injEq, Ob.box.injEq, Option.map_map, Int.toNat_natCast, Int.toNat_zero, Nat.reducePow, Int.toNat_one, Int.reduceMul, Nat.mul_one, Nat.zero_add, Nat.add_zero, Function.comp_apply, List.map_append, List.map_replicate, Int.cast_ofNat_Int, Nat.left_eq_add, Nat.add_eq_left, Nat.add_left_cancel_iff]
  refine fun g1 g2 => ?_
  have hp1 : inK .u8 picks := inK_of hpk (by omega)
  have hm1 : ∀ r ∈ l ++ picks.map sruneF, -2147483648 ≤ r ∧ r ≤ 2147483647 := by
    intro r hr
    rcases List.mem_append.1 hr with h1 | h1
    · exact hl r h1
    · obtain ⟨k, _, rfl⟩ := List.mem_map.1 h1
      have := sruneF_in k
      omega
  have hm2 : (l ++ picks.map sruneF).length ≤ 100 := by rw [List.length_append, List.length_map]; omega
  have hm3 : l.length + (picks.map sruneF).length = (l ++ picks.map sruneF).length := by simp
  refine ⟨⟨by omega, by omega⟩, ⟨hp1, by omega⟩, ⟨by omega, by omega⟩, ?_⟩
  rw [hm3]
  generalize l ++ picks.map sruneF = M at hm1 hm2 ⊢
  have hgd : ∀ i (h : i < M.length), M.getD i 0 = M[i] := fun i h => by rw [List.getD_eq_getElem?_getD, List.getElem?_eq_getElem h]; rfl
  refine LoopWp.own 5 1 rfl (.inl rfl) ?_
  refine LoopWp.invR T16_ok (S := fun m (i : Nat) => ⟨[(5, .own m 0 ((M.take i).flatMap enc).length), (6, .own (m + 1) 0 M.length), (7, .int .i64 i)],
    List.replicate m none ++ [some (.arr 1 (intRows .u8 ((M.take i).flatMap enc))), some (.arr 1 (intRows .i32 ((M.take i).map fix ++ M.drop i)))]⟩) (I := fun i => i ≤ M.length) (μ := fun i => M.length - i) n 0 (by omega) ?_ ?_
  · simp -implicitDefEqProofs only [List.take_zero, List.drop_zero, vcA1, vcA2, vcA3, vcA4, vcA5, vcA6, vcA7, ↓vcP1, ↓vcP2, ↓reduceIte, Option.map_some, Option.map_none, Option.bind_some, Option.bind_none, if_true, if_false, reduceCtorEq, beq_true, beq_false, Bool.not_true, Bool.not_false, BEq.rfl, Bool.true_beq, Bool.false_beq, and_true, true_and, and_self, decide_true, decide_false, List.length_cons, List.length_nil, List.all_cons, List.all_nil, Bool.and_true, Bool.and_self, List.getElem?_cons_zero, List.getElem?_cons_succ, List.set_cons_zero, List.set_cons_succ, List.nil_append, List.cons_append, List.append_nil, List.map_cons, List.map_nil, not_true_eq_false, not_false_eq_true, false_implies, true_implies, implies_true, List.take_succ_cons, List.take_zero, List.take_nil, List.drop_succ_cons, List.drop_zero, List.drop_nil, Nat.reduceLT, Nat.reduceLeDiff, Nat.reduceEqDiff, Nat.reduceAdd, Nat.reduceSub, Nat.reduceMul, Int.reduceLT, Int.reduceLE, Int.reduceEq, Int.reduceToNat, Int.reduceAdd, Int.reduceSub, Int.reduceNeg, List.reduceReplicate, List.replicate_zero, List.replicate_succ, ne_eq, List.flatMap_cons, List.flatMap_nil, List.length_replicate, List.length_append, Nat.le_refl, Nat.le_add_right, Nat.add_assoc, List.append_assoc, or_true, true_or, or_false, false_or, and_false, false_and, exists_eq_left, exists_eq_left', Option.some.injEq, DV.int.injEq, DV.bool.injEq, DV.sl.injEq, DV.own.injEq, DV.tup.injEq, List.cons.injEq, Ob.arr.injEq, Ob.box.injEq, Option.map_map, Int.toNat_natCast, Int.toNat_zero, Nat.reducePow, Int.toNat_one, Int.reduceMul, Nat.mul_one, Nat.zero_add, Nat.add_zero, Function.comp_apply, List.map_append, List.map_replicate, Int.cast_ofNat_Int, Nat.left_eq_add, Nat.add_eq_left, Nat.add_left_cancel_iff]
  · intro m i hm hi
    have hL : ((M.take i).map fix).length + (M.drop i).length = M.length := by rw [List.length_map, List.length_take, List.length_drop]; omega
    have hE : ∀ i, ((M.take i).flatMap enc).length ≤ 4 * i ∧ inK .u8 ((M.take i).flatMap enc) := by
      intro i
      have hlen : ∀ L : List Int, (∀ r ∈ L, -2147483648 ≤ r ∧ r ≤ 2147483647) → (L.flatMap enc).length ≤ 4 * L.length ∧ ∀ n ∈ L.flatMap enc, 0 ≤ n ∧ n ≤ 255 := by
        intro L
        induction L with
        | nil => intro _; simp
        | cons r L ih =>
          intro hL
          obtain ⟨k1, k2⟩ := ih fun r hr => hL r (by simp [hr])
          obtain ⟨k3, k4, k5⟩ := enc_in (hL r (by simp))
          refine ⟨by rw [List.flatMap_cons, List.length_append, List.length_cons]; omega, fun n hn => ?_⟩
          rw [List.flatMap_cons] at hn
          rcases List.mem_append.1 hn with h1 | h1
          · exact k3.u8 h1
          · exact k2 n h1
      obtain ⟨k1, k2⟩ := hlen (M.take i) fun r hr => hm1 r (List.mem_of_mem_take hr)
      have : (M.take i).length ≤ i ∧ (M.take i).length ≤ M.length := by rw [List.length_take]; omega
      exact ⟨by omega, inK_u8 (by omega) k2⟩
    unfold rc_utfBack_l0
    simp -implicitDefEqProofs only [T16_b, ints_intRows, hL, List.take_length, vcA1, vcA2, vcA3, vcA4, vcA5, vcA6, vcA7, ↓vcP1, ↓vcP2, ↓reduceIte, Option.map_some, Option.map_none, Option.bind_some, Option.bind_none, if_true, if_false, reduceCtorEq, beq_true, beq_false, Bool.not_true, Bool.not_false, BEq.rfl, Bool.true_beq, Bool.false_beq, and_true, true_and, and_self, decide_true, decide_false, List.length_cons, List.length_nil, List.all_cons, List.all_nil, Bool.and_true, Bool.and_self, List.getElem?_cons_zero, List.getElem?_cons_succ, List.set_cons_zero, List.set_cons_succ, List.nil_append, List.cons_append, List.append_nil, List.map_cons, List.map_nil, not_true_eq_false, not_false_eq_true, false_implies, true_implies, implies_true, List.take_succ_cons, List.take_zero, List.take_nil, List.drop_succ_cons, List.drop_zero, List.drop_nil, Nat.reduceLT, Nat.reduceLeDiff, Nat.reduceEqDiff, Nat.reduceAdd, Nat.reduceSub, Nat.reduceMul, Int.reduceLT, Int.reduceLE, Int.reduceEq, Int.reduceToNat, Int.reduceAdd, Int.reduceSub, Int.reduceNeg, List.reduceReplicate, List.replicate_zero, List.replicate_succ, ne_eq, List.flatMap_cons, List.flatMap_nil, List.length_replicate, List.length_append, Nat.le_refl, Nat.le_add_right, Nat.add_assoc, List.append_assoc, or_true, true_or, or_false, false_or, and_false, false_and, exists_eq_left, exists_eq_left', Option.some.injEq, DV.int.injEq, DV.bool.injEq, DV.sl.injEq, DV.own.injEq, DV.tup.injEq, List.cons.injEq, Ob.arr.injEq, Ob.box.injEq, Option.map_map, Int.toNat_natCast, Int.toNat_zero, Nat.reducePow, Int.toNat_one, Int.reduceMul, Nat.mul_one, Nat.zero_add, Nat.add_zero, Function.comp_apply, List.map_append, List.map_replicate, Int.cast_ofNat_Int, Nat.left_eq_add, Nat.add_eq_left, Nat.add_left_cancel_iff]
    refine ⟨fun h => ?_, fun h => ?_⟩
    · have h0 : i < M.length := by omega
      have hg : (List.map fix (List.take i M) ++ List.drop i M).getD i 0 = M.getD i 0 := by
        rw [List.getD_eq_getElem?_getD, List.getElem?_append_right (by rw [List.length_map, List.length_take]; omega), List.length_map, List.length_take, List.getElem?_drop, List.getD_eq_getElem?_getD]
        congr 2
        omega
      rw [hg]
      have hr := hm1 _ (by rw [hgd i h0]; exact List.getElem_mem h0 : M.getD i 0 ∈ M)
      obtain ⟨k3, k4, k5⟩ := enc_in hr
      have e1 : (M.take (i + 1)).flatMap enc = (M.take i).flatMap enc ++ enc (M.getD i 0) := by
        rw [List.take_succ_eq_append_getElem h0, List.flatMap_append, hgd i h0]; simp
      have e2 : (M.take (i + 1)).map fix = (M.take i).map fix ++ [fix (M.getD i 0)] := by
        rw [List.take_succ_eq_append_getElem h0, List.map_append, hgd i h0]; rfl
      have e3 : M.drop i = M.getD i 0 :: M.drop (i + 1) := by rw [hgd i h0]; exact List.drop_eq_getElem_cons h0
      have hE1 := (hE i).1
      refine ⟨⟨by omega, h⟩, h0, hr, ⟨by omega, by omega⟩, ⟨by omega, h⟩, h0, ?_⟩
      have hw : IntKind.i64.wrap ((i : Int) + 1) = ((i + 1 : Nat) : Int) := by rw [wI64] <;> omega
      cases hmay : may (M.getD i 0)
      · rw [cnd_false]
        refine ⟨⟨by omega, h⟩, h0, by omega, i + 1, ⟨⟨by rw [e1, List.length_append], hw⟩, by rw [e1], ?_⟩, by omega, by omega⟩
        congr 1
        have hf : fix (M.getD i 0) = 65533 := by unfold fix; rw [hmay]; rfl
        rw [e2, hf, e3, List.set_append_right _ _ (by rw [List.length_map, List.length_take]; omega), List.length_map, List.length_take]
        have : i - min i M.length = 0 := by omega
        rw [this]
        simp
      · rw [cnd_true]
        refine ⟨by omega, i + 1, ⟨⟨by rw [e1, List.length_append], hw⟩, by rw [e1], ?_⟩, by omega, by omega⟩
        congr 1
        have hf : fix (M.getD i 0) = M.getD i 0 := by unfold fix; rw [hmay]; rfl
        rw [e2, hf, e3]
        simp
    · have h1 : i = M.length := by omega
      subst h1
      have hEn := hE M.length
      rw [List.take_length] at hEn
      have hfx : inK .i32 (M.map fix) := by
        refine inK_i32 (by rw [List.length_map]; omega) fun n hn => ?_
        obtain ⟨r, hr, rfl⟩ := List.mem_map.1 hn
        have := hm1 r hr
        unfold fix
        split <;> omega
      simp only [List.take_length, List.drop_length, List.append_nil, uallF_back, List.length_nil]
      have hq : List.take M.length (M.map fix) = M.map fix := List.take_of_length_le (by simp)
      rw [hq]
      exact ⟨⟨hEn.2, by omega⟩, fun _ => ⟨⟨hfx, hfx⟩, by omega, by simp⟩, fun h => h rfl⟩
end Go.Proofs.YteemmpghpdaloaaDoor
