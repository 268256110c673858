/- 'UtfEdges'. -/
import Derived.Test.YteemmpghpdaloaaDoorP12
set_option linter.unusedVariables false
set_option linter.unusedSimpArgs false
set_option maxRecDepth 10000
namespace Go.Proofs.YteemmpghpdaloaaDoor
open Go.RowKit

theorem conf_ints {k : IntKind} {d : DV} (h : Conf (.sl [.int k]) d) : ∃ l, d = .sl 1 (intRows k l) .any ∧ (∀ n ∈ l, k.min ≤ n ∧ n ≤ k.max) := by
  cases h with
  | sl row rows h1 h2 h3 =>
    refine ⟨ints rows, ?_, ?_⟩
    · congr 1
      have : ∀ R : List (List DV), (∀ r ∈ R, r.length = 1) → (∀ r ∈ R, ∀ (i : Nat) c d, [CS.int k][i]? = some c → r[i]? = some d → Conf c d) → R = intRows k (ints R) := by
        intro R
        induction R with
        | nil => intro _ _; rfl
        | cons r R ih =>
          intro g1 g2
          have g3 := g1 r (by simp)
          match r, g3 with
          | [c], _ =>
            have g4 := g2 [c] (by simp) 0 (.int k) c rfl rfl
            cases g4 with
            | int k n a b =>
              have := ih (fun r hr => g1 r (by simp [hr])) (fun r hr => g2 r (by simp [hr]))
              conv => lhs; rw [this]
              simp [ints, intRows]
      exact this rows h2 h3
    · intro n hn
      simp only [ints, List.mem_map] at hn
      obtain ⟨r, hr, rfl⟩ := hn
      have g3 := h2 r hr
      match r, g3 with
      | [c], _ =>
        have g4 := h3 [c] hr 0 (.int k) c rfl rfl
        cases g4 with
        | int k n a b => exact ⟨a, b⟩
theorem confA_ints {k : IntKind} {d : DV} (h : ConfA (false, [.sl [.int k]]) d) : ∃ l, d = .sl 1 (intRows k l) .any ∧ (∀ n ∈ l, k.min ≤ n ∧ n ≤ k.max) := by
  obtain ⟨c, h1, h2⟩ := h
  obtain rfl := (List.cons.inj h1).1
  exact conf_ints h2
theorem confA_int {k : IntKind} {d : DV} (h : ConfA (false, [.int k]) d) : ∃ n, d = .int k n ∧ k.min ≤ n ∧ n ≤ k.max := by
  obtain ⟨c, h1, h2⟩ := h
  obtain rfl := (List.cons.inj h1).1
  cases h2 with
  | int k n a b => exact ⟨n, rfl, a, b⟩
theorem confA_bool {d : DV} (h : ConfA (false, [.bool]) d) : ∃ b, d = .bool b := by
  obtain ⟨c, h1, h2⟩ := h
  obtain rfl := (List.cons.inj h1).1
  cases h2 with
  | bool b => exact ⟨b, rfl⟩
theorem inK_of {k : IntKind} {l : List Int} (h : ∀ n ∈ l, k.min ≤ n ∧ n ≤ k.max) (hl : l.length ≤ 1000000) : inK k l := ⟨by omega, h⟩
/-- Rows of slices of numbers. -/
def slRows (k : IntKind) (L : List (List Int)) : List (List DV) := L.map fun l => [.sl 1 (intRows k l) .any]
theorem slRows_length (k : IntKind) (L : List (List Int)) : (slRows k L).length = L.length := by simp [slRows]
theorem bindO_slRows (k : IntKind) (L : List (List Int)) (n : Nat) (f : List DV → Prop) : bindO (slRows k L)[n]? f = (n < L.length ∧ f [.sl 1 (intRows k (L.getD n [])) .any]) := by
  by_cases h : n < L.length
  · simp [slRows, List.getElem?_eq_getElem h, bindO, h]
  · simp [slRows, List.getElem?_eq_none (Nat.le_of_not_lt h), bindO, h]

theorem dec_bd {q : List Int} (hq : inK .u8 q) : 0 ≤ (dec q).1 ∧ (dec q).1 ≤ 2097151 := by
  unfold dec
  split
  · exact ⟨by decide, by decide⟩
  · rename_i h0
    have hb := getD_lt hq (i := 0) (by omega)
    repeat' split
    all_goals simp only
    all_goals (try split)
    all_goals omega
theorem ustep_r {p : List Int} {b : Int} (hp : inK .u8 p) (hb : 0 ≤ b ∧ b ≤ 255) (hl : p.length ≤ 1000000) : ∀ r ∈ (ustep p b).2, 0 ≤ r ∧ r ≤ 2097151 := by
  have h1 : ∀ r ∈ (one b).2, 0 ≤ r ∧ r ≤ 2097151 := by
    intro r hr
    unfold one at hr
    split at hr
    · simp at hr; omega
    · split at hr
      · simp at hr
      · simp at hr; omega
  have hq : inK .u8 (p ++ [b]) := hp.append (inK_u8 (by simp) (by simpa using hb)) (by simp; omega)
  intro r hr
  rw [ustep_eq hb] at hr
  split at hr
  · exact h1 r hr
  · split at hr
    · rename_i r' hg
      simp at hr
      subst hr
      unfold good at hg
      split at hg
      · obtain rfl := Option.some.inj hg
        exact dec_bd hq
      · cases hg
    · split at hr
      · simp at hr
      · rcases List.mem_cons.1 hr with rfl | hr
        · exact ⟨by decide, by decide⟩
        · exact h1 r hr
theorem uallF_r {l : List Int} (h : inK .u8 l) : ∀ i, i ≤ l.length → ∀ r ∈ (uallF (l.take i)).1, 0 ≤ r ∧ r ≤ 2097151
  | 0, _ => by simp [uallF]
  | i + 1, hi => by
    intro r hr
    rw [List.take_succ_eq_append_getElem (by omega), uallF_snoc] at hr
    rcases List.mem_append.1 hr with h1 | h1
    · exact uallF_r h i (by omega) r h1
    · obtain ⟨g1, g2, _⟩ := uallF_take h i (by omega)
      exact ustep_r g1 (h.u8 (List.getElem_mem (by omega))) (by omega) r h1
theorem uallF_in {l : List Int} (h : inK .u8 l) (hl : l.length ≤ 10000000) : inK .i32 (uallF l).1 := by
  have h1 := uallF_r h l.length (Nat.le_refl _)
  obtain ⟨_, _, h2⟩ := uallF_take h l.length (Nat.le_refl _)
  rw [List.take_length] at h1 h2
  exact inK_i32 (by omega) fun n hn => by have := h1 n hn; omega

noncomputable def rc_utfEdges_l0 : RC := (.seq (.reg [⟨(some 63), (.bin .lss (.t 62) (.t 61)), none, false⟩] 0 [60, 61, 62, 63]) (.seq (.cond (.t 63) .skip (.ext 0)) (.seq (.blk 1 (.seq (.reg [⟨(some 64), (.iaddr 1 (.t 60) (.t 62)), none, false⟩, ⟨(some 65), (.load false 1 (.t 64)), none, false⟩, ⟨(some 10), (.mov (.t 65)), none, false⟩] 0 [10, 60, 61, 62]) (.seq (.seq (.reg [⟨(some 66), (.mov (.t 10)), none, false⟩, ⟨(some 67), (.call 19 [(.t 66)]), none, false⟩, ⟨(some 68), (.mov (.t 10)), none, false⟩, ⟨(some 69), (.call 20 [(.t 68)]), none, false⟩, ⟨(some 70), (.eqB true (.t 67) (.t 69)), none, false⟩] 0 [10, 60, 61, 62, 70]) (.cond (.t 70) (.seq (.reg [⟨(some 8), (.mov (.c (.bool false))), none, false⟩] 0 [8]) .ret) .skip)) (.seq (.reg [⟨(some 72), (.mov (.t 10)), none, false⟩, ⟨(some 73), (.call 14 [(.t 72)]), none, false⟩, ⟨(some 71), (.mov (.t 73)), none, false⟩, ⟨(some 74), (.ext (.t 71) 0), none, false⟩, ⟨(some 75), (.ext (.t 71) 1), none, false⟩, ⟨(some 11), (.mov (.t 74)), none, false⟩, ⟨(some 12), (.mov (.t 75)), none, false⟩] 0 [10, 11, 12, 60, 61, 62]) (.seq (.reg [⟨(some 77), (.mov (.t 10)), none, false⟩, ⟨(some 78), (.call 15 [(.t 77)]), none, false⟩, ⟨(some 76), (.mov (.t 78)), none, false⟩, ⟨(some 79), (.ext (.t 76) 0), none, false⟩, ⟨(some 80), (.ext (.t 76) 1), none, false⟩, ⟨(some 13), (.mov (.t 79)), none, false⟩, ⟨(some 14), (.mov (.t 80)), none, false⟩] 0 [11, 12, 13, 14, 60, 61, 62]) (.seq (.reg [⟨(some 81), (.mov (.t 11)), none, false⟩, ⟨(some 82), (.mov (.t 13)), none, false⟩, ⟨(some 83), (.call 16 [(.t 81), (.t 82)]), none, false⟩, ⟨(some 84), (.un .not (.t 83)), none, false⟩, ⟨(some 85), (.mov (.t 84)), none, false⟩, ⟨(some 86), (.mov (.t 12)), (some (85, false)), false⟩, ⟨(some 87), (.conv .b2s (.t 86)), (some (85, false)), false⟩, ⟨(some 88), (.mov (.t 14)), (some (85, false)), false⟩, ⟨(some 89), (.conv .b2s (.t 88)), (some (85, false)), false⟩, ⟨(some 90), (.bin .neq (.t 87) (.t 89)), (some (85, false)), false⟩, ⟨(some 91), (.pick (.t 85) (.c (.bool true)) (.t 90)), none, false⟩] 0 [60, 61, 62, 91]) (.cond (.t 91) (.seq (.reg [⟨(some 8), (.mov (.c (.bool false))), none, false⟩] 0 [8]) .ret) .skip))))))) (.reg [⟨(some 92), (.bin .add (.t 62) (.c (.int .i64 1))), none, false⟩, ⟨(some 62), (.mov (.t 92)), none, false⟩] 0 [60, 61, 62]))))
noncomputable def rc_utfEdges : RFn := ⟨4, 93, (.seq (.reg [⟨(some 8), (.mov (.c (.bool false))), none, false⟩] 0 [0, 1, 2, 3]) (.seq (.seq (.reg [⟨(some 15), (.call 12 []), none, false⟩, ⟨(some 16), (.un .not (.t 15)), none, false⟩] 0 [0, 1, 2, 3, 16]) (.cond (.t 16) (.seq (.reg [⟨(some 8), (.mov (.c (.bool false))), none, false⟩] 0 [8]) .ret) .skip)) (.seq (.seq (.reg [⟨(some 17), (.mov (.t 0)), none, false⟩, ⟨(some 18), (.mkrow 1 [(.int .u8 0)] 1 [(0, (.t 17))]), none, true⟩, ⟨(some 19), (.mov (.t 0)), none, false⟩, ⟨(some 20), (.mov (.t 1)), none, false⟩, ⟨(some 21), (.mkrow 1 [(.int .u8 0)] 2 [(0, (.t 19)), (1, (.t 20))]), none, true⟩, ⟨(some 22), (.mov (.t 0)), none, false⟩, ⟨(some 23), (.mov (.t 1)), none, false⟩, ⟨(some 24), (.mov (.t 2)), none, false⟩, ⟨(some 25), (.mkrow 1 [(.int .u8 0)] 3 [(0, (.t 22)), (1, (.t 23)), (2, (.t 24))]), none, true⟩, ⟨(some 26), (.mov (.t 0)), none, false⟩, ⟨(some 27), (.mov (.t 1)), none, false⟩, ⟨(some 28), (.mov (.t 2)), none, false⟩, ⟨(some 29), (.mov (.t 3)), none, false⟩, ⟨(some 30), (.mkrow 1 [(.int .u8 0)] 4 [(0, (.t 26)), (1, (.t 27)), (2, (.t 28)), (3, (.t 29))]), none, true⟩, ⟨(some 31), (.mov (.t 0)), none, false⟩, ⟨(some 32), (.bin .and (.t 31) (.c (.int .u8 15))), none, false⟩, ⟨(some 33), (.bin .or (.c (.int .u8 224)) (.t 32)), none, false⟩, ⟨(some 34), (.mov (.t 1)), none, false⟩, ⟨(some 35), (.mov (.t 2)), none, false⟩, ⟨(some 36), (.mkrow 1 [(.int .u8 0)] 3 [(0, (.t 33)), (1, (.t 34)), (2, (.t 35))]), none, true⟩, ⟨(some 37), (.mov (.t 0)), none, false⟩, ⟨(some 38), (.bin .and (.t 37) (.c (.int .u8 7))), none, false⟩, ⟨(some 39), (.bin .or (.c (.int .u8 240)) (.t 38)), none, false⟩, ⟨(some 40), (.mov (.t 1)), none, false⟩, ⟨(some 41), (.mov (.t 2)), none, false⟩, ⟨(some 42), (.mkrow 1 [(.int .u8 0)] 3 [(0, (.t 39)), (1, (.t 40)), (2, (.t 41))]), none, true⟩, ⟨(some 43), (.mov (.t 0)), none, false⟩, ⟨(some 44), (.bin .and (.t 43) (.c (.int .u8 7))), none, false⟩, ⟨(some 45), (.bin .or (.c (.int .u8 240)) (.t 44)), none, false⟩, ⟨(some 46), (.mov (.t 1)), none, false⟩, ⟨(some 47), (.bin .and (.t 46) (.c (.int .u8 63))), none, false⟩, ⟨(some 48), (.bin .or (.c (.int .u8 128)) (.t 47)), none, false⟩, ⟨(some 49), (.mov (.t 2)), none, false⟩, ⟨(some 50), (.bin .and (.t 49) (.c (.int .u8 63))), none, false⟩, ⟨(some 51), (.bin .or (.c (.int .u8 128)) (.t 50)), none, false⟩, ⟨(some 52), (.mkrow 1 [(.int .u8 0)] 3 [(0, (.t 45)), (1, (.t 48)), (2, (.t 51))]), none, true⟩, ⟨(some 53), (.mov (.t 0)), none, false⟩, ⟨(some 54), (.bin .and (.t 53) (.c (.int .u8 15))), none, false⟩, ⟨(some 55), (.bin .or (.c (.int .u8 224)) (.t 54)), none, false⟩, ⟨(some 56), (.mov (.t 1)), none, false⟩, ⟨(some 57), (.bin .and (.t 56) (.c (.int .u8 63))), none, false⟩, ⟨(some 58), (.bin .or (.c (.int .u8 128)) (.t 57)), none, false⟩, ⟨(some 59), (.mkrow 1 [(.int .u8 0)] 2 [(0, (.t 55)), (1, (.t 58))]), none, true⟩, ⟨(some 60), (.mkrow 1 [(.sl 0 [] .nil)] 8 [(0, (.t 18)), (1, (.t 21)), (2, (.t 25)), (3, (.t 30)), (4, (.t 36)), (5, (.t 42)), (6, (.t 52)), (7, (.t 59))]), none, true⟩, ⟨(some 61), (.len (.t 60)), none, false⟩, ⟨(some 62), (.mov (.c (.int .i64 0))), none, false⟩] 0 [60, 61, 62]) (.blk 0 (.loop rc_utfEdges_l0))) (.seq (.reg [⟨(some 8), (.mov (.c (.bool true))), none, false⟩] 0 [8]) .ret)))), [(.t 8)]⟩
theorem rc_utfEdges_ok : compFn PG.P [⟨0, 0, [0, 1, 2, 3], []⟩, ⟨1, 0, [0, 1, 2, 3, 16], []⟩, ⟨2, 0, [8], []⟩, ⟨3, 0, [60, 61, 62], [18, 21, 25, 30, 36, 42, 52, 59, 60]⟩, ⟨4, 0, [60, 61, 62, 63], []⟩, ⟨5, 0, [10, 60, 61, 62], []⟩, ⟨6, 0, [10, 60, 61, 62, 70], []⟩, ⟨7, 0, [8], []⟩, ⟨8, 0, [10, 11, 12, 60, 61, 62], []⟩, ⟨9, 0, [11, 12, 13, 14, 60, 61, 62], []⟩, ⟨10, 0, [60, 61, 62, 91], []⟩, ⟨11, 0, [8], []⟩, ⟨12, 0, [60, 61, 62], []⟩, ⟨13, 0, [8], []⟩] 4 = some rc_utfEdges := by kernel_rfl
def edges (a b c d : Int) : List (List Int) := [[a], [a, b], [a, b, c], [a, b, c, d],
  [IntKind.u8.wrap ↑(BitVec.ofInt IntKind.u8.bits 224 ||| BitVec.ofInt IntKind.u8.bits (a % 16)).toNat, b, c],
  [IntKind.u8.wrap ↑(BitVec.ofInt IntKind.u8.bits 240 ||| BitVec.ofInt IntKind.u8.bits (a % 8)).toNat, b, c],
  [IntKind.u8.wrap ↑(BitVec.ofInt IntKind.u8.bits 240 ||| BitVec.ofInt IntKind.u8.bits (a % 8)).toNat, IntKind.u8.wrap ↑(BitVec.ofInt IntKind.u8.bits 128 ||| BitVec.ofInt IntKind.u8.bits (b % 64)).toNat,
    IntKind.u8.wrap ↑(BitVec.ofInt IntKind.u8.bits 128 ||| BitVec.ofInt IntKind.u8.bits (c % 64)).toNat],
  [IntKind.u8.wrap ↑(BitVec.ofInt IntKind.u8.bits 224 ||| BitVec.ofInt IntKind.u8.bits (a % 16)).toNat, IntKind.u8.wrap ↑(BitVec.ofInt IntKind.u8.bits 128 ||| BitVec.ofInt IntKind.u8.bits (b % 64)).toNat]]
theorem u8_wrap_in (x : Int) : IntKind.u8.min ≤ IntKind.u8.wrap x ∧ IntKind.u8.wrap x ≤ IntKind.u8.max := by
  rw [IntKind.wrap_u8]
  have h1 : IntKind.u8.min = 0 := by decide
  have h2 : IntKind.u8.max = 255 := by decide
  rw [h1, h2]
  omega
theorem edges_in {a b c d : Int} (ha : IntKind.u8.min ≤ a ∧ a ≤ IntKind.u8.max) (hb : IntKind.u8.min ≤ b ∧ b ≤ IntKind.u8.max) (hc : IntKind.u8.min ≤ c ∧ c ≤ IntKind.u8.max) (hd : IntKind.u8.min ≤ d ∧ d ≤ IntKind.u8.max) :
    ∀ l ∈ edges a b c d, inK .u8 l ∧ l.length ≤ 4 := by
  intro l hl
  simp only [edges, List.mem_cons, List.not_mem_nil, or_false] at hl
  rcases hl with rfl | rfl | rfl | rfl | rfl | rfl | rfl | rfl <;> refine ⟨⟨by simp, ?_⟩, by simp⟩ <;> intro n hn <;> simp only [List.mem_cons, List.not_mem_nil, or_false] at hn <;> (try rcases hn with rfl | hn) <;> (try rcases hn with rfl | hn) <;> (try rcases hn with rfl | hn) <;> (try subst hn) <;> first | assumption | exact u8_wrap_in _
theorem utfEdges_true (dv : List DV) (h : ConfL [(false, [.int .u8]), (false, [.int .u8]), (false, [.int .u8]), (false, [.int .u8])] dv) : PCalls PG 4 dv fun _ r _ => r = .bool true := by
  obtain ⟨a0, r, rfl, h0, h⟩ := h.cons
  obtain ⟨b0, r, rfl, h1, h⟩ := h.cons
  obtain ⟨c0, r, rfl, h2, h⟩ := h.cons
  obtain ⟨d0, r, rfl, h3, h⟩ := h.cons
  obtain rfl := h.nil
  obtain ⟨a, rfl, ha⟩ := confA_int h0
  obtain ⟨b, rfl, hb⟩ := confA_int h1
  obtain ⟨c, rfl, hc⟩ := confA_int h2
  obtain ⟨d, rfl, hd⟩ := confA_int h3
  have hin := edges_in ha hb hc hd
  refine (PCalls.by_fn (res := fun n => (.bool true, [])) T16_ok rc_utfEdges_ok (by simp [rc_utfEdges]) fun n => ?_).mono fun _ _ _ h => h.1
  unfold rc_utfEdges
  dsimp only
  simp -implicitDefEqProofs only [T16_b, and7_u8, and15_u8, and31_u8, and63_u8, vcA1, vcA2, vcA3, vcA4, vcA5, vcA6, vcA7, ↓vcP1, ↓vcP2, ↓reduceIte, Option.map_some, Option.map_none, Option.bind_some, Option.bind_none, if_true, if_false, reduceCtorEq, beq_true, beq_false, Bool.not_true, Bool.not_false, BEq.rfl, Bool.true_beq, Bool.false_beq, and_true, true_and, and_self, decide_true, decide_false, List.length_cons, List.length_nil, List.all_cons, List.all_nil, Bool.and_true, Bool.and_self, List.getElem?_cons_zero, List.getElem?_cons_succ, List.set_cons_zero, List.set_cons_succ, List.nil_append, List.cons_append, List.append_nil, List.map_cons, List.map_nil, not_true_eq_false, not_false_eq_true, false_implies, true_implies, implies_true, List.take_succ_cons, List.take_zero, List.take_nil, List.drop_succ_cons, List.drop_zero, List.drop_nil, Nat.reduceLT, Nat.reduceLeDiff, Nat.reduceEqDiff, Nat.reduceAdd, Nat.reduceSub, Nat.reduceMul, Int.reduceLT, Int.reduceLE, Int.reduceEq, Int.reduceToNat, Int.reduceAdd, Int.reduceSub, Int.reduceNeg, List.reduceReplicate, List.replicate_zero, List.replicate_succ, ne_eq, List.flatMap_cons, List.flatMap_nil, List.length_replicate, List.length_append, Nat.le_refl, Nat.le_add_right, Nat.add_assoc, List.append_assoc, or_true, true_or, or_false, false_or, and_false, false_and, exists_eq_left, exists_eq_left', Option.some.injEq, DV.int.injEq, DV.bool.injEq, DV.sl.injEq, DV.own.injEq, DV.tup.injEq, List.cons.injEq, Ob.arr.injEq, Ob.box.injEq, Option.map_map, Int.toNat_natCast, Int.toNat_zero, Nat.reducePow, Int.toNat_one, Int.reduceMul, Nat.mul_one, Nat.zero_add, Nat.add_zero, Function.comp_apply, List.map_append, List.map_replicate, Int.cast_ofNat_Int, Nat.left_eq_add, Nat.add_eq_left, Nat.add_left_cancel_iff]
  refine LoopWp.invR T16_ok (S := fun m (i : Nat) => ⟨[(60, .sl 1 (slRows .u8 (edges a b c d)) .any), (61, .int .i64 8), (62, .int .i64 i)], List.replicate m none⟩) (I := fun i => i ≤ 8) (μ := fun i => 8 - i) n 0 (by omega) ?_ ?_
  · simp -implicitDefEqProofs only [vcA1, vcA2, vcA3, vcA4, vcA5, vcA6, vcA7, ↓vcP1, ↓vcP2, ↓reduceIte, Option.map_some, Option.map_none, Option.bind_some, Option.bind_none, if_true, if_false, reduceCtorEq, beq_true, beq_false, Bool.not_true, Bool.not_false, BEq.rfl, Bool.true_beq, Bool.false_beq, and_true, true_and, and_self, decide_true, decide_false, List.length_cons, List.length_nil, List.all_cons, List.all_nil, Bool.and_true, Bool.and_self, List.getElem?_cons_zero, List.getElem?_cons_succ, List.set_cons_zero, List.set_cons_succ, List.nil_append, List.cons_append, List.append_nil, List.map_cons, List.map_nil, not_true_eq_false, not_false_eq_true, false_implies, true_implies, implies_true, List.take_succ_cons, List.take_zero, List.take_nil, List.drop_succ_cons, List.drop_zero, List.drop_nil, Nat.reduceLT, Nat.reduceLeDiff, Nat.reduceEqDiff, Nat.reduceAdd, Nat.reduceSub, Nat.reduceMul, Int.reduceLT, Int.reduceLE, Int.reduceEq, Int.reduceToNat, Int.reduceAdd, Int.reduceSub, Int.reduceNeg, List.reduceReplicate, List.replicate_zero, List.replicate_succ, ne_eq, List.flatMap_cons, List.flatMap_nil, List.length_replicate, List.length_append, Nat.le_refl, Nat.le_add_right, Nat.add_assoc, List.append_assoc, or_true, true_or, or_false, false_or, and_false, false_and, exists_eq_left, exists_eq_left', Option.some.injEq, DV.int.injEq, DV.bool.injEq, DV.sl.injEq, DV.own.injEq, DV.tup.injEq, List.cons.injEq, Ob.arr.injEq, Ob.box.injEq, Option.map_map, Int.toNat_natCast, Int.toNat_zero, Nat.reducePow, Int.toNat_one, Int.reduceMul, Nat.mul_one, Nat.zero_add, Nat.add_zero, Function.comp_apply, List.map_append, List.map_replicate, Int.cast_ofNat_Int, Nat.left_eq_add, Nat.add_eq_left, Nat.add_left_cancel_iff]
    rfl
  · intro m i hm hi
    have hlen : (edges a b c d).length = 8 := rfl
    unfold rc_utfEdges_l0
    simp -implicitDefEqProofs only [T16_b, slRows_length, bindO_slRows, hlen, vcA1, vcA2, vcA3, vcA4, vcA5, vcA6, vcA7, ↓vcP1, ↓vcP2, ↓reduceIte, Option.map_some, Option.map_none, Option.bind_some, Option.bind_none, if_true, if_false, reduceCtorEq, beq_true, beq_false, Bool.not_true, Bool.not_false, BEq.rfl, Bool.true_beq, Bool.false_beq, and_true, true_and, and_self, decide_true, decide_false, List.length_cons, List.length_nil, List.all_cons, List.all_nil, Bool.and_true, Bool.and_self, List.getElem?_cons_zero, List.getElem?_cons_succ, List.set_cons_zero, List.set_cons_succ, List.nil_append, List.cons_append, List.append_nil, List.map_cons, List.map_nil, not_true_eq_false, not_false_eq_true, false_implies, true_implies, implies_true, List.take_succ_cons, List.take_zero, List.take_nil, List.drop_succ_cons, List.drop_zero, List.drop_nil, Nat.reduceLT, Nat.reduceLeDiff, Nat.reduceEqDiff, Nat.reduceAdd, Nat.reduceSub, Nat.reduceMul, Int.reduceLT, Int.reduceLE, Int.reduceEq, Int.reduceToNat, Int.reduceAdd, Int.reduceSub, Int.reduceNeg, List.reduceReplicate, List.replicate_zero, List.replicate_succ, ne_eq, List.flatMap_cons, List.flatMap_nil, List.length_replicate, List.length_append, Nat.le_refl, Nat.le_add_right, Nat.add_assoc, List.append_assoc, or_true, true_or, or_false, false_or, and_false, false_and, exists_eq_left, exists_eq_left', Option.some.injEq, DV.int.injEq, DV.bool.injEq, DV.sl.injEq, DV.own.injEq, DV.tup.injEq, List.cons.injEq, Ob.arr.injEq, Ob.box.injEq, Option.map_map, Int.toNat_natCast, Int.toNat_zero, Nat.reducePow, Int.toNat_one, Int.reduceMul, Nat.mul_one, Nat.zero_add, Nat.add_zero, Function.comp_apply, List.map_append, List.map_replicate, Int.cast_ofNat_Int, Nat.left_eq_add, Nat.add_eq_left, Nat.add_left_cancel_iff]
    refine ⟨fun h => ?_, fun h => hm⟩
    have hi8 : i < 8 := by omega
    have hmem : (edges a b c d).getD i [] ∈ edges a b c d := by
      rw [List.getD_eq_getElem?_getD, List.getElem?_eq_getElem (by omega)]
      exact List.getElem_mem _
    obtain ⟨g1, g2⟩ := hin _ hmem
    exact ⟨⟨by omega, h⟩, hi8, g1, g1, ⟨g1, by omega⟩, ⟨g1, by omega⟩, uallF_in g1 (by omega), hm, i + 1, by rw [wI64] <;> omega, by omega, by omega⟩
end Go.Proofs.YteemmpghpdaloaaDoor
