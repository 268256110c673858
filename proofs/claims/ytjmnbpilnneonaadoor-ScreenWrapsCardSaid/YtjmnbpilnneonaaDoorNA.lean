/- Texts H17, H18, H19 in one. -/
import Derived.Test.YtjmnbpilnneonaaDoorN9
import Derived.Test.YtjmnbpilnneonaaDoorM7
set_option linter.unusedVariables false
set_option linter.unusedSimpArgs false
set_option maxRecDepth 10000
namespace Go.Proofs.YtjmnbpilnneonaaDoor
open Go.RowKit
noncomputable def rc_rright : RFn := ⟨1, 58, .seq (.reg [⟨some 1, .box 3 (.t 0), none, false⟩, ⟨some 2, .mov (.c (.bool false)), none, false⟩] 0 [1]) (.seq (.seq (.reg [⟨some 3, .faddr 0 (.t 1), none, false⟩, ⟨some 4, .load false 1 (.t 3), none, false⟩, ⟨some 5, .bin .lss (.t 4) (.c (.int .i32 0)), none, false⟩, ⟨some 6, .mov (.t 5), none, false⟩, ⟨some 7, .faddr 0 (.t 1), some (6, false), false⟩, ⟨some 8, .load false 1 (.t 7), some (6, false), false⟩, ⟨some 9, .bin .gtr (.t 8) (.c (.int .i32 1114111)), some (6, false), false⟩, ⟨some 10, .pick (.t 6) (.c (.bool true)) (.t 9), none, false⟩, ⟨some 11, .mov (.t 10), none, false⟩, ⟨some 12, .faddr 0 (.t 1), some (11, false), false⟩, ⟨some 13, .load false 1 (.t 12), some (11, false), false⟩, ⟨some 14, .bin .geq (.t 13) (.c (.int .i32 55296)), some (11, false), false⟩, ⟨some 15, .mov (.t 14), some (11, false), false⟩, ⟨some 16, .faddr 0 (.t 1), some (15, true), false⟩, ⟨some 17, .load false 1 (.t 16), some (15, true), false⟩, ⟨some 18, .bin .lss (.t 17) (.c (.int .i32 57344)), some (15, true), false⟩, ⟨some 19, .pick (.t 15) (.t 18) (.c (.bool false)), some (11, false), false⟩, ⟨some 20, .pick (.t 11) (.c (.bool true)) (.t 19), none, false⟩, ⟨some 21, .mov (.t 20), none, false⟩, ⟨some 22, .faddr 2 (.t 1), some (21, false), false⟩, ⟨some 23, .load false 1 (.t 22), some (21, false), false⟩, ⟨some 24, .bin .gtr (.t 23) (.c (.int .u8 2)), some (21, false), false⟩, ⟨some 25, .pick (.t 21) (.c (.bool true)) (.t 24), none, false⟩, ⟨some 26, .mov (.t 25), none, false⟩, ⟨some 27, .faddr 0 (.t 1), some (26, false), false⟩, ⟨some 28, .load false 1 (.t 27), some (26, false), false⟩, ⟨some 29, .bin .eql (.t 28) (.c (.int .i32 0)), some (26, false), false⟩, ⟨some 30, .faddr 2 (.t 1), some (26, false), false⟩, ⟨some 31, .load false 1 (.t 30), some (26, false), false⟩, ⟨some 32, .bin .eql (.t 31) (.c (.int .u8 2)), some (26, false), false⟩, ⟨some 33, .eqB true (.t 29) (.t 32), some (26, false), false⟩, ⟨some 34, .pick (.t 26) (.c (.bool true)) (.t 33), none, false⟩] 0 [1, 34]) (.cond (.t 34) (.seq (.reg [⟨some 2, .mov (.c (.bool false)), none, false⟩] 0 [2]) .ret) .skip)) (.seq (.reg [⟨some 35, .faddr 1 (.t 1), none, false⟩, ⟨some 36, .load false 1 (.t 35), none, false⟩, ⟨some 37, .bin .lss (.t 36) (.c (.int .u16 4096)), none, false⟩, ⟨some 38, .mov (.t 37), none, false⟩, ⟨some 39, .faddr 1 (.t 1), some (38, true), false⟩, ⟨some 40, .load false 1 (.t 39), some (38, true), false⟩, ⟨some 41, .bin .and (.t 40) (.c (.int .u16 8)), some (38, true), false⟩, ⟨some 42, .bin .eql (.t 41) (.c (.int .u16 0)), some (38, true), false⟩, ⟨some 43, .pick (.t 38) (.t 42) (.c (.bool false)), none, false⟩, ⟨some 44, .mov (.t 43), none, false⟩, ⟨some 45, .faddr 1 (.t 1), some (44, true), false⟩, ⟨some 46, .load false 1 (.t 45), some (44, true), false⟩, ⟨some 47, .bin .shr (.t 46) (.c (.int .u64 4)), some (44, true), false⟩, ⟨some 48, .bin .and (.t 47) (.c (.int .u16 15)), some (44, true), false⟩, ⟨some 49, .bin .leq (.t 48) (.c (.int .u16 8)), some (44, true), false⟩, ⟨some 50, .pick (.t 44) (.t 49) (.c (.bool false)), none, false⟩, ⟨some 51, .mov (.t 50), none, false⟩, ⟨some 52, .faddr 1 (.t 1), some (51, true), false⟩, ⟨some 53, .load false 1 (.t 52), some (51, true), false⟩, ⟨some 54, .bin .shr (.t 53) (.c (.int .u64 8)), some (51, true), false⟩, ⟨some 55, .bin .and (.t 54) (.c (.int .u16 15)), some (51, true), false⟩, ⟨some 56, .bin .leq (.t 55) (.c (.int .u16 8)), some (51, true), false⟩, ⟨some 57, .pick (.t 51) (.t 56) (.c (.bool false)), none, false⟩, ⟨some 2, .mov (.t 57), none, false⟩] 0 [2]) .ret)), [.t 2]⟩
theorem rc_rright_ok : compFn PG.P [⟨0, 0, [1], []⟩, ⟨1, 0, [1, 34], []⟩, ⟨2, 0, [2], []⟩, ⟨3, 0, [2], []⟩] 40 = some rc_rright := by kernel_rfl
noncomputable def rc_scell1 : RFn := ⟨1, 6, .seq (.reg [⟨some 1, .box 3 (.t 0), none, false⟩, ⟨some 2, .mov (.c (.bool false)), none, false⟩] 0 [1]) (.seq (.reg [⟨some 3, .load true 3 (.t 1), none, false⟩, ⟨some 4, .call 40 [.t 3], none, false⟩, ⟨some 5, .un .not (.t 4), none, false⟩, ⟨some 2, .mov (.t 5), none, false⟩] 0 [2]) .ret), [.t 2]⟩
theorem rc_scell1_ok : compFn PG.P [⟨0, 0, [1], []⟩, ⟨1, 0, [2], []⟩] 39 = some rc_scell1 := by kernel_rfl
noncomputable def rc_cIndex_l0 : RC := (.seq (.reg [⟨some 9, .bin .lss (.t 8) (.t 7), none, false⟩] 0 [0, 1, 7, 8, 9]) (.seq (.cond (.t 9) .skip (.ext 0)) (.seq (.blk 1 (.seq (.reg [⟨some 10, .mov (.t 8), none, false⟩, ⟨some 5, .mov (.t 10), none, false⟩] 0 [0, 1, 5, 7, 8]) (.seq (.reg [⟨some 11, .mov (.t 1), none, false⟩, ⟨some 12, .mov (.t 0), none, false⟩, ⟨some 13, .mov (.t 5), none, false⟩, ⟨some 14, .iaddr 3 (.t 12) (.t 13), none, false⟩, ⟨some 15, .load true 3 (.t 14), none, false⟩, ⟨some 16, .calld (.t 11) [.t 15], none, false⟩] 0 [0, 1, 5, 7, 8, 16]) (.cond (.t 16) (.seq (.reg [⟨some 17, .mov (.t 5), none, false⟩, ⟨some 4, .mov (.t 17), none, false⟩] 0 [4]) .ret) .skip)))) (.reg [⟨some 18, .bin .add (.t 8) (.c (.int .i64 1)), none, false⟩, ⟨some 8, .mov (.t 18), none, false⟩] 0 [0, 1, 7, 8]))))
noncomputable def rc_cIndex : RFn := ⟨2, 19, .seq (.reg [⟨some 4, .mov (.c (.int .i64 0)), none, false⟩] 0 [0, 1]) (.seq (.seq (.reg [⟨some 6, .mov (.t 0), none, false⟩, ⟨some 7, .len (.t 6), none, false⟩, ⟨some 8, .mov (.c (.int .i64 0)), none, false⟩] 0 [0, 1, 7, 8]) (.blk 0 (.loop rc_cIndex_l0))) (.seq (.reg [⟨some 4, .mov (.c (.int .i64 (-1))), none, false⟩] 0 [4]) .ret)), [.t 4]⟩
theorem rc_cIndex_ok : compFn PG.P [⟨0, 0, [0, 1], []⟩, ⟨1, 0, [0, 1, 7, 8], []⟩, ⟨2, 0, [0, 1, 7, 8, 9], []⟩, ⟨3, 0, [0, 1, 5, 7, 8], []⟩, ⟨4, 0, [0, 1, 5, 7, 8, 16], []⟩, ⟨5, 0, [4], []⟩, ⟨6, 0, [0, 1, 7, 8], []⟩, ⟨7, 0, [4], []⟩] 69 = some rc_cIndex := by kernel_rfl
noncomputable def rc_cContains : RFn := ⟨2, 9, .seq (.reg [⟨some 4, .mov (.c (.bool false)), none, false⟩] 0 [0, 1]) (.seq (.reg [⟨some 5, .mov (.t 0), none, false⟩, ⟨some 6, .mov (.t 1), none, false⟩, ⟨some 7, .call 69 [.t 5, .t 6], none, false⟩, ⟨some 8, .bin .geq (.t 7) (.c (.int .i64 0)), none, false⟩, ⟨some 4, .mov (.t 8), none, false⟩] 0 [4]) .ret), [.t 4]⟩
theorem rc_cContains_ok : compFn PG.P [⟨0, 0, [0, 1], []⟩, ⟨1, 0, [4], []⟩] 38 = some rc_cContains := by kernel_rfl
def ceIn (c : Ce) : Prop := (-2147483648 ≤ c.r ∧ c.r ≤ 2147483647) ∧ (0 ≤ c.a ∧ c.a ≤ 65535) ∧ (0 ≤ c.h ∧ c.h ≤ 255)
def atB (a : Int) : Bool := decide (a < 4096) && decide (a.toNat &&& 8 = 0) && decide ((a.toNat / 16) &&& 15 ≤ 8) && decide ((a.toNat / 256) &&& 15 ≤ 8)
def ceB (c : Ce) : Bool := decide (0 ≤ c.r ∧ c.r ≤ 1114111 ∧ ¬ (55296 ≤ c.r ∧ c.r < 57344) ∧ c.h ≤ 2 ∧ (c.r = 0 ↔ c.h = 2)) && atB c.a
theorem and16 {a : Int} (m : Nat) (hm : m ≤ 65535) (ha : 0 ≤ a ∧ a ≤ 65535) : IntKind.u16.wrap ((BitVec.ofInt IntKind.u16.bits a &&& BitVec.ofInt IntKind.u16.bits (m : Int)).toNat : Nat) = ((a.toNat &&& m : Nat) : Int) := by
  have h1 : a.toNat &&& m ≤ a.toNat := Nat.and_le_left
  rw [BitVec.toNat_and, ofInt16 ha, ofInt16 (a := (m : Int)) (by omega), Int.toNat_natCast]
  exact wU16 (by omega) (by omega)
theorem rright_K {T : Objs} {c : Ce} {K : DV → Objs → Prop} (hc : ceIn c) (h : ∀ T', Keep T T' [] → K (.bool (ceB c)) T') : CallK PG 40 [.agg c.row] T K := by
  obtain ⟨r, a, hh⟩ := c
  obtain ⟨h1, h2, h3⟩ := hc
  dsimp only at h1 h2 h3
  have s4 : a.fdiv (2 ^ min 4 IntKind.u16.bits) = ((a.toNat / 16 : Nat) : Int) := by
    rw [show min 4 IntKind.u16.bits = 4 from rfl, Int.fdiv_eq_ediv_of_nonneg _ (by decide)]
    omega
  have s8 : a.fdiv (2 ^ min 8 IntKind.u16.bits) = ((a.toNat / 256 : Nat) : Int) := by
    rw [show min 8 IntKind.u16.bits = 8 from rfl, Int.fdiv_eq_ediv_of_nonneg _ (by decide)]
    omega
  have a8 : IntKind.u16.wrap ((BitVec.ofInt IntKind.u16.bits a &&& BitVec.ofInt IntKind.u16.bits 8).toNat : Nat) = ((a.toNat &&& 8 : Nat) : Int) := and16 8 (by decide) h2
  have a4 : IntKind.u16.wrap ((BitVec.ofInt IntKind.u16.bits ((a.toNat / 16 : Nat) : Int) &&& BitVec.ofInt IntKind.u16.bits 15).toNat : Nat) = (((a.toNat / 16) &&& 15 : Nat) : Int) := and16 (a := ((a.toNat / 16 : Nat) : Int)) 15 (by decide) (by omega)
  have a9 : IntKind.u16.wrap ((BitVec.ofInt IntKind.u16.bits ((a.toNat / 256 : Nat) : Int) &&& BitVec.ofInt IntKind.u16.bits 15).toNat : Nat) = (((a.toNat / 256) &&& 15 : Nat) : Int) := and16 (a := ((a.toNat / 256 : Nat) : Int)) 15 (by decide) (by omega)
  unfold Ce.row
  refine CallK.of_fn FOk.nil rc_rright_ok (by simp [rc_rright]) ?_
  unfold rc_rright
  dsimp only
  simp -implicitDefEqProofs -dsimp only [tb_at, show (4 : Int).toNat = 4 from rfl, show (8 : Int).toNat = 8 from rfl, s4, s8, a8, a4, a9, vcS, ↓vcP1, ↓vcP2, ↓reduceIte, reduceCtorEq, Nat.reduceLT, Nat.reduceLeDiff, Nat.reduceEqDiff, Nat.reduceAdd, Nat.reduceSub, Nat.reduceMul, Int.reduceLT, Int.reduceLE, Int.reduceEq, Int.reduceToNat, Int.reduceAdd, Int.reduceSub, Int.reduceNeg, List.reduceReplicate, Nat.reducePow, Int.reduceMul]
  generalize hX : T ++ [some (Ob.box [.int .i32 r, .int .u16 a, .int .u8 hh])] = X
  have kT : ∀ b, b = ceB ⟨r, a, hh⟩ → K (.bool b) X := fun b e => by rw [e, ← hX]; exact h _ (Keep.app _ _ _)
  clear h s4 s8 a8 a4 a9
  have e1 : (decide (r = 0) = decide (hh = 2)) ↔ (r = 0 ↔ hh = 2) := by rw [decide_eq_decide]
  simp only [e1]
  repeat' (first | intro _ | apply And.intro)
  all_goals
    refine kT _ ?_
    unfold ceB atB
    dsimp only
    first
      | (symm; rw [Bool.and_eq_false_iff]; left; rw [decide_eq_false_iff_not]; omega)
      | (rw [decide_eq_true (by omega), Bool.true_and]; simp [*]; done)
      | (rw [decide_eq_true (by omega), Bool.true_and]; simp [*]; omega)
      | (rw [Bool.eq_iff_iff]; simp only [Bool.and_eq_true, decide_eq_true_eq]; omega)
theorem scell1_K {T : Objs} {c : Ce} {K : DV → Objs → Prop} (hc : ceIn c) (h : ∀ T', Keep T T' [] → K (.bool (!ceB c)) T') : CallK PG 39 [.agg c.row] T K := by
  have er : c.row = [.int .i32 c.r, .int .u16 c.a, .int .u8 c.h] := rfl
  refine CallK.of_fn FOk.nil rc_scell1_ok (by simp [rc_scell1]) ?_
  unfold rc_scell1
  dsimp only
  rw [er]
  simp -implicitDefEqProofs -dsimp only [tb_at, vcS, ↓vcP1, ↓vcP2, ↓reduceIte, reduceCtorEq, Nat.reduceLT, Nat.reduceLeDiff, Nat.reduceEqDiff, Nat.reduceAdd, Nat.reduceSub, Nat.reduceMul, Int.reduceLT, Int.reduceLE, Int.reduceEq, Int.reduceToNat, Int.reduceAdd, Int.reduceSub, Int.reduceNeg, List.reduceReplicate, Nat.reducePow, Int.reduceMul]
  refine rright_K hc fun T' k => ?_
  simp -implicitDefEqProofs -dsimp only [tb_at, vcS, ↓vcP1, ↓vcP2, ↓reduceIte, reduceCtorEq, Nat.reduceLT, Nat.reduceLeDiff, Nat.reduceEqDiff, Nat.reduceAdd, Nat.reduceSub, Nat.reduceMul, Int.reduceLT, Int.reduceLE, Int.reduceEq, Int.reduceToNat, Int.reduceAdd, Int.reduceSub, Int.reduceNeg, List.reduceReplicate, Nat.reducePow, Int.reduceMul]
  exact ⟨by have := k.1; simp at this; omega, h _ ((Keep.app T _ []).new k (by simp))⟩
theorem hbCell1 : hasBody PG.P 39 = true := by kernel_rfl
def badI (L : List Ce) : Int := match L.findIdx? (fun c => !ceB c) with
  | some i => i
  | none => -1
theorem cIndex_K {T : Objs} {sz : Nat} {k : SK} {L : List Ce} {K : DV → Objs → Prop} (hs : sz = 3 ∨ L = []) (hl : L.length ≤ 1000000) (hc : ∀ c ∈ L, ceIn c) (h : ∀ T', Keep T T' [] → K (.int .i64 (badI L)) T') :
    CallK PG 69 [.sl sz (ceRows L) k, .lit (.func (.func 39) #[] #[])] T K := by
  refine CallK.of_fn FOk.nil rc_cIndex_ok (by simp [rc_cIndex]) ?_
  unfold rc_cIndex
  dsimp only
  simp -implicitDefEqProofs -dsimp only [tb_at, ceRows_len, vcS, ↓vcP1, ↓vcP2, ↓reduceIte, reduceCtorEq, Nat.reduceLT, Nat.reduceLeDiff, Nat.reduceEqDiff, Nat.reduceAdd, Nat.reduceSub, Nat.reduceMul, Int.reduceLT, Int.reduceLE, Int.reduceEq, Int.reduceToNat, Int.reduceAdd, Int.reduceSub, Int.reduceNeg, List.reduceReplicate, Nat.reducePow, Int.reduceMul]
  refine LoopWp.inv FOk.nil (S := fun σ : Nat × Objs => ⟨[(0, .sl sz (ceRows L) k), (1, .lit (.func (.func 39) #[] #[])), (7, .int .i64 L.length), (8, .int .i64 σ.1)], σ.2⟩)
    (I := fun σ => σ.1 ≤ L.length ∧ Keep T σ.2 [] ∧ ∀ j, j < σ.1 → ceB (L.getD j blkC) = true) (μ := fun σ => L.length - σ.1) (0, T) ⟨by simp, Keep.refl _ _, fun j hj => absurd hj (by simp)⟩ ?_ ?_
  · simp -implicitDefEqProofs -dsimp only [wkT_self, vcS, ↓vcP1, ↓vcP2, ↓reduceIte, reduceCtorEq, Nat.reduceLT, Nat.reduceLeDiff, Nat.reduceEqDiff, Nat.reduceAdd, Nat.reduceSub, Nat.reduceMul, Int.reduceLT, Int.reduceLE, Int.reduceEq, Int.reduceToNat, Int.reduceAdd, Int.reduceSub, Int.reduceNeg, List.reduceReplicate, Nat.reducePow, Int.reduceMul]
  · intro ⟨i, A⟩ ⟨h1, h2, h3⟩
    dsimp only at h1 h2 h3 ⊢
    unfold rc_cIndex_l0
    have w1 : IntKind.i64.wrap ((i : Int) + 1) = ((i + 1 : Nat) : Int) := by rw [wI64 (by omega) (by omega)]; omega
    rcases Nat.lt_or_ge i L.length with hlt | hge
    · have hii : (i : Int) < L.length := by omega
      have i0 : (0 : Int) ≤ i := by omega
      have hsz : sz = 3 := by rcases hs with h | h; exact h; subst h; simp at hlt
      subst hsz
      have hg := ceRows_get hlt
      have hci := hc (L.getD i blkC) (by simp [List.getD_eq_getElem?_getD, hlt])
      simp -implicitDefEqProofs -dsimp only [tb_at, hii, i0, hg, ceRows_len, Nat.zero_add, hbCell1, ↓stV_calld, calldV_lit, vcS, ↓vcP1, ↓vcP2, ↓reduceIte, reduceCtorEq, Nat.reduceLT, Nat.reduceLeDiff, Nat.reduceEqDiff, Nat.reduceAdd, Nat.reduceSub, Nat.reduceMul, Int.reduceLT, Int.reduceLE, Int.reduceEq, Int.reduceToNat, Int.reduceAdd, Int.reduceSub, Int.reduceNeg, List.reduceReplicate, Nat.reducePow, Int.reduceMul]
      refine scell1_K (c := L.getD i blkC) hci fun T' k => ?_
      cases hb : ceB (L.getD i blkC) with
      | true =>
        simp -implicitDefEqProofs -dsimp only [tb_at, w1, wkT_self, vcS, ↓vcP1, ↓vcP2, ↓reduceIte, reduceCtorEq, Nat.reduceLT, Nat.reduceLeDiff, Nat.reduceEqDiff, Nat.reduceAdd, Nat.reduceSub, Nat.reduceMul, Int.reduceLT, Int.reduceLE, Int.reduceEq, Int.reduceToNat, Int.reduceAdd, Int.reduceSub, Int.reduceNeg, List.reduceReplicate, Nat.reducePow, Int.reduceMul]
        refine ⟨(i + 1, T'), ⟨rfl, objsWk_refl _⟩, ⟨hlt, h2.new k (by simp), fun j hj => ?_⟩, by dsimp only; omega⟩
        rcases Nat.lt_or_ge j i with hji | hji
        · exact h3 j hji
        · obtain rfl : j = i := by dsimp only at hj; omega
          exact hb
      | false =>
        simp -implicitDefEqProofs -dsimp only [tb_at, w1, wkT_self, vcS, ↓vcP1, ↓vcP2, ↓reduceIte, reduceCtorEq, Nat.reduceLT, Nat.reduceLeDiff, Nat.reduceEqDiff, Nat.reduceAdd, Nat.reduceSub, Nat.reduceMul, Int.reduceLT, Int.reduceLE, Int.reduceEq, Int.reduceToNat, Int.reduceAdd, Int.reduceSub, Int.reduceNeg, List.reduceReplicate, Nat.reducePow, Int.reduceMul]
        have e : L.findIdx? (fun c => !ceB c) = some i := by
          rw [List.findIdx?_eq_some_iff_getElem]
          refine ⟨hlt, by simpa [List.getD_eq_getElem?_getD, hlt] using hb, fun j hj => ?_⟩
          have h5 := h3 j hj
          rw [List.getD_eq_getElem?_getD, List.getElem?_eq_getElem (by omega)] at h5
          simpa using h5
        have kk : Keep T T' [] := h2.new k (by simp)
        refine ⟨kk.1, ?_⟩
        have := h T' kk
        unfold badI at this
        rw [e] at this
        exact this
    · have hii : ¬ (i : Int) < L.length := by omega
      obtain rfl : i = L.length := by omega
      simp -implicitDefEqProofs -dsimp only [tb_at, hii, wkT_self, vcS, ↓vcP1, ↓vcP2, ↓reduceIte, reduceCtorEq, Nat.reduceLT, Nat.reduceLeDiff, Nat.reduceEqDiff, Nat.reduceAdd, Nat.reduceSub, Nat.reduceMul, Int.reduceLT, Int.reduceLE, Int.reduceEq, Int.reduceToNat, Int.reduceAdd, Int.reduceSub, Int.reduceNeg, List.reduceReplicate, Nat.reducePow, Int.reduceMul]
      have e : L.findIdx? (fun c => !ceB c) = none := by
        rw [List.findIdx?_eq_none_iff]
        intro x hx
        obtain ⟨j, hj, rfl⟩ := List.getElem_of_mem hx
        have h5 := h3 j hj
        rw [List.getD_eq_getElem?_getD, List.getElem?_eq_getElem hj] at h5
        simpa using h5
      refine ⟨h2.1, ?_⟩
      have := h A h2
      unfold badI at this
      rw [e] at this
      exact this
theorem badI_all (L : List Ce) : decide (0 ≤ badI L) = !L.all ceB := by
  unfold badI
  cases h : L.findIdx? (fun c => !ceB c) with
  | none =>
    rw [List.findIdx?_eq_none_iff] at h
    have : L.all ceB = true := List.all_eq_true.2 fun x hx => by simpa using h x hx
    rw [this]; rfl
  | some i =>
    rw [List.findIdx?_eq_some_iff_getElem] at h
    obtain ⟨h1, h2, _⟩ := h
    have : L.all ceB = false := by
      rw [List.all_eq_false]
      exact ⟨L[i], List.getElem_mem _, by simpa using h2⟩
    rw [this]
    simp
theorem cContains_K {T : Objs} {sz : Nat} {k : SK} {L : List Ce} {K : DV → Objs → Prop} (hs : sz = 3 ∨ L = []) (hl : L.length ≤ 1000000) (hc : ∀ c ∈ L, ceIn c) (h : ∀ T', Keep T T' [] → K (.bool (!L.all ceB)) T') :
    CallK PG 38 [.sl sz (ceRows L) k, .lit (.func (.func 39) #[] #[])] T K := by
  refine CallK.of_fn FOk.nil rc_cContains_ok (by simp [rc_cContains]) ?_
  unfold rc_cContains
  dsimp only
  simp -implicitDefEqProofs -dsimp only [tb_at, vcS, ↓vcP1, ↓vcP2, ↓reduceIte, reduceCtorEq, Nat.reduceLT, Nat.reduceLeDiff, Nat.reduceEqDiff, Nat.reduceAdd, Nat.reduceSub, Nat.reduceMul, Int.reduceLT, Int.reduceLE, Int.reduceEq, Int.reduceToNat, Int.reduceAdd, Int.reduceSub, Int.reduceNeg, List.reduceReplicate, Nat.reducePow, Int.reduceMul]
  refine cIndex_K hs hl hc fun T' k => ?_
  simp -implicitDefEqProofs -dsimp only [tb_at, badI_all, vcS, ↓vcP1, ↓vcP2, ↓reduceIte, reduceCtorEq, Nat.reduceLT, Nat.reduceLeDiff, Nat.reduceEqDiff, Nat.reduceAdd, Nat.reduceSub, Nat.reduceMul, Int.reduceLT, Int.reduceLE, Int.reduceEq, Int.reduceToNat, Int.reduceAdd, Int.reduceSub, Int.reduceNeg, List.reduceReplicate, Nat.reducePow, Int.reduceMul]
  exact ⟨k.1, h _ k⟩
noncomputable def rc_cEqual_l0 : RC := (.seq (.reg [⟨some 14, .bin .lss (.t 13) (.t 12), none, false⟩] 0 [0, 1, 12, 13, 14]) (.seq (.cond (.t 14) .skip (.ext 0)) (.seq (.blk 1 (.seq (.reg [⟨some 15, .mov (.t 13), none, false⟩, ⟨some 5, .mov (.t 15), none, false⟩] 0 [0, 1, 5, 12, 13]) (.seq (.regD (.take ⟨some 16, .mov (.t 0), none, false⟩ [] (.take ⟨some 17, .mov (.t 5), none, false⟩ [] (.take ⟨some 18, .iaddr 3 (.t 16) (.t 17), none, false⟩ [] (.take ⟨some 19, .load true 3 (.t 18), none, false⟩ [] (.take ⟨some 20, .mov (.t 1), none, false⟩ [] (.take ⟨some 21, .mov (.t 5), none, false⟩ [] (.take ⟨some 22, .iaddr 3 (.t 20) (.t 21), none, false⟩ [] (.take ⟨some 23, .load true 3 (.t 22), none, false⟩ [] (.take ⟨some 24, .eqS true [.i, .i, .i] (.t 19) (.t 23), none, false⟩ [] .done))))))))) 0 [0, 1, 12, 13, 24]) (.cond (.t 24) (.seq (.reg [⟨some 4, .mov (.c (.bool false)), none, false⟩] 0 [4]) .ret) .skip)))) (.reg [⟨some 25, .bin .add (.t 13) (.c (.int .i64 1)), none, false⟩, ⟨some 13, .mov (.t 25), none, false⟩] 0 [0, 1, 12, 13]))))
noncomputable def rc_cEqual : RFn := ⟨2, 26, .seq (.reg [⟨some 4, .mov (.c (.bool false)), none, false⟩] 0 [0, 1]) (.seq (.seq (.reg [⟨some 6, .mov (.t 0), none, false⟩, ⟨some 7, .len (.t 6), none, false⟩, ⟨some 8, .mov (.t 1), none, false⟩, ⟨some 9, .len (.t 8), none, false⟩, ⟨some 10, .bin .neq (.t 7) (.t 9), none, false⟩] 0 [0, 1, 10]) (.cond (.t 10) (.seq (.reg [⟨some 4, .mov (.c (.bool false)), none, false⟩] 0 [4]) .ret) .skip)) (.seq (.seq (.reg [⟨some 11, .mov (.t 0), none, false⟩, ⟨some 12, .len (.t 11), none, false⟩, ⟨some 13, .mov (.c (.int .i64 0)), none, false⟩] 0 [0, 1, 12, 13]) (.blk 0 (.loop rc_cEqual_l0))) (.seq (.reg [⟨some 4, .mov (.c (.bool true)), none, false⟩] 0 [4]) .ret))), [.t 4]⟩
theorem rc_cEqual_ok : compFn PG.P [⟨0, 0, [0, 1], []⟩, ⟨1, 0, [0, 1, 10], []⟩, ⟨2, 0, [4], []⟩, ⟨3, 0, [0, 1, 12, 13], []⟩, ⟨4, 0, [0, 1, 12, 13, 14], []⟩, ⟨5, 0, [0, 1, 5, 12, 13], []⟩, ⟨6, 0, [0, 1, 12, 13, 24], []⟩, ⟨7, 0, [4], []⟩, ⟨8, 0, [0, 1, 12, 13], []⟩, ⟨9, 0, [4], []⟩] 42 = some rc_cEqual := by kernel_rfl
noncomputable def rc_scells_l0 : RC := (.seq (.reg [⟨some 23, .bin .lss (.t 22) (.t 21), none, false⟩] 0 [0, 2, 7, 21, 22, 23]) (.seq (.cond (.t 23) .skip (.ext 0)) (.seq (.blk 1 (.seq (.reg [⟨some 24, .mov (.t 22), none, false⟩, ⟨some 8, .mov (.t 24), none, false⟩] 0 [0, 2, 7, 8, 21, 22]) (.reg [⟨some 25, .mov (.t 7), none, false⟩, ⟨some 26, .mov (.t 2), none, false⟩, ⟨some 27, .mov (.t 8), none, false⟩, ⟨some 28, .call 24 [.t 25, .t 26, .t 27], none, false⟩, ⟨some 29, .call 41 [.t 28], none, false⟩] 0 [0, 2, 7, 21, 22]))) (.reg [⟨some 30, .bin .add (.t 22) (.c (.int .i64 1)), none, false⟩, ⟨some 22, .mov (.t 30), none, false⟩] 0 [0, 2, 7, 21, 22]))))
noncomputable def rc_scells : RFn := ⟨3, 34, (.seq (.reg [⟨some 6, .mov (.c (.bool false)), none, false⟩] 0 [0, 1, 2]) (.seq (.seq (.reg [⟨some 9, .mov (.t 0), none, false⟩, ⟨some 10, .len (.t 9), none, false⟩, ⟨some 11, .mov (.t 1), none, false⟩, ⟨some 12, .mov (.t 2), none, false⟩, ⟨some 13, .bin .mul (.t 11) (.t 12), none, false⟩, ⟨some 14, .bin .neq (.t 10) (.t 13), none, false⟩, ⟨some 15, .mov (.t 14), none, false⟩, ⟨some 16, .mov (.t 0), some (15, false), false⟩, ⟨some 17, (.call 38 [.t 16, (.c (.lit (.func (.func 39) #[] #[])))]), some (15, false), false⟩, ⟨some 18, .pick (.t 15) (.c (.bool true)) (.t 17), none, false⟩] 0 [0, 1, 2, 18]) (.cond (.t 18) (.seq (.reg [⟨some 6, .mov (.c (.bool false)), none, false⟩] 0 [6]) .ret) .skip)) (.seq (.reg [⟨some 19, .mov (.t 0), none, false⟩, ⟨some 20, .call 23 [.t 19], none, false⟩, ⟨some 7, .mov (.t 20), none, false⟩] 0 [0, 1, 2, 7]) (.seq (.seq (.reg [⟨some 21, .mov (.t 1), none, false⟩, ⟨some 22, .mov (.c (.int .i64 0)), none, false⟩] 0 [0, 2, 7, 21, 22]) (.blk 0 (.loop rc_scells_l0))) (.seq (.reg [⟨some 31, .mov (.t 7), none, false⟩, ⟨some 32, .mov (.t 0), none, false⟩, ⟨some 33, .call 42 [.t 31, .t 32], none, false⟩, ⟨some 6, .mov (.t 33), none, false⟩] 0 [6]) .ret))))), [.t 6]⟩
theorem rc_scells_ok : compFn PG.P [⟨0, 0, [0, 1, 2], []⟩, ⟨1, 0, [0, 1, 2, 18], []⟩, ⟨2, 0, [6], []⟩, ⟨3, 0, [0, 1, 2, 7], []⟩, ⟨4, 0, [0, 2, 7, 21, 22], []⟩, ⟨5, 0, [0, 2, 7, 21, 22, 23], []⟩, ⟨6, 0, [0, 2, 7, 8, 21, 22], []⟩, ⟨7, 0, [0, 2, 7, 21, 22], []⟩, ⟨8, 0, [0, 2, 7, 21, 22], []⟩, ⟨9, 0, [6], []⟩] 19 = some rc_scells := by kernel_rfl
theorem cEqual_K {T : Objs} {q sz : Nat} {k : SK} {M L : List Ce} {K : DV → Objs → Prop} (hq : T[q]? = some (some (.arr 3 (ceRows M)))) (hs : sz = 3 ∨ L = []) (hml : M.length = L.length) (hl : L.length ≤ 1000000) (h : K (.bool (decide (M = L))) T) :
    CallK PG 42 [.own q 0 M.length, .sl sz (ceRows L) k] T K := by
  have e0 : ((M.length : Nat) : Int) = (L.length : Int) := by omega
  refine CallK.of_fn FOk.nil rc_cEqual_ok (by simp [rc_cEqual]) ?_
  unfold rc_cEqual
  dsimp only
  simp -implicitDefEqProofs -dsimp only [tb_at, ceRows_len, e0, vcS, ↓vcP1, ↓vcP2, ↓reduceIte, reduceCtorEq, Nat.reduceLT, Nat.reduceLeDiff, Nat.reduceEqDiff, Nat.reduceAdd, Nat.reduceSub, Nat.reduceMul, Int.reduceLT, Int.reduceLE, Int.reduceEq, Int.reduceToNat, Int.reduceAdd, Int.reduceSub, Int.reduceNeg, List.reduceReplicate, Nat.reducePow, Int.reduceMul]
  refine LoopWp.inv FOk.nil (S := fun i : Nat => ⟨[(0, .own q 0 M.length), (1, .sl sz (ceRows L) k), (12, .int .i64 L.length), (13, .int .i64 i)], T⟩)
    (I := fun i => i ≤ L.length ∧ ∀ j, j < i → M.getD j blkC = L.getD j blkC) (μ := fun i => L.length - i) 0 ⟨by simp, fun j hj => absurd hj (by simp)⟩ ?_ ?_
  · simp -implicitDefEqProofs -dsimp only [wkT_self, vcS, ↓vcP1, ↓vcP2, ↓reduceIte, reduceCtorEq, Nat.reduceLT, Nat.reduceLeDiff, Nat.reduceEqDiff, Nat.reduceAdd, Nat.reduceSub, Nat.reduceMul, Int.reduceLT, Int.reduceLE, Int.reduceEq, Int.reduceToNat, Int.reduceAdd, Int.reduceSub, Int.reduceNeg, List.reduceReplicate, Nat.reducePow, Int.reduceMul]
  · intro i ⟨h1, h3⟩
    unfold rc_cEqual_l0
    have w1 : IntKind.i64.wrap ((i : Int) + 1) = ((i + 1 : Nat) : Int) := by rw [wI64 (by omega) (by omega)]; omega
    rcases Nat.lt_or_ge i L.length with hlt | hge
    · have hii : (i : Int) < L.length := by omega
      have hij : (i : Int) < M.length := by omega
      have i0 : (0 : Int) ≤ i := by omega
      have hsz : sz = 3 := by rcases hs with h | h; exact h; subst h; simp at hlt
      subst hsz
      have hg := ceRows_get hlt
      have hgm := ceRows_get (L := M) (i := i) (by omega)
      simp -implicitDefEqProofs -dsimp only [tb_at, tb_all hq, hii, hij, i0, hg, hgm, ceRows_len, Nat.zero_add, w1, wkT_self, vcS, ↓vcP1, ↓vcP2, ↓reduceIte, reduceCtorEq, Nat.reduceLT, Nat.reduceLeDiff, Nat.reduceEqDiff, Nat.reduceAdd, Nat.reduceSub, Nat.reduceMul, Int.reduceLT, Int.reduceLE, Int.reduceEq, Int.reduceToNat, Int.reduceAdd, Int.reduceSub, Int.reduceNeg, List.reduceReplicate, Nat.reducePow, Int.reduceMul]
      rcases Decidable.em (M.getD i blkC = L.getD i blkC) with e | e
      · rw [e]
        simp only [decide_true, Bool.and_self, cnd_true]
        refine ⟨i + 1, rfl, ⟨hlt, fun j hj => ?_⟩, by omega⟩
        rcases Nat.lt_or_ge j i with hji | hji
        · exact h3 j hji
        · obtain rfl : j = i := by omega
          exact e
      · have hne : (decide ((M.getD i blkC).r = (L.getD i blkC).r) && (decide ((M.getD i blkC).a = (L.getD i blkC).a) && decide ((M.getD i blkC).h = (L.getD i blkC).h))) = false := by
          cases hb : (decide ((M.getD i blkC).r = (L.getD i blkC).r) && (decide ((M.getD i blkC).a = (L.getD i blkC).a) && decide ((M.getD i blkC).h = (L.getD i blkC).h))) with
          | false => rfl
          | true =>
            simp only [Bool.and_eq_true, decide_eq_true_eq] at hb
            obtain ⟨a1, a2, a3⟩ := hb
            refine absurd ?_ e
            generalize M.getD i blkC = x at *
            generalize L.getD i blkC = y at *
            cases x; cases y
            simp_all
        rw [hne, cnd_false]
        have hML : ¬ M = L := fun hh => e (by rw [hh])
        rw [decide_eq_false hML] at h
        exact h
    · have hii : ¬ (i : Int) < L.length := by omega
      obtain rfl : i = L.length := by omega
      simp -implicitDefEqProofs -dsimp only [tb_at, hii, wkT_self, vcS, ↓vcP1, ↓vcP2, ↓reduceIte, reduceCtorEq, Nat.reduceLT, Nat.reduceLeDiff, Nat.reduceEqDiff, Nat.reduceAdd, Nat.reduceSub, Nat.reduceMul, Int.reduceLT, Int.reduceLE, Int.reduceEq, Int.reduceToNat, Int.reduceAdd, Int.reduceSub, Int.reduceNeg, List.reduceReplicate, Nat.reducePow, Int.reduceMul]
      have : M = L := ext_getD hml fun j hj => h3 j (by omega)
      rw [decide_eq_true this] at h
      exact h
def mendTo (L : List Ce) (cols : Nat) : Nat → List Ce
  | 0 => L
  | y + 1 => mendF (mendTo L cols y) cols y
def cellsB (L : List Ce) (rows cols : Nat) : Bool := decide (L.length = rows * cols) && (L.all ceB && decide (mendTo L cols rows = L))
theorem mendTo_g {L : List Ce} {rows cols : Nat} (g : GrOk L rows cols) : ∀ y, y ≤ rows → GrOk (mendTo L cols y) rows cols
  | 0, _ => g
  | y + 1, h => by
    have ih := mendTo_g g y (by omega)
    exact ih.of_len (mendF_len ih (by omega))
theorem TH14_n38 (args : List DV) : tab TH14 38 args = none := nrfl _
theorem TH14_n24 (args : List DV) : tab TH14 24 args = none := nrfl _
theorem TH14_n41 (args : List DV) : tab TH14 41 args = none := nrfl _
theorem TH14_n42 (args : List DV) : tab TH14 42 args = none := nrfl _
theorem scells_K {T : Objs} {sz : Nat} {k : SK} {L : List Ce} {rows cols : Nat} {K : DV → Objs → Prop} (hs : sz = 3 ∨ L = []) (hl : L.length ≤ 1000000) (hc : ∀ c ∈ L, ceIn c) (hr : 1 ≤ rows ∧ rows ≤ 1000) (hcl : 1 ≤ cols ∧ cols ≤ 1000) (h : ∀ T', Keep T T' [] → K (.bool (cellsB L rows cols)) T') :
    CallK PG 19 [.sl sz (ceRows L) k, .int .i64 rows, .int .i64 cols] T K := by
  have hm : rows * cols ≤ 1000 * 1000 := Nat.mul_le_mul hr.2 hcl.2
  have hp : (rows : Int) * cols = ((rows * cols : Nat) : Int) := by simp
  have hw : IntKind.i64.wrap ((rows : Int) * cols) = ((rows * cols : Nat) : Int) := by rw [hp]; exact wI64 (by omega) (by omega)
  have cC : isCe sz (ceRows L) := isCe_mk hs hl
  refine CallK.of_fn TH14_ok rc_scells_ok (by simp [rc_scells]) ?_
  unfold rc_scells
  dsimp only
  rcases Decidable.em (L.length = rows * cols) with e | e
  · have e' : (L.length : Int) = ((rows * cols : Nat) : Int) := by omega
    simp -implicitDefEqProofs -dsimp only [tb_at, ceRows_len, hw, e', TH14_n38, TH14_n24, TH14_n41, TH14_n42, TH14_c, F_cloneC_1, cC, vcS, ↓vcP1, ↓vcP2, ↓reduceIte, reduceCtorEq, Nat.reduceLT, Nat.reduceLeDiff, Nat.reduceEqDiff, Nat.reduceAdd, Nat.reduceSub, Nat.reduceMul, Int.reduceLT, Int.reduceLE, Int.reduceEq, Int.reduceToNat, Int.reduceAdd, Int.reduceSub, Int.reduceNeg, List.reduceReplicate, Nat.reducePow, Int.reduceMul]
    refine cContains_K hs hl hc fun T1 k1 => ?_
    have g : GrOk L rows cols := ⟨hr, hcl, e⟩
    cases hb : L.all ceB with
    | false =>
      simp -implicitDefEqProofs -dsimp only [tb_at, TH14_n38, TH14_n24, TH14_n41, TH14_n42, TH14_c, F_cloneC_1, cC, vcS, ↓vcP1, ↓vcP2, ↓reduceIte, reduceCtorEq, Nat.reduceLT, Nat.reduceLeDiff, Nat.reduceEqDiff, Nat.reduceAdd, Nat.reduceSub, Nat.reduceMul, Int.reduceLT, Int.reduceLE, Int.reduceEq, Int.reduceToNat, Int.reduceAdd, Int.reduceSub, Int.reduceNeg, List.reduceReplicate, Nat.reducePow, Int.reduceMul]
      have := h T1 k1
      unfold cellsB at this
      rw [hb, Bool.false_and, Bool.and_false] at this
      exact ⟨k1.1, this⟩
    | true =>
      simp -implicitDefEqProofs -dsimp only [tb_at, TH14_n38, TH14_n24, TH14_n41, TH14_n42, TH14_c, F_cloneC_1, cC, ceRows_len, vcS, ↓vcP1, ↓vcP2, ↓reduceIte, reduceCtorEq, Nat.reduceLT, Nat.reduceLeDiff, Nat.reduceEqDiff, Nat.reduceAdd, Nat.reduceSub, Nat.reduceMul, Int.reduceLT, Int.reduceLE, Int.reduceEq, Int.reduceToNat, Int.reduceAdd, Int.reduceSub, Int.reduceNeg, List.reduceReplicate, Nat.reducePow, Int.reduceMul]
      refine LoopWp.inv TH14_ok (S := fun σ : Nat × Objs => ⟨[(0, .sl sz (ceRows L) k), (2, .int .i64 cols), (7, .own T1.length 0 L.length), (21, .int .i64 rows), (22, .int .i64 σ.1)], σ.2⟩)
        (I := fun σ => σ.1 ≤ rows ∧ Keep T σ.2 [] ∧ σ.2[T1.length]? = some (some (.arr 3 (ceRows (mendTo L cols σ.1))))) (μ := fun σ => rows - σ.1) (0, T1 ++ [some (.arr 3 (ceRows L))]) ⟨by simp, k1.newApp _, tb_get0 _ _ _⟩ ?_ ?_
      · simp -implicitDefEqProofs -dsimp only [wkT_self, vcS, ↓vcP1, ↓vcP2, ↓reduceIte, reduceCtorEq, Nat.reduceLT, Nat.reduceLeDiff, Nat.reduceEqDiff, Nat.reduceAdd, Nat.reduceSub, Nat.reduceMul, Int.reduceLT, Int.reduceLE, Int.reduceEq, Int.reduceToNat, Int.reduceAdd, Int.reduceSub, Int.reduceNeg, List.reduceReplicate, Nat.reducePow, Int.reduceMul]
      · intro ⟨y, A⟩ ⟨h1, h2, h3⟩
        dsimp only at h1 h2 h3 ⊢
        have gy := mendTo_g g y h1
        have ly : (mendTo L cols y).length = L.length := by rw [gy.len, g.len]
        unfold rc_scells_l0
        have w1 : IntKind.i64.wrap ((y : Int) + 1) = ((y + 1 : Nat) : Int) := by rw [wI64 (by omega) (by omega)]; omega
        rcases Nat.lt_or_ge y rows with hlt | hge
        · have hii : (y : Int) < rows := by omega
          simp -implicitDefEqProofs -dsimp only [tb_at, tb_all h3, hii, TH14_n38, TH14_n24, TH14_n41, TH14_n42, w1, vcS, ↓vcP1, ↓vcP2, ↓reduceIte, reduceCtorEq, Nat.reduceLT, Nat.reduceLeDiff, Nat.reduceEqDiff, Nat.reduceAdd, Nat.reduceSub, Nat.reduceMul, Int.reduceLT, Int.reduceLE, Int.reduceEq, Int.reduceToNat, Int.reduceAdd, Int.reduceSub, Int.reduceNeg, List.reduceReplicate, Nat.reducePow, Int.reduceMul]
          rw [← ly]
          refine grow_K h3 gy hlt ?_
          simp -implicitDefEqProofs -dsimp only [tb_at, tb_all h3, hii, TH14_n38, TH14_n24, TH14_n41, TH14_n42, w1, vcS, ↓vcP1, ↓vcP2, ↓reduceIte, reduceCtorEq, Nat.reduceLT, Nat.reduceLeDiff, Nat.reduceEqDiff, Nat.reduceAdd, Nat.reduceSub, Nat.reduceMul, Int.reduceLT, Int.reduceLE, Int.reduceEq, Int.reduceToNat, Int.reduceAdd, Int.reduceSub, Int.reduceNeg, List.reduceReplicate, Nat.reducePow, Int.reduceMul]
          have hrow := row_in (cols := cols) hlt
          have hsucc := row_succ y cols
          refine whole_K h3 (by rw [ly, g.len]; omega) (by rw [ly]; exact hl) fun T3 c3 k3 => ?_
          simp -implicitDefEqProofs -dsimp only [tb_at, hii, TH14_n38, TH14_n24, TH14_n41, TH14_n42, w1, wkT_self, vcS, ↓vcP1, ↓vcP2, ↓reduceIte, reduceCtorEq, Nat.reduceLT, Nat.reduceLeDiff, Nat.reduceEqDiff, Nat.reduceAdd, Nat.reduceSub, Nat.reduceMul, Int.reduceLT, Int.reduceLE, Int.reduceEq, Int.reduceToNat, Int.reduceAdd, Int.reduceSub, Int.reduceNeg, List.reduceReplicate, Nat.reducePow, Int.reduceMul]
          refine ⟨(y + 1, T3), ⟨rfl, objsWk_refl _⟩, ⟨hlt, h2.new k3 (by simpa using k1.1), ?_⟩, by dsimp only; omega⟩
          rw [← hsucc] at c3
          exact c3
        · have hii : ¬ (y : Int) < rows := by omega
          obtain rfl : y = rows := by omega
          simp -implicitDefEqProofs -dsimp only [tb_at, tb_all h3, hii, TH14_n38, TH14_n24, TH14_n41, TH14_n42, vcS, ↓vcP1, ↓vcP2, ↓reduceIte, reduceCtorEq, Nat.reduceLT, Nat.reduceLeDiff, Nat.reduceEqDiff, Nat.reduceAdd, Nat.reduceSub, Nat.reduceMul, Int.reduceLT, Int.reduceLE, Int.reduceEq, Int.reduceToNat, Int.reduceAdd, Int.reduceSub, Int.reduceNeg, List.reduceReplicate, Nat.reducePow, Int.reduceMul]
          rw [← ly]
          refine cEqual_K h3 hs ly hl ?_
          simp -implicitDefEqProofs -dsimp only [tb_at, vcS, ↓vcP1, ↓vcP2, ↓reduceIte, reduceCtorEq, Nat.reduceLT, Nat.reduceLeDiff, Nat.reduceEqDiff, Nat.reduceAdd, Nat.reduceSub, Nat.reduceMul, Int.reduceLT, Int.reduceLE, Int.reduceEq, Int.reduceToNat, Int.reduceAdd, Int.reduceSub, Int.reduceNeg, List.reduceReplicate, Nat.reducePow, Int.reduceMul]
          have := h A h2
          unfold cellsB at this
          rw [hb, decide_eq_true e, Bool.true_and, Bool.true_and] at this
          exact ⟨h2.1, this⟩
  · have e' : ¬ (L.length : Int) = ((rows * cols : Nat) : Int) := by omega
    simp -implicitDefEqProofs -dsimp only [tb_at, ceRows_len, hw, eq_false e', TH14_n38, TH14_n24, TH14_n41, TH14_n42, vcS, ↓vcP1, ↓vcP2, ↓reduceIte, reduceCtorEq, Nat.reduceLT, Nat.reduceLeDiff, Nat.reduceEqDiff, Nat.reduceAdd, Nat.reduceSub, Nat.reduceMul, Int.reduceLT, Int.reduceLE, Int.reduceEq, Int.reduceToNat, Int.reduceAdd, Int.reduceSub, Int.reduceNeg, List.reduceReplicate, Nat.reducePow, Int.reduceMul]
    have := h T (Keep.refl _ _)
    unfold cellsB at this
    rw [decide_eq_false e, Bool.false_and] at this
    exact this
noncomputable def rc_sright1 : RFn := ⟨2, 24, .seq (.reg [⟨some 5, .mov (.c (.bool false)), none, false⟩] 0 [0, 1, 2]) (.seq (.reg [⟨some 6, .mov (.t 0), none, false⟩, ⟨some 7, .bin .geq (.t 6) (.c (.int .i64 0)), none, false⟩, ⟨some 8, .mov (.t 7), none, false⟩, ⟨some 9, .mov (.t 0), some (8, true), false⟩, ⟨some 10, .faddr 0 (.t 2), some (8, true), false⟩, ⟨some 11, .load false 1 (.t 10), some (8, true), false⟩, ⟨some 12, .bin .lss (.t 9) (.t 11), some (8, true), false⟩, ⟨some 13, .pick (.t 8) (.t 12) (.c (.bool false)), none, false⟩, ⟨some 14, .mov (.t 13), none, false⟩, ⟨some 15, .mov (.t 1), some (14, true), false⟩, ⟨some 16, .bin .geq (.t 15) (.c (.int .i64 0)), some (14, true), false⟩, ⟨some 17, .pick (.t 14) (.t 16) (.c (.bool false)), none, false⟩, ⟨some 18, .mov (.t 17), none, false⟩, ⟨some 19, .mov (.t 1), some (18, true), false⟩, ⟨some 20, .faddr 1 (.t 2), some (18, true), false⟩, ⟨some 21, .load false 1 (.t 20), some (18, true), false⟩, ⟨some 22, .bin .lss (.t 19) (.t 21), some (18, true), false⟩, ⟨some 23, .pick (.t 18) (.t 22) (.c (.bool false)), none, false⟩, ⟨some 5, .mov (.t 23), none, false⟩] 0 [5]) .ret), [.t 5]⟩
theorem rc_sright1_ok : compFn PG.P [⟨0, 0, [0, 1, 2], []⟩, ⟨1, 0, [5], []⟩] 21 = some rc_sright1 := by kernel_rfl
noncomputable def rc_sright : RFn := ⟨1, 139, .seq (.reg [⟨some 1, .box 24 (.t 0), none, false⟩, ⟨some 2, .mov (.c (.bool false)), none, false⟩] 0 [1]) (.seq (.seq (.reg [⟨some 5, .load true 24 (.t 1), none, false⟩, ⟨some 6, .call 14 [.t 5], none, false⟩, ⟨some 7, .un .not (.t 6), none, false⟩, ⟨some 8, .mov (.t 7), none, false⟩, ⟨some 9, .faddr 2 (.t 1), some (8, false), false⟩, ⟨some 10, .load false 1 (.t 9), some (8, false), false⟩, ⟨some 11, .faddr 0 (.t 1), some (8, false), false⟩, ⟨some 12, .load false 1 (.t 11), some (8, false), false⟩, ⟨some 13, .faddr 1 (.t 1), some (8, false), false⟩, ⟨some 14, .load false 1 (.t 13), some (8, false), false⟩, ⟨some 15, .call 19 [.t 10, .t 12, .t 14], some (8, false), false⟩, ⟨some 16, .un .not (.t 15), some (8, false), false⟩, ⟨some 17, .pick (.t 8) (.c (.bool true)) (.t 16), none, false⟩, ⟨some 18, .mov (.t 17), none, false⟩, ⟨some 19, .faddr 9 (.t 1), some (18, false), false⟩, ⟨some 20, .load false 1 (.t 19), some (18, false), false⟩, ⟨some 21, .len (.t 20), some (18, false), false⟩, ⟨some 22, .faddr 1 (.t 1), some (18, false), false⟩, ⟨some 23, .load false 1 (.t 22), some (18, false), false⟩, ⟨some 24, .bin .neq (.t 21) (.t 23), some (18, false), false⟩, ⟨some 25, .pick (.t 18) (.c (.bool true)) (.t 24), none, false⟩, ⟨some 26, .mov (.t 25), none, false⟩, ⟨some 27, .faddr 19 (.t 1), some (26, false), false⟩, ⟨some 28, .load true 5 (.t 27), some (26, false), false⟩, ⟨some 29, .call 20 [.t 28], some (26, false), false⟩, ⟨some 30, .un .not (.t 29), some (26, false), false⟩, ⟨some 31, .pick (.t 26) (.c (.bool true)) (.t 30), none, false⟩] 0 [1, 31]) (.cond (.t 31) (.seq (.reg [⟨some 2, .mov (.c (.bool false)), none, false⟩] 0 [2]) .ret) .skip)) (.seq (.reg [⟨some 32, .mkfn 21 [.t 1], none, false⟩, ⟨some 3, .mov (.t 32), none, false⟩] 0 [1, 3]) (.seq (.seq (.reg [⟨some 33, .mov (.t 3), none, false⟩, ⟨some 34, .faddr 3 (.t 1), none, false⟩, ⟨some 35, .load false 1 (.t 34), none, false⟩, ⟨some 36, .faddr 4 (.t 1), none, false⟩, ⟨some 37, .load false 1 (.t 36), none, false⟩, ⟨some 38, .calld (.t 33) [.t 35, .t 37], none, false⟩, ⟨some 39, .un .not (.t 38), none, false⟩, ⟨some 40, .mov (.t 39), none, false⟩, ⟨some 41, .mov (.t 3), some (40, false), false⟩, ⟨some 42, .faddr 10 (.t 1), some (40, false), false⟩, ⟨some 43, .load false 1 (.t 42), some (40, false), false⟩, ⟨some 44, .faddr 11 (.t 1), some (40, false), false⟩, ⟨some 45, .load false 1 (.t 44), some (40, false), false⟩, ⟨some 46, .calld (.t 41) [.t 43, .t 45], some (40, false), false⟩, ⟨some 47, .un .not (.t 46), some (40, false), false⟩, ⟨some 48, .pick (.t 40) (.c (.bool true)) (.t 47), none, false⟩, ⟨some 49, .mov (.t 48), none, false⟩, ⟨some 50, .mov (.t 3), some (49, false), false⟩, ⟨some 51, .faddr 17 (.t 1), some (49, false), false⟩, ⟨some 52, .load false 1 (.t 51), some (49, false), false⟩, ⟨some 53, .faddr 18 (.t 1), some (49, false), false⟩, ⟨some 54, .load false 1 (.t 53), some (49, false), false⟩, ⟨some 55, .calld (.t 50) [.t 52, .t 54], some (49, false), false⟩, ⟨some 56, .un .not (.t 55), some (49, false), false⟩, ⟨some 57, .pick (.t 49) (.c (.bool true)) (.t 56), none, false⟩, ⟨some 58, .mov (.t 57), none, false⟩, ⟨some 59, .faddr 5 (.t 1), some (58, false), false⟩, ⟨some 60, .load false 1 (.t 59), some (58, false), false⟩, ⟨some 61, .mov (.t 60), some (58, false), false⟩, ⟨some 62, .faddr 4 (.t 1), some (61, true), false⟩, ⟨some 63, .load false 1 (.t 62), some (61, true), false⟩, ⟨some 64, .faddr 1 (.t 1), some (61, true), false⟩, ⟨some 65, .load false 1 (.t 64), some (61, true), false⟩, ⟨some 66, .bin .sub (.t 65) (.c (.int .i64 1)), some (61, true), false⟩, ⟨some 67, .bin .neq (.t 63) (.t 66), some (61, true), false⟩, ⟨some 68, .pick (.t 61) (.t 67) (.c (.bool false)), some (58, false), false⟩, ⟨some 69, .pick (.t 58) (.c (.bool true)) (.t 68), none, false⟩, ⟨some 70, .mov (.t 69), none, false⟩, ⟨some 71, .faddr 6 (.t 1), some (70, false), false⟩, ⟨some 72, .load false 1 (.t 71), some (70, false), false⟩, ⟨some 73, .call 22 [.t 72], some (70, false), false⟩, ⟨some 74, .un .not (.t 73), some (70, false), false⟩, ⟨some 75, .pick (.t 70) (.c (.bool true)) (.t 74), none, false⟩, ⟨some 76, .mov (.t 75), none, false⟩, ⟨some 77, .faddr 12 (.t 1), some (76, false), false⟩, ⟨some 78, .load false 1 (.t 77), some (76, false), false⟩, ⟨some 79, .call 22 [.t 78], some (76, false), false⟩, ⟨some 80, .un .not (.t 79), some (76, false), false⟩, ⟨some 81, .pick (.t 76) (.c (.bool true)) (.t 80), none, false⟩] 0 [1, 81]) (.cond (.t 81) (.seq (.reg [⟨some 2, .mov (.c (.bool false)), none, false⟩] 0 [2]) .ret) .skip)) (.seq (.reg [⟨some 82, .faddr 0 (.t 1), none, false⟩, ⟨some 83, .load false 1 (.t 82), none, false⟩, ⟨some 84, .bin .eql (.t 83) (.c (.int .i64 1)), none, false⟩, ⟨some 85, .mov (.t 84), none, false⟩, ⟨some 86, .faddr 7 (.t 1), some (85, true), false⟩, ⟨some 87, .load false 1 (.t 86), some (85, true), false⟩, ⟨some 88, .bin .eql (.t 87) (.c (.int .i64 0)), some (85, true), false⟩, ⟨some 89, .pick (.t 85) (.t 88) (.c (.bool false)), none, false⟩, ⟨some 90, .mov (.t 89), none, false⟩, ⟨some 91, .faddr 8 (.t 1), some (90, true), false⟩, ⟨some 92, .load false 1 (.t 91), some (90, true), false⟩, ⟨some 93, .bin .eql (.t 92) (.c (.int .i64 0)), some (90, true), false⟩, ⟨some 94, .pick (.t 90) (.t 93) (.c (.bool false)), none, false⟩, ⟨some 4, .mov (.t 94), none, false⟩] 0 [1, 4]) (.seq (.seq (.reg [⟨some 95, .mov (.t 4), none, false⟩, ⟨some 96, .un .not (.t 95), none, false⟩, ⟨some 97, .mov (.t 96), none, false⟩, ⟨some 98, .faddr 7 (.t 1), some (97, true), false⟩, ⟨some 99, .load false 1 (.t 98), some (97, true), false⟩, ⟨some 100, .bin .lss (.t 99) (.c (.int .i64 0)), some (97, true), false⟩, ⟨some 101, .mov (.t 100), some (97, true), false⟩, ⟨some 102, .faddr 7 (.t 1), some (101, false), false⟩, ⟨some 103, .load false 1 (.t 102), some (101, false), false⟩, ⟨some 104, .faddr 8 (.t 1), some (101, false), false⟩, ⟨some 105, .load false 1 (.t 104), some (101, false), false⟩, ⟨some 106, .bin .geq (.t 103) (.t 105), some (101, false), false⟩, ⟨some 107, .pick (.t 101) (.c (.bool true)) (.t 106), some (97, true), false⟩, ⟨some 108, .mov (.t 107), some (97, true), false⟩, ⟨some 109, .faddr 8 (.t 1), some (108, false), false⟩, ⟨some 110, .load false 1 (.t 109), some (108, false), false⟩, ⟨some 111, .faddr 0 (.t 1), some (108, false), false⟩, ⟨some 112, .load false 1 (.t 111), some (108, false), false⟩, ⟨some 113, .bin .geq (.t 110) (.t 112), some (108, false), false⟩, ⟨some 114, .pick (.t 108) (.c (.bool true)) (.t 113), some (97, true), false⟩, ⟨some 115, .pick (.t 97) (.t 114) (.c (.bool false)), none, false⟩] 0 [1, 115]) (.cond (.t 115) (.seq (.reg [⟨some 2, .mov (.c (.bool false)), none, false⟩] 0 [2]) .ret) .skip)) (.seq (.seq (.reg [⟨some 116, .faddr 15 (.t 1), none, false⟩, ⟨some 117, .load false 1 (.t 116), none, false⟩] 0 [1, 117]) (.cond (.t 117) (.seq (.reg [⟨some 118, .faddr 16 (.t 1), none, false⟩, ⟨some 119, .load false 1 (.t 118), none, false⟩, ⟨some 120, .faddr 0 (.t 1), none, false⟩, ⟨some 121, .load false 1 (.t 120), none, false⟩, ⟨some 122, .faddr 1 (.t 1), none, false⟩, ⟨some 123, .load false 1 (.t 122), none, false⟩, ⟨some 124, .call 19 [.t 119, .t 121, .t 123], none, false⟩, ⟨some 2, .mov (.t 124), none, false⟩] 0 [2]) .ret) .skip)) (.seq (.reg [⟨some 125, .faddr 16 (.t 1), none, false⟩, ⟨some 126, .load false 1 (.t 125), none, false⟩, ⟨some 127, .len (.t 126), none, false⟩, ⟨some 128, .bin .eql (.t 127) (.c (.int .i64 0)), none, false⟩, ⟨some 129, .mov (.t 128), none, false⟩, ⟨some 130, .faddr 17 (.t 1), some (129, true), false⟩, ⟨some 131, .load false 1 (.t 130), some (129, true), false⟩, ⟨some 132, .bin .eql (.t 131) (.c (.int .i64 0)), some (129, true), false⟩, ⟨some 133, .pick (.t 129) (.t 132) (.c (.bool false)), none, false⟩, ⟨some 134, .mov (.t 133), none, false⟩, ⟨some 135, .faddr 18 (.t 1), some (134, true), false⟩, ⟨some 136, .load false 1 (.t 135), some (134, true), false⟩, ⟨some 137, .bin .eql (.t 136) (.c (.int .i64 0)), some (134, true), false⟩, ⟨some 138, .pick (.t 134) (.t 137) (.c (.bool false)), none, false⟩, ⟨some 2, .mov (.t 138), none, false⟩] 0 [2]) .ret))))))), [.t 2]⟩
theorem rc_sright_ok : compFn PG.P [⟨0, 0, [1], []⟩, ⟨1, 0, [1, 31], []⟩, ⟨2, 0, [2], []⟩, ⟨3, 0, [1, 3], []⟩, ⟨4, 0, [1, 81], []⟩, ⟨5, 0, [2], []⟩, ⟨6, 0, [1, 4], []⟩, ⟨7, 0, [1, 115], []⟩, ⟨8, 0, [2], []⟩, ⟨9, 0, [1, 117], []⟩, ⟨10, 0, [2], []⟩, ⟨11, 0, [2], []⟩] 11 = some rc_sright := by kernel_rfl
noncomputable def rc_srow : RFn := ⟨2, 12, .seq (.reg [⟨some 2, .box 24 (.t 0), none, false⟩, ⟨some 4, .mov (.c (.sl 0 [] .nil)), none, false⟩] 0 [1, 2]) (.seq (.reg [⟨some 5, .faddr 2 (.t 2), none, false⟩, ⟨some 6, .load false 1 (.t 5), none, false⟩, ⟨some 7, .faddr 1 (.t 2), none, false⟩, ⟨some 8, .load false 1 (.t 7), none, false⟩, ⟨some 9, .mov (.t 1), none, false⟩, ⟨some 10, .call 24 [.t 6, .t 8, .t 9], none, false⟩, ⟨some 11, .call 23 [.t 10], none, false⟩, ⟨some 4, .mov (.t 11), none, false⟩] 0 [4]) .ret), [.t 4]⟩
theorem rc_srow_ok : compFn PG.P [⟨0, 0, [1, 2], []⟩, ⟨1, 0, [4], []⟩] 12 = some rc_srow := by kernel_rfl
theorem sattr_K {T : Objs} {a : Int} {K : DV → Objs → Prop} (ha : 0 ≤ a ∧ a ≤ 65535) (h : ∀ T', Keep T T' [] → K (.bool (atB a)) T') : CallK PG 22 [.int .u16 a] T K := by
  have e : ceB ⟨32, a, 0⟩ = atB a := by
    unfold ceB
    rw [decide_eq_true (by dsimp only; omega), Bool.true_and]
  have er : Ce.row ⟨32, a, 0⟩ = [.int .i32 32, .int .u16 a, .int .u8 0] := rfl
  refine CallK.of_fn FOk.nil rc_sattr_ok (by simp [rc_sattr]) ?_
  unfold rc_sattr
  dsimp only
  simp -implicitDefEqProofs -dsimp only [tb_at, vcS, ↓vcP1, ↓vcP2, ↓reduceIte, reduceCtorEq, Nat.reduceLT, Nat.reduceLeDiff, Nat.reduceEqDiff, Nat.reduceAdd, Nat.reduceSub, Nat.reduceMul, Int.reduceLT, Int.reduceLE, Int.reduceEq, Int.reduceToNat, Int.reduceAdd, Int.reduceSub, Int.reduceNeg, List.reduceReplicate, Nat.reducePow, Int.reduceMul]
  refine rright_K (c := ⟨32, a, 0⟩) ⟨by dsimp only; omega, ha, by dsimp only; omega⟩ fun T' k => ?_
  rw [e]
  simp -implicitDefEqProofs -dsimp only [tb_at, vcS, ↓vcP1, ↓vcP2, ↓reduceIte, reduceCtorEq, Nat.reduceLT, Nat.reduceLeDiff, Nat.reduceEqDiff, Nat.reduceAdd, Nat.reduceSub, Nat.reduceMul, Int.reduceLT, Int.reduceLE, Int.reduceEq, Int.reduceToNat, Int.reduceAdd, Int.reduceSub, Int.reduceNeg, List.reduceReplicate, Nat.reducePow, Int.reduceMul]
  exact ⟨k.1, h _ k⟩
theorem vRight_K {T : Objs} {p : Pa} {m pr : Int} {d1 d2 d3 : DV} {K : DV → Objs → Prop} (pa : PaAt p m pr d1 d2 d3) (pk : paOk p) (h : K (.bool (prightF p)) T) : CallK PG 20 [.agg [.int .i64 m, .int .u8 pr, d1, d2, d3]] T K := by
  obtain ⟨j1, j2, j3, j4, j5, j6, j7⟩ := pk
  have P := (vRight_P j1 j2 j3 ⟨j4, j5, j6⟩).wk (a := [.agg [.int .i64 m, .int .u8 pr, d1, d2, d3]]) (by
    unfold paD
    rw [pa.m, pa.pr, ← pa.e1, ← pa.e2, ← pa.e3]
    exact ⟨⟨rfl, rfl, wk0_of (isInts_wk pa.i1) pa.i1, wk0_of (isInts_wk pa.i2) pa.i2, wk0_of (isInts_wk pa.i3) pa.i3, trivial⟩, trivial⟩)
  refine CallK.pure P fun r os ⟨h1, h2⟩ => ?_
  subst h1 h2
  rw [List.append_nil]
  exact h
theorem sright1_K {T : Objs} {b : Nat} {s : Sc} {z1 z2 z3 : Nat} {k1 k2 k3 : SK} {m pr : Int} {d1 d2 d3 : DV} {y x : Nat} {K : DV → Objs → Prop} (hb : T[b]? = some (some (.box (scD s z1 z2 z3 k1 k2 k3 m pr d1 d2 d3)))) (hy : y < s.rows) (hx : x < s.cols) (h : K (.bool true) T) :
    CallK PG 21 [.int .i64 y, .int .i64 x, .ptr b 0 0] T K := by
  unfold scD at hb
  have a1 : (0 : Int) ≤ y := by omega
  have a2 : (y : Int) < s.rows := by omega
  have a3 : (0 : Int) ≤ x := by omega
  have a4 : (x : Int) < s.cols := by omega
  refine CallK.of_fn FOk.nil rc_sright1_ok (by simp [rc_sright1]) ?_
  unfold rc_sright1
  dsimp only
  simp -implicitDefEqProofs -dsimp only [tb_at, tb_all hb, a1, a2, a3, a4, vcS, ↓vcP1, ↓vcP2, ↓reduceIte, reduceCtorEq, Nat.reduceLT, Nat.reduceLeDiff, Nat.reduceEqDiff, Nat.reduceAdd, Nat.reduceSub, Nat.reduceMul, Int.reduceLT, Int.reduceLE, Int.reduceEq, Int.reduceToNat, Int.reduceAdd, Int.reduceSub, Int.reduceNeg, List.reduceReplicate, Nat.reducePow, Int.reduceMul]
  exact h
theorem hbRight1 : hasBody PG.P 21 = true := by kernel_rfl
structure ScR (s : Sc) (p : Pa) : Prop where
  ci : ∀ c ∈ s.cells, ceIn c
  oi : ∀ c ∈ s.other, ceIn c
  cb : cellsB s.cells s.rows s.cols = true
  ob : s.alt = true → cellsB s.other s.rows s.cols = true
  ab : atB s.attr = true
  sb : atB s.sattr = true
  pb : prightF p = true
set_option maxHeartbeats 1000000 in
theorem sright_fbf {T : Objs} {s : Sc} {p : Pa} {v : DV} {K : DV → Objs → Prop} (ok : ScOk s) (pk : paOk p) (hv : ScVal s p v) (R : ScR s p) (hwr : s.wrap = false) (hr1 : ¬ s.rows = 1) (halt : s.alt = false) (h : ∀ T', Keep T T' [] → K (.bool true) T') : CallK PG 11 [v] T K := by
  obtain ⟨z1, z2, z3, k1, k2, k3, m, pr, d1, d2, d3, sv, rfl⟩ := hv
  have o1 : DV.one d1 = true := by obtain ⟨a, b, e, _⟩ := isInts_inv sv.pa.i1; rw [e]; rfl
  have o2 : DV.one d2 = true := by obtain ⟨a, b, e, _⟩ := isInts_inv sv.pa.i2; rw [e]; rfl
  have o3 : DV.one d3 = true := by obtain ⟨a, b, e, _⟩ := isInts_inv sv.pa.i3; rw [e]; rfl
  have esc : scD s z1 z2 z3 k1 k2 k3 m pr d1 d2 d3 = [.int .i64 s.rows, .int .i64 s.cols, .sl z1 (ceRows s.cells) k1, .int .i64 s.y, .int .i64 s.x, .bool s.wrap, .int .u16 s.attr, .int .i64 s.top, .int .i64 s.bot, .sl z2 (boRows s.tabs) k2, .int .i64 s.sy, .int .i64 s.sx, .int .u16 s.sattr, .bool s.auto, .bool s.shown, .bool s.alt, .sl z3 (ceRows s.other) k3, .int .i64 s.oy, .int .i64 s.ox, .int .i64 m, .int .u8 pr, d1, d2, d3] := rfl
  have hl := ok.g.lim
  have e1 : (s.tabs.length : Int) = s.cols := by rw [ok.tabs]
  have hol : s.other.length ≤ 1000000 := by
    cases ha : s.alt with
    | true => exact (ok.alt ha).lim.1
    | false => rw [(ok.non ha).1]; simp
  have hrr := ok.g.r
  have hcc := ok.g.c
  have htb := ok.tb
  have hbb := ok.b
  have wx : IntKind.i64.wrap ((s.cols : Int) - 1) = ((s.cols - 1 : Nat) : Int) := by rw [wI64 (by omega) (by omega)]; omega
  have hlt : s.top < s.bot := by rcases ok.rg with h | h; exact h; exact absurd h hr1
  have a1 : ¬ (s.rows : Int) = 1 := by omega
  have a2 : ¬ (s.top : Int) < 0 := by omega
  have a3 : ¬ (s.bot : Int) ≤ s.top := by omega
  have a4 : ¬ (s.rows : Int) ≤ s.bot := by omega
  obtain ⟨c1, c2, c3⟩ := ok.non halt
  have c1' : (s.other.length : Int) = 0 := by rw [c1]; rfl
  have c2' : (s.oy : Int) = 0 := by omega
  have c3' : (s.ox : Int) = 0 := by omega
  refine CallK.of_fn FOk.nil rc_sright_ok (by simp [rc_sright]) ?_
  unfold rc_sright
  dsimp only
  rw [esc]
  simp -implicitDefEqProofs -dsimp only [tb_at, o1, o2, o3, vcS, ↓vcP1, ↓vcP2, ↓reduceIte, reduceCtorEq, Nat.reduceLT, Nat.reduceLeDiff, Nat.reduceEqDiff, Nat.reduceAdd, Nat.reduceSub, Nat.reduceMul, Int.reduceLT, Int.reduceLE, Int.reduceEq, Int.reduceToNat, Int.reduceAdd, Int.reduceSub, Int.reduceNeg, List.reduceReplicate, Nat.reducePow, Int.reduceMul]
  refine ssized_K ok o1 o2 o3 fun T1 g1 => ?_
  have hb1 := g1.at (tb_get0 T [] (some (Ob.box _))) (by simp)
  simp -implicitDefEqProofs -dsimp only [tb_at, tb_all hb1, o1, o2, o3, vcS, ↓vcP1, ↓vcP2, ↓reduceIte, reduceCtorEq, Nat.reduceLT, Nat.reduceLeDiff, Nat.reduceEqDiff, Nat.reduceAdd, Nat.reduceSub, Nat.reduceMul, Int.reduceLT, Int.reduceLE, Int.reduceEq, Int.reduceToNat, Int.reduceAdd, Int.reduceSub, Int.reduceNeg, List.reduceReplicate, Nat.reducePow, Int.reduceMul]
  refine scells_K (.inl sv.z1) hl.1 R.ci ok.g.r ok.g.c fun T2 g2 => ?_
  have hb2 := g2.at hb1 (by simp)
  rw [R.cb]
  simp -implicitDefEqProofs -dsimp only [tb_at, tb_all hb2, o1, o2, o3, boRows_len, eq_true e1, vcS, ↓vcP1, ↓vcP2, ↓reduceIte, reduceCtorEq, Nat.reduceLT, Nat.reduceLeDiff, Nat.reduceEqDiff, Nat.reduceAdd, Nat.reduceSub, Nat.reduceMul, Int.reduceLT, Int.reduceLE, Int.reduceEq, Int.reduceToNat, Int.reduceAdd, Int.reduceSub, Int.reduceNeg, List.reduceReplicate, Nat.reducePow, Int.reduceMul]
  refine vRight_K sv.pa pk ?_
  rw [R.pb]
  simp -implicitDefEqProofs -dsimp only [tb_at, tb_all hb2, o1, o2, o3, hbRight1, ↓stV_calld, calldV_clo, vcS, ↓vcP1, ↓vcP2, ↓reduceIte, reduceCtorEq, Nat.reduceLT, Nat.reduceLeDiff, Nat.reduceEqDiff, Nat.reduceAdd, Nat.reduceSub, Nat.reduceMul, Int.reduceLT, Int.reduceLE, Int.reduceEq, Int.reduceToNat, Int.reduceAdd, Int.reduceSub, Int.reduceNeg, List.reduceReplicate, Nat.reducePow, Int.reduceMul]
  have sc2 : T2[T.length]? = some (some (.box (scD s z1 z2 z3 k1 k2 k3 m pr d1 d2 d3))) := hb2
  refine sright1_K sc2 ok.y ok.x ?_
  simp -implicitDefEqProofs -dsimp only [tb_at, tb_all hb2, o1, o2, o3, hbRight1, ↓stV_calld, calldV_clo, vcS, ↓vcP1, ↓vcP2, ↓reduceIte, reduceCtorEq, Nat.reduceLT, Nat.reduceLeDiff, Nat.reduceEqDiff, Nat.reduceAdd, Nat.reduceSub, Nat.reduceMul, Int.reduceLT, Int.reduceLE, Int.reduceEq, Int.reduceToNat, Int.reduceAdd, Int.reduceSub, Int.reduceNeg, List.reduceReplicate, Nat.reducePow, Int.reduceMul]
  refine sright1_K sc2 ok.sy ok.sx ?_
  simp -implicitDefEqProofs -dsimp only [tb_at, tb_all hb2, o1, o2, o3, hbRight1, ↓stV_calld, calldV_clo, vcS, ↓vcP1, ↓vcP2, ↓reduceIte, reduceCtorEq, Nat.reduceLT, Nat.reduceLeDiff, Nat.reduceEqDiff, Nat.reduceAdd, Nat.reduceSub, Nat.reduceMul, Int.reduceLT, Int.reduceLE, Int.reduceEq, Int.reduceToNat, Int.reduceAdd, Int.reduceSub, Int.reduceNeg, List.reduceReplicate, Nat.reducePow, Int.reduceMul]
  refine sright1_K sc2 ok.oy ok.ox ?_
  simp -implicitDefEqProofs -dsimp only [tb_at, tb_all hb2, o1, o2, o3, hbRight1, ↓stV_calld, calldV_clo, wx, hwr, halt, eq_false a1, eq_false a2, eq_false a3, eq_false a4, eq_true c1', eq_true c2', eq_true c3', vcS, ↓vcP1, ↓vcP2, ↓reduceIte, reduceCtorEq, Nat.reduceLT, Nat.reduceLeDiff, Nat.reduceEqDiff, Nat.reduceAdd, Nat.reduceSub, Nat.reduceMul, Int.reduceLT, Int.reduceLE, Int.reduceEq, Int.reduceToNat, Int.reduceAdd, Int.reduceSub, Int.reduceNeg, List.reduceReplicate, Nat.reducePow, Int.reduceMul]
  refine sattr_K ok.at' fun T3 g3 => ?_
  rw [R.ab]
  have hb3 := g3.at hb2 (by simp)
  simp -implicitDefEqProofs -dsimp only [tb_at, tb_all hb3, o1, o2, o3, wx, hwr, halt, eq_false a1, eq_false a2, eq_false a3, eq_false a4, eq_true c1', eq_true c2', eq_true c3', vcS, ↓vcP1, ↓vcP2, ↓reduceIte, reduceCtorEq, Nat.reduceLT, Nat.reduceLeDiff, Nat.reduceEqDiff, Nat.reduceAdd, Nat.reduceSub, Nat.reduceMul, Int.reduceLT, Int.reduceLE, Int.reduceEq, Int.reduceToNat, Int.reduceAdd, Int.reduceSub, Int.reduceNeg, List.reduceReplicate, Nat.reducePow, Int.reduceMul]
  refine sattr_K ok.sat fun T4 g4 => ?_
  rw [R.sb]
  have hb4 := g4.at hb3 (by simp)
  have kT : Keep T T4 [] := ((((Keep.app T [_] []).new g1 (by simp)).new g2 (by simp)).new g3 (by simp)).new g4 (by simp)
  simp -implicitDefEqProofs -dsimp only [tb_at, tb_all hb4, o1, o2, o3, ceRows_len, wx, hwr, halt, eq_false a1, eq_false a2, eq_false a3, eq_false a4, eq_true c1', eq_true c2', eq_true c3', vcS, ↓vcP1, ↓vcP2, ↓reduceIte, reduceCtorEq, Nat.reduceLT, Nat.reduceLeDiff, Nat.reduceEqDiff, Nat.reduceAdd, Nat.reduceSub, Nat.reduceMul, Int.reduceLT, Int.reduceLE, Int.reduceEq, Int.reduceToNat, Int.reduceAdd, Int.reduceSub, Int.reduceNeg, List.reduceReplicate, Nat.reducePow, Int.reduceMul]
  exact ⟨kT.1, h _ kT⟩
end Go.Proofs.YtjmnbpilnneonaaDoor
