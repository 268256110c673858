/- Texts H9, H10, H11 in one. -/
import Derived.Test.YtjmnbpilnneonaaDoorN3
import Derived.Test.YtjmnbpilnneonaaDoorM3
import Derived.Test.YtjmnbpilnneonaaDoorN5
import Derived.Test.YtjmnbpilnneonaaDoorN6
set_option linter.unusedVariables false
set_option linter.unusedSimpArgs false
set_option maxRecDepth 10000
namespace Go.Proofs.YtjmnbpilnneonaaDoor
open Go.RowKit
noncomputable def rc_stabs_l0 : RC := (.seq (.reg [⟨some 12, .bin .lss (.t 11) (.t 10), none, false⟩] 0 [0, 5, 10, 11, 12]) (.seq (.cond (.t 12) .skip (.ext 0)) (.seq (.blk 1 (.seq (.reg [⟨some 13, .mov (.t 11), none, false⟩, ⟨some 6, .mov (.t 13), none, false⟩] 0 [0, 5, 6, 10, 11]) (.seq (.reg [⟨some 14, .mov (.t 5), none, false⟩, ⟨some 15, .mov (.t 6), none, false⟩, ⟨some 16, .mov (.t 6), none, false⟩, ⟨some 17, .bin .rem (.t 16) (.c (.int .i64 8)), none, false⟩, ⟨some 18, .bin .eql (.t 17) (.c (.int .i64 0)), none, false⟩, ⟨some 19, .iaddr 1 (.t 14) (.t 15), none, false⟩, ⟨none, .store 1 (.t 19) (.t 18), none, false⟩] 0 [0, 5, 6, 10, 11]) (.seq (.reg [⟨some 20, .mov (.t 6), none, false⟩, ⟨some 21, .mov (.t 0), none, false⟩, ⟨some 22, .len (.t 21), none, false⟩, ⟨some 23, .bin .lss (.t 20) (.t 22), none, false⟩] 0 [0, 5, 6, 10, 11, 23]) (.cond (.t 23) (.reg [⟨some 24, .mov (.t 5), none, false⟩, ⟨some 25, .mov (.t 6), none, false⟩, ⟨some 26, .mov (.t 0), none, false⟩, ⟨some 27, .mov (.t 6), none, false⟩, ⟨some 28, .iaddr 1 (.t 26) (.t 27), none, false⟩, ⟨some 29, .load false 1 (.t 28), none, false⟩, ⟨some 30, .iaddr 1 (.t 24) (.t 25), none, false⟩, ⟨none, .store 1 (.t 30) (.t 29), none, false⟩] 0 [0, 5, 10, 11]) .skip))))) (.reg [⟨some 31, .bin .add (.t 11) (.c (.int .i64 1)), none, false⟩, ⟨some 11, .mov (.t 31), none, false⟩] 0 [0, 5, 10, 11]))))
noncomputable def rc_stabs : RFn := ⟨2, 33, .seq (.reg [⟨some 4, .mov (.c (.sl 0 [] .nil)), none, false⟩] 0 [0, 1]) (.seq (.reg [⟨some 7, .mov (.t 1), none, false⟩, ⟨some 8, .mkslice 1 1 [.bool false] (.t 7) (.t 7), none, false⟩, ⟨some 5, .mov (.t 8), none, false⟩] 0 [0, 5]) (.seq (.seq (.reg [⟨some 9, .mov (.t 5), none, false⟩, ⟨some 10, .len (.t 9), none, false⟩, ⟨some 11, .mov (.c (.int .i64 0)), none, false⟩] 0 [0, 5, 10, 11]) (.blk 0 (.loop rc_stabs_l0))) (.seq (.reg [⟨some 32, .mov (.t 5), none, false⟩, ⟨some 4, .mov (.t 32), none, false⟩] 0 [4]) .ret))), [.t 4]⟩
theorem rc_stabs_ok : compFn PG.P [⟨0, 0, [0, 1], []⟩, ⟨1, 0, [0, 5], []⟩, ⟨2, 0, [0, 5, 10, 11], []⟩, ⟨3, 0, [0, 5, 10, 11, 12], []⟩, ⟨4, 0, [0, 5, 6, 10, 11], []⟩, ⟨5, 0, [0, 5, 6, 10, 11], []⟩, ⟨6, 0, [0, 5, 6, 10, 11, 23], []⟩, ⟨7, 0, [0, 5, 10, 11], []⟩, ⟨8, 0, [0, 5, 10, 11], []⟩, ⟨9, 0, [4], []⟩] 18 = some rc_stabs := by kernel_rfl
noncomputable def rc_snewS : RFn := ⟨2, 31, .seq (.reg [⟨some 4, .alloc [.int .i64 0, .int .i64 0, .sl 0 [] .nil, .int .i64 0, .int .i64 0, .bool false, .int .u16 0, .int .i64 0, .int .i64 0, .sl 0 [] .nil, .int .i64 0, .int .i64 0, .int .u16 0, .bool false, .bool false, .bool false, .sl 0 [] .nil, .int .i64 0, .int .i64 0, .int .i64 0, .int .u8 0, .sl 0 [] .nil, .sl 0 [] .nil, .sl 0 [] .nil], none, false⟩, ⟨some 5, .mov (.c (.int .i64 0)), none, false⟩] 0 [0, 1, 4]) (.seq (.seq (.reg [⟨some 6, .mov (.t 0), none, false⟩, ⟨some 7, .bin .lss (.t 6) (.c (.int .i64 1)), none, false⟩, ⟨some 8, .mov (.t 7), none, false⟩, ⟨some 9, .mov (.t 0), some (8, false), false⟩, ⟨some 10, .bin .gtr (.t 9) (.c (.int .i64 1000)), some (8, false), false⟩, ⟨some 11, .pick (.t 8) (.c (.bool true)) (.t 10), none, false⟩, ⟨some 12, .mov (.t 11), none, false⟩, ⟨some 13, .mov (.t 1), some (12, false), false⟩, ⟨some 14, .bin .lss (.t 13) (.c (.int .i64 1)), some (12, false), false⟩, ⟨some 15, .pick (.t 12) (.c (.bool true)) (.t 14), none, false⟩, ⟨some 16, .mov (.t 15), none, false⟩, ⟨some 17, .mov (.t 1), some (16, false), false⟩, ⟨some 18, .bin .gtr (.t 17) (.c (.int .i64 1000)), some (16, false), false⟩, ⟨some 19, .pick (.t 16) (.c (.bool true)) (.t 18), none, false⟩] 0 [0, 1, 4, 19]) (.cond (.t 19) (.seq (.reg [⟨some 20, .build [.int .i64 0, .int .i64 0, .sl 0 [] .nil, .int .i64 0, .int .i64 0, .bool false, .int .u16 0, .int .i64 0, .int .i64 0, .sl 0 [] .nil, .int .i64 0, .int .i64 0, .int .u16 0, .bool false, .bool false, .bool false, .sl 0 [] .nil, .int .i64 0, .int .i64 0, .int .i64 0, .int .u8 0, .sl 0 [] .nil, .sl 0 [] .nil, .sl 0 [] .nil] [], none, false⟩, ⟨none, .store 24 (.t 4) (.t 20), none, false⟩, ⟨some 5, .mov (.c (.int .i64 26)), none, false⟩] 0 [4, 5]) .ret) .skip)) (.seq (.reg [⟨some 21, .mov (.t 0), none, false⟩, ⟨some 22, .mov (.t 1), none, false⟩, ⟨some 23, .mov (.t 0), none, false⟩, ⟨some 24, .mov (.t 1), none, false⟩, ⟨some 25, .call 17 [.t 23, .t 24], none, false⟩, ⟨some 26, .mov (.t 0), none, false⟩, ⟨some 27, .bin .sub (.t 26) (.c (.int .i64 1)), none, false⟩, ⟨some 28, .mov (.t 1), none, false⟩, ⟨some 29, .call 18 [.c (.sl 0 [] .nil), .t 28], none, false⟩, ⟨some 30, .build [.int .i64 0, .int .i64 0, .sl 0 [] .nil, .int .i64 0, .int .i64 0, .bool false, .int .u16 0, .int .i64 0, .int .i64 0, .sl 0 [] .nil, .int .i64 0, .int .i64 0, .int .u16 0, .bool false, .bool false, .bool false, .sl 0 [] .nil, .int .i64 0, .int .i64 0, .int .i64 0, .int .u8 0, .sl 0 [] .nil, .sl 0 [] .nil, .sl 0 [] .nil] [(0, (1, (.t 21))), (1, (1, (.t 22))), (2, (1, (.t 25))), (8, (1, (.t 27))), (9, (1, (.t 29))), (13, (1, (.c (.bool true)))), (14, (1, (.c (.bool true))))], none, false⟩, ⟨none, .store 24 (.t 4) (.t 30), none, false⟩, ⟨some 5, .mov (.c (.int .i64 0)), none, false⟩] 0 [4, 5]) .ret)), [.c 4 true 24, .t 5]⟩
theorem rc_snewS_ok : compFn PG.P [⟨0, 0, [0, 1, 4], []⟩, ⟨1, 0, [0, 1, 4, 19], []⟩, ⟨2, 0, [4, 5], []⟩, ⟨3, 0, [4, 5], []⟩] 10 = some rc_snewS := by kernel_rfl
def tabsTo (was : List Bool) (n i : Nat) : List Bool := (List.range n).map fun x => if x < i then (if x < was.length then was.getD x false else decide (x % 8 = 0)) else false
theorem tabsTo_len (was : List Bool) (n i : Nat) : (tabsTo was n i).length = n := by simp [tabsTo]
theorem tabsTo_0 (was : List Bool) (n : Nat) : tabsTo was n 0 = List.replicate n false := by
  refine List.ext_getElem (by simp [tabsTo]) fun i h1 h2 => ?_
  simp [tabsTo]
theorem tabsTo_nil (n : Nat) : tabsTo [] n n = tabs0 n := by
  refine List.ext_getElem (by simp [tabsTo, tabs0]) fun i h1 h2 => ?_
  simp [tabsTo] at h1
  simp [tabsTo, tabs0, h1]
theorem tabsTo_succ {was : List Bool} {n i : Nat} (hi : i < n) (b : Bool) (hb : b = if i < was.length then was.getD i false else decide (i % 8 = 0)) : (tabsTo was n i).set i b = tabsTo was n (i + 1) := by
  refine List.ext_getElem (by simp [tabsTo]) fun j h1 h2 => ?_
  rw [List.getElem_set]
  simp only [tabsTo, List.getElem_map, List.getElem_range]
  by_cases e : i = j
  · subst e; rw [if_pos rfl, if_pos (by omega), hb]
  · rw [if_neg e]
    by_cases h : j < i
    · simp [h, show j < i + 1 by omega]
    · simp [h, show ¬ j < i + 1 by omega]
theorem stabs_K {T : Objs} {sz : Nat} {sk : SK} {was : List Bool} {n : Nat} {K : DV → Objs → Prop} (hs : sz = 1 ∨ was = []) (hn : 1 ≤ n ∧ n ≤ 1000) (h : ∀ T' p, T.length ≤ p → T'[p]? = some (some (.arr 1 (boRows (tabsTo was n n)))) → Keep T T' [] → K (.own p 0 n) T') :
    CallK PG 18 [.sl sz (boRows was) sk, .int .i64 n] T K := by
  refine CallK.of_fn FOk.nil rc_stabs_ok (by simp [rc_stabs]) ?_
  unfold rc_stabs
  dsimp only
  have n0 : (0 : Int) ≤ n := by omega
  simp -implicitDefEqProofs -dsimp only [tb_at, boRows_rep, boRows_len, vcS, ↓vcP1, ↓vcP2, ↓reduceIte, reduceCtorEq, Nat.reduceLT, Nat.reduceLeDiff, Nat.reduceEqDiff, Nat.reduceAdd, Nat.reduceSub, Nat.reduceMul, Int.reduceLT, Int.reduceLE, Int.reduceEq, Int.reduceToNat, Int.reduceAdd, Int.reduceSub, Int.reduceNeg, List.reduceReplicate, Nat.reducePow, Int.reduceMul]
  have hb1 : (n : Int) * 1 ≤ 140737488355328 ∧ (n : Int) ≤ 4611686018427387904 := by omega
  refine ⟨⟨n0, Int.le_refl _, hb1.1, hb1.2⟩, ?_⟩
  refine LoopWp.inv FOk.nil (S := fun i : Nat => ⟨[(0, .sl sz (boRows was) sk), (5, .own T.length 0 n), (10, .int .i64 n), (11, .int .i64 i)], T ++ [some (.arr 1 (boRows (tabsTo was n i)))]⟩)
    (I := fun i => i ≤ n) (μ := fun i => n - i) 0 (by omega) ?_ ?_
  · simp -implicitDefEqProofs -dsimp only [wkT_self, tabsTo_0, vcS, ↓vcP1, ↓vcP2, ↓reduceIte, reduceCtorEq, Nat.reduceLT, Nat.reduceLeDiff, Nat.reduceEqDiff, Nat.reduceAdd, Nat.reduceSub, Nat.reduceMul, Int.reduceLT, Int.reduceLE, Int.reduceEq, Int.reduceToNat, Int.reduceAdd, Int.reduceSub, Int.reduceNeg, List.reduceReplicate, Nat.reducePow, Int.reduceMul]
  · intro i hi
    unfold rc_stabs_l0
    have hlen := tabsTo_len was n i
    by_cases hlt : i < n
    · have hii : (i : Int) < n := by omega
      have hi0 : (0 : Int) ≤ i := by omega
      have hw1 : IntKind.i64.wrap ((i : Int) + 1) = ((i + 1 : Nat) : Int) := by rw [wI64 (by omega) (by omega)]; omega
      have hm : decide ((i : Int).tmod 8 = 0) = decide (i % 8 = 0) := by
        rw [decide_eq_decide, Int.tmod_eq_emod_of_nonneg hi0]; omega
      have hg := boRows_get (L := tabsTo was n i) (i := i) (by omega)
      have hs0 := boRows_set (tabsTo was n i) i (decide (i % 8 = 0))
      have hg2 := boRows_get (L := (tabsTo was n i).set i (decide (i % 8 = 0))) (i := i) (by simp; omega)
      by_cases hwas : i < was.length
      · have hwas' : (i : Int) < was.length := by omega
        have hsz : sz = 1 := by rcases hs with h | h; exact h; subst h; simp at hwas
        have hgw := boRows_get hwas
        have hs1 := boRows_set ((tabsTo was n i).set i (decide (i % 8 = 0))) i (was.getD i false)
        have hset : ((tabsTo was n i).set i (decide (i % 8 = 0))).set i (was.getD i false) = tabsTo was n (i + 1) := by
          rw [List.set_set]
          exact tabsTo_succ hlt _ (by rw [if_pos hwas])
        rw [hset] at hs1
        subst hsz
        simp -implicitDefEqProofs -dsimp only [tb_at, boRows_len, hlen, hii, hi0, hw1, hm, hg, hg2, hs0, hs1, hgw, hwas', wkT_self, Nat.zero_add, List.length_set, vcS, ↓vcP1, ↓vcP2, ↓reduceIte, reduceCtorEq, Nat.reduceLT, Nat.reduceLeDiff, Nat.reduceEqDiff, Nat.reduceAdd, Nat.reduceSub, Nat.reduceMul, Int.reduceLT, Int.reduceLE, Int.reduceEq, Int.reduceToNat, Int.reduceAdd, Int.reduceSub, Int.reduceNeg, List.reduceReplicate, Nat.reducePow, Int.reduceMul]
        exact ⟨i + 1, ⟨rfl, objsWk_refl _⟩, hlt, by omega⟩
      · have hwas' : ¬ (i : Int) < was.length := by omega
        have hset : (tabsTo was n i).set i (decide (i % 8 = 0)) = tabsTo was n (i + 1) := tabsTo_succ hlt _ (by rw [if_neg hwas])
        rw [hset] at hs0
        simp -implicitDefEqProofs -dsimp only [tb_at, boRows_len, hlen, hii, hi0, hw1, hm, hg, hs0, hwas', wkT_self, Nat.zero_add, vcS, ↓vcP1, ↓vcP2, ↓reduceIte, reduceCtorEq, Nat.reduceLT, Nat.reduceLeDiff, Nat.reduceEqDiff, Nat.reduceAdd, Nat.reduceSub, Nat.reduceMul, Int.reduceLT, Int.reduceLE, Int.reduceEq, Int.reduceToNat, Int.reduceAdd, Int.reduceSub, Int.reduceNeg, List.reduceReplicate, Nat.reducePow, Int.reduceMul]
        exact ⟨i + 1, ⟨rfl, objsWk_refl _⟩, hlt, by omega⟩
    · have hii : ¬ (i : Int) < n := by omega
      obtain rfl : i = n := by omega
      simp -implicitDefEqProofs -dsimp only [tb_at, hii, wkT_self, vcS, ↓vcP1, ↓vcP2, ↓reduceIte, reduceCtorEq, Nat.reduceLT, Nat.reduceLeDiff, Nat.reduceEqDiff, Nat.reduceAdd, Nat.reduceSub, Nat.reduceMul, Int.reduceLT, Int.reduceLE, Int.reduceEq, Int.reduceToNat, Int.reduceAdd, Int.reduceSub, Int.reduceNeg, List.reduceReplicate, Nat.reducePow, Int.reduceMul]
      exact h _ _ (Nat.le_refl _) (tb_get0 _ _ _) (Keep.app _ _ _)
def newD (rows cols q tq : Nat) : DV := .agg (tmBox (newF rows cols) q tq (.sl 0 [] .nil) 0 0 (.sl 0 [] .nil) (.sl 0 [] .nil) (.sl 0 [] .nil))
theorem snewS_K {T : Objs} {r c : Nat} {K : DV → Objs → Prop} (hr : 1 ≤ r ∧ r ≤ 1000) (hc : 1 ≤ c ∧ c ≤ 1000)
    (h : ∀ T' q tq, T.length ≤ q → T.length ≤ tq → q ≠ tq → T'[q]? = some (some (.arr 3 (ceRows (blankG r c)))) → T'[tq]? = some (some (.arr 1 (boRows (tabs0 c)))) → Keep T T' [] → K (.tup [newD r c q tq, .int .i64 0]) T') :
    CallK PG 10 [.int .i64 r, .int .i64 c] T K := by
  refine CallK.of_fn FOk.nil rc_snewS_ok (by simp [rc_snewS]) ?_
  unfold rc_snewS
  dsimp only
  have r1 : ¬ (r : Int) < 1 := by omega
  have r2 : ¬ (1000 : Int) < r := by omega
  have c1 : ¬ (c : Int) < 1 := by omega
  have c2 : ¬ (1000 : Int) < c := by omega
  simp -implicitDefEqProofs -dsimp only [tb_at, r1, r2, c1, c2, vcS, ↓vcP1, ↓vcP2, ↓reduceIte, reduceCtorEq, Nat.reduceLT, Nat.reduceLeDiff, Nat.reduceEqDiff, Nat.reduceAdd, Nat.reduceSub, Nat.reduceMul, Int.reduceLT, Int.reduceLE, Int.reduceEq, Int.reduceToNat, Int.reduceAdd, Int.reduceSub, Int.reduceNeg, List.reduceReplicate, Nat.reducePow, Int.reduceMul]
  refine gBlank_K hr hc fun T1 q hq hA k1 => ?_
  have w1 : IntKind.i64.wrap ((r : Int) - 1) = ((r - 1 : Nat) : Int) := by rw [wI64 (by omega) (by omega)]; omega
  have hb := k1.at (tb_get0 T [] (some (Ob.box _))) (by simp)
  simp -implicitDefEqProofs -dsimp only [tb_at, r1, r2, c1, c2, w1, vcS, ↓vcP1, ↓vcP2, ↓reduceIte, reduceCtorEq, Nat.reduceLT, Nat.reduceLeDiff, Nat.reduceEqDiff, Nat.reduceAdd, Nat.reduceSub, Nat.reduceMul, Int.reduceLT, Int.reduceLE, Int.reduceEq, Int.reduceToNat, Int.reduceAdd, Int.reduceSub, Int.reduceNeg, List.reduceReplicate, Nat.reducePow, Int.reduceMul]
  refine stabs_K (was := []) (.inr rfl) hc fun T2 tq htq hB k2 => ?_
  simp -implicitDefEqProofs -dsimp only [tb_at, r1, r2, c1, c2, w1, tb_all (k2.at hb (by simp)), vcS, ↓vcP1, ↓vcP2, ↓reduceIte, reduceCtorEq, Nat.reduceLT, Nat.reduceLeDiff, Nat.reduceEqDiff, Nat.reduceAdd, Nat.reduceSub, Nat.reduceMul, Int.reduceLT, Int.reduceLE, Int.reduceEq, Int.reduceToNat, Int.reduceAdd, Int.reduceSub, Int.reduceNeg, List.reduceReplicate, Nat.reducePow, Int.reduceMul]
  have l1 := k1.1
  have l2 := k2.1
  simp only [List.length_append, List.length_cons, List.length_nil] at l1 hq
  have kk : Keep T T2 [] := ((Keep.app T _ []).new k1 (by simp)).new k2 (by simp)
  have e : newD r c q tq = .agg [.int .i64 r, .int .i64 c, .own q 0 (r * c), .int .i64 0, .int .i64 0, .bool false, .int .u16 0, .int .i64 0, .int .i64 ((r - 1 : Nat) : Int), .own tq 0 c, .int .i64 0, .int .i64 0, .int .u16 0, .bool true, .bool true, .bool false, .sl 0 [] .nil, .int .i64 0, .int .i64 0, .int .i64 0, .int .u8 0, .sl 0 [] .nil, .sl 0 [] .nil, .sl 0 [] .nil] := by
    simp [newD, tmBox, newF, blankG, tabs0_len]
  have lq := tb_lt hA
  refine ⟨by simp; omega, ?_⟩
  have := h (T2.set T.length (some (.box (tmBox (newF r c) q tq (.sl 0 [] .nil) 0 0 (.sl 0 [] .nil) (.sl 0 [] .nil) (.sl 0 [] .nil))))) q tq (by omega) (by omega) (by omega) (tb_ne (k2.at hA (by simp)) _ (by omega)) (by rw [tabsTo_nil] at hB; exact tb_ne hB _ (by omega)) (kk.new (Keep.set T2 T.length _) (by simp))
  have e2 : tmBox (newF r c) q tq (.sl 0 [] .nil) 0 0 (.sl 0 [] .nil) (.sl 0 [] .nil) (.sl 0 [] .nil) = _ := DV.agg.inj e
  rw [e, e2] at this
  exact this
theorem snewS_no {T : Objs} {r c : Int} {K : DV → Objs → Prop} (hn : ¬ (1 ≤ r ∧ r ≤ 1000 ∧ 1 ≤ c ∧ c ≤ 1000))
    (h : ∀ T', Keep T T' [] → K (.tup [.agg [.int .i64 0, .int .i64 0, .sl 0 [] .nil, .int .i64 0, .int .i64 0, .bool false, .int .u16 0, .int .i64 0, .int .i64 0, .sl 0 [] .nil, .int .i64 0, .int .i64 0, .int .u16 0, .bool false, .bool false, .bool false, .sl 0 [] .nil, .int .i64 0, .int .i64 0, .int .i64 0, .int .u8 0, .sl 0 [] .nil, .sl 0 [] .nil, .sl 0 [] .nil], .int .i64 26]) T') :
    CallK PG 10 [.int .i64 r, .int .i64 c] T K := by
  refine CallK.of_fn FOk.nil rc_snewS_ok (by simp [rc_snewS]) ?_
  unfold rc_snewS
  dsimp only
  simp -implicitDefEqProofs -dsimp only [tb_at, vcS, ↓vcP1, ↓vcP2, ↓reduceIte, reduceCtorEq, Nat.reduceLT, Nat.reduceLeDiff, Nat.reduceEqDiff, Nat.reduceAdd, Nat.reduceSub, Nat.reduceMul, Int.reduceLT, Int.reduceLE, Int.reduceEq, Int.reduceToNat, Int.reduceAdd, Int.reduceSub, Int.reduceNeg, List.reduceReplicate, Nat.reducePow, Int.reduceMul]
  refine ⟨fun _ => h _ (Keep.app _ _ _), fun _ => ⟨fun _ => h _ (Keep.app _ _ _), fun _ => ⟨fun _ => h _ (Keep.app _ _ _), fun _ => ⟨fun _ => h _ (Keep.app _ _ _), fun _ => by omega⟩⟩⟩⟩
noncomputable def rc_tother : RFn := ⟨2, 96, .seq (.seq (.reg [⟨some 4, .mov (.t 1), none, false⟩, ⟨some 5, .mov (.t 0), none, false⟩, ⟨some 6, .nilck (.t 5), none, false⟩, ⟨some 7, .faddr 0 (.t 6), none, false⟩, ⟨some 8, .faddr 15 (.t 7), none, false⟩, ⟨some 9, .load false 1 (.t 8), none, false⟩, ⟨some 10, .eqB false (.t 4) (.t 9), none, false⟩] 0 [0, 1, 10]) (.cond (.t 10) .ret .skip)) (.seq (.seq (.reg [⟨some 11, .mov (.t 1), none, false⟩] 0 [0, 1, 11]) (.cond (.t 11) (.regD (.take ⟨some 12, .mov (.t 0), none, false⟩ [] (.take ⟨some 13, .mov (.t 0), none, false⟩ [] (.take ⟨some 14, .mov (.t 0), none, false⟩ [] (.take ⟨some 15, .mov (.t 0), none, false⟩ [] (.take ⟨some 16, .mov (.t 0), none, false⟩ [] (.take ⟨some 17, .nilck (.t 16), none, false⟩ [] (.take ⟨some 18, .faddr 0 (.t 17), none, false⟩ [] (.take ⟨some 19, .faddr 2 (.t 18), none, false⟩ [] (.take ⟨some 20, .load false 1 (.t 19), none, false⟩ [] (.take ⟨some 21, .mov (.t 0), none, false⟩ [] (.take ⟨some 22, .nilck (.t 21), none, false⟩ [] (.take ⟨some 23, .faddr 0 (.t 22), none, false⟩ [] (.take ⟨some 24, .faddr 3 (.t 23), none, false⟩ [] (.take ⟨some 25, .load false 1 (.t 24), none, false⟩ [] (.take ⟨some 26, .mov (.t 0), none, false⟩ [] (.take ⟨some 27, .nilck (.t 26), none, false⟩ [] (.take ⟨some 28, .faddr 0 (.t 27), none, false⟩ [] (.take ⟨some 29, .faddr 4 (.t 28), none, false⟩ [] (.take ⟨some 30, .load false 1 (.t 29), none, false⟩ [] (.take ⟨some 31, .mov (.t 0), none, false⟩ [] (.take ⟨some 32, .nilck (.t 31), none, false⟩ [] (.take ⟨some 33, .faddr 0 (.t 32), none, false⟩ [] (.take ⟨some 34, .faddr 0 (.t 33), none, false⟩ [] (.take ⟨some 35, .load false 1 (.t 34), none, false⟩ [] (.take ⟨some 36, .mov (.t 0), none, false⟩ [] (.take ⟨some 37, .nilck (.t 36), none, false⟩ [] (.take ⟨some 38, .faddr 0 (.t 37), none, false⟩ [] (.take ⟨some 39, .faddr 1 (.t 38), none, false⟩ [] (.take ⟨some 40, .load false 1 (.t 39), none, false⟩ [] (.op ⟨some 41, .call 17 [.t 35, .t 40], none, false⟩ (.take ⟨some 42, .nilck (.t 12), none, false⟩ [] (.take ⟨some 43, .faddr 0 (.t 42), none, false⟩ [] (.take ⟨some 44, .faddr 16 (.t 43), none, false⟩ [] (.op ⟨none, .store 1 (.t 44) (.t 20), none, false⟩ (.take ⟨some 45, .nilck (.t 13), none, false⟩ [] (.take ⟨some 46, .faddr 0 (.t 45), none, false⟩ [] (.take ⟨some 47, .faddr 17 (.t 46), none, false⟩ [] (.op ⟨none, .store 1 (.t 47) (.t 25), none, false⟩ (.take ⟨some 48, .nilck (.t 14), none, false⟩ [] (.take ⟨some 49, .faddr 0 (.t 48), none, false⟩ [] (.take ⟨some 50, .faddr 18 (.t 49), none, false⟩ [] (.op ⟨none, .store 1 (.t 50) (.t 30), none, false⟩ (.take ⟨some 51, .nilck (.t 15), none, false⟩ [] (.take ⟨some 52, .faddr 0 (.t 51), none, false⟩ [] (.take ⟨some 53, .faddr 2 (.t 52), none, false⟩ [] (.op ⟨none, .store 1 (.t 53) (.t 41), none, false⟩ .done)))))))))))))))))))))))))))))))))))))))))))))) 0 [0, 1]) (.seq (.reg [⟨some 54, .mov (.t 0), none, false⟩, ⟨some 55, .mov (.t 0), none, false⟩, ⟨some 56, .mov (.t 0), none, false⟩, ⟨some 57, .nilck (.t 56), none, false⟩, ⟨some 58, .faddr 0 (.t 57), none, false⟩, ⟨some 59, .faddr 16 (.t 58), none, false⟩, ⟨some 60, .load false 1 (.t 59), none, false⟩, ⟨some 61, .nilck (.t 54), none, false⟩, ⟨some 62, .faddr 0 (.t 61), none, false⟩, ⟨some 63, .faddr 2 (.t 62), none, false⟩, ⟨none, .store 1 (.t 63) (.t 60), none, false⟩, ⟨some 64, .nilck (.t 55), none, false⟩, ⟨some 65, .faddr 0 (.t 64), none, false⟩, ⟨some 66, .faddr 16 (.t 65), none, false⟩, ⟨none, .store 1 (.t 66) (.c (.sl 0 [] .nil)), none, false⟩] 0 [0, 1]) (.seq (.regD (.take ⟨some 67, .mov (.t 0), none, false⟩ [] (.take ⟨some 68, .mov (.t 0), none, false⟩ [] (.take ⟨some 69, .nilck (.t 68), none, false⟩ [] (.take ⟨some 70, .faddr 0 (.t 69), none, false⟩ [] (.take ⟨some 71, .faddr 17 (.t 70), none, false⟩ [] (.take ⟨some 72, .load false 1 (.t 71), none, false⟩ [] (.take ⟨some 73, .mov (.t 0), none, false⟩ [] (.take ⟨some 74, .nilck (.t 73), none, false⟩ [] (.take ⟨some 75, .faddr 0 (.t 74), none, false⟩ [] (.take ⟨some 76, .faddr 18 (.t 75), none, false⟩ [] (.take ⟨some 77, .load false 1 (.t 76), none, false⟩ [] (.mid ⟨some 78, .call 58 [.t 67, .t 72, .t 77], none, false⟩ .done)))))))))))) 0 [0, 1]) (.reg [⟨some 79, .mov (.t 0), none, false⟩, ⟨some 80, .mov (.t 0), none, false⟩, ⟨some 81, .nilck (.t 79), none, false⟩, ⟨some 82, .faddr 0 (.t 81), none, false⟩, ⟨some 83, .faddr 17 (.t 82), none, false⟩, ⟨none, .store 1 (.t 83) (.c (.int .i64 0)), none, false⟩, ⟨some 84, .nilck (.t 80), none, false⟩, ⟨some 85, .faddr 0 (.t 84), none, false⟩, ⟨some 86, .faddr 18 (.t 85), none, false⟩, ⟨none, .store 1 (.t 86) (.c (.int .i64 0)), none, false⟩] 0 [0, 1]))))) (.reg [⟨some 87, .mov (.t 0), none, false⟩, ⟨some 88, .mov (.t 0), none, false⟩, ⟨some 89, .mov (.t 1), none, false⟩, ⟨some 90, .nilck (.t 87), none, false⟩, ⟨some 91, .faddr 0 (.t 90), none, false⟩, ⟨some 92, .faddr 15 (.t 91), none, false⟩, ⟨none, .store 1 (.t 92) (.t 89), none, false⟩, ⟨some 93, .nilck (.t 88), none, false⟩, ⟨some 94, .faddr 0 (.t 93), none, false⟩, ⟨some 95, .faddr 5 (.t 94), none, false⟩, ⟨none, .store 1 (.t 95) (.c (.bool false)), none, false⟩] 0 [])), []⟩
theorem rc_tother_ok : compFn PG.P [⟨0, 0, [0, 1, 10], []⟩, ⟨1, 0, [0, 1, 11], []⟩, ⟨2, 0, [0, 1], []⟩, ⟨3, 0, [0, 1], []⟩, ⟨4, 0, [0, 1], []⟩, ⟨5, 0, [0, 1], []⟩, ⟨6, 0, [], []⟩] 67 = some rc_tother := by kernel_rfl
theorem gBlank_P {rows cols : Nat} (h1 : 1 ≤ rows ∧ rows ≤ 1000) (h2 : 1 ≤ cols ∧ cols ≤ 1000) : PCalls PG 17 [.int .i64 rows, .int .i64 cols] fun n r os => r = .own n 0 (rows * cols) ∧ os = [some (.arr 3 (ceRows (blankG rows cols)))] :=
  PCalls.of_KR (res := fun n => (.own n 0 (rows * cols), [some (.arr 3 (ceRows (blankG rows cols)))])) fun n T _ => gBlank_K h1 h2 fun T' p hp hc k => retH_own hc (ceRows_cl _)
def F_gBlank : List DV → Option FSpec
  | [.int .i64 r, .int .i64 c] => some ⟨1 ≤ r ∧ r ≤ 1000 ∧ 1 ≤ c ∧ c ≤ 1000, fun n => (.own n 0 (r.toNat * c.toNat), [some (.arr 3 (ceRows (blankG r.toNat c.toNat)))])⟩
  | _ => none
theorem F_gBlank_1 (r c : Int) : F_gBlank [.int .i64 r, .int .i64 c] = some ⟨1 ≤ r ∧ r ≤ 1000 ∧ 1 ≤ c ∧ c ≤ 1000, fun n => (.own n 0 (r.toNat * c.toNat), [some (.arr 3 (ceRows (blankG r.toNat c.toNat)))])⟩ := nrfl _
theorem gBlank_ok (args : List DV) (s : FSpec) (hs : F_gBlank args = some s) (hp : s.pre) : PCalls PG 17 args fun n r os => r = (s.res n).1 ∧ os = (s.res n).2 := by
  unfold F_gBlank at hs
  split at hs
  · rename_i r c
    obtain rfl := sj hs
    obtain ⟨h1, h2, h3, h4⟩ := hp
    have := gBlank_P (rows := r.toNat) (cols := c.toNat) (by omega) (by omega)
    rwa [Int.toNat_of_nonneg (by omega), Int.toNat_of_nonneg (by omega)] at this
  · cases hs
def TH10 : FL := [(17, .o F_gBlank)]
theorem TH10_ok : FOk PG (tab TH10) := FOk.cons FOk.nil gBlank_ok
theorem TH10_at (args : List DV) : tab TH10 17 args = (F_gBlank args).map .o := nrfl _
theorem TH10_n58 (args : List DV) : tab TH10 58 args = none := nrfl _
def otherF (on : Bool) (s : Sc) : Sc :=
  if on = true ∧ s.alt = false then { s with other := s.cells, oy := s.y, ox := s.x, alt := true, wrap := false, cells := blankG s.rows s.cols }
  else if on = false ∧ s.alt = true then { s with cells := s.other, y := s.oy, x := s.ox, alt := false, wrap := false, other := [], oy := 0, ox := 0 }
  else s
theorem tother_on {T0 T : Objs} {o : Nat} {s : Sc} {p : Pa} {K : DV → Objs → Prop} (ha : s.alt = false) (ok : ScOk s) (h : TermAt T0 T o s p) (hK : ∀ T', T.length ≤ T'.length → TermAt T0 T' o { s with other := s.cells, oy := s.y, ox := s.x, alt := true, wrap := false, cells := blankG s.rows s.cols } p → K (.tup []) T') :
    CallK PG 67 [.ptr o 0 0, .bool true] T K := by
  obtain ⟨k0, q, tq, od, m, pr, d1, d2, d3, pa, t⟩ := id h
  have hb := t.box
  unfold tmBox at hb
  rw [ha] at hb
  have hr := ok.g.r
  have hc := ok.g.c
  refine CallK.of_fn TH10_ok rc_tother_ok (by simp [rc_tother]) ?_
  unfold rc_tother
  dsimp only
  have r1 : 1 ≤ (s.rows : Int) ∧ (s.rows : Int) ≤ 1000 ∧ 1 ≤ (s.cols : Int) ∧ (s.cols : Int) ≤ 1000 := by omega
  simp -implicitDefEqProofs -dsimp only [tb_at, tb_all hb, TH10_at, F_gBlank_1, r1, Int.toNat_natCast, List.set_set, vcS, ↓vcP1, ↓vcP2, ↓reduceIte, reduceCtorEq, Nat.reduceLT, Nat.reduceLeDiff, Nat.reduceEqDiff, Nat.reduceAdd, Nat.reduceSub, Nat.reduceMul, Int.reduceLT, Int.reduceLE, Int.reduceEq, Int.reduceToNat, Int.reduceAdd, Int.reduceSub, Int.reduceNeg, List.reduceReplicate, Nat.reducePow, Int.reduceMul]
  have lo := tb_lt t.box
  have lc := tb_lt t.cells
  have lt := tb_lt t.tabs
  have l0 := k0.1
  have tt : TmAt T0 (T.set o (some (.box (tmBox { s with other := s.cells, oy := s.y, ox := s.x, alt := true, wrap := false, cells := blankG s.rows s.cols } T.length tq (.own q 0 s.cells.length) m pr d1 d2 d3))) ++ [some (.arr 3 (ceRows (blankG s.rows s.cols)))]) o T.length tq { s with other := s.cells, oy := s.y, ox := s.x, alt := true, wrap := false, cells := blankG s.rows s.cols } (.own q 0 s.cells.length) m pr d1 d2 d3 :=
    ⟨tb_ssl t.box _ _, tb_sget0 _ _ _ _ _, tb_f (tb_ne t.tabs _ t.ot.symm) _, .inl ⟨q, rfl, tb_f (tb_ne t.cells _ t.oq.symm) _, t.oq.symm, by omega, t.qt, t.nq⟩, by omega, t.ot, by omega, t.no, Dd.ge (by omega), t.nt⟩
  have e : (blankG s.rows s.cols).length = s.rows * s.cols := by simp [blankG]
  have fin := hK _ (by simp) (.mk ((k0.put t.no _).newApp _) pa tt)
  unfold tmBox at fin
  dsimp only at fin
  rw [e] at fin
  exact ⟨by simp, fin⟩
theorem tother_off {T0 T : Objs} {o : Nat} {s : Sc} {p : Pa} {K : DV → Objs → Prop} (ha : s.alt = true) (ok : ScOk s) (h : TermAt T0 T o s p) (hK : ∀ T', T.length ≤ T'.length → TermAt T0 T' o { s with cells := s.other, y := s.oy, x := s.ox, alt := false, wrap := false, other := [], oy := 0, ox := 0 } p → K (.tup []) T') :
    CallK PG 67 [.ptr o 0 0, .bool false] T K := by
  obtain ⟨k0, q, tq, od, m, pr, d1, d2, d3, pa, t⟩ := id h
  rcases t.oth with ⟨oq, rfl, hoq, n1, n2, n3, n4⟩ | ⟨h0, _⟩
  rotate_left
  · rw [ha] at h0; cases h0
  have hb := t.box
  unfold tmBox at hb
  rw [ha] at hb
  have hr := ok.g.r
  have hc := ok.g.c
  refine CallK.of_fn TH10_ok rc_tother_ok (by simp [rc_tother]) ?_
  unfold rc_tother
  dsimp only
  simp -implicitDefEqProofs -dsimp only [tb_at, tb_all hb, TH10_at, TH10_n58, F_gBlank_1, List.set_set, vcS, ↓vcP1, ↓vcP2, ↓reduceIte, reduceCtorEq, Nat.reduceLT, Nat.reduceLeDiff, Nat.reduceEqDiff, Nat.reduceAdd, Nat.reduceSub, Nat.reduceMul, Int.reduceLT, Int.reduceLE, Int.reduceEq, Int.reduceToNat, Int.reduceAdd, Int.reduceSub, Int.reduceNeg, List.reduceReplicate, Nat.reducePow, Int.reduceMul]
  have hb1 : (T.set o (some (.box (tmBox { s with cells := s.other } oq tq (.sl 0 [] .nil) m pr d1 d2 d3))))[o]? = some (some (.box (tmBox { s with cells := s.other } oq tq (.sl 0 [] .nil) m pr d1 d2 d3))) := tb_ss t.box _
  have hb0 := hb1
  unfold tmBox at hb0
  simp only [ha] at hb0
  have hoy := ok.oy
  have hox := ok.ox
  have ey : min (s.oy : Int).toNat (s.rows - 1) = s.oy := by omega
  have ex : min (s.ox : Int).toNat (s.cols - 1) = s.ox := by omega
  refine tto_B (s := { s with cells := s.other, alt := true }) (q := oq) (tq := tq) (od := .sl 0 [] .nil) (m := m) (pr := pr) (d1 := d1) (d2 := d2) (d3 := d3) hr hc (tb_ss t.box _) ?_
  rw [List.set_set]
  have hb2 : (T.set o (some (.box (tmBox (toP { s with cells := s.other, alt := true } s.oy s.ox) oq tq (.sl 0 [] .nil) m pr d1 d2 d3))))[o]? = some (some (.box (tmBox (toP { s with cells := s.other, alt := true } s.oy s.ox) oq tq (.sl 0 [] .nil) m pr d1 d2 d3))) := tb_ss t.box _
  unfold tmBox toP at hb2 ⊢
  simp only [ey, ex] at hb2 ⊢
  simp -implicitDefEqProofs -dsimp only [tb_at, tb_all hb2, tb_ss t.box, List.set_set, vcS, ↓vcP1, ↓vcP2, ↓reduceIte, reduceCtorEq, Nat.reduceLT, Nat.reduceLeDiff, Nat.reduceEqDiff, Nat.reduceAdd, Nat.reduceSub, Nat.reduceMul, Int.reduceLT, Int.reduceLE, Int.reduceEq, Int.reduceToNat, Int.reduceAdd, Int.reduceSub, Int.reduceNeg, List.reduceReplicate, Nat.reducePow, Int.reduceMul]
  have lo := tb_lt t.box
  have l0 := k0.1
  have tt : TmAt T0 (T.set o (some (.box (tmBox { s with cells := s.other, y := s.oy, x := s.ox, alt := false, wrap := false, other := [], oy := 0, ox := 0 } oq tq (.sl 0 [] .nil) m pr d1 d2 d3)))) o oq tq { s with cells := s.other, y := s.oy, x := s.ox, alt := false, wrap := false, other := [], oy := 0, ox := 0 } (.sl 0 [] .nil) m pr d1 d2 d3 :=
    ⟨tb_ss t.box _, tb_ne hoq _ n1, tb_ne t.tabs _ t.ot.symm, .inr ⟨rfl, 0, .nil, rfl⟩, n1.symm, t.ot, n3, t.no, n4, t.nt⟩
  exact ⟨by simp, hK _ (by simp) (.mk (k0.put t.no _) pa tt)⟩
theorem tother_K {T0 T : Objs} {o : Nat} {s : Sc} {p : Pa} {on : Bool} {K : DV → Objs → Prop} (ok : ScOk s) (h : TermAt T0 T o s p) (hK : ∀ T', T.length ≤ T'.length → TermAt T0 T' o (otherF on s) p → K (.tup []) T') : CallK PG 67 [.ptr o 0 0, .bool on] T K := by
  have same : ∀ b : Bool, s.alt = b → K (.tup []) T → CallK PG 67 [.ptr o 0 0, .bool b] T K := fun b hab hk => by
    obtain ⟨k0, q, tq, od, m, pr, d1, d2, d3, pa, t⟩ := id h
    have hb := t.box
    unfold tmBox at hb
    rw [hab] at hb
    cases b
    all_goals
      refine CallK.of_fn TH10_ok rc_tother_ok (by simp [rc_tother]) ?_
      unfold rc_tother
      dsimp only
      simp -implicitDefEqProofs -dsimp only [tb_at, tb_all hb, vcS, ↓vcP1, ↓vcP2, ↓reduceIte, reduceCtorEq, Nat.reduceLT, Nat.reduceLeDiff, Nat.reduceEqDiff, Nat.reduceAdd, Nat.reduceSub, Nat.reduceMul, Int.reduceLT, Int.reduceLE, Int.reduceEq, Int.reduceToNat, Int.reduceAdd, Int.reduceSub, Int.reduceNeg, List.reduceReplicate, Nat.reducePow, Int.reduceMul]
      exact hk
  cases ha : s.alt with
  | false => cases on with
    | true => exact tother_on ha ok h (by unfold otherF at hK; rw [if_pos ⟨rfl, ha⟩] at hK; exact hK)
    | false => exact same false ha (hK _ (Nat.le_refl _) (by unfold otherF; rw [if_neg (by simp), if_neg (by simp [ha])]; exact h))
  | true => cases on with
    | true => exact same true ha (hK _ (Nat.le_refl _) (by unfold otherF; rw [if_neg (by simp [ha]), if_neg (by simp)]; exact h))
    | false => exact tother_off ha ok h (by unfold otherF at hK; rw [if_neg (by simp), if_pos ⟨rfl, ha⟩] at hK; exact hK)
noncomputable def rc_tmodes_l0 : RC := (.seq (.reg [⟨some 22, .bin .lss (.t 21) (.t 20), none, false⟩] 0 [0, 4, 19, 20, 21, 22]) (.seq (.cond (.t 22) .skip (.ext 0)) (.seq (.blk 1 (.seq (.reg [⟨some 23, .iaddr 1 (.t 19) (.t 21), none, false⟩, ⟨some 24, .load false 1 (.t 23), none, false⟩, ⟨some 6, .mov (.t 24), none, false⟩] 0 [0, 4, 6, 19, 20, 21]) (.seq (.reg [⟨some 25, .mov (.t 6), none, false⟩] 0 [0, 4, 19, 20, 21, 25]) (.blk 2 (.seq (.reg [⟨some 27, .bin .eql (.t 25) (.c (.int .i64 7)), none, false⟩, ⟨some 26, .mov (.t 27), none, false⟩] 0 [0, 4, 19, 20, 21, 25, 26]) (.cond (.t 26) (.reg [⟨some 28, .mov (.t 0), none, false⟩, ⟨some 29, .mov (.t 4), none, false⟩, ⟨some 30, .nilck (.t 28), none, false⟩, ⟨some 31, .faddr 0 (.t 30), none, false⟩, ⟨some 32, .faddr 13 (.t 31), none, false⟩, ⟨none, .store 1 (.t 32) (.t 29), none, false⟩] 0 [0, 4, 19, 20, 21]) (.seq (.reg [⟨some 34, .bin .eql (.t 25) (.c (.int .i64 25)), none, false⟩, ⟨some 33, .mov (.t 34), none, false⟩] 0 [0, 4, 19, 20, 21, 25, 33]) (.cond (.t 33) (.reg [⟨some 35, .mov (.t 0), none, false⟩, ⟨some 36, .mov (.t 4), none, false⟩, ⟨some 37, .nilck (.t 35), none, false⟩, ⟨some 38, .faddr 0 (.t 37), none, false⟩, ⟨some 39, .faddr 14 (.t 38), none, false⟩, ⟨none, .store 1 (.t 39) (.t 36), none, false⟩] 0 [0, 4, 19, 20, 21]) (.seq (.reg [⟨some 41, .bin .eql (.t 25) (.c (.int .i64 1049)), none, false⟩, ⟨some 40, .mov (.t 41), none, false⟩] 0 [0, 4, 19, 20, 21, 40]) (.cond (.t 40) (.reg [⟨some 42, .mov (.t 0), none, false⟩, ⟨some 43, .mov (.t 4), none, false⟩, ⟨some 44, .call 67 [.t 42, .t 43], none, false⟩] 0 [0, 4, 19, 20, 21]) .skip)))))))))) (.reg [⟨some 45, .bin .add (.t 21) (.c (.int .i64 1)), none, false⟩, ⟨some 21, .mov (.t 45), none, false⟩] 0 [0, 4, 19, 20, 21]))))
noncomputable def rc_tmodes : RFn := ⟨2, 46, .seq (.reg [⟨some 3, .box 6 (.t 1), none, false⟩] 0 [0, 3]) (.seq (.seq (.reg [⟨some 7, .faddr 2 (.t 3), none, false⟩, ⟨some 8, .load false 1 (.t 7), none, false⟩, ⟨some 9, .bin .neq (.t 8) (.c (.int .u8 104)), none, false⟩, ⟨some 10, .mov (.t 9), none, false⟩, ⟨some 11, .faddr 2 (.t 3), some (10, true), false⟩, ⟨some 12, .load false 1 (.t 11), some (10, true), false⟩, ⟨some 13, .bin .neq (.t 12) (.c (.int .u8 108)), some (10, true), false⟩, ⟨some 14, .pick (.t 10) (.t 13) (.c (.bool false)), none, false⟩] 0 [0, 3, 14]) (.cond (.t 14) .ret .skip)) (.seq (.reg [⟨some 15, .faddr 2 (.t 3), none, false⟩, ⟨some 16, .load false 1 (.t 15), none, false⟩, ⟨some 17, .bin .eql (.t 16) (.c (.int .u8 104)), none, false⟩, ⟨some 4, .mov (.t 17), none, false⟩] 0 [0, 3, 4]) (.seq (.reg [⟨some 18, .faddr 4 (.t 3), none, false⟩, ⟨some 19, .load false 1 (.t 18), none, false⟩, ⟨some 20, .len (.t 19), none, false⟩, ⟨some 21, .mov (.c (.int .i64 0)), none, false⟩] 0 [0, 4, 19, 20, 21]) (.blk 0 (.loop rc_tmodes_l0))))), []⟩
theorem rc_tmodes_ok : compFn PG.P [⟨0, 0, [0, 3], []⟩, ⟨1, 0, [0, 3, 14], []⟩, ⟨2, 0, [0, 3, 4], []⟩, ⟨3, 0, [0, 4, 19, 20, 21], []⟩, ⟨4, 0, [0, 4, 19, 20, 21, 22], []⟩, ⟨5, 0, [0, 4, 6, 19, 20, 21], []⟩, ⟨6, 0, [0, 4, 19, 20, 21, 25], []⟩, ⟨7, 0, [0, 4, 19, 20, 21, 25, 26], []⟩, ⟨8, 0, [0, 4, 19, 20, 21], []⟩, ⟨9, 0, [0, 4, 19, 20, 21, 25, 33], []⟩, ⟨10, 0, [0, 4, 19, 20, 21], []⟩, ⟨11, 0, [0, 4, 19, 20, 21, 40], []⟩, ⟨12, 0, [0, 4, 19, 20, 21], []⟩, ⟨13, 0, [0, 4, 19, 20, 21], []⟩] 35 = some rc_tmodes := by kernel_rfl
noncomputable def rc_rpar : RFn := ⟨2, 15, .seq (.reg [⟨some 2, .box 6 (.t 0), none, false⟩, ⟨some 4, .mov (.c (.int .i64 0)), none, false⟩] 0 [1, 2]) (.seq (.seq (.reg [⟨some 5, .mov (.t 1), none, false⟩, ⟨some 6, .faddr 4 (.t 2), none, false⟩, ⟨some 7, .load false 1 (.t 6), none, false⟩, ⟨some 8, .len (.t 7), none, false⟩, ⟨some 9, .bin .lss (.t 5) (.t 8), none, false⟩] 0 [1, 2, 9]) (.cond (.t 9) (.seq (.reg [⟨some 10, .faddr 4 (.t 2), none, false⟩, ⟨some 11, .load false 1 (.t 10), none, false⟩, ⟨some 12, .mov (.t 1), none, false⟩, ⟨some 13, .iaddr 1 (.t 11) (.t 12), none, false⟩, ⟨some 14, .load false 1 (.t 13), none, false⟩, ⟨some 4, .mov (.t 14), none, false⟩] 0 [4]) .ret) .skip)) (.seq (.reg [⟨some 4, .mov (.c (.int .i64 0)), none, false⟩] 0 [4]) .ret)), [.t 4]⟩
theorem rc_rpar_ok : compFn PG.P [⟨0, 0, [1, 2], []⟩, ⟨1, 0, [1, 2, 9], []⟩, ⟨2, 0, [4], []⟩, ⟨3, 0, [4], []⟩] 57 = some rc_rpar := by kernel_rfl
theorem modeF_other (on : Bool) (s : Sc) : modeF on s 1049 = otherF on s := by
  unfold modeF otherF
  rw [if_neg (by decide), if_neg (by decide)]
  by_cases h1 : on = true ∧ s.alt = false
  · rw [if_pos ⟨rfl, h1.1, h1.2⟩, if_pos h1]
  · rw [if_neg (fun h => h1 h.2), if_neg h1]
    by_cases h2 : on = false ∧ s.alt = true
    · rw [if_pos ⟨rfl, h2.1, h2.2⟩, if_pos h2]
    · rw [if_neg (fun h => h2 h.2), if_neg h2]
theorem modes_ok {on : Bool} : ∀ {ps : List Int} {s : Sc}, ScOk s → ScOk (ps.foldl (modeF on) s)
  | [], s, h => h
  | k :: ps, s, h => modes_ok (ps := ps) (modeF_ok h k)
theorem modes_step {on : Bool} {ps : List Int} {s : Sc} {i : Nat} (hi : i < ps.length) : (ps.take (i + 1)).foldl (modeF on) s = modeF on ((ps.take i).foldl (modeF on) s) (ps.getD i 0) := by
  rw [List.take_succ_eq_append_getElem hi, List.foldl_append]
  simp [List.getD_eq_getElem?_getD, hi]
theorem tmodes_l0 {T0 T : Objs} {o : Nat} {s : Sc} {p : Pa} {sz : Nat} {sk : SK} {ps : List Int} {on : Bool} {K : Objs → Prop} {Q : Exit → St → Prop} (hs : sz = 1 ∨ ps = []) (hl : ps.length ≤ 1000000) (ok : ScOk s) (h : TermAt T0 T o s p)
    (hK : ∀ T', T.length ≤ T'.length → TermAt T0 T' o (ps.foldl (modeF on) s) p → K T') (hQ : ∀ env T', K T' → Q .normal ⟨env, T'⟩) :
    LoopWp PG 46 rc_tmodes_l0 (inBlk 0 Q) ⟨[(0, .ptr o 0 0), (4, .bool on), (19, .sl sz (intRows .i64 ps) sk), (20, .int .i64 ps.length), (21, .int .i64 0)], T⟩ := by
  refine LoopWp.inv FOk.nil (S := fun σ : Nat × Objs => ⟨[(0, .ptr o 0 0), (4, .bool on), (19, .sl sz (intRows .i64 ps) sk), (20, .int .i64 ps.length), (21, .int .i64 σ.1)], σ.2⟩)
    (I := fun σ => σ.1 ≤ ps.length ∧ T.length ≤ σ.2.length ∧ TermAt T0 σ.2 o ((ps.take σ.1).foldl (modeF on) s) p) (μ := fun σ => ps.length - σ.1) (0, T) ⟨by simp, Nat.le_refl _, h⟩ ?_ ?_
  · simp -implicitDefEqProofs -dsimp only [wkT_self, vcS, ↓vcP1, ↓vcP2, ↓reduceIte, reduceCtorEq, Nat.reduceLT, Nat.reduceLeDiff, Nat.reduceEqDiff, Nat.reduceAdd, Nat.reduceSub, Nat.reduceMul, Int.reduceLT, Int.reduceLE, Int.reduceEq, Int.reduceToNat, Int.reduceAdd, Int.reduceSub, Int.reduceNeg, List.reduceReplicate, Nat.reducePow, Int.reduceMul]
  · intro ⟨i, A⟩ ⟨h1, h2, h4⟩
    dsimp only at h1 h2 h4 ⊢
    have oki := modes_ok (on := on) (ps := ps.take i) ok
    have hst := fun hi => modes_step (on := on) (s := s) (i := i) (ps := ps) hi
    have hfin : ps.length ≤ i → (ps.take i).foldl (modeF on) s = ps.foldl (modeF on) s := fun hh => by rw [List.take_of_length_le hh]
    generalize (ps.take i).foldl (modeF on) s = a at *
    obtain ⟨k1, q1, tq1, od1, m1, pr1, f1, f2, f3, pa1, t1⟩ := id h4
    have hb1 := t1.box
    unfold tmBox at hb1
    have w1 : IntKind.i64.wrap ((i : Int) + 1) = ((i + 1 : Nat) : Int) := by rw [wI64 (by omega) (by omega)]; omega
    rcases Nat.lt_or_ge i ps.length with hlt | hge
    · have hii : (i : Int) < ps.length := by omega
      have i0 : (0 : Int) ≤ i := by omega
      have hsz : sz = 1 := by rcases hs with h | h; exact h; subst h; simp at hlt
      subst hsz
      have hg : (intRows .i64 ps)[i]? = some [.int .i64 (ps.getD i 0)] := by simp [intRows, hlt]
      have hlr : (intRows .i64 ps).length = ps.length := by simp [intRows]
      have hst := hst hlt
      generalize ps.getD i 0 = k at *
      have done : ∀ {A' : Objs}, A.length ≤ A'.length → TermAt T0 A' o (modeF on a k) p →
          ∃ s' : Nat × Objs, (((i + 1 : Nat) : Int) = (s'.1 : Int) ∧ objsWk A' s'.2) ∧ (s'.1 ≤ ps.length ∧ T.length ≤ s'.2.length ∧ TermAt T0 s'.2 o ((ps.take s'.1).foldl (modeF on) s) p) ∧ ps.length - s'.1 < ps.length - i := fun hl ht =>
        ⟨(i + 1, _), ⟨rfl, objsWk_refl _⟩, ⟨hlt, Nat.le_trans h2 hl, by dsimp only; rw [hst]; exact ht⟩, by dsimp only; omega⟩
      unfold rc_tmodes_l0
      rcases Decidable.em (k = 7) with rfl | n7
      · simp -implicitDefEqProofs -dsimp only [tb_at, tb_all hb1, hii, i0, hg, hlr, w1, wkT_self, vcS, ↓vcP1, ↓vcP2, ↓reduceIte, reduceCtorEq, Nat.reduceLT, Nat.reduceLeDiff, Nat.reduceEqDiff, Nat.reduceAdd, Nat.reduceSub, Nat.reduceMul, Int.reduceLT, Int.reduceLE, Int.reduceEq, Int.reduceToNat, Int.reduceAdd, Int.reduceSub, Int.reduceNeg, List.reduceReplicate, Nat.reducePow, Int.reduceMul]
        exact done (A' := A.set o (some (.box (tmBox { a with auto := on } q1 tq1 od1 m1 pr1 f1 f2 f3)))) (by simp) (.mk (k1.put t1.no _) pa1 (t1.put rfl rfl rfl rfl rfl))
      · rcases Decidable.em (k = 25) with rfl | n25
        · simp -implicitDefEqProofs -dsimp only [tb_at, tb_all hb1, hii, i0, hg, hlr, w1, wkT_self, vcS, ↓vcP1, ↓vcP2, ↓reduceIte, reduceCtorEq, Nat.reduceLT, Nat.reduceLeDiff, Nat.reduceEqDiff, Nat.reduceAdd, Nat.reduceSub, Nat.reduceMul, Int.reduceLT, Int.reduceLE, Int.reduceEq, Int.reduceToNat, Int.reduceAdd, Int.reduceSub, Int.reduceNeg, List.reduceReplicate, Nat.reducePow, Int.reduceMul]
          exact done (A' := A.set o (some (.box (tmBox { a with shown := on } q1 tq1 od1 m1 pr1 f1 f2 f3)))) (by simp) (.mk (k1.put t1.no _) pa1 (t1.put rfl rfl rfl rfl rfl))
        · rcases Decidable.em (k = 1049) with rfl | n9
          · simp -implicitDefEqProofs -dsimp only [tb_at, tb_all hb1, hii, i0, hg, hlr, w1, wkT_self, vcS, ↓vcP1, ↓vcP2, ↓reduceIte, reduceCtorEq, Nat.reduceLT, Nat.reduceLeDiff, Nat.reduceEqDiff, Nat.reduceAdd, Nat.reduceSub, Nat.reduceMul, Int.reduceLT, Int.reduceLE, Int.reduceEq, Int.reduceToNat, Int.reduceAdd, Int.reduceSub, Int.reduceNeg, List.reduceReplicate, Nat.reducePow, Int.reduceMul]
            refine tother_K oki h4 fun T' l t' => ?_
            simp -implicitDefEqProofs -dsimp only [tb_at, w1, wkT_self, vcS, ↓vcP1, ↓vcP2, ↓reduceIte, reduceCtorEq, Nat.reduceLT, Nat.reduceLeDiff, Nat.reduceEqDiff, Nat.reduceAdd, Nat.reduceSub, Nat.reduceMul, Int.reduceLT, Int.reduceLE, Int.reduceEq, Int.reduceToNat, Int.reduceAdd, Int.reduceSub, Int.reduceNeg, List.reduceReplicate, Nat.reducePow, Int.reduceMul]
            exact done l (by rw [modeF_other]; exact t')
          · have e : modeF on a k = a := by unfold modeF; rw [if_neg n7, if_neg n25, if_neg (fun h => n9 h.1), if_neg (fun h => n9 h.1)]
            simp -implicitDefEqProofs -dsimp only [tb_at, tb_all hb1, hii, i0, hg, hlr, w1, eq_false n7, eq_false n25, eq_false n9, wkT_self, vcS, ↓vcP1, ↓vcP2, ↓reduceIte, reduceCtorEq, Nat.reduceLT, Nat.reduceLeDiff, Nat.reduceEqDiff, Nat.reduceAdd, Nat.reduceSub, Nat.reduceMul, Int.reduceLT, Int.reduceLE, Int.reduceEq, Int.reduceToNat, Int.reduceAdd, Int.reduceSub, Int.reduceNeg, List.reduceReplicate, Nat.reducePow, Int.reduceMul]
            exact done (Nat.le_refl _) (by rw [e]; exact h4)
    · have hii : ¬ (i : Int) < ps.length := by omega
      obtain rfl : i = ps.length := by omega
      unfold rc_tmodes_l0
      simp -implicitDefEqProofs -dsimp only [tb_at, hii, wkT_self, vcS, ↓vcP1, ↓vcP2, ↓reduceIte, reduceCtorEq, Nat.reduceLT, Nat.reduceLeDiff, Nat.reduceEqDiff, Nat.reduceAdd, Nat.reduceSub, Nat.reduceMul, Int.reduceLT, Int.reduceLE, Int.reduceEq, Int.reduceToNat, Int.reduceAdd, Int.reduceSub, Int.reduceNeg, List.reduceReplicate, Nat.reducePow, Int.reduceMul]
      rw [hfin (Nat.le_refl _)] at h4
      exact hQ _ _ (hK _ h2 h4)
def acD (k r b p : Int) (d1 d2 : DV) : DV := .agg [.int .i64 k, .int .i32 r, .int .u8 b, .int .u8 p, d1, d2]
theorem tmodes_K {T0 T : Objs} {o : Nat} {s : Sc} {p : Pa} {sz : Nat} {sk : SK} {ps : List Int} {ka r b pv : Int} {d2 : DV} {K : DV → Objs → Prop} (hs : sz = 1 ∨ ps = []) (hl : ps.length ≤ 1000000) (hd2 : DV.one d2 = true) (ok : ScOk s) (h : TermAt T0 T o s p)
    (hK : ∀ T', T.length ≤ T'.length → TermAt T0 T' o (if b = 104 ∨ b = 108 then ps.foldl (modeF (decide (b = 104))) s else s) p → K (.tup []) T') : CallK PG 35 [.ptr o 0 0, acD ka r b pv (.sl sz (intRows .i64 ps) sk) d2] T K := by
  unfold acD
  rcases Decidable.em (b = 104) with rfl | b1
  · refine CallK.of_fn FOk.nil rc_tmodes_ok (by simp [rc_tmodes]) ?_
    unfold rc_tmodes
    dsimp only
    rw [if_pos (.inl rfl)] at hK
    simp -implicitDefEqProofs -dsimp only [tb_at, hd2, vcS, ↓vcP1, ↓vcP2, ↓reduceIte, reduceCtorEq, Nat.reduceLT, Nat.reduceLeDiff, Nat.reduceEqDiff, Nat.reduceAdd, Nat.reduceSub, Nat.reduceMul, Int.reduceLT, Int.reduceLE, Int.reduceEq, Int.reduceToNat, Int.reduceAdd, Int.reduceSub, Int.reduceNeg, List.reduceReplicate, Nat.reducePow, Int.reduceMul]
    refine tmodes_l0 (T := T ++ [_]) (K := fun T' => T.length ≤ T'.length ∧ K (.tup []) T') hs hl ok (h.keep (Keep.app _ _ _)) (fun T' l t' => ⟨by simp at l; omega, hK T' (by simp at l; omega) t'⟩) ?_
    exact fun _ _ h => h
  · rcases Decidable.em (b = 108) with rfl | b2
    · refine CallK.of_fn FOk.nil rc_tmodes_ok (by simp [rc_tmodes]) ?_
      unfold rc_tmodes
      dsimp only
      rw [if_pos (.inr rfl)] at hK
      simp -implicitDefEqProofs -dsimp only [tb_at, hd2, vcS, ↓vcP1, ↓vcP2, ↓reduceIte, reduceCtorEq, Nat.reduceLT, Nat.reduceLeDiff, Nat.reduceEqDiff, Nat.reduceAdd, Nat.reduceSub, Nat.reduceMul, Int.reduceLT, Int.reduceLE, Int.reduceEq, Int.reduceToNat, Int.reduceAdd, Int.reduceSub, Int.reduceNeg, List.reduceReplicate, Nat.reducePow, Int.reduceMul]
      refine tmodes_l0 (T := T ++ [_]) (K := fun T' => T.length ≤ T'.length ∧ K (.tup []) T') hs hl ok (h.keep (Keep.app _ _ _)) (fun T' l t' => ⟨by simp at l; omega, hK T' (by simp at l; omega) t'⟩) ?_
      exact fun _ _ h => h
    · refine CallK.of_fn FOk.nil rc_tmodes_ok (by simp [rc_tmodes]) ?_
      unfold rc_tmodes
      dsimp only
      rw [if_neg (by omega)] at hK
      simp -implicitDefEqProofs -dsimp only [tb_at, hd2, eq_false b1, eq_false b2, vcS, ↓vcP1, ↓vcP2, ↓reduceIte, reduceCtorEq, Nat.reduceLT, Nat.reduceLeDiff, Nat.reduceEqDiff, Nat.reduceAdd, Nat.reduceSub, Nat.reduceMul, Int.reduceLT, Int.reduceLE, Int.reduceEq, Int.reduceToNat, Int.reduceAdd, Int.reduceSub, Int.reduceNeg, List.reduceReplicate, Nat.reducePow, Int.reduceMul]
      exact hK _ (by simp) (h.keep (Keep.app _ _ _))
theorem rpar_P {ka r b pv i : Int} {d1 d2 : DV} (h1 : isInts .i64 d1) (hl : (intsD d1).length ≤ 1000000) (hd2 : DV.one d2 = true) (hi : 0 ≤ i) : PCalls PG 57 [acD ka r b pv d1 d2, .int .i64 i] fun n rr os => rr = .int .i64 (parN (intsD d1) i.toNat) ∧ os = [] := by
  obtain ⟨sz, sk, e1, h2, h3⟩ := isInts_inv h1
  rw [e1]
  simp only [intsD_sl]
  generalize intsD d1 = ps at *
  unfold acD
  have hlr : (intRows .i64 ps).length = ps.length := by simp [intRows]
  rcases Nat.lt_or_ge i.toNat ps.length with hlt | hge
  · have hii : i < ps.length := by omega
    have hg : (intRows .i64 ps)[i.toNat]? = some [.int .i64 (parN ps i.toNat)] := by simp [intRows, hlt, parN]
    have hsz : sz = 1 := by rcases h2 with h | h; exact h; subst h; simp at hlt
    subst hsz
    refine PCalls.by_fn (res := fun n => (.int .i64 (parN ps i.toNat), [])) FOk.nil rc_rpar_ok (by simp [rc_rpar]) fun n => ?_
    unfold rc_rpar
    dsimp only
    simp -implicitDefEqProofs -dsimp only [tb_at, hd2, hii, hi, hg, hlr, vcS, ↓vcP1, ↓vcP2, ↓reduceIte, reduceCtorEq, Nat.reduceLT, Nat.reduceLeDiff, Nat.reduceEqDiff, Nat.reduceAdd, Nat.reduceSub, Nat.reduceMul, Int.reduceLT, Int.reduceLE, Int.reduceEq, Int.reduceToNat, Int.reduceAdd, Int.reduceSub, Int.reduceNeg, List.reduceReplicate, Nat.reducePow, Int.reduceMul]
  · have hii : ¬ i < ps.length := by omega
    have e0 : parN ps i.toNat = 0 := by simp [parN, List.getD_eq_getElem?_getD, List.getElem?_eq_none hge]
    refine PCalls.by_fn (res := fun n => (.int .i64 (parN ps i.toNat), [])) FOk.nil rc_rpar_ok (by simp [rc_rpar]) fun n => ?_
    unfold rc_rpar
    dsimp only
    simp -implicitDefEqProofs -dsimp only [tb_at, hd2, hii, hi, hlr, e0, vcS, ↓vcP1, ↓vcP2, ↓reduceIte, reduceCtorEq, Nat.reduceLT, Nat.reduceLeDiff, Nat.reduceEqDiff, Nat.reduceAdd, Nat.reduceSub, Nat.reduceMul, Int.reduceLT, Int.reduceLE, Int.reduceEq, Int.reduceToNat, Int.reduceAdd, Int.reduceSub, Int.reduceNeg, List.reduceReplicate, Nat.reducePow, Int.reduceMul]
def F_rpar : List DV → Option FSpec
  | [.agg [.int .i64 ka, .int .i32 r, .int .u8 b, .int .u8 pv, d1, d2], .int .i64 i] => some ⟨isInts .i64 d1 ∧ (intsD d1).length ≤ 1000000 ∧ DV.one d2 = true ∧ 0 ≤ i, fun n => (.int .i64 (parN (intsD d1) i.toNat), [])⟩
  | _ => none
theorem F_rpar_1 (ka r b pv i : Int) (d1 d2 : DV) : F_rpar [.agg [.int .i64 ka, .int .i32 r, .int .u8 b, .int .u8 pv, d1, d2], .int .i64 i] = some ⟨isInts .i64 d1 ∧ (intsD d1).length ≤ 1000000 ∧ DV.one d2 = true ∧ 0 ≤ i, fun n => (.int .i64 (parN (intsD d1) i.toNat), [])⟩ := nrfl _
theorem rpar_ok (args : List DV) (s : FSpec) (hs : F_rpar args = some s) (hp : s.pre) : PCalls PG 57 args fun n r os => r = (s.res n).1 ∧ os = (s.res n).2 := by
  unfold F_rpar at hs
  split at hs
  · obtain rfl := sj hs
    obtain ⟨h1, h2, h3, h4⟩ := hp
    exact rpar_P h1 h2 h3 h4
  · cases hs
def TH11 : FL := [(57, .o F_rpar)]
theorem TH11_ok : FOk PG (tab TH11) := FOk.cons FOk.nil rpar_ok
theorem TH11_at (args : List DV) : tab TH11 57 args = (F_rpar args).map .o := nrfl _
theorem csi_rows {s : Sc} {b : Int} {ps : List Int} (hb : b = 76 ∨ b = 77 ∨ b = 83 ∨ b = 84) : csiF s b ps = { rowsF s b (max (parN ps 0) 1) with wrap := false } := by
  rcases hb with rfl | rfl | rfl | rfl
  · have e1 : csiF s 76 ps = if s.top ≤ s.y ∧ s.y ≤ s.bot then { s with wrap := false, x := 0, cells := dnF s.cells s.cols s.y s.bot (max (parN ps 0) 1) } else { s with wrap := false } := rfl
    have e2 : rowsF s 76 (max (parN ps 0) 1) = if s.y < s.top ∨ s.bot < s.y then s else { s with cells := dnF s.cells s.cols s.y s.bot (max (parN ps 0) 1), x := 0 } := rfl
    rw [e1, e2]
    by_cases h : s.y < s.top ∨ s.bot < s.y
    · rw [if_pos h, if_neg (by omega)]
    · rw [if_neg h, if_pos (by omega)]
  · have e1 : csiF s 77 ps = if s.top ≤ s.y ∧ s.y ≤ s.bot then { s with wrap := false, x := 0, cells := upF s.cells s.cols s.y s.bot (max (parN ps 0) 1) } else { s with wrap := false } := rfl
    have e2 : rowsF s 77 (max (parN ps 0) 1) = if s.y < s.top ∨ s.bot < s.y then s else { s with cells := upF s.cells s.cols s.y s.bot (max (parN ps 0) 1), x := 0 } := rfl
    rw [e1, e2]
    by_cases h : s.y < s.top ∨ s.bot < s.y
    · rw [if_pos h, if_neg (by omega)]
    · rw [if_neg h, if_pos (by omega)]
  · rfl
  · rfl
theorem csi_erase {s : Sc} {ps : List Int} : csiF s 74 ps = { eraP s false (parN ps 0) with wrap := false } ∧ csiF s 75 ps = { eraP s true (parN ps 0) with wrap := false } := by
  refine ⟨?_, ?_⟩
  · show eraseF s false (parN ps 0) = _
    unfold eraseF eraP
    split <;> rfl
  · show eraseF s true (parN ps 0) = _
    unfold eraseF eraP
    split <;> rfl
theorem csi_clear {s : Sc} {ps : List Int} (ht : s.tabs.length = s.cols) : csiF s 103 ps = clearF s (parN ps 0) := by
  show (if parN ps 0 = 3 then { s with tabs := List.replicate s.cols false } else if parN ps 0 = 0 then { s with tabs := s.tabs.set s.x false } else s) = _
  unfold clearF
  by_cases h3 : parN ps 0 = 3
  · rw [if_pos h3]
    congr 1
    refine List.ext_getElem (by simp [clrT, ht]) fun i h1 h2 => ?_
    simp [clrT, h3] at h1 h2 ⊢
    intro h
    exact absurd h (by omega)
  · rw [if_neg h3]
    by_cases h0 : parN ps 0 = 0
    · rw [if_pos h0]
      congr 1
      refine List.ext_getElem (by simp [clrT]) fun i h1 h2 => ?_
      simp [clrT] at h1 h2
      rw [List.getElem_set]
      simp only [clrT, List.getElem_map, List.getElem_range]
      by_cases e : s.x = i
      · rw [if_pos e, if_pos ⟨by omega, .inr ⟨h0, e.symm⟩⟩]
      · rw [if_neg e, if_neg (by omega)]
        simp [List.getD_eq_getElem?_getD, h2]
    · rw [if_neg h0]
      have : clrT s (parN ps 0) s.tabs.length = s.tabs := by
        refine List.ext_getElem (by simp [clrT]) fun i h1 h2 => ?_
        simp only [clrT, List.getElem_map, List.getElem_range]
        rw [if_neg (by omega)]
        simp [List.getD_eq_getElem?_getD, h2]
      rw [this]
theorem csi_reg {s : Sc} {ps : List Int} : csiF s 114 ps = regF s (max (parN ps 0) 1 - 1) (parN ps 1) := rfl
end Go.Proofs.YtjmnbpilnneonaaDoor
