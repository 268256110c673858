/- Texts G3, G4, G5, G6, G7, G8, H1 in one. -/
import Derived.Test.YtjmnbpilnneonaaDoorN1
set_option linter.unusedVariables false
set_option linter.unusedSimpArgs false
set_option maxRecDepth 10000
namespace Go.Proofs.YtjmnbpilnneonaaDoor
open Go.RowKit
noncomputable def rc_gwhole_l0 : RC := (.seq (.reg [⟨some 6, .bin .lss (.t 5) (.t 4), none, false⟩] 0 [0, 4, 5, 6]) (.seq (.cond (.t 6) .skip (.ext 0)) (.seq (.blk 1 (.seq (.reg [⟨some 7, .mov (.t 5), none, false⟩, ⟨some 2, .mov (.t 7), none, false⟩] 0 [0, 2, 4, 5]) (.seq (.reg [⟨some 8, .mov (.t 0), none, false⟩, ⟨some 9, .mov (.t 2), none, false⟩, ⟨some 10, .iaddr 3 (.t 8) (.t 9), none, false⟩, ⟨some 11, .faddr 2 (.t 10), none, false⟩, ⟨some 12, .load false 1 (.t 11), none, false⟩] 0 [0, 2, 4, 5, 12]) (.blk 2 (.seq (.reg [⟨some 14, .bin .eql (.t 12) (.c (.int .u8 1)), none, false⟩, ⟨some 13, .mov (.t 14), none, false⟩] 0 [0, 2, 4, 5, 12, 13]) (.cond (.t 13) (.seq (.reg [⟨some 15, .mov (.t 2), none, false⟩, ⟨some 16, .bin .add (.t 15) (.c (.int .i64 1)), none, false⟩, ⟨some 17, .mov (.t 0), none, false⟩, ⟨some 18, .len (.t 17), none, false⟩, ⟨some 19, .bin .eql (.t 16) (.t 18), none, false⟩, ⟨some 20, .mov (.t 19), none, false⟩, ⟨some 21, .mov (.t 0), some (20, false), false⟩, ⟨some 22, .mov (.t 2), some (20, false), false⟩, ⟨some 23, .bin .add (.t 22) (.c (.int .i64 1)), some (20, false), false⟩, ⟨some 24, .iaddr 3 (.t 21) (.t 23), some (20, false), false⟩, ⟨some 25, .faddr 2 (.t 24), some (20, false), false⟩, ⟨some 26, .load false 1 (.t 25), some (20, false), false⟩, ⟨some 27, .bin .neq (.t 26) (.c (.int .u8 2)), some (20, false), false⟩, ⟨some 28, .pick (.t 20) (.c (.bool true)) (.t 27), none, false⟩] 0 [0, 2, 4, 5, 28]) (.cond (.t 28) (.reg [⟨some 29, .mov (.t 0), none, false⟩, ⟨some 30, .mov (.t 2), none, false⟩, ⟨some 31, .call 68 [], none, false⟩, ⟨some 32, .iaddr 3 (.t 29) (.t 30), none, false⟩, ⟨none, .store 3 (.t 32) (.t 31), none, false⟩] 0 [0, 4, 5]) .skip)) (.seq (.reg [⟨some 34, .bin .eql (.t 12) (.c (.int .u8 2)), none, false⟩, ⟨some 33, .mov (.t 34), none, false⟩] 0 [0, 2, 4, 5, 33]) (.cond (.t 33) (.seq (.reg [⟨some 35, .mov (.t 2), none, false⟩, ⟨some 36, .bin .eql (.t 35) (.c (.int .i64 0)), none, false⟩, ⟨some 37, .mov (.t 36), none, false⟩, ⟨some 38, .mov (.t 0), some (37, false), false⟩, ⟨some 39, .mov (.t 2), some (37, false), false⟩, ⟨some 40, .bin .sub (.t 39) (.c (.int .i64 1)), some (37, false), false⟩, ⟨some 41, .iaddr 3 (.t 38) (.t 40), some (37, false), false⟩, ⟨some 42, .faddr 2 (.t 41), some (37, false), false⟩, ⟨some 43, .load false 1 (.t 42), some (37, false), false⟩, ⟨some 44, .bin .neq (.t 43) (.c (.int .u8 1)), some (37, false), false⟩, ⟨some 45, .pick (.t 37) (.c (.bool true)) (.t 44), none, false⟩] 0 [0, 2, 4, 5, 45]) (.cond (.t 45) (.reg [⟨some 46, .mov (.t 0), none, false⟩, ⟨some 47, .mov (.t 2), none, false⟩, ⟨some 48, .call 68 [], none, false⟩, ⟨some 49, .iaddr 3 (.t 46) (.t 47), none, false⟩, ⟨none, .store 3 (.t 49) (.t 48), none, false⟩] 0 [0, 4, 5]) .skip)) .skip)))))))) (.reg [⟨some 50, .bin .add (.t 5) (.c (.int .i64 1)), none, false⟩, ⟨some 5, .mov (.t 50), none, false⟩] 0 [0, 4, 5]))))
noncomputable def rc_gwhole : RFn := ⟨1, 51, .seq (.reg [⟨some 3, .mov (.t 0), none, false⟩, ⟨some 4, .len (.t 3), none, false⟩, ⟨some 5, .mov (.c (.int .i64 0)), none, false⟩] 0 [0, 4, 5]) (.blk 0 (.loop rc_gwhole_l0)), []⟩
theorem rc_gwhole_ok : compFn PG.P [⟨0, 0, [0, 4, 5], []⟩, ⟨1, 0, [0, 4, 5, 6], []⟩, ⟨2, 0, [0, 2, 4, 5], []⟩, ⟨3, 0, [0, 2, 4, 5, 12], []⟩, ⟨4, 0, [0, 2, 4, 5, 12, 13], []⟩, ⟨5, 0, [0, 2, 4, 5, 28], []⟩, ⟨6, 0, [0, 4, 5], []⟩, ⟨7, 0, [0, 2, 4, 5, 33], []⟩, ⟨8, 0, [0, 2, 4, 5, 45], []⟩, ⟨9, 0, [0, 4, 5], []⟩, ⟨10, 0, [0, 4, 5], []⟩] 41 = some rc_gwhole := by kernel_rfl
theorem gBlank_K {T : Objs} {rows cols : Nat} {K : DV → Objs → Prop} (h1 : 1 ≤ rows ∧ rows ≤ 1000) (h2 : 1 ≤ cols ∧ cols ≤ 1000)
    (h : ∀ T' p, T.length ≤ p → T'[p]? = some (some (.arr 3 (ceRows (List.replicate (rows * cols) blkC)))) → Keep T T' [] → K (.own p 0 (rows * cols)) T') : CallK PG 17 [.int .i64 rows, .int .i64 cols] T K := by
  have hm : rows * cols ≤ 1000 * 1000 := Nat.mul_le_mul h1.2 h2.2
  have b1 : sizeB rows = true := sizeB_1 (by omega)
  have b2 : sizeB cols = true := sizeB_1 (by omega)
  have hp : (rows : Int) * cols = ((rows * cols : Nat) : Int) := by simp
  have hw : IntKind.i64.wrap ((rows : Int) * cols) = ((rows * cols : Nat) : Int) := by rw [hp]; exact wI64 (by omega) (by omega)
  obtain ⟨m, em⟩ : ∃ m, m = rows * cols := ⟨_, rfl⟩
  rw [← em] at hw h hm
  have z0 : (0 : Int) ≤ (m : Int) := by omega
  have z1 : (m : Int) * 8 ≤ 140737488355328 ∧ (m : Int) ≤ 4611686018427387904 := by omega
  refine CallK.of_fn TG3_ok rc_gBlank_ok (by simp [rc_gBlank]) ?_
  unfold rc_gBlank
  dsimp only
  simp -implicitDefEqProofs -dsimp only [TG3_b, TG3_n37, b1, b2, hw, z0, z1, Int.le_refl, tb_at, vcS, ↓vcP1, ↓vcP2, ↓reduceIte, reduceCtorEq, Nat.reduceLT, Nat.reduceLeDiff, Nat.reduceEqDiff, Nat.reduceAdd, Nat.reduceSub, Nat.reduceMul, Int.reduceLT, Int.reduceLE, Int.reduceEq, Int.reduceToNat, Int.reduceAdd, Int.reduceSub, Int.reduceNeg, List.reduceReplicate, Nat.reducePow, Int.reduceMul]
  have e0 : List.replicate m [DV.int IntKind.i32 0, DV.int IntKind.u16 0, DV.int IntKind.u8 0] = ceRows (List.replicate m ⟨0, 0, 0⟩) := ceRows_rep m ⟨0, 0, 0⟩
  rw [e0]
  refine fill_K (L := List.replicate m ⟨0, 0, 0⟩) (n := m) (tb_get0 _ _ _) (by simp) (by simp; omega) fun T2 h2 k2 => ?_
  have e1 : midF (List.replicate m ⟨0, 0, 0⟩) 0 (0 + m) (List.replicate m blkC) = List.replicate m blkC := by simp [midF]
  rw [e1] at h2
  simp -implicitDefEqProofs -dsimp only [TG3_b, TG3_n37, vcS, ↓vcP1, ↓vcP2, ↓reduceIte, reduceCtorEq, Nat.reduceLT, Nat.reduceLeDiff, Nat.reduceEqDiff, Nat.reduceAdd, Nat.reduceSub, Nat.reduceMul, Int.reduceLT, Int.reduceLE, Int.reduceEq, Int.reduceToNat, Int.reduceAdd, Int.reduceSub, Int.reduceNeg, List.reduceReplicate, Nat.reducePow, Int.reduceMul]
  exact ⟨by have := k2.1; simp at this; omega, h T2 _ (Nat.le_refl _) h2 ((Keep.app T _ []).new k2 (by simp))⟩
def rowP (L : List Ce) (off n i : Nat) : List Ce := midF L off (off + n) (wholeTo ((L.drop off).take n) i)
theorem rowP_len {L : List Ce} {off n i : Nat} (ho : off + n ≤ L.length) : (rowP L off n i).length = L.length := midF_len (by omega) ho (by rw [wholeTo_len]; simp; omega)
theorem rowP_getD {L : List Ce} {off n i j : Nat} (ho : off + n ≤ L.length) (hj : j < n) : (rowP L off n i).getD (off + j) blkC = if j < i then wholeC ((L.drop off).take n) j else ((L.drop off).take n).getD j blkC := by
  unfold rowP
  rw [midF_getD (by omega) ho (by rw [wholeTo_len]; simp; omega), if_neg (by omega), if_pos (by omega)]
  have e : off + j - off = j := by omega
  rw [e, wholeTo_getD (by simp; omega)]
theorem rowP_set {L : List Ce} {off n i : Nat} (ho : off + n ≤ L.length) (hi : i < n) : (rowP L off n i).set (off + i) (wholeC ((L.drop off).take n) i) = rowP L off n (i + 1) := by
  refine ext_getD (by rw [List.length_set, rowP_len ho, rowP_len ho]) fun j hj => ?_
  rw [List.length_set, rowP_len ho] at hj
  rw [getD_setC (by rw [rowP_len ho]; omega)]
  by_cases hin : off ≤ j ∧ j < off + n
  · obtain ⟨t, rfl⟩ : ∃ t, j = off + t := ⟨j - off, by omega⟩
    rw [rowP_getD ho (by omega), rowP_getD ho (by omega)]
    by_cases e : t = i
    · subst e; rw [if_pos rfl, if_pos (by omega)]
    · rw [if_neg (by omega)]
      by_cases h : t < i
      · rw [if_pos h, if_pos (by omega)]
      · rw [if_neg h, if_neg (by omega)]
  · rw [if_neg (by omega)]
    unfold rowP
    rw [midF_getD (by omega) ho (by rw [wholeTo_len]; simp; omega), midF_getD (by omega) ho (by rw [wholeTo_len]; simp; omega)]
    by_cases h : j < off
    · rw [if_pos h, if_pos h]
    · rw [if_neg h, if_neg h, if_neg (by omega), if_neg (by omega)]
theorem rowP_same {L : List Ce} {off n i : Nat} (ho : off + n ≤ L.length) (hi : i < n) (h : wholeC ((L.drop off).take n) i = ((L.drop off).take n).getD i blkC) : rowP L off n i = rowP L off n (i + 1) := by
  rw [← rowP_set ho hi, h]
  refine ext_getD (by rw [List.length_set]) fun j hj => ?_
  rw [getD_setC (by rw [rowP_len ho]; omega)]
  by_cases e : j = off + i
  · subst e; rw [if_pos rfl, rowP_getD ho hi, if_neg (by omega)]
  · rw [if_neg e]
theorem whole_K {T : Objs} {q off n : Nat} {L : List Ce} {K : DV → Objs → Prop} (hq : T[q]? = some (some (.arr 3 (ceRows L)))) (ho : off + n ≤ L.length) (hl : L.length ≤ 1000000)
    (h : ∀ T', T'[q]? = some (some (.arr 3 (ceRows (midF L off (off + n) (wholG ((L.drop off).take n)))))) → Keep T T' [q] → K (.tup []) T') : CallK PG 41 [.own q off n] T K := by
  refine CallK.of_fn FOk.nil rc_gwhole_ok (by simp [rc_gwhole]) ?_
  unfold rc_gwhole
  dsimp only
  simp -implicitDefEqProofs -dsimp only [tb_at, tb_all hq, vcS, ↓vcP1, ↓vcP2, ↓reduceIte, reduceCtorEq, Nat.reduceLT, Nat.reduceLeDiff, Nat.reduceEqDiff, Nat.reduceAdd, Nat.reduceSub, Nat.reduceMul, Int.reduceLT, Int.reduceLE, Int.reduceEq, Int.reduceToNat, Int.reduceAdd, Int.reduceSub, Int.reduceNeg, List.reduceReplicate, Nat.reducePow, Int.reduceMul]
  have r0 : rowP L off n 0 = L := by
    refine ext_getD (rowP_len ho) fun j hj => ?_
    rw [rowP_len ho] at hj
    unfold rowP
    rw [midF_getD (by omega) ho (by rw [wholeTo_len]; simp; omega), wholeTo_0, getD_take, getD_drop]
    by_cases h1 : j < off
    · rw [if_pos h1]
    · rw [if_neg h1]
      by_cases h2 : j < off + n
      · rw [if_pos h2, if_pos (by omega)]; congr 1; omega
      · rw [if_neg h2]
  have rn : rowP L off n n = midF L off (off + n) (wholG ((L.drop off).take n)) := by
    have hlen : ((L.drop off).take n).length = n := by simp; omega
    have := wholeTo_all ((L.drop off).take n)
    rw [hlen] at this
    unfold rowP
    rw [this]
  rw [← rn] at h
  obtain ⟨R, eR⟩ : ∃ R, R = (L.drop off).take n := ⟨_, rfl⟩
  have hRl : R.length = n := by rw [eR]; simp; omega
  refine LoopWp.inv FOk.nil (S := fun s : Nat × Objs => ⟨[(0, .own q off n), (4, .int .i64 n), (5, .int .i64 s.1)], s.2⟩)
    (I := fun s => s.1 ≤ n ∧ s.2[q]? = some (some (.arr 3 (ceRows (rowP L off n s.1)))) ∧ Keep T s.2 [q])
    (μ := fun s => n - s.1) (0, T) ⟨by simp, by rw [r0]; exact hq, Keep.refl _ _⟩ ?_ ?_
  · simp -implicitDefEqProofs -dsimp only [wkT_self, vcS, ↓vcP1, ↓vcP2, ↓reduceIte, reduceCtorEq, Nat.reduceLT, Nat.reduceLeDiff, Nat.reduceEqDiff, Nat.reduceAdd, Nat.reduceSub, Nat.reduceMul, Int.reduceLT, Int.reduceLE, Int.reduceEq, Int.reduceToNat, Int.reduceAdd, Int.reduceSub, Int.reduceNeg, List.reduceReplicate, Nat.reducePow, Int.reduceMul]
  · intro ⟨i, A⟩ ⟨h1, h2, h3⟩
    dsimp only at h1 h2 h3 ⊢
    unfold rc_gwhole_l0
    by_cases hi : i < n
    · have hii : (i : Int) < n := by omega
      have hi0 : (0 : Int) ≤ (i : Int) := by omega
      have hw1 : IntKind.i64.wrap ((i : Int) + 1) = ((i + 1 : Nat) : Int) := by rw [wI64 (by omega) (by omega)]; omega
      have hlen := rowP_len (i := i) ho
      have hP : ∀ j, j < n → off + j < (rowP L off n i).length := fun j hj => by rw [hlen]; omega
      have g0 := ceRows_get (hP i hi)
      rw [rowP_getD ho hi, if_neg (by omega), ← eR] at g0
      have same : ∀ {A' : Objs}, A'[q]? = some (some (.arr 3 (ceRows (rowP L off n i)))) → Keep T A' [q] → wholeC R i = R.getD i blkC →
          ∃ s' : Nat × Objs, (((i + 1 : Nat) : Int) = (s'.1 : Int) ∧ objsWk A' s'.2) ∧ (s'.1 ≤ n ∧ s'.2[q]? = some (some (.arr 3 (ceRows (rowP L off n s'.1)))) ∧ Keep T s'.2 [q]) ∧ n - s'.1 < n - i := fun a b c =>
        ⟨(i + 1, _), ⟨rfl, objsWk_refl _⟩, ⟨hi, by rw [← rowP_same ho hi (by rw [← eR]; exact c)]; exact a, b⟩, by dsimp only; omega⟩
      have hb : blkC.row = [.int .i32 32, .int .u16 0, .int .u8 0] := rfl
      have hset : wholeC R i = blkC → (ceRows (rowP L off n i)).set (off + i) [.int .i32 32, .int .u16 0, .int .u8 0] = ceRows (rowP L off n (i + 1)) := fun e => by
        rw [← rowP_set ho hi, ← eR, e]
        exact ceRows_set _ _ blkC
      have chg : ∀ {A' : Objs}, Keep A A' [] → ∃ s' : Nat × Objs, (((i + 1 : Nat) : Int) = (s'.1 : Int) ∧ objsWk (A'.set q (some (.arr 3 (ceRows (rowP L off n (i + 1)))))) s'.2) ∧ (s'.1 ≤ n ∧ s'.2[q]? = some (some (.arr 3 (ceRows (rowP L off n s'.1)))) ∧ Keep T s'.2 [q]) ∧ n - s'.1 < n - i := fun k =>
        ⟨(i + 1, _), ⟨rfl, objsWk_refl _⟩, ⟨hi, tb_ss (k.at h2 (by simp)) _, (h3.trans k (k := [q]) (by simp) (by simp)).trans (Keep.set _ q _) (by simp) (by simp)⟩, by dsimp only; omega⟩
      by_cases c1 : (R.getD i blkC).h = 1
      · by_cases hn : i + 1 = n
        · have hn' : ((i + 1 : Nat) : Int) = n := by omega
          have hwc : wholeC R i = blkC := by unfold wholeC; rw [if_pos (.inl ⟨c1, .inl (by omega)⟩)]
          simp -implicitDefEqProofs -dsimp only [tb_all h2, hii, hi0, hw1, g0, c1, eq_true hn', wkT_self, Nat.zero_add, tb_at, vcS, ↓vcP1, ↓vcP2, ↓reduceIte, reduceCtorEq, Nat.reduceLT, Nat.reduceLeDiff, Nat.reduceEqDiff, Nat.reduceAdd, Nat.reduceSub, Nat.reduceMul, Int.reduceLT, Int.reduceLE, Int.reduceEq, Int.reduceToNat, Int.reduceAdd, Int.reduceSub, Int.reduceNeg, List.reduceReplicate, Nat.reducePow, Int.reduceMul]
          refine gblank_K fun T' k => ?_
          rw [hb]
          simp -implicitDefEqProofs -dsimp only [tb_all (k.at h2 (by simp)), hii, hi0, hw1, g0, hset hwc, wkT_self, Nat.zero_add, tb_at, vcS, ↓vcP1, ↓vcP2, ↓reduceIte, reduceCtorEq, Nat.reduceLT, Nat.reduceLeDiff, Nat.reduceEqDiff, Nat.reduceAdd, Nat.reduceSub, Nat.reduceMul, Int.reduceLT, Int.reduceLE, Int.reduceEq, Int.reduceToNat, Int.reduceAdd, Int.reduceSub, Int.reduceNeg, List.reduceReplicate, Nat.reducePow, Int.reduceMul]
          exact chg k
        · have hn' : ¬ ((i + 1 : Nat) : Int) = n := by omega
          have hn1 : ((i + 1 : Nat) : Int) < n := by omega
          have hn0 : (0 : Int) ≤ ((i + 1 : Nat) : Int) := by omega
          have g1 := ceRows_get (hP (i + 1) (by omega))
          rw [rowP_getD ho (by omega), if_neg (by omega), ← eR] at g1
          by_cases d : (R.getD (i + 1) blkC).h = 2
          · have hwc : wholeC R i = R.getD i blkC := by
              unfold wholeC
              rw [if_neg]
              intro hc
              rcases hc with ⟨_, h5 | h5⟩ | ⟨h5, _⟩
              · omega
              · exact h5 d
              · unfold hAt at h5; omega
            simp -implicitDefEqProofs -dsimp only [tb_all h2, hii, hi0, hw1, g0, g1, c1, d, eq_false hn', hn1, hn0, wkT_self, Nat.zero_add, tb_at, vcS, ↓vcP1, ↓vcP2, ↓reduceIte, reduceCtorEq, Nat.reduceLT, Nat.reduceLeDiff, Nat.reduceEqDiff, Nat.reduceAdd, Nat.reduceSub, Nat.reduceMul, Int.reduceLT, Int.reduceLE, Int.reduceEq, Int.reduceToNat, Int.reduceAdd, Int.reduceSub, Int.reduceNeg, List.reduceReplicate, Nat.reducePow, Int.reduceMul]
            exact same h2 h3 hwc
          · have hwc : wholeC R i = blkC := by unfold wholeC; rw [if_pos (.inl ⟨c1, .inr d⟩)]
            simp -implicitDefEqProofs -dsimp only [tb_all h2, hii, hi0, hw1, g0, g1, c1, d, eq_false hn', hn1, hn0, wkT_self, Nat.zero_add, tb_at, vcS, ↓vcP1, ↓vcP2, ↓reduceIte, reduceCtorEq, Nat.reduceLT, Nat.reduceLeDiff, Nat.reduceEqDiff, Nat.reduceAdd, Nat.reduceSub, Nat.reduceMul, Int.reduceLT, Int.reduceLE, Int.reduceEq, Int.reduceToNat, Int.reduceAdd, Int.reduceSub, Int.reduceNeg, List.reduceReplicate, Nat.reducePow, Int.reduceMul]
            refine gblank_K fun T' k => ?_
            rw [hb]
            simp -implicitDefEqProofs -dsimp only [tb_all (k.at h2 (by simp)), hii, hi0, hw1, g0, hset hwc, wkT_self, Nat.zero_add, tb_at, vcS, ↓vcP1, ↓vcP2, ↓reduceIte, reduceCtorEq, Nat.reduceLT, Nat.reduceLeDiff, Nat.reduceEqDiff, Nat.reduceAdd, Nat.reduceSub, Nat.reduceMul, Int.reduceLT, Int.reduceLE, Int.reduceEq, Int.reduceToNat, Int.reduceAdd, Int.reduceSub, Int.reduceNeg, List.reduceReplicate, Nat.reducePow, Int.reduceMul]
            exact chg k
      · by_cases c2 : (R.getD i blkC).h = 2
        · by_cases hn : i = 0
          · have hn' : (i : Int) = 0 := by omega
            have hwc : wholeC R i = blkC := by unfold wholeC; rw [if_pos (.inr ⟨c2, .inl hn⟩)]
            simp -implicitDefEqProofs -dsimp only [tb_all h2, hii, hi0, hw1, g0, c2, eq_true hn', wkT_self, Nat.zero_add, tb_at, vcS, ↓vcP1, ↓vcP2, ↓reduceIte, reduceCtorEq, Nat.reduceLT, Nat.reduceLeDiff, Nat.reduceEqDiff, Nat.reduceAdd, Nat.reduceSub, Nat.reduceMul, Int.reduceLT, Int.reduceLE, Int.reduceEq, Int.reduceToNat, Int.reduceAdd, Int.reduceSub, Int.reduceNeg, List.reduceReplicate, Nat.reducePow, Int.reduceMul]
            refine gblank_K fun T' k => ?_
            rw [hb]
            simp -implicitDefEqProofs -dsimp only [tb_all (k.at h2 (by simp)), hii, hi0, hw1, g0, hset hwc, wkT_self, Nat.zero_add, tb_at, vcS, ↓vcP1, ↓vcP2, ↓reduceIte, reduceCtorEq, Nat.reduceLT, Nat.reduceLeDiff, Nat.reduceEqDiff, Nat.reduceAdd, Nat.reduceSub, Nat.reduceMul, Int.reduceLT, Int.reduceLE, Int.reduceEq, Int.reduceToNat, Int.reduceAdd, Int.reduceSub, Int.reduceNeg, List.reduceReplicate, Nat.reducePow, Int.reduceMul]
            exact chg k
          · have hn' : ¬ (i : Int) = 0 := by omega
            have hw2 : IntKind.i64.wrap ((i : Int) - 1) = ((i - 1 : Nat) : Int) := by rw [wI64 (by omega) (by omega)]; omega
            have hn1 : ((i - 1 : Nat) : Int) < n := by omega
            have hn0 : (0 : Int) ≤ ((i - 1 : Nat) : Int) := by omega
            have g1 := ceRows_get (hP (i - 1) (by omega))
            rw [rowP_getD ho (by omega), if_pos (by omega), ← eR] at g1
            have hwl := whole_left (L := R) (i := i - 1) (by omega) (by have : i - 1 + 1 = i := by omega
                                                                        rw [this]; exact c2)
            by_cases d : (wholeC R (i - 1)).h = 1
            · have hwc : wholeC R i = R.getD i blkC := by
                unfold wholeC
                rw [if_neg]
                intro hc
                rcases hc with ⟨h5, _⟩ | ⟨_, h5 | h5⟩
                · exact c1 h5
                · omega
                · exact h5 (hwl.1 d)
              simp -implicitDefEqProofs -dsimp only [tb_all h2, hii, hi0, hw1, hw2, g0, g1, c2, d, eq_false hn', hn1, hn0, wkT_self, Nat.zero_add, tb_at, vcS, ↓vcP1, ↓vcP2, ↓reduceIte, reduceCtorEq, Nat.reduceLT, Nat.reduceLeDiff, Nat.reduceEqDiff, Nat.reduceAdd, Nat.reduceSub, Nat.reduceMul, Int.reduceLT, Int.reduceLE, Int.reduceEq, Int.reduceToNat, Int.reduceAdd, Int.reduceSub, Int.reduceNeg, List.reduceReplicate, Nat.reducePow, Int.reduceMul]
              exact same h2 h3 hwc
            · have hwc : wholeC R i = blkC := by unfold wholeC; rw [if_pos (.inr ⟨c2, .inr fun h5 => d (hwl.2 h5)⟩)]
              simp -implicitDefEqProofs -dsimp only [tb_all h2, hii, hi0, hw1, hw2, g0, g1, c2, d, eq_false hn', hn1, hn0, wkT_self, Nat.zero_add, tb_at, vcS, ↓vcP1, ↓vcP2, ↓reduceIte, reduceCtorEq, Nat.reduceLT, Nat.reduceLeDiff, Nat.reduceEqDiff, Nat.reduceAdd, Nat.reduceSub, Nat.reduceMul, Int.reduceLT, Int.reduceLE, Int.reduceEq, Int.reduceToNat, Int.reduceAdd, Int.reduceSub, Int.reduceNeg, List.reduceReplicate, Nat.reducePow, Int.reduceMul]
              refine gblank_K fun T' k => ?_
              rw [hb]
              simp -implicitDefEqProofs -dsimp only [tb_all (k.at h2 (by simp)), hii, hi0, hw1, g0, hset hwc, wkT_self, Nat.zero_add, tb_at, vcS, ↓vcP1, ↓vcP2, ↓reduceIte, reduceCtorEq, Nat.reduceLT, Nat.reduceLeDiff, Nat.reduceEqDiff, Nat.reduceAdd, Nat.reduceSub, Nat.reduceMul, Int.reduceLT, Int.reduceLE, Int.reduceEq, Int.reduceToNat, Int.reduceAdd, Int.reduceSub, Int.reduceNeg, List.reduceReplicate, Nat.reducePow, Int.reduceMul]
              exact chg k
        · simp -implicitDefEqProofs -dsimp only [tb_all h2, hii, hi0, hw1, g0, c1, c2, wkT_self, Nat.zero_add, tb_at, vcS, ↓vcP1, ↓vcP2, ↓reduceIte, reduceCtorEq, Nat.reduceLT, Nat.reduceLeDiff, Nat.reduceEqDiff, Nat.reduceAdd, Nat.reduceSub, Nat.reduceMul, Int.reduceLT, Int.reduceLE, Int.reduceEq, Int.reduceToNat, Int.reduceAdd, Int.reduceSub, Int.reduceNeg, List.reduceReplicate, Nat.reducePow, Int.reduceMul]
          refine same h2 h3 ?_
          unfold wholeC hAt
          rw [if_neg (by omega)]
    · have hii : ¬ (i : Int) < n := by omega
      simp -implicitDefEqProofs -dsimp only [tb_all h2, hii, wkT_self, vcS, ↓vcP1, ↓vcP2, ↓reduceIte, reduceCtorEq, Nat.reduceLT, Nat.reduceLeDiff, Nat.reduceEqDiff, Nat.reduceAdd, Nat.reduceSub, Nat.reduceMul, Int.reduceLT, Int.reduceLE, Int.reduceEq, Int.reduceToNat, Int.reduceAdd, Int.reduceSub, Int.reduceNeg, List.reduceReplicate, Nat.reducePow, Int.reduceMul]
      obtain rfl : i = n := by omega
      exact ⟨h3.1, h _ h2 h3⟩
noncomputable def rc_gins : RFn := ⟨5, 52, .seq (.reg [⟨some 10, .mov (.c (.sl 0 [] .nil)), none, false⟩] 0 [0, 1, 2, 3, 4]) (.seq (.reg [⟨some 15, .mov (.t 0), none, false⟩, ⟨some 16, .call 23 [.t 15], none, false⟩, ⟨some 11, .mov (.t 16), none, false⟩] 0 [1, 2, 3, 4, 11]) (.seq (.seq (.reg [⟨some 17, .mov (.t 11), none, false⟩, ⟨some 18, .mov (.t 1), none, false⟩, ⟨some 19, .mov (.t 2), none, false⟩, ⟨some 20, .call 24 [.t 17, .t 18, .t 19], none, false⟩, ⟨some 12, .mov (.t 20), none, false⟩] 0 [1, 3, 4, 11, 12]) (.seq (.reg [⟨some 21, .mov (.t 12), none, false⟩, ⟨some 22, .eqNil true (.t 21) (.c (.sl 0 [] .nil)), none, false⟩, ⟨some 23, .mov (.t 22), none, false⟩, ⟨some 24, .mov (.t 3), some (23, true), false⟩, ⟨some 25, .bin .geq (.t 24) (.c (.int .i64 0)), some (23, true), false⟩, ⟨some 26, .pick (.t 23) (.t 25) (.c (.bool false)), none, false⟩, ⟨some 27, .mov (.t 26), none, false⟩, ⟨some 28, .mov (.t 3), some (27, true), false⟩, ⟨some 29, .mov (.t 1), some (27, true), false⟩, ⟨some 30, .bin .leq (.t 28) (.t 29), some (27, true), false⟩, ⟨some 31, .pick (.t 27) (.t 30) (.c (.bool false)), none, false⟩] 0 [3, 4, 11, 12, 31]) (.cond (.t 31) (.seq (.reg [⟨some 32, .mov (.t 12), none, false⟩, ⟨some 33, .mov (.t 3), none, false⟩, ⟨some 34, .slice 3 (.t 32) (some (.t 33)) none none, none, false⟩, ⟨some 13, .mov (.t 34), none, false⟩] 0 [4, 11, 12, 13]) (.seq (.reg [⟨some 35, .mov (.t 4), none, false⟩, ⟨some 36, .call 80 [.t 35], none, false⟩, ⟨some 37, .mov (.t 13), none, false⟩, ⟨some 38, .len (.t 37), none, false⟩, ⟨some 39, .mm false (.t 36) (.t 38), none, false⟩, ⟨some 14, .mov (.t 39), none, false⟩] 0 [11, 12, 13, 14]) (.seq (.reg [⟨some 40, .mov (.t 13), none, false⟩, ⟨some 41, .mov (.t 14), none, false⟩, ⟨some 42, .slice 3 (.t 40) (some (.t 41)) none none, none, false⟩, ⟨some 43, .mov (.t 13), none, false⟩, ⟨some 44, .copy 3 (.t 42) (.t 43), none, false⟩] 0 [11, 12, 13, 14]) (.seq (.reg [⟨some 45, .mov (.t 13), none, false⟩, ⟨some 46, .mov (.t 14), none, false⟩, ⟨some 47, .slice 3 (.t 45) none (some (.t 46)) none, none, false⟩, ⟨some 48, .call 37 [.t 47], none, false⟩] 0 [11, 12]) (.reg [⟨some 49, .mov (.t 12), none, false⟩, ⟨some 50, .call 41 [.t 49], none, false⟩] 0 [11]))))) .skip))) (.seq (.reg [⟨some 51, .mov (.t 11), none, false⟩, ⟨some 10, .mov (.t 51), none, false⟩] 0 [10]) .ret))), [.t 10]⟩
theorem rc_gins_ok : compFn PG.P [⟨0, 0, [0, 1, 2, 3, 4], []⟩, ⟨1, 0, [1, 2, 3, 4, 11], []⟩, ⟨2, 0, [1, 3, 4, 11, 12], []⟩, ⟨3, 0, [3, 4, 11, 12, 31], []⟩, ⟨4, 0, [4, 11, 12, 13], []⟩, ⟨5, 0, [11, 12, 13, 14], []⟩, ⟨6, 0, [11, 12, 13, 14], []⟩, ⟨7, 0, [11, 12], []⟩, ⟨8, 0, [11], []⟩, ⟨9, 0, [10], []⟩] 61 = some rc_gins := by kernel_rfl
noncomputable def rc_gdel : RFn := ⟨5, 55, .seq (.reg [⟨some 10, .mov (.c (.sl 0 [] .nil)), none, false⟩] 0 [0, 1, 2, 3, 4]) (.seq (.reg [⟨some 15, .mov (.t 0), none, false⟩, ⟨some 16, .call 23 [.t 15], none, false⟩, ⟨some 11, .mov (.t 16), none, false⟩] 0 [1, 2, 3, 4, 11]) (.seq (.seq (.reg [⟨some 17, .mov (.t 11), none, false⟩, ⟨some 18, .mov (.t 1), none, false⟩, ⟨some 19, .mov (.t 2), none, false⟩, ⟨some 20, .call 24 [.t 17, .t 18, .t 19], none, false⟩, ⟨some 12, .mov (.t 20), none, false⟩] 0 [1, 3, 4, 11, 12]) (.seq (.reg [⟨some 21, .mov (.t 12), none, false⟩, ⟨some 22, .eqNil true (.t 21) (.c (.sl 0 [] .nil)), none, false⟩, ⟨some 23, .mov (.t 22), none, false⟩, ⟨some 24, .mov (.t 3), some (23, true), false⟩, ⟨some 25, .bin .geq (.t 24) (.c (.int .i64 0)), some (23, true), false⟩, ⟨some 26, .pick (.t 23) (.t 25) (.c (.bool false)), none, false⟩, ⟨some 27, .mov (.t 26), none, false⟩, ⟨some 28, .mov (.t 3), some (27, true), false⟩, ⟨some 29, .mov (.t 1), some (27, true), false⟩, ⟨some 30, .bin .leq (.t 28) (.t 29), some (27, true), false⟩, ⟨some 31, .pick (.t 27) (.t 30) (.c (.bool false)), none, false⟩] 0 [3, 4, 11, 12, 31]) (.cond (.t 31) (.seq (.reg [⟨some 32, .mov (.t 12), none, false⟩, ⟨some 33, .mov (.t 3), none, false⟩, ⟨some 34, .slice 3 (.t 32) (some (.t 33)) none none, none, false⟩, ⟨some 13, .mov (.t 34), none, false⟩] 0 [4, 11, 12, 13]) (.seq (.reg [⟨some 35, .mov (.t 4), none, false⟩, ⟨some 36, .call 80 [.t 35], none, false⟩, ⟨some 37, .mov (.t 13), none, false⟩, ⟨some 38, .len (.t 37), none, false⟩, ⟨some 39, .mm false (.t 36) (.t 38), none, false⟩, ⟨some 14, .mov (.t 39), none, false⟩] 0 [11, 12, 13, 14]) (.seq (.reg [⟨some 40, .mov (.t 13), none, false⟩, ⟨some 41, .mov (.t 13), none, false⟩, ⟨some 42, .mov (.t 14), none, false⟩, ⟨some 43, .slice 3 (.t 41) (some (.t 42)) none none, none, false⟩, ⟨some 44, .copy 3 (.t 40) (.t 43), none, false⟩] 0 [11, 12, 13, 14]) (.seq (.reg [⟨some 45, .mov (.t 13), none, false⟩, ⟨some 46, .mov (.t 13), none, false⟩, ⟨some 47, .len (.t 46), none, false⟩, ⟨some 48, .mov (.t 14), none, false⟩, ⟨some 49, .bin .sub (.t 47) (.t 48), none, false⟩, ⟨some 50, .slice 3 (.t 45) (some (.t 49)) none none, none, false⟩, ⟨some 51, .call 37 [.t 50], none, false⟩] 0 [11, 12]) (.reg [⟨some 52, .mov (.t 12), none, false⟩, ⟨some 53, .call 41 [.t 52], none, false⟩] 0 [11]))))) .skip))) (.seq (.reg [⟨some 54, .mov (.t 11), none, false⟩, ⟨some 10, .mov (.t 54), none, false⟩] 0 [10]) .ret))), [.t 10]⟩
theorem rc_gdel_ok : compFn PG.P [⟨0, 0, [0, 1, 2, 3, 4], []⟩, ⟨1, 0, [1, 2, 3, 4, 11], []⟩, ⟨2, 0, [1, 3, 4, 11, 12], []⟩, ⟨3, 0, [3, 4, 11, 12, 31], []⟩, ⟨4, 0, [4, 11, 12, 13], []⟩, ⟨5, 0, [11, 12, 13, 14], []⟩, ⟨6, 0, [11, 12, 13, 14], []⟩, ⟨7, 0, [11, 12], []⟩, ⟨8, 0, [11], []⟩, ⟨9, 0, [10], []⟩] 62 = some rc_gdel := by kernel_rfl
noncomputable def rc_gera : RFn := ⟨5, 39, .seq (.reg [⟨some 10, .mov (.c (.sl 0 [] .nil)), none, false⟩] 0 [0, 1, 2, 3, 4]) (.seq (.reg [⟨some 13, .mov (.t 0), none, false⟩, ⟨some 14, .call 23 [.t 13], none, false⟩, ⟨some 11, .mov (.t 14), none, false⟩] 0 [1, 2, 3, 4, 11]) (.seq (.seq (.reg [⟨some 15, .mov (.t 11), none, false⟩, ⟨some 16, .mov (.t 1), none, false⟩, ⟨some 17, .mov (.t 2), none, false⟩, ⟨some 18, .call 24 [.t 15, .t 16, .t 17], none, false⟩, ⟨some 12, .mov (.t 18), none, false⟩] 0 [1, 3, 4, 11, 12]) (.seq (.reg [⟨some 19, .mov (.t 12), none, false⟩, ⟨some 20, .eqNil true (.t 19) (.c (.sl 0 [] .nil)), none, false⟩] 0 [1, 3, 4, 11, 12, 20]) (.cond (.t 20) (.seq (.reg [⟨some 21, .mov (.t 3), none, false⟩, ⟨some 22, .mm true (.t 21) (.c (.int .i64 0)), none, false⟩, ⟨some 23, .mov (.t 1), none, false⟩, ⟨some 24, .mm false (.t 22) (.t 23), none, false⟩, ⟨some 25, .mov (.t 4), none, false⟩, ⟨some 26, .mm true (.t 25) (.c (.int .i64 0)), none, false⟩, ⟨some 27, .mov (.t 1), none, false⟩, ⟨some 28, .mm false (.t 26) (.t 27), none, false⟩, ⟨some 3, .mov (.t 24), none, false⟩, ⟨some 4, .mov (.t 28), none, false⟩] 0 [3, 4, 11, 12]) (.seq (.reg [⟨some 29, .mov (.t 12), none, false⟩, ⟨some 30, .mov (.t 3), none, false⟩, ⟨some 31, .mov (.t 3), none, false⟩, ⟨some 32, .mov (.t 4), none, false⟩, ⟨some 33, .mm true (.t 31) (.t 32), none, false⟩, ⟨some 34, .slice 3 (.t 29) (some (.t 30)) (some (.t 33)) none, none, false⟩, ⟨some 35, .call 37 [.t 34], none, false⟩] 0 [11, 12]) (.reg [⟨some 36, .mov (.t 12), none, false⟩, ⟨some 37, .call 41 [.t 36], none, false⟩] 0 [11]))) .skip))) (.seq (.reg [⟨some 38, .mov (.t 11), none, false⟩, ⟨some 10, .mov (.t 38), none, false⟩] 0 [10]) .ret))), [.t 10]⟩
theorem rc_gera_ok : compFn PG.P [⟨0, 0, [0, 1, 2, 3, 4], []⟩, ⟨1, 0, [1, 2, 3, 4, 11], []⟩, ⟨2, 0, [1, 3, 4, 11, 12], []⟩, ⟨3, 0, [1, 3, 4, 11, 12, 20], []⟩, ⟨4, 0, [3, 4, 11, 12], []⟩, ⟨5, 0, [11, 12], []⟩, ⟨6, 0, [11], []⟩, ⟨7, 0, [10], []⟩] 63 = some rc_gera := by kernel_rfl
theorem TG3_n24 (args : List DV) : tab TG3 24 args = none := nrfl _
theorem TG3_n41 (args : List DV) : tab TG3 41 args = none := nrfl _
theorem mid_over {L M X : List Ce} {o a b e : Nat} (h1 : o ≤ a) (h2 : a ≤ b) (h3 : b ≤ e) (h4 : e ≤ L.length) (hM : M.length = b - a) (hX : X.length = e - o) : midF (midF L a b M) o e X = midF L o e X := by
  have l1 : (midF L a b M).length = L.length := midF_len h2 (by omega) hM
  refine ext_getD (by rw [midF_len (by omega) (by omega) hX, midF_len (by omega) h4 hX, l1]) fun i hi => ?_
  rw [midF_getD (by omega) (by omega) hX, midF_getD (by omega) h4 hX, midF_getD h2 (by omega) hM]
  by_cases c1 : i < o
  · rw [if_pos c1, if_pos c1, if_pos (by omega)]
  · rw [if_neg c1, if_neg c1]
    by_cases c2 : i < e
    · rw [if_pos c2, if_pos c2]
    · rw [if_neg c2, if_neg c2, if_neg (by omega), if_neg (by omega)]
theorem mid_part {L M : List Ce} {o a b e : Nat} (h1 : o ≤ a) (h2 : a ≤ b) (h3 : b ≤ e) (h4 : e ≤ L.length) (hM : M.length = b - a) : ((midF L a b M).drop o).take (e - o) = midF ((L.drop o).take (e - o)) (a - o) (b - o) M := by
  have l1 : (midF L a b M).length = L.length := midF_len h2 (by omega) hM
  have l2 : ((L.drop o).take (e - o)).length = e - o := by simp; omega
  refine ext_getD (by rw [midF_len (by omega) (by omega) (by omega), l2]; simp; omega) fun i hi => ?_
  have hi' : i < e - o := by rw [List.length_take] at hi; omega
  rw [getD_take, if_pos hi', getD_drop, midF_getD h2 (by omega) hM, midF_getD (by omega) (by omega) (by omega), getD_take, if_pos hi', getD_drop]
  by_cases c1 : o + i < a
  · rw [if_pos c1, if_pos (show i < a - o by omega)]
  · rw [if_neg c1, if_neg (show ¬ i < a - o by omega)]
    by_cases c2 : o + i < b
    · rw [if_pos c2, if_pos (show i < b - o by omega)]; congr 1; omega
    · rw [if_neg c2, if_neg (show ¬ i < b - o by omega)]
theorem gins_K {T : Objs} {q rows cols y x : Nat} {n : Int} {L : List Ce} {K : DV → Objs → Prop} (hq : T[q]? = some (some (.arr 3 (ceRows L)))) (g : GrOk L rows cols) (hy : y < rows) (hx : x ≤ cols)
    (h : ∀ T' p, T.length ≤ p → T'[p]? = some (some (.arr 3 (ceRows (insF L cols y x n)))) → Keep T T' [] → K (.own p 0 L.length) T') : CallK PG 61 [.own q 0 L.length, .int .i64 cols, .int .i64 y, .int .i64 x, .int .i64 n] T K := by
  have h1 := g.r
  have h2 := g.c
  have hl := g.lim
  have hrow := row_in (cols := cols) hy
  have hsucc := row_succ y cols
  have hgl := g.len
  have hn : nearN n ≤ 1000 := by unfold nearN; omega
  refine CallK.of_fn TG3_ok rc_gins_ok (by simp [rc_gins]) ?_
  unfold rc_gins
  dsimp only
  simp -implicitDefEqProofs -dsimp only [TG3_b, TG3_n23, TG3_n24, TG3_n41, TG3_n37, tb_all hq, vcS, ↓vcP1, ↓vcP2, ↓reduceIte, reduceCtorEq, Nat.reduceLT, Nat.reduceLeDiff, Nat.reduceEqDiff, Nat.reduceAdd, Nat.reduceSub, Nat.reduceMul, Int.reduceLT, Int.reduceLE, Int.reduceEq, Int.reduceToNat, Int.reduceAdd, Int.reduceSub, Int.reduceNeg, List.reduceReplicate, Nat.reducePow, Int.reduceMul]
  refine cclone_K hq (by omega) hl.2 hl.1 fun T' p hp hA kp => ?_
  simp only [List.drop_zero, List.take_length] at hA
  simp -implicitDefEqProofs -dsimp only [TG3_b, TG3_n23, TG3_n24, TG3_n41, TG3_n37, tb_all hA, vcS, ↓vcP1, ↓vcP2, ↓reduceIte, reduceCtorEq, Nat.reduceLT, Nat.reduceLeDiff, Nat.reduceEqDiff, Nat.reduceAdd, Nat.reduceSub, Nat.reduceMul, Int.reduceLT, Int.reduceLE, Int.reduceEq, Int.reduceToNat, Int.reduceAdd, Int.reduceSub, Int.reduceNeg, List.reduceReplicate, Nat.reducePow, Int.reduceMul]
  refine grow_K hA g hy ?_
  obtain ⟨o, eo⟩ : ∃ o, o = y * cols := ⟨_, rfl⟩
  unfold insF putF rowF at h
  rw [← eo] at h ⊢
  obtain ⟨a, ea⟩ : ∃ a, a = o + x := ⟨_, rfl⟩
  obtain ⟨m, em⟩ : ∃ m, m = cols - x := ⟨_, rfl⟩
  obtain ⟨k, ek⟩ : ∃ k, k = min (nearN n) m := ⟨_, rfl⟩
  have hmin : min ((nearN n : Nat) : Int) ((m : Nat) : Int) = (k : Int) := by omega
  have x0 : (0 : Int) ≤ (x : Int) := by omega
  have x1 : (x : Int) ≤ cols := by omega
  have c0 : 0 < cols := by omega
  have k0 : (0 : Int) ≤ (k : Int) := by omega
  have k1 : k ≤ m := by omega
  have al : a + m ≤ L.length := by omega
  have ol : o + cols ≤ L.length := by omega
  have hM : ((L.drop a).take m).length = m := by simp; omega
  have hmm : min m (m - k) = m - k := by omega
  have htk : (List.take (m - k) (List.take m (L.drop a))) = List.take (m - k) (L.drop a) := by rw [List.take_take, Nat.min_eq_left (by omega)]
  have hcp : ceRows (List.take (a + k) L) ++ (ceRows (List.take (m - k) (List.drop a L)) ++ ceRows (List.drop (a + (k + (m - k))) L)) = ceRows (midF L (a + k) (a + k + (m - k)) ((L.drop a).take (m - k))) := by rw [ceRows_app, ceRows_app]; simp [midF, Nat.add_assoc]
  have z3 : a + (k + (m - k)) ≤ L.length := by omega
  simp -implicitDefEqProofs -dsimp only [TG3_b, TG3_n23, TG3_n24, TG3_n41, TG3_n37, tb_all hA, ← ea, ← em, hmin, x0, x1, hx, c0, k0, k1, al, ol, z3, ceRows_len, ceRows_drop, ceRows_take, hM, hmm, htk, hcp, vcS, ↓vcP1, ↓vcP2, ↓reduceIte, reduceCtorEq, Nat.reduceLT, Nat.reduceLeDiff, Nat.reduceEqDiff, Nat.reduceAdd, Nat.reduceSub, Nat.reduceMul, Int.reduceLT, Int.reduceLE, Int.reduceEq, Int.reduceToNat, Int.reduceAdd, Int.reduceSub, Int.reduceNeg, List.reduceReplicate, Nat.reducePow, Int.reduceMul]
  have hbm : a + m - a = m := by omega
  have m1 : ((L.drop a).take (m - k)).length = a + k + (m - k) - (a + k) := by simp; omega
  have l1 : (midF L (a + k) (a + k + (m - k)) ((L.drop a).take (m - k))).length = L.length := midF_len (by omega) (by omega) m1
  have hz : a + (k + (m - k)) = a + k + (m - k) := (Nat.add_assoc _ _ _).symm
  refine ⟨Nat.zero_le _, ?_⟩
  refine fill_K (L := midF L (a + k) (a + (k + (m - k))) ((L.drop a).take (m - k))) (n := k) (tb_ss hA _) (by rw [hz, l1]; omega) (by rw [hz, l1]; omega) fun T2 h2 k2 => ?_
  have hd := dn_eq (L := L) (a := a) (b := a + m) (k := k) (k0 := nearN n) (by omega) al (by rw [hbm]; exact ek)
  rw [hbm] at hd
  rw [hz, hd] at h2
  have m2 : (shDn (nearN n) ((L.drop a).take m)).length = a + m - a := by rw [shDn_len, hM]; omega
  have l2 : (midF L a (a + m) (shDn (nearN n) ((L.drop a).take m))).length = L.length := midF_len (by omega) al m2
  simp -implicitDefEqProofs -dsimp only [TG3_b, TG3_n23, TG3_n24, TG3_n41, TG3_n37, vcS, ↓vcP1, ↓vcP2, ↓reduceIte, reduceCtorEq, Nat.reduceLT, Nat.reduceLeDiff, Nat.reduceEqDiff, Nat.reduceAdd, Nat.reduceSub, Nat.reduceMul, Int.reduceLT, Int.reduceLE, Int.reduceEq, Int.reduceToNat, Int.reduceAdd, Int.reduceSub, Int.reduceNeg, List.reduceReplicate, Nat.reducePow, Int.reduceMul]
  refine whole_K h2 (by rw [l2]; exact ol) (by rw [l2]; exact hl.1) fun T3 h3 k3 => ?_
  simp -implicitDefEqProofs -dsimp only [TG3_b, TG3_n23, TG3_n24, TG3_n41, TG3_n37, vcS, ↓vcP1, ↓vcP2, ↓reduceIte, reduceCtorEq, Nat.reduceLT, Nat.reduceLeDiff, Nat.reduceEqDiff, Nat.reduceAdd, Nat.reduceSub, Nat.reduceMul, Int.reduceLT, Int.reduceLE, Int.reduceEq, Int.reduceToNat, Int.reduceAdd, Int.reduceSub, Int.reduceNeg, List.reduceReplicate, Nat.reducePow, Int.reduceMul]
  have hoc : o + cols - o = cols := by omega
  have hp2 := mid_part (L := L) (M := shDn (nearN n) ((L.drop a).take m)) (o := o) (a := a) (b := a + m) (e := o + cols) (by omega) (by omega) (by omega) ol m2
  rw [hoc] at hp2
  rw [hp2, mid_over (by omega) (by omega) (by omega) ol m2 (by rw [wholG_len, midF_len (by omega) (by simp; omega) (by rw [m2]; omega)]; simp; omega)] at h3
  have hfin : midF ((L.drop o).take cols) (a - o) (a + m - o) (shDn (nearN n) ((L.drop a).take m)) = ((L.drop o).take cols).take x ++ shDn (nearN n) (((L.drop o).take cols).drop x) := by
    have e1 : a - o = x := by omega
    have e2 : ((L.drop o).take cols).drop x = (L.drop a).take m := by rw [List.drop_take, List.drop_drop, ea, em]
    have e3 : ((L.drop o).take cols).drop (a + m - o) = [] := List.drop_eq_nil_of_le (by simp; omega)
    unfold midF
    rw [e1, e2, e3, List.append_nil]
  rw [hfin] at h3
  rw [hsucc, ← eo] at h
  exact ⟨by have a1 := kp.1; have a2 := k2.1; have a3 := k3.1; rw [List.length_set] at a2; omega, h T3 p hp h3 (kp.new ((Keep.set T' p _).trans (k2.trans k3 (k := [p]) (by simp) (by simp)) (k := [p]) (by simp) (by simp)) (by simpa using hp))⟩
theorem gdel_K {T : Objs} {q rows cols y x : Nat} {n : Int} {L : List Ce} {K : DV → Objs → Prop} (hq : T[q]? = some (some (.arr 3 (ceRows L)))) (g : GrOk L rows cols) (hy : y < rows) (hx : x ≤ cols)
    (h : ∀ T' p, T.length ≤ p → T'[p]? = some (some (.arr 3 (ceRows (delF L cols y x n)))) → Keep T T' [] → K (.own p 0 L.length) T') : CallK PG 62 [.own q 0 L.length, .int .i64 cols, .int .i64 y, .int .i64 x, .int .i64 n] T K := by
  have h1 := g.r
  have h2 := g.c
  have hl := g.lim
  have hrow := row_in (cols := cols) hy
  have hsucc := row_succ y cols
  have hgl := g.len
  have hn : nearN n ≤ 1000 := by unfold nearN; omega
  refine CallK.of_fn TG3_ok rc_gdel_ok (by simp [rc_gdel]) ?_
  unfold rc_gdel
  dsimp only
  simp -implicitDefEqProofs -dsimp only [TG3_b, TG3_n23, TG3_n24, TG3_n41, TG3_n37, tb_all hq, vcS, ↓vcP1, ↓vcP2, ↓reduceIte, reduceCtorEq, Nat.reduceLT, Nat.reduceLeDiff, Nat.reduceEqDiff, Nat.reduceAdd, Nat.reduceSub, Nat.reduceMul, Int.reduceLT, Int.reduceLE, Int.reduceEq, Int.reduceToNat, Int.reduceAdd, Int.reduceSub, Int.reduceNeg, List.reduceReplicate, Nat.reducePow, Int.reduceMul]
  refine cclone_K hq (by omega) hl.2 hl.1 fun T' p hp hA kp => ?_
  simp only [List.drop_zero, List.take_length] at hA
  simp -implicitDefEqProofs -dsimp only [TG3_b, TG3_n23, TG3_n24, TG3_n41, TG3_n37, tb_all hA, vcS, ↓vcP1, ↓vcP2, ↓reduceIte, reduceCtorEq, Nat.reduceLT, Nat.reduceLeDiff, Nat.reduceEqDiff, Nat.reduceAdd, Nat.reduceSub, Nat.reduceMul, Int.reduceLT, Int.reduceLE, Int.reduceEq, Int.reduceToNat, Int.reduceAdd, Int.reduceSub, Int.reduceNeg, List.reduceReplicate, Nat.reducePow, Int.reduceMul]
  refine grow_K hA g hy ?_
  obtain ⟨o, eo⟩ : ∃ o, o = y * cols := ⟨_, rfl⟩
  unfold delF putF rowF at h
  rw [← eo] at h ⊢
  obtain ⟨a, ea⟩ : ∃ a, a = o + x := ⟨_, rfl⟩
  obtain ⟨m, em⟩ : ∃ m, m = cols - x := ⟨_, rfl⟩
  obtain ⟨k, ek⟩ : ∃ k, k = min (nearN n) m := ⟨_, rfl⟩
  have hmin : min ((nearN n : Nat) : Int) ((m : Nat) : Int) = (k : Int) := by omega
  have x0 : (0 : Int) ≤ (x : Int) := by omega
  have x1 : (x : Int) ≤ cols := by omega
  have c0 : 0 < cols := by omega
  have k0 : (0 : Int) ≤ (k : Int) := by omega
  have k1 : k ≤ m := by omega
  have al : a + m ≤ L.length := by omega
  have ol : o + cols ≤ L.length := by omega
  have hM0 : ((L.drop a).take m).length = m := by simp; omega
  have hM : ((L.drop (a + k)).take (m - k)).length = m - k := by simp; omega
  have hmm : min (m - k) m = m - k := by omega
  have htk : (List.take (m - k) (List.take (m - k) (L.drop (a + k)))) = List.take (m - k) (L.drop (a + k)) := by rw [List.take_take, Nat.min_self]
  have hcp : ceRows (List.take a L) ++ (ceRows (List.take (m - k) (List.drop (a + k) L)) ++ ceRows (List.drop (a + (m - k)) L)) = ceRows (midF L a (a + (m - k)) ((L.drop (a + k)).take (m - k))) := by rw [ceRows_app, ceRows_app]; simp [midF]
  have hw5 : IntKind.i64.wrap ((m : Int) - (k : Int)) = ((m - k : Nat) : Int) := by rw [wI64 (by omega) (by omega)]; omega
  have z5 : (0 : Int) ≤ ((m - k : Nat) : Int) := by omega
  have z6 : m - k ≤ m := by omega
  have z7 : m - (m - k) = k := by omega
  have z3 : a + (k + (m - k)) ≤ L.length := by omega
  simp -implicitDefEqProofs -dsimp only [TG3_b, TG3_n23, TG3_n24, TG3_n41, TG3_n37, tb_all hA, ← ea, ← em, hmin, x0, x1, hx, c0, k0, k1, al, ol, z3, ceRows_len, ceRows_drop, ceRows_take, hM, hmm, htk, hcp, hw5, z5, z6, z7, vcS, ↓vcP1, ↓vcP2, ↓reduceIte, reduceCtorEq, Nat.reduceLT, Nat.reduceLeDiff, Nat.reduceEqDiff, Nat.reduceAdd, Nat.reduceSub, Nat.reduceMul, Int.reduceLT, Int.reduceLE, Int.reduceEq, Int.reduceToNat, Int.reduceAdd, Int.reduceSub, Int.reduceNeg, List.reduceReplicate, Nat.reducePow, Int.reduceMul]
  have hbm : a + m - a = m := by omega
  have m1 : ((L.drop (a + k)).take (m - k)).length = a + (m - k) - a := by rw [hM]; omega
  have l1 : (midF L a (a + (m - k)) ((L.drop (a + k)).take (m - k))).length = L.length := midF_len (by omega) (by omega) m1
  refine fill_K (L := midF L a (a + (m - k)) ((L.drop (a + k)).take (m - k))) (n := k) (tb_ss hA _) (by rw [l1]; omega) (by rw [l1]; omega) fun T2 h2 k2 => ?_
  have hd := up_eq (L := L) (a := a) (b := a + m) (k := k) (k0 := nearN n) (by omega) al (by rw [hbm]; exact ek)
  rw [hbm] at hd
  rw [hd] at h2
  have m2 : (shUp (nearN n) ((L.drop a).take m)).length = a + m - a := by rw [shUp_len, hM0]; omega
  have l2 : (midF L a (a + m) (shUp (nearN n) ((L.drop a).take m))).length = L.length := midF_len (by omega) al m2
  simp -implicitDefEqProofs -dsimp only [TG3_b, TG3_n23, TG3_n24, TG3_n41, TG3_n37, vcS, ↓vcP1, ↓vcP2, ↓reduceIte, reduceCtorEq, Nat.reduceLT, Nat.reduceLeDiff, Nat.reduceEqDiff, Nat.reduceAdd, Nat.reduceSub, Nat.reduceMul, Int.reduceLT, Int.reduceLE, Int.reduceEq, Int.reduceToNat, Int.reduceAdd, Int.reduceSub, Int.reduceNeg, List.reduceReplicate, Nat.reducePow, Int.reduceMul]
  refine whole_K h2 (by rw [l2]; exact ol) (by rw [l2]; exact hl.1) fun T3 h3 k3 => ?_
  simp -implicitDefEqProofs -dsimp only [TG3_b, TG3_n23, TG3_n24, TG3_n41, TG3_n37, vcS, ↓vcP1, ↓vcP2, ↓reduceIte, reduceCtorEq, Nat.reduceLT, Nat.reduceLeDiff, Nat.reduceEqDiff, Nat.reduceAdd, Nat.reduceSub, Nat.reduceMul, Int.reduceLT, Int.reduceLE, Int.reduceEq, Int.reduceToNat, Int.reduceAdd, Int.reduceSub, Int.reduceNeg, List.reduceReplicate, Nat.reducePow, Int.reduceMul]
  have hoc : o + cols - o = cols := by omega
  have hp2 := mid_part (L := L) (M := shUp (nearN n) ((L.drop a).take m)) (o := o) (a := a) (b := a + m) (e := o + cols) (by omega) (by omega) (by omega) ol m2
  rw [hoc] at hp2
  rw [hp2, mid_over (by omega) (by omega) (by omega) ol m2 (by rw [wholG_len, midF_len (by omega) (by simp; omega) (by rw [m2]; omega)]; simp; omega)] at h3
  have hfin : midF ((L.drop o).take cols) (a - o) (a + m - o) (shUp (nearN n) ((L.drop a).take m)) = ((L.drop o).take cols).take x ++ shUp (nearN n) (((L.drop o).take cols).drop x) := by
    have e1 : a - o = x := by omega
    have e2 : ((L.drop o).take cols).drop x = (L.drop a).take m := by rw [List.drop_take, List.drop_drop, ea, em]
    have e3 : ((L.drop o).take cols).drop (a + m - o) = [] := List.drop_eq_nil_of_le (by simp; omega)
    unfold midF
    rw [e1, e2, e3, List.append_nil]
  rw [hfin] at h3
  rw [hsucc, ← eo] at h
  exact ⟨by have a1 := kp.1; have a2 := k2.1; have a3 := k3.1; rw [List.length_set] at a2; omega, h T3 p hp h3 (kp.new ((Keep.set T' p _).trans (k2.trans k3 (k := [p]) (by simp) (by simp)) (k := [p]) (by simp) (by simp)) (by simpa using hp))⟩
theorem gera_K {T : Objs} {q rows cols y : Nat} {f t : Int} {L : List Ce} {K : DV → Objs → Prop} (hq : T[q]? = some (some (.arr 3 (ceRows L)))) (g : GrOk L rows cols) (hy : y < rows)
    (h : ∀ T' p, T.length ≤ p → T'[p]? = some (some (.arr 3 (ceRows (eraF L cols y f t)))) → Keep T T' [] → K (.own p 0 L.length) T') : CallK PG 63 [.own q 0 L.length, .int .i64 cols, .int .i64 y, .int .i64 f, .int .i64 t] T K := by
  have h1 := g.r
  have h2 := g.c
  have hl := g.lim
  have hrow := row_in (cols := cols) hy
  have hsucc := row_succ y cols
  have hgl := g.len
  refine CallK.of_fn TG3_ok rc_gera_ok (by simp [rc_gera]) ?_
  unfold rc_gera
  dsimp only
  simp -implicitDefEqProofs -dsimp only [TG3_b, TG3_n23, TG3_n24, TG3_n41, TG3_n37, tb_all hq, vcS, ↓vcP1, ↓vcP2, ↓reduceIte, reduceCtorEq, Nat.reduceLT, Nat.reduceLeDiff, Nat.reduceEqDiff, Nat.reduceAdd, Nat.reduceSub, Nat.reduceMul, Int.reduceLT, Int.reduceLE, Int.reduceEq, Int.reduceToNat, Int.reduceAdd, Int.reduceSub, Int.reduceNeg, List.reduceReplicate, Nat.reducePow, Int.reduceMul]
  refine cclone_K hq (by omega) hl.2 hl.1 fun T' p hp hA kp => ?_
  simp only [List.drop_zero, List.take_length] at hA
  simp -implicitDefEqProofs -dsimp only [TG3_b, TG3_n23, TG3_n24, TG3_n41, TG3_n37, tb_all hA, vcS, ↓vcP1, ↓vcP2, ↓reduceIte, reduceCtorEq, Nat.reduceLT, Nat.reduceLeDiff, Nat.reduceEqDiff, Nat.reduceAdd, Nat.reduceSub, Nat.reduceMul, Int.reduceLT, Int.reduceLE, Int.reduceEq, Int.reduceToNat, Int.reduceAdd, Int.reduceSub, Int.reduceNeg, List.reduceReplicate, Nat.reducePow, Int.reduceMul]
  refine grow_K hA g hy ?_
  obtain ⟨o, eo⟩ : ∃ o, o = y * cols := ⟨_, rfl⟩
  unfold eraF putF rowF at h
  rw [← eo] at h ⊢
  obtain ⟨a, ea⟩ : ∃ a, a = clampN f cols := ⟨_, rfl⟩
  obtain ⟨b, eb⟩ : ∃ b, b = clampN t cols := ⟨_, rfl⟩
  rw [← ea, ← eb] at h
  obtain ⟨c, ec⟩ : ∃ c, c = max a b := ⟨_, rfl⟩
  rw [← ec] at h
  unfold clampN at ea eb
  have ha : min (max f 0) (cols : Int) = (a : Int) := by omega
  have hb : min (max t 0) (cols : Int) = (b : Int) := by omega
  have hc : max (a : Int) (b : Int) = (c : Int) := by omega
  have c0 : 0 < cols := by omega
  have ac : a ≤ c := by omega
  have cc : c ≤ cols := by omega
  have ol : o + cols ≤ L.length := by omega
  simp -implicitDefEqProofs -dsimp only [TG3_b, TG3_n23, TG3_n24, TG3_n41, TG3_n37, tb_all hA, ha, hb, hc, c0, ac, cc, ol, ceRows_len, vcS, ↓vcP1, ↓vcP2, ↓reduceIte, reduceCtorEq, Nat.reduceLT, Nat.reduceLeDiff, Nat.reduceEqDiff, Nat.reduceAdd, Nat.reduceSub, Nat.reduceMul, Int.reduceLT, Int.reduceLE, Int.reduceEq, Int.reduceToNat, Int.reduceAdd, Int.reduceSub, Int.reduceNeg, List.reduceReplicate, Nat.reducePow, Int.reduceMul]
  refine ⟨by omega, by omega, ?_⟩
  refine fill_K (n := c - a) hA (by omega) hl.1 fun T2 h2 k2 => ?_
  have hoc2 : o + a + (c - a) = o + c := by omega
  rw [hoc2] at h2
  have m2 : (List.replicate (c - a) blkC).length = (o + c) - (o + a) := by simp; omega
  have l2 : (midF L (o + a) (o + c) (List.replicate (c - a) blkC)).length = L.length := midF_len (by omega) (by omega) m2
  simp -implicitDefEqProofs -dsimp only [TG3_b, TG3_n23, TG3_n24, TG3_n41, TG3_n37, vcS, ↓vcP1, ↓vcP2, ↓reduceIte, reduceCtorEq, Nat.reduceLT, Nat.reduceLeDiff, Nat.reduceEqDiff, Nat.reduceAdd, Nat.reduceSub, Nat.reduceMul, Int.reduceLT, Int.reduceLE, Int.reduceEq, Int.reduceToNat, Int.reduceAdd, Int.reduceSub, Int.reduceNeg, List.reduceReplicate, Nat.reducePow, Int.reduceMul]
  refine whole_K h2 (by rw [l2]; exact ol) (by rw [l2]; exact hl.1) fun T3 h3 k3 => ?_
  simp -implicitDefEqProofs -dsimp only [TG3_b, TG3_n23, TG3_n24, TG3_n41, TG3_n37, vcS, ↓vcP1, ↓vcP2, ↓reduceIte, reduceCtorEq, Nat.reduceLT, Nat.reduceLeDiff, Nat.reduceEqDiff, Nat.reduceAdd, Nat.reduceSub, Nat.reduceMul, Int.reduceLT, Int.reduceLE, Int.reduceEq, Int.reduceToNat, Int.reduceAdd, Int.reduceSub, Int.reduceNeg, List.reduceReplicate, Nat.reducePow, Int.reduceMul]
  have hoc : o + cols - o = cols := by omega
  have hp2 := mid_part (L := L) (M := List.replicate (c - a) blkC) (o := o) (a := o + a) (b := o + c) (e := o + cols) (by omega) (by omega) (by omega) ol m2
  rw [hoc] at hp2
  have e1 : o + a - o = a := by omega
  have e2 : o + c - o = c := by omega
  rw [e1, e2] at hp2
  rw [hp2, mid_over (by omega) (by omega) (by omega) ol m2 (by rw [wholG_len, midF_len (by omega) (by simp; omega) (by simp)]; simp; omega)] at h3
  rw [hsucc, ← eo] at h
  exact ⟨by have a1 := kp.1; have a2 := k2.1; have a3 := k3.1; omega, h T3 p hp h3 (kp.new (k2.trans k3 (k := [p]) (by simp) (by simp)) (by simpa using hp))⟩
noncomputable def rc_bclone : RFn := ⟨1, 8, .seq (.reg [⟨some 2, .mov (.c (.sl 0 [] .nil)), none, false⟩] 0 [0]) (.seq (.seq (.reg [⟨some 3, .mov (.t 0), none, false⟩, ⟨some 4, .eqNil false (.t 3) (.c (.sl 0 [] .nil)), none, false⟩] 0 [0, 4]) (.cond (.t 4) (.seq (.reg [⟨some 2, .mov (.c (.sl 0 [] .nil)), none, false⟩] 0 [2]) .ret) .skip)) (.seq (.reg [⟨some 5, .mkrow 1 [.bool false] 0 [], none, false⟩, ⟨some 6, .mov (.t 0), none, false⟩, ⟨some 7, .append 1 1 (.t 5) (.t 6), none, false⟩, ⟨some 2, .mov (.t 7), none, false⟩] 0 [2]) .ret)), [.t 2]⟩
theorem rc_bclone_ok : compFn PG.P [⟨0, 0, [0], []⟩, ⟨1, 0, [0, 4], []⟩, ⟨2, 0, [2], []⟩, ⟨3, 0, [2], []⟩] 25 = some rc_bclone := by kernel_rfl
noncomputable def rc_sattr : RFn := ⟨1, 6, .seq (.reg [⟨some 2, .mov (.c (.bool false)), none, false⟩] 0 [0]) (.seq (.reg [⟨some 3, .mov (.t 0), none, false⟩, ⟨some 4, .build [.int .i32 0, .int .u16 0, .int .u8 0] [(0, (1, (.c (.int .i32 32)))), (1, (1, (.t 3)))], none, false⟩, ⟨some 5, .call 40 [.t 4], none, false⟩, ⟨some 2, .mov (.t 5), none, false⟩] 0 [2]) .ret), [.t 2]⟩
theorem rc_sattr_ok : compFn PG.P [⟨0, 0, [0], []⟩, ⟨1, 0, [2], []⟩] 22 = some rc_sattr := by kernel_rfl
def boRows (L : List Bool) : List (List DV) := L.map fun b => [.bool b]
theorem boRows_len (L : List Bool) : (boRows L).length = L.length := by simp [boRows]
theorem boRows_get {L : List Bool} {i : Nat} (h : i < L.length) : (boRows L)[i]? = some [.bool (L.getD i false)] := by simp [boRows, h]
theorem boRows_set (L : List Bool) (i : Nat) (b : Bool) : (boRows L).set i [.bool b] = boRows (L.set i b) := by simp [boRows, List.map_set]
theorem boRows_rep (n : Nat) (b : Bool) : List.replicate n [DV.bool b] = boRows (List.replicate n b) := by simp [boRows]
noncomputable def rc_wparts : RFn := ⟨0, 24, .seq (.reg [⟨some 0, .alloc [.int .i32 0, .int .i32 0, .int .i64 0, .int .i32 0, .int .i32 0, .int .i64 0, .int .i32 0, .int .i32 0, .int .i64 0, .int .i32 0, .int .i32 0, .int .i64 0, .int .i32 0, .int .i32 0, .int .i64 0, .int .i32 0, .int .i32 0, .int .i64 0, .int .i32 0, .int .i32 0, .int .i64 0, .int .i32 0, .int .i32 0, .int .i64 0, .int .i32 0, .int .i32 0, .int .i64 0, .int .i32 0, .int .i32 0, .int .i64 0, .int .i32 0, .int .i32 0, .int .i64 0, .int .i32 0, .int .i32 0, .int .i64 0, .int .i32 0, .int .i32 0, .int .i64 0, .int .i32 0, .int .i32 0, .int .i64 0, .int .i32 0, .int .i32 0, .int .i64 0, .int .i32 0, .int .i32 0, .int .i64 0, .int .i32 0, .int .i32 0, .int .i64 0, .int .i32 0, .int .i32 0, .int .i64 0, .int .i32 0, .int .i32 0, .int .i64 0, .int .i32 0, .int .i32 0, .int .i64 0, .int .i32 0, .int .i32 0, .int .i64 0, .int .i32 0, .int .i32 0, .int .i64 0], none, false⟩] 0 [0]) (.seq (.reg [⟨some 1, .build [.int .i32 0, .int .i32 0, .int .i64 0] [(0, (1, (.c (.int .i32 0)))), (1, (1, (.c (.int .i32 31)))), (2, (1, (.c (.int .i64 0))))], none, false⟩, ⟨some 2, .build [.int .i32 0, .int .i32 0, .int .i64 0] [(0, (1, (.c (.int .i32 127)))), (1, (1, (.c (.int .i32 159)))), (2, (1, (.c (.int .i64 0))))], none, false⟩, ⟨some 3, .build [.int .i32 0, .int .i32 0, .int .i64 0] [(0, (1, (.c (.int .i32 768)))), (1, (1, (.c (.int .i32 879)))), (2, (1, (.c (.int .i64 0))))], none, false⟩, ⟨some 4, .build [.int .i32 0, .int .i32 0, .int .i64 0] [(0, (1, (.c (.int .i32 4352)))), (1, (1, (.c (.int .i32 4447)))), (2, (1, (.c (.int .i64 2))))], none, false⟩, ⟨some 5, .build [.int .i32 0, .int .i32 0, .int .i64 0] [(0, (1, (.c (.int .i32 8203)))), (1, (1, (.c (.int .i32 8207)))), (2, (1, (.c (.int .i64 0))))], none, false⟩, ⟨some 6, .build [.int .i32 0, .int .i32 0, .int .i64 0] [(0, (1, (.c (.int .i32 11904)))), (1, (1, (.c (.int .i32 12350)))), (2, (1, (.c (.int .i64 2))))], none, false⟩, ⟨some 7, .build [.int .i32 0, .int .i32 0, .int .i64 0] [(0, (1, (.c (.int .i32 12353)))), (1, (1, (.c (.int .i32 13311)))), (2, (1, (.c (.int .i64 2))))], none, false⟩, ⟨some 8, .build [.int .i32 0, .int .i32 0, .int .i64 0] [(0, (1, (.c (.int .i32 13312)))), (1, (1, (.c (.int .i32 19903)))), (2, (1, (.c (.int .i64 2))))], none, false⟩, ⟨some 9, .build [.int .i32 0, .int .i32 0, .int .i64 0] [(0, (1, (.c (.int .i32 19968)))), (1, (1, (.c (.int .i32 40959)))), (2, (1, (.c (.int .i64 2))))], none, false⟩, ⟨some 10, .build [.int .i32 0, .int .i32 0, .int .i64 0] [(0, (1, (.c (.int .i32 40960)))), (1, (1, (.c (.int .i32 42191)))), (2, (1, (.c (.int .i64 2))))], none, false⟩, ⟨some 11, .build [.int .i32 0, .int .i32 0, .int .i64 0] [(0, (1, (.c (.int .i32 44032)))), (1, (1, (.c (.int .i32 55203)))), (2, (1, (.c (.int .i64 2))))], none, false⟩, ⟨some 12, .build [.int .i32 0, .int .i32 0, .int .i64 0] [(0, (1, (.c (.int .i32 55296)))), (1, (1, (.c (.int .i32 57343)))), (2, (1, (.c (.int .i64 0))))], none, false⟩, ⟨some 13, .build [.int .i32 0, .int .i32 0, .int .i64 0] [(0, (1, (.c (.int .i32 63744)))), (1, (1, (.c (.int .i32 64255)))), (2, (1, (.c (.int .i64 2))))], none, false⟩, ⟨some 14, .build [.int .i32 0, .int .i32 0, .int .i64 0] [(0, (1, (.c (.int .i32 65024)))), (1, (1, (.c (.int .i32 65039)))), (2, (1, (.c (.int .i64 0))))], none, false⟩, ⟨some 15, .build [.int .i32 0, .int .i32 0, .int .i64 0] [(0, (1, (.c (.int .i32 65072)))), (1, (1, (.c (.int .i32 65135)))), (2, (1, (.c (.int .i64 2))))], none, false⟩, ⟨some 16, .build [.int .i32 0, .int .i32 0, .int .i64 0] [(0, (1, (.c (.int .i32 65280)))), (1, (1, (.c (.int .i32 65376)))), (2, (1, (.c (.int .i64 2))))], none, false⟩, ⟨some 17, .build [.int .i32 0, .int .i32 0, .int .i64 0] [(0, (1, (.c (.int .i32 65504)))), (1, (1, (.c (.int .i32 65510)))), (2, (1, (.c (.int .i64 2))))], none, false⟩, ⟨some 18, .build [.int .i32 0, .int .i32 0, .int .i64 0] [(0, (1, (.c (.int .i32 127744)))), (1, (1, (.c (.int .i32 128591)))), (2, (1, (.c (.int .i64 2))))], none, false⟩, ⟨some 19, .build [.int .i32 0, .int .i32 0, .int .i64 0] [(0, (1, (.c (.int .i32 129280)))), (1, (1, (.c (.int .i32 129535)))), (2, (1, (.c (.int .i64 2))))], none, false⟩, ⟨some 20, .build [.int .i32 0, .int .i32 0, .int .i64 0] [(0, (1, (.c (.int .i32 131072)))), (1, (1, (.c (.int .i32 196605)))), (2, (1, (.c (.int .i64 2))))], none, false⟩, ⟨some 21, .build [.int .i32 0, .int .i32 0, .int .i64 0] [(0, (1, (.c (.int .i32 196608)))), (1, (1, (.c (.int .i32 262141)))), (2, (1, (.c (.int .i64 2))))], none, false⟩, ⟨some 22, .build [.int .i32 0, .int .i32 0, .int .i64 0] [(0, (1, (.c (.int .i32 1114112)))), (1, (1, (.c (.int .i32 2147483647)))), (2, (1, (.c (.int .i64 0))))], none, false⟩, ⟨some 23, .build [.int .i32 0, .int .i32 0, .int .i64 0, .int .i32 0, .int .i32 0, .int .i64 0, .int .i32 0, .int .i32 0, .int .i64 0, .int .i32 0, .int .i32 0, .int .i64 0, .int .i32 0, .int .i32 0, .int .i64 0, .int .i32 0, .int .i32 0, .int .i64 0, .int .i32 0, .int .i32 0, .int .i64 0, .int .i32 0, .int .i32 0, .int .i64 0, .int .i32 0, .int .i32 0, .int .i64 0, .int .i32 0, .int .i32 0, .int .i64 0, .int .i32 0, .int .i32 0, .int .i64 0, .int .i32 0, .int .i32 0, .int .i64 0, .int .i32 0, .int .i32 0, .int .i64 0, .int .i32 0, .int .i32 0, .int .i64 0, .int .i32 0, .int .i32 0, .int .i64 0, .int .i32 0, .int .i32 0, .int .i64 0, .int .i32 0, .int .i32 0, .int .i64 0, .int .i32 0, .int .i32 0, .int .i64 0, .int .i32 0, .int .i32 0, .int .i64 0, .int .i32 0, .int .i32 0, .int .i64 0, .int .i32 0, .int .i32 0, .int .i64 0, .int .i32 0, .int .i32 0, .int .i64 0] [(0, (3, (.t 1))), (3, (3, (.t 2))), (6, (3, (.t 3))), (9, (3, (.t 4))), (12, (3, (.t 5))), (15, (3, (.t 6))), (18, (3, (.t 7))), (21, (3, (.t 8))), (24, (3, (.t 9))), (27, (3, (.t 10))), (30, (3, (.t 11))), (33, (3, (.t 12))), (36, (3, (.t 13))), (39, (3, (.t 14))), (42, (3, (.t 15))), (45, (3, (.t 16))), (48, (3, (.t 17))), (51, (3, (.t 18))), (54, (3, (.t 19))), (57, (3, (.t 20))), (60, (3, (.t 21))), (63, (3, (.t 22)))], none, false⟩, ⟨none, .store 66 (.t 0) (.t 23), none, false⟩] 0 [0]) .ret), [.c 0 true 66]⟩
theorem rc_wparts_ok : compFn PG.P [⟨0, 0, [0], []⟩, ⟨1, 0, [0], []⟩] 75 = some rc_wparts := by kernel_rfl
def wpartsL : List (Int × Int × Int) := [(0, 31, 0), (127, 159, 0), (768, 879, 0), (4352, 4447, 2), (8203, 8207, 0), (11904, 12350, 2), (12353, 13311, 2), (13312, 19903, 2), (19968, 40959, 2), (40960, 42191, 2), (44032, 55203, 2), (55296, 57343, 0), (63744, 64255, 2), (65024, 65039, 0), (65072, 65135, 2), (65280, 65376, 2), (65504, 65510, 2), (127744, 128591, 2), (129280, 129535, 2), (131072, 196605, 2), (196608, 262141, 2), (1114112, 2147483647, 0)]
def wpartsC : List DV := wpartsL.flatMap fun p => [.int .i32 p.1, .int .i32 p.2.1, .int .i64 p.2.2]
theorem wparts_K {T : Objs} {K : DV → Objs → Prop} (h : ∀ T', Keep T T' [] → K (.agg wpartsC) T') : CallK PG 75 [] T K := by
  refine CallK.of_fn FOk.nil rc_wparts_ok (by simp [rc_wparts]) ?_
  unfold rc_wparts
  dsimp only
  simp -implicitDefEqProofs -dsimp only [tb_at, vcS, ↓vcP1, ↓vcP2, ↓reduceIte, reduceCtorEq, Nat.reduceLT, Nat.reduceLeDiff, Nat.reduceEqDiff, Nat.reduceAdd, Nat.reduceSub, Nat.reduceMul, Int.reduceLT, Int.reduceLE, Int.reduceEq, Int.reduceToNat, Int.reduceAdd, Int.reduceSub, Int.reduceNeg, List.reduceReplicate, Nat.reducePow, Int.reduceMul]
  exact h _ (Keep.app _ _ _)
noncomputable def rc_wof1 : RFn := ⟨1, 11, .seq (.reg [⟨some 4, .mov (.c (.bool false)), none, false⟩] 0 [0, 1, 2]) (.seq (.regD (.take ⟨some 5, .mov (.t 0), none, false⟩ [] (.take ⟨some 6, .iaddrA 22 3 (.t 1) (.t 5), none, false⟩ [] (.take ⟨some 7, .faddr 1 (.t 6), none, false⟩ [] (.take ⟨some 8, .load false 1 (.t 7), none, false⟩ [] (.take ⟨some 9, .load false 1 (.t 2), none, false⟩ [] (.take ⟨some 10, .bin .geq (.t 8) (.t 9), none, false⟩ [] (.take ⟨some 4, .mov (.t 10), none, false⟩ [] .done))))))) 0 [4]) .ret), [.t 4]⟩
theorem rc_wof1_ok : compFn PG.P [⟨0, 0, [0, 1, 2], []⟩, ⟨1, 0, [4], []⟩] 77 = some rc_wof1 := by kernel_rfl
def triF (p : Int × Int × Int) : List DV := [.int .i32 p.1, .int .i32 p.2.1, .int .i64 p.2.2]
theorem tri_get : ∀ (l : List (Int × Int × Int)) (i : Nat) (p : Int × Int × Int), l[i]? = some p → (l.flatMap triF)[i * 3]? = some (.int .i32 p.1) ∧ (l.flatMap triF)[i * 3 + 1]? = some (.int .i32 p.2.1) ∧ (l.flatMap triF)[i * 3 + 2]? = some (.int .i64 p.2.2)
  | [], i, p, h => by simp at h
  | x :: l, 0, p, h => by simp at h; subst h; simp [triF]
  | x :: l, i + 1, p, h => by
    have := tri_get l i p (by simpa using h)
    rw [List.flatMap_cons, show (i + 1) * 3 = i * 3 + 3 by omega]
    simpa [triF] using this
theorem wparts_get {i : Nat} {p : Int × Int × Int} (h : wpartsL[i]? = some p) : wpartsC[i * 3]? = some (.int .i32 p.1) ∧ wpartsC[i * 3 + 1]? = some (.int .i32 p.2.1) ∧ wpartsC[i * 3 + 2]? = some (.int .i64 p.2.2) := tri_get wpartsL i p h
theorem wof1_K {T : Objs} {K : DV → Objs → Prop} {a b i : Nat} {r : Int} (ha : T[a]? = some (some (.box wpartsC))) (hb : T[b]? = some (some (.box [.int .i32 r]))) (hi : i < 22)
    (h : ∀ p, wpartsL[i]? = some p → K (.bool (decide (r ≤ p.2.1))) T) : CallK PG 77 [.int .i64 i, .ptr a 0 0, .ptr b 0 0] T K := by
  have hi0 : (0 : Int) ≤ i := by omega
  have hi1 : (i : Int) < 22 := by omega
  obtain ⟨p, hp⟩ : ∃ p, wpartsL[i]? = some p := ⟨_, List.getElem?_eq_getElem (show i < wpartsL.length from hi)⟩
  have hg := (wparts_get hp).2.1
  refine CallK.of_fn FOk.nil rc_wof1_ok (by simp [rc_wof1]) ?_
  unfold rc_wof1
  dsimp only
  simp -implicitDefEqProofs -dsimp only [tb_at, tb_all ha, tb_all hb, hi0, hi1, hg, vcS, ↓vcP1, ↓vcP2, ↓reduceIte, reduceCtorEq, Nat.reduceLT, Nat.reduceLeDiff, Nat.reduceEqDiff, Nat.reduceAdd, Nat.reduceSub, Nat.reduceMul, Int.reduceLT, Int.reduceLE, Int.reduceEq, Int.reduceToNat, Int.reduceAdd, Int.reduceSub, Int.reduceNeg, List.reduceReplicate, Nat.reducePow, Int.reduceMul]
  exact h p hp
noncomputable def rc_search_l0 : RC := (.seq (.seq (.reg [⟨some 9, .mov (.t 5), none, false⟩, ⟨some 10, .mov (.t 6), none, false⟩, ⟨some 11, .bin .lss (.t 9) (.t 10), none, false⟩] 0 [1, 5, 6, 11]) (.cond (.t 11) .skip (.ext 0))) (.blk 1 (.seq (.reg [⟨some 12, .mov (.t 5), none, false⟩, ⟨some 13, .mov (.t 6), none, false⟩, ⟨some 14, .bin .add (.t 12) (.t 13), none, false⟩, ⟨some 15, .conv (.i2i .u64) (.t 14), none, false⟩, ⟨some 16, .bin .shr (.t 15) (.c (.int .u64 1)), none, false⟩, ⟨some 17, .conv (.i2i .i64) (.t 16), none, false⟩, ⟨some 7, .mov (.t 17), none, false⟩] 0 [1, 5, 6, 7]) (.seq (.reg [⟨some 18, .mov (.t 1), none, false⟩, ⟨some 19, .mov (.t 7), none, false⟩, ⟨some 20, .calld (.t 18) [.t 19], none, false⟩, ⟨some 21, .un .not (.t 20), none, false⟩] 0 [1, 5, 6, 7, 21]) (.cond (.t 21) (.reg [⟨some 22, .mov (.t 7), none, false⟩, ⟨some 23, .bin .add (.t 22) (.c (.int .i64 1)), none, false⟩, ⟨some 5, .mov (.t 23), none, false⟩] 0 [1, 5, 6]) (.reg [⟨some 24, .mov (.t 7), none, false⟩, ⟨some 6, .mov (.t 24), none, false⟩] 0 [1, 5, 6]))))))
noncomputable def rc_search : RFn := ⟨2, 26, .seq (.reg [⟨some 4, .mov (.c (.int .i64 0)), none, false⟩] 0 [0, 1]) (.seq (.reg [⟨some 8, .mov (.t 0), none, false⟩, ⟨some 5, .mov (.c (.int .i64 0)), none, false⟩, ⟨some 6, .mov (.t 8), none, false⟩] 0 [1, 5, 6]) (.seq (.blk 0 (.loop rc_search_l0)) (.seq (.reg [⟨some 25, .mov (.t 5), none, false⟩, ⟨some 4, .mov (.t 25), none, false⟩] 0 [4]) .ret))), [.t 4]⟩
theorem rc_search_ok : compFn PG.P [⟨0, 0, [0, 1], []⟩, ⟨1, 0, [1, 5, 6], []⟩, ⟨2, 0, [1, 5, 6, 11], []⟩, ⟨3, 0, [1, 5, 6, 7], []⟩, ⟨4, 0, [1, 5, 6, 7, 21], []⟩, ⟨5, 0, [1, 5, 6], []⟩, ⟨6, 0, [1, 5, 6], []⟩, ⟨7, 0, [4], []⟩] 76 = some rc_search := by kernel_rfl
theorem wparts_ord : ∀ i < 22, ∀ j < 22, i ≤ j → (wpartsL.getD i (0, 0, 0)).2.1 ≤ (wpartsL.getD j (0, 0, 0)).2.1 := by decide +kernel
theorem wparts_le {i j : Nat} {p q : Int × Int × Int} (h : i ≤ j) (hp : wpartsL[i]? = some p) (hq : wpartsL[j]? = some q) : p.2.1 ≤ q.2.1 := by
  have hi : i < 22 := (List.getElem?_eq_some_iff.1 hp).1
  have hj : j < 22 := (List.getElem?_eq_some_iff.1 hq).1
  have := wparts_ord i hi j hj h
  simpa [List.getD_eq_getElem?_getD, hp, hq] using this
theorem wrap_u64 {n : Int} (h0 : 0 ≤ n) (h1 : n < 18446744073709551616) : IntKind.u64.wrap n = n := by
  unfold IntKind.wrap
  simp only [show IntKind.u64.bits = 64 from rfl, show IntKind.u64.signed = false from rfl]
  simp
  omega
theorem wsearch_K {T : Objs} {K : DV → Objs → Prop} {a b : Nat} {r : Int} (ha : T[a]? = some (some (.box wpartsC))) (hb : T[b]? = some (some (.box [.int .i32 r])))
    (h : ∀ i : Nat, i ≤ 22 → (∀ j p, j < i → wpartsL[j]? = some p → p.2.1 < r) → (∀ j p, i ≤ j → wpartsL[j]? = some p → r ≤ p.2.1) → K (.int .i64 i) T) : CallK PG 76 [.int .i64 22, .wrap (.clo 77) [.ptr a 0 0, .ptr b 0 0]] T K := by
  refine CallK.of_fn FOk.nil rc_search_ok (by simp [rc_search]) ?_
  unfold rc_search
  dsimp only
  simp -implicitDefEqProofs -dsimp only [tb_at, tb_all ha, tb_all hb, vcS, ↓vcP1, ↓vcP2, ↓reduceIte, reduceCtorEq, Nat.reduceLT, Nat.reduceLeDiff, Nat.reduceEqDiff, Nat.reduceAdd, Nat.reduceSub, Nat.reduceMul, Int.reduceLT, Int.reduceLE, Int.reduceEq, Int.reduceToNat, Int.reduceAdd, Int.reduceSub, Int.reduceNeg, List.reduceReplicate, Nat.reducePow, Int.reduceMul]
  refine LoopWp.inv FOk.nil (S := fun s : Nat × Nat => ⟨[(1, .wrap (.clo 77) [.ptr a 0 0, .ptr b 0 0]), (5, .int .i64 s.1), (6, .int .i64 s.2)], T⟩)
    (I := fun s => s.1 ≤ s.2 ∧ s.2 ≤ 22 ∧ (∀ j p, j < s.1 → wpartsL[j]? = some p → p.2.1 < r) ∧ (∀ j p, s.2 ≤ j → wpartsL[j]? = some p → r ≤ p.2.1))
    (μ := fun s => s.2 - s.1) (0, 22) ⟨by simp, by simp, fun j p hj => by omega, fun j p hj hp => by
      have : j < wpartsL.length := (List.getElem?_eq_some_iff.1 hp).1
      have e : wpartsL.length = 22 := rfl
      dsimp only at hj; omega⟩ ?_ ?_
  · simp -implicitDefEqProofs -dsimp only [wkT_self, vcS, ↓vcP1, ↓vcP2, ↓reduceIte, reduceCtorEq, Nat.reduceLT, Nat.reduceLeDiff, Nat.reduceEqDiff, Nat.reduceAdd, Nat.reduceSub, Nat.reduceMul, Int.reduceLT, Int.reduceLE, Int.reduceEq, Int.reduceToNat, Int.reduceAdd, Int.reduceSub, Int.reduceNeg, List.reduceReplicate, Nat.reducePow, Int.reduceMul]
  · intro ⟨lo, hi⟩ ⟨h1, h2, h3, h4⟩
    dsimp only at h1 h2 h3 h4 ⊢
    unfold rc_search_l0
    by_cases hc : lo < hi
    · have hc' : (lo : Int) < hi := by omega
      have hw1 : IntKind.i64.wrap ((lo : Int) + hi) = ((lo + hi : Nat) : Int) := by rw [wI64 (by omega) (by omega)]; omega
      have hm : IntKind.i64.wrap ((IntKind.u64.wrap ((lo + hi : Nat) : Int)).fdiv (2 ^ min 1 IntKind.u64.bits)) = (((lo + hi) / 2 : Nat) : Int) := by
        rw [show min 1 IntKind.u64.bits = 1 from rfl, wrap_u64 (by omega) (by omega), Int.fdiv_eq_ediv_of_nonneg _ (by decide), wI64 (by omega) (by omega)]
        omega
      have hmid : (lo + hi) / 2 < 22 := by omega
      have hb77 : hasBody PG.P 77 = true := by kernel_rfl
      simp -implicitDefEqProofs -dsimp only [hc', hw1, stV_calld, calldV_clo, hb77, wkT_self, hm, vcS, ↓vcP1, ↓vcP2, ↓reduceIte, reduceCtorEq, Nat.reduceLT, Nat.reduceLeDiff, Nat.reduceEqDiff, Nat.reduceAdd, Nat.reduceSub, Nat.reduceMul, Int.reduceLT, Int.reduceLE, Int.reduceEq, Int.reduceToNat, Int.reduceAdd, Int.reduceSub, Int.reduceNeg, List.reduceReplicate, Nat.reducePow, Int.reduceMul]
      refine wof1_K ha hb hmid fun p hp => ?_
      generalize hmm : (lo + hi) / 2 = m at *
      have hwm : IntKind.i64.wrap ((m : Int) + 1) = ((m + 1 : Nat) : Int) := by rw [wI64 (by omega) (by omega)]; omega
      by_cases hr : r ≤ p.2.1
      · have hd : decide (r ≤ p.2.1) = true := decide_eq_true hr
        rw [hd]
        simp -implicitDefEqProofs -dsimp only [hc', hw1, hm, hwm, wkT_self, vcS, ↓vcP1, ↓vcP2, ↓reduceIte, reduceCtorEq, Nat.reduceLT, Nat.reduceLeDiff, Nat.reduceEqDiff, Nat.reduceAdd, Nat.reduceSub, Nat.reduceMul, Int.reduceLT, Int.reduceLE, Int.reduceEq, Int.reduceToNat, Int.reduceAdd, Int.reduceSub, Int.reduceNeg, List.reduceReplicate, Nat.reducePow, Int.reduceMul]
        refine ⟨(lo, m), ⟨rfl, rfl⟩, ⟨by dsimp only; omega, by dsimp only; omega, h3, fun j q hj hq => ?_⟩, by dsimp only; omega⟩
        exact Int.le_trans hr (wparts_le hj hp hq)
      · have hd : decide (r ≤ p.2.1) = false := decide_eq_false hr
        rw [hd]
        simp -implicitDefEqProofs -dsimp only [hc', hw1, hm, hwm, wkT_self, vcS, ↓vcP1, ↓vcP2, ↓reduceIte, reduceCtorEq, Nat.reduceLT, Nat.reduceLeDiff, Nat.reduceEqDiff, Nat.reduceAdd, Nat.reduceSub, Nat.reduceMul, Int.reduceLT, Int.reduceLE, Int.reduceEq, Int.reduceToNat, Int.reduceAdd, Int.reduceSub, Int.reduceNeg, List.reduceReplicate, Nat.reducePow, Int.reduceMul]
        refine ⟨(m + 1, hi), ⟨rfl, rfl⟩, ⟨by dsimp only; omega, h2, fun j q hj hq => ?_, h4⟩, by dsimp only; omega⟩
        have := wparts_le (i := j) (j := m) (by dsimp only at hj; omega) hq hp
        omega
    · have hc' : ¬ (lo : Int) < hi := by omega
      simp -implicitDefEqProofs -dsimp only [hc', wkT_self, vcS, ↓vcP1, ↓vcP2, ↓reduceIte, reduceCtorEq, Nat.reduceLT, Nat.reduceLeDiff, Nat.reduceEqDiff, Nat.reduceAdd, Nat.reduceSub, Nat.reduceMul, Int.reduceLT, Int.reduceLE, Int.reduceEq, Int.reduceToNat, Int.reduceAdd, Int.reduceSub, Int.reduceNeg, List.reduceReplicate, Nat.reducePow, Int.reduceMul]
      have : lo = hi := by omega
      subst this
      exact h lo h2 h3 h4
noncomputable def rc_wof : RFn := ⟨1, 24, .seq (.reg [⟨some 1, .box 1 (.t 0), none, false⟩, ⟨some 2, .mov (.c (.int .i64 0)), none, false⟩] 0 [1]) (.seq (.seq (.reg [⟨some 5, .load false 1 (.t 1), none, false⟩, ⟨some 6, .bin .lss (.t 5) (.c (.int .i32 0)), none, false⟩] 0 [1, 6]) (.cond (.t 6) (.seq (.reg [⟨some 2, .mov (.c (.int .i64 0)), none, false⟩] 0 [2]) .ret) .skip)) (.seq (.reg [⟨some 7, .call 75 [], none, false⟩, ⟨some 3, .alloc [.int .i32 0, .int .i32 0, .int .i64 0, .int .i32 0, .int .i32 0, .int .i64 0, .int .i32 0, .int .i32 0, .int .i64 0, .int .i32 0, .int .i32 0, .int .i64 0, .int .i32 0, .int .i32 0, .int .i64 0, .int .i32 0, .int .i32 0, .int .i64 0, .int .i32 0, .int .i32 0, .int .i64 0, .int .i32 0, .int .i32 0, .int .i64 0, .int .i32 0, .int .i32 0, .int .i64 0, .int .i32 0, .int .i32 0, .int .i64 0, .int .i32 0, .int .i32 0, .int .i64 0, .int .i32 0, .int .i32 0, .int .i64 0, .int .i32 0, .int .i32 0, .int .i64 0, .int .i32 0, .int .i32 0, .int .i64 0, .int .i32 0, .int .i32 0, .int .i64 0, .int .i32 0, .int .i32 0, .int .i64 0, .int .i32 0, .int .i32 0, .int .i64 0, .int .i32 0, .int .i32 0, .int .i64 0, .int .i32 0, .int .i32 0, .int .i64 0, .int .i32 0, .int .i32 0, .int .i64 0, .int .i32 0, .int .i32 0, .int .i64 0, .int .i32 0, .int .i32 0, .int .i64 0], none, false⟩, ⟨none, .store 66 (.t 3) (.t 7), none, false⟩] 0 [1, 3]) (.seq (.reg [⟨some 8, .mkfn 77 [.t 3, .t 1], none, false⟩, ⟨some 9, .call 76 [.c (.int .i64 22), .t 8], none, false⟩, ⟨some 4, .mov (.t 9), none, false⟩] 0 [1, 3, 4]) (.seq (.seq (.regD (.take ⟨some 10, .mov (.t 4), none, false⟩ [] (.take ⟨some 11, .bin .lss (.t 10) (.c (.int .i64 22)), none, false⟩ [] (.take ⟨some 12, .mov (.t 11), none, false⟩ [] (.take ⟨some 13, .mov (.t 4), some (12, true), false⟩ [] (.take ⟨some 14, .iaddrA 22 3 (.t 3) (.t 13), some (12, true), false⟩ [] (.take ⟨some 15, .faddr 0 (.t 14), some (12, true), false⟩ [] (.take ⟨some 16, .load false 1 (.t 15), some (12, true), false⟩ [] (.take ⟨some 17, .load false 1 (.t 1), some (12, true), false⟩ [] (.take ⟨some 18, .bin .leq (.t 16) (.t 17), some (12, true), false⟩ [] (.take ⟨some 19, .pick (.t 12) (.t 18) (.c (.bool false)), none, false⟩ [] .done)))))))))) 0 [3, 4, 19]) (.cond (.t 19) (.seq (.reg [⟨some 20, .mov (.t 4), none, false⟩, ⟨some 21, .iaddrA 22 3 (.t 3) (.t 20), none, false⟩, ⟨some 22, .faddr 2 (.t 21), none, false⟩, ⟨some 23, .load false 1 (.t 22), none, false⟩, ⟨some 2, .mov (.t 23), none, false⟩] 0 [2]) .ret) .skip)) (.seq (.reg [⟨some 2, .mov (.c (.int .i64 1)), none, false⟩] 0 [2]) .ret))))), [.t 2]⟩
theorem rc_wof_ok : compFn PG.P [⟨0, 0, [1], []⟩, ⟨1, 0, [1, 6], []⟩, ⟨2, 0, [2], []⟩, ⟨3, 0, [1, 3], []⟩, ⟨4, 0, [1, 3, 4], []⟩, ⟨5, 0, [3, 4, 19], []⟩, ⟨6, 0, [2], []⟩, ⟨7, 0, [2], []⟩] 54 = some rc_wof := by kernel_rfl
theorem width_part {r : Int} {i : Nat} (hr : 0 ≤ r) (hr2 : r ≤ 2147483647) (h1 : ∀ j p, j < i → wpartsL[j]? = some p → p.2.1 < r) (h2 : ∀ j p, i ≤ j → wpartsL[j]? = some p → r ≤ p.2.1) (hi : i < 22) :
    ∃ p, wpartsL[i]? = some p ∧ (widthF r : Int) = if p.1 ≤ r then p.2.2 else 1 := by
  have hu := h2 i _ (Nat.le_refl _) (List.getElem?_eq_getElem (show i < wpartsL.length from hi))
  have hl : ∀ k, i = k + 1 → (wpartsL.getD k (0, 0, 0)).2.1 < r := fun k e => by
    have := h1 k _ (by omega) (List.getElem?_eq_getElem (show k < wpartsL.length by show k < 22; omega))
    simpa [List.getD_eq_getElem?_getD, List.getElem?_eq_getElem (show k < wpartsL.length by show k < 22; omega)] using this
  refine ⟨_, List.getElem?_eq_getElem (show i < wpartsL.length from hi), ?_⟩
  clear h1 h2
  unfold widthF mayR inR wides
  simp only [List.any_cons, List.any_nil, Bool.or_false, decide_eq_true_eq, decide_eq_false_iff_not, Bool.or_eq_true]
  match i, hi with
  | 0, _ => simp [wpartsL] at hu ⊢; (repeat' split) <;> omega
  | 1, _ => have := hl 0 rfl; simp [wpartsL] at hu this ⊢; (repeat' split) <;> omega
  | 2, _ => have := hl 1 rfl; simp [wpartsL] at hu this ⊢; (repeat' split) <;> omega
  | 3, _ => have := hl 2 rfl; simp [wpartsL] at hu this ⊢; (repeat' split) <;> omega
  | 4, _ => have := hl 3 rfl; simp [wpartsL] at hu this ⊢; (repeat' split) <;> omega
  | 5, _ => have := hl 4 rfl; simp [wpartsL] at hu this ⊢; (repeat' split) <;> omega
  | 6, _ => have := hl 5 rfl; simp [wpartsL] at hu this ⊢; (repeat' split) <;> omega
  | 7, _ => have := hl 6 rfl; simp [wpartsL] at hu this ⊢; (repeat' split) <;> omega
  | 8, _ => have := hl 7 rfl; simp [wpartsL] at hu this ⊢; (repeat' split) <;> omega
  | 9, _ => have := hl 8 rfl; simp [wpartsL] at hu this ⊢; (repeat' split) <;> omega
  | 10, _ => have := hl 9 rfl; simp [wpartsL] at hu this ⊢; (repeat' split) <;> omega
  | 11, _ => have := hl 10 rfl; simp [wpartsL] at hu this ⊢; (repeat' split) <;> omega
  | 12, _ => have := hl 11 rfl; simp [wpartsL] at hu this ⊢; (repeat' split) <;> omega
  | 13, _ => have := hl 12 rfl; simp [wpartsL] at hu this ⊢; (repeat' split) <;> omega
  | 14, _ => have := hl 13 rfl; simp [wpartsL] at hu this ⊢; (repeat' split) <;> omega
  | 15, _ => have := hl 14 rfl; simp [wpartsL] at hu this ⊢; (repeat' split) <;> omega
  | 16, _ => have := hl 15 rfl; simp [wpartsL] at hu this ⊢; (repeat' split) <;> omega
  | 17, _ => have := hl 16 rfl; simp [wpartsL] at hu this ⊢; (repeat' split) <;> omega
  | 18, _ => have := hl 17 rfl; simp [wpartsL] at hu this ⊢; (repeat' split) <;> omega
  | 19, _ => have := hl 18 rfl; simp [wpartsL] at hu this ⊢; (repeat' split) <;> omega
  | 20, _ => have := hl 19 rfl; simp [wpartsL] at hu this ⊢; (repeat' split) <;> omega
  | 21, _ => have := hl 20 rfl; simp [wpartsL] at hu this ⊢; (repeat' split) <;> omega
  | n + 22, h => omega
theorem wpartsC_len : wpartsC.length = 66 := by decide
theorem wpartsC_one : wpartsC.all DV.one = true := by decide
theorem width_neg {r : Int} (h : r < 0) : (widthF r : Int) = 0 := by
  unfold widthF mayR
  rw [if_pos (by simp; omega)]; rfl
theorem wof_K {T : Objs} {K : DV → Objs → Prop} {r : Int} (hr : -2147483648 ≤ r ∧ r ≤ 2147483647) (h : ∀ T', Keep T T' [] → K (.int .i64 (widthF r)) T') : CallK PG 54 [.int .i32 r] T K := by
  refine CallK.of_fn FOk.nil rc_wof_ok (by simp [rc_wof]) ?_
  unfold rc_wof
  dsimp only
  by_cases h0 : r < 0
  · simp -implicitDefEqProofs -dsimp only [tb_at, h0, vcS, ↓vcP1, ↓vcP2, ↓reduceIte, reduceCtorEq, Nat.reduceLT, Nat.reduceLeDiff, Nat.reduceEqDiff, Nat.reduceAdd, Nat.reduceSub, Nat.reduceMul, Int.reduceLT, Int.reduceLE, Int.reduceEq, Int.reduceToNat, Int.reduceAdd, Int.reduceSub, Int.reduceNeg, List.reduceReplicate, Nat.reducePow, Int.reduceMul]
    rw [← width_neg h0]
    exact h _ (Keep.app _ _ _)
  · simp -implicitDefEqProofs -dsimp only [tb_at, h0, vcS, ↓vcP1, ↓vcP2, ↓reduceIte, reduceCtorEq, Nat.reduceLT, Nat.reduceLeDiff, Nat.reduceEqDiff, Nat.reduceAdd, Nat.reduceSub, Nat.reduceMul, Int.reduceLT, Int.reduceLE, Int.reduceEq, Int.reduceToNat, Int.reduceAdd, Int.reduceSub, Int.reduceNeg, List.reduceReplicate, Nat.reducePow, Int.reduceMul]
    refine wparts_K fun T' k => ?_
    simp -implicitDefEqProofs -dsimp only [tb_at, h0, wpartsC_len, wpartsC_one, vcS, ↓vcP1, ↓vcP2, ↓reduceIte, reduceCtorEq, Nat.reduceLT, Nat.reduceLeDiff, Nat.reduceEqDiff, Nat.reduceAdd, Nat.reduceSub, Nat.reduceMul, Int.reduceLT, Int.reduceLE, Int.reduceEq, Int.reduceToNat, Int.reduceAdd, Int.reduceSub, Int.reduceNeg, List.reduceReplicate, Nat.reducePow, Int.reduceMul]
    have hb := k.at (tb_get0 T [] (some (Ob.box [.int .i32 r]))) (by simp)
    have ha := tb_get0 T' [] (some (Ob.box wpartsC))
    have kT : Keep T (T' ++ [some (Ob.box wpartsC)]) [] := (((Keep.app T _ []).new k (by simp))).newApp _
    refine wsearch_K (r := r) ha (tb_f hb _) fun i hi h1 h2 => ?_
    by_cases hi2 : i < 22
    · obtain ⟨p, hp, hw⟩ := width_part (by omega) hr.2 h1 h2 hi2
      have hg := wparts_get hp
      have hi3 : (i : Int) < 22 := by omega
      have hi0 : (0 : Int) ≤ i := by omega
      by_cases hlo : p.1 ≤ r
      · rw [if_pos hlo] at hw
        simp -implicitDefEqProofs -dsimp only [tb_at, hi3, hi0, hg.1, hg.2.1, hg.2.2, tb_all ha, tb_all (tb_f hb [some (Ob.box wpartsC)]), hlo, vcS, ↓vcP1, ↓vcP2, ↓reduceIte, reduceCtorEq, Nat.reduceLT, Nat.reduceLeDiff, Nat.reduceEqDiff, Nat.reduceAdd, Nat.reduceSub, Nat.reduceMul, Int.reduceLT, Int.reduceLE, Int.reduceEq, Int.reduceToNat, Int.reduceAdd, Int.reduceSub, Int.reduceNeg, List.reduceReplicate, Nat.reducePow, Int.reduceMul]
        rw [← hw]
        exact ⟨by have := kT.1; simp at this; omega, h _ kT⟩
      · rw [if_neg hlo] at hw
        simp -implicitDefEqProofs -dsimp only [tb_at, hi3, hi0, hg.1, hg.2.1, hg.2.2, tb_all ha, tb_all (tb_f hb [some (Ob.box wpartsC)]), hlo, vcS, ↓vcP1, ↓vcP2, ↓reduceIte, reduceCtorEq, Nat.reduceLT, Nat.reduceLeDiff, Nat.reduceEqDiff, Nat.reduceAdd, Nat.reduceSub, Nat.reduceMul, Int.reduceLT, Int.reduceLE, Int.reduceEq, Int.reduceToNat, Int.reduceAdd, Int.reduceSub, Int.reduceNeg, List.reduceReplicate, Nat.reducePow, Int.reduceMul]
        rw [← hw]
        exact ⟨by have := kT.1; simp at this; omega, h _ kT⟩
    · have hl := h1 21 (1114112, 2147483647, 0) (by omega) rfl
      dsimp only at hl
      omega
end Go.Proofs.YtjmnbpilnneonaaDoor
