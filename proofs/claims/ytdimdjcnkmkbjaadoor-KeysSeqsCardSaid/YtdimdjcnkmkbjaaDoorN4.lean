/- Texts K11, K12, K13, K14 in one. -/
import Derived.Test.YtdimdjcnkmkbjaaDoorN3
set_option linter.unusedVariables false
set_option linter.unusedSimpArgs false
set_option maxRecDepth 10000
namespace Go.Proofs.YtdimdjcnkmkbjaaDoor
open Go.RowKit
noncomputable def rc_yhead_l0 : RC := (.seq (.seq (.reg [⟨some 5, .mov (.t 4), none, false⟩, ⟨some 6, .mov (.t 1), none, false⟩, ⟨some 7, .lenS (.t 6), none, false⟩, ⟨some 8, .bin .lss (.t 5) (.t 7), none, false⟩] 0 [0, 1, 4, 8]) (.cond (.t 8) .skip (.ext 0))) (.seq (.blk 1 (.regD (.take ⟨some 11, .mov (.t 0), none, false⟩ [] (.take ⟨some 12, .nilck (.t 11), none, false⟩ [] (.take ⟨some 13, .faddr 1 (.t 12), none, false⟩ [] (.take ⟨some 14, .load false 1 (.t 13), none, false⟩ [] (.take ⟨some 15, .mov (.t 1), none, false⟩ [] (.take ⟨some 16, .mov (.t 4), none, false⟩ [] (.take ⟨some 17, .sliceS (.t 15) none (some (.t 16)), none, false⟩ [] (.op ⟨none, .mset none (.t 14) (.t 17) (.c (.bool true)), none, false⟩ .done)))))))) 0 [0, 1, 4])) (.reg [⟨some 9, .mov (.t 4), none, false⟩, ⟨some 10, .bin .add (.t 9) (.c (.int .i64 1)), none, false⟩, ⟨some 4, .mov (.t 10), none, false⟩] 0 [0, 1, 4])))
noncomputable def rc_yhead : RFn := ⟨2, 18, .seq (.reg [⟨some 4, .mov (.c (.int .i64 1)), none, false⟩] 0 [0, 1, 4]) (.blk 0 (.loop rc_yhead_l0)), []⟩
theorem rc_yhead_ok : compFn PG.P [⟨0, 0, [0, 1, 4], []⟩, ⟨1, 0, [0, 1, 4, 8], []⟩, ⟨2, 0, [0, 1, 4], []⟩, ⟨3, 0, [0, 1, 4], []⟩] 38 = some rc_yhead := by kernel_rfl
def headsF (s : List UInt8) : Nat → List (List UInt8 × DV) → List (List UInt8 × DV)
  | 0, H => H
  | n + 1, H => putL (s.take (n + 1)) (.bool true) (headsF s n H)
theorem getL_headsF (s j : List UInt8) (H : List (List UInt8 × DV)) : ∀ n, n ≤ s.length → getL j (headsF s n H) = if 1 ≤ j.length ∧ j.length ≤ n ∧ s.take j.length = j then some (.bool true) else getL j H
  | 0, _ => by
    rw [if_neg (by omega)]; rfl
  | n + 1, hn => by
    rw [headsF, getL_putL, getL_headsF s j H n (by omega)]
    by_cases e : j = s.take (n + 1)
    · have hl : j.length = n + 1 := by rw [e]; simp; omega
      rw [if_pos e, if_pos ⟨by omega, by omega, by rw [hl]; exact e.symm⟩]
    · rw [if_neg e]
      by_cases h : 1 ≤ j.length ∧ j.length ≤ n ∧ s.take j.length = j
      · rw [if_pos h, if_pos ⟨h.1, by omega, h.2.2⟩]
      · rw [if_neg h, if_neg]
        rintro ⟨h1, h2, h3⟩
        rcases Nat.lt_or_ge n j.length with h4 | h4
        · have hl : j.length = n + 1 := by omega
          exact e (by rw [← hl, h3])
        · exact h ⟨h1, h4, h3⟩
theorem tb_same {α : Type} {T : List α} {k : Nat} {x : α} (h : T[k]? = some x) : T.set k x = T := by
  refine List.ext_getElem? fun j => ?_
  rw [List.getElem?_set]
  split
  · rename_i e; subst e
    rw [if_pos (tb_lt h), h]
  · rfl
theorem yhead_K {T : Objs} {o h : Nat} {m left pa sc at' : DV} {H : List (List UInt8 × DV)} {s : List UInt8} {K : DV → Objs → Prop} (hb : T[o]? = some (some (.box [m, .mp h, left, pa, sc, at']))) (hH : T[h]? = some (some (.map (strE H)))) (hs : s.length ≤ 1000)
    (hK : K (.tup []) (T.set h (some (.map (strE (headsF s (s.length - 1) H)))))) :
    CallK PG 38 [.ptr o 0 0, .str s] T K := by
  have hho : h ≠ o := fun e => by rw [e, hb] at hH; simp at hH
  refine CallK.of_fn FOk.nil rc_yhead_ok (by simp [rc_yhead]) ?_
  unfold rc_yhead
  dsimp only
  simp -implicitDefEqProofs -dsimp only [tb_at, tb_all hb, vcS, ↓vcP1, ↓vcP2, ↓reduceIte, reduceCtorEq, Nat.reduceLT, Nat.reduceLeDiff, Nat.reduceEqDiff, Nat.reduceAdd, Nat.reduceSub, Nat.reduceMul, Int.reduceLT, Int.reduceLE, Int.reduceEq, Int.reduceToNat, Int.reduceAdd, Int.reduceSub, Int.reduceNeg, List.reduceReplicate, Nat.reducePow, Int.reduceMul]
  refine LoopWp.inv FOk.nil (S := fun i : Nat => ⟨[(0, .ptr o 0 0), (1, .str s), (4, .int .i64 ((i + 1 : Nat) : Int))], T.set h (some (.map (strE (headsF s i H))))⟩) (I := fun i => i ≤ s.length - 1) (μ := fun i => s.length - i) 0 (by omega) ?_ ?_
  · simp -implicitDefEqProofs -dsimp only [vcS, ↓vcP1, ↓vcP2, ↓reduceIte, reduceCtorEq, Nat.reduceLT, Nat.reduceLeDiff, Nat.reduceEqDiff, Nat.reduceAdd, Nat.reduceSub, Nat.reduceMul, Int.reduceLT, Int.reduceLE, Int.reduceEq, Int.reduceToNat, Int.reduceAdd, Int.reduceSub, Int.reduceNeg, List.reduceReplicate, Nat.reducePow, Int.reduceMul]
    rw [show headsF s 0 H = H from rfl, tb_same hH]
    exact objsWk_refl _
  · intro i hi
    unfold rc_yhead_l0
    have hb1 : (T.set h (some (.map (strE (headsF s i H)))))[o]? = some (some (.box [m, .mp h, left, pa, sc, at'])) := tb_ne hb _ (Ne.symm hho)
    have hH1 : (T.set h (some (.map (strE (headsF s i H)))))[h]? = some (some (.map (strE (headsF s i H)))) := tb_ss hH _
    by_cases hc : i + 1 < s.length
    · have hc' : ((i + 1 : Nat) : Int) < s.length := by omega
      have hc0 : (0 : Int) ≤ ((i + 1 : Nat) : Int) := by omega
      have hc1 : i + 1 ≤ s.length := by omega
      have hw : IntKind.i64.wrap (((i + 1 : Nat) : Int) + 1) = ((i + 1 + 1 : Nat) : Int) := by rw [wI64 (by omega) (by omega)]; omega
      have hm : msetV (T.set h (some (.map (strE (headsF s i H))))) none (.mp h) (.str (s.take (i + 1))) (.bool true) = some (.undef, (T.set h (some (.map (strE (headsF s i H))))).set h (some (.map (strE (headsF s (i + 1) H))))) := msetV_str hH1 (mins_strE _ _ _)
      simp -implicitDefEqProofs -dsimp only [tb_at, tb_all hb1, tb_all hH1, hc', hc0, hc1, hw, hm, Nat.sub_zero, Nat.zero_le, List.set_set, vcS, ↓vcP1, ↓vcP2, ↓reduceIte, reduceCtorEq, Nat.reduceLT, Nat.reduceLeDiff, Nat.reduceEqDiff, Nat.reduceAdd, Nat.reduceSub, Nat.reduceMul, Int.reduceLT, Int.reduceLE, Int.reduceEq, Int.reduceToNat, Int.reduceAdd, Int.reduceSub, Int.reduceNeg, List.reduceReplicate, Nat.reducePow, Int.reduceMul, vcM]
      exact ⟨i + 1, ⟨rfl, objsWk_refl _⟩, by omega, by omega⟩
    · have hc' : ¬ ((i + 1 : Nat) : Int) < s.length := by omega
      have : i = s.length - 1 := by omega
      subst this
      simp -implicitDefEqProofs -dsimp only [tb_at, hc', vcS, ↓vcP1, ↓vcP2, ↓reduceIte, reduceCtorEq, Nat.reduceLT, Nat.reduceLeDiff, Nat.reduceEqDiff, Nat.reduceAdd, Nat.reduceSub, Nat.reduceMul, Int.reduceLT, Int.reduceLE, Int.reduceEq, Int.reduceToNat, Int.reduceAdd, Int.reduceSub, Int.reduceNeg, List.reduceReplicate, Nat.reducePow, Int.reduceMul]
      exact ⟨by simp, hK⟩
noncomputable def rc_yuse_l0 : RC := (.seq (.reg [⟨some 19, .bin .lss (.t 18) (.t 17), none, false⟩] 0 [0, 16, 17, 18, 19]) (.seq (.cond (.t 19) .skip (.ext 0)) (.seq (.blk 1 (.seq (.reg [⟨some 20, .iaddr 2 (.t 16) (.t 18), none, false⟩, ⟨some 21, .load true 2 (.t 20), none, false⟩, ⟨some 5, .alloc [.sl 0 [] .nil, .str []], none, false⟩, ⟨none, .store 2 (.t 5) (.t 21), none, false⟩] 0 [0, 5, 16, 17, 18]) (.seq (.reg [⟨some 22, .load true 2 (.t 5), none, false⟩, ⟨some 23, .call 39 [.t 22], none, false⟩] 0 [0, 5, 16, 17, 18, 23]) (.cond (.t 23) (.seq (.regD (.take ⟨some 24, .mov (.t 0), none, false⟩ [] (.take ⟨some 25, .nilck (.t 24), none, false⟩ [] (.take ⟨some 26, .faddr 0 (.t 25), none, false⟩ [] (.take ⟨some 27, .load false 1 (.t 26), none, false⟩ [] (.take ⟨some 28, .faddr 0 (.t 5), none, false⟩ [] (.take ⟨some 29, .load false 1 (.t 28), none, false⟩ [] (.take ⟨some 30, .conv .b2s (.t 29), none, false⟩ [] (.take ⟨some 31, .faddr 1 (.t 5), none, false⟩ [] (.take ⟨some 32, .load false 1 (.t 31), none, false⟩ [] (.op ⟨none, .mset none (.t 27) (.t 30) (.t 32), none, false⟩ .done)))))))))) 0 [0, 5, 16, 17, 18]) (.reg [⟨some 33, .mov (.t 0), none, false⟩, ⟨some 34, .faddr 0 (.t 5), none, false⟩, ⟨some 35, .load false 1 (.t 34), none, false⟩, ⟨some 36, .conv .b2s (.t 35), none, false⟩, ⟨some 37, .call 38 [.t 33, .t 36], none, false⟩] 0 [0, 16, 17, 18])) .skip)))) (.reg [⟨some 38, .bin .add (.t 18) (.c (.int .i64 1)), none, false⟩, ⟨some 18, .mov (.t 38), none, false⟩] 0 [0, 16, 17, 18]))))
noncomputable def rc_yuse : RFn := ⟨2, 39, .seq (.reg [⟨some 6, .mov (.t 0), none, false⟩, ⟨some 7, .mov (.t 0), none, false⟩, ⟨some 8, .mkmap, none, false⟩, ⟨some 9, .mkmap, none, false⟩, ⟨some 10, .nilck (.t 6), none, false⟩, ⟨some 11, .faddr 0 (.t 10), none, false⟩, ⟨none, .store 1 (.t 11) (.t 8), none, false⟩, ⟨some 12, .nilck (.t 7), none, false⟩, ⟨some 13, .faddr 1 (.t 12), none, false⟩, ⟨none, .store 1 (.t 13) (.t 9), none, false⟩] 0 [0, 1]) (.seq (.reg [⟨some 14, .mov (.t 0), none, false⟩, ⟨some 15, .call 38 [.t 14, .c (.str [(27), (91), (50), (48), (48), (126)])], none, false⟩] 0 [0, 1]) (.seq (.reg [⟨some 16, .mov (.t 1), none, false⟩, ⟨some 17, .len (.t 16), none, false⟩, ⟨some 18, .mov (.c (.int .i64 0)), none, false⟩] 0 [0, 16, 17, 18]) (.blk 0 (.loop rc_yuse_l0)))), []⟩
theorem rc_yuse_ok : compFn PG.P [⟨0, 0, [0, 1], []⟩, ⟨1, 0, [0, 1], []⟩, ⟨2, 0, [0, 16, 17, 18], []⟩, ⟨3, 0, [0, 16, 17, 18, 19], []⟩, ⟨4, 0, [0, 5, 16, 17, 18], []⟩, ⟨5, 0, [0, 5, 16, 17, 18, 23], []⟩, ⟨6, 0, [0, 5, 16, 17, 18], []⟩, ⟨7, 0, [0, 16, 17, 18], []⟩, ⟨8, 0, [0, 16, 17, 18], []⟩] 16 = some rc_yuse := by kernel_rfl
def cmdU (l : List Bd) : List (List UInt8 × DV) := l.foldl (fun C b => if rightB b = true then putL (toB b.seq) (.str b.cmd) C else C) []
def hdU (l : List Bd) : List (List UInt8 × DV) := l.foldl (fun H b => if rightB b = true then headsF (toB b.seq) ((toB b.seq).length - 1) H else H) (headsF (toB beginL) 5 [])
theorem cmdU_snoc (l : List Bd) (b : Bd) : cmdU (l ++ [b]) = if rightB b = true then putL (toB b.seq) (.str b.cmd) (cmdU l) else cmdU l := by simp [cmdU]
theorem hdU_snoc (l : List Bd) (b : Bd) : hdU (l ++ [b]) = if rightB b = true then headsF (toB b.seq) ((toB b.seq).length - 1) (hdU l) else hdU l := by simp [hdU]
theorem yuse_K {T : Objs} {o p : Nat} {m1 m2 left pa sc at' : DV} {l : List Bd} {K : DV → Objs → Prop} (hb : T[o]? = some (some (.box [m1, m2, left, pa, sc, at']))) (hp : T[p]? = some (some (.arr 2 (bdRows l)))) (hl : l.length ≤ 1000000) (hin : ∀ b ∈ l, inK .u8 b.seq ∧ b.seq.length ≤ 1000)
    (hK : ∀ T' c h, Keep T T' [o] → T.length ≤ c → T.length ≤ h → T'[o]? = some (some (.box [.mp c, .mp h, left, pa, sc, at'])) → T'[c]? = some (some (Ob.map (strE (cmdU l)))) → T'[h]? = some (some (Ob.map (strE (hdU l)))) → K (.tup []) T') :
    CallK PG 16 [.ptr o 0 0, .own p 0 l.length] T K := by
  refine CallK.of_fn FOk.nil rc_yuse_ok (by simp [rc_yuse]) ?_
  unfold rc_yuse
  dsimp only
  simp -implicitDefEqProofs -dsimp only [tb_at, tb_all hb, tb_all hp, vcS, ↓vcP1, ↓vcP2, ↓reduceIte, reduceCtorEq, Nat.reduceLT, Nat.reduceLeDiff, Nat.reduceEqDiff, Nat.reduceAdd, Nat.reduceSub, Nat.reduceMul, Int.reduceLT, Int.reduceLE, Int.reduceEq, Int.reduceToNat, Int.reduceAdd, Int.reduceSub, Int.reduceNeg, List.reduceReplicate, Nat.reducePow, Int.reduceMul, vcM]
  generalize hBX : Ob.box [.mp T.length, .mp (T.length + 1), left, pa, sc, at'] = BX
  have hb1 : (T.set o (some BX) ++ [some (Ob.map []), some (Ob.map [])])[o]? = some (some BX) := tb_f (tb_ss hb _) _
  have hC1 : (T.set o (some BX) ++ [some (Ob.map []), some (Ob.map [])])[T.length]? = some (some (Ob.map (strE []))) := tb_sget0 _ _ _ _ _
  have hH1 : (T.set o (some BX) ++ [some (Ob.map []), some (Ob.map [])])[T.length + 1]? = some (some (Ob.map (strE []))) := tb_sgeti _ _ _ 1 _
  have hoT := tb_lt hb
  have hpT := tb_lt hp
  have hpo : p ≠ o := fun e => by rw [e, hb] at hp; simp at hp
  have k1 : Keep T (T.set o (some BX) ++ [some (Ob.map []), some (Ob.map [])]) [o] := (Keep.set1 _ _ _).trans (Keep.app _ _ []) (by simp) (by simp)
  have hl1 : (T.set o (some BX) ++ [some (Ob.map []), some (Ob.map [])]).length = T.length + 2 := by simp
  have hp1 := k1.at hp (by simpa using hpo)
  generalize T.set o (some BX) ++ [some (Ob.map []), some (Ob.map [])] = T1 at *
  subst hBX
  refine yhead_K hb1 hH1 (by simp) ?_
  simp -implicitDefEqProofs -dsimp only [tb_at, vcS, ↓vcP1, ↓vcP2, ↓reduceIte, reduceCtorEq, Nat.reduceLT, Nat.reduceLeDiff, Nat.reduceEqDiff, Nat.reduceAdd, Nat.reduceSub, Nat.reduceMul, Int.reduceLT, Int.reduceLE, Int.reduceEq, Int.reduceToNat, Int.reduceAdd, Int.reduceSub, Int.reduceNeg, List.reduceReplicate, Nat.reducePow, Int.reduceMul]
  have I0 : Keep T (T1.set (T.length + 1) (some (Ob.map (strE (headsF [27, 91, 50, 48, 48, 126] 5 []))))) [o] ∧ (T1.set (T.length + 1) (some (Ob.map (strE (headsF [27, 91, 50, 48, 48, 126] 5 [])))))[o]? = some (some (.box [.mp T.length, .mp (T.length + 1), left, pa, sc, at'])) ∧
      (T1.set (T.length + 1) (some (Ob.map (strE (headsF [27, 91, 50, 48, 48, 126] 5 [])))))[T.length]? = some (some (Ob.map (strE (cmdU [])))) ∧ (T1.set (T.length + 1) (some (Ob.map (strE (headsF [27, 91, 50, 48, 48, 126] 5 [])))))[T.length + 1]? = some (some (Ob.map (strE (hdU [])))) :=
    ⟨k1.trans (Keep.set1 _ _ _) (by simp) (by simp), tb_ne hb1 _ (by omega), tb_ne hC1 _ (by omega), tb_ss hH1 _⟩
  refine LoopWp.invF FOk.nil (S := fun s : Objs × Nat => ⟨[(0, .ptr o 0 0), (16, .own p 0 l.length), (17, .int .i64 l.length), (18, .int .i64 s.2)], s.1⟩)
    (I := fun s => s.2 ≤ l.length ∧ Keep T s.1 [o] ∧ s.1[o]? = some (some (.box [.mp T.length, .mp (T.length + 1), left, pa, sc, at'])) ∧ s.1[T.length]? = some (some (Ob.map (strE (cmdU (l.take s.2))))) ∧ s.1[T.length + 1]? = some (some (Ob.map (strE (hdU (l.take s.2))))))
    (μ := fun s => l.length - s.2) (T1.set (T.length + 1) (some (Ob.map (strE (headsF [27, 91, 50, 48, 48, 126] 5 [])))), 0) ⟨Nat.zero_le _, I0⟩ ?_ ?_
  · simp -implicitDefEqProofs -dsimp only [vcS, ↓vcP1, ↓vcP2, ↓reduceIte, reduceCtorEq, Nat.reduceLT, Nat.reduceLeDiff, Nat.reduceEqDiff, Nat.reduceAdd, Nat.reduceSub, Nat.reduceMul, Int.reduceLT, Int.reduceLE, Int.reduceEq, Int.reduceToNat, Int.reduceAdd, Int.reduceSub, Int.reduceNeg, List.reduceReplicate, Nat.reducePow, Int.reduceMul]
    exact .refl _
  · intro ⟨T2, i⟩ ⟨i1, i2, i3, i4, i5⟩
    dsimp only at i1 i2 i3 i4 i5 ⊢
    have hp2 := i2.at hp (by simpa using hpo)
    by_cases hc : i < l.length
    · have hc' : (i : Int) < l.length := by omega
      have hc0 : (0 : Int) ≤ i := by omega
      have hw : IntKind.i64.wrap ((i : Int) + 1) = ((i + 1 : Nat) : Int) := by rw [wI64 (by omega) (by omega)]; omega
      have g := bdRows_get (L := l) (i := i) hc
      have hmem : l.getD i default ∈ l := by rw [List.getD_eq_getElem?_getD, List.getElem?_eq_getElem hc]; exact List.getElem_mem _
      have hts : l.take (i + 1) = l.take i ++ [l.getD i default] := by
        rw [List.take_succ_eq_append_getElem hc, List.getD_eq_getElem?_getD, List.getElem?_eq_getElem hc]; rfl
      obtain ⟨b1, b2⟩ := hin _ hmem
      generalize l.getD i default = b at *
      unfold rc_yuse_l0
      simp -implicitDefEqProofs -dsimp only [tb_at, tb_all hp2, tb_all i3, hc', hc0, hw, g, bdRows_len, Nat.zero_add, vcS, ↓vcP1, ↓vcP2, ↓reduceIte, reduceCtorEq, Nat.reduceLT, Nat.reduceLeDiff, Nat.reduceEqDiff, Nat.reduceAdd, Nat.reduceSub, Nat.reduceMul, Int.reduceLT, Int.reduceLE, Int.reduceEq, Int.reduceToNat, Int.reduceAdd, Int.reduceSub, Int.reduceNeg, List.reduceReplicate, Nat.reducePow, Int.reduceMul, vcM]
      refine bright_K (fun n hn => b1.u8 hn) (.inl rfl) (by omega) fun T3 k3 => ?_
      have hx3 := k3.at (tb_get0 T2 [] (some (Ob.box [.sl 1 (intRows .u8 b.seq) .any, .str b.cmd]))) (by simp)
      have o3 := k3.at (tb_f i3 _) (by simp)
      have c3 := k3.at (tb_f i4 _) (by simp)
      have h3 := k3.at (tb_f i5 _) (by simp)
      have k03 : Keep T T3 [o] := (i2.trans (k := [o]) (Keep.app _ _ []) (by simp) (by simp)).trans k3 (by simp) (by simp)
      cases hr : rightB b
      · simp -implicitDefEqProofs -dsimp only [tb_at, tb_all hx3, tb_all o3, hw, vcS, ↓vcP1, ↓vcP2, ↓reduceIte, reduceCtorEq, Nat.reduceLT, Nat.reduceLeDiff, Nat.reduceEqDiff, Nat.reduceAdd, Nat.reduceSub, Nat.reduceMul, Int.reduceLT, Int.reduceLE, Int.reduceEq, Int.reduceToNat, Int.reduceAdd, Int.reduceSub, Int.reduceNeg, List.reduceReplicate, Nat.reducePow, Int.reduceMul, vcM]
        refine ⟨(T3, i + 1), .refl _, ⟨by dsimp only; omega, k03, o3, ?_, ?_⟩, by dsimp only; omega⟩
        · dsimp only; rw [hts, cmdU_snoc, hr]; exact c3
        · dsimp only; rw [hts, hdU_snoc, hr]; exact h3
      · have hm : msetV T3 none (.mp T.length) (.str (List.map (fun n => UInt8.ofNat n.toNat) b.seq)) (.str b.cmd) = some (.undef, T3.set T.length (some (Ob.map (strE (putL (toB b.seq) (.str b.cmd) (cmdU (l.take i))))))) := msetV_str c3 (mins_strE _ _ _)
        simp -implicitDefEqProofs -dsimp only [tb_at, tb_all hx3, tb_all o3, hw, hm, vcS, ↓vcP1, ↓vcP2, ↓reduceIte, reduceCtorEq, Nat.reduceLT, Nat.reduceLeDiff, Nat.reduceEqDiff, Nat.reduceAdd, Nat.reduceSub, Nat.reduceMul, Int.reduceLT, Int.reduceLE, Int.reduceEq, Int.reduceToNat, Int.reduceAdd, Int.reduceSub, Int.reduceNeg, List.reduceReplicate, Nat.reducePow, Int.reduceMul, vcM]
        have hx4 := tb_ne hx3 (some (Ob.map (strE (putL (toB b.seq) (.str b.cmd) (cmdU (l.take i)))))) (j := T.length) (by have := tb_lt i5; omega)
        have o4 := tb_ne o3 (some (Ob.map (strE (putL (toB b.seq) (.str b.cmd) (cmdU (l.take i)))))) (j := T.length) (by omega)
        have h4 := tb_ne h3 (some (Ob.map (strE (putL (toB b.seq) (.str b.cmd) (cmdU (l.take i)))))) (j := T.length) (by omega)
        have c4 := tb_ss c3 (some (Ob.map (strE (putL (toB b.seq) (.str b.cmd) (cmdU (l.take i))))))
        have k04 := k03.trans (k := [o]) (Keep.set1 T3 T.length (some (Ob.map (strE (putL (toB b.seq) (.str b.cmd) (cmdU (l.take i))))))) (by simp) (by simp)
        generalize T3.set T.length (some (Ob.map (strE (putL (toB b.seq) (.str b.cmd) (cmdU (l.take i)))))) = T4 at *
        simp -implicitDefEqProofs -dsimp only [tb_at, tb_all hx4, tb_all o4, hw, vcS, ↓vcP1, ↓vcP2, ↓reduceIte, reduceCtorEq, Nat.reduceLT, Nat.reduceLeDiff, Nat.reduceEqDiff, Nat.reduceAdd, Nat.reduceSub, Nat.reduceMul, Int.reduceLT, Int.reduceLE, Int.reduceEq, Int.reduceToNat, Int.reduceAdd, Int.reduceSub, Int.reduceNeg, List.reduceReplicate, Nat.reducePow, Int.reduceMul, vcM]
        refine yhead_K (s := toB b.seq) o4 h4 (by rw [toB_len]; exact b2) ?_
        simp -implicitDefEqProofs -dsimp only [tb_at, hw, vcS, ↓vcP1, ↓vcP2, ↓reduceIte, reduceCtorEq, Nat.reduceLT, Nat.reduceLeDiff, Nat.reduceEqDiff, Nat.reduceAdd, Nat.reduceSub, Nat.reduceMul, Int.reduceLT, Int.reduceLE, Int.reduceEq, Int.reduceToNat, Int.reduceAdd, Int.reduceSub, Int.reduceNeg, List.reduceReplicate, Nat.reducePow, Int.reduceMul, vcM]
        refine ⟨(T4.set (T.length + 1) (some (Ob.map (strE (headsF (toB b.seq) ((toB b.seq).length - 1) (hdU (l.take i)))))), i + 1), .refl _, ⟨by dsimp only; omega, k04.trans (Keep.set1 _ _ _) (by simp) (by simp), tb_ne o4 _ (by omega), ?_, ?_⟩, by dsimp only; omega⟩
        · dsimp only; rw [hts, cmdU_snoc, hr]; exact tb_ne c4 _ (by omega)
        · dsimp only; rw [hts, hdU_snoc, hr]; exact tb_ss h4 _
    · have hc' : ¬ (i : Int) < l.length := by omega
      have : i = l.length := by omega
      subst this
      unfold rc_yuse_l0
      simp -implicitDefEqProofs -dsimp only [tb_at, hc', vcS, ↓vcP1, ↓vcP2, ↓reduceIte, reduceCtorEq, Nat.reduceLT, Nat.reduceLeDiff, Nat.reduceEqDiff, Nat.reduceAdd, Nat.reduceSub, Nat.reduceMul, Int.reduceLT, Int.reduceLE, Int.reduceEq, Int.reduceToNat, Int.reduceAdd, Int.reduceSub, Int.reduceNeg, List.reduceReplicate, Nat.reducePow, Int.reduceMul]
      rw [List.take_length] at i4 i5
      exact ⟨i2.1, hK T2 _ _ i2 (Nat.le_refl _) (by omega) i3 i4 i5⟩
noncomputable def rc_ynew : RFn := ⟨1, 10, .seq (.reg [⟨some 2, .mov (.c (.lit (.pointer none))), none, false⟩] 0 [0]) (.seq (.reg [⟨some 4, .build [.lit (.map none), .lit (.map none), .sl 0 [] .nil, .bool false, .int .i64 0, .int .i64 0] [], none, false⟩, ⟨some 5, .box 6 (.t 4), none, false⟩, ⟨some 3, .mov (.t 5), none, false⟩] 0 [0, 3]) (.seq (.reg [⟨some 6, .mov (.t 3), none, false⟩, ⟨some 7, .mov (.t 0), none, false⟩, ⟨some 8, .call 16 [.t 6, .t 7], none, false⟩] 0 [3]) (.seq (.reg [⟨some 9, .mov (.t 3), none, false⟩, ⟨some 2, .mov (.t 9), none, false⟩] 0 [2]) .ret))), [.t 2]⟩
theorem rc_ynew_ok : compFn PG.P [⟨0, 0, [0], []⟩, ⟨1, 0, [0, 3], []⟩, ⟨2, 0, [3], []⟩, ⟨3, 0, [2], []⟩] 11 = some rc_ynew := by kernel_rfl
def useL (l : List Bd) : List Bd := l.foldl (fun L b => if rightB b = true then withB b L else L) []
theorem useL_snoc (l : List Bd) (b : Bd) : useL (l ++ [b]) = if rightB b = true then withB b (useL l) else useL l := by simp [useL]
theorem findB_withB (b : Bd) (s : List Int) : ∀ L, findB (withB b L) s = if b.seq = s then some b else findB L s
  | [] => by by_cases h : b.seq = s <;> simp [withB, findB, h]
  | x :: l => by
    unfold withB
    by_cases h : x.seq = b.seq
    · rw [if_pos h]
      by_cases h2 : b.seq = s
      · simp [findB, h2]
      · simp [findB, h2, h]
    · rw [if_neg h]
      have ih := findB_withB b s l
      unfold findB at ih ⊢
      by_cases h2 : x.seq = s
      · have h3 : ¬ b.seq = s := fun e => h (h2.trans e.symm)
        simp [h2, h3]
      · simp only [List.find?_cons, decide_eq_false h2]
        exact ih
theorem any_withB (f : List Int → Bool) (b : Bd) : ∀ L : List Bd, ((withB b L).any fun x => f x.seq) = (f b.seq || L.any fun x => f x.seq)
  | [] => by simp [withB]
  | x :: l => by
    unfold withB
    by_cases h : x.seq = b.seq
    · rw [if_pos h]; simp [h]
    · rw [if_neg h, List.any_cons, any_withB f b l, List.any_cons]
      cases f b.seq <;> cases f x.seq <;> rfl
theorem rev_ind {α : Type} {P : List α → Prop} (h0 : P []) (h1 : ∀ l a, P l → P (l ++ [a])) (l : List α) : P l := by
  have : ∀ m : List α, P m.reverse := fun m => by
    induction m with
    | nil => exact h0
    | cons a m ih => rw [List.reverse_cons]; exact h1 _ _ ih
  simpa using this l.reverse
theorem cmdU_ok (l : List Bd) : (∀ b ∈ l, inK .u8 b.seq ∧ b.seq.length ≤ 1000) → CmdOk (cmdU l) (useL l) := by
  induction l using rev_ind with
  | h0 => intro _ s hs; rfl
  | h1 l b ih =>
    intro hin s hs
    have ih := ih (fun x hx => hin x (by simp [hx])) s hs
    rw [cmdU_snoc, useL_snoc]
    by_cases hr : rightB b = true
    · rw [if_pos hr, if_pos hr, getL_putL, findB_withB, ih]
      have hb := (hin b (by simp)).1
      have := toB_inj (a := s) (b := b.seq) (fun n hn => hs.u8 hn) (fun n hn => hb.u8 hn)
      by_cases e : b.seq = s
      · rw [if_pos e, if_pos (this.2 e.symm)]; rfl
      · rw [if_neg e, if_neg (fun h => e (this.1 h).symm)]
    · rw [if_neg hr, if_neg hr, ih]
def hdOf (s t : List Int) : Bool := decide (s.length < t.length) && stB t s
theorem headB_eq (L : List Bd) (s : List Int) : headB L s = (decide (s ≠ []) && (hdOf s beginL || L.any fun b => hdOf s b.seq)) := by
  unfold headB hdOf
  rfl
theorem hd_iff {s t : List Int} (hs : inK .u8 s) (ht : inK .u8 t) : (1 ≤ (toB s).length ∧ (toB s).length ≤ (toB t).length - 1 ∧ (toB t).take (toB s).length = toB s) ↔ (decide (s ≠ []) && hdOf s t) = true := by
  have e : (toB t).take (toB s).length = toB (t.take s.length) := by rw [toB_len]; simp [toB]
  rw [e, toB_len, toB_len]
  have := toB_inj (a := t.take s.length) (b := s) (fun n hn => (ht.take _).u8 hn) (fun n hn => hs.u8 hn)
  rw [this]
  have hp : s ≠ [] ↔ 1 ≤ s.length := by rw [← List.length_pos_iff]; omega
  simp only [hdOf, stB, Bool.and_eq_true, decide_eq_true_eq, hp]
  constructor
  · rintro ⟨h1, h2, h3⟩; exact ⟨h1, by omega, h3⟩
  · rintro ⟨h1, h2, h3⟩; exact ⟨h1, by omega, h3⟩
theorem hdU_ok (l : List Bd) : (∀ b ∈ l, inK .u8 b.seq ∧ b.seq.length ≤ 1000) → HeadOk (hdU l) (useL l) := by
  induction l using rev_ind with
  | h0 =>
    intro _ s hs
    rw [show hdU [] = headsF (toB beginL) ((toB beginL).length - 1) [] from rfl, getL_headsF _ _ _ _ (by omega), headB_eq]
    have := hd_iff (s := s) (t := beginL) hs (inK_u8 (by simp [beginL]) (by simp [beginL]))
    rw [show (List.any (useL []) fun b => hdOf s b.seq) = false from rfl, Bool.or_false]
    by_cases h : (decide (s ≠ []) && hdOf s beginL) = true
    · rw [if_pos h, if_pos (this.2 h)]
    · rw [if_neg h, if_neg (fun x => h (this.1 x))]; rfl
  | h1 l b ih =>
    intro hin s hs
    have ih := ih (fun x hx => hin x (by simp [hx])) s hs
    rw [hdU_snoc, useL_snoc]
    by_cases hr : rightB b = true
    · rw [if_pos hr, if_pos hr, getL_headsF _ _ _ _ (by omega), ih, headB_eq, headB_eq, any_withB (fun t => hdOf s t) b]
      have := hd_iff (s := s) (t := b.seq) hs (hin b (by simp)).1
      by_cases h : (decide (s ≠ []) && hdOf s b.seq) = true
      · rw [if_pos (this.2 h)]
        obtain ⟨h1, h2⟩ := Bool.and_eq_true_iff.1 h
        rw [h1, h2]; simp
      · rw [if_neg (fun x => h (this.1 x))]
        generalize decide (s ≠ []) = A at *
        generalize hdOf s b.seq = B at *
        cases A <;> cases B <;> simp at h ⊢
    · rw [if_neg hr, if_neg hr, ih]
theorem ynew_K {T : Objs} {p : Nat} {l : List Bd} {K : DV → Objs → Prop} (hp : T[p]? = some (some (.arr 2 (bdRows l)))) (hl : l.length ≤ 1000000) (hin : ∀ b ∈ l, inK .u8 b.seq ∧ b.seq.length ≤ 1000)
    (hK : ∀ T' o c h, Keep T T' [] → T.length ≤ o → T.length ≤ c → T.length ≤ h → DecAt T' o c h (.sl 0 [] .nil) (useL l) [] false 0 0 → K (.ptr o 0 0) T') :
    CallK PG 11 [.own p 0 l.length] T K := by
  refine CallK.of_fn FOk.nil rc_ynew_ok (by simp [rc_ynew]) ?_
  unfold rc_ynew
  dsimp only
  simp -implicitDefEqProofs -dsimp only [tb_at, tb_all hp, vcS, ↓vcP1, ↓vcP2, ↓reduceIte, reduceCtorEq, Nat.reduceLT, Nat.reduceLeDiff, Nat.reduceEqDiff, Nat.reduceAdd, Nat.reduceSub, Nat.reduceMul, Int.reduceLT, Int.reduceLE, Int.reduceEq, Int.reduceToNat, Int.reduceAdd, Int.reduceSub, Int.reduceNeg, List.reduceReplicate, Nat.reducePow, Int.reduceMul, vcM]
  refine ⟨rfl, yuse_K (tb_get0 _ _ _) (tb_f hp _) hl hin fun T' c h k hc hh e1 e2 e3 => ?_⟩
  simp -implicitDefEqProofs -dsimp only [tb_at, vcS, ↓vcP1, ↓vcP2, ↓reduceIte, reduceCtorEq, Nat.reduceLT, Nat.reduceLeDiff, Nat.reduceEqDiff, Nat.reduceAdd, Nat.reduceSub, Nat.reduceMul, Int.reduceLT, Int.reduceLE, Int.reduceEq, Int.reduceToNat, Int.reduceAdd, Int.reduceSub, Int.reduceNeg, List.reduceReplicate, Nat.reducePow, Int.reduceMul, vcM]
  have k1 : Keep T T' [] := (Keep.app T _ []).trans k (by simp) (by simp)
  simp only [List.length_append, List.length_cons, List.length_nil] at hc hh
  exact ⟨k1.1, hK T' _ c h k1 (Nat.le_refl _) (by omega) (by omega) ⟨e1, .inr ⟨rfl, rfl⟩, ⟨_, e2, cmdU_ok l hin⟩, ⟨_, e3, hdU_ok l hin⟩, inK_nil _, by simp⟩⟩
theorem usual2_K {T : Objs} {K : DV → Objs → Prop}
    (h : ∀ T' q, T.length ≤ q → T'[q]? = some (some (.arr 2 (bdRows (usualF 2)))) → Keep T T' [] → K (.own q 0 39) T') : CallK PG 10 [.int .i64 2] T K := by
  refine CallK.of_fn FOk.nil rc_usual_ok (by simp [rc_usual]) ?_
  unfold rc_usual
  dsimp only
  simp -implicitDefEqProofs -dsimp only [vcS, ↓vcP1, ↓vcP2, ↓reduceIte, reduceCtorEq, Nat.reduceLT, Nat.reduceLeDiff, Nat.reduceEqDiff, Nat.reduceAdd, Nat.reduceSub, Nat.reduceMul, Int.reduceLT, Int.reduceLE, Int.reduceEq, Int.reduceToNat, Int.reduceAdd, Int.reduceSub, Int.reduceNeg, List.reduceReplicate, Nat.reducePow, Int.reduceMul]
  refine binds_K (l := viMovL) (tb_get0 _ _ _) (by decide) (by decide) fun T' q hq g k => ?_
  simp -implicitDefEqProofs -dsimp only [vcS, ↓vcP1, ↓vcP2, ↓reduceIte, reduceCtorEq, Nat.reduceLT, Nat.reduceLeDiff, Nat.reduceEqDiff, Nat.reduceAdd, Nat.reduceSub, Nat.reduceMul, Int.reduceLT, Int.reduceLE, Int.reduceEq, Int.reduceToNat, Int.reduceAdd, Int.reduceSub, Int.reduceNeg, List.reduceReplicate, Nat.reducePow, Int.reduceMul]
  refine arrows_K fun T2 q2 hq2 g2 k2 => ?_
  have g1 := k2.at g (by simp)
  have hl1 : (bdRows (bindsF viMovL)).length = 33 := by rw [bdRows_len]; rfl
  have hl2 : (bdRows (bindsF arrowsL)).length = 6 := by rw [bdRows_len]; rfl
  have e2 : (viMovL.length / 2 : Nat) = 33 := rfl
  have htk : (bdRows (bindsF arrowsL)).take 6 = bdRows (bindsF arrowsL) := List.take_of_length_le (by rw [hl2]; omega)
  simp -implicitDefEqProofs -dsimp only [tb_all g1, tb_all g2, hl1, hl2, e2, htk, bdRows_app, tb_at, vcS, ↓vcP1, ↓vcP2, ↓reduceIte, reduceCtorEq, Nat.reduceLT, Nat.reduceLeDiff, Nat.reduceEqDiff, Nat.reduceAdd, Nat.reduceSub, Nat.reduceMul, Int.reduceLT, Int.reduceLE, Int.reduceEq, Int.reduceToNat, Int.reduceAdd, Int.reduceSub, Int.reduceNeg, List.reduceReplicate, Nat.reducePow, Int.reduceMul]
  have K1 := ((Keep.app T _ []).new k (by simp)).new k2 (by simp)
  simp at hq
  have K2 := K1.1
  refine ⟨by simp; omega, h _ T2.length K2 ?_ (K1.new (j := [q]) ⟨by simp, fun k ob hk ho => tb_f (tb_ne ho _ (by simpa using hk)) _⟩ (by simp; omega))⟩
  have := tb_get0 (T2.set q none) [] (some (Ob.arr 2 (bdRows (usualF 2))))
  rw [List.length_set] at this
  exact this
theorem usual1_K {T : Objs} {K : DV → Objs → Prop}
    (h : ∀ T' q, T.length ≤ q → T'[q]? = some (some (.arr 2 (bdRows (usualF 1)))) → Keep T T' [] → K (.own q 0 17) T') : CallK PG 10 [.int .i64 1] T K := by
  refine CallK.of_fn FOk.nil rc_usual_ok (by simp [rc_usual]) ?_
  unfold rc_usual
  dsimp only
  simp -implicitDefEqProofs -dsimp only [vcS, ↓vcP1, ↓vcP2, ↓reduceIte, reduceCtorEq, Nat.reduceLT, Nat.reduceLeDiff, Nat.reduceEqDiff, Nat.reduceAdd, Nat.reduceSub, Nat.reduceMul, Int.reduceLT, Int.reduceLE, Int.reduceEq, Int.reduceToNat, Int.reduceAdd, Int.reduceSub, Int.reduceNeg, List.reduceReplicate, Nat.reducePow, Int.reduceMul]
  refine binds_K (l := viInsL) (tb_get0 _ _ _) (by decide) (by decide) fun T' q hq g k => ?_
  simp -implicitDefEqProofs -dsimp only [vcS, ↓vcP1, ↓vcP2, ↓reduceIte, reduceCtorEq, Nat.reduceLT, Nat.reduceLeDiff, Nat.reduceEqDiff, Nat.reduceAdd, Nat.reduceSub, Nat.reduceMul, Int.reduceLT, Int.reduceLE, Int.reduceEq, Int.reduceToNat, Int.reduceAdd, Int.reduceSub, Int.reduceNeg, List.reduceReplicate, Nat.reducePow, Int.reduceMul]
  refine arrows_K fun T2 q2 hq2 g2 k2 => ?_
  have g1 := k2.at g (by simp)
  have hl1 : (bdRows (bindsF viInsL)).length = 10 := by rw [bdRows_len]; rfl
  have hl2 : (bdRows (bindsF arrowsL)).length = 6 := by rw [bdRows_len]; rfl
  have e2 : (viInsL.length / 2 : Nat) = 10 := rfl
  have htk : (bdRows (bindsF arrowsL)).take 6 = bdRows (bindsF arrowsL) := List.take_of_length_le (by rw [hl2]; omega)
  simp -implicitDefEqProofs -dsimp only [tb_all g1, tb_all g2, hl1, hl2, e2, htk, bdRows_app, tb_at, vcS, ↓vcP1, ↓vcP2, ↓reduceIte, reduceCtorEq, Nat.reduceLT, Nat.reduceLeDiff, Nat.reduceEqDiff, Nat.reduceAdd, Nat.reduceSub, Nat.reduceMul, Int.reduceLT, Int.reduceLE, Int.reduceEq, Int.reduceToNat, Int.reduceAdd, Int.reduceSub, Int.reduceNeg, List.reduceReplicate, Nat.reducePow, Int.reduceMul]
  have K1 := ((Keep.app T _ []).new k (by simp)).new k2 (by simp)
  simp at hq
  have K2 := K1.1
  have K3 : Keep T (T2.set q none ++ [some (Ob.arr 2 (bdRows (bindsF viInsL ++ bindsF arrowsL)))]) [] := K1.new (j := [q]) ⟨by simp, fun k ob hk ho => tb_f (tb_ne ho _ (by simpa using hk)) _⟩ (by simp; omega)
  have G3 : (T2.set q none ++ [some (Ob.arr 2 (bdRows (bindsF viInsL ++ bindsF arrowsL)))])[T2.length]? = some (some (Ob.arr 2 (bdRows (bindsF viInsL ++ bindsF arrowsL)))) := tb_sget0 _ _ _ _ _
  have hle : (T2.set q none).length = T2.length := by simp
  refine binds_K (l := viEscL) (tb_geti _ _ 1) (by decide) (by decide) fun T4 q4 hq4 g4 k4 => ?_
  have G4 := k4.at (tb_get0 (T2.set q none) [some (Ob.arr 1 (stRows viEscL))] (some (Ob.arr 2 (bdRows (bindsF viInsL ++ bindsF arrowsL))))) (by simp)
  rw [hle] at G4
  have hl3 : (bdRows (bindsF viInsL ++ bindsF arrowsL)).length = 16 := by rw [bdRows_len]; rfl
  have hl4 : (bdRows (bindsF viEscL)).length = 1 := by rw [bdRows_len]; rfl
  have e4 : (viEscL.length / 2 : Nat) = 1 := rfl
  have htk4 : (bdRows (bindsF viEscL)).take 1 = bdRows (bindsF viEscL) := List.take_of_length_le (by rw [hl4]; omega)
  have K4 : Keep T T4 [] := (K1.new (j := [q]) ⟨by simp, fun k ob hk ho => tb_f (tb_ne ho _ (by simpa using hk)) _⟩ (by simp; omega)).new k4 (by simp)
  simp -implicitDefEqProofs -dsimp only [tb_all G4, tb_all g4, hl3, hl4, e4, htk4, bdRows_app, tb_at, vcS, ↓vcP1, ↓vcP2, ↓reduceIte, reduceCtorEq, Nat.reduceLT, Nat.reduceLeDiff, Nat.reduceEqDiff, Nat.reduceAdd, Nat.reduceSub, Nat.reduceMul, Int.reduceLT, Int.reduceLE, Int.reduceEq, Int.reduceToNat, Int.reduceAdd, Int.reduceSub, Int.reduceNeg, List.reduceReplicate, Nat.reducePow, Int.reduceMul]
  have hT4 := k4.1
  simp at hT4
  refine ⟨by simp; omega, h _ T4.length (by omega) ?_ (K4.new (j := [T2.length]) ⟨by simp, fun k ob hk ho => tb_f (tb_ne ho _ (by simpa using hk)) _⟩ (by simp; omega))⟩
  have := tb_get0 (T4.set T2.length none) [] (some (Ob.arr 2 (bdRows (usualF 1))))
  rw [List.length_set] at this
  exact this
theorem usual_K {T : Objs} {K : DV → Objs → Prop} {m : Int} (hm : 0 ≤ m ∧ m ≤ 2)
    (h : ∀ T' q, T.length ≤ q → T'[q]? = some (some (.arr 2 (bdRows (usualF m)))) → Keep T T' [] → K (.own q 0 (usualF m).length) T') : CallK PG 10 [.int .i64 m] T K := by
  obtain rfl | rfl | rfl : m = 0 ∨ m = 1 ∨ m = 2 := by omega
  · exact usual0_K h
  · exact usual1_K h
  · exact usual2_K h
theorem usual_in (m : Int) (h : 0 ≤ m ∧ m ≤ 2) : ∀ b ∈ usualF m, inK .u8 b.seq ∧ b.seq.length ≤ 1000 := by
  have key : ∀ m ∈ [(0 : Int), 1, 2], ((usualF m).all fun b => decide (b.seq.length ≤ 1000) && b.seq.all fun n => decide (0 ≤ n) && decide (n ≤ 255)) = true := by decide +kernel
  intro b hb
  have := List.all_eq_true.1 (key m (by simp; omega)) b hb
  simp only [Bool.and_eq_true, decide_eq_true_eq, List.all_eq_true] at this
  exact ⟨inK_u8 (by omega) this.2, this.1⟩
end Go.Proofs.YtdimdjcnkmkbjaaDoor
