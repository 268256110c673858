/- Texts H20, H21, H22, H24 in one. -/
import Derived.Test.YtjmnbpilnneonaaDoorNA
set_option linter.unusedVariables false
set_option linter.unusedSimpArgs false
set_option maxRecDepth 10000
namespace Go.Proofs.YtjmnbpilnneonaaDoor
open Go.RowKit
noncomputable def rc_growsS : RFn := ⟨2, 27, .seq (.reg [⟨some 4, .mov (.c (.int .i64 0)), none, false⟩] 0 [0, 1]) (.seq (.seq (.reg [⟨some 5, .mov (.t 1), none, false⟩, ⟨some 6, .call 36 [.t 5], none, false⟩, ⟨some 7, .un .not (.t 6), none, false⟩, ⟨some 8, .mov (.t 7), none, false⟩, ⟨some 9, .mov (.t 0), some (8, false), false⟩, ⟨some 10, .len (.t 9), some (8, false), false⟩, ⟨some 11, .mov (.t 1), some (8, false), false⟩, ⟨some 12, .bin .rem (.t 10) (.t 11), some (8, false), false⟩, ⟨some 13, .bin .neq (.t 12) (.c (.int .i64 0)), some (8, false), false⟩, ⟨some 14, .pick (.t 8) (.c (.bool true)) (.t 13), none, false⟩, ⟨some 15, .mov (.t 14), none, false⟩, ⟨some 16, .mov (.t 0), some (15, false), false⟩, ⟨some 17, .len (.t 16), some (15, false), false⟩, ⟨some 18, .mov (.t 1), some (15, false), false⟩, ⟨some 19, .bin .quo (.t 17) (.t 18), some (15, false), false⟩, ⟨some 20, .call 36 [.t 19], some (15, false), false⟩, ⟨some 21, .un .not (.t 20), some (15, false), false⟩, ⟨some 22, .pick (.t 15) (.c (.bool true)) (.t 21), none, false⟩] 0 [0, 1, 22]) (.cond (.t 22) (.seq (.reg [⟨some 4, .mov (.c (.int .i64 0)), none, false⟩] 0 [4]) .ret) .skip)) (.seq (.reg [⟨some 23, .mov (.t 0), none, false⟩, ⟨some 24, .len (.t 23), none, false⟩, ⟨some 25, .mov (.t 1), none, false⟩, ⟨some 26, .bin .quo (.t 24) (.t 25), none, false⟩, ⟨some 4, .mov (.t 26), none, false⟩] 0 [4]) .ret)), [.t 4]⟩
theorem rc_growsS_ok : compFn PG.P [⟨0, 0, [0, 1], []⟩, ⟨1, 0, [0, 1, 22], []⟩, ⟨2, 0, [4], []⟩, ⟨3, 0, [4], []⟩] 45 = some rc_growsS := by kernel_rfl
theorem growsS_P {sz_l : Nat} {k_l : SK} {l : List (List DV)} {c : Int}  (hp : l.length ≤ 1000000) :
    PCalls PG 45 [.sl sz_l l k_l, .int .i64 c] fun n RR OO => RR = (((.int .i64 (rowsI l.length c), [])) : DV × Objs).1 ∧ OO = (((.int .i64 (rowsI l.length c), [])) : DV × Objs).2 := by
  refine PCalls.by_fn (res := fun n => ((.int .i64 (rowsI l.length c), []))) TG1_ok rc_growsS_ok (by simp [rc_growsS]) fun n => ?_
  unfold rc_growsS
  dsimp only
  unfold rowsI
  cases hs : sizeB c with
  | false =>
    have h1 := sizeB_f hs
    simp -implicitDefEqProofs -dsimp only [TG1_b, hs, vcS, ↓vcP1, ↓vcP2, ↓reduceIte, reduceCtorEq, Nat.reduceLT, Nat.reduceLeDiff, Nat.reduceEqDiff, Nat.reduceAdd, Nat.reduceSub, Nat.reduceMul, Int.reduceLT, Int.reduceLE, Int.reduceEq, Int.reduceToNat, Int.reduceAdd, Int.reduceSub, Int.reduceNeg, List.reduceReplicate, Nat.reducePow, Int.reduceMul]
    rw [if_neg (by omega)]
  | true =>
    have h1 := sizeB_t hs
    have hc : ¬ c = 0 := by omega
    have hc1 : ¬ c = -1 := by omega
    have hd0 : 0 ≤ (l.length : Int).tdiv c := Int.tdiv_nonneg (by omega) (by omega)
    have hd1 : (l.length : Int).tdiv c ≤ l.length := Int.tdiv_le_self _ (by omega)
    have hw : IntKind.i64.wrap ((l.length : Int).tdiv c) = (l.length : Int).tdiv c := wI64 (by omega) (by omega)
    by_cases hm : (l.length : Int).tmod c = 0
    · cases hq : sizeB ((l.length : Int).tdiv c) with
      | false =>
        have h2 := sizeB_f hq
        simp -implicitDefEqProofs -dsimp only [TG1_b, hs, hc, hc1, hm, hw, hq, vcS, ↓vcP1, ↓vcP2, ↓reduceIte, reduceCtorEq, Nat.reduceLT, Nat.reduceLeDiff, Nat.reduceEqDiff, Nat.reduceAdd, Nat.reduceSub, Nat.reduceMul, Int.reduceLT, Int.reduceLE, Int.reduceEq, Int.reduceToNat, Int.reduceAdd, Int.reduceSub, Int.reduceNeg, List.reduceReplicate, Nat.reducePow, Int.reduceMul]
        rw [if_neg (by omega)]
      | true =>
        have h2 := sizeB_t hq
        simp -implicitDefEqProofs -dsimp only [TG1_b, hs, hc, hc1, hm, hw, hq, vcS, ↓vcP1, ↓vcP2, ↓reduceIte, reduceCtorEq, Nat.reduceLT, Nat.reduceLeDiff, Nat.reduceEqDiff, Nat.reduceAdd, Nat.reduceSub, Nat.reduceMul, Int.reduceLT, Int.reduceLE, Int.reduceEq, Int.reduceToNat, Int.reduceAdd, Int.reduceSub, Int.reduceNeg, List.reduceReplicate, Nat.reducePow, Int.reduceMul]
        rw [if_pos (by omega)]
    · simp -implicitDefEqProofs -dsimp only [TG1_b, hs, hc, hc1, hm, vcS, ↓vcP1, ↓vcP2, ↓reduceIte, reduceCtorEq, Nat.reduceLT, Nat.reduceLeDiff, Nat.reduceEqDiff, Nat.reduceAdd, Nat.reduceSub, Nat.reduceMul, Int.reduceLT, Int.reduceLE, Int.reduceEq, Int.reduceToNat, Int.reduceAdd, Int.reduceSub, Int.reduceNeg, List.reduceReplicate, Nat.reducePow, Int.reduceMul]
      try rw [if_neg (by omega)]
def F_growsS : List DV → Option FSpec
  | [.sl sz_l l k_l, .int .i64 c] => some ⟨l.length ≤ 1000000, fun n => ((.int .i64 (rowsI l.length c), []))⟩
  | _ => none
theorem F_growsS_1 (sz_l : Nat) (l : List (List DV)) (k_l : SK) (c : Int) : F_growsS [.sl sz_l l k_l, .int .i64 c] = some ⟨l.length ≤ 1000000, fun n => ((.int .i64 (rowsI l.length c), []))⟩ := nrfl _
theorem growsS_ok (args : List DV) (s : FSpec) (hs : F_growsS args = some s) (hp : s.pre) : PCalls PG 45 args fun n r os => r = (s.res n).1 ∧ os = (s.res n).2 := by
  unfold F_growsS at hs
  split at hs
  · rename_i sz_l l k_l c
    obtain rfl := sj hs
    have this := growsS_P  (sz_l := sz_l) (k_l := k_l) (c := c)  hp
    exact this
  · cases hs
def TH20 : FL := (45, .o F_growsS) :: TH14
theorem TH20_ok : FOk PG (tab TH20) := FOk.cons TH14_ok growsS_ok
theorem TH20_at (args : List DV) : tab TH20 45 args = (F_growsS args).map .o := nrfl _
theorem TH20_c (args : List DV) : tab TH20 23 args = (F_cloneC args).map .o := nrfl _
theorem TH20_n24 (args : List DV) : tab TH20 24 args = none := nrfl _
theorem growS_K {T : Objs} {sz rows cols y : Nat} {k : SK} {L : List Ce} {K : DV → Objs → Prop} (hz : sz = 3) (g : GrOk L rows cols) (hy : y < rows) (h : ∀ k', K (.sl sz (ceRows (rowF L cols y)) k') T) : CallK PG 24 [.sl sz (ceRows L) k, .int .i64 cols, .int .i64 y] T K := by
  have h1 := g.r
  have h2 := g.c
  have hm : rows * cols ≤ 1000 * 1000 := Nat.mul_le_mul h1.2 h2.2
  have hl := g.lim
  have hgl := g.len
  have hrow := row_in (cols := cols) hy
  have hsucc := row_succ y cols
  have hp : (y : Int) * cols = ((y * cols : Nat) : Int) := by simp
  have hp1 : ((y : Int) + 1) * cols = (((y + 1) * cols : Nat) : Int) := by simp
  have hw1 : IntKind.i64.wrap ((y : Int) + 1) = (y : Int) + 1 := wI64 (by omega) (by omega)
  have hw2 : IntKind.i64.wrap ((y : Int) * cols) = ((y * cols : Nat) : Int) := by rw [hp]; exact wI64 (by omega) (by omega)
  have hw3 : IntKind.i64.wrap (((y : Int) + 1) * cols) = (((y + 1) * cols : Nat) : Int) := by rw [hp1]; exact wI64 (by omega) (by omega)
  have hy0 : ¬ (y : Int) < 0 := by omega
  have hy1 : ¬ (rows : Int) ≤ y := by omega
  refine CallK.of_fn TH20_ok rc_grow_ok (by simp [rc_grow]) ?_
  unfold rc_grow
  dsimp only
  simp -implicitDefEqProofs -dsimp only [TH20_at, F_growsS_1, ceRows_len, rowsI_gr g, hl.1, hy0, hy1, hw1, hw2, hw3, vcS, ↓vcP1, ↓vcP2, ↓reduceIte, reduceCtorEq, Nat.reduceLT, Nat.reduceLeDiff, Nat.reduceEqDiff, Nat.reduceAdd, Nat.reduceSub, Nat.reduceMul, Int.reduceLT, Int.reduceLE, Int.reduceEq, Int.reduceToNat, Int.reduceAdd, Int.reduceSub, Int.reduceNeg, List.reduceReplicate, Nat.reducePow, Int.reduceMul]
  have e : (y + 1) * cols - y * cols = cols := by omega
  rw [e, ceRows_drop, ceRows_take]
  exact ⟨by omega, by omega, ⟨by omega, by omega, .inl hz⟩, h k⟩
theorem srow_K {T : Objs} {s : Sc} {p : Pa} {v : DV} {y : Nat} {K : DV → Objs → Prop} (ok : ScOk s) (hv : ScVal s p v) (hy : y < s.rows) (h : ∀ T' q, T.length ≤ q → T'[q]? = some (some (.arr 3 (ceRows (rowF s.cells s.cols y)))) → Keep T T' [] → K (.own q 0 s.cols) T') : CallK PG 12 [v, .int .i64 y] T K := by
  obtain ⟨z1, z2, z3, k1, k2, k3, m, pr, d1, d2, d3, sv, rfl⟩ := hv
  have o1 : DV.one d1 = true := by obtain ⟨a, b, e, _⟩ := isInts_inv sv.pa.i1; rw [e]; rfl
  have o2 : DV.one d2 = true := by obtain ⟨a, b, e, _⟩ := isInts_inv sv.pa.i2; rw [e]; rfl
  have o3 : DV.one d3 = true := by obtain ⟨a, b, e, _⟩ := isInts_inv sv.pa.i3; rw [e]; rfl
  have hl := ok.g.lim
  have rl := rowF_len ok.g hy
  have hc := ok.g.c
  have cC : isCe z1 (ceRows (rowF s.cells s.cols y)) := isCe_mk (.inl sv.z1) (by omega)
  unfold scD
  refine CallK.of_fn TH20_ok rc_srow_ok (by simp [rc_srow]) ?_
  unfold rc_srow
  dsimp only
  simp -implicitDefEqProofs -dsimp only [tb_at, TH20_n24, o1, o2, o3, vcS, ↓vcP1, ↓vcP2, ↓reduceIte, reduceCtorEq, Nat.reduceLT, Nat.reduceLeDiff, Nat.reduceEqDiff, Nat.reduceAdd, Nat.reduceSub, Nat.reduceMul, Int.reduceLT, Int.reduceLE, Int.reduceEq, Int.reduceToNat, Int.reduceAdd, Int.reduceSub, Int.reduceNeg, List.reduceReplicate, Nat.reducePow, Int.reduceMul]
  refine growS_K sv.z1 ok.g hy fun k' => ?_
  simp -implicitDefEqProofs -dsimp only [tb_at, TH20_c, F_cloneC_1, cC, ceRows_len, rl, o1, o2, o3, vcS, ↓vcP1, ↓vcP2, ↓reduceIte, reduceCtorEq, Nat.reduceLT, Nat.reduceLeDiff, Nat.reduceEqDiff, Nat.reduceAdd, Nat.reduceSub, Nat.reduceMul, Int.reduceLT, Int.reduceLE, Int.reduceEq, Int.reduceToNat, Int.reduceAdd, Int.reduceSub, Int.reduceNeg, List.reduceReplicate, Nat.reducePow, Int.reduceMul]
  exact h _ (T.length + 1) (by omega) (tb_geti _ _ 1) (Keep.app _ _ _)
theorem Frzs.tup1 {T : Objs} {q sz : Nat} {rows : List (List DV)} {cs : List DV} {k : IntKind} {x : Int} (h : T[q]? = some (some (.arr sz rows))) : Frzs ⟨[(0, .tup [.agg cs, .int k x])], T⟩ ⟨[(0, .tup [.agg (cs.map (DV.frz0 q sz rows)), .int k x])], T.set q none⟩ := by
  refine .frz q sz rows ⟨h, fun t => ?_, by simp, fun k ob' hk => ?_⟩ (.refl _)
  · rw [look_single, look_single]
    split
    · exact .inr rfl
    · exact .inl rfl
  · rw [getElem?_set] at hk
    by_cases e : q = k
    · rw [if_pos e] at hk; split at hk <;> simp at hk
    · rw [if_neg e] at hk; exact ⟨fun e' => e e'.symm, ob', hk, frOb.refl (fr0.refl _ _ _) _⟩
theorem Frzs.scT {T0 T : Objs} {o q tq : Nat} {s : Sc} {p : Pa} {m pr : Int} {d1 d2 d3 : DV} {n : IntKind} {x : Int} (k0 : Keep T0 T []) (pa : PaAt p m pr d1 d2 d3) (t : TmAt T0 T o q tq s (.sl 0 [] .nil) m pr d1 d2 d3) (ok : ScOk s) :
    ∃ v T', Frzs ⟨[(0, .tup [.agg (tmBox s q tq (.sl 0 [] .nil) m pr d1 d2 d3), .int n x])], T⟩ ⟨[(0, .tup [v, .int n x])], T'⟩ ∧ ScVal s p v ∧ Keep T0 T' [] ∧ T'.length = T.length := by
  have h1 := Frzs.tup1 (cs := tmBox s q tq (.sl 0 [] .nil) m pr d1 d2 d3) (k := n) (x := x) t.cells
  have h2 := Frzs.tup1 (cs := (tmBox s q tq (.sl 0 [] .nil) m pr d1 d2 d3).map (DV.frz0 q 3 (ceRows s.cells))) (k := n) (x := x) (tb_ne t.tabs none t.qt.symm)
  have k2 : Keep T0 ((T.set q none).set tq none) [] := (k0.put t.nq none).put t.nt none
  have ha : s.alt = false := by
    rcases t.oth with ⟨oq, e, _⟩ | ⟨h, _⟩
    · cases e
    · exact h
  refine ⟨_, _, h1.trans h2, ⟨3, 1, 0, .any, .any, .nil, m, pr, d1, d2, d3, ⟨rfl, rfl, .inr (ok.non ha).1, pa⟩, ?_⟩, k2, by simp⟩
  simp only [tmBox, scD, List.map_cons, List.map_nil, fzOwn q 3 _ _ (ceRows_len s.cells).symm, fzNe _ t.qt.symm, fzSl, fzOwn tq 1 _ _ (boRows_len s.tabs).symm, fzInts pa.i1, fzInts pa.i2, fzInts pa.i3, (ok.non ha).1, ceRows_nil, fzInt, fzBool]
theorem snewV_K {T : Objs} {r c : Nat} {K : DV → Objs → Prop} (hr : 1 ≤ r ∧ r ≤ 1000) (hc : 1 ≤ c ∧ c ≤ 1000) (h : ∀ T' v, Keep T T' [] → ScVal (newF r c) (pa0 0) v → K (.tup [v, .int .i64 0]) T') : CallK PG 10 [.int .i64 r, .int .i64 c] T K := by
  refine CallK.of_fnF FOk.nil rc_snewS_ok (by simp [rc_snewS]) ?_
  unfold rc_snewS
  dsimp only
  have r1 : ¬ (r : Int) < 1 := by omega
  have r2 : ¬ (1000 : Int) < r := by omega
  have c1 : ¬ (c : Int) < 1 := by omega
  have c2 : ¬ (1000 : Int) < c := by omega
  simp -implicitDefEqProofs -dsimp only [tb_at, r1, r2, c1, c2, vcS, ↓vcP1, ↓vcP2, ↓reduceIte, reduceCtorEq, Nat.reduceLT, Nat.reduceLeDiff, Nat.reduceEqDiff, Nat.reduceAdd, Nat.reduceSub, Nat.reduceMul, Int.reduceLT, Int.reduceLE, Int.reduceEq, Int.reduceToNat, Int.reduceAdd, Int.reduceSub, Int.reduceNeg, List.reduceReplicate, Nat.reducePow, Int.reduceMul]
  refine gBlank_K hr hc fun T1 q hq hA k1 => ?_
  have w1 : IntKind.i64.wrap ((r : Int) - 1) = ((r - 1 : Nat) : Int) := by rw [wI64 (by omega) (by omega)]; omega
  have hb := k1.at (tb_get0 T [] (some (Ob.box _))) (by simp)
  simp -implicitDefEqProofs -dsimp only [tb_at, r1, r2, c1, c2, w1, vcS, ↓vcP1, ↓vcP2, ↓reduceIte, reduceCtorEq, Nat.reduceLT, Nat.reduceLeDiff, Nat.reduceEqDiff, Nat.reduceAdd, Nat.reduceSub, Nat.reduceMul, Int.reduceLT, Int.reduceLE, Int.reduceEq, Int.reduceToNat, Int.reduceAdd, Int.reduceSub, Int.reduceNeg, List.reduceReplicate, Nat.reducePow, Int.reduceMul]
  refine stabs_K (was := []) (.inr rfl) hc fun T2 tq htq hB k2 => ?_
  simp -implicitDefEqProofs -dsimp only [tb_at, r1, r2, c1, c2, w1, tb_all (k2.at hb (by simp)), vcS, ↓vcP1, ↓vcP2, ↓reduceIte, reduceCtorEq, Nat.reduceLT, Nat.reduceLeDiff, Nat.reduceEqDiff, Nat.reduceAdd, Nat.reduceSub, Nat.reduceMul, Int.reduceLT, Int.reduceLE, Int.reduceEq, Int.reduceToNat, Int.reduceAdd, Int.reduceSub, Int.reduceNeg, List.reduceReplicate, Nat.reducePow, Int.reduceMul]
  have l1 := k1.1
  have l2 := k2.1
  simp only [List.length_append, List.length_cons, List.length_nil] at l1 hq
  have kk : Keep T T2 [] := ((Keep.app T _ []).new k1 (by simp)).new k2 (by simp)
  have e : newD r c q tq = .agg [.int .i64 r, .int .i64 c, .own q 0 (r * c), .int .i64 0, .int .i64 0, .bool false, .int .u16 0, .int .i64 0, .int .i64 ((r - 1 : Nat) : Int), .own tq 0 c, .int .i64 0, .int .i64 0, .int .u16 0, .bool true, .bool true, .bool false, .sl 0 [] .nil, .int .i64 0, .int .i64 0, .int .i64 0, .int .u8 0, .sl 0 [] .nil, .sl 0 [] .nil, .sl 0 [] .nil] := by
    simp [newD, tmBox, newF, blankG, tabs0_len]
  have lq := tb_lt hA
  have tz : TmAt T (T2.set T.length (some (.box (tmBox (newF r c) q tq (.sl 0 [] .nil) 0 0 (.sl 0 [] .nil) (.sl 0 [] .nil) (.sl 0 [] .nil))))) T.length q tq (newF r c) (.sl 0 [] .nil) 0 0 (.sl 0 [] .nil) (.sl 0 [] .nil) (.sl 0 [] .nil) :=
    ⟨tb_ss (k2.at hb (by simp)) _, tb_ne (k2.at hA (by simp)) _ (by omega), by rw [tabsTo_nil] at hB; exact tb_ne hB _ (by omega), .inr ⟨rfl, 0, .nil, rfl⟩, by omega, by omega, by omega, Dd.ge (Nat.le_refl _), Dd.ge (by omega), Dd.ge (by omega)⟩
  have pz : PaAt (pa0 0) 0 0 (.sl 0 [] .nil) (.sl 0 [] .nil) (.sl 0 [] .nil) := { m := rfl, pr := rfl, i1 := isInts_none _ _ _, i2 := isInts_none _ _ _, i3 := isInts_none _ _ _, e1 := rfl, e2 := rfl, e3 := rfl }
  have e2 : tmBox (newF r c) q tq (.sl 0 [] .nil) 0 0 (.sl 0 [] .nil) (.sl 0 [] .nil) (.sl 0 [] .nil) = _ := DV.agg.inj e
  obtain ⟨v', T', hF, hv, kT, hl⟩ := Frzs.scT (n := .i64) (x := 0) (kk.put (Dd.ge (Nat.le_refl _)) _) pz tz (newF_ok hr hc)
  refine ⟨by simp; omega, .tup [v', .int .i64 0], T', ?_, h T' v' kT hv⟩
  rw [e2] at hF
  exact hF
noncomputable def rc_fresh : RFn := ⟨2, 14, .seq (.reg [⟨some 4, .alloc [.int .i64 0, .int .i64 0, .sl 0 [] .nil, .int .i64 0, .int .i64 0, .bool false, .int .u16 0, .int .i64 0, .int .i64 0, .sl 0 [] .nil, .int .i64 0, .int .i64 0, .int .u16 0, .bool false, .bool false, .bool false, .sl 0 [] .nil, .int .i64 0, .int .i64 0, .int .i64 0, .int .u8 0, .sl 0 [] .nil, .sl 0 [] .nil, .sl 0 [] .nil], none, false⟩] 0 [0, 1, 4]) (.seq (.reg [⟨some 8, .mov (.t 0), none, false⟩, ⟨some 9, .mov (.t 1), none, false⟩, ⟨some 10, .call 10 [.t 8, .t 9], none, false⟩, ⟨some 7, .mov (.t 10), none, false⟩, ⟨some 11, .ext (.t 7) 0, none, false⟩, ⟨some 12, .ext (.t 7) 1, none, false⟩, ⟨some 5, .alloc [.int .i64 0, .int .i64 0, .sl 0 [] .nil, .int .i64 0, .int .i64 0, .bool false, .int .u16 0, .int .i64 0, .int .i64 0, .sl 0 [] .nil, .int .i64 0, .int .i64 0, .int .u16 0, .bool false, .bool false, .bool false, .sl 0 [] .nil, .int .i64 0, .int .i64 0, .int .i64 0, .int .u8 0, .sl 0 [] .nil, .sl 0 [] .nil, .sl 0 [] .nil], none, false⟩, ⟨none, .store 24 (.t 5) (.t 11), none, false⟩, ⟨some 6, .mov (.t 12), none, false⟩] 0 [4, 5]) (.seq (.reg [⟨some 13, .load true 24 (.t 5), none, false⟩, ⟨none, .store 24 (.t 4) (.t 13), none, false⟩] 0 [4]) .ret)), [.c 4 true 24]⟩
theorem rc_fresh_ok : compFn PG.P [⟨0, 0, [0, 1, 4], []⟩, ⟨1, 0, [4, 5], []⟩, ⟨2, 0, [4], []⟩] 8 = some rc_fresh := by kernel_rfl
theorem fresh_K {T : Objs} {r c : Nat} {K : DV → Objs → Prop} (hr : 1 ≤ r ∧ r ≤ 1000) (hc : 1 ≤ c ∧ c ≤ 1000) (h : ∀ T' v, Keep T T' [] → ScVal (newF r c) (pa0 0) v → K v T') : CallK PG 8 [.int .i64 r, .int .i64 c] T K := by
  refine CallK.of_fn FOk.nil rc_fresh_ok (by simp [rc_fresh]) ?_
  unfold rc_fresh
  dsimp only
  simp -implicitDefEqProofs -dsimp only [tb_at, vcS, ↓vcP1, ↓vcP2, ↓reduceIte, reduceCtorEq, Nat.reduceLT, Nat.reduceLeDiff, Nat.reduceEqDiff, Nat.reduceAdd, Nat.reduceSub, Nat.reduceMul, Int.reduceLT, Int.reduceLE, Int.reduceEq, Int.reduceToNat, Int.reduceAdd, Int.reduceSub, Int.reduceNeg, List.reduceReplicate, Nat.reducePow, Int.reduceMul]
  refine snewV_K hr hc fun T1 v k1 hv => ?_
  have hv' := hv
  obtain ⟨z1, z2, z3, j1, j2, j3, m, pr, d1, d2, d3, sv, rfl⟩ := hv
  have o1 : DV.one d1 = true := by obtain ⟨a, b, e, _⟩ := isInts_inv sv.pa.i1; rw [e]; rfl
  have o2 : DV.one d2 = true := by obtain ⟨a, b, e, _⟩ := isInts_inv sv.pa.i2; rw [e]; rfl
  have o3 : DV.one d3 = true := by obtain ⟨a, b, e, _⟩ := isInts_inv sv.pa.i3; rw [e]; rfl
  have hb := k1.at (tb_get0 T [] (some (Ob.box _))) (by simp)
  generalize newF r c = s at *
  unfold scD at hv' ⊢
  simp -implicitDefEqProofs -dsimp only [tb_at, tb_all hb, o1, o2, o3, vcS, ↓vcP1, ↓vcP2, ↓reduceIte, reduceCtorEq, Nat.reduceLT, Nat.reduceLeDiff, Nat.reduceEqDiff, Nat.reduceAdd, Nat.reduceSub, Nat.reduceMul, Int.reduceLT, Int.reduceLE, Int.reduceEq, Int.reduceToNat, Int.reduceAdd, Int.reduceSub, Int.reduceNeg, List.reduceReplicate, Nat.reducePow, Int.reduceMul]
  have kk : Keep T T1 [] := (Keep.app T [_] []).new k1 (by simp)
  exact ⟨by have := kk.1; simp; omega, h _ _ ((kk.put (Dd.ge (Nat.le_refl _)) _).newApp _) hv'⟩
noncomputable def rc_known9 : RFn := ⟨0, 70, .seq (.reg [⟨some 0, .mov (.c (.bool false)), none, false⟩] 0 []) (.seq (.reg [⟨some 7, .call 10 [.c (.int .i64 3), .c (.int .i64 4)], none, false⟩, ⟨some 6, .mov (.t 7), none, false⟩, ⟨some 8, .ext (.t 6) 0, none, false⟩, ⟨some 9, .ext (.t 6) 1, none, false⟩, ⟨some 1, .alloc [.int .i64 0, .int .i64 0, .sl 0 [] .nil, .int .i64 0, .int .i64 0, .bool false, .int .u16 0, .int .i64 0, .int .i64 0, .sl 0 [] .nil, .int .i64 0, .int .i64 0, .int .u16 0, .bool false, .bool false, .bool false, .sl 0 [] .nil, .int .i64 0, .int .i64 0, .int .i64 0, .int .u8 0, .sl 0 [] .nil, .sl 0 [] .nil, .sl 0 [] .nil], none, false⟩, ⟨none, .store 24 (.t 1) (.t 8), none, false⟩, ⟨some 2, .mov (.t 9), none, false⟩] 0 [1, 2]) (.seq (.reg [⟨some 11, .call 10 [.c (.int .i64 0), .c (.int .i64 4)], none, false⟩, ⟨some 10, .mov (.t 11), none, false⟩, ⟨some 12, .ext (.t 10) 0, none, false⟩, ⟨some 13, .ext (.t 10) 1, none, false⟩, ⟨some 3, .alloc [.int .i64 0, .int .i64 0, .sl 0 [] .nil, .int .i64 0, .int .i64 0, .bool false, .int .u16 0, .int .i64 0, .int .i64 0, .sl 0 [] .nil, .int .i64 0, .int .i64 0, .int .u16 0, .bool false, .bool false, .bool false, .sl 0 [] .nil, .int .i64 0, .int .i64 0, .int .i64 0, .int .u8 0, .sl 0 [] .nil, .sl 0 [] .nil, .sl 0 [] .nil], none, false⟩, ⟨none, .store 24 (.t 3) (.t 12), none, false⟩, ⟨some 4, .mov (.t 13), none, false⟩] 0 [1, 2, 4]) (.seq (.seq (.reg [⟨some 14, .mov (.t 2), none, false⟩, ⟨some 15, .bin .neq (.t 14) (.c (.int .i64 0)), none, false⟩, ⟨some 16, .mov (.t 15), none, false⟩, ⟨some 17, .faddr 2 (.t 1), some (16, false), false⟩, ⟨some 18, .load false 1 (.t 17), some (16, false), false⟩, ⟨some 19, .len (.t 18), some (16, false), false⟩, ⟨some 20, .bin .neq (.t 19) (.c (.int .i64 12)), some (16, false), false⟩, ⟨some 21, .pick (.t 16) (.c (.bool true)) (.t 20), none, false⟩] 0 [1, 4, 21]) (.cond (.t 21) (.seq (.reg [⟨some 0, .mov (.c (.bool false)), none, false⟩] 0 [0]) .ret) .skip)) (.seq (.reg [⟨some 22, .load true 24 (.t 1), none, false⟩, ⟨some 23, .mkrow 1 [.int .u8 0] 4 [(0, (.c (.int .u8 97))), (1, (.c (.int .u8 13))), (2, (.c (.int .u8 10))), (3, (.c (.int .u8 98)))], none, false⟩, ⟨some 24, .conv .lit (.t 23), none, true⟩, ⟨some 25, .call 9 [.t 22, .t 24], none, false⟩, ⟨some 5, .alloc [.int .i64 0, .int .i64 0, .sl 0 [] .nil, .int .i64 0, .int .i64 0, .bool false, .int .u16 0, .int .i64 0, .int .i64 0, .sl 0 [] .nil, .int .i64 0, .int .i64 0, .int .u16 0, .bool false, .bool false, .bool false, .sl 0 [] .nil, .int .i64 0, .int .i64 0, .int .i64 0, .int .u8 0, .sl 0 [] .nil, .sl 0 [] .nil, .sl 0 [] .nil], none, false⟩, ⟨none, .store 24 (.t 5) (.t 25), none, false⟩] 0 [4, 5]) (.seq (.reg [⟨some 26, .mov (.t 4), none, false⟩, ⟨some 27, .bin .eql (.t 26) (.c (.int .i64 26)), none, false⟩, ⟨some 28, .mov (.t 27), none, false⟩, ⟨some 29, .faddr 2 (.t 5), some (28, true), false⟩, ⟨some 30, .load false 1 (.t 29), some (28, true), false⟩, ⟨some 31, .len (.t 30), some (28, true), false⟩, ⟨some 32, .bin .eql (.t 31) (.c (.int .i64 12)), some (28, true), false⟩, ⟨some 33, .pick (.t 28) (.t 32) (.c (.bool false)), none, false⟩, ⟨some 34, .mov (.t 33), none, false⟩, ⟨some 35, .faddr 2 (.t 5), some (34, true), false⟩, ⟨some 36, .load false 1 (.t 35), some (34, true), false⟩, ⟨some 37, .iaddr 3 (.t 36) (.c (.int .i64 0)), some (34, true), false⟩, ⟨some 38, .faddr 0 (.t 37), some (34, true), false⟩, ⟨some 39, .load false 1 (.t 38), some (34, true), false⟩, ⟨some 40, .bin .eql (.t 39) (.c (.int .i32 97)), some (34, true), false⟩, ⟨some 41, .pick (.t 34) (.t 40) (.c (.bool false)), none, false⟩, ⟨some 42, .mov (.t 41), none, false⟩, ⟨some 43, .faddr 2 (.t 5), some (42, true), false⟩, ⟨some 44, .load false 1 (.t 43), some (42, true), false⟩, ⟨some 45, .iaddr 3 (.t 44) (.c (.int .i64 4)), some (42, true), false⟩, ⟨some 46, .faddr 0 (.t 45), some (42, true), false⟩, ⟨some 47, .load false 1 (.t 46), some (42, true), false⟩, ⟨some 48, .bin .eql (.t 47) (.c (.int .i32 98)), some (42, true), false⟩, ⟨some 49, .pick (.t 42) (.t 48) (.c (.bool false)), none, false⟩, ⟨some 50, .mov (.t 49), none, false⟩, ⟨some 51, .faddr 3 (.t 5), some (50, true), false⟩, ⟨some 52, .load false 1 (.t 51), some (50, true), false⟩, ⟨some 53, .bin .eql (.t 52) (.c (.int .i64 1)), some (50, true), false⟩, ⟨some 54, .pick (.t 50) (.t 53) (.c (.bool false)), none, false⟩, ⟨some 55, .mov (.t 54), none, false⟩, ⟨some 56, .faddr 4 (.t 5), some (55, true), false⟩, ⟨some 57, .load false 1 (.t 56), some (55, true), false⟩, ⟨some 58, .bin .eql (.t 57) (.c (.int .i64 1)), some (55, true), false⟩, ⟨some 59, .pick (.t 55) (.t 58) (.c (.bool false)), none, false⟩, ⟨some 60, .mov (.t 59), none, false⟩, ⟨some 61, .load true 24 (.t 5), some (60, true), false⟩, ⟨some 62, .call 11 [.t 61], some (60, true), false⟩, ⟨some 63, .pick (.t 60) (.t 62) (.c (.bool false)), none, false⟩, ⟨some 64, .mov (.t 63), none, false⟩, ⟨some 65, .load true 24 (.t 5), some (64, true), false⟩, ⟨some 66, .call 12 [.t 65, .c (.int .i64 1)], some (64, true), false⟩, ⟨some 67, .len (.t 66), some (64, true), false⟩, ⟨some 68, .bin .eql (.t 67) (.c (.int .i64 4)), some (64, true), false⟩, ⟨some 69, .pick (.t 64) (.t 68) (.c (.bool false)), none, false⟩, ⟨some 0, .mov (.t 69), none, false⟩] 0 [0]) .ret))))), [.t 0]⟩
theorem rc_known9_ok : compFn PG.P [⟨0, 0, [], []⟩, ⟨1, 0, [1, 2], []⟩, ⟨2, 0, [1, 2, 4], []⟩, ⟨3, 0, [1, 4, 21], []⟩, ⟨4, 0, [0], []⟩, ⟨5, 0, [4, 5], [24]⟩, ⟨6, 0, [0], []⟩] 7 = some rc_known9 := by kernel_rfl
instance (c : Ce) : Decidable (ceIn c) := by unfold ceIn; infer_instance
def x0K : Sc × Pa := [97, 13, 10, 98].foldl feedF (newF 3 4, pa0 0)
theorem x0K_1 : x0K.1.cells.length = 12 ∧ x0K.1.cells.getD 0 blkC = ⟨97, 0, 0⟩ ∧ x0K.1.cells.getD 4 blkC = ⟨98, 0, 0⟩ ∧ x0K.1.y = 1 ∧ x0K.1.x = 1 ∧ x0K.1.rows = 3 ∧ x0K.1.cols = 4 ∧ x0K.1.wrap = false ∧ x0K.1.alt = false := by decide +kernel
theorem x0K_2 : (∀ c ∈ x0K.1.cells, ceIn c) ∧ x0K.1.other = [] ∧ cellsB x0K.1.cells 3 4 = true ∧ x0K.1.alt = false ∧ atB x0K.1.attr = true ∧ atB x0K.1.sattr = true ∧ prightF x0K.2 = true := by decide +kernel
theorem x0K_R : ScR x0K.1 x0K.2 := by
  obtain ⟨a1, a2, a3, a4, a5, a6, a7⟩ := x0K_2
  obtain ⟨b1, b2, b3, b4, b5, b6, b7, b8, b9⟩ := x0K_1
  refine { ci := a1, oi := ?_, cb := ?_, ob := ?_, ab := a5, sb := a6, pb := a7 }
  · rw [a2]; intro c hc; cases hc
  · rw [b6, b7]; exact a3
  · intro h; rw [a4] at h; cases h
theorem known9_K {T : Objs} {K : DV → Objs → Prop} (h : ∀ T', Keep T T' [] → K (.bool true) T') : CallK PG 7 [] T K := by
  have ok0 : ScOk (newF 3 4) := newF_ok (by decide) (by decide)
  have l0 : ((newF 3 4).cells.length : Int) = 12 := by decide
  refine CallK.of_fn FOk.nil rc_known9_ok (by simp [rc_known9]) ?_
  unfold rc_known9
  dsimp only
  simp -implicitDefEqProofs -dsimp only [tb_at, vcS, ↓vcP1, ↓vcP2, ↓reduceIte, reduceCtorEq, Nat.reduceLT, Nat.reduceLeDiff, Nat.reduceEqDiff, Nat.reduceAdd, Nat.reduceSub, Nat.reduceMul, Int.reduceLT, Int.reduceLE, Int.reduceEq, Int.reduceToNat, Int.reduceAdd, Int.reduceSub, Int.reduceNeg, List.reduceReplicate, Nat.reducePow, Int.reduceMul]
  refine snewV_K (r := 3) (c := 4) (by decide) (by decide) fun T1 v k1 hv => ?_
  have hv' := hv
  obtain ⟨z1, z2, z3, j1, j2, j3, m, pr, d1, d2, d3, sv, rfl⟩ := hv
  have o1 : DV.one d1 = true := by obtain ⟨a, b, e, _⟩ := isInts_inv sv.pa.i1; rw [e]; rfl
  have o2 : DV.one d2 = true := by obtain ⟨a, b, e, _⟩ := isInts_inv sv.pa.i2; rw [e]; rfl
  have o3 : DV.one d3 = true := by obtain ⟨a, b, e, _⟩ := isInts_inv sv.pa.i3; rw [e]; rfl
  generalize hs0 : newF 3 4 = s0 at *
  unfold scD at hv' ⊢
  simp -implicitDefEqProofs -dsimp only [tb_at, o1, o2, o3, vcS, ↓vcP1, ↓vcP2, ↓reduceIte, reduceCtorEq, Nat.reduceLT, Nat.reduceLeDiff, Nat.reduceEqDiff, Nat.reduceAdd, Nat.reduceSub, Nat.reduceMul, Int.reduceLT, Int.reduceLE, Int.reduceEq, Int.reduceToNat, Int.reduceAdd, Int.reduceSub, Int.reduceNeg, List.reduceReplicate, Nat.reducePow, Int.reduceMul]
  refine snewS_no (r := 0) (c := 4) (by decide) fun T2 k2 => ?_
  have hb1 := k2.at (tb_get0 T1 [] (some (Ob.box _))) (by simp)
  simp -implicitDefEqProofs -dsimp only [tb_at, tb_all hb1, o1, o2, o3, ceRows_len, l0, fun q sz rows => fzInts (q := q) (sz := sz) (rows := rows) sv.pa.i1, fun q sz rows => fzInts (q := q) (sz := sz) (rows := rows) sv.pa.i2, fun q sz rows => fzInts (q := q) (sz := sz) (rows := rows) sv.pa.i3, vcS, ↓vcP1, ↓vcP2, ↓reduceIte, reduceCtorEq, Nat.reduceLT, Nat.reduceLeDiff, Nat.reduceEqDiff, Nat.reduceAdd, Nat.reduceSub, Nat.reduceMul, Int.reduceLT, Int.reduceLE, Int.reduceEq, Int.reduceToNat, Int.reduceAdd, Int.reduceSub, Int.reduceNeg, List.reduceReplicate, Nat.reducePow, Int.reduceMul]
  subst hs0
  refine sfeed_K (l := [97, 13, 10, 98]) ok0 (paOk_pa0 0) hv' (.inl rfl) (inK_u8 (by simp) (by decide)) (by simp) fun T3 w k3 hw => ?_
  change ScVal x0K.1 x0K.2 w at hw
  have fo := feed_ok (l := [97, 13, 10, 98]) (x := (newF 3 4, pa0 0)) ok0 (paOk_pa0 0) (by decide)
  change ScOk x0K.1 ∧ paOk x0K.2 at fo
  have R := x0K_R
  obtain ⟨b1, b2, b3, b4, b5, b6, b7, b8, b9⟩ := x0K_1
  obtain ⟨ok1, pk1⟩ := fo
  have g0 := ceRows_get (L := x0K.1.cells) (i := 0) (by omega)
  have g4 := ceRows_get (L := x0K.1.cells) (i := 4) (by omega)
  rw [b2] at g0
  rw [b3] at g4
  generalize x0K.1 = s1 at *
  generalize x0K.2 = p1 at *
  have hw' := hw
  obtain ⟨z1, z2, z3, j1, j2, j3, m, pr, d1, d2, d3, sv1, rfl⟩ := hw
  have o1 : DV.one d1 = true := by obtain ⟨a, b, e, _⟩ := isInts_inv sv1.pa.i1; rw [e]; rfl
  have o2 : DV.one d2 = true := by obtain ⟨a, b, e, _⟩ := isInts_inv sv1.pa.i2; rw [e]; rfl
  have o3 : DV.one d3 = true := by obtain ⟨a, b, e, _⟩ := isInts_inv sv1.pa.i3; rw [e]; rfl
  have z13 := sv1.z1
  subst z13
  have c1 : (s1.cells.length : Int) = 12 := by omega
  have c2 : (s1.y : Int) = 1 := by omega
  have c3 : (s1.x : Int) = 1 := by omega
  have hw2 := hw'
  unfold scD at hw' ⊢
  simp -implicitDefEqProofs -dsimp only [tb_at, o1, o2, o3, ceRows_len, eq_true c1, eq_true c2, eq_true c3, g0, g4, vcS, ↓vcP1, ↓vcP2, ↓reduceIte, reduceCtorEq, Nat.reduceLT, Nat.reduceLeDiff, Nat.reduceEqDiff, Nat.reduceAdd, Nat.reduceSub, Nat.reduceMul, Int.reduceLT, Int.reduceLE, Int.reduceEq, Int.reduceToNat, Int.reduceAdd, Int.reduceSub, Int.reduceNeg, List.reduceReplicate, Nat.reducePow, Int.reduceMul]
  refine ⟨by omega, by omega, ?_⟩
  refine sright_fbf ok1 pk1 hw2 R b8 (by omega) b9 fun T4 k4 => ?_
  have hb4 := k4.at (tb_get0 T3 [] (some (Ob.box _))) (by simp)
  simp -implicitDefEqProofs -dsimp only [tb_at, tb_all hb4, o1, o2, o3, ceRows_len, vcS, ↓vcP1, ↓vcP2, ↓reduceIte, reduceCtorEq, Nat.reduceLT, Nat.reduceLeDiff, Nat.reduceEqDiff, Nat.reduceAdd, Nat.reduceSub, Nat.reduceMul, Int.reduceLT, Int.reduceLE, Int.reduceEq, Int.reduceToNat, Int.reduceAdd, Int.reduceSub, Int.reduceNeg, List.reduceReplicate, Nat.reducePow, Int.reduceMul]
  refine srow_K (y := 1) ok1 hw2 (by omega) fun T5 q hq hA k5 => ?_
  have c4 : (s1.cols : Int) = 4 := by omega
  simp -implicitDefEqProofs -dsimp only [tb_at, o1, o2, o3, ceRows_len, eq_true c4, vcS, ↓vcP1, ↓vcP2, ↓reduceIte, reduceCtorEq, Nat.reduceLT, Nat.reduceLeDiff, Nat.reduceEqDiff, Nat.reduceAdd, Nat.reduceSub, Nat.reduceMul, Int.reduceLT, Int.reduceLE, Int.reduceEq, Int.reduceToNat, Int.reduceAdd, Int.reduceSub, Int.reduceNeg, List.reduceReplicate, Nat.reducePow, Int.reduceMul]
  have q1 : Keep T T1 [] := by first | exact k1 | exact (Keep.app T _ []).new k1 (by simp)
  have q2 : Keep T T2 [] := by first | exact q1.new k2 (by simp) | exact (q1.newApp _).new k2 (by simp)
  have q3 : Keep T T3 [] := by first | exact q2.new k3 (by simp) | exact (q2.newApp _).new k3 (by simp) | exact ((q2.newApp _).put (Dd.ge (by have := q2.1; omega)) _).new k3 (by simp)
  have q4 : Keep T T4 [] := by first | exact q3.new k4 (by simp) | exact (q3.newApp _).new k4 (by simp)
  have q5 : Keep T T5 [] := by first | exact q4.new k5 (by simp) | exact (q4.newApp _).new k5 (by simp)
  exact ⟨q5.1, h _ q5⟩
theorem ScVal.lit {s : Sc} {p : Pa} {v : DV} (h : ScVal s p v) : ∃ z2 z3 k1 k2 k3 m pr d1 d2 d3, v = .agg [.int .i64 s.rows, .int .i64 s.cols, .sl 3 (ceRows s.cells) k1, .int .i64 s.y, .int .i64 s.x, .bool s.wrap, .int .u16 s.attr, .int .i64 s.top, .int .i64 s.bot, .sl z2 (boRows s.tabs) k2, .int .i64 s.sy, .int .i64 s.sx, .int .u16 s.sattr, .bool s.auto, .bool s.shown, .bool s.alt, .sl z3 (ceRows s.other) k3, .int .i64 s.oy, .int .i64 s.ox, .int .i64 m, .int .u8 pr, d1, d2, d3] ∧
    (DV.one d1 = true ∧ DV.one d2 = true ∧ DV.one d3 = true) ∧ (∀ q sz rows, DV.frz0 q sz rows d1 = d1) ∧ (∀ q sz rows, DV.frz0 q sz rows d2 = d2) ∧ (∀ q sz rows, DV.frz0 q sz rows d3 = d3) := by
  obtain ⟨z1, z2, z3, j1, j2, j3, m, pr, d1, d2, d3, sv, rfl⟩ := h
  have o1 : DV.one d1 = true := by obtain ⟨a, b, e, _⟩ := isInts_inv sv.pa.i1; rw [e]; rfl
  have o2 : DV.one d2 = true := by obtain ⟨a, b, e, _⟩ := isInts_inv sv.pa.i2; rw [e]; rfl
  have o3 : DV.one d3 = true := by obtain ⟨a, b, e, _⟩ := isInts_inv sv.pa.i3; rw [e]; rfl
  have z := sv.z1
  subst z
  exact ⟨z2, z3, j1, j2, j3, m, pr, d1, d2, d3, rfl, ⟨o1, o2, o3⟩, fun q sz rows => fzInts sv.pa.i1, fun q sz rows => fzInts sv.pa.i2, fun q sz rows => fzInts sv.pa.i3⟩
theorem inK_b {l : List Int} (hl : l.length ≤ 1000) (h : ∀ c ∈ l, 0 ≤ c ∧ c ≤ 255) : inK .u8 l := ⟨by omega, fun c hc => by have := h c hc; have := u8mm; omega⟩
noncomputable def rc_scrolls_l0 : RC := (.seq (.seq (.reg [⟨some 87, .mov (.t 12), none, false⟩, ⟨some 88, .bin .lss (.t 87) (.c (.int .i64 6)), none, false⟩] 0 [7, 8, 9, 10, 12, 88]) (.cond (.t 88) .skip (.ext 2))) (.seq (.blk 3 (.seq (.reg [⟨some 91, .mov (.t 12), none, false⟩, ⟨some 92, .bin .add (.c (.int .i64 49)) (.t 91), none, false⟩, ⟨some 93, .conv (.i2i .i32) (.t 92), none, false⟩, ⟨some 13, .mov (.t 93), none, false⟩] 0 [7, 8, 9, 10, 12, 13]) (.seq (.seq (.reg [⟨some 94, .mov (.t 12), none, false⟩, ⟨some 95, .mov (.t 8), none, false⟩, ⟨some 96, .bin .sub (.t 95) (.c (.int .i64 1)), none, false⟩, ⟨some 97, .bin .geq (.t 94) (.t 96), none, false⟩, ⟨some 98, .mov (.t 97), none, false⟩, ⟨some 99, .mov (.t 12), some (98, true), false⟩, ⟨some 100, .mov (.t 9), some (98, true), false⟩, ⟨some 101, .bin .sub (.t 100) (.c (.int .i64 1)), some (98, true), false⟩, ⟨some 102, .bin .leq (.t 99) (.t 101), some (98, true), false⟩, ⟨some 103, .pick (.t 98) (.t 102) (.c (.bool false)), none, false⟩] 0 [7, 8, 9, 10, 12, 13, 103]) (.cond (.t 103) (.seq (.reg [⟨some 104, .mov (.t 12), none, false⟩, ⟨some 105, .bin .add (.c (.int .i64 49)) (.t 104), none, false⟩, ⟨some 106, .mov (.t 10), none, false⟩, ⟨some 107, .bin .add (.t 105) (.t 106), none, false⟩, ⟨some 108, .conv (.i2i .i32) (.t 107), none, false⟩, ⟨some 13, .mov (.t 108), none, false⟩] 0 [7, 8, 9, 10, 12, 13]) (.seq (.reg [⟨some 109, .mov (.t 12), none, false⟩, ⟨some 110, .mov (.t 10), none, false⟩, ⟨some 111, .bin .add (.t 109) (.t 110), none, false⟩, ⟨some 112, .mov (.t 9), none, false⟩, ⟨some 113, .bin .sub (.t 112) (.c (.int .i64 1)), none, false⟩, ⟨some 114, .bin .gtr (.t 111) (.t 113), none, false⟩] 0 [7, 8, 9, 10, 12, 13, 114]) (.cond (.t 114) (.reg [⟨some 13, .mov (.c (.int .i32 32)), none, false⟩] 0 [7, 8, 9, 10, 12, 13]) .skip))) .skip)) (.seq (.reg [⟨some 115, .faddr 2 (.t 7), none, false⟩, ⟨some 116, .load false 1 (.t 115), none, false⟩, ⟨some 117, .mov (.t 12), none, false⟩, ⟨some 118, .bin .mul (.c (.int .i64 4)) (.t 117), none, false⟩, ⟨some 119, .iaddr 3 (.t 116) (.t 118), none, false⟩, ⟨some 120, .faddr 0 (.t 119), none, false⟩, ⟨some 121, .load false 1 (.t 120), none, false⟩, ⟨some 122, .mov (.t 13), none, false⟩, ⟨some 123, .bin .neq (.t 121) (.t 122), none, false⟩] 0 [7, 8, 9, 10, 12, 123]) (.cond (.t 123) (.seq (.reg [⟨some 6, .mov (.c (.bool false)), none, false⟩] 0 [6]) .ret) .skip))))) (.reg [⟨some 89, .mov (.t 12), none, false⟩, ⟨some 90, .bin .add (.t 89) (.c (.int .i64 1)), none, false⟩, ⟨some 12, .mov (.t 90), none, false⟩] 0 [7, 8, 9, 10, 12])))
noncomputable def rc_scrolls_c76 : RC := (.seq (.seq (.reg [⟨some 76, .faddr 2 (.t 7), none, false⟩, ⟨some 77, .load false 1 (.t 76), none, false⟩, ⟨some 78, .len (.t 77), none, false⟩, ⟨some 79, .bin .neq (.t 78) (.c (.int .i64 24)), none, false⟩, ⟨some 80, .mov (.t 79), none, false⟩, ⟨some 81, .faddr 3 (.t 7), some (80, false), false⟩, ⟨some 82, .load false 1 (.t 81), some (80, false), false⟩, ⟨some 83, .mov (.t 9), some (80, false), false⟩, ⟨some 84, .bin .sub (.t 83) (.c (.int .i64 1)), some (80, false), false⟩, ⟨some 85, .bin .neq (.t 82) (.t 84), some (80, false), false⟩, ⟨some 86, .pick (.t 80) (.c (.bool true)) (.t 85), none, false⟩] 0 [7, 8, 9, 10, 86]) (.cond (.t 86) (.seq (.reg [⟨some 6, .mov (.c (.bool false)), none, false⟩] 0 [6]) .ret) .skip)) (.seq (.seq (.reg [⟨some 12, .mov (.c (.int .i64 0)), none, false⟩] 0 [7, 8, 9, 10, 12]) (.blk 2 (.loop rc_scrolls_l0))) (.seq (.reg [⟨some 6, .mov (.c (.bool true)), none, false⟩] 0 [6]) .ret)))
theorem rc_scrolls_c76_s (E : Prg) (F : FTab) (n : Nat) (Q : Exit → St → Prop) (st : St) : RC.wp E F n rc_scrolls_c76 Q st = WpH E F n rc_scrolls_c76 Q st := nrfl _
noncomputable def rc_scrolls_l1 : RC := (.seq (.seq (.reg [⟨some 68, .mov (.t 11), none, false⟩, ⟨some 69, .mov (.t 10), none, false⟩, ⟨some 70, .bin .lss (.t 68) (.t 69), none, false⟩] 0 [7, 8, 9, 10, 11, 70]) (.cond (.t 70) .skip (.ext 0))) (.seq (.blk 1 (.reg [⟨some 73, .load true 24 (.t 7), none, false⟩, ⟨some 74, .mkrow 1 [.int .u8 0] 1 [(0, (.c (.int .u8 10)))], none, true⟩, ⟨some 75, .call 9 [.t 73, .t 74], none, false⟩, ⟨none, .store 24 (.t 7) (.t 75), none, false⟩] 0 [7, 8, 9, 10, 11])) (.reg [⟨some 71, .mov (.t 11), none, false⟩, ⟨some 72, .bin .add (.t 71) (.c (.int .i64 1)), none, false⟩, ⟨some 11, .mov (.t 72), none, false⟩] 0 [7, 8, 9, 10, 11])))
noncomputable def rc_scrolls : RFn := ⟨3, 124, .seq (.reg [⟨some 6, .mov (.c (.bool false)), none, false⟩] 0 [0, 1, 2]) (.seq (.seq (.reg [⟨some 14, .call 7 [], none, false⟩, ⟨some 15, .un .not (.t 14), none, false⟩] 0 [0, 1, 2, 15]) (.cond (.t 15) (.seq (.reg [⟨some 6, .mov (.c (.bool false)), none, false⟩] 0 [6]) .ret) .skip)) (.seq (.reg [⟨some 16, .call 8 [.c (.int .i64 6), .c (.int .i64 4)], none, false⟩, ⟨some 7, .alloc [.int .i64 0, .int .i64 0, .sl 0 [] .nil, .int .i64 0, .int .i64 0, .bool false, .int .u16 0, .int .i64 0, .int .i64 0, .sl 0 [] .nil, .int .i64 0, .int .i64 0, .int .u16 0, .bool false, .bool false, .bool false, .sl 0 [] .nil, .int .i64 0, .int .i64 0, .int .i64 0, .int .u8 0, .sl 0 [] .nil, .sl 0 [] .nil, .sl 0 [] .nil], none, false⟩, ⟨none, .store 24 (.t 7) (.t 16), none, false⟩] 0 [0, 1, 2, 7]) (.seq (.reg [⟨some 17, .mov (.t 1), none, false⟩, ⟨some 18, .bin .rem (.t 17) (.c (.int .u8 6)), none, false⟩, ⟨some 19, .conv (.i2i .i64) (.t 18), none, false⟩, ⟨some 20, .bin .add (.t 19) (.c (.int .i64 1)), none, false⟩, ⟨some 21, .mov (.t 2), none, false⟩, ⟨some 22, .bin .rem (.t 21) (.c (.int .u8 6)), none, false⟩, ⟨some 23, .conv (.i2i .i64) (.t 22), none, false⟩, ⟨some 24, .bin .add (.t 23) (.c (.int .i64 1)), none, false⟩, ⟨some 8, .mov (.t 20), none, false⟩, ⟨some 9, .mov (.t 24), none, false⟩] 0 [0, 7, 8, 9]) (.seq (.reg [⟨some 25, .load true 24 (.t 7), none, false⟩, ⟨some 26, .mkrow 1 [.int .u8 0] 16 [(0, (.c (.int .u8 49))), (1, (.c (.int .u8 13))), (2, (.c (.int .u8 10))), (3, (.c (.int .u8 50))), (4, (.c (.int .u8 13))), (5, (.c (.int .u8 10))), (6, (.c (.int .u8 51))), (7, (.c (.int .u8 13))), (8, (.c (.int .u8 10))), (9, (.c (.int .u8 52))), (10, (.c (.int .u8 13))), (11, (.c (.int .u8 10))), (12, (.c (.int .u8 53))), (13, (.c (.int .u8 13))), (14, (.c (.int .u8 10))), (15, (.c (.int .u8 54)))], none, false⟩, ⟨some 27, .conv .lit (.t 26), none, true⟩, ⟨some 28, .call 9 [.t 25, .t 27], none, false⟩, ⟨none, .store 24 (.t 7) (.t 28), none, false⟩] 0 [0, 7, 8, 9]) (.seq (.reg [⟨some 29, .load true 24 (.t 7), none, false⟩, ⟨some 30, .mov (.t 8), none, false⟩, ⟨some 31, .bin .add (.c (.int .i64 48)) (.t 30), none, false⟩, ⟨some 32, .conv (.i2i .u8) (.t 31), none, false⟩, ⟨some 33, .mov (.t 9), none, false⟩, ⟨some 34, .bin .add (.c (.int .i64 48)) (.t 33), none, false⟩, ⟨some 35, .conv (.i2i .u8) (.t 34), none, false⟩, ⟨some 36, .mkrow 1 [.int .u8 0] 6 [(0, (.c (.int .u8 27))), (1, (.c (.int .u8 91))), (2, (.t 32)), (3, (.c (.int .u8 59))), (4, (.t 35)), (5, (.c (.int .u8 114)))], none, true⟩, ⟨some 37, .call 9 [.t 29, .t 36], none, false⟩, ⟨none, .store 24 (.t 7) (.t 37), none, false⟩] 0 [0, 7, 8, 9]) (.seq (.seq (.reg [⟨some 38, .mov (.t 8), none, false⟩, ⟨some 39, .mov (.t 9), none, false⟩, ⟨some 40, .bin .geq (.t 38) (.t 39), none, false⟩] 0 [0, 7, 8, 9, 40]) (.cond (.t 40) (.seq (.reg [⟨some 41, .faddr 7 (.t 7), none, false⟩, ⟨some 42, .load false 1 (.t 41), none, false⟩, ⟨some 43, .bin .eql (.t 42) (.c (.int .i64 0)), none, false⟩, ⟨some 44, .mov (.t 43), none, false⟩, ⟨some 45, .faddr 8 (.t 7), some (44, true), false⟩, ⟨some 46, .load false 1 (.t 45), some (44, true), false⟩, ⟨some 47, .bin .eql (.t 46) (.c (.int .i64 5)), some (44, true), false⟩, ⟨some 48, .pick (.t 44) (.t 47) (.c (.bool false)), none, false⟩, ⟨some 49, .mov (.t 48), none, false⟩, ⟨some 50, .faddr 3 (.t 7), some (49, true), false⟩, ⟨some 51, .load false 1 (.t 50), some (49, true), false⟩, ⟨some 52, .bin .eql (.t 51) (.c (.int .i64 5)), some (49, true), false⟩, ⟨some 53, .pick (.t 49) (.t 52) (.c (.bool false)), none, false⟩, ⟨some 54, .mov (.t 53), none, false⟩, ⟨some 55, .faddr 4 (.t 7), some (54, true), false⟩, ⟨some 56, .load false 1 (.t 55), some (54, true), false⟩, ⟨some 57, .bin .eql (.t 56) (.c (.int .i64 1)), some (54, true), false⟩, ⟨some 58, .pick (.t 54) (.t 57) (.c (.bool false)), none, false⟩, ⟨some 6, .mov (.t 58), none, false⟩] 0 [6]) .ret) .skip)) (.seq (.reg [⟨some 59, .load true 24 (.t 7), none, false⟩, ⟨some 60, .mov (.t 9), none, false⟩, ⟨some 61, .bin .add (.c (.int .i64 48)) (.t 60), none, false⟩, ⟨some 62, .conv (.i2i .u8) (.t 61), none, false⟩, ⟨some 63, .mkrow 1 [.int .u8 0] 4 [(0, (.c (.int .u8 27))), (1, (.c (.int .u8 91))), (2, (.t 62)), (3, (.c (.int .u8 72)))], none, true⟩, ⟨some 64, .call 9 [.t 59, .t 63], none, false⟩, ⟨none, .store 24 (.t 7) (.t 64), none, false⟩] 0 [0, 7, 8, 9]) (.seq (.reg [⟨some 65, .mov (.t 0), none, false⟩, ⟨some 66, .bin .rem (.t 65) (.c (.int .u8 8)), none, false⟩, ⟨some 67, .conv (.i2i .i64) (.t 66), none, false⟩, ⟨some 10, .mov (.t 67), none, false⟩] 0 [7, 8, 9, 10]) (.seq (.seq (.reg [⟨some 11, .mov (.c (.int .i64 0)), none, false⟩] 0 [7, 8, 9, 10, 11]) (.blk 0 (.loop rc_scrolls_l1))) rc_scrolls_c76))))))))), [.t 6]⟩
theorem rc_scrolls_ok : compFn PG.P [⟨0, 0, [0, 1, 2], []⟩, ⟨1, 0, [0, 1, 2, 15], []⟩, ⟨2, 0, [6], []⟩, ⟨3, 0, [0, 1, 2, 7], []⟩, ⟨4, 0, [0, 7, 8, 9], []⟩, ⟨5, 0, [0, 7, 8, 9], [27]⟩, ⟨6, 0, [0, 7, 8, 9], [36]⟩, ⟨7, 0, [0, 7, 8, 9, 40], []⟩, ⟨8, 0, [6], []⟩, ⟨9, 0, [0, 7, 8, 9], [63]⟩, ⟨10, 0, [7, 8, 9, 10], []⟩, ⟨11, 0, [7, 8, 9, 10, 11], []⟩, ⟨12, 0, [7, 8, 9, 10, 11, 70], []⟩, ⟨13, 0, [7, 8, 9, 10, 11], []⟩, ⟨14, 0, [7, 8, 9, 10, 11], [74]⟩, ⟨15, 0, [7, 8, 9, 10, 86], []⟩, ⟨16, 0, [6], []⟩, ⟨17, 0, [7, 8, 9, 10, 12], []⟩, ⟨18, 0, [7, 8, 9, 10, 12, 88], []⟩, ⟨19, 0, [7, 8, 9, 10, 12], []⟩, ⟨20, 0, [7, 8, 9, 10, 12, 13], []⟩, ⟨21, 0, [7, 8, 9, 10, 12, 13, 103], []⟩, ⟨22, 0, [7, 8, 9, 10, 12, 13], []⟩, ⟨23, 0, [7, 8, 9, 10, 12, 13, 114], []⟩, ⟨24, 0, [7, 8, 9, 10, 12, 13], []⟩, ⟨25, 0, [7, 8, 9, 10, 12, 123], []⟩, ⟨26, 0, [6], []⟩, ⟨27, 0, [6], []⟩] 4 = some rc_scrolls := by kernel_rfl
def scr1 : Sc × Pa := [49, 13, 10, 50, 13, 10, 51, 13, 10, 52, 13, 10, 53, 13, 10, 54].foldl feedF (newF 6 4, pa0 0)
def scr2 (a b : Nat) : Sc × Pa := [27, 91, 48 + (a : Int), 59, 48 + (b : Int), 114].foldl feedF scr1
def scr3 (a b : Nat) : Sc × Pa := [27, 91, 48 + (b : Int), 72].foldl feedF (scr2 a b)
def scr4 (a b : Nat) : Nat → Sc × Pa
  | 0 => scr3 a b
  | k + 1 => [10].foldl feedF (scr4 a b k)
def scrW (a b k y : Nat) : Int := if a ≤ y + 1 ∧ y + 1 ≤ b then (if b < y + k + 1 then 32 else 49 + y + k) else 49 + y
def chkSame (a b : Nat) : Bool := let x := (scr2 a b).1; decide (x.top = 0) && (decide (x.bot = 5) && (decide (x.y = 5) && decide (x.x = 1)))
def chkFin (a b k : Nat) : Bool := let x := (scr4 a b k).1; decide (x.cells.length = 24) && (decide (x.y + 1 = b) && (List.range 6).all fun y => decide ((x.cells.getD (4 * y) blkC).r = scrW a b k y))
theorem chkSame_all : ((List.range 7).all fun a => (List.range 7).all fun b => decide (a < b) || (decide (b = 0) || chkSame a b)) = true := by decide +kernel
theorem chkFin_all : ((List.range 7).all fun a => (List.range 7).all fun b => decide (b ≤ a) || (decide (a = 0) || (List.range 8).all fun k => chkFin a b k)) = true := by decide +kernel
theorem scr_same {a b : Nat} (ha : a < 7) (hb : b < 7) (h1 : b ≤ a) (h2 : 1 ≤ b) : (scr2 a b).1.top = 0 ∧ (scr2 a b).1.bot = 5 ∧ (scr2 a b).1.y = 5 ∧ (scr2 a b).1.x = 1 := by
  have h := List.all_eq_true.1 (List.all_eq_true.1 chkSame_all a (List.mem_range.2 ha)) b (List.mem_range.2 hb)
  rw [decide_eq_false (by omega), decide_eq_false (by omega), Bool.false_or, Bool.false_or] at h
  simpa [chkSame] using h
theorem scr_fin {a b k : Nat} (ha : a < 7) (hb : b < 7) (h1 : a < b) (h2 : 1 ≤ a) (hk : k < 8) : (scr4 a b k).1.cells.length = 24 ∧ (scr4 a b k).1.y + 1 = b ∧ ∀ y < 6, ((scr4 a b k).1.cells.getD (4 * y) blkC).r = scrW a b k y := by
  have h := List.all_eq_true.1 (List.all_eq_true.1 chkFin_all a (List.mem_range.2 ha)) b (List.mem_range.2 hb)
  rw [decide_eq_false (by omega), decide_eq_false (by omega), Bool.false_or, Bool.false_or] at h
  have h3 := List.all_eq_true.1 h k (List.mem_range.2 hk)
  unfold chkFin at h3
  dsimp only at h3
  rw [Bool.and_eq_true, Bool.and_eq_true, decide_eq_true_eq, decide_eq_true_eq, List.all_eq_true] at h3
  exact ⟨h3.1, h3.2.1, fun y hy => of_decide_eq_true (h3.2.2 y (List.mem_range.2 hy))⟩
theorem newF64_ok : ScOk (newF 6 4) := newF_ok (by decide) (by decide)
theorem scr1_ok : ScOk scr1.1 ∧ paOk scr1.2 := feed_ok newF64_ok (paOk_pa0 0) (by decide)
theorem scr2_ok {a b : Nat} (ha : a < 7) (hb : b < 7) : ScOk (scr2 a b).1 ∧ paOk (scr2 a b).2 := feed_ok scr1_ok.1 scr1_ok.2 (by intro c hc; simp at hc; omega)
theorem scr3_ok {a b : Nat} (ha : a < 7) (hb : b < 7) : ScOk (scr3 a b).1 ∧ paOk (scr3 a b).2 := feed_ok (scr2_ok ha hb).1 (scr2_ok ha hb).2 (by intro c hc; simp at hc; omega)
theorem scr4_ok {a b : Nat} (ha : a < 7) (hb : b < 7) : ∀ k, ScOk (scr4 a b k).1 ∧ paOk (scr4 a b k).2
  | 0 => scr3_ok ha hb
  | k + 1 => feed_ok (scr4_ok ha hb k).1 (scr4_ok ha hb k).2 (by decide)
theorem scrolls_c76 {A : Objs} {q : Nat} {s : Sc} {a c m : Nat} {y2 y3 : Nat} {i1 i2 i3 : SK} {m6 pr6 : Int} {u1 u2 u3 : DV} {x11 : Int} {x70 : Bool} {K : Objs → Prop} {R : DV → Objs → Prop}
    (hb : A[q]? = some (some (.box [.int .i64 s.rows, .int .i64 s.cols, .sl 3 (ceRows s.cells) i1, .int .i64 s.y, .int .i64 s.x, .bool s.wrap, .int .u16 s.attr, .int .i64 s.top, .int .i64 s.bot, .sl y2 (boRows s.tabs) i2, .int .i64 s.sy, .int .i64 s.sx, .int .u16 s.sattr, .bool s.auto, .bool s.shown, .bool s.alt, .sl y3 (ceRows s.other) i3, .int .i64 s.oy, .int .i64 s.ox, .int .i64 m6, .int .u8 pr6, u1, u2, u3])))
    (c1 : s.cells.length = 24) (c2 : s.y + 1 = c) (c3 : ∀ y < 6, (s.cells.getD (4 * y) blkC).r = scrW a c m y) (a7 : 1 ≤ a ∧ a < 7) (c7 : 1 ≤ c ∧ c < 7) (m8 : m < 8) (hK : K A) (hR : ∀ T', K T' → R (.bool true) T') :
    WpH PG (tab []) 124 rc_scrolls_c76 (finQ [Res.t 6] R) ⟨[(7, .ptr q 0 0), (8, .int .i64 a), (9, .int .i64 c), (10, .int .i64 m), (11, .int .i64 x11), (70, .bool x70)], A⟩ := by
  have c1' : (s.cells.length : Int) = 24 := by omega
  have wc1 : IntKind.i64.wrap ((c : Int) - 1) = (c : Int) - 1 := wI64 (by omega) (by omega)
  have wa1 : IntKind.i64.wrap ((a : Int) - 1) = (a : Int) - 1 := wI64 (by omega) (by omega)
  have c2' : (s.y : Int) = (c : Int) - 1 := by omega
  unfold WpH rc_scrolls_c76
  simp -implicitDefEqProofs -dsimp only [tb_at, tb_all hb, ceRows_len, eq_true c1', wc1, eq_true c2', vcS, ↓vcP1, ↓vcP2, ↓reduceIte, reduceCtorEq, Nat.reduceLT, Nat.reduceLeDiff, Nat.reduceEqDiff, Nat.reduceAdd, Nat.reduceSub, Nat.reduceMul, Int.reduceLT, Int.reduceLE, Int.reduceEq, Int.reduceToNat, Int.reduceAdd, Int.reduceSub, Int.reduceNeg, List.reduceReplicate, Nat.reducePow, Int.reduceMul]
  refine LoopWp.inv FOk.nil (S := fun y : Nat => ⟨[(7, .ptr q 0 0), (8, .int .i64 a), (9, .int .i64 c), (10, .int .i64 m), (12, .int .i64 y)], A⟩) (I := fun y => y ≤ 6) (μ := fun y => 6 - y) 0 (by omega) ?_ ?_
  · simp -implicitDefEqProofs -dsimp only [wkT_self, vcS, ↓vcP1, ↓vcP2, ↓reduceIte, reduceCtorEq, Nat.reduceLT, Nat.reduceLeDiff, Nat.reduceEqDiff, Nat.reduceAdd, Nat.reduceSub, Nat.reduceMul, Int.reduceLT, Int.reduceLE, Int.reduceEq, Int.reduceToNat, Int.reduceAdd, Int.reduceSub, Int.reduceNeg, List.reduceReplicate, Nat.reducePow, Int.reduceMul]
  · intro y hy
    unfold rc_scrolls_l0
    rcases Nat.lt_or_ge y 6 with hlt | hge
    · have hii : (y : Int) < 6 := by omega
      have hg := ceRows_get (L := s.cells) (i := 4 * y) (by omega)
      have e3 := c3 y hlt
      have w4 : IntKind.i64.wrap (4 * (y : Int)) = ((4 * y : Nat) : Int) := by rw [wI64 (by omega) (by omega)]; omega
      have p4 : (0 : Int) ≤ ((4 * y : Nat) : Int) := by omega
      have l4 : ((4 * y : Nat) : Int) < s.cells.length := by omega
      have w5 : IntKind.i64.wrap (49 + (y : Int)) = 49 + (y : Int) := wI64 (by omega) (by omega)
      have w6 : IntKind.i32.wrap (49 + (y : Int)) = 49 + (y : Int) := wI32 (by omega) (by omega)
      have w7 : IntKind.i64.wrap (49 + (y : Int) + m) = 49 + (y : Int) + m := wI64 (by omega) (by omega)
      have w8 : IntKind.i32.wrap (49 + (y : Int) + m) = 49 + (y : Int) + m := wI32 (by omega) (by omega)
      have w9 : IntKind.i64.wrap ((y : Int) + m) = (y : Int) + m := wI64 (by omega) (by omega)
      have w1 : IntKind.i64.wrap ((y : Int) + 1) = ((y + 1 : Nat) : Int) := by rw [wI64 (by omega) (by omega)]; omega
      have done : ∃ s' : Nat, ((y + 1 : Nat) : Int) = (s' : Int) ∧ s' ≤ 6 ∧ 6 - s' < 6 - y := ⟨y + 1, rfl, by omega, by omega⟩
      unfold scrW at e3
      rcases Nat.lt_or_ge (y + 1) a with h1 | h1
      · have h1' : ¬ (a : Int) - 1 ≤ y := by omega
        rw [if_neg (by omega)] at e3
        rw [e3] at hg
        simp -implicitDefEqProofs -dsimp only [tb_at, tb_all hb, ceRows_len, hii, hg, w1, w4, w5, w6, w7, w8, w9, wa1, wc1, p4, l4, h1', Int.toNat_natCast, wkT_self, vcS, ↓vcP1, ↓vcP2, ↓reduceIte, reduceCtorEq, Nat.reduceLT, Nat.reduceLeDiff, Nat.reduceEqDiff, Nat.reduceAdd, Nat.reduceSub, Nat.reduceMul, Int.reduceLT, Int.reduceLE, Int.reduceEq, Int.reduceToNat, Int.reduceAdd, Int.reduceSub, Int.reduceNeg, List.reduceReplicate, Nat.reducePow, Int.reduceMul]
        exact done
      · have h1' : (a : Int) - 1 ≤ y := by omega
        rcases Nat.lt_or_ge c (y + 1) with h2 | h2
        · have h2' : ¬ (y : Int) ≤ (c : Int) - 1 := by omega
          rw [if_neg (by omega)] at e3
          rw [e3] at hg
          simp -implicitDefEqProofs -dsimp only [tb_at, tb_all hb, ceRows_len, hii, hg, w1, w4, w5, w6, w7, w8, w9, wa1, wc1, p4, l4, h1', h2', Int.toNat_natCast, wkT_self, vcS, ↓vcP1, ↓vcP2, ↓reduceIte, reduceCtorEq, Nat.reduceLT, Nat.reduceLeDiff, Nat.reduceEqDiff, Nat.reduceAdd, Nat.reduceSub, Nat.reduceMul, Int.reduceLT, Int.reduceLE, Int.reduceEq, Int.reduceToNat, Int.reduceAdd, Int.reduceSub, Int.reduceNeg, List.reduceReplicate, Nat.reducePow, Int.reduceMul]
          exact done
        · have h2' : (y : Int) ≤ (c : Int) - 1 := by omega
          rw [if_pos (by omega)] at e3
          rcases Nat.lt_or_ge c (y + m + 1) with h3 | h3
          · have h3' : (c : Int) - 1 < (y : Int) + m := by omega
            rw [if_pos (by omega)] at e3
            rw [e3] at hg
            simp -implicitDefEqProofs -dsimp only [tb_at, tb_all hb, ceRows_len, hii, hg, w1, w4, w5, w6, w7, w8, w9, wa1, wc1, p4, l4, h1', h2', h3', Int.toNat_natCast, wkT_self, vcS, ↓vcP1, ↓vcP2, ↓reduceIte, reduceCtorEq, Nat.reduceLT, Nat.reduceLeDiff, Nat.reduceEqDiff, Nat.reduceAdd, Nat.reduceSub, Nat.reduceMul, Int.reduceLT, Int.reduceLE, Int.reduceEq, Int.reduceToNat, Int.reduceAdd, Int.reduceSub, Int.reduceNeg, List.reduceReplicate, Nat.reducePow, Int.reduceMul]
            exact done
          · have h3' : ¬ (c : Int) - 1 < (y : Int) + m := by omega
            rw [if_neg (by omega)] at e3
            rw [e3] at hg
            simp -implicitDefEqProofs -dsimp only [tb_at, tb_all hb, ceRows_len, hii, hg, w1, w4, w5, w6, w7, w8, w9, wa1, wc1, p4, l4, h1', h2', h3', Int.toNat_natCast, wkT_self, vcS, ↓vcP1, ↓vcP2, ↓reduceIte, reduceCtorEq, Nat.reduceLT, Nat.reduceLeDiff, Nat.reduceEqDiff, Nat.reduceAdd, Nat.reduceSub, Nat.reduceMul, Int.reduceLT, Int.reduceLE, Int.reduceEq, Int.reduceToNat, Int.reduceAdd, Int.reduceSub, Int.reduceNeg, List.reduceReplicate, Nat.reducePow, Int.reduceMul]
            exact done
    · have hii : ¬ (y : Int) < 6 := by omega
      simp -implicitDefEqProofs -dsimp only [tb_at, hii, wkT_self, vcS, ↓vcP1, ↓vcP2, ↓reduceIte, reduceCtorEq, Nat.reduceLT, Nat.reduceLeDiff, Nat.reduceEqDiff, Nat.reduceAdd, Nat.reduceSub, Nat.reduceMul, Int.reduceLT, Int.reduceLE, Int.reduceEq, Int.reduceToNat, Int.reduceAdd, Int.reduceSub, Int.reduceNeg, List.reduceReplicate, Nat.reducePow, Int.reduceMul]
      exact hR _ hK
set_option maxHeartbeats 1000000 in
theorem scrolls_K {T : Objs} {n t b : Int} {K : DV → Objs → Prop} (hn : 0 ≤ n ∧ n ≤ 255) (ht : 0 ≤ t ∧ t ≤ 255) (hb : 0 ≤ b ∧ b ≤ 255) (h : ∀ T', Keep T T' [] → K (.bool true) T') : CallK PG 4 [.int .u8 n, .int .u8 t, .int .u8 b] T K := by
  obtain ⟨a, ha⟩ : ∃ a : Nat, t.tmod 6 + 1 = a := ⟨(t.tmod 6 + 1).toNat, by have := Int.tmod_nonneg 6 ht.1; omega⟩
  obtain ⟨c, hc⟩ : ∃ c : Nat, b.tmod 6 + 1 = c := ⟨(b.tmod 6 + 1).toNat, by have := Int.tmod_nonneg 6 hb.1; omega⟩
  obtain ⟨m, hm⟩ : ∃ m : Nat, n.tmod 8 = m := ⟨(n.tmod 8).toNat, by have := Int.tmod_nonneg 8 hn.1; omega⟩
  have a7 : 1 ≤ a ∧ a < 7 := by rw [Int.tmod_eq_emod_of_nonneg ht.1] at ha; omega
  have c7 : 1 ≤ c ∧ c < 7 := by rw [Int.tmod_eq_emod_of_nonneg hb.1] at hc; omega
  have m8 : m < 8 := by rw [Int.tmod_eq_emod_of_nonneg hn.1] at hm; omega
  have e1 : IntKind.i64.wrap (t.tmod 6) + 1 = a := by rw [wI64 (by omega) (by omega)]; exact ha
  have e2 : IntKind.i64.wrap (b.tmod 6) + 1 = c := by rw [wI64 (by omega) (by omega)]; exact hc
  have e3 : IntKind.i64.wrap (n.tmod 8) = m := by rw [wI64 (by omega) (by omega)]; exact hm
  have w1 : IntKind.i64.wrap (a : Int) = a := wI64 (by omega) (by omega)
  have w2 : IntKind.i64.wrap (c : Int) = c := wI64 (by omega) (by omega)
  refine CallK.of_fn FOk.nil rc_scrolls_ok (by simp [rc_scrolls]) ?_
  unfold rc_scrolls
  dsimp only
  simp -implicitDefEqProofs -dsimp only [tb_at, vcS, ↓vcP1, ↓vcP2, ↓reduceIte, reduceCtorEq, Nat.reduceLT, Nat.reduceLeDiff, Nat.reduceEqDiff, Nat.reduceAdd, Nat.reduceSub, Nat.reduceMul, Int.reduceLT, Int.reduceLE, Int.reduceEq, Int.reduceToNat, Int.reduceAdd, Int.reduceSub, Int.reduceNeg, List.reduceReplicate, Nat.reducePow, Int.reduceMul]
  refine known9_K fun T1 k1 => ?_
  simp -implicitDefEqProofs -dsimp only [tb_at, vcS, ↓vcP1, ↓vcP2, ↓reduceIte, reduceCtorEq, Nat.reduceLT, Nat.reduceLeDiff, Nat.reduceEqDiff, Nat.reduceAdd, Nat.reduceSub, Nat.reduceMul, Int.reduceLT, Int.reduceLE, Int.reduceEq, Int.reduceToNat, Int.reduceAdd, Int.reduceSub, Int.reduceNeg, List.reduceReplicate, Nat.reducePow, Int.reduceMul]
  refine fresh_K (r := 6) (c := 4) (by decide) (by decide) fun T2 v2 k2 h2 => ?_
  have h2' := h2
  generalize hx2 : newF 6 4 = s2 at h2 h2'
  obtain ⟨z2, z3, j1, j2, j3, m2, pr2, d1, d2, d3, rfl, ⟨o1, o2, o3⟩, f1, f2, f3⟩ := h2.lit
  simp -implicitDefEqProofs -dsimp only [tb_at, o1, o2, o3, f1, f2, f3, e1, e2, e3, w1, w2, vcS, ↓vcP1, ↓vcP2, ↓reduceIte, reduceCtorEq, Nat.reduceLT, Nat.reduceLeDiff, Nat.reduceEqDiff, Nat.reduceAdd, Nat.reduceSub, Nat.reduceMul, Int.reduceLT, Int.reduceLE, Int.reduceEq, Int.reduceToNat, Int.reduceAdd, Int.reduceSub, Int.reduceNeg, List.reduceReplicate, Nat.reducePow, Int.reduceMul]
  have hs2 : ScOk s2 := by rw [← hx2]; exact newF64_ok
  refine sfeed_K (l := [49, 13, 10, 50, 13, 10, 51, 13, 10, 52, 13, 10, 53, 13, 10, 54]) hs2 (paOk_pa0 0) h2' (.inl rfl) (inK_b (by simp) (by decide)) (by simp) fun T3 v3 k3 h3 => ?_
  rw [← hx2] at h3
  change ScVal scr1.1 scr1.2 v3 at h3
  have ok1 := scr1_ok
  have h3' := h3
  have ev2 : ∀ x y : Nat, [27, 91, 48 + (x : Int), 59, 48 + (y : Int), 114].foldl feedF scr1 = scr2 x y := fun _ _ => rfl
  obtain ⟨z2, z3, j1, j2, j3, m3, pr3, g1, g2, g3, rfl, ⟨o1, o2, o3⟩, f1, f2, f3⟩ := h3.lit
  have hb2 := k3.at (tb_get0 T2 [_] (some (Ob.box _))) (by simp)
  have wa : IntKind.i64.wrap (48 + (a : Int)) = 48 + (a : Int) := wI64 (by omega) (by omega)
  have wc : IntKind.i64.wrap (48 + (c : Int)) = 48 + (c : Int) := wI64 (by omega) (by omega)
  have ua : IntKind.u8.wrap (48 + (a : Int)) = 48 + (a : Int) := wU8 (by omega) (by omega)
  have uc : IntKind.u8.wrap (48 + (c : Int)) = 48 + (c : Int) := wU8 (by omega) (by omega)
  generalize hx3 : scr1 = s3 at *
  simp -implicitDefEqProofs -dsimp only [tb_at, tb_all hb2, o1, o2, o3, f1, f2, f3, e1, e2, e3, w1, w2, wa, wc, ua, uc, vcS, ↓vcP1, ↓vcP2, ↓reduceIte, reduceCtorEq, Nat.reduceLT, Nat.reduceLeDiff, Nat.reduceEqDiff, Nat.reduceAdd, Nat.reduceSub, Nat.reduceMul, Int.reduceLT, Int.reduceLE, Int.reduceEq, Int.reduceToNat, Int.reduceAdd, Int.reduceSub, Int.reduceNeg, List.reduceReplicate, Nat.reducePow, Int.reduceMul]
  refine sfeed_K (l := [27, 91, 48 + (a : Int), 59, 48 + (c : Int), 114]) ok1.1 ok1.2 h3' (.inl rfl) (inK_b (by simp) (by intro x hx; simp at hx; omega)) (by simp) fun T4 v4 k4 h4 => ?_
  change ScVal (List.foldl feedF s3 [27, 91, 48 + (a : Int), 59, 48 + (c : Int), 114]).1 (List.foldl feedF s3 [27, 91, 48 + (a : Int), 59, 48 + (c : Int), 114]).2 v4 at h4
  rw [ev2] at h4
  have ok4 := scr2_ok a7.2 c7.2
  have hsame := fun h1 => scr_same a7.2 c7.2 h1 c7.1
  have h4' := h4
  obtain ⟨z2', z3', j1', j2', j3', m4, pr4, q1, q2, q3, rfl, ⟨r1, r2, r3⟩, t1, t2, t3⟩ := h4.lit
  have hb3 := k4.at (tb_f (tb_ss (k3.at (tb_get0 T2 [_] (some (Ob.box _))) (by simp)) _) _) (by simp)
  have evh : ∀ y : Nat, [27, 91, 48 + (y : Int), 72].foldl feedF (scr2 a y) = scr3 a y := fun _ => rfl
  generalize hx4 : scr2 a c = s4 at *
  have K2 : Keep T T2 [] := by first | exact k1.new k2 (by simp) | exact (k1.newApp _).new k2 (by simp)
  have K3 : Keep T T3 [] := by first | exact K2.new k3 (by simp) | exact (K2.newApp _).new k3 (by simp)
  have L2 := K2.1
  have K4 : Keep T T4 [] := by first | exact ((K3.put (Dd.ge L2) _).newApp _).new k4 (by simp)
  rcases Nat.lt_or_ge a c with hac | hac
  · have hac' : ¬ (c : Int) ≤ a := by omega
    simp -implicitDefEqProofs -dsimp only [tb_at, tb_all hb3, r1, r2, r3, t1, t2, t3, hac', e1, e2, e3, w1, w2, wa, wc, ua, uc, vcS, ↓vcP1, ↓vcP2, ↓reduceIte, reduceCtorEq, Nat.reduceLT, Nat.reduceLeDiff, Nat.reduceEqDiff, Nat.reduceAdd, Nat.reduceSub, Nat.reduceMul, Int.reduceLT, Int.reduceLE, Int.reduceEq, Int.reduceToNat, Int.reduceAdd, Int.reduceSub, Int.reduceNeg, List.reduceReplicate, Nat.reducePow, Int.reduceMul]
    refine sfeed_K (l := [27, 91, 48 + (c : Int), 72]) ok4.1 ok4.2 h4' (.inl rfl) (inK_b (by simp) (by intro x hx; simp at hx; omega)) (by simp) fun T5 v5 k5 h5 => ?_
    change ScVal (List.foldl feedF s4 [27, 91, 48 + (c : Int), 72]).1 (List.foldl feedF s4 [27, 91, 48 + (c : Int), 72]).2 v5 at h5
    rw [← hx4, evh] at h5
    change ScVal (scr4 a c 0).1 (scr4 a c 0).2 v5 at h5
    have K4' : Keep T (T4.set T2.length (some (.box [.int .i64 s4.1.rows, .int .i64 s4.1.cols, .sl 3 (ceRows s4.1.cells) j1', .int .i64 s4.1.y, .int .i64 s4.1.x, .bool s4.1.wrap, .int .u16 s4.1.attr, .int .i64 s4.1.top, .int .i64 s4.1.bot, .sl z2' (boRows s4.1.tabs) j2', .int .i64 s4.1.sy, .int .i64 s4.1.sx, .int .u16 s4.1.sattr, .bool s4.1.auto, .bool s4.1.shown, .bool s4.1.alt, .sl z3' (ceRows s4.1.other) j3', .int .i64 s4.1.oy, .int .i64 s4.1.ox, .int .i64 m4, .int .u8 pr4, q1, q2, q3])) ++ [none]) [] := (K4.put (Dd.ge L2) _).newApp _
    have K5 : Keep T T5 [] := K4'.new k5 (by simp)
    have hb4 := k5.at (tb_f (tb_ss hb3 _) _) (by simp)
    obtain ⟨y2, y3, i1, i2, i3, m5, pr5, p1, p2, p3, rfl, ⟨x1, x2, x3⟩, _⟩ := h5.lit
    simp -implicitDefEqProofs -dsimp only [tb_at, tb_all hb4, x1, x2, x3, e1, e2, e3, vcS, ↓vcP1, ↓vcP2, ↓reduceIte, reduceCtorEq, Nat.reduceLT, Nat.reduceLeDiff, Nat.reduceEqDiff, Nat.reduceAdd, Nat.reduceSub, Nat.reduceMul, Int.reduceLT, Int.reduceLE, Int.reduceEq, Int.reduceToNat, Int.reduceAdd, Int.reduceSub, Int.reduceNeg, List.reduceReplicate, Nat.reducePow, Int.reduceMul]
    refine LoopWp.inv FOk.nil (S := fun σ : Nat × Objs => ⟨[(7, .ptr T2.length 0 0), (8, .int .i64 a), (9, .int .i64 c), (10, .int .i64 m), (11, .int .i64 σ.1)], σ.2⟩)
      (I := fun σ => σ.1 ≤ m ∧ Keep T σ.2 [] ∧ ∃ cs, σ.2[T2.length]? = some (some (.box cs)) ∧ ScVal (scr4 a c σ.1).1 (scr4 a c σ.1).2 (.agg cs)) (μ := fun σ => m - σ.1) (0, _) ⟨by simp, K5.put (Dd.ge L2) _, _, tb_ss hb4 _, h5⟩ ?_ ?_
    · simp -implicitDefEqProofs -dsimp only [wkT_self, vcS, ↓vcP1, ↓vcP2, ↓reduceIte, reduceCtorEq, Nat.reduceLT, Nat.reduceLeDiff, Nat.reduceEqDiff, Nat.reduceAdd, Nat.reduceSub, Nat.reduceMul, Int.reduceLT, Int.reduceLE, Int.reduceEq, Int.reduceToNat, Int.reduceAdd, Int.reduceSub, Int.reduceNeg, List.reduceReplicate, Nat.reducePow, Int.reduceMul]
    · intro ⟨i, A⟩ ⟨n1, n2, cs, n3, n4⟩
      dsimp only at n1 n2 n3 n4 ⊢
      have oki := scr4_ok a7.2 c7.2 i
      have n4' := n4
      have ev : ∀ k, [10].foldl feedF (scr4 a c k) = scr4 a c (k + 1) := fun _ => rfl
      have hfin := fun hk => scr_fin (k := i) a7.2 c7.2 hac a7.1 hk
      obtain ⟨y2, y3, i1, i2, i3, m6, pr6, u1, u2, u3, ecs, ⟨x1, x2, x3⟩, g1', g2', g3'⟩ := n4.lit
      obtain rfl := DV.agg.inj ecs
      have w6 : IntKind.i64.wrap ((i : Int) + 1) = ((i + 1 : Nat) : Int) := by rw [wI64 (by omega) (by omega)]; omega
      unfold rc_scrolls_l1
      rcases Nat.lt_or_ge i m with hlt | hge
      · have hii : (i : Int) < m := by omega
        simp -implicitDefEqProofs -dsimp only [tb_at, tb_all n3, hii, x1, x2, x3, g1', g2', g3', w6, wkT_self, vcS, ↓vcP1, ↓vcP2, ↓reduceIte, reduceCtorEq, Nat.reduceLT, Nat.reduceLeDiff, Nat.reduceEqDiff, Nat.reduceAdd, Nat.reduceSub, Nat.reduceMul, Int.reduceLT, Int.reduceLE, Int.reduceEq, Int.reduceToNat, Int.reduceAdd, Int.reduceSub, Int.reduceNeg, List.reduceReplicate, Nat.reducePow, Int.reduceMul]
        refine sfeed_K (l := [10]) oki.1 oki.2 n4' (.inl rfl) (inK_b (by simp) (by decide)) (by simp) fun T6 v6 k6 h6 => ?_
        change ScVal (List.foldl feedF (scr4 a c i) [10]).1 (List.foldl feedF (scr4 a c i) [10]).2 v6 at h6
        rw [ev] at h6
        obtain ⟨y2, y3, i1, i2, i3, m7, pr7, v1, v2, v3, rfl, ⟨x1, x2, x3⟩, _⟩ := h6.lit
        have hb6 := k6.at (tb_f n3 _) (by simp)
        simp -implicitDefEqProofs -dsimp only [tb_at, tb_all hb6, x1, x2, x3, w6, wkT_self, vcS, ↓vcP1, ↓vcP2, ↓reduceIte, reduceCtorEq, Nat.reduceLT, Nat.reduceLeDiff, Nat.reduceEqDiff, Nat.reduceAdd, Nat.reduceSub, Nat.reduceMul, Int.reduceLT, Int.reduceLE, Int.reduceEq, Int.reduceToNat, Int.reduceAdd, Int.reduceSub, Int.reduceNeg, List.reduceReplicate, Nat.reducePow, Int.reduceMul]
        exact ⟨(i + 1, _), ⟨rfl, objsWk_refl _⟩, ⟨hlt, ((n2.newApp _).new k6 (by simp)).put (Dd.ge L2) _, _, tb_ss hb6 _, h6⟩, by dsimp only; omega⟩
      · have hii : ¬ (i : Int) < m := by omega
        obtain rfl : i = m := by omega
        obtain ⟨c1, c2, c3⟩ := hfin m8
        generalize scr4 a c i = s5 at *
        simp -implicitDefEqProofs -dsimp only [tb_at, tb_all n3, hii, wkT_self, ↓rc_scrolls_c76_s, vcS, ↓vcP1, ↓vcP2, ↓reduceIte, reduceCtorEq, Nat.reduceLT, Nat.reduceLeDiff, Nat.reduceEqDiff, Nat.reduceAdd, Nat.reduceSub, Nat.reduceMul, Int.reduceLT, Int.reduceLE, Int.reduceEq, Int.reduceToNat, Int.reduceAdd, Int.reduceSub, Int.reduceNeg, List.reduceReplicate, Nat.reducePow, Int.reduceMul]
        exact scrolls_c76 (K := fun T' => T.length ≤ T'.length ∧ K (.bool true) T') n3 c1 c2 c3 a7 c7 m8 ⟨n2.1, h _ n2⟩ fun _ h => h
  · have hac' : (c : Int) ≤ a := by omega
    obtain ⟨b1, b2, b3, b4⟩ := hsame hac
    have b1' : (s4.1.top : Int) = 0 := by omega
    have b2' : (s4.1.bot : Int) = 5 := by omega
    have b3' : (s4.1.y : Int) = 5 := by omega
    have b4' : (s4.1.x : Int) = 1 := by omega
    simp -implicitDefEqProofs -dsimp only [tb_at, tb_all hb3, r1, r2, r3, t1, t2, t3, hac', eq_true b1', eq_true b2', eq_true b3', eq_true b4', vcS, ↓vcP1, ↓vcP2, ↓reduceIte, reduceCtorEq, Nat.reduceLT, Nat.reduceLeDiff, Nat.reduceEqDiff, Nat.reduceAdd, Nat.reduceSub, Nat.reduceMul, Int.reduceLT, Int.reduceLE, Int.reduceEq, Int.reduceToNat, Int.reduceAdd, Int.reduceSub, Int.reduceNeg, List.reduceReplicate, Nat.reducePow, Int.reduceMul]
    exact ⟨by simp; exact K4.1, h _ (K4.put (Dd.ge L2) _)⟩
theorem screenScrolls_true (dv : List DV) (h : ConfL [(false, [.int .u8]), (false, [.int .u8]), (false, [.int .u8])] dv) {K : DV → Objs → Prop} (hK : ∀ T', K (.bool true) T') : CallK PG 4 dv [] K := by
  obtain ⟨a0, r0, rfl, h0, h⟩ := h.cons
  obtain ⟨a1, r1, rfl, h1, h⟩ := h.cons
  obtain ⟨a2, r2, rfl, h2, h⟩ := h.cons
  obtain rfl := h.nil
  obtain ⟨x, rfl, hx⟩ := confA_int h0
  obtain ⟨y, rfl, hy⟩ := confA_int h1
  obtain ⟨z, rfl, hz⟩ := confA_int h2
  exact scrolls_K hx hy hz fun T' _ => hK T'
end Go.Proofs.YtjmnbpilnneonaaDoor
