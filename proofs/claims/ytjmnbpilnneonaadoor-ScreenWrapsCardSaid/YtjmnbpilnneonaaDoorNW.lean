/- Texts H20, H21, H22, H23, H30, H31, H32 in one. -/
import Derived.Test.YtjmnbpilnneonaaDoorNA
set_option linter.unusedVariables false
set_option linter.unusedSimpArgs false
set_option maxRecDepth 10000
namespace Go.Proofs.YtjmnbpilnneonaaDoor
open Go.RowKit
noncomputable def rc_growsS : RFn := ⟨2, 27, .seq (.reg [⟨some 4, .mov (.c (.int .i64 0)), none, false⟩] 0 [0, 1]) (.seq (.seq (.reg [⟨some 5, .mov (.t 1), none, false⟩, ⟨some 6, .call 36 [.t 5], none, false⟩, ⟨some 7, .un .not (.t 6), none, false⟩, ⟨some 8, .mov (.t 7), none, false⟩, ⟨some 9, .mov (.t 0), some (8, false), false⟩, ⟨some 10, .len (.t 9), some (8, false), false⟩, ⟨some 11, .mov (.t 1), some (8, false), false⟩, ⟨some 12, .bin .rem (.t 10) (.t 11), some (8, false), false⟩, ⟨some 13, .bin .neq (.t 12) (.c (.int .i64 0)), some (8, false), false⟩, ⟨some 14, .pick (.t 8) (.c (.bool true)) (.t 13), none, false⟩, ⟨some 15, .mov (.t 14), none, false⟩, ⟨some 16, .mov (.t 0), some (15, false), false⟩, ⟨some 17, .len (.t 16), some (15, false), false⟩, ⟨some 18, .mov (.t 1), some (15, false), false⟩, ⟨some 19, .bin .quo (.t 17) (.t 18), some (15, false), false⟩, ⟨some 20, .call 36 [.t 19], some (15, false), false⟩, ⟨some 21, .un .not (.t 20), some (15, false), false⟩, ⟨some 22, .pick (.t 15) (.c (.bool true)) (.t 21), none, false⟩] 0 [0, 1, 22]) (.cond (.t 22) (.seq (.reg [⟨some 4, .mov (.c (.int .i64 0)), none, false⟩] 0 [4]) .ret) .skip)) (.seq (.reg [⟨some 23, .mov (.t 0), none, false⟩, ⟨some 24, .len (.t 23), none, false⟩, ⟨some 25, .mov (.t 1), none, false⟩, ⟨some 26, .bin .quo (.t 24) (.t 25), none, false⟩, ⟨some 4, .mov (.t 26), none, false⟩] 0 [4]) .ret)), [.t 4]⟩
theorem rc_growsS_ok : compFn PG.P [⟨0, 0, [0, 1], []⟩, ⟨1, 0, [0, 1, 22], []⟩, ⟨2, 0, [4], []⟩, ⟨3, 0, [4], []⟩] 45 = some rc_growsS := by kernel_rfl
theorem growsS_P {sz_l : Nat} {k_l : SK} {l : List (List DV)} {c : Int}  (hp : l.length ≤ 1000000) :
    PCalls PG 45 [.sl sz_l l k_l, .int .i64 c] fun n RR OO => RR = (((.int .i64 (rowsI l.length c), [])) : DV × Objs).1 ∧ OO = (((.int .i64 (rowsI l.length c), [])) : DV × Objs).2 := by
  refine PCalls.by_fn (res := fun n => ((.int .i64 (rowsI l.length c), []))) TG1_ok rc_growsS_ok (by simp [rc_growsS]) fun n => ?_
  unfold rc_growsS
  dsimp only
  unfold rowsI
  cases hs : sizeB c with
  | false =>
    have h1 := sizeB_f hs
    simp -implicitDefEqProofs -dsimp only [TG1_b, hs, vcS, ↓vcP1, ↓vcP2, ↓reduceIte, reduceCtorEq, Nat.reduceLT, Nat.reduceLeDiff, Nat.reduceEqDiff, Nat.reduceAdd, Nat.reduceSub, Nat.reduceMul, Int.reduceLT, Int.reduceLE, Int.reduceEq, Int.reduceToNat, Int.reduceAdd, Int.reduceSub, Int.reduceNeg, List.reduceReplicate, Nat.reducePow, Int.reduceMul]
    rw [if_neg (by omega)]
  | true =>
    have h1 := sizeB_t hs
    have hc : ¬ c = 0 := by omega
    have hc1 : ¬ c = -1 := by omega
    have hd0 : 0 ≤ (l.length : Int).tdiv c := Int.tdiv_nonneg (by omega) (by omega)
    have hd1 : (l.length : Int).tdiv c ≤ l.length := Int.tdiv_le_self _ (by omega)
    have hw : IntKind.i64.wrap ((l.length : Int).tdiv c) = (l.length : Int).tdiv c := wI64 (by omega) (by omega)
    by_cases hm : (l.length : Int).tmod c = 0
    · cases hq : sizeB ((l.length : Int).tdiv c) with
      | false =>
        have h2 := sizeB_f hq
        simp -implicitDefEqProofs -dsimp only [TG1_b, hs, hc, hc1, hm, hw, hq, vcS, ↓vcP1, ↓vcP2, ↓reduceIte, reduceCtorEq, Nat.reduceLT, Nat.reduceLeDiff, Nat.reduceEqDiff, Nat.reduceAdd, Nat.reduceSub, Nat.reduceMul, Int.reduceLT, Int.reduceLE, Int.reduceEq, Int.reduceToNat, Int.reduceAdd, Int.reduceSub, Int.reduceNeg, List.reduceReplicate, Nat.reducePow, Int.reduceMul]
        rw [if_neg (by omega)]
      | true =>
        have h2 := sizeB_t hq
        simp -implicitDefEqProofs -dsimp only [TG1_b, hs, hc, hc1, hm, hw, hq, vcS, ↓vcP1, ↓vcP2, ↓reduceIte, reduceCtorEq, Nat.reduceLT, Nat.reduceLeDiff, Nat.reduceEqDiff, Nat.reduceAdd, Nat.reduceSub, Nat.reduceMul, Int.reduceLT, Int.reduceLE, Int.reduceEq, Int.reduceToNat, Int.reduceAdd, Int.reduceSub, Int.reduceNeg, List.reduceReplicate, Nat.reducePow, Int.reduceMul]
        rw [if_pos (by omega)]
    · simp -implicitDefEqProofs -dsimp only [TG1_b, hs, hc, hc1, hm, vcS, ↓vcP1, ↓vcP2, ↓reduceIte, reduceCtorEq, Nat.reduceLT, Nat.reduceLeDiff, Nat.reduceEqDiff, Nat.reduceAdd, Nat.reduceSub, Nat.reduceMul, Int.reduceLT, Int.reduceLE, Int.reduceEq, Int.reduceToNat, Int.reduceAdd, Int.reduceSub, Int.reduceNeg, List.reduceReplicate, Nat.reducePow, Int.reduceMul]
      try rw [if_neg (by omega)]
def F_growsS : List DV → Option FSpec
  | [.sl sz_l l k_l, .int .i64 c] => some ⟨l.length ≤ 1000000, fun n => ((.int .i64 (rowsI l.length c), []))⟩
  | _ => none
theorem F_growsS_1 (sz_l : Nat) (l : List (List DV)) (k_l : SK) (c : Int) : F_growsS [.sl sz_l l k_l, .int .i64 c] = some ⟨l.length ≤ 1000000, fun n => ((.int .i64 (rowsI l.length c), []))⟩ := nrfl _
theorem growsS_ok (args : List DV) (s : FSpec) (hs : F_growsS args = some s) (hp : s.pre) : PCalls PG 45 args fun n r os => r = (s.res n).1 ∧ os = (s.res n).2 := by
  unfold F_growsS at hs
  split at hs
  · rename_i sz_l l k_l c
    obtain rfl := sj hs
    have this := growsS_P  (sz_l := sz_l) (k_l := k_l) (c := c)  hp
    exact this
  · cases hs
def TH20 : FL := (45, .o F_growsS) :: TH14
theorem TH20_ok : FOk PG (tab TH20) := FOk.cons TH14_ok growsS_ok
theorem TH20_at (args : List DV) : tab TH20 45 args = (F_growsS args).map .o := nrfl _
theorem TH20_c (args : List DV) : tab TH20 23 args = (F_cloneC args).map .o := nrfl _
theorem TH20_n24 (args : List DV) : tab TH20 24 args = none := nrfl _
theorem growS_K {T : Objs} {sz rows cols y : Nat} {k : SK} {L : List Ce} {K : DV → Objs → Prop} (hz : sz = 3) (g : GrOk L rows cols) (hy : y < rows) (h : ∀ k', K (.sl sz (ceRows (rowF L cols y)) k') T) : CallK PG 24 [.sl sz (ceRows L) k, .int .i64 cols, .int .i64 y] T K := by
  have h1 := g.r
  have h2 := g.c
  have hm : rows * cols ≤ 1000 * 1000 := Nat.mul_le_mul h1.2 h2.2
  have hl := g.lim
  have hgl := g.len
  have hrow := row_in (cols := cols) hy
  have hsucc := row_succ y cols
  have hp : (y : Int) * cols = ((y * cols : Nat) : Int) := by simp
  have hp1 : ((y : Int) + 1) * cols = (((y + 1) * cols : Nat) : Int) := by simp
  have hw1 : IntKind.i64.wrap ((y : Int) + 1) = (y : Int) + 1 := wI64 (by omega) (by omega)
  have hw2 : IntKind.i64.wrap ((y : Int) * cols) = ((y * cols : Nat) : Int) := by rw [hp]; exact wI64 (by omega) (by omega)
  have hw3 : IntKind.i64.wrap (((y : Int) + 1) * cols) = (((y + 1) * cols : Nat) : Int) := by rw [hp1]; exact wI64 (by omega) (by omega)
  have hy0 : ¬ (y : Int) < 0 := by omega
  have hy1 : ¬ (rows : Int) ≤ y := by omega
  refine CallK.of_fn TH20_ok rc_grow_ok (by simp [rc_grow]) ?_
  unfold rc_grow
  dsimp only
  simp -implicitDefEqProofs -dsimp only [TH20_at, F_growsS_1, ceRows_len, rowsI_gr g, hl.1, hy0, hy1, hw1, hw2, hw3, vcS, ↓vcP1, ↓vcP2, ↓reduceIte, reduceCtorEq, Nat.reduceLT, Nat.reduceLeDiff, Nat.reduceEqDiff, Nat.reduceAdd, Nat.reduceSub, Nat.reduceMul, Int.reduceLT, Int.reduceLE, Int.reduceEq, Int.reduceToNat, Int.reduceAdd, Int.reduceSub, Int.reduceNeg, List.reduceReplicate, Nat.reducePow, Int.reduceMul]
  have e : (y + 1) * cols - y * cols = cols := by omega
  rw [e, ceRows_drop, ceRows_take]
  exact ⟨by omega, by omega, ⟨by omega, by omega, .inl hz⟩, h k⟩
theorem srow_K {T : Objs} {s : Sc} {p : Pa} {v : DV} {y : Nat} {K : DV → Objs → Prop} (ok : ScOk s) (hv : ScVal s p v) (hy : y < s.rows) (h : ∀ T' q, T.length ≤ q → T'[q]? = some (some (.arr 3 (ceRows (rowF s.cells s.cols y)))) → Keep T T' [] → K (.own q 0 s.cols) T') : CallK PG 12 [v, .int .i64 y] T K := by
  obtain ⟨z1, z2, z3, k1, k2, k3, m, pr, d1, d2, d3, sv, rfl⟩ := hv
  have o1 : DV.one d1 = true := by obtain ⟨a, b, e, _⟩ := isInts_inv sv.pa.i1; rw [e]; rfl
  have o2 : DV.one d2 = true := by obtain ⟨a, b, e, _⟩ := isInts_inv sv.pa.i2; rw [e]; rfl
  have o3 : DV.one d3 = true := by obtain ⟨a, b, e, _⟩ := isInts_inv sv.pa.i3; rw [e]; rfl
  have hl := ok.g.lim
  have rl := rowF_len ok.g hy
  have hc := ok.g.c
  have cC : isCe z1 (ceRows (rowF s.cells s.cols y)) := isCe_mk (.inl sv.z1) (by omega)
  unfold scD
  refine CallK.of_fn TH20_ok rc_srow_ok (by simp [rc_srow]) ?_
  unfold rc_srow
  dsimp only
  simp -implicitDefEqProofs -dsimp only [tb_at, TH20_n24, o1, o2, o3, vcS, ↓vcP1, ↓vcP2, ↓reduceIte, reduceCtorEq, Nat.reduceLT, Nat.reduceLeDiff, Nat.reduceEqDiff, Nat.reduceAdd, Nat.reduceSub, Nat.reduceMul, Int.reduceLT, Int.reduceLE, Int.reduceEq, Int.reduceToNat, Int.reduceAdd, Int.reduceSub, Int.reduceNeg, List.reduceReplicate, Nat.reducePow, Int.reduceMul]
  refine growS_K sv.z1 ok.g hy fun k' => ?_
  simp -implicitDefEqProofs -dsimp only [tb_at, TH20_c, F_cloneC_1, cC, ceRows_len, rl, o1, o2, o3, vcS, ↓vcP1, ↓vcP2, ↓reduceIte, reduceCtorEq, Nat.reduceLT, Nat.reduceLeDiff, Nat.reduceEqDiff, Nat.reduceAdd, Nat.reduceSub, Nat.reduceMul, Int.reduceLT, Int.reduceLE, Int.reduceEq, Int.reduceToNat, Int.reduceAdd, Int.reduceSub, Int.reduceNeg, List.reduceReplicate, Nat.reducePow, Int.reduceMul]
  exact h _ (T.length + 1) (by omega) (tb_geti _ _ 1) (Keep.app _ _ _)
theorem Frzs.tup1 {T : Objs} {q sz : Nat} {rows : List (List DV)} {cs : List DV} {k : IntKind} {x : Int} (h : T[q]? = some (some (.arr sz rows))) : Frzs ⟨[(0, .tup [.agg cs, .int k x])], T⟩ ⟨[(0, .tup [.agg (cs.map (DV.frz0 q sz rows)), .int k x])], T.set q none⟩ := by
  refine .frz q sz rows ⟨h, fun t => ?_, by simp, fun k ob' hk => ?_⟩ (.refl _)
  · rw [look_single, look_single]
    split
    · exact .inr rfl
    · exact .inl rfl
  · rw [getElem?_set] at hk
    by_cases e : q = k
    · rw [if_pos e] at hk; split at hk <;> simp at hk
    · rw [if_neg e] at hk; exact ⟨fun e' => e e'.symm, ob', hk, frOb.refl (fr0.refl _ _ _) _⟩
theorem Frzs.scT {T0 T : Objs} {o q tq : Nat} {s : Sc} {p : Pa} {m pr : Int} {d1 d2 d3 : DV} {n : IntKind} {x : Int} (k0 : Keep T0 T []) (pa : PaAt p m pr d1 d2 d3) (t : TmAt T0 T o q tq s (.sl 0 [] .nil) m pr d1 d2 d3) (ok : ScOk s) :
    ∃ v T', Frzs ⟨[(0, .tup [.agg (tmBox s q tq (.sl 0 [] .nil) m pr d1 d2 d3), .int n x])], T⟩ ⟨[(0, .tup [v, .int n x])], T'⟩ ∧ ScVal s p v ∧ Keep T0 T' [] ∧ T'.length = T.length := by
  have h1 := Frzs.tup1 (cs := tmBox s q tq (.sl 0 [] .nil) m pr d1 d2 d3) (k := n) (x := x) t.cells
  have h2 := Frzs.tup1 (cs := (tmBox s q tq (.sl 0 [] .nil) m pr d1 d2 d3).map (DV.frz0 q 3 (ceRows s.cells))) (k := n) (x := x) (tb_ne t.tabs none t.qt.symm)
  have k2 : Keep T0 ((T.set q none).set tq none) [] := (k0.put t.nq none).put t.nt none
  have ha : s.alt = false := by
    rcases t.oth with ⟨oq, e, _⟩ | ⟨h, _⟩
    · cases e
    · exact h
  refine ⟨_, _, h1.trans h2, ⟨3, 1, 0, .any, .any, .nil, m, pr, d1, d2, d3, ⟨rfl, rfl, .inr (ok.non ha).1, pa⟩, ?_⟩, k2, by simp⟩
  simp only [tmBox, scD, List.map_cons, List.map_nil, fzOwn q 3 _ _ (ceRows_len s.cells).symm, fzNe _ t.qt.symm, fzSl, fzOwn tq 1 _ _ (boRows_len s.tabs).symm, fzInts pa.i1, fzInts pa.i2, fzInts pa.i3, (ok.non ha).1, ceRows_nil, fzInt, fzBool]
theorem snewV_K {T : Objs} {r c : Nat} {K : DV → Objs → Prop} (hr : 1 ≤ r ∧ r ≤ 1000) (hc : 1 ≤ c ∧ c ≤ 1000) (h : ∀ T' v, Keep T T' [] → ScVal (newF r c) (pa0 0) v → K (.tup [v, .int .i64 0]) T') : CallK PG 10 [.int .i64 r, .int .i64 c] T K := by
  refine CallK.of_fnF FOk.nil rc_snewS_ok (by simp [rc_snewS]) ?_
  unfold rc_snewS
  dsimp only
  have r1 : ¬ (r : Int) < 1 := by omega
  have r2 : ¬ (1000 : Int) < r := by omega
  have c1 : ¬ (c : Int) < 1 := by omega
  have c2 : ¬ (1000 : Int) < c := by omega
  simp -implicitDefEqProofs -dsimp only [tb_at, r1, r2, c1, c2, vcS, ↓vcP1, ↓vcP2, ↓reduceIte, reduceCtorEq, Nat.reduceLT, Nat.reduceLeDiff, Nat.reduceEqDiff, Nat.reduceAdd, Nat.reduceSub, Nat.reduceMul, Int.reduceLT, Int.reduceLE, Int.reduceEq, Int.reduceToNat, Int.reduceAdd, Int.reduceSub, Int.reduceNeg, List.reduceReplicate, Nat.reducePow, Int.reduceMul]
  refine gBlank_K hr hc fun T1 q hq hA k1 => ?_
  have w1 : IntKind.i64.wrap ((r : Int) - 1) = ((r - 1 : Nat) : Int) := by rw [wI64 (by omega) (by omega)]; omega
  have hb := k1.at (tb_get0 T [] (some (Ob.box _))) (by simp)
  simp -implicitDefEqProofs -dsimp only [tb_at, r1, r2, c1, c2, w1, vcS, ↓vcP1, ↓vcP2, ↓reduceIte, reduceCtorEq, Nat.reduceLT, Nat.reduceLeDiff, Nat.reduceEqDiff, Nat.reduceAdd, Nat.reduceSub, Nat.reduceMul, Int.reduceLT, Int.reduceLE, Int.reduceEq, Int.reduceToNat, Int.reduceAdd, Int.reduceSub, Int.reduceNeg, List.reduceReplicate, Nat.reducePow, Int.reduceMul]
  refine stabs_K (was := []) (.inr rfl) hc fun T2 tq htq hB k2 => ?_
  simp -implicitDefEqProofs -dsimp only [tb_at, r1, r2, c1, c2, w1, tb_all (k2.at hb (by simp)), vcS, ↓vcP1, ↓vcP2, ↓reduceIte, reduceCtorEq, Nat.reduceLT, Nat.reduceLeDiff, Nat.reduceEqDiff, Nat.reduceAdd, Nat.reduceSub, Nat.reduceMul, Int.reduceLT, Int.reduceLE, Int.reduceEq, Int.reduceToNat, Int.reduceAdd, Int.reduceSub, Int.reduceNeg, List.reduceReplicate, Nat.reducePow, Int.reduceMul]
  have l1 := k1.1
  have l2 := k2.1
  simp only [List.length_append, List.length_cons, List.length_nil] at l1 hq
  have kk : Keep T T2 [] := ((Keep.app T _ []).new k1 (by simp)).new k2 (by simp)
  have e : newD r c q tq = .agg [.int .i64 r, .int .i64 c, .own q 0 (r * c), .int .i64 0, .int .i64 0, .bool false, .int .u16 0, .int .i64 0, .int .i64 ((r - 1 : Nat) : Int), .own tq 0 c, .int .i64 0, .int .i64 0, .int .u16 0, .bool true, .bool true, .bool false, .sl 0 [] .nil, .int .i64 0, .int .i64 0, .int .i64 0, .int .u8 0, .sl 0 [] .nil, .sl 0 [] .nil, .sl 0 [] .nil] := by
    simp [newD, tmBox, newF, blankG, tabs0_len]
  have lq := tb_lt hA
  have tz : TmAt T (T2.set T.length (some (.box (tmBox (newF r c) q tq (.sl 0 [] .nil) 0 0 (.sl 0 [] .nil) (.sl 0 [] .nil) (.sl 0 [] .nil))))) T.length q tq (newF r c) (.sl 0 [] .nil) 0 0 (.sl 0 [] .nil) (.sl 0 [] .nil) (.sl 0 [] .nil) :=
    ⟨tb_ss (k2.at hb (by simp)) _, tb_ne (k2.at hA (by simp)) _ (by omega), by rw [tabsTo_nil] at hB; exact tb_ne hB _ (by omega), .inr ⟨rfl, 0, .nil, rfl⟩, by omega, by omega, by omega, Dd.ge (Nat.le_refl _), Dd.ge (by omega), Dd.ge (by omega)⟩
  have pz : PaAt (pa0 0) 0 0 (.sl 0 [] .nil) (.sl 0 [] .nil) (.sl 0 [] .nil) := { m := rfl, pr := rfl, i1 := isInts_none _ _ _, i2 := isInts_none _ _ _, i3 := isInts_none _ _ _, e1 := rfl, e2 := rfl, e3 := rfl }
  have e2 : tmBox (newF r c) q tq (.sl 0 [] .nil) 0 0 (.sl 0 [] .nil) (.sl 0 [] .nil) (.sl 0 [] .nil) = _ := DV.agg.inj e
  obtain ⟨v', T', hF, hv, kT, hl⟩ := Frzs.scT (n := .i64) (x := 0) (kk.put (Dd.ge (Nat.le_refl _)) _) pz tz (newF_ok hr hc)
  refine ⟨by simp; omega, .tup [v', .int .i64 0], T', ?_, h T' v' kT hv⟩
  rw [e2] at hF
  exact hF
noncomputable def rc_fresh : RFn := ⟨2, 14, .seq (.reg [⟨some 4, .alloc [.int .i64 0, .int .i64 0, .sl 0 [] .nil, .int .i64 0, .int .i64 0, .bool false, .int .u16 0, .int .i64 0, .int .i64 0, .sl 0 [] .nil, .int .i64 0, .int .i64 0, .int .u16 0, .bool false, .bool false, .bool false, .sl 0 [] .nil, .int .i64 0, .int .i64 0, .int .i64 0, .int .u8 0, .sl 0 [] .nil, .sl 0 [] .nil, .sl 0 [] .nil], none, false⟩] 0 [0, 1, 4]) (.seq (.reg [⟨some 8, .mov (.t 0), none, false⟩, ⟨some 9, .mov (.t 1), none, false⟩, ⟨some 10, .call 10 [.t 8, .t 9], none, false⟩, ⟨some 7, .mov (.t 10), none, false⟩, ⟨some 11, .ext (.t 7) 0, none, false⟩, ⟨some 12, .ext (.t 7) 1, none, false⟩, ⟨some 5, .alloc [.int .i64 0, .int .i64 0, .sl 0 [] .nil, .int .i64 0, .int .i64 0, .bool false, .int .u16 0, .int .i64 0, .int .i64 0, .sl 0 [] .nil, .int .i64 0, .int .i64 0, .int .u16 0, .bool false, .bool false, .bool false, .sl 0 [] .nil, .int .i64 0, .int .i64 0, .int .i64 0, .int .u8 0, .sl 0 [] .nil, .sl 0 [] .nil, .sl 0 [] .nil], none, false⟩, ⟨none, .store 24 (.t 5) (.t 11), none, false⟩, ⟨some 6, .mov (.t 12), none, false⟩] 0 [4, 5]) (.seq (.reg [⟨some 13, .load true 24 (.t 5), none, false⟩, ⟨none, .store 24 (.t 4) (.t 13), none, false⟩] 0 [4]) .ret)), [.c 4 true 24]⟩
theorem rc_fresh_ok : compFn PG.P [⟨0, 0, [0, 1, 4], []⟩, ⟨1, 0, [4, 5], []⟩, ⟨2, 0, [4], []⟩] 8 = some rc_fresh := by kernel_rfl
theorem fresh_K {T : Objs} {r c : Nat} {K : DV → Objs → Prop} (hr : 1 ≤ r ∧ r ≤ 1000) (hc : 1 ≤ c ∧ c ≤ 1000) (h : ∀ T' v, Keep T T' [] → ScVal (newF r c) (pa0 0) v → K v T') : CallK PG 8 [.int .i64 r, .int .i64 c] T K := by
  refine CallK.of_fn FOk.nil rc_fresh_ok (by simp [rc_fresh]) ?_
  unfold rc_fresh
  dsimp only
  simp -implicitDefEqProofs -dsimp only [tb_at, vcS, ↓vcP1, ↓vcP2, ↓reduceIte, reduceCtorEq, Nat.reduceLT, Nat.reduceLeDiff, Nat.reduceEqDiff, Nat.reduceAdd, Nat.reduceSub, Nat.reduceMul, Int.reduceLT, Int.reduceLE, Int.reduceEq, Int.reduceToNat, Int.reduceAdd, Int.reduceSub, Int.reduceNeg, List.reduceReplicate, Nat.reducePow, Int.reduceMul]
  refine snewV_K hr hc fun T1 v k1 hv => ?_
  have hv' := hv
  obtain ⟨z1, z2, z3, j1, j2, j3, m, pr, d1, d2, d3, sv, rfl⟩ := hv
  have o1 : DV.one d1 = true := by obtain ⟨a, b, e, _⟩ := isInts_inv sv.pa.i1; rw [e]; rfl
  have o2 : DV.one d2 = true := by obtain ⟨a, b, e, _⟩ := isInts_inv sv.pa.i2; rw [e]; rfl
  have o3 : DV.one d3 = true := by obtain ⟨a, b, e, _⟩ := isInts_inv sv.pa.i3; rw [e]; rfl
  have hb := k1.at (tb_get0 T [] (some (Ob.box _))) (by simp)
  generalize newF r c = s at *
  unfold scD at hv' ⊢
  simp -implicitDefEqProofs -dsimp only [tb_at, tb_all hb, o1, o2, o3, vcS, ↓vcP1, ↓vcP2, ↓reduceIte, reduceCtorEq, Nat.reduceLT, Nat.reduceLeDiff, Nat.reduceEqDiff, Nat.reduceAdd, Nat.reduceSub, Nat.reduceMul, Int.reduceLT, Int.reduceLE, Int.reduceEq, Int.reduceToNat, Int.reduceAdd, Int.reduceSub, Int.reduceNeg, List.reduceReplicate, Nat.reducePow, Int.reduceMul]
  have kk : Keep T T1 [] := (Keep.app T [_] []).new k1 (by simp)
  exact ⟨by have := kk.1; simp; omega, h _ _ ((kk.put (Dd.ge (Nat.le_refl _)) _).newApp _) hv'⟩
noncomputable def rc_known9 : RFn := ⟨0, 70, .seq (.reg [⟨some 0, .mov (.c (.bool false)), none, false⟩] 0 []) (.seq (.reg [⟨some 7, .call 10 [.c (.int .i64 3), .c (.int .i64 4)], none, false⟩, ⟨some 6, .mov (.t 7), none, false⟩, ⟨some 8, .ext (.t 6) 0, none, false⟩, ⟨some 9, .ext (.t 6) 1, none, false⟩, ⟨some 1, .alloc [.int .i64 0, .int .i64 0, .sl 0 [] .nil, .int .i64 0, .int .i64 0, .bool false, .int .u16 0, .int .i64 0, .int .i64 0, .sl 0 [] .nil, .int .i64 0, .int .i64 0, .int .u16 0, .bool false, .bool false, .bool false, .sl 0 [] .nil, .int .i64 0, .int .i64 0, .int .i64 0, .int .u8 0, .sl 0 [] .nil, .sl 0 [] .nil, .sl 0 [] .nil], none, false⟩, ⟨none, .store 24 (.t 1) (.t 8), none, false⟩, ⟨some 2, .mov (.t 9), none, false⟩] 0 [1, 2]) (.seq (.reg [⟨some 11, .call 10 [.c (.int .i64 0), .c (.int .i64 4)], none, false⟩, ⟨some 10, .mov (.t 11), none, false⟩, ⟨some 12, .ext (.t 10) 0, none, false⟩, ⟨some 13, .ext (.t 10) 1, none, false⟩, ⟨some 3, .alloc [.int .i64 0, .int .i64 0, .sl 0 [] .nil, .int .i64 0, .int .i64 0, .bool false, .int .u16 0, .int .i64 0, .int .i64 0, .sl 0 [] .nil, .int .i64 0, .int .i64 0, .int .u16 0, .bool false, .bool false, .bool false, .sl 0 [] .nil, .int .i64 0, .int .i64 0, .int .i64 0, .int .u8 0, .sl 0 [] .nil, .sl 0 [] .nil, .sl 0 [] .nil], none, false⟩, ⟨none, .store 24 (.t 3) (.t 12), none, false⟩, ⟨some 4, .mov (.t 13), none, false⟩] 0 [1, 2, 4]) (.seq (.seq (.reg [⟨some 14, .mov (.t 2), none, false⟩, ⟨some 15, .bin .neq (.t 14) (.c (.int .i64 0)), none, false⟩, ⟨some 16, .mov (.t 15), none, false⟩, ⟨some 17, .faddr 2 (.t 1), some (16, false), false⟩, ⟨some 18, .load false 1 (.t 17), some (16, false), false⟩, ⟨some 19, .len (.t 18), some (16, false), false⟩, ⟨some 20, .bin .neq (.t 19) (.c (.int .i64 12)), some (16, false), false⟩, ⟨some 21, .pick (.t 16) (.c (.bool true)) (.t 20), none, false⟩] 0 [1, 4, 21]) (.cond (.t 21) (.seq (.reg [⟨some 0, .mov (.c (.bool false)), none, false⟩] 0 [0]) .ret) .skip)) (.seq (.reg [⟨some 22, .load true 24 (.t 1), none, false⟩, ⟨some 23, .mkrow 1 [.int .u8 0] 4 [(0, (.c (.int .u8 97))), (1, (.c (.int .u8 13))), (2, (.c (.int .u8 10))), (3, (.c (.int .u8 98)))], none, false⟩, ⟨some 24, .conv .lit (.t 23), none, true⟩, ⟨some 25, .call 9 [.t 22, .t 24], none, false⟩, ⟨some 5, .alloc [.int .i64 0, .int .i64 0, .sl 0 [] .nil, .int .i64 0, .int .i64 0, .bool false, .int .u16 0, .int .i64 0, .int .i64 0, .sl 0 [] .nil, .int .i64 0, .int .i64 0, .int .u16 0, .bool false, .bool false, .bool false, .sl 0 [] .nil, .int .i64 0, .int .i64 0, .int .i64 0, .int .u8 0, .sl 0 [] .nil, .sl 0 [] .nil, .sl 0 [] .nil], none, false⟩, ⟨none, .store 24 (.t 5) (.t 25), none, false⟩] 0 [4, 5]) (.seq (.reg [⟨some 26, .mov (.t 4), none, false⟩, ⟨some 27, .bin .eql (.t 26) (.c (.int .i64 26)), none, false⟩, ⟨some 28, .mov (.t 27), none, false⟩, ⟨some 29, .faddr 2 (.t 5), some (28, true), false⟩, ⟨some 30, .load false 1 (.t 29), some (28, true), false⟩, ⟨some 31, .len (.t 30), some (28, true), false⟩, ⟨some 32, .bin .eql (.t 31) (.c (.int .i64 12)), some (28, true), false⟩, ⟨some 33, .pick (.t 28) (.t 32) (.c (.bool false)), none, false⟩, ⟨some 34, .mov (.t 33), none, false⟩, ⟨some 35, .faddr 2 (.t 5), some (34, true), false⟩, ⟨some 36, .load false 1 (.t 35), some (34, true), false⟩, ⟨some 37, .iaddr 3 (.t 36) (.c (.int .i64 0)), some (34, true), false⟩, ⟨some 38, .faddr 0 (.t 37), some (34, true), false⟩, ⟨some 39, .load false 1 (.t 38), some (34, true), false⟩, ⟨some 40, .bin .eql (.t 39) (.c (.int .i32 97)), some (34, true), false⟩, ⟨some 41, .pick (.t 34) (.t 40) (.c (.bool false)), none, false⟩, ⟨some 42, .mov (.t 41), none, false⟩, ⟨some 43, .faddr 2 (.t 5), some (42, true), false⟩, ⟨some 44, .load false 1 (.t 43), some (42, true), false⟩, ⟨some 45, .iaddr 3 (.t 44) (.c (.int .i64 4)), some (42, true), false⟩, ⟨some 46, .faddr 0 (.t 45), some (42, true), false⟩, ⟨some 47, .load false 1 (.t 46), some (42, true), false⟩, ⟨some 48, .bin .eql (.t 47) (.c (.int .i32 98)), some (42, true), false⟩, ⟨some 49, .pick (.t 42) (.t 48) (.c (.bool false)), none, false⟩, ⟨some 50, .mov (.t 49), none, false⟩, ⟨some 51, .faddr 3 (.t 5), some (50, true), false⟩, ⟨some 52, .load false 1 (.t 51), some (50, true), false⟩, ⟨some 53, .bin .eql (.t 52) (.c (.int .i64 1)), some (50, true), false⟩, ⟨some 54, .pick (.t 50) (.t 53) (.c (.bool false)), none, false⟩, ⟨some 55, .mov (.t 54), none, false⟩, ⟨some 56, .faddr 4 (.t 5), some (55, true), false⟩, ⟨some 57, .load false 1 (.t 56), some (55, true), false⟩, ⟨some 58, .bin .eql (.t 57) (.c (.int .i64 1)), some (55, true), false⟩, ⟨some 59, .pick (.t 55) (.t 58) (.c (.bool false)), none, false⟩, ⟨some 60, .mov (.t 59), none, false⟩, ⟨some 61, .load true 24 (.t 5), some (60, true), false⟩, ⟨some 62, .call 11 [.t 61], some (60, true), false⟩, ⟨some 63, .pick (.t 60) (.t 62) (.c (.bool false)), none, false⟩, ⟨some 64, .mov (.t 63), none, false⟩, ⟨some 65, .load true 24 (.t 5), some (64, true), false⟩, ⟨some 66, .call 12 [.t 65, .c (.int .i64 1)], some (64, true), false⟩, ⟨some 67, .len (.t 66), some (64, true), false⟩, ⟨some 68, .bin .eql (.t 67) (.c (.int .i64 4)), some (64, true), false⟩, ⟨some 69, .pick (.t 64) (.t 68) (.c (.bool false)), none, false⟩, ⟨some 0, .mov (.t 69), none, false⟩] 0 [0]) .ret))))), [.t 0]⟩
theorem rc_known9_ok : compFn PG.P [⟨0, 0, [], []⟩, ⟨1, 0, [1, 2], []⟩, ⟨2, 0, [1, 2, 4], []⟩, ⟨3, 0, [1, 4, 21], []⟩, ⟨4, 0, [0], []⟩, ⟨5, 0, [4, 5], [24]⟩, ⟨6, 0, [0], []⟩] 7 = some rc_known9 := by kernel_rfl
instance (c : Ce) : Decidable (ceIn c) := by unfold ceIn; infer_instance
def x0K : Sc × Pa := [97, 13, 10, 98].foldl feedF (newF 3 4, pa0 0)
theorem x0K_1 : x0K.1.cells.length = 12 ∧ x0K.1.cells.getD 0 blkC = ⟨97, 0, 0⟩ ∧ x0K.1.cells.getD 4 blkC = ⟨98, 0, 0⟩ ∧ x0K.1.y = 1 ∧ x0K.1.x = 1 ∧ x0K.1.rows = 3 ∧ x0K.1.cols = 4 ∧ x0K.1.wrap = false ∧ x0K.1.alt = false := by decide +kernel
theorem x0K_2 : (∀ c ∈ x0K.1.cells, ceIn c) ∧ x0K.1.other = [] ∧ cellsB x0K.1.cells 3 4 = true ∧ x0K.1.alt = false ∧ atB x0K.1.attr = true ∧ atB x0K.1.sattr = true ∧ prightF x0K.2 = true := by decide +kernel
theorem x0K_R : ScR x0K.1 x0K.2 := by
  obtain ⟨a1, a2, a3, a4, a5, a6, a7⟩ := x0K_2
  obtain ⟨b1, b2, b3, b4, b5, b6, b7, b8, b9⟩ := x0K_1
  refine { ci := a1, oi := ?_, cb := ?_, ob := ?_, ab := a5, sb := a6, pb := a7 }
  · rw [a2]; intro c hc; cases hc
  · rw [b6, b7]; exact a3
  · intro h; rw [a4] at h; cases h
theorem known9_K {T : Objs} {K : DV → Objs → Prop} (h : ∀ T', Keep T T' [] → K (.bool true) T') : CallK PG 7 [] T K := by
  have ok0 : ScOk (newF 3 4) := newF_ok (by decide) (by decide)
  have l0 : ((newF 3 4).cells.length : Int) = 12 := by decide
  refine CallK.of_fn FOk.nil rc_known9_ok (by simp [rc_known9]) ?_
  unfold rc_known9
  dsimp only
  simp -implicitDefEqProofs -dsimp only [tb_at, vcS, ↓vcP1, ↓vcP2, ↓reduceIte, reduceCtorEq, Nat.reduceLT, Nat.reduceLeDiff, Nat.reduceEqDiff, Nat.reduceAdd, Nat.reduceSub, Nat.reduceMul, Int.reduceLT, Int.reduceLE, Int.reduceEq, Int.reduceToNat, Int.reduceAdd, Int.reduceSub, Int.reduceNeg, List.reduceReplicate, Nat.reducePow, Int.reduceMul]
  refine snewV_K (r := 3) (c := 4) (by decide) (by decide) fun T1 v k1 hv => ?_
  have hv' := hv
  obtain ⟨z1, z2, z3, j1, j2, j3, m, pr, d1, d2, d3, sv, rfl⟩ := hv
  have o1 : DV.one d1 = true := by obtain ⟨a, b, e, _⟩ := isInts_inv sv.pa.i1; rw [e]; rfl
  have o2 : DV.one d2 = true := by obtain ⟨a, b, e, _⟩ := isInts_inv sv.pa.i2; rw [e]; rfl
  have o3 : DV.one d3 = true := by obtain ⟨a, b, e, _⟩ := isInts_inv sv.pa.i3; rw [e]; rfl
  generalize hs0 : newF 3 4 = s0 at *
  unfold scD at hv' ⊢
  simp -implicitDefEqProofs -dsimp only [tb_at, o1, o2, o3, vcS, ↓vcP1, ↓vcP2, ↓reduceIte, reduceCtorEq, Nat.reduceLT, Nat.reduceLeDiff, Nat.reduceEqDiff, Nat.reduceAdd, Nat.reduceSub, Nat.reduceMul, Int.reduceLT, Int.reduceLE, Int.reduceEq, Int.reduceToNat, Int.reduceAdd, Int.reduceSub, Int.reduceNeg, List.reduceReplicate, Nat.reducePow, Int.reduceMul]
  refine snewS_no (r := 0) (c := 4) (by decide) fun T2 k2 => ?_
  have hb1 := k2.at (tb_get0 T1 [] (some (Ob.box _))) (by simp)
  simp -implicitDefEqProofs -dsimp only [tb_at, tb_all hb1, o1, o2, o3, ceRows_len, l0, fun q sz rows => fzInts (q := q) (sz := sz) (rows := rows) sv.pa.i1, fun q sz rows => fzInts (q := q) (sz := sz) (rows := rows) sv.pa.i2, fun q sz rows => fzInts (q := q) (sz := sz) (rows := rows) sv.pa.i3, vcS, ↓vcP1, ↓vcP2, ↓reduceIte, reduceCtorEq, Nat.reduceLT, Nat.reduceLeDiff, Nat.reduceEqDiff, Nat.reduceAdd, Nat.reduceSub, Nat.reduceMul, Int.reduceLT, Int.reduceLE, Int.reduceEq, Int.reduceToNat, Int.reduceAdd, Int.reduceSub, Int.reduceNeg, List.reduceReplicate, Nat.reducePow, Int.reduceMul]
  subst hs0
  refine sfeed_K (l := [97, 13, 10, 98]) ok0 (paOk_pa0 0) hv' (.inl rfl) (inK_u8 (by simp) (by decide)) (by simp) fun T3 w k3 hw => ?_
  change ScVal x0K.1 x0K.2 w at hw
  have fo := feed_ok (l := [97, 13, 10, 98]) (x := (newF 3 4, pa0 0)) ok0 (paOk_pa0 0) (by decide)
  change ScOk x0K.1 ∧ paOk x0K.2 at fo
  have R := x0K_R
  obtain ⟨b1, b2, b3, b4, b5, b6, b7, b8, b9⟩ := x0K_1
  obtain ⟨ok1, pk1⟩ := fo
  have g0 := ceRows_get (L := x0K.1.cells) (i := 0) (by omega)
  have g4 := ceRows_get (L := x0K.1.cells) (i := 4) (by omega)
  rw [b2] at g0
  rw [b3] at g4
  generalize x0K.1 = s1 at *
  generalize x0K.2 = p1 at *
  have hw' := hw
  obtain ⟨z1, z2, z3, j1, j2, j3, m, pr, d1, d2, d3, sv1, rfl⟩ := hw
  have o1 : DV.one d1 = true := by obtain ⟨a, b, e, _⟩ := isInts_inv sv1.pa.i1; rw [e]; rfl
  have o2 : DV.one d2 = true := by obtain ⟨a, b, e, _⟩ := isInts_inv sv1.pa.i2; rw [e]; rfl
  have o3 : DV.one d3 = true := by obtain ⟨a, b, e, _⟩ := isInts_inv sv1.pa.i3; rw [e]; rfl
  have z13 := sv1.z1
  subst z13
  have c1 : (s1.cells.length : Int) = 12 := by omega
  have c2 : (s1.y : Int) = 1 := by omega
  have c3 : (s1.x : Int) = 1 := by omega
  have hw2 := hw'
  unfold scD at hw' ⊢
  simp -implicitDefEqProofs -dsimp only [tb_at, o1, o2, o3, ceRows_len, eq_true c1, eq_true c2, eq_true c3, g0, g4, vcS, ↓vcP1, ↓vcP2, ↓reduceIte, reduceCtorEq, Nat.reduceLT, Nat.reduceLeDiff, Nat.reduceEqDiff, Nat.reduceAdd, Nat.reduceSub, Nat.reduceMul, Int.reduceLT, Int.reduceLE, Int.reduceEq, Int.reduceToNat, Int.reduceAdd, Int.reduceSub, Int.reduceNeg, List.reduceReplicate, Nat.reducePow, Int.reduceMul]
  refine ⟨by omega, by omega, ?_⟩
  refine sright_fbf ok1 pk1 hw2 R b8 (by omega) b9 fun T4 k4 => ?_
  have hb4 := k4.at (tb_get0 T3 [] (some (Ob.box _))) (by simp)
  simp -implicitDefEqProofs -dsimp only [tb_at, tb_all hb4, o1, o2, o3, ceRows_len, vcS, ↓vcP1, ↓vcP2, ↓reduceIte, reduceCtorEq, Nat.reduceLT, Nat.reduceLeDiff, Nat.reduceEqDiff, Nat.reduceAdd, Nat.reduceSub, Nat.reduceMul, Int.reduceLT, Int.reduceLE, Int.reduceEq, Int.reduceToNat, Int.reduceAdd, Int.reduceSub, Int.reduceNeg, List.reduceReplicate, Nat.reducePow, Int.reduceMul]
  refine srow_K (y := 1) ok1 hw2 (by omega) fun T5 q hq hA k5 => ?_
  have c4 : (s1.cols : Int) = 4 := by omega
  simp -implicitDefEqProofs -dsimp only [tb_at, o1, o2, o3, ceRows_len, eq_true c4, vcS, ↓vcP1, ↓vcP2, ↓reduceIte, reduceCtorEq, Nat.reduceLT, Nat.reduceLeDiff, Nat.reduceEqDiff, Nat.reduceAdd, Nat.reduceSub, Nat.reduceMul, Int.reduceLT, Int.reduceLE, Int.reduceEq, Int.reduceToNat, Int.reduceAdd, Int.reduceSub, Int.reduceNeg, List.reduceReplicate, Nat.reducePow, Int.reduceMul]
  have q1 : Keep T T1 [] := by first | exact k1 | exact (Keep.app T _ []).new k1 (by simp)
  have q2 : Keep T T2 [] := by first | exact q1.new k2 (by simp) | exact (q1.newApp _).new k2 (by simp)
  have q3 : Keep T T3 [] := by first | exact q2.new k3 (by simp) | exact (q2.newApp _).new k3 (by simp) | exact ((q2.newApp _).put (Dd.ge (by have := q2.1; omega)) _).new k3 (by simp)
  have q4 : Keep T T4 [] := by first | exact q3.new k4 (by simp) | exact (q3.newApp _).new k4 (by simp)
  have q5 : Keep T T5 [] := by first | exact q4.new k5 (by simp) | exact (q4.newApp _).new k5 (by simp)
  exact ⟨q5.1, h _ q5⟩
theorem ScVal.lit {s : Sc} {p : Pa} {v : DV} (h : ScVal s p v) : ∃ z2 z3 k1 k2 k3 m pr d1 d2 d3, v = .agg [.int .i64 s.rows, .int .i64 s.cols, .sl 3 (ceRows s.cells) k1, .int .i64 s.y, .int .i64 s.x, .bool s.wrap, .int .u16 s.attr, .int .i64 s.top, .int .i64 s.bot, .sl z2 (boRows s.tabs) k2, .int .i64 s.sy, .int .i64 s.sx, .int .u16 s.sattr, .bool s.auto, .bool s.shown, .bool s.alt, .sl z3 (ceRows s.other) k3, .int .i64 s.oy, .int .i64 s.ox, .int .i64 m, .int .u8 pr, d1, d2, d3] ∧
    (DV.one d1 = true ∧ DV.one d2 = true ∧ DV.one d3 = true) ∧ (∀ q sz rows, DV.frz0 q sz rows d1 = d1) ∧ (∀ q sz rows, DV.frz0 q sz rows d2 = d2) ∧ (∀ q sz rows, DV.frz0 q sz rows d3 = d3) := by
  obtain ⟨z1, z2, z3, j1, j2, j3, m, pr, d1, d2, d3, sv, rfl⟩ := h
  have o1 : DV.one d1 = true := by obtain ⟨a, b, e, _⟩ := isInts_inv sv.pa.i1; rw [e]; rfl
  have o2 : DV.one d2 = true := by obtain ⟨a, b, e, _⟩ := isInts_inv sv.pa.i2; rw [e]; rfl
  have o3 : DV.one d3 = true := by obtain ⟨a, b, e, _⟩ := isInts_inv sv.pa.i3; rw [e]; rfl
  have z := sv.z1
  subst z
  exact ⟨z2, z3, j1, j2, j3, m, pr, d1, d2, d3, rfl, ⟨o1, o2, o3⟩, fun q sz rows => fzInts sv.pa.i1, fun q sz rows => fzInts sv.pa.i2, fun q sz rows => fzInts sv.pa.i3⟩
theorem inK_b {l : List Int} (hl : l.length ≤ 1000) (h : ∀ c ∈ l, 0 ≤ c ∧ c ≤ 255) : inK .u8 l := ⟨by omega, fun c hc => by have := h c hc; have := u8mm; omega⟩

def wrR (i : Nat) : Int := 97 + ((i % 26 : Nat) : Int)
def wrT (c k : Nat) : Sc := { newF 50 c with cells := (List.range (50 * c)).map fun i => if i < k then ⟨wrR i, 0, 0⟩ else blkC, y := if k > 0 ∧ k % c = 0 then k / c - 1 else k / c, x := if k > 0 ∧ k % c = 0 then c - 1 else k % c, wrap := decide (k > 0 ∧ k % c = 0) }
def scB (a b : Sc) : Bool := decide (a.rows = b.rows) && (decide (a.cols = b.cols) && (decide (a.cells = b.cells) && (decide (a.y = b.y) && (decide (a.x = b.x) && (decide (a.wrap = b.wrap) && (decide (a.attr = b.attr) && (decide (a.top = b.top) && (decide (a.bot = b.bot) && (decide (a.tabs = b.tabs) && (decide (a.sy = b.sy) && (decide (a.sx = b.sx) && (decide (a.sattr = b.sattr) && (decide (a.auto = b.auto) && (decide (a.shown = b.shown) && (decide (a.alt = b.alt) && (decide (a.other = b.other) && (decide (a.oy = b.oy) && decide (a.ox = b.ox))))))))))))))))))
theorem scB_eq {a b : Sc} (h : scB a b = true) : a = b := by
  unfold scB at h
  simp only [Bool.and_eq_true, decide_eq_true_eq] at h
  obtain ⟨h1, h2, h3, h4, h5, h6, h7, h8, h9, h10, h11, h12, h13, h14, h15, h16, h17, h18, h19⟩ := h
  cases a; cases b
  simp only at *
  subst h1 h2 h3 h4 h5 h6 h7 h8 h9 h10 h11 h12 h13 h14 h15 h16 h17 h18 h19
  rfl
theorem wr_vs : ∀ n : Nat, n < 26 → vstepF (pa0 0) (97 + (n : Int)) = (pa0 0, [⟨0, 97 + (n : Int), 0, 0, none, none⟩])
  | 0, _ => by kernel_rfl
  | 1, _ => by kernel_rfl
  | 2, _ => by kernel_rfl
  | 3, _ => by kernel_rfl
  | 4, _ => by kernel_rfl
  | 5, _ => by kernel_rfl
  | 6, _ => by kernel_rfl
  | 7, _ => by kernel_rfl
  | 8, _ => by kernel_rfl
  | 9, _ => by kernel_rfl
  | 10, _ => by kernel_rfl
  | 11, _ => by kernel_rfl
  | 12, _ => by kernel_rfl
  | 13, _ => by kernel_rfl
  | 14, _ => by kernel_rfl
  | 15, _ => by kernel_rfl
  | 16, _ => by kernel_rfl
  | 17, _ => by kernel_rfl
  | 18, _ => by kernel_rfl
  | 19, _ => by kernel_rfl
  | 20, _ => by kernel_rfl
  | 21, _ => by kernel_rfl
  | 22, _ => by kernel_rfl
  | 23, _ => by kernel_rfl
  | 24, _ => by kernel_rfl
  | 25, _ => by kernel_rfl
  | n + 26, h => by omega
def wrC (c : Nat) : Bool := (List.range 40).all fun k => scB (printF (wrT c k) (wrR k)) (wrT c (k + 1))
theorem wr1 : wrC 1 = true := by decide +kernel
theorem wr2 : wrC 2 = true := by decide +kernel
theorem wr3 : wrC 3 = true := by decide +kernel
theorem wr4 : wrC 4 = true := by decide +kernel
theorem wr5 : wrC 5 = true := by decide +kernel
theorem wr6 : wrC 6 = true := by decide +kernel
theorem wr7 : wrC 7 = true := by decide +kernel
theorem wr8 : wrC 8 = true := by decide +kernel
theorem wr9 : wrC 9 = true := by decide +kernel
theorem wr_all : ∀ c : Nat, 1 ≤ c → c < 10 → wrC c = true
  | 0, h, _ => by omega
  | 1, _, _ => wr1
  | 2, _, _ => wr2
  | 3, _, _ => wr3
  | 4, _, _ => wr4
  | 5, _, _ => wr5
  | 6, _, _ => wr6
  | 7, _, _ => wr7
  | 8, _, _ => wr8
  | 9, _, _ => wr9
  | n + 10, _, h => by omega
theorem wr_step {c k : Nat} (hc : 1 ≤ c ∧ c < 10) (hk : k < 40) : [wrR k].foldl feedF (wrT c k, pa0 0) = (wrT c (k + 1), pa0 0) := by
  have h := scB_eq (List.all_eq_true.1 (wr_all c hc.1 hc.2) k (List.mem_range.2 hk))
  have hv : vstepF (pa0 0) (wrR k) = (pa0 0, [⟨0, wrR k, 0, 0, none, none⟩]) := wr_vs (k % 26) (Nat.mod_lt _ (by decide))
  simp only [List.foldl_cons, List.foldl_nil]
  unfold feedF
  simp only [hv, List.foldl_cons, List.foldl_nil, actF]
  rw [show doF (wrT c k) 0 (wrR k) 0 0 (osL none) (osL none) = printF (wrT c k) (wrR k) from rfl, h]
theorem wrT_len {c k : Nat} : (wrT c k).cells.length = 50 * c := by simp [wrT]
theorem wrT_r {c k i : Nat} (h : i < 50 * c) : ((wrT c k).cells.getD i blkC).r = if i < k then wrR i else 32 := by
  simp only [wrT, List.getD_eq_getElem?_getD, List.getElem?_map, List.getElem?_range h, Option.map_some, Option.getD_some]
  split
  · rfl
  · rfl
theorem wr0_all : ((List.range 10).all fun c => scB (wrT c 0) (newF 50 c)) = true := by decide +kernel
theorem wrT_0 {c : Nat} (hc : c < 10) : wrT c 0 = newF 50 c := scB_eq (List.all_eq_true.1 wr0_all c (List.mem_range.2 hc))
theorem wrT_ok {c k : Nat} (hc : 1 ≤ c ∧ c < 10) (hk : k ≤ 40) : ScOk (wrT c k) := by
  have h : ScOk (newF 50 c) := newF_ok (by decide) (by omega)
  have h1 : k / c ≤ k := Nat.div_le_self k c
  have h2 : k % c < c := Nat.mod_lt _ (by omega)
  refine ⟨⟨h.g.r, h.g.c, wrT_len⟩, ?_, ?_, ?_, h.tb, h.b, h.rg, h.tabs, h.sy, h.sx, h.oy, h.ox, h.at', h.sat, h.alt, h.non⟩
  · show (if k > 0 ∧ k % c = 0 then k / c - 1 else k / c) < 50
    split <;> omega
  · show (if k > 0 ∧ k % c = 0 then c - 1 else k % c) < c
    split <;> omega
  · intro hw
    have hw' := of_decide_eq_true hw
    show (if k > 0 ∧ k % c = 0 then c - 1 else k % c) + 1 = c
    rw [if_pos hw']; omega
noncomputable def rc_wraps_l0 : RC := (.seq (.seq (.reg [⟨some 23, .mov (.t 8), none, false⟩, ⟨some 24, .mov (.t 6), none, false⟩, ⟨some 25, .bin .lss (.t 23) (.t 24), none, false⟩] 0 [5, 6, 7, 8, 25]) (.cond (.t 25) .skip (.ext 0))) (.seq (.blk 1 (.reg [⟨some 28, .load true 24 (.t 7), none, false⟩, ⟨some 29, .mov (.t 8), none, false⟩, ⟨some 30, .bin .rem (.t 29) (.c (.int .i64 26)), none, false⟩, ⟨some 31, .conv (.i2i .u8) (.t 30), none, false⟩, ⟨some 32, .bin .add (.c (.int .u8 97)) (.t 31), none, false⟩, ⟨some 33, .mkrow 1 [.int .u8 0] 1 [(0, (.t 32))], none, true⟩, ⟨some 34, .call 9 [.t 28, .t 33], none, false⟩, ⟨none, .store 24 (.t 7) (.t 34), none, false⟩] 0 [5, 6, 7, 8])) (.reg [⟨some 26, .mov (.t 8), none, false⟩, ⟨some 27, .bin .add (.t 26) (.c (.int .i64 1)), none, false⟩, ⟨some 8, .mov (.t 27), none, false⟩] 0 [5, 6, 7, 8])))
noncomputable def rc_wraps_l1 : RC := (.seq (.seq (.reg [⟨some 41, .mov (.t 9), none, false⟩, ⟨some 42, .faddr 2 (.t 7), none, false⟩, ⟨some 43, .load false 1 (.t 42), none, false⟩, ⟨some 44, .len (.t 43), none, false⟩, ⟨some 45, .bin .lss (.t 41) (.t 44), none, false⟩] 0 [5, 6, 7, 9, 45]) (.cond (.t 45) .skip (.ext 2))) (.seq (.blk 3 (.seq (.reg [⟨some 10, .mov (.c (.int .i32 32)), none, false⟩] 0 [5, 6, 7, 9, 10]) (.seq (.seq (.reg [⟨some 48, .mov (.t 9), none, false⟩, ⟨some 49, .mov (.t 6), none, false⟩, ⟨some 50, .bin .lss (.t 48) (.t 49), none, false⟩] 0 [5, 6, 7, 9, 10, 50]) (.cond (.t 50) (.reg [⟨some 51, .mov (.t 9), none, false⟩, ⟨some 52, .bin .rem (.t 51) (.c (.int .i64 26)), none, false⟩, ⟨some 53, .conv (.i2i .i32) (.t 52), none, false⟩, ⟨some 54, .bin .add (.c (.int .i32 97)) (.t 53), none, false⟩, ⟨some 10, .mov (.t 54), none, false⟩] 0 [5, 6, 7, 9, 10]) .skip)) (.seq (.reg [⟨some 55, .faddr 2 (.t 7), none, false⟩, ⟨some 56, .load false 1 (.t 55), none, false⟩, ⟨some 57, .mov (.t 9), none, false⟩, ⟨some 58, .iaddr 3 (.t 56) (.t 57), none, false⟩, ⟨some 59, .faddr 0 (.t 58), none, false⟩, ⟨some 60, .load false 1 (.t 59), none, false⟩, ⟨some 61, .mov (.t 10), none, false⟩, ⟨some 62, .bin .neq (.t 60) (.t 61), none, false⟩] 0 [5, 6, 7, 9, 62]) (.cond (.t 62) (.seq (.reg [⟨some 4, .mov (.c (.bool false)), none, false⟩] 0 [4]) .ret) .skip))))) (.reg [⟨some 46, .mov (.t 9), none, false⟩, ⟨some 47, .bin .add (.t 46) (.c (.int .i64 1)), none, false⟩, ⟨some 9, .mov (.t 47), none, false⟩] 0 [5, 6, 7, 9])))
noncomputable def rc_wraps : RFn := ⟨2, 114, .seq (.reg [⟨some 4, .mov (.c (.bool false)), none, false⟩] 0 [0, 1]) (.seq (.seq (.reg [⟨some 12, .call 7 [], none, false⟩, ⟨some 13, .un .not (.t 12), none, false⟩] 0 [0, 1, 13]) (.cond (.t 13) (.seq (.reg [⟨some 4, .mov (.c (.bool false)), none, false⟩] 0 [4]) .ret) .skip)) (.seq (.reg [⟨some 14, .mov (.t 1), none, false⟩, ⟨some 15, .bin .rem (.t 14) (.c (.int .u8 9)), none, false⟩, ⟨some 16, .conv (.i2i .i64) (.t 15), none, false⟩, ⟨some 17, .bin .add (.t 16) (.c (.int .i64 1)), none, false⟩, ⟨some 18, .mov (.t 0), none, false⟩, ⟨some 19, .bin .rem (.t 18) (.c (.int .u8 40)), none, false⟩, ⟨some 20, .conv (.i2i .i64) (.t 19), none, false⟩, ⟨some 5, .mov (.t 17), none, false⟩, ⟨some 6, .mov (.t 20), none, false⟩] 0 [5, 6]) (.seq (.reg [⟨some 21, .mov (.t 5), none, false⟩, ⟨some 22, .call 8 [.c (.int .i64 50), .t 21], none, false⟩, ⟨some 7, .alloc [.int .i64 0, .int .i64 0, .sl 0 [] .nil, .int .i64 0, .int .i64 0, .bool false, .int .u16 0, .int .i64 0, .int .i64 0, .sl 0 [] .nil, .int .i64 0, .int .i64 0, .int .u16 0, .bool false, .bool false, .bool false, .sl 0 [] .nil, .int .i64 0, .int .i64 0, .int .i64 0, .int .u8 0, .sl 0 [] .nil, .sl 0 [] .nil, .sl 0 [] .nil], none, false⟩, ⟨none, .store 24 (.t 7) (.t 22), none, false⟩] 0 [5, 6, 7]) (.seq (.seq (.reg [⟨some 8, .mov (.c (.int .i64 0)), none, false⟩] 0 [5, 6, 7, 8]) (.blk 0 (.loop rc_wraps_l0))) (.seq (.seq (.reg [⟨some 35, .faddr 2 (.t 7), none, false⟩, ⟨some 36, .load false 1 (.t 35), none, false⟩, ⟨some 37, .len (.t 36), none, false⟩, ⟨some 38, .mov (.t 5), none, false⟩, ⟨some 39, .bin .mul (.c (.int .i64 50)) (.t 38), none, false⟩, ⟨some 40, .bin .neq (.t 37) (.t 39), none, false⟩] 0 [5, 6, 7, 40]) (.cond (.t 40) (.seq (.reg [⟨some 4, .mov (.c (.bool false)), none, false⟩] 0 [4]) .ret) .skip)) (.seq (.seq (.reg [⟨some 9, .mov (.c (.int .i64 0)), none, false⟩] 0 [5, 6, 7, 9]) (.blk 2 (.loop rc_wraps_l1))) (.seq (.reg [⟨some 63, .mov (.t 6), none, false⟩, ⟨some 64, .bin .gtr (.t 63) (.c (.int .i64 0)), none, false⟩, ⟨some 65, .mov (.t 64), none, false⟩, ⟨some 66, .mov (.t 6), some (65, true), false⟩, ⟨some 67, .mov (.t 5), some (65, true), false⟩, ⟨some 68, .bin .rem (.t 66) (.t 67), some (65, true), false⟩, ⟨some 69, .bin .eql (.t 68) (.c (.int .i64 0)), some (65, true), false⟩, ⟨some 70, .pick (.t 65) (.t 69) (.c (.bool false)), none, false⟩, ⟨some 11, .mov (.t 70), none, false⟩] 0 [5, 6, 7, 11]) (.seq (.regD (.take ⟨some 71, .faddr 5 (.t 7), none, false⟩ [] (.take ⟨some 72, .load false 1 (.t 71), none, false⟩ [] (.take ⟨some 73, .mov (.t 11), none, false⟩ [] (.take ⟨some 74, .eqB false (.t 72) (.t 73), none, false⟩ [] (.take ⟨some 75, .mov (.t 74), none, false⟩ [] (.take ⟨some 76, .mov (.t 11), some (75, true), false⟩ [] (.take ⟨some 77, .mov (.t 76), some (75, true), false⟩ [] (.take ⟨some 78, .faddr 4 (.t 7), some (77, true), false⟩ [] (.take ⟨some 79, .load false 1 (.t 78), some (77, true), false⟩ [] (.take ⟨some 80, .mov (.t 5), some (77, true), false⟩ [] (.take ⟨some 81, .bin .sub (.t 80) (.c (.int .i64 1)), some (77, true), false⟩ [] (.take ⟨some 82, .bin .eql (.t 79) (.t 81), some (77, true), false⟩ [] (.take ⟨some 83, .pick (.t 77) (.t 82) (.c (.bool false)), some (75, true), false⟩ [] (.take ⟨some 84, .mov (.t 83), some (75, true), false⟩ [] (.take ⟨some 85, .faddr 3 (.t 7), some (84, true), false⟩ [] (.take ⟨some 86, .load false 1 (.t 85), some (84, true), false⟩ [] (.take ⟨some 87, .mov (.t 6), some (84, true), false⟩ [] (.take ⟨some 88, .mov (.t 5), some (84, true), false⟩ [] (.take ⟨some 89, .bin .quo (.t 87) (.t 88), some (84, true), false⟩ [] (.take ⟨some 90, .bin .sub (.t 89) (.c (.int .i64 1)), some (84, true), false⟩ [] (.take ⟨some 91, .bin .eql (.t 86) (.t 90), some (84, true), false⟩ [] (.take ⟨some 92, .pick (.t 84) (.t 91) (.c (.bool false)), some (75, true), false⟩ [] (.take ⟨some 93, .mov (.t 92), some (75, true), false⟩ [] (.take ⟨some 94, .mov (.t 11), some (93, false), false⟩ [] (.take ⟨some 95, .un .not (.t 94), some (93, false), false⟩ [] (.take ⟨some 96, .mov (.t 95), some (93, false), false⟩ [] (.take ⟨some 97, .faddr 4 (.t 7), some (96, true), false⟩ [] (.take ⟨some 98, .load false 1 (.t 97), some (96, true), false⟩ [] (.take ⟨some 99, .mov (.t 6), some (96, true), false⟩ [] (.take ⟨some 100, .mov (.t 5), some (96, true), false⟩ [] (.take ⟨some 101, .bin .rem (.t 99) (.t 100), some (96, true), false⟩ [] (.take ⟨some 102, .bin .eql (.t 98) (.t 101), some (96, true), false⟩ [] (.take ⟨some 103, .pick (.t 96) (.t 102) (.c (.bool false)), some (93, false), false⟩ [] (.take ⟨some 104, .mov (.t 103), some (93, false), false⟩ [] (.take ⟨some 105, .faddr 3 (.t 7), some (104, true), false⟩ [] (.take ⟨some 106, .load false 1 (.t 105), some (104, true), false⟩ [] (.take ⟨some 107, .mov (.t 6), some (104, true), false⟩ [] (.take ⟨some 108, .mov (.t 5), some (104, true), false⟩ [] (.take ⟨some 109, .bin .quo (.t 107) (.t 108), some (104, true), false⟩ [] (.take ⟨some 110, .bin .eql (.t 106) (.t 109), some (104, true), false⟩ [] (.take ⟨some 111, .pick (.t 104) (.t 110) (.c (.bool false)), some (93, false), false⟩ [] (.take ⟨some 112, .pick (.t 93) (.c (.bool true)) (.t 111), some (75, true), false⟩ [] (.take ⟨some 113, .pick (.t 75) (.t 112) (.c (.bool false)), none, false⟩ [] (.take ⟨some 4, .mov (.t 113), none, false⟩ [] .done)))))))))))))))))))))))))))))))))))))))))))) 0 [4]) .ret)))))))), [.t 4]⟩
theorem rc_wraps_ok : compFn PG.P [⟨0, 0, [0, 1], []⟩, ⟨1, 0, [0, 1, 13], []⟩, ⟨2, 0, [4], []⟩, ⟨3, 0, [5, 6], []⟩, ⟨4, 0, [5, 6, 7], []⟩, ⟨5, 0, [5, 6, 7, 8], []⟩, ⟨6, 0, [5, 6, 7, 8, 25], []⟩, ⟨7, 0, [5, 6, 7, 8], []⟩, ⟨8, 0, [5, 6, 7, 8], [33]⟩, ⟨9, 0, [5, 6, 7, 40], []⟩, ⟨10, 0, [4], []⟩, ⟨11, 0, [5, 6, 7, 9], []⟩, ⟨12, 0, [5, 6, 7, 9, 45], []⟩, ⟨13, 0, [5, 6, 7, 9], []⟩, ⟨14, 0, [5, 6, 7, 9, 10], []⟩, ⟨15, 0, [5, 6, 7, 9, 10, 50], []⟩, ⟨16, 0, [5, 6, 7, 9, 10], []⟩, ⟨17, 0, [5, 6, 7, 9, 62], []⟩, ⟨18, 0, [4], []⟩, ⟨19, 0, [5, 6, 7, 11], []⟩, ⟨20, 0, [4], []⟩] 3 = some rc_wraps := by kernel_rfl
theorem wraps_K {T : Objs} {n c : Int} {K : DV → Objs → Prop} (hn : 0 ≤ n ∧ n ≤ 255) (hc : 0 ≤ c ∧ c ≤ 255) (h : ∀ T', Keep T T' [] → K (.bool true) T') : CallK PG 3 [.int .u8 n, .int .u8 c] T K := by
  obtain ⟨b, hb⟩ : ∃ b : Nat, c.tmod 9 + 1 = b := ⟨(c.tmod 9 + 1).toNat, by have := Int.tmod_nonneg 9 hc.1; omega⟩
  obtain ⟨m, hm⟩ : ∃ m : Nat, n.tmod 40 = m := ⟨(n.tmod 40).toNat, by have := Int.tmod_nonneg 40 hn.1; omega⟩
  have b7 : 1 ≤ b ∧ b < 10 := by rw [Int.tmod_eq_emod_of_nonneg hc.1] at hb; omega
  have m7 : m < 40 := by rw [Int.tmod_eq_emod_of_nonneg hn.1] at hm; omega
  have e1 : IntKind.i64.wrap (c.tmod 9) + 1 = b := by rw [wI64 (by omega) (by omega)]; exact hb
  have e2 : IntKind.i64.wrap (n.tmod 40) = m := by rw [wI64 (by omega) (by omega)]; exact hm
  have w1 : IntKind.i64.wrap (b : Int) = b := wI64 (by omega) (by omega)
  refine CallK.of_fn FOk.nil rc_wraps_ok (by simp [rc_wraps]) ?_
  unfold rc_wraps
  dsimp only
  simp -implicitDefEqProofs -dsimp only [tb_at, vcS, ↓vcP1, ↓vcP2, ↓reduceIte, reduceCtorEq, Nat.reduceLT, Nat.reduceLeDiff, Nat.reduceEqDiff, Nat.reduceAdd, Nat.reduceSub, Nat.reduceMul, Int.reduceLT, Int.reduceLE, Int.reduceEq, Int.reduceToNat, Int.reduceAdd, Int.reduceSub, Int.reduceNeg, List.reduceReplicate, Nat.reducePow, Int.reduceMul]
  refine known9_K fun T1 k1 => ?_
  simp -implicitDefEqProofs -dsimp only [tb_at, e1, e2, w1, vcS, ↓vcP1, ↓vcP2, ↓reduceIte, reduceCtorEq, Nat.reduceLT, Nat.reduceLeDiff, Nat.reduceEqDiff, Nat.reduceAdd, Nat.reduceSub, Nat.reduceMul, Int.reduceLT, Int.reduceLE, Int.reduceEq, Int.reduceToNat, Int.reduceAdd, Int.reduceSub, Int.reduceNeg, List.reduceReplicate, Nat.reducePow, Int.reduceMul]
  refine fresh_K (r := 50) (c := b) (by omega) (by omega) fun T2 v2 k2 h2 => ?_
  have K2 : Keep T T2 [] := k1.new k2 (by simp)
  have L2 := K2.1
  rw [← wrT_0 b7.2] at h2
  generalize hs0 : wrT b 0 = s0 at h2
  obtain ⟨z2, z3, j1, j2, j3, m2, pr2, d1, d2, d3, rfl, ⟨o1, o2, o3⟩, f1, f2, f3⟩ := h2.lit
  simp -implicitDefEqProofs -dsimp only [tb_at, o1, o2, o3, e1, e2, w1, vcS, ↓vcP1, ↓vcP2, ↓reduceIte, reduceCtorEq, Nat.reduceLT, Nat.reduceLeDiff, Nat.reduceEqDiff, Nat.reduceAdd, Nat.reduceSub, Nat.reduceMul, Int.reduceLT, Int.reduceLE, Int.reduceEq, Int.reduceToNat, Int.reduceAdd, Int.reduceSub, Int.reduceNeg, List.reduceReplicate, Nat.reducePow, Int.reduceMul]
  have h2' : ∃ cs, Ob.box [.int .i64 s0.rows, .int .i64 s0.cols, .sl 3 (ceRows s0.cells) j1, .int .i64 s0.y, .int .i64 s0.x, .bool s0.wrap, .int .u16 s0.attr, .int .i64 s0.top, .int .i64 s0.bot, .sl z2 (boRows s0.tabs) j2, .int .i64 s0.sy, .int .i64 s0.sx, .int .u16 s0.sattr, .bool s0.auto, .bool s0.shown, .bool s0.alt, .sl z3 (ceRows s0.other) j3, .int .i64 s0.oy, .int .i64 s0.ox, .int .i64 m2, .int .u8 pr2, d1, d2, d3] = .box cs ∧ ScVal (wrT b 0) (pa0 0) (.agg cs) := ⟨_, rfl, by rw [hs0]; exact h2⟩
  obtain ⟨cs0, ecs0, h2''⟩ := h2'
  rw [ecs0]
  refine LoopWp.inv FOk.nil (S := fun σ : Nat × Objs => ⟨[(5, .int .i64 b), (6, .int .i64 m), (7, .ptr T2.length 0 0), (8, .int .i64 σ.1)], σ.2⟩)
    (I := fun σ => σ.1 ≤ m ∧ Keep T σ.2 [] ∧ ∃ cs, σ.2[T2.length]? = some (some (.box cs)) ∧ ScVal (wrT b σ.1) (pa0 0) (.agg cs)) (μ := fun σ => m - σ.1) (0, _) ⟨by simp, K2.newApp [some (Ob.box cs0)], cs0, tb_get0 T2 [] _, h2''⟩ ?_ ?_
  · simp -implicitDefEqProofs -dsimp only [wkT_self, objsWk_refl, e1, e2, w1, vcS, ↓vcP1, ↓vcP2, ↓reduceIte, reduceCtorEq, Nat.reduceLT, Nat.reduceLeDiff, Nat.reduceEqDiff, Nat.reduceAdd, Nat.reduceSub, Nat.reduceMul, Int.reduceLT, Int.reduceLE, Int.reduceEq, Int.reduceToNat, Int.reduceAdd, Int.reduceSub, Int.reduceNeg, List.reduceReplicate, Nat.reducePow, Int.reduceMul]
  · intro ⟨i, A⟩ ⟨n1, n2, cs, n3, n4⟩
    dsimp only at n1 n2 n3 n4 ⊢
    have n4' := n4
    have sok := wrT_ok b7 (show i ≤ 40 by omega)
    have w6 : IntKind.i64.wrap ((i : Int) + 1) = ((i + 1 : Nat) : Int) := by rw [wI64 (by omega) (by omega)]; omega
    obtain ⟨y2, y3, i1, i2, i3, m6, pr6, u1, u2, u3, ecs, ⟨x1, x2, x3⟩, g1', g2', g3'⟩ := n4.lit
    obtain rfl := DV.agg.inj ecs
    unfold rc_wraps_l0
    rcases Nat.lt_or_ge i m with hlt | hge
    · have hii : (i : Int) < m := by omega
      have t1 : (i : Int).tmod 26 = ((i % 26 : Nat) : Int) := rfl
      have l1 : i % 26 < 26 := Nat.mod_lt _ (by decide)
      have step := wr_step b7 (show i < 40 by omega)
      unfold wrR at step
      generalize i % 26 = r at *
      have wr1 : IntKind.u8.wrap (r : Int) = r := wU8 (by omega) (by omega)
      have wr2 : IntKind.u8.wrap (97 + (r : Int)) = 97 + (r : Int) := wU8 (by omega) (by omega)
      generalize wrT b i = s at *
      simp -implicitDefEqProofs -dsimp only [tb_at, tb_all n3, hii, x1, x2, x3, g1', g2', g3', t1, wr1, wr2, wkT_self, vcS, ↓vcP1, ↓vcP2, ↓reduceIte, reduceCtorEq, Nat.reduceLT, Nat.reduceLeDiff, Nat.reduceEqDiff, Nat.reduceAdd, Nat.reduceSub, Nat.reduceMul, Int.reduceLT, Int.reduceLE, Int.reduceEq, Int.reduceToNat, Int.reduceAdd, Int.reduceSub, Int.reduceNeg, List.reduceReplicate, Nat.reducePow, Int.reduceMul]
      refine sfeed_K (l := [97 + (r : Int)]) sok (paOk_pa0 0) n4' (.inl rfl) (inK_b (by simp) (by intro x hx; simp at hx; omega)) (by simp) fun T6 v6 k6 h6 => ?_
      rw [step] at h6
      dsimp only at h6
      generalize hs6 : wrT b (i + 1) = s6 at h6
      obtain ⟨y2, y3, i1, i2, i3, m7, pr7, v1, v2, v3, rfl, ⟨x1, x2, x3⟩, _⟩ := h6.lit
      have hb6 := k6.at (tb_f n3 _) (by simp)
      simp -implicitDefEqProofs -dsimp only [tb_at, tb_all hb6, x1, x2, x3, w6, wkT_self, vcS, ↓vcP1, ↓vcP2, ↓reduceIte, reduceCtorEq, Nat.reduceLT, Nat.reduceLeDiff, Nat.reduceEqDiff, Nat.reduceAdd, Nat.reduceSub, Nat.reduceMul, Int.reduceLT, Int.reduceLE, Int.reduceEq, Int.reduceToNat, Int.reduceAdd, Int.reduceSub, Int.reduceNeg, List.reduceReplicate, Nat.reducePow, Int.reduceMul]
      exact ⟨(i + 1, _), ⟨rfl, objsWk_refl _⟩, ⟨hlt, ((n2.newApp _).new k6 (by simp)).put (Dd.ge L2) _, _, tb_ss hb6 _, by rw [hs6]; exact h6⟩, by dsimp only; omega⟩
    · have hii : ¬ (i : Int) < m := by omega
      obtain rfl : i = m := by omega
      have cl : (wrT b i).cells.length = 50 * b := wrT_len
      have cr : ∀ j < 50 * b, ((wrT b i).cells.getD j blkC).r = if j < i then wrR j else 32 := fun j hj => wrT_r hj
      have fy : (wrT b i).y = if i > 0 ∧ i % b = 0 then i / b - 1 else i / b := rfl
      have fx : (wrT b i).x = if i > 0 ∧ i % b = 0 then b - 1 else i % b := rfl
      have fw : (wrT b i).wrap = decide (i > 0 ∧ i % b = 0) := rfl
      generalize wrT b i = s at *
      have cl' : (s.cells.length : Int) = 50 * (b : Int) := by omega
      have wb : IntKind.i64.wrap (50 * (b : Int)) = 50 * (b : Int) := wI64 (by omega) (by omega)
      simp -implicitDefEqProofs -dsimp only [tb_at, tb_all n3, hii, x1, x2, x3, g1', g2', g3', ceRows_len, wb, eq_true cl', wkT_self, vcS, ↓vcP1, ↓vcP2, ↓reduceIte, reduceCtorEq, Nat.reduceLT, Nat.reduceLeDiff, Nat.reduceEqDiff, Nat.reduceAdd, Nat.reduceSub, Nat.reduceMul, Int.reduceLT, Int.reduceLE, Int.reduceEq, Int.reduceToNat, Int.reduceAdd, Int.reduceSub, Int.reduceNeg, List.reduceReplicate, Nat.reducePow, Int.reduceMul]
      refine LoopWp.inv FOk.nil (S := fun j : Nat => ⟨[(5, .int .i64 b), (6, .int .i64 i), (7, .ptr T2.length 0 0), (9, .int .i64 j)], A⟩) (I := fun j => j ≤ 50 * b) (μ := fun j => 50 * b - j) 0 (by omega) ?_ ?_
      · simp -implicitDefEqProofs -dsimp only [wkT_self, objsWk_refl, vcS, ↓vcP1, ↓vcP2, ↓reduceIte, reduceCtorEq, Nat.reduceLT, Nat.reduceLeDiff, Nat.reduceEqDiff, Nat.reduceAdd, Nat.reduceSub, Nat.reduceMul, Int.reduceLT, Int.reduceLE, Int.reduceEq, Int.reduceToNat, Int.reduceAdd, Int.reduceSub, Int.reduceNeg, List.reduceReplicate, Nat.reducePow, Int.reduceMul]
      · intro j hj
        unfold rc_wraps_l1
        rcases Nat.lt_or_ge j (50 * b) with hlt | hge
        · have hjj : (j : Int) < s.cells.length := by omega
          have j0 : (0 : Int) ≤ j := by omega
          have hg := ceRows_get (L := s.cells) (i := j) (by omega)
          have e3 := cr j hlt
          have t26 : (j : Int).tmod 26 = ((j % 26 : Nat) : Int) := rfl
          have l26 : j % 26 < 26 := Nat.mod_lt _ (by decide)
          unfold wrR at e3
          generalize j % 26 = r at *
          have wi1 : IntKind.i32.wrap (r : Int) = r := wI32 (by omega) (by omega)
          have wi2 : IntKind.i32.wrap (97 + (r : Int)) = 97 + (r : Int) := wI32 (by omega) (by omega)
          have wj : IntKind.i64.wrap ((j : Int) + 1) = ((j + 1 : Nat) : Int) := by rw [wI64 (by omega) (by omega)]; omega
          have done : ∃ s' : Nat, ((j + 1 : Nat) : Int) = (s' : Int) ∧ s' ≤ 50 * b ∧ 50 * b - s' < 50 * b - j := ⟨j + 1, rfl, by omega, by omega⟩
          rcases Nat.lt_or_ge j i with h1 | h1
          · have h1' : (j : Int) < i := by omega
            rw [if_pos h1] at e3
            rw [e3] at hg
            simp -implicitDefEqProofs -dsimp only [tb_at, tb_all n3, ceRows_len, hjj, j0, hg, h1', t26, wi1, wi2, wj, Int.toNat_natCast, wkT_self, vcS, ↓vcP1, ↓vcP2, ↓reduceIte, reduceCtorEq, Nat.reduceLT, Nat.reduceLeDiff, Nat.reduceEqDiff, Nat.reduceAdd, Nat.reduceSub, Nat.reduceMul, Int.reduceLT, Int.reduceLE, Int.reduceEq, Int.reduceToNat, Int.reduceAdd, Int.reduceSub, Int.reduceNeg, List.reduceReplicate, Nat.reducePow, Int.reduceMul]
            exact done
          · have h1' : ¬ (j : Int) < i := by omega
            rw [if_neg (by omega)] at e3
            rw [e3] at hg
            simp -implicitDefEqProofs -dsimp only [tb_at, tb_all n3, ceRows_len, hjj, j0, hg, h1', t26, wi1, wi2, wj, Int.toNat_natCast, wkT_self, vcS, ↓vcP1, ↓vcP2, ↓reduceIte, reduceCtorEq, Nat.reduceLT, Nat.reduceLeDiff, Nat.reduceEqDiff, Nat.reduceAdd, Nat.reduceSub, Nat.reduceMul, Int.reduceLT, Int.reduceLE, Int.reduceEq, Int.reduceToNat, Int.reduceAdd, Int.reduceSub, Int.reduceNeg, List.reduceReplicate, Nat.reducePow, Int.reduceMul]
            exact done
        · have hjj : ¬ (j : Int) < s.cells.length := by omega
          have tq : (i : Int).tdiv b = ((i / b : Nat) : Int) := rfl
          have tr : (i : Int).tmod b = ((i % b : Nat) : Int) := rfl
          have bz : ¬ (b : Int) = 0 := by omega
          have q1 : i / b ≤ i := Nat.div_le_self i b
          have q2 : 0 < i → i % b = 0 → 1 ≤ i / b := fun h1 h2 => by
            have := Nat.div_add_mod i b
            rcases Nat.eq_zero_or_pos (i / b) with h3 | h3
            · rw [h3, h2] at this; omega
            · exact h3
          generalize i / b = q at *
          generalize i % b = r at *
          have wq : IntKind.i64.wrap (q : Int) = (q : Int) := wI64 (by omega) (by omega)
          have wb1 : IntKind.i64.wrap ((b : Int) - 1) = (b : Int) - 1 := wI64 (by omega) (by omega)
          have wq1 : IntKind.i64.wrap ((q : Int) - 1) = (q : Int) - 1 := wI64 (by omega) (by omega)
          rcases Nat.eq_zero_or_pos i with hi | hi
          · have hi' : ¬ (0 : Int) < i := by omega
            rw [if_neg (by omega)] at fy fx
            rw [decide_eq_false (by omega)] at fw
            have fx' : (s.x : Int) = r := by omega
            have fy' : (s.y : Int) = q := by omega
            simp -implicitDefEqProofs -dsimp only [tb_at, tb_all n3, ceRows_len, hjj, tq, tr, bz, wq, wb1, wq1, hi', fw, eq_true fx', eq_true fy', wkT_self, vcS, ↓vcP1, ↓vcP2, ↓reduceIte, reduceCtorEq, Nat.reduceLT, Nat.reduceLeDiff, Nat.reduceEqDiff, Nat.reduceAdd, Nat.reduceSub, Nat.reduceMul, Int.reduceLT, Int.reduceLE, Int.reduceEq, Int.reduceToNat, Int.reduceAdd, Int.reduceSub, Int.reduceNeg, List.reduceReplicate, Nat.reducePow, Int.reduceMul]
            exact ⟨n2.1, h _ n2⟩
          · have hi' : (0 : Int) < i := by omega
            rcases Nat.eq_zero_or_pos r with hr | hr
            · have hr' : (r : Int) = 0 := by omega
              have hq := q2 hi hr
              rw [if_pos ⟨hi, hr⟩] at fy fx
              rw [decide_eq_true ⟨hi, hr⟩] at fw
              have fx' : (s.x : Int) = (b : Int) - 1 := by omega
              have fy' : (s.y : Int) = (q : Int) - 1 := by omega
              simp -implicitDefEqProofs -dsimp only [tb_at, tb_all n3, ceRows_len, hjj, tq, tr, bz, wq, wb1, wq1, hi', eq_true hr', fw, eq_true fx', eq_true fy', wkT_self, vcS, ↓vcP1, ↓vcP2, ↓reduceIte, reduceCtorEq, Nat.reduceLT, Nat.reduceLeDiff, Nat.reduceEqDiff, Nat.reduceAdd, Nat.reduceSub, Nat.reduceMul, Int.reduceLT, Int.reduceLE, Int.reduceEq, Int.reduceToNat, Int.reduceAdd, Int.reduceSub, Int.reduceNeg, List.reduceReplicate, Nat.reducePow, Int.reduceMul]
              exact ⟨n2.1, h _ n2⟩
            · have hr' : ¬ (r : Int) = 0 := by omega
              rw [if_neg (by omega)] at fy fx
              rw [decide_eq_false (by omega)] at fw
              have fx' : (s.x : Int) = r := by omega
              have fy' : (s.y : Int) = q := by omega
              simp -implicitDefEqProofs -dsimp only [tb_at, tb_all n3, ceRows_len, hjj, tq, tr, bz, wq, wb1, wq1, hi', eq_false hr', fw, eq_true fx', eq_true fy', wkT_self, vcS, ↓vcP1, ↓vcP2, ↓reduceIte, reduceCtorEq, Nat.reduceLT, Nat.reduceLeDiff, Nat.reduceEqDiff, Nat.reduceAdd, Nat.reduceSub, Nat.reduceMul, Int.reduceLT, Int.reduceLE, Int.reduceEq, Int.reduceToNat, Int.reduceAdd, Int.reduceSub, Int.reduceNeg, List.reduceReplicate, Nat.reducePow, Int.reduceMul]
              exact ⟨n2.1, h _ n2⟩
theorem screenWraps_true (dv : List DV) (h : ConfL [(false, [.int .u8]), (false, [.int .u8])] dv) {K : DV → Objs → Prop} (hK : ∀ T', K (.bool true) T') : CallK PG 3 dv [] K := by
  obtain ⟨a0, r0, rfl, h0, h⟩ := h.cons
  obtain ⟨a1, r1, rfl, h1, h⟩ := h.cons
  obtain rfl := h.nil
  obtain ⟨x, rfl, hx⟩ := confA_int h0
  obtain ⟨y, rfl, hy⟩ := confA_int h1
  exact wraps_K hx hy fun T' _ => hK T'
end Go.Proofs.YtjmnbpilnneonaaDoor
