/- Texts H20, H21, H22, H23, H27, H28, H29 in one. -/
import Derived.Test.YtjmnbpilnneonaaDoorNA
set_option linter.unusedVariables false
set_option linter.unusedSimpArgs false
set_option maxRecDepth 10000
namespace Go.Proofs.YtjmnbpilnneonaaDoor
open Go.RowKit
section
open Go.ChangeShapes Go.WideShapes
theorem conf_ints {k : IntKind} {d : DV} (h : Conf (.sl [.int k]) d) : ∃ l, d = .sl 1 (intRows k l) .any ∧ (∀ n ∈ l, k.min ≤ n ∧ n ≤ k.max) := by
  cases h with
  | sl row rows h1 h2 h3 =>
    refine ⟨ints rows, ?_, ?_⟩
    · congr 1
      have : ∀ R : List (List DV), (∀ r ∈ R, r.length = 1) → (∀ r ∈ R, ∀ (i : Nat) c d, [CS.int k][i]? = some c → r[i]? = some d → Conf c d) → R = intRows k (ints R) := by
        intro R
        induction R with
        | nil => intro _ _; rfl
        | cons r R ih =>
          intro g1 g2
          have g3 := g1 r (by simp)
          match r, g3 with
          | [c], _ =>
            have g4 := g2 [c] (by simp) 0 (.int k) c rfl rfl
            cases g4 with
            | int k n a b =>
              have := ih (fun r hr => g1 r (by simp [hr])) (fun r hr => g2 r (by simp [hr]))
              conv => lhs; rw [this]
              simp [ints, intRows]
      exact this rows h2 h3
    · intro n hn
      simp only [ints, List.mem_map] at hn
      obtain ⟨r, hr, rfl⟩ := hn
      have g3 := h2 r hr
      match r, g3 with
      | [c], _ =>
        have g4 := h3 [c] hr 0 (.int k) c rfl rfl
        cases g4 with
        | int k n a b => exact ⟨a, b⟩
theorem confA_ints {k : IntKind} {d : DV} (h : ConfA (false, [.sl [.int k]]) d) : ∃ l, d = .sl 1 (intRows k l) .any ∧ (∀ n ∈ l, k.min ≤ n ∧ n ≤ k.max) := by
  obtain ⟨c, h1, h2⟩ := h
  obtain rfl := (List.cons.inj h1).1
  exact conf_ints h2
end
noncomputable def rc_growsS : RFn := ⟨2, 27, .seq (.reg [⟨some 4, .mov (.c (.int .i64 0)), none, false⟩] 0 [0, 1]) (.seq (.seq (.reg [⟨some 5, .mov (.t 1), none, false⟩, ⟨some 6, .call 36 [.t 5], none, false⟩, ⟨some 7, .un .not (.t 6), none, false⟩, ⟨some 8, .mov (.t 7), none, false⟩, ⟨some 9, .mov (.t 0), some (8, false), false⟩, ⟨some 10, .len (.t 9), some (8, false), false⟩, ⟨some 11, .mov (.t 1), some (8, false), false⟩, ⟨some 12, .bin .rem (.t 10) (.t 11), some (8, false), false⟩, ⟨some 13, .bin .neq (.t 12) (.c (.int .i64 0)), some (8, false), false⟩, ⟨some 14, .pick (.t 8) (.c (.bool true)) (.t 13), none, false⟩, ⟨some 15, .mov (.t 14), none, false⟩, ⟨some 16, .mov (.t 0), some (15, false), false⟩, ⟨some 17, .len (.t 16), some (15, false), false⟩, ⟨some 18, .mov (.t 1), some (15, false), false⟩, ⟨some 19, .bin .quo (.t 17) (.t 18), some (15, false), false⟩, ⟨some 20, .call 36 [.t 19], some (15, false), false⟩, ⟨some 21, .un .not (.t 20), some (15, false), false⟩, ⟨some 22, .pick (.t 15) (.c (.bool true)) (.t 21), none, false⟩] 0 [0, 1, 22]) (.cond (.t 22) (.seq (.reg [⟨some 4, .mov (.c (.int .i64 0)), none, false⟩] 0 [4]) .ret) .skip)) (.seq (.reg [⟨some 23, .mov (.t 0), none, false⟩, ⟨some 24, .len (.t 23), none, false⟩, ⟨some 25, .mov (.t 1), none, false⟩, ⟨some 26, .bin .quo (.t 24) (.t 25), none, false⟩, ⟨some 4, .mov (.t 26), none, false⟩] 0 [4]) .ret)), [.t 4]⟩
theorem rc_growsS_ok : compFn PG.P [⟨0, 0, [0, 1], []⟩, ⟨1, 0, [0, 1, 22], []⟩, ⟨2, 0, [4], []⟩, ⟨3, 0, [4], []⟩] 45 = some rc_growsS := by kernel_rfl
theorem growsS_P {sz_l : Nat} {k_l : SK} {l : List (List DV)} {c : Int}  (hp : l.length ≤ 1000000) :
    PCalls PG 45 [.sl sz_l l k_l, .int .i64 c] fun n RR OO => RR = (((.int .i64 (rowsI l.length c), [])) : DV × Objs).1 ∧ OO = (((.int .i64 (rowsI l.length c), [])) : DV × Objs).2 := by
  refine PCalls.by_fn (res := fun n => ((.int .i64 (rowsI l.length c), []))) TG1_ok rc_growsS_ok (by simp [rc_growsS]) fun n => ?_
  unfold rc_growsS
  dsimp only
  unfold rowsI
  cases hs : sizeB c with
  | false =>
    have h1 := sizeB_f hs
    simp -implicitDefEqProofs -dsimp only [TG1_b, hs, vcS, ↓vcP1, ↓vcP2, ↓reduceIte, reduceCtorEq, Nat.reduceLT, Nat.reduceLeDiff, Nat.reduceEqDiff, Nat.reduceAdd, Nat.reduceSub, Nat.reduceMul, Int.reduceLT, Int.reduceLE, Int.reduceEq, Int.reduceToNat, Int.reduceAdd, Int.reduceSub, Int.reduceNeg, List.reduceReplicate, Nat.reducePow, Int.reduceMul]
    rw [if_neg (by omega)]
  | true =>
    have h1 := sizeB_t hs
    have hc : ¬ c = 0 := by omega
    have hc1 : ¬ c = -1 := by omega
    have hd0 : 0 ≤ (l.length : Int).tdiv c := Int.tdiv_nonneg (by omega) (by omega)
    have hd1 : (l.length : Int).tdiv c ≤ l.length := Int.tdiv_le_self _ (by omega)
    have hw : IntKind.i64.wrap ((l.length : Int).tdiv c) = (l.length : Int).tdiv c := wI64 (by omega) (by omega)
    by_cases hm : (l.length : Int).tmod c = 0
    · cases hq : sizeB ((l.length : Int).tdiv c) with
      | false =>
        have h2 := sizeB_f hq
        simp -implicitDefEqProofs -dsimp only [TG1_b, hs, hc, hc1, hm, hw, hq, vcS, ↓vcP1, ↓vcP2, ↓reduceIte, reduceCtorEq, Nat.reduceLT, Nat.reduceLeDiff, Nat.reduceEqDiff, Nat.reduceAdd, Nat.reduceSub, Nat.reduceMul, Int.reduceLT, Int.reduceLE, Int.reduceEq, Int.reduceToNat, Int.reduceAdd, Int.reduceSub, Int.reduceNeg, List.reduceReplicate, Nat.reducePow, Int.reduceMul]
        rw [if_neg (by omega)]
      | true =>
        have h2 := sizeB_t hq
        simp -implicitDefEqProofs -dsimp only [TG1_b, hs, hc, hc1, hm, hw, hq, vcS, ↓vcP1, ↓vcP2, ↓reduceIte, reduceCtorEq, Nat.reduceLT, Nat.reduceLeDiff, Nat.reduceEqDiff, Nat.reduceAdd, Nat.reduceSub, Nat.reduceMul, Int.reduceLT, Int.reduceLE, Int.reduceEq, Int.reduceToNat, Int.reduceAdd, Int.reduceSub, Int.reduceNeg, List.reduceReplicate, Nat.reducePow, Int.reduceMul]
        rw [if_pos (by omega)]
    · simp -implicitDefEqProofs -dsimp only [TG1_b, hs, hc, hc1, hm, vcS, ↓vcP1, ↓vcP2, ↓reduceIte, reduceCtorEq, Nat.reduceLT, Nat.reduceLeDiff, Nat.reduceEqDiff, Nat.reduceAdd, Nat.reduceSub, Nat.reduceMul, Int.reduceLT, Int.reduceLE, Int.reduceEq, Int.reduceToNat, Int.reduceAdd, Int.reduceSub, Int.reduceNeg, List.reduceReplicate, Nat.reducePow, Int.reduceMul]
      try rw [if_neg (by omega)]
def F_growsS : List DV → Option FSpec
  | [.sl sz_l l k_l, .int .i64 c] => some ⟨l.length ≤ 1000000, fun n => ((.int .i64 (rowsI l.length c), []))⟩
  | _ => none
theorem F_growsS_1 (sz_l : Nat) (l : List (List DV)) (k_l : SK) (c : Int) : F_growsS [.sl sz_l l k_l, .int .i64 c] = some ⟨l.length ≤ 1000000, fun n => ((.int .i64 (rowsI l.length c), []))⟩ := nrfl _
theorem growsS_ok (args : List DV) (s : FSpec) (hs : F_growsS args = some s) (hp : s.pre) : PCalls PG 45 args fun n r os => r = (s.res n).1 ∧ os = (s.res n).2 := by
  unfold F_growsS at hs
  split at hs
  · rename_i sz_l l k_l c
    obtain rfl := sj hs
    have this := growsS_P  (sz_l := sz_l) (k_l := k_l) (c := c)  hp
    exact this
  · cases hs
def TH20 : FL := (45, .o F_growsS) :: TH14
theorem TH20_ok : FOk PG (tab TH20) := FOk.cons TH14_ok growsS_ok
theorem TH20_at (args : List DV) : tab TH20 45 args = (F_growsS args).map .o := nrfl _
theorem TH20_c (args : List DV) : tab TH20 23 args = (F_cloneC args).map .o := nrfl _
theorem TH20_n24 (args : List DV) : tab TH20 24 args = none := nrfl _
theorem growS_K {T : Objs} {sz rows cols y : Nat} {k : SK} {L : List Ce} {K : DV → Objs → Prop} (hz : sz = 3) (g : GrOk L rows cols) (hy : y < rows) (h : ∀ k', K (.sl sz (ceRows (rowF L cols y)) k') T) : CallK PG 24 [.sl sz (ceRows L) k, .int .i64 cols, .int .i64 y] T K := by
  have h1 := g.r
  have h2 := g.c
  have hm : rows * cols ≤ 1000 * 1000 := Nat.mul_le_mul h1.2 h2.2
  have hl := g.lim
  have hgl := g.len
  have hrow := row_in (cols := cols) hy
  have hsucc := row_succ y cols
  have hp : (y : Int) * cols = ((y * cols : Nat) : Int) := by simp
  have hp1 : ((y : Int) + 1) * cols = (((y + 1) * cols : Nat) : Int) := by simp
  have hw1 : IntKind.i64.wrap ((y : Int) + 1) = (y : Int) + 1 := wI64 (by omega) (by omega)
  have hw2 : IntKind.i64.wrap ((y : Int) * cols) = ((y * cols : Nat) : Int) := by rw [hp]; exact wI64 (by omega) (by omega)
  have hw3 : IntKind.i64.wrap (((y : Int) + 1) * cols) = (((y + 1) * cols : Nat) : Int) := by rw [hp1]; exact wI64 (by omega) (by omega)
  have hy0 : ¬ (y : Int) < 0 := by omega
  have hy1 : ¬ (rows : Int) ≤ y := by omega
  refine CallK.of_fn TH20_ok rc_grow_ok (by simp [rc_grow]) ?_
  unfold rc_grow
  dsimp only
  simp -implicitDefEqProofs -dsimp only [TH20_at, F_growsS_1, ceRows_len, rowsI_gr g, hl.1, hy0, hy1, hw1, hw2, hw3, vcS, ↓vcP1, ↓vcP2, ↓reduceIte, reduceCtorEq, Nat.reduceLT, Nat.reduceLeDiff, Nat.reduceEqDiff, Nat.reduceAdd, Nat.reduceSub, Nat.reduceMul, Int.reduceLT, Int.reduceLE, Int.reduceEq, Int.reduceToNat, Int.reduceAdd, Int.reduceSub, Int.reduceNeg, List.reduceReplicate, Nat.reducePow, Int.reduceMul]
  have e : (y + 1) * cols - y * cols = cols := by omega
  rw [e, ceRows_drop, ceRows_take]
  exact ⟨by omega, by omega, ⟨by omega, by omega, .inl hz⟩, h k⟩
theorem srow_K {T : Objs} {s : Sc} {p : Pa} {v : DV} {y : Nat} {K : DV → Objs → Prop} (ok : ScOk s) (hv : ScVal s p v) (hy : y < s.rows) (h : ∀ T' q, T.length ≤ q → T'[q]? = some (some (.arr 3 (ceRows (rowF s.cells s.cols y)))) → Keep T T' [] → K (.own q 0 s.cols) T') : CallK PG 12 [v, .int .i64 y] T K := by
  obtain ⟨z1, z2, z3, k1, k2, k3, m, pr, d1, d2, d3, sv, rfl⟩ := hv
  have o1 : DV.one d1 = true := by obtain ⟨a, b, e, _⟩ := isInts_inv sv.pa.i1; rw [e]; rfl
  have o2 : DV.one d2 = true := by obtain ⟨a, b, e, _⟩ := isInts_inv sv.pa.i2; rw [e]; rfl
  have o3 : DV.one d3 = true := by obtain ⟨a, b, e, _⟩ := isInts_inv sv.pa.i3; rw [e]; rfl
  have hl := ok.g.lim
  have rl := rowF_len ok.g hy
  have hc := ok.g.c
  have cC : isCe z1 (ceRows (rowF s.cells s.cols y)) := isCe_mk (.inl sv.z1) (by omega)
  unfold scD
  refine CallK.of_fn TH20_ok rc_srow_ok (by simp [rc_srow]) ?_
  unfold rc_srow
  dsimp only
  simp -implicitDefEqProofs -dsimp only [tb_at, TH20_n24, o1, o2, o3, vcS, ↓vcP1, ↓vcP2, ↓reduceIte, reduceCtorEq, Nat.reduceLT, Nat.reduceLeDiff, Nat.reduceEqDiff, Nat.reduceAdd, Nat.reduceSub, Nat.reduceMul, Int.reduceLT, Int.reduceLE, Int.reduceEq, Int.reduceToNat, Int.reduceAdd, Int.reduceSub, Int.reduceNeg, List.reduceReplicate, Nat.reducePow, Int.reduceMul]
  refine growS_K sv.z1 ok.g hy fun k' => ?_
  simp -implicitDefEqProofs -dsimp only [tb_at, TH20_c, F_cloneC_1, cC, ceRows_len, rl, o1, o2, o3, vcS, ↓vcP1, ↓vcP2, ↓reduceIte, reduceCtorEq, Nat.reduceLT, Nat.reduceLeDiff, Nat.reduceEqDiff, Nat.reduceAdd, Nat.reduceSub, Nat.reduceMul, Int.reduceLT, Int.reduceLE, Int.reduceEq, Int.reduceToNat, Int.reduceAdd, Int.reduceSub, Int.reduceNeg, List.reduceReplicate, Nat.reducePow, Int.reduceMul]
  exact h _ (T.length + 1) (by omega) (tb_geti _ _ 1) (Keep.app _ _ _)
theorem Frzs.tup1 {T : Objs} {q sz : Nat} {rows : List (List DV)} {cs : List DV} {k : IntKind} {x : Int} (h : T[q]? = some (some (.arr sz rows))) : Frzs ⟨[(0, .tup [.agg cs, .int k x])], T⟩ ⟨[(0, .tup [.agg (cs.map (DV.frz0 q sz rows)), .int k x])], T.set q none⟩ := by
  refine .frz q sz rows ⟨h, fun t => ?_, by simp, fun k ob' hk => ?_⟩ (.refl _)
  · rw [look_single, look_single]
    split
    · exact .inr rfl
    · exact .inl rfl
  · rw [getElem?_set] at hk
    by_cases e : q = k
    · rw [if_pos e] at hk; split at hk <;> simp at hk
    · rw [if_neg e] at hk; exact ⟨fun e' => e e'.symm, ob', hk, frOb.refl (fr0.refl _ _ _) _⟩
theorem Frzs.scT {T0 T : Objs} {o q tq : Nat} {s : Sc} {p : Pa} {m pr : Int} {d1 d2 d3 : DV} {n : IntKind} {x : Int} (k0 : Keep T0 T []) (pa : PaAt p m pr d1 d2 d3) (t : TmAt T0 T o q tq s (.sl 0 [] .nil) m pr d1 d2 d3) (ok : ScOk s) :
    ∃ v T', Frzs ⟨[(0, .tup [.agg (tmBox s q tq (.sl 0 [] .nil) m pr d1 d2 d3), .int n x])], T⟩ ⟨[(0, .tup [v, .int n x])], T'⟩ ∧ ScVal s p v ∧ Keep T0 T' [] ∧ T'.length = T.length := by
  have h1 := Frzs.tup1 (cs := tmBox s q tq (.sl 0 [] .nil) m pr d1 d2 d3) (k := n) (x := x) t.cells
  have h2 := Frzs.tup1 (cs := (tmBox s q tq (.sl 0 [] .nil) m pr d1 d2 d3).map (DV.frz0 q 3 (ceRows s.cells))) (k := n) (x := x) (tb_ne t.tabs none t.qt.symm)
  have k2 : Keep T0 ((T.set q none).set tq none) [] := (k0.put t.nq none).put t.nt none
  have ha : s.alt = false := by
    rcases t.oth with ⟨oq, e, _⟩ | ⟨h, _⟩
    · cases e
    · exact h
  refine ⟨_, _, h1.trans h2, ⟨3, 1, 0, .any, .any, .nil, m, pr, d1, d2, d3, ⟨rfl, rfl, .inr (ok.non ha).1, pa⟩, ?_⟩, k2, by simp⟩
  simp only [tmBox, scD, List.map_cons, List.map_nil, fzOwn q 3 _ _ (ceRows_len s.cells).symm, fzNe _ t.qt.symm, fzSl, fzOwn tq 1 _ _ (boRows_len s.tabs).symm, fzInts pa.i1, fzInts pa.i2, fzInts pa.i3, (ok.non ha).1, ceRows_nil, fzInt, fzBool]
theorem snewV_K {T : Objs} {r c : Nat} {K : DV → Objs → Prop} (hr : 1 ≤ r ∧ r ≤ 1000) (hc : 1 ≤ c ∧ c ≤ 1000) (h : ∀ T' v, Keep T T' [] → ScVal (newF r c) (pa0 0) v → K (.tup [v, .int .i64 0]) T') : CallK PG 10 [.int .i64 r, .int .i64 c] T K := by
  refine CallK.of_fnF FOk.nil rc_snewS_ok (by simp [rc_snewS]) ?_
  unfold rc_snewS
  dsimp only
  have r1 : ¬ (r : Int) < 1 := by omega
  have r2 : ¬ (1000 : Int) < r := by omega
  have c1 : ¬ (c : Int) < 1 := by omega
  have c2 : ¬ (1000 : Int) < c := by omega
  simp -implicitDefEqProofs -dsimp only [tb_at, r1, r2, c1, c2, vcS, ↓vcP1, ↓vcP2, ↓reduceIte, reduceCtorEq, Nat.reduceLT, Nat.reduceLeDiff, Nat.reduceEqDiff, Nat.reduceAdd, Nat.reduceSub, Nat.reduceMul, Int.reduceLT, Int.reduceLE, Int.reduceEq, Int.reduceToNat, Int.reduceAdd, Int.reduceSub, Int.reduceNeg, List.reduceReplicate, Nat.reducePow, Int.reduceMul]
  refine gBlank_K hr hc fun T1 q hq hA k1 => ?_
  have w1 : IntKind.i64.wrap ((r : Int) - 1) = ((r - 1 : Nat) : Int) := by rw [wI64 (by omega) (by omega)]; omega
  have hb := k1.at (tb_get0 T [] (some (Ob.box _))) (by simp)
  simp -implicitDefEqProofs -dsimp only [tb_at, r1, r2, c1, c2, w1, vcS, ↓vcP1, ↓vcP2, ↓reduceIte, reduceCtorEq, Nat.reduceLT, Nat.reduceLeDiff, Nat.reduceEqDiff, Nat.reduceAdd, Nat.reduceSub, Nat.reduceMul, Int.reduceLT, Int.reduceLE, Int.reduceEq, Int.reduceToNat, Int.reduceAdd, Int.reduceSub, Int.reduceNeg, List.reduceReplicate, Nat.reducePow, Int.reduceMul]
  refine stabs_K (was := []) (.inr rfl) hc fun T2 tq htq hB k2 => ?_
  simp -implicitDefEqProofs -dsimp only [tb_at, r1, r2, c1, c2, w1, tb_all (k2.at hb (by simp)), vcS, ↓vcP1, ↓vcP2, ↓reduceIte, reduceCtorEq, Nat.reduceLT, Nat.reduceLeDiff, Nat.reduceEqDiff, Nat.reduceAdd, Nat.reduceSub, Nat.reduceMul, Int.reduceLT, Int.reduceLE, Int.reduceEq, Int.reduceToNat, Int.reduceAdd, Int.reduceSub, Int.reduceNeg, List.reduceReplicate, Nat.reducePow, Int.reduceMul]
  have l1 := k1.1
  have l2 := k2.1
  simp only [List.length_append, List.length_cons, List.length_nil] at l1 hq
  have kk : Keep T T2 [] := ((Keep.app T _ []).new k1 (by simp)).new k2 (by simp)
  have e : newD r c q tq = .agg [.int .i64 r, .int .i64 c, .own q 0 (r * c), .int .i64 0, .int .i64 0, .bool false, .int .u16 0, .int .i64 0, .int .i64 ((r - 1 : Nat) : Int), .own tq 0 c, .int .i64 0, .int .i64 0, .int .u16 0, .bool true, .bool true, .bool false, .sl 0 [] .nil, .int .i64 0, .int .i64 0, .int .i64 0, .int .u8 0, .sl 0 [] .nil, .sl 0 [] .nil, .sl 0 [] .nil] := by
    simp [newD, tmBox, newF, blankG, tabs0_len]
  have lq := tb_lt hA
  have tz : TmAt T (T2.set T.length (some (.box (tmBox (newF r c) q tq (.sl 0 [] .nil) 0 0 (.sl 0 [] .nil) (.sl 0 [] .nil) (.sl 0 [] .nil))))) T.length q tq (newF r c) (.sl 0 [] .nil) 0 0 (.sl 0 [] .nil) (.sl 0 [] .nil) (.sl 0 [] .nil) :=
    ⟨tb_ss (k2.at hb (by simp)) _, tb_ne (k2.at hA (by simp)) _ (by omega), by rw [tabsTo_nil] at hB; exact tb_ne hB _ (by omega), .inr ⟨rfl, 0, .nil, rfl⟩, by omega, by omega, by omega, Dd.ge (Nat.le_refl _), Dd.ge (by omega), Dd.ge (by omega)⟩
  have pz : PaAt (pa0 0) 0 0 (.sl 0 [] .nil) (.sl 0 [] .nil) (.sl 0 [] .nil) := { m := rfl, pr := rfl, i1 := isInts_none _ _ _, i2 := isInts_none _ _ _, i3 := isInts_none _ _ _, e1 := rfl, e2 := rfl, e3 := rfl }
  have e2 : tmBox (newF r c) q tq (.sl 0 [] .nil) 0 0 (.sl 0 [] .nil) (.sl 0 [] .nil) (.sl 0 [] .nil) = _ := DV.agg.inj e
  obtain ⟨v', T', hF, hv, kT, hl⟩ := Frzs.scT (n := .i64) (x := 0) (kk.put (Dd.ge (Nat.le_refl _)) _) pz tz (newF_ok hr hc)
  refine ⟨by simp; omega, .tup [v', .int .i64 0], T', ?_, h T' v' kT hv⟩
  rw [e2] at hF
  exact hF
noncomputable def rc_fresh : RFn := ⟨2, 14, .seq (.reg [⟨some 4, .alloc [.int .i64 0, .int .i64 0, .sl 0 [] .nil, .int .i64 0, .int .i64 0, .bool false, .int .u16 0, .int .i64 0, .int .i64 0, .sl 0 [] .nil, .int .i64 0, .int .i64 0, .int .u16 0, .bool false, .bool false, .bool false, .sl 0 [] .nil, .int .i64 0, .int .i64 0, .int .i64 0, .int .u8 0, .sl 0 [] .nil, .sl 0 [] .nil, .sl 0 [] .nil], none, false⟩] 0 [0, 1, 4]) (.seq (.reg [⟨some 8, .mov (.t 0), none, false⟩, ⟨some 9, .mov (.t 1), none, false⟩, ⟨some 10, .call 10 [.t 8, .t 9], none, false⟩, ⟨some 7, .mov (.t 10), none, false⟩, ⟨some 11, .ext (.t 7) 0, none, false⟩, ⟨some 12, .ext (.t 7) 1, none, false⟩, ⟨some 5, .alloc [.int .i64 0, .int .i64 0, .sl 0 [] .nil, .int .i64 0, .int .i64 0, .bool false, .int .u16 0, .int .i64 0, .int .i64 0, .sl 0 [] .nil, .int .i64 0, .int .i64 0, .int .u16 0, .bool false, .bool false, .bool false, .sl 0 [] .nil, .int .i64 0, .int .i64 0, .int .i64 0, .int .u8 0, .sl 0 [] .nil, .sl 0 [] .nil, .sl 0 [] .nil], none, false⟩, ⟨none, .store 24 (.t 5) (.t 11), none, false⟩, ⟨some 6, .mov (.t 12), none, false⟩] 0 [4, 5]) (.seq (.reg [⟨some 13, .load true 24 (.t 5), none, false⟩, ⟨none, .store 24 (.t 4) (.t 13), none, false⟩] 0 [4]) .ret)), [.c 4 true 24]⟩
theorem rc_fresh_ok : compFn PG.P [⟨0, 0, [0, 1, 4], []⟩, ⟨1, 0, [4, 5], []⟩, ⟨2, 0, [4], []⟩] 8 = some rc_fresh := by kernel_rfl
theorem fresh_K {T : Objs} {r c : Nat} {K : DV → Objs → Prop} (hr : 1 ≤ r ∧ r ≤ 1000) (hc : 1 ≤ c ∧ c ≤ 1000) (h : ∀ T' v, Keep T T' [] → ScVal (newF r c) (pa0 0) v → K v T') : CallK PG 8 [.int .i64 r, .int .i64 c] T K := by
  refine CallK.of_fn FOk.nil rc_fresh_ok (by simp [rc_fresh]) ?_
  unfold rc_fresh
  dsimp only
  simp -implicitDefEqProofs -dsimp only [tb_at, vcS, ↓vcP1, ↓vcP2, ↓reduceIte, reduceCtorEq, Nat.reduceLT, Nat.reduceLeDiff, Nat.reduceEqDiff, Nat.reduceAdd, Nat.reduceSub, Nat.reduceMul, Int.reduceLT, Int.reduceLE, Int.reduceEq, Int.reduceToNat, Int.reduceAdd, Int.reduceSub, Int.reduceNeg, List.reduceReplicate, Nat.reducePow, Int.reduceMul]
  refine snewV_K hr hc fun T1 v k1 hv => ?_
  have hv' := hv
  obtain ⟨z1, z2, z3, j1, j2, j3, m, pr, d1, d2, d3, sv, rfl⟩ := hv
  have o1 : DV.one d1 = true := by obtain ⟨a, b, e, _⟩ := isInts_inv sv.pa.i1; rw [e]; rfl
  have o2 : DV.one d2 = true := by obtain ⟨a, b, e, _⟩ := isInts_inv sv.pa.i2; rw [e]; rfl
  have o3 : DV.one d3 = true := by obtain ⟨a, b, e, _⟩ := isInts_inv sv.pa.i3; rw [e]; rfl
  have hb := k1.at (tb_get0 T [] (some (Ob.box _))) (by simp)
  generalize newF r c = s at *
  unfold scD at hv' ⊢
  simp -implicitDefEqProofs -dsimp only [tb_at, tb_all hb, o1, o2, o3, vcS, ↓vcP1, ↓vcP2, ↓reduceIte, reduceCtorEq, Nat.reduceLT, Nat.reduceLeDiff, Nat.reduceEqDiff, Nat.reduceAdd, Nat.reduceSub, Nat.reduceMul, Int.reduceLT, Int.reduceLE, Int.reduceEq, Int.reduceToNat, Int.reduceAdd, Int.reduceSub, Int.reduceNeg, List.reduceReplicate, Nat.reducePow, Int.reduceMul]
  have kk : Keep T T1 [] := (Keep.app T [_] []).new k1 (by simp)
  exact ⟨by have := kk.1; simp; omega, h _ _ ((kk.put (Dd.ge (Nat.le_refl _)) _).newApp _) hv'⟩
noncomputable def rc_known9 : RFn := ⟨0, 70, .seq (.reg [⟨some 0, .mov (.c (.bool false)), none, false⟩] 0 []) (.seq (.reg [⟨some 7, .call 10 [.c (.int .i64 3), .c (.int .i64 4)], none, false⟩, ⟨some 6, .mov (.t 7), none, false⟩, ⟨some 8, .ext (.t 6) 0, none, false⟩, ⟨some 9, .ext (.t 6) 1, none, false⟩, ⟨some 1, .alloc [.int .i64 0, .int .i64 0, .sl 0 [] .nil, .int .i64 0, .int .i64 0, .bool false, .int .u16 0, .int .i64 0, .int .i64 0, .sl 0 [] .nil, .int .i64 0, .int .i64 0, .int .u16 0, .bool false, .bool false, .bool false, .sl 0 [] .nil, .int .i64 0, .int .i64 0, .int .i64 0, .int .u8 0, .sl 0 [] .nil, .sl 0 [] .nil, .sl 0 [] .nil], none, false⟩, ⟨none, .store 24 (.t 1) (.t 8), none, false⟩, ⟨some 2, .mov (.t 9), none, false⟩] 0 [1, 2]) (.seq (.reg [⟨some 11, .call 10 [.c (.int .i64 0), .c (.int .i64 4)], none, false⟩, ⟨some 10, .mov (.t 11), none, false⟩, ⟨some 12, .ext (.t 10) 0, none, false⟩, ⟨some 13, .ext (.t 10) 1, none, false⟩, ⟨some 3, .alloc [.int .i64 0, .int .i64 0, .sl 0 [] .nil, .int .i64 0, .int .i64 0, .bool false, .int .u16 0, .int .i64 0, .int .i64 0, .sl 0 [] .nil, .int .i64 0, .int .i64 0, .int .u16 0, .bool false, .bool false, .bool false, .sl 0 [] .nil, .int .i64 0, .int .i64 0, .int .i64 0, .int .u8 0, .sl 0 [] .nil, .sl 0 [] .nil, .sl 0 [] .nil], none, false⟩, ⟨none, .store 24 (.t 3) (.t 12), none, false⟩, ⟨some 4, .mov (.t 13), none, false⟩] 0 [1, 2, 4]) (.seq (.seq (.reg [⟨some 14, .mov (.t 2), none, false⟩, ⟨some 15, .bin .neq (.t 14) (.c (.int .i64 0)), none, false⟩, ⟨some 16, .mov (.t 15), none, false⟩, ⟨some 17, .faddr 2 (.t 1), some (16, false), false⟩, ⟨some 18, .load false 1 (.t 17), some (16, false), false⟩, ⟨some 19, .len (.t 18), some (16, false), false⟩, ⟨some 20, .bin .neq (.t 19) (.c (.int .i64 12)), some (16, false), false⟩, ⟨some 21, .pick (.t 16) (.c (.bool true)) (.t 20), none, false⟩] 0 [1, 4, 21]) (.cond (.t 21) (.seq (.reg [⟨some 0, .mov (.c (.bool false)), none, false⟩] 0 [0]) .ret) .skip)) (.seq (.reg [⟨some 22, .load true 24 (.t 1), none, false⟩, ⟨some 23, .mkrow 1 [.int .u8 0] 4 [(0, (.c (.int .u8 97))), (1, (.c (.int .u8 13))), (2, (.c (.int .u8 10))), (3, (.c (.int .u8 98)))], none, false⟩, ⟨some 24, .conv .lit (.t 23), none, true⟩, ⟨some 25, .call 9 [.t 22, .t 24], none, false⟩, ⟨some 5, .alloc [.int .i64 0, .int .i64 0, .sl 0 [] .nil, .int .i64 0, .int .i64 0, .bool false, .int .u16 0, .int .i64 0, .int .i64 0, .sl 0 [] .nil, .int .i64 0, .int .i64 0, .int .u16 0, .bool false, .bool false, .bool false, .sl 0 [] .nil, .int .i64 0, .int .i64 0, .int .i64 0, .int .u8 0, .sl 0 [] .nil, .sl 0 [] .nil, .sl 0 [] .nil], none, false⟩, ⟨none, .store 24 (.t 5) (.t 25), none, false⟩] 0 [4, 5]) (.seq (.reg [⟨some 26, .mov (.t 4), none, false⟩, ⟨some 27, .bin .eql (.t 26) (.c (.int .i64 26)), none, false⟩, ⟨some 28, .mov (.t 27), none, false⟩, ⟨some 29, .faddr 2 (.t 5), some (28, true), false⟩, ⟨some 30, .load false 1 (.t 29), some (28, true), false⟩, ⟨some 31, .len (.t 30), some (28, true), false⟩, ⟨some 32, .bin .eql (.t 31) (.c (.int .i64 12)), some (28, true), false⟩, ⟨some 33, .pick (.t 28) (.t 32) (.c (.bool false)), none, false⟩, ⟨some 34, .mov (.t 33), none, false⟩, ⟨some 35, .faddr 2 (.t 5), some (34, true), false⟩, ⟨some 36, .load false 1 (.t 35), some (34, true), false⟩, ⟨some 37, .iaddr 3 (.t 36) (.c (.int .i64 0)), some (34, true), false⟩, ⟨some 38, .faddr 0 (.t 37), some (34, true), false⟩, ⟨some 39, .load false 1 (.t 38), some (34, true), false⟩, ⟨some 40, .bin .eql (.t 39) (.c (.int .i32 97)), some (34, true), false⟩, ⟨some 41, .pick (.t 34) (.t 40) (.c (.bool false)), none, false⟩, ⟨some 42, .mov (.t 41), none, false⟩, ⟨some 43, .faddr 2 (.t 5), some (42, true), false⟩, ⟨some 44, .load false 1 (.t 43), some (42, true), false⟩, ⟨some 45, .iaddr 3 (.t 44) (.c (.int .i64 4)), some (42, true), false⟩, ⟨some 46, .faddr 0 (.t 45), some (42, true), false⟩, ⟨some 47, .load false 1 (.t 46), some (42, true), false⟩, ⟨some 48, .bin .eql (.t 47) (.c (.int .i32 98)), some (42, true), false⟩, ⟨some 49, .pick (.t 42) (.t 48) (.c (.bool false)), none, false⟩, ⟨some 50, .mov (.t 49), none, false⟩, ⟨some 51, .faddr 3 (.t 5), some (50, true), false⟩, ⟨some 52, .load false 1 (.t 51), some (50, true), false⟩, ⟨some 53, .bin .eql (.t 52) (.c (.int .i64 1)), some (50, true), false⟩, ⟨some 54, .pick (.t 50) (.t 53) (.c (.bool false)), none, false⟩, ⟨some 55, .mov (.t 54), none, false⟩, ⟨some 56, .faddr 4 (.t 5), some (55, true), false⟩, ⟨some 57, .load false 1 (.t 56), some (55, true), false⟩, ⟨some 58, .bin .eql (.t 57) (.c (.int .i64 1)), some (55, true), false⟩, ⟨some 59, .pick (.t 55) (.t 58) (.c (.bool false)), none, false⟩, ⟨some 60, .mov (.t 59), none, false⟩, ⟨some 61, .load true 24 (.t 5), some (60, true), false⟩, ⟨some 62, .call 11 [.t 61], some (60, true), false⟩, ⟨some 63, .pick (.t 60) (.t 62) (.c (.bool false)), none, false⟩, ⟨some 64, .mov (.t 63), none, false⟩, ⟨some 65, .load true 24 (.t 5), some (64, true), false⟩, ⟨some 66, .call 12 [.t 65, .c (.int .i64 1)], some (64, true), false⟩, ⟨some 67, .len (.t 66), some (64, true), false⟩, ⟨some 68, .bin .eql (.t 67) (.c (.int .i64 4)), some (64, true), false⟩, ⟨some 69, .pick (.t 64) (.t 68) (.c (.bool false)), none, false⟩, ⟨some 0, .mov (.t 69), none, false⟩] 0 [0]) .ret))))), [.t 0]⟩
theorem rc_known9_ok : compFn PG.P [⟨0, 0, [], []⟩, ⟨1, 0, [1, 2], []⟩, ⟨2, 0, [1, 2, 4], []⟩, ⟨3, 0, [1, 4, 21], []⟩, ⟨4, 0, [0], []⟩, ⟨5, 0, [4, 5], [24]⟩, ⟨6, 0, [0], []⟩] 7 = some rc_known9 := by kernel_rfl
instance (c : Ce) : Decidable (ceIn c) := by unfold ceIn; infer_instance
def x0K : Sc × Pa := [97, 13, 10, 98].foldl feedF (newF 3 4, pa0 0)
theorem x0K_1 : x0K.1.cells.length = 12 ∧ x0K.1.cells.getD 0 blkC = ⟨97, 0, 0⟩ ∧ x0K.1.cells.getD 4 blkC = ⟨98, 0, 0⟩ ∧ x0K.1.y = 1 ∧ x0K.1.x = 1 ∧ x0K.1.rows = 3 ∧ x0K.1.cols = 4 ∧ x0K.1.wrap = false ∧ x0K.1.alt = false := by decide +kernel
theorem x0K_2 : (∀ c ∈ x0K.1.cells, ceIn c) ∧ x0K.1.other = [] ∧ cellsB x0K.1.cells 3 4 = true ∧ x0K.1.alt = false ∧ atB x0K.1.attr = true ∧ atB x0K.1.sattr = true ∧ prightF x0K.2 = true := by decide +kernel
theorem x0K_R : ScR x0K.1 x0K.2 := by
  obtain ⟨a1, a2, a3, a4, a5, a6, a7⟩ := x0K_2
  obtain ⟨b1, b2, b3, b4, b5, b6, b7, b8, b9⟩ := x0K_1
  refine { ci := a1, oi := ?_, cb := ?_, ob := ?_, ab := a5, sb := a6, pb := a7 }
  · rw [a2]; intro c hc; cases hc
  · rw [b6, b7]; exact a3
  · intro h; rw [a4] at h; cases h
theorem known9_K {T : Objs} {K : DV → Objs → Prop} (h : ∀ T', Keep T T' [] → K (.bool true) T') : CallK PG 7 [] T K := by
  have ok0 : ScOk (newF 3 4) := newF_ok (by decide) (by decide)
  have l0 : ((newF 3 4).cells.length : Int) = 12 := by decide
  refine CallK.of_fn FOk.nil rc_known9_ok (by simp [rc_known9]) ?_
  unfold rc_known9
  dsimp only
  simp -implicitDefEqProofs -dsimp only [tb_at, vcS, ↓vcP1, ↓vcP2, ↓reduceIte, reduceCtorEq, Nat.reduceLT, Nat.reduceLeDiff, Nat.reduceEqDiff, Nat.reduceAdd, Nat.reduceSub, Nat.reduceMul, Int.reduceLT, Int.reduceLE, Int.reduceEq, Int.reduceToNat, Int.reduceAdd, Int.reduceSub, Int.reduceNeg, List.reduceReplicate, Nat.reducePow, Int.reduceMul]
  refine snewV_K (r := 3) (c := 4) (by decide) (by decide) fun T1 v k1 hv => ?_
  have hv' := hv
  obtain ⟨z1, z2, z3, j1, j2, j3, m, pr, d1, d2, d3, sv, rfl⟩ := hv
  have o1 : DV.one d1 = true := by obtain ⟨a, b, e, _⟩ := isInts_inv sv.pa.i1; rw [e]; rfl
  have o2 : DV.one d2 = true := by obtain ⟨a, b, e, _⟩ := isInts_inv sv.pa.i2; rw [e]; rfl
  have o3 : DV.one d3 = true := by obtain ⟨a, b, e, _⟩ := isInts_inv sv.pa.i3; rw [e]; rfl
  generalize hs0 : newF 3 4 = s0 at *
  unfold scD at hv' ⊢
  simp -implicitDefEqProofs -dsimp only [tb_at, o1, o2, o3, vcS, ↓vcP1, ↓vcP2, ↓reduceIte, reduceCtorEq, Nat.reduceLT, Nat.reduceLeDiff, Nat.reduceEqDiff, Nat.reduceAdd, Nat.reduceSub, Nat.reduceMul, Int.reduceLT, Int.reduceLE, Int.reduceEq, Int.reduceToNat, Int.reduceAdd, Int.reduceSub, Int.reduceNeg, List.reduceReplicate, Nat.reducePow, Int.reduceMul]
  refine snewS_no (r := 0) (c := 4) (by decide) fun T2 k2 => ?_
  have hb1 := k2.at (tb_get0 T1 [] (some (Ob.box _))) (by simp)
  simp -implicitDefEqProofs -dsimp only [tb_at, tb_all hb1, o1, o2, o3, ceRows_len, l0, fun q sz rows => fzInts (q := q) (sz := sz) (rows := rows) sv.pa.i1, fun q sz rows => fzInts (q := q) (sz := sz) (rows := rows) sv.pa.i2, fun q sz rows => fzInts (q := q) (sz := sz) (rows := rows) sv.pa.i3, vcS, ↓vcP1, ↓vcP2, ↓reduceIte, reduceCtorEq, Nat.reduceLT, Nat.reduceLeDiff, Nat.reduceEqDiff, Nat.reduceAdd, Nat.reduceSub, Nat.reduceMul, Int.reduceLT, Int.reduceLE, Int.reduceEq, Int.reduceToNat, Int.reduceAdd, Int.reduceSub, Int.reduceNeg, List.reduceReplicate, Nat.reducePow, Int.reduceMul]
  subst hs0
  refine sfeed_K (l := [97, 13, 10, 98]) ok0 (paOk_pa0 0) hv' (.inl rfl) (inK_u8 (by simp) (by decide)) (by simp) fun T3 w k3 hw => ?_
  change ScVal x0K.1 x0K.2 w at hw
  have fo := feed_ok (l := [97, 13, 10, 98]) (x := (newF 3 4, pa0 0)) ok0 (paOk_pa0 0) (by decide)
  change ScOk x0K.1 ∧ paOk x0K.2 at fo
  have R := x0K_R
  obtain ⟨b1, b2, b3, b4, b5, b6, b7, b8, b9⟩ := x0K_1
  obtain ⟨ok1, pk1⟩ := fo
  have g0 := ceRows_get (L := x0K.1.cells) (i := 0) (by omega)
  have g4 := ceRows_get (L := x0K.1.cells) (i := 4) (by omega)
  rw [b2] at g0
  rw [b3] at g4
  generalize x0K.1 = s1 at *
  generalize x0K.2 = p1 at *
  have hw' := hw
  obtain ⟨z1, z2, z3, j1, j2, j3, m, pr, d1, d2, d3, sv1, rfl⟩ := hw
  have o1 : DV.one d1 = true := by obtain ⟨a, b, e, _⟩ := isInts_inv sv1.pa.i1; rw [e]; rfl
  have o2 : DV.one d2 = true := by obtain ⟨a, b, e, _⟩ := isInts_inv sv1.pa.i2; rw [e]; rfl
  have o3 : DV.one d3 = true := by obtain ⟨a, b, e, _⟩ := isInts_inv sv1.pa.i3; rw [e]; rfl
  have z13 := sv1.z1
  subst z13
  have c1 : (s1.cells.length : Int) = 12 := by omega
  have c2 : (s1.y : Int) = 1 := by omega
  have c3 : (s1.x : Int) = 1 := by omega
  have hw2 := hw'
  unfold scD at hw' ⊢
  simp -implicitDefEqProofs -dsimp only [tb_at, o1, o2, o3, ceRows_len, eq_true c1, eq_true c2, eq_true c3, g0, g4, vcS, ↓vcP1, ↓vcP2, ↓reduceIte, reduceCtorEq, Nat.reduceLT, Nat.reduceLeDiff, Nat.reduceEqDiff, Nat.reduceAdd, Nat.reduceSub, Nat.reduceMul, Int.reduceLT, Int.reduceLE, Int.reduceEq, Int.reduceToNat, Int.reduceAdd, Int.reduceSub, Int.reduceNeg, List.reduceReplicate, Nat.reducePow, Int.reduceMul]
  refine ⟨by omega, by omega, ?_⟩
  refine sright_fbf ok1 pk1 hw2 R b8 (by omega) b9 fun T4 k4 => ?_
  have hb4 := k4.at (tb_get0 T3 [] (some (Ob.box _))) (by simp)
  simp -implicitDefEqProofs -dsimp only [tb_at, tb_all hb4, o1, o2, o3, ceRows_len, vcS, ↓vcP1, ↓vcP2, ↓reduceIte, reduceCtorEq, Nat.reduceLT, Nat.reduceLeDiff, Nat.reduceEqDiff, Nat.reduceAdd, Nat.reduceSub, Nat.reduceMul, Int.reduceLT, Int.reduceLE, Int.reduceEq, Int.reduceToNat, Int.reduceAdd, Int.reduceSub, Int.reduceNeg, List.reduceReplicate, Nat.reducePow, Int.reduceMul]
  refine srow_K (y := 1) ok1 hw2 (by omega) fun T5 q hq hA k5 => ?_
  have c4 : (s1.cols : Int) = 4 := by omega
  simp -implicitDefEqProofs -dsimp only [tb_at, o1, o2, o3, ceRows_len, eq_true c4, vcS, ↓vcP1, ↓vcP2, ↓reduceIte, reduceCtorEq, Nat.reduceLT, Nat.reduceLeDiff, Nat.reduceEqDiff, Nat.reduceAdd, Nat.reduceSub, Nat.reduceMul, Int.reduceLT, Int.reduceLE, Int.reduceEq, Int.reduceToNat, Int.reduceAdd, Int.reduceSub, Int.reduceNeg, List.reduceReplicate, Nat.reducePow, Int.reduceMul]
  have q1 : Keep T T1 [] := by first | exact k1 | exact (Keep.app T _ []).new k1 (by simp)
  have q2 : Keep T T2 [] := by first | exact q1.new k2 (by simp) | exact (q1.newApp _).new k2 (by simp)
  have q3 : Keep T T3 [] := by first | exact q2.new k3 (by simp) | exact (q2.newApp _).new k3 (by simp) | exact ((q2.newApp _).put (Dd.ge (by have := q2.1; omega)) _).new k3 (by simp)
  have q4 : Keep T T4 [] := by first | exact q3.new k4 (by simp) | exact (q3.newApp _).new k4 (by simp)
  have q5 : Keep T T5 [] := by first | exact q4.new k5 (by simp) | exact (q4.newApp _).new k5 (by simp)
  exact ⟨q5.1, h _ q5⟩
theorem ScVal.lit {s : Sc} {p : Pa} {v : DV} (h : ScVal s p v) : ∃ z2 z3 k1 k2 k3 m pr d1 d2 d3, v = .agg [.int .i64 s.rows, .int .i64 s.cols, .sl 3 (ceRows s.cells) k1, .int .i64 s.y, .int .i64 s.x, .bool s.wrap, .int .u16 s.attr, .int .i64 s.top, .int .i64 s.bot, .sl z2 (boRows s.tabs) k2, .int .i64 s.sy, .int .i64 s.sx, .int .u16 s.sattr, .bool s.auto, .bool s.shown, .bool s.alt, .sl z3 (ceRows s.other) k3, .int .i64 s.oy, .int .i64 s.ox, .int .i64 m, .int .u8 pr, d1, d2, d3] ∧
    (DV.one d1 = true ∧ DV.one d2 = true ∧ DV.one d3 = true) ∧ (∀ q sz rows, DV.frz0 q sz rows d1 = d1) ∧ (∀ q sz rows, DV.frz0 q sz rows d2 = d2) ∧ (∀ q sz rows, DV.frz0 q sz rows d3 = d3) := by
  obtain ⟨z1, z2, z3, j1, j2, j3, m, pr, d1, d2, d3, sv, rfl⟩ := h
  have o1 : DV.one d1 = true := by obtain ⟨a, b, e, _⟩ := isInts_inv sv.pa.i1; rw [e]; rfl
  have o2 : DV.one d2 = true := by obtain ⟨a, b, e, _⟩ := isInts_inv sv.pa.i2; rw [e]; rfl
  have o3 : DV.one d3 = true := by obtain ⟨a, b, e, _⟩ := isInts_inv sv.pa.i3; rw [e]; rfl
  have z := sv.z1
  subst z
  exact ⟨z2, z3, j1, j2, j3, m, pr, d1, d2, d3, rfl, ⟨o1, o2, o3⟩, fun q sz rows => fzInts sv.pa.i1, fun q sz rows => fzInts sv.pa.i2, fun q sz rows => fzInts sv.pa.i3⟩
theorem inK_b {l : List Int} (hl : l.length ≤ 1000) (h : ∀ c ∈ l, 0 ≤ c ∧ c ≤ 255) : inK .u8 l := ⟨by omega, fun c hc => by have := h c hc; have := u8mm; omega⟩
theorem vs_esc : vstepF (pa0 0) 27 = (pa0 1, []) := by kernel_rfl
theorem vs_csi : vstepF (pa0 1) 91 = (pa0 4, []) := by kernel_rfl
theorem vs_dig : ∀ n : Nat, n < 10 → vstepF (pa0 4) (48 + (n : Int)) = (⟨4, 0, [(n : Int)], [], []⟩, [])
  | 0, _ => by kernel_rfl
  | 1, _ => by kernel_rfl
  | 2, _ => by kernel_rfl
  | 3, _ => by kernel_rfl
  | 4, _ => by kernel_rfl
  | 5, _ => by kernel_rfl
  | 6, _ => by kernel_rfl
  | 7, _ => by kernel_rfl
  | 8, _ => by kernel_rfl
  | 9, _ => by kernel_rfl
  | n + 10, h => by omega
theorem vs_dig2 (m : Int) : ∀ n : Nat, n < 10 → vstepF ⟨4, 0, [m], [], []⟩ (48 + (n : Int)) = (⟨4, 0, [min (10 * m + n) 65535], [], []⟩, []) := fun n hn => by
  have hv : vint (48 + (n : Int)) = false := by unfold vint; simp; omega
  have e1 : 48 + (n : Int) - 48 = n := by omega
  unfold vstepF vcut
  simp only [show ¬ ((4 : Int) = 0) by decide, decide_false, Bool.false_and, Bool.false_eq_true, if_false]
  unfold vtakeF
  dsimp only
  rw [if_neg (by omega), if_neg (by omega), if_neg (by omega), if_neg (by omega), if_neg (by omega), if_neg (by decide), if_neg (by omega), if_neg (by decide), if_neg (by decide), if_neg (by decide), if_pos rfl]
  unfold vcsiF
  rw [hv]
  dsimp only
  rw [if_neg (by decide), if_neg (by omega), if_neg (by omega), if_neg (by omega), if_neg (by simp), if_neg (by omega)]
  unfold digP
  simp [e1]
theorem vs_end (m b : Int) (hb : 64 ≤ b ∧ b ≤ 126) : vstepF ⟨4, 0, [m], [], []⟩ b = (pa0 0, [⟨3, 0, b, 0, some [m], some []⟩]) := by
  have hv : vint b = false := by unfold vint; simp; omega
  unfold vstepF vcut
  simp only [show ¬ ((4 : Int) = 0) by decide, decide_false, Bool.false_and, Bool.false_eq_true, if_false]
  unfold vtakeF
  dsimp only
  rw [if_neg (by omega), if_neg (by omega), if_neg (by omega), if_neg (by omega), if_neg (by omega), if_neg (by decide), if_neg (by omega), if_neg (by decide), if_neg (by decide), if_neg (by decide), if_pos rfl]
  unfold vcsiF
  rw [hv]
  dsimp only
  rw [if_neg (by decide), if_pos hb.1]
  rfl
theorem feed_csi2 (s : Sc) {m n : Nat} {b : Int} (hm : m < 10) (hn : n < 10) (hb : 64 ≤ b ∧ b ≤ 126) : [27, 91, 48 + (m : Int), 48 + (n : Int), b].foldl feedF (s, pa0 0) = (csiF s b [10 * (m : Int) + n], pa0 0) := by
  have e : min (10 * (m : Int) + n) 65535 = 10 * (m : Int) + n := by omega
  simp only [List.foldl_cons, List.foldl_nil]
  unfold feedF
  simp only [vs_esc, List.foldl_nil, vs_csi, vs_dig m hm, vs_dig2 _ n hn, e, vs_end _ _ hb, List.foldl_cons, actF, osL]
  rfl
def lkA (b f g : Nat) : Int := (b : Int) + (f : Int) * 16 + (g : Int) * 256
def lkS (b f g : Nat) : Sc := { newF 2 5 with attr := lkA b f g }
def lkC (k : Nat) : Nat := [0, 1, 4, 7, 22, 24, 27, 30, 31, 32, 33, 34, 35, 36, 37, 39, 40, 41, 42, 43, 44, 45, 46, 47, 49, 5].getD k 0
def lkB (c b : Nat) : Nat := if c = 0 then 0 else if c = 1 then (b &&& 6) ||| 1 else if c = 22 then (b &&& 6) ||| 0 else if c = 4 then b ||| 2 else if c = 24 then b &&& 5 else if c = 7 then b ||| 4 else if c = 27 then b &&& 3 else b
def lkF (c f : Nat) : Nat := if c = 0 ∨ c = 39 then 0 else if 30 ≤ c ∧ c ≤ 37 then c - 29 else f
def lkG (c g : Nat) : Nat := if c = 0 ∨ c = 49 then 0 else if 40 ≤ c ∧ c ≤ 47 then c - 39 else g
theorem lk_all : ((List.range 26).all fun k => (List.range 8).all fun b => (List.range 9).all fun f => (List.range 9).all fun g =>
    decide (lookF (lkA b f g) (lkC k) = lkA (lkB (lkC k) b) (lkF (lkC k) f) (lkG (lkC k) g)) && (decide (lkB (lkC k) b < 8) && (decide (lkF (lkC k) f < 9) && decide (lkG (lkC k) g < 9)))) = true := by decide +kernel
theorem lk_step {k b f g : Nat} (hk : k < 26) (hb : b < 8) (hf : f < 9) (hg : g < 9) : lookF (lkA b f g) (lkC k) = lkA (lkB (lkC k) b) (lkF (lkC k) f) (lkG (lkC k) g) ∧ lkB (lkC k) b < 8 ∧ lkF (lkC k) f < 9 ∧ lkG (lkC k) g < 9 := by
  have h := List.all_eq_true.1 (List.all_eq_true.1 (List.all_eq_true.1 (List.all_eq_true.1 lk_all k (List.mem_range.2 hk)) b (List.mem_range.2 hb)) f (List.mem_range.2 hf)) g (List.mem_range.2 hg)
  rw [Bool.and_eq_true, Bool.and_eq_true, Bool.and_eq_true, decide_eq_true_eq, decide_eq_true_eq, decide_eq_true_eq, decide_eq_true_eq] at h
  exact h
theorem lkC_lt : ∀ k < 26, lkC k < 50 := by decide
theorem lkC_int : ∀ k < 26, [(0 : Int), 1, 4, 7, 22, 24, 27, 30, 31, 32, 33, 34, 35, 36, 37, 39, 40, 41, 42, 43, 44, 45, 46, 47, 49, 5].getD k 0 = ((lkC k : Nat) : Int) := by decide
theorem lk_csi {k b f g : Nat} (hk : k < 26) (hb : b < 8) (hf : f < 9) (hg : g < 9) {n : Int} (hn : n = lkC k) : csiF (lkS b f g) 109 [n] = lkS (lkB (lkC k) b) (lkF (lkC k) f) (lkG (lkC k) g) := by
  subst hn
  have e : csiF (lkS b f g) 109 [((lkC k : Nat) : Int)] = { lkS b f g with attr := lookF (lkA b f g) (lkC k) } := rfl
  rw [e, (lk_step hk hb hf hg).1]
  rfl
theorem lk_x (b f g : Nat) : ([120].foldl feedF (lkS b f g, pa0 0)).1.cells.length = 10 ∧ ([120].foldl feedF (lkS b f g, pa0 0)).1.cells.getD 0 blkC = ⟨120, lkA b f g, 0⟩ := ⟨by kernel_rfl, by kernel_rfl⟩
theorem lkA_in {b f g : Nat} (hb : b < 8) (hf : f < 9) (hg : g < 9) : 0 ≤ lkA b f g ∧ lkA b f g ≤ 65535 := by unfold lkA; omega
theorem lkS_ok {b f g : Nat} (hb : b < 8) (hf : f < 9) (hg : g < 9) : ScOk (lkS b f g) := by
  have h : ScOk (newF 2 5) := newF_ok (by decide) (by decide)
  exact ⟨h.g, h.y, h.x, h.wr, h.tb, h.b, h.rg, h.tabs, h.sy, h.sx, h.oy, h.ox, lkA_in hb hf hg, h.sat, h.alt, h.non⟩
theorem lk_or : ∀ a < 8, ∀ c < 8, IntKind.i64.wrap ((BitVec.ofInt IntKind.i64.bits ((a : Nat) : Int) ||| BitVec.ofInt IntKind.i64.bits ((c : Nat) : Int)).toNat : Nat) = ((a ||| c : Nat) : Int) := by decide +kernel
theorem lk_clr : ∀ a < 8, ∀ c < 8, IntKind.i64.wrap ((BitVec.ofInt IntKind.i64.bits ((a : Nat) : Int) &&& ~~~ BitVec.ofInt IntKind.i64.bits ((c : Nat) : Int)).toNat : Nat) = ((a &&& (7 - c) : Nat) : Int) := by decide +kernel
theorem lk_d1 : ∀ b < 8, IntKind.i64.wrap ((BitVec.ofInt IntKind.i64.bits (IntKind.i64.wrap ((BitVec.ofInt IntKind.i64.bits ((b : Nat) : Int) &&& ~~~ BitVec.ofInt IntKind.i64.bits 1).toNat : Nat)) ||| BitVec.ofInt IntKind.i64.bits (IntKind.i64.wrap ((1 : Int).tmod 2 * 1))).toNat : Nat) = (((b &&& 6) ||| 1 : Nat) : Int) := by decide +kernel
theorem lk_d22 : ∀ b < 8, IntKind.i64.wrap ((BitVec.ofInt IntKind.i64.bits (IntKind.i64.wrap ((BitVec.ofInt IntKind.i64.bits ((b : Nat) : Int) &&& ~~~ BitVec.ofInt IntKind.i64.bits 1).toNat : Nat)) ||| BitVec.ofInt IntKind.i64.bits (IntKind.i64.wrap ((22 : Int).tmod 2 * 1))).toNat : Nat) = (((b &&& 6) ||| 0 : Nat) : Int) := by decide +kernel
noncomputable def rc_looks_c92 : RC := (.reg [⟨some 92, .load true 24 (.t 3), none, false⟩, ⟨some 93, .mov (.t 9), none, false⟩, ⟨some 94, .bin .quo (.t 93) (.c (.int .i64 10)), none, false⟩, ⟨some 95, .bin .add (.c (.int .i64 48)) (.t 94), none, false⟩, ⟨some 96, .conv (.i2i .u8) (.t 95), none, false⟩, ⟨some 97, .mov (.t 9), none, false⟩, ⟨some 98, .bin .rem (.t 97) (.c (.int .i64 10)), none, false⟩, ⟨some 99, .bin .add (.c (.int .i64 48)) (.t 98), none, false⟩, ⟨some 100, .conv (.i2i .u8) (.t 99), none, false⟩, ⟨some 101, .mkrow 1 [.int .u8 0] 5 [(0, (.c (.int .u8 27))), (1, (.c (.int .u8 91))), (2, (.t 96)), (3, (.t 100)), (4, (.c (.int .u8 109)))], none, true⟩, ⟨some 102, .call 9 [.t 92, .t 101], none, false⟩, ⟨none, .store 24 (.t 3) (.t 102), none, false⟩] 0 [0, 3, 4, 5, 6, 7])
theorem rc_looks_c92_s (E : Prg) (F : FTab) (n : Nat) (Q : Exit → St → Prop) (st : St) : RC.wp E F n rc_looks_c92 Q st = WpH E F n rc_looks_c92 Q st := nrfl _
noncomputable def rc_looks_l0 : RC := (.seq (.seq (.reg [⟨some 16, .mov (.t 7), none, false⟩, ⟨some 17, .mov (.t 0), none, false⟩, ⟨some 18, .len (.t 17), none, false⟩, ⟨some 19, .bin .lss (.t 16) (.t 18), none, false⟩] 0 [0, 3, 4, 5, 6, 7, 19]) (.cond (.t 19) .skip (.ext 0))) (.seq (.blk 1 (.seq (.reg [⟨some 22, .mov (.t 0), none, false⟩, ⟨some 23, .mov (.t 7), none, false⟩, ⟨some 24, .iaddr 1 (.t 22) (.t 23), none, false⟩, ⟨some 25, .load false 1 (.t 24), none, false⟩, ⟨some 26, .bin .rem (.t 25) (.c (.int .u8 26)), none, false⟩, ⟨some 27, .conv (.i2i .i64) (.t 26), none, false⟩, ⟨some 8, .mov (.t 27), none, false⟩] 0 [0, 3, 4, 5, 6, 7, 8]) (.seq (.reg [⟨some 28, .mkrow 1 [.int .i64 0] 26 [(0, (.c (.int .i64 0))), (1, (.c (.int .i64 1))), (2, (.c (.int .i64 4))), (3, (.c (.int .i64 7))), (4, (.c (.int .i64 22))), (5, (.c (.int .i64 24))), (6, (.c (.int .i64 27))), (7, (.c (.int .i64 30))), (8, (.c (.int .i64 31))), (9, (.c (.int .i64 32))), (10, (.c (.int .i64 33))), (11, (.c (.int .i64 34))), (12, (.c (.int .i64 35))), (13, (.c (.int .i64 36))), (14, (.c (.int .i64 37))), (15, (.c (.int .i64 39))), (16, (.c (.int .i64 40))), (17, (.c (.int .i64 41))), (18, (.c (.int .i64 42))), (19, (.c (.int .i64 43))), (20, (.c (.int .i64 44))), (21, (.c (.int .i64 45))), (22, (.c (.int .i64 46))), (23, (.c (.int .i64 47))), (24, (.c (.int .i64 49))), (25, (.c (.int .i64 5)))], none, false⟩, ⟨some 29, .mov (.t 8), none, false⟩, ⟨some 30, .iaddr 1 (.t 28) (.t 29), none, false⟩, ⟨some 31, .load false 1 (.t 30), none, false⟩, ⟨some 9, .mov (.t 31), none, false⟩] 0 [0, 3, 4, 5, 6, 7, 9]) (.seq (.blk 2 (.seq (.reg [⟨some 33, .mov (.t 9), none, false⟩, ⟨some 34, .bin .eql (.t 33) (.c (.int .i64 0)), none, false⟩, ⟨some 32, .mov (.t 34), none, false⟩] 0 [0, 3, 4, 5, 6, 7, 9, 32]) (.cond (.t 32) (.reg [⟨some 4, .mov (.c (.int .i64 0)), none, false⟩, ⟨some 5, .mov (.c (.int .i64 0)), none, false⟩, ⟨some 6, .mov (.c (.int .i64 0)), none, false⟩] 0 [0, 3, 4, 5, 6, 7, 9]) (.seq (.reg [⟨some 36, .mov (.t 9), none, false⟩, ⟨some 37, .bin .eql (.t 36) (.c (.int .i64 1)), none, false⟩, ⟨some 38, .mov (.t 37), none, false⟩, ⟨some 39, .mov (.t 9), some (38, false), false⟩, ⟨some 40, .bin .eql (.t 39) (.c (.int .i64 22)), some (38, false), false⟩, ⟨some 41, .pick (.t 38) (.c (.bool true)) (.t 40), none, false⟩, ⟨some 35, .mov (.t 41), none, false⟩] 0 [0, 3, 4, 5, 6, 7, 9, 35]) (.cond (.t 35) (.reg [⟨some 42, .mov (.t 4), none, false⟩, ⟨some 43, .bin .andNot (.t 42) (.c (.int .i64 1)), none, false⟩, ⟨some 44, .mov (.t 9), none, false⟩, ⟨some 45, .bin .rem (.t 44) (.c (.int .i64 2)), none, false⟩, ⟨some 46, .bin .mul (.t 45) (.c (.int .i64 1)), none, false⟩, ⟨some 47, .bin .or (.t 43) (.t 46), none, false⟩, ⟨some 4, .mov (.t 47), none, false⟩] 0 [0, 3, 4, 5, 6, 7, 9]) (.seq (.reg [⟨some 49, .mov (.t 9), none, false⟩, ⟨some 50, .bin .eql (.t 49) (.c (.int .i64 4)), none, false⟩, ⟨some 48, .mov (.t 50), none, false⟩] 0 [0, 3, 4, 5, 6, 7, 9, 48]) (.cond (.t 48) (.reg [⟨some 51, .mov (.t 4), none, false⟩, ⟨some 52, .bin .or (.t 51) (.c (.int .i64 2)), none, false⟩, ⟨some 4, .mov (.t 52), none, false⟩] 0 [0, 3, 4, 5, 6, 7, 9]) (.seq (.reg [⟨some 54, .mov (.t 9), none, false⟩, ⟨some 55, .bin .eql (.t 54) (.c (.int .i64 24)), none, false⟩, ⟨some 53, .mov (.t 55), none, false⟩] 0 [0, 3, 4, 5, 6, 7, 9, 53]) (.cond (.t 53) (.reg [⟨some 56, .mov (.t 4), none, false⟩, ⟨some 57, .bin .andNot (.t 56) (.c (.int .i64 2)), none, false⟩, ⟨some 4, .mov (.t 57), none, false⟩] 0 [0, 3, 4, 5, 6, 7, 9]) (.seq (.reg [⟨some 59, .mov (.t 9), none, false⟩, ⟨some 60, .bin .eql (.t 59) (.c (.int .i64 7)), none, false⟩, ⟨some 58, .mov (.t 60), none, false⟩] 0 [0, 3, 4, 5, 6, 7, 9, 58]) (.cond (.t 58) (.reg [⟨some 61, .mov (.t 4), none, false⟩, ⟨some 62, .bin .or (.t 61) (.c (.int .i64 4)), none, false⟩, ⟨some 4, .mov (.t 62), none, false⟩] 0 [0, 3, 4, 5, 6, 7, 9]) (.seq (.reg [⟨some 64, .mov (.t 9), none, false⟩, ⟨some 65, .bin .eql (.t 64) (.c (.int .i64 27)), none, false⟩, ⟨some 63, .mov (.t 65), none, false⟩] 0 [0, 3, 4, 5, 6, 7, 9, 63]) (.cond (.t 63) (.reg [⟨some 66, .mov (.t 4), none, false⟩, ⟨some 67, .bin .andNot (.t 66) (.c (.int .i64 4)), none, false⟩, ⟨some 4, .mov (.t 67), none, false⟩] 0 [0, 3, 4, 5, 6, 7, 9]) (.seq (.reg [⟨some 69, .mov (.t 9), none, false⟩, ⟨some 70, .bin .geq (.t 69) (.c (.int .i64 30)), none, false⟩, ⟨some 71, .mov (.t 70), none, false⟩, ⟨some 72, .mov (.t 9), some (71, true), false⟩, ⟨some 73, .bin .leq (.t 72) (.c (.int .i64 37)), some (71, true), false⟩, ⟨some 74, .pick (.t 71) (.t 73) (.c (.bool false)), none, false⟩, ⟨some 68, .mov (.t 74), none, false⟩] 0 [0, 3, 4, 5, 6, 7, 9, 68]) (.cond (.t 68) (.reg [⟨some 75, .mov (.t 9), none, false⟩, ⟨some 76, .bin .sub (.t 75) (.c (.int .i64 29)), none, false⟩, ⟨some 5, .mov (.t 76), none, false⟩] 0 [0, 3, 4, 5, 6, 7, 9]) (.seq (.reg [⟨some 78, .mov (.t 9), none, false⟩, ⟨some 79, .bin .eql (.t 78) (.c (.int .i64 39)), none, false⟩, ⟨some 77, .mov (.t 79), none, false⟩] 0 [0, 3, 4, 5, 6, 7, 9, 77]) (.cond (.t 77) (.reg [⟨some 5, .mov (.c (.int .i64 0)), none, false⟩] 0 [0, 3, 4, 5, 6, 7, 9]) (.seq (.reg [⟨some 81, .mov (.t 9), none, false⟩, ⟨some 82, .bin .geq (.t 81) (.c (.int .i64 40)), none, false⟩, ⟨some 83, .mov (.t 82), none, false⟩, ⟨some 84, .mov (.t 9), some (83, true), false⟩, ⟨some 85, .bin .leq (.t 84) (.c (.int .i64 47)), some (83, true), false⟩, ⟨some 86, .pick (.t 83) (.t 85) (.c (.bool false)), none, false⟩, ⟨some 80, .mov (.t 86), none, false⟩] 0 [0, 3, 4, 5, 6, 7, 9, 80]) (.cond (.t 80) (.reg [⟨some 87, .mov (.t 9), none, false⟩, ⟨some 88, .bin .sub (.t 87) (.c (.int .i64 39)), none, false⟩, ⟨some 6, .mov (.t 88), none, false⟩] 0 [0, 3, 4, 5, 6, 7, 9]) (.seq (.reg [⟨some 90, .mov (.t 9), none, false⟩, ⟨some 91, .bin .eql (.t 90) (.c (.int .i64 49)), none, false⟩, ⟨some 89, .mov (.t 91), none, false⟩] 0 [0, 3, 4, 5, 6, 7, 9, 89]) (.cond (.t 89) (.reg [⟨some 6, .mov (.c (.int .i64 0)), none, false⟩] 0 [0, 3, 4, 5, 6, 7, 9]) .skip))))))))))))))))))))) rc_looks_c92)))) (.reg [⟨some 20, .mov (.t 7), none, false⟩, ⟨some 21, .bin .add (.t 20) (.c (.int .i64 1)), none, false⟩, ⟨some 7, .mov (.t 21), none, false⟩] 0 [0, 3, 4, 5, 6, 7])))
noncomputable def rc_looks : RFn := ⟨1, 127, .seq (.reg [⟨some 2, .mov (.c (.bool false)), none, false⟩] 0 [0]) (.seq (.seq (.reg [⟨some 10, .call 7 [], none, false⟩, ⟨some 11, .un .not (.t 10), none, false⟩] 0 [0, 11]) (.cond (.t 11) (.seq (.reg [⟨some 2, .mov (.c (.bool false)), none, false⟩] 0 [2]) .ret) .skip)) (.seq (.seq (.reg [⟨some 12, .mov (.t 0), none, false⟩, ⟨some 13, .len (.t 12), none, false⟩, ⟨some 14, .bin .gtr (.t 13) (.c (.int .i64 30)), none, false⟩] 0 [0, 14]) (.cond (.t 14) (.seq (.reg [⟨some 2, .mov (.c (.bool true)), none, false⟩] 0 [2]) .ret) .skip)) (.seq (.reg [⟨some 15, .call 8 [.c (.int .i64 2), .c (.int .i64 5)], none, false⟩, ⟨some 3, .alloc [.int .i64 0, .int .i64 0, .sl 0 [] .nil, .int .i64 0, .int .i64 0, .bool false, .int .u16 0, .int .i64 0, .int .i64 0, .sl 0 [] .nil, .int .i64 0, .int .i64 0, .int .u16 0, .bool false, .bool false, .bool false, .sl 0 [] .nil, .int .i64 0, .int .i64 0, .int .i64 0, .int .u8 0, .sl 0 [] .nil, .sl 0 [] .nil, .sl 0 [] .nil], none, false⟩, ⟨none, .store 24 (.t 3) (.t 15), none, false⟩] 0 [0, 3]) (.seq (.reg [⟨some 4, .mov (.c (.int .i64 0)), none, false⟩, ⟨some 5, .mov (.c (.int .i64 0)), none, false⟩, ⟨some 6, .mov (.c (.int .i64 0)), none, false⟩] 0 [0, 3, 4, 5, 6]) (.seq (.seq (.reg [⟨some 7, .mov (.c (.int .i64 0)), none, false⟩] 0 [0, 3, 4, 5, 6, 7]) (.blk 0 (.loop rc_looks_l0))) (.seq (.reg [⟨some 103, .load true 24 (.t 3), none, false⟩, ⟨some 104, .mkrow 1 [.int .u8 0] 1 [(0, (.c (.int .u8 120)))], none, false⟩, ⟨some 105, .conv .lit (.t 104), none, true⟩, ⟨some 106, .call 9 [.t 103, .t 105], none, false⟩, ⟨none, .store 24 (.t 3) (.t 106), none, false⟩] 0 [3, 4, 5, 6]) (.seq (.reg [⟨some 107, .faddr 2 (.t 3), none, false⟩, ⟨some 108, .load false 1 (.t 107), none, false⟩, ⟨some 109, .len (.t 108), none, false⟩, ⟨some 110, .bin .eql (.t 109) (.c (.int .i64 10)), none, false⟩, ⟨some 111, .mov (.t 110), none, false⟩, ⟨some 112, .faddr 2 (.t 3), some (111, true), false⟩, ⟨some 113, .load false 1 (.t 112), some (111, true), false⟩, ⟨some 114, .iaddr 3 (.t 113) (.c (.int .i64 0)), some (111, true), false⟩, ⟨some 115, .load true 3 (.t 114), some (111, true), false⟩, ⟨some 116, .mov (.t 4), some (111, true), false⟩, ⟨some 117, .mov (.t 5), some (111, true), false⟩, ⟨some 118, .bin .mul (.t 117) (.c (.int .i64 16)), some (111, true), false⟩, ⟨some 119, .bin .add (.t 116) (.t 118), some (111, true), false⟩, ⟨some 120, .mov (.t 6), some (111, true), false⟩, ⟨some 121, .bin .mul (.t 120) (.c (.int .i64 256)), some (111, true), false⟩, ⟨some 122, .bin .add (.t 119) (.t 121), some (111, true), false⟩, ⟨some 123, .conv (.i2i .u16) (.t 122), some (111, true), false⟩, ⟨some 124, .build [.int .i32 0, .int .u16 0, .int .u8 0] [(0, (1, (.c (.int .i32 120)))), (1, (1, (.t 123)))], some (111, true), false⟩, ⟨some 125, .eqS false [.i, .i, .i] (.t 115) (.t 124), some (111, true), false⟩, ⟨some 126, .pick (.t 111) (.t 125) (.c (.bool false)), none, false⟩, ⟨some 2, .mov (.t 126), none, false⟩] 0 [2]) .ret))))))), [.t 2]⟩
theorem rc_looks_ok : compFn PG.P [⟨0, 0, [0], []⟩, ⟨1, 0, [0, 11], []⟩, ⟨2, 0, [2], []⟩, ⟨3, 0, [0, 14], []⟩, ⟨4, 0, [2], []⟩, ⟨5, 0, [0, 3], []⟩, ⟨6, 0, [0, 3, 4, 5, 6], []⟩, ⟨7, 0, [0, 3, 4, 5, 6, 7], []⟩, ⟨8, 0, [0, 3, 4, 5, 6, 7, 19], []⟩, ⟨9, 0, [0, 3, 4, 5, 6, 7], []⟩, ⟨10, 0, [0, 3, 4, 5, 6, 7, 8], []⟩, ⟨11, 0, [0, 3, 4, 5, 6, 7, 9], []⟩, ⟨12, 0, [0, 3, 4, 5, 6, 7, 9, 32], []⟩, ⟨13, 0, [0, 3, 4, 5, 6, 7, 9], []⟩, ⟨14, 0, [0, 3, 4, 5, 6, 7, 9, 35], []⟩, ⟨15, 0, [0, 3, 4, 5, 6, 7, 9], []⟩, ⟨16, 0, [0, 3, 4, 5, 6, 7, 9, 48], []⟩, ⟨17, 0, [0, 3, 4, 5, 6, 7, 9], []⟩, ⟨18, 0, [0, 3, 4, 5, 6, 7, 9, 53], []⟩, ⟨19, 0, [0, 3, 4, 5, 6, 7, 9], []⟩, ⟨20, 0, [0, 3, 4, 5, 6, 7, 9, 58], []⟩, ⟨21, 0, [0, 3, 4, 5, 6, 7, 9], []⟩, ⟨22, 0, [0, 3, 4, 5, 6, 7, 9, 63], []⟩, ⟨23, 0, [0, 3, 4, 5, 6, 7, 9], []⟩, ⟨24, 0, [0, 3, 4, 5, 6, 7, 9, 68], []⟩, ⟨25, 0, [0, 3, 4, 5, 6, 7, 9], []⟩, ⟨26, 0, [0, 3, 4, 5, 6, 7, 9, 77], []⟩, ⟨27, 0, [0, 3, 4, 5, 6, 7, 9], []⟩, ⟨28, 0, [0, 3, 4, 5, 6, 7, 9, 80], []⟩, ⟨29, 0, [0, 3, 4, 5, 6, 7, 9], []⟩, ⟨30, 0, [0, 3, 4, 5, 6, 7, 9, 89], []⟩, ⟨31, 0, [0, 3, 4, 5, 6, 7, 9], []⟩, ⟨32, 0, [0, 3, 4, 5, 6, 7], [101]⟩, ⟨33, 0, [3, 4, 5, 6], [105]⟩, ⟨34, 0, [2], []⟩] 6 = some rc_looks := by kernel_rfl
theorem looks_c92 {T A : Objs} {q : Nat} {s : Sc} {cs : List DV} (n2 : Keep T A []) (L2 : T.length ≤ q) (n3 : A[q]? = some (some (.box cs))) (n4 : ScVal s (pa0 0) (.agg cs)) (sok : ScOk s) {c : Nat} (hc : c < 100) {l : List Int} {sk : SK} {ar : Option Ob} {x4 x5 x6 i : Int} {Q : Exit → St → Prop}
    (hQ : ∀ T' cs', Keep T T' [] → T'[q]? = some (some (.box cs')) → ScVal (csiF s 109 [(c : Int)]) (pa0 0) (.agg cs') → Q .normal ⟨[(0, .sl 1 (intRows .u8 l) sk), (3, .ptr q 0 0), (4, .int .i64 x4), (5, .int .i64 x5), (6, .int .i64 x6), (7, .int .i64 i)], T'⟩) :
    WpH PG (tab []) 127 rc_looks_c92 Q ⟨[(0, .sl 1 (intRows .u8 l) sk), (3, .ptr q 0 0), (4, .int .i64 x4), (5, .int .i64 x5), (6, .int .i64 x6), (7, .int .i64 i), (9, .int .i64 c)], A ++ [ar]⟩ := by
  have n4' := n4
  obtain ⟨y2, y3, i1, i2, i3, m6, pr6, u1, u2, u3, ecs, ⟨x1, x2, x3⟩, g1', g2', g3'⟩ := n4.lit
  obtain rfl := DV.agg.inj ecs
  have t1 : (c : Int).tdiv 10 = ((c / 10 : Nat) : Int) := rfl
  have t2 : (c : Int).tmod 10 = ((c % 10 : Nat) : Int) := rfl
  have l1 : c / 10 < 10 := by omega
  have l2 : c % 10 < 10 := by omega
  have e : 10 * ((c / 10 : Nat) : Int) + ((c % 10 : Nat) : Int) = c := by omega
  generalize c / 10 = m at *
  generalize c % 10 = n at *
  have wm : IntKind.i64.wrap (m : Int) = m := wI64 (by omega) (by omega)
  have wn : IntKind.i64.wrap (n : Int) = n := wI64 (by omega) (by omega)
  have wm2 : IntKind.i64.wrap (48 + (m : Int)) = 48 + (m : Int) := wI64 (by omega) (by omega)
  have wm3 : IntKind.u8.wrap (48 + (m : Int)) = 48 + (m : Int) := wU8 (by omega) (by omega)
  have wn2 : IntKind.i64.wrap (48 + (n : Int)) = 48 + (n : Int) := wI64 (by omega) (by omega)
  have wn3 : IntKind.u8.wrap (48 + (n : Int)) = 48 + (n : Int) := wU8 (by omega) (by omega)
  have nf := tb_f n3 [ar]
  unfold WpH rc_looks_c92
  simp -implicitDefEqProofs -dsimp only [tb_at, tb_all nf, x1, x2, x3, g1', g2', g3', t1, t2, wm, wn, wm2, wm3, wn2, wn3, vcS, ↓vcP1, ↓vcP2, ↓reduceIte, reduceCtorEq, Nat.reduceLT, Nat.reduceLeDiff, Nat.reduceEqDiff, Nat.reduceAdd, Nat.reduceSub, Nat.reduceMul, Int.reduceLT, Int.reduceLE, Int.reduceEq, Int.reduceToNat, Int.reduceAdd, Int.reduceSub, Int.reduceNeg, List.reduceReplicate, Nat.reducePow, Int.reduceMul]
  refine sfeed_K (l := [27, 91, 48 + (m : Int), 48 + (n : Int), 109]) sok (paOk_pa0 0) n4' (.inl rfl) (inK_b (by simp) (by intro x hx; simp at hx; omega)) (by simp) fun T6 v6 k6 h6 => ?_
  change ScVal (List.foldl feedF (s, pa0 0) [27, 91, 48 + (m : Int), 48 + (n : Int), 109]).1 (List.foldl feedF (s, pa0 0) [27, 91, 48 + (m : Int), 48 + (n : Int), 109]).2 v6 at h6
  rw [feed_csi2 s l1 l2 (by decide), e] at h6
  dsimp only at h6
  generalize csiF s 109 [(c : Int)] = s6 at *
  obtain ⟨y2, y3, i1, i2, i3, m7, pr7, v1, v2, v3, rfl, ⟨x1, x2, x3⟩, _⟩ := h6.lit
  have hb6 := k6.at (tb_f n3 _) (by simp)
  simp -implicitDefEqProofs -dsimp only [tb_at, tb_all hb6, x1, x2, x3, vcS, ↓vcP1, ↓vcP2, ↓reduceIte, reduceCtorEq, Nat.reduceLT, Nat.reduceLeDiff, Nat.reduceEqDiff, Nat.reduceAdd, Nat.reduceSub, Nat.reduceMul, Int.reduceLT, Int.reduceLE, Int.reduceEq, Int.reduceToNat, Int.reduceAdd, Int.reduceSub, Int.reduceNeg, List.reduceReplicate, Nat.reducePow, Int.reduceMul]
  exact hQ _ _ (((n2.newApp _).new k6 (by simp)).put (Dd.ge L2) _) (tb_ss hb6 _) h6
theorem looks_c92b {T A : Objs} {q : Nat} {s : Sc} {cs : List DV} (n2 : Keep T A []) (L2 : T.length ≤ q) (n3 : A[q]? = some (some (.box cs))) (n4 : ScVal s (pa0 0) (.agg cs)) (sok : ScOk s) {c : Nat} (hc : c < 100) {l : List Int} {sk : SK} {ar : Option Ob} {x4 x5 x6 i : Int} {x89 : Bool} {Q : Exit → St → Prop}
    (hQ : ∀ T' cs', Keep T T' [] → T'[q]? = some (some (.box cs')) → ScVal (csiF s 109 [(c : Int)]) (pa0 0) (.agg cs') → Q .normal ⟨[(0, .sl 1 (intRows .u8 l) sk), (3, .ptr q 0 0), (4, .int .i64 x4), (5, .int .i64 x5), (6, .int .i64 x6), (7, .int .i64 i)], T'⟩) :
    WpH PG (tab []) 127 rc_looks_c92 Q ⟨[(0, .sl 1 (intRows .u8 l) sk), (3, .ptr q 0 0), (4, .int .i64 x4), (5, .int .i64 x5), (6, .int .i64 x6), (7, .int .i64 i), (9, .int .i64 c), (89, .bool x89)], A ++ [ar]⟩ := by
  have n4' := n4
  obtain ⟨y2, y3, i1, i2, i3, m6, pr6, u1, u2, u3, ecs, ⟨x1, x2, x3⟩, g1', g2', g3'⟩ := n4.lit
  obtain rfl := DV.agg.inj ecs
  have t1 : (c : Int).tdiv 10 = ((c / 10 : Nat) : Int) := rfl
  have t2 : (c : Int).tmod 10 = ((c % 10 : Nat) : Int) := rfl
  have l1 : c / 10 < 10 := by omega
  have l2 : c % 10 < 10 := by omega
  have e : 10 * ((c / 10 : Nat) : Int) + ((c % 10 : Nat) : Int) = c := by omega
  generalize c / 10 = m at *
  generalize c % 10 = n at *
  have wm : IntKind.i64.wrap (m : Int) = m := wI64 (by omega) (by omega)
  have wn : IntKind.i64.wrap (n : Int) = n := wI64 (by omega) (by omega)
  have wm2 : IntKind.i64.wrap (48 + (m : Int)) = 48 + (m : Int) := wI64 (by omega) (by omega)
  have wm3 : IntKind.u8.wrap (48 + (m : Int)) = 48 + (m : Int) := wU8 (by omega) (by omega)
  have wn2 : IntKind.i64.wrap (48 + (n : Int)) = 48 + (n : Int) := wI64 (by omega) (by omega)
  have wn3 : IntKind.u8.wrap (48 + (n : Int)) = 48 + (n : Int) := wU8 (by omega) (by omega)
  have nf := tb_f n3 [ar]
  unfold WpH rc_looks_c92
  simp -implicitDefEqProofs -dsimp only [tb_at, tb_all nf, x1, x2, x3, g1', g2', g3', t1, t2, wm, wn, wm2, wm3, wn2, wn3, vcS, ↓vcP1, ↓vcP2, ↓reduceIte, reduceCtorEq, Nat.reduceLT, Nat.reduceLeDiff, Nat.reduceEqDiff, Nat.reduceAdd, Nat.reduceSub, Nat.reduceMul, Int.reduceLT, Int.reduceLE, Int.reduceEq, Int.reduceToNat, Int.reduceAdd, Int.reduceSub, Int.reduceNeg, List.reduceReplicate, Nat.reducePow, Int.reduceMul]
  refine sfeed_K (l := [27, 91, 48 + (m : Int), 48 + (n : Int), 109]) sok (paOk_pa0 0) n4' (.inl rfl) (inK_b (by simp) (by intro x hx; simp at hx; omega)) (by simp) fun T6 v6 k6 h6 => ?_
  change ScVal (List.foldl feedF (s, pa0 0) [27, 91, 48 + (m : Int), 48 + (n : Int), 109]).1 (List.foldl feedF (s, pa0 0) [27, 91, 48 + (m : Int), 48 + (n : Int), 109]).2 v6 at h6
  rw [feed_csi2 s l1 l2 (by decide), e] at h6
  dsimp only at h6
  generalize csiF s 109 [(c : Int)] = s6 at *
  obtain ⟨y2, y3, i1, i2, i3, m7, pr7, v1, v2, v3, rfl, ⟨x1, x2, x3⟩, _⟩ := h6.lit
  have hb6 := k6.at (tb_f n3 _) (by simp)
  simp -implicitDefEqProofs -dsimp only [tb_at, tb_all hb6, x1, x2, x3, vcS, ↓vcP1, ↓vcP2, ↓reduceIte, reduceCtorEq, Nat.reduceLT, Nat.reduceLeDiff, Nat.reduceEqDiff, Nat.reduceAdd, Nat.reduceSub, Nat.reduceMul, Int.reduceLT, Int.reduceLE, Int.reduceEq, Int.reduceToNat, Int.reduceAdd, Int.reduceSub, Int.reduceNeg, List.reduceReplicate, Nat.reducePow, Int.reduceMul]
  exact hQ _ _ (((n2.newApp _).new k6 (by simp)).put (Dd.ge L2) _) (tb_ss hb6 _) h6
set_option maxHeartbeats 1000000 in
theorem looks_K {T : Objs} {l : List Int} {sz : Nat} {sk : SK} {K : DV → Objs → Prop} (hs : sz = 1 ∨ l = []) (hl : ∀ e ∈ l, 0 ≤ e ∧ e ≤ 255) (h : ∀ T', Keep T T' [] → K (.bool true) T') : CallK PG 6 [.sl sz (intRows .u8 l) sk] T K := by
  have hlr : (intRows .u8 l).length = l.length := by simp [intRows]
  refine CallK.of_fn FOk.nil rc_looks_ok (by simp [rc_looks]) ?_
  unfold rc_looks
  dsimp only
  simp -implicitDefEqProofs -dsimp only [tb_at, vcS, ↓vcP1, ↓vcP2, ↓reduceIte, reduceCtorEq, Nat.reduceLT, Nat.reduceLeDiff, Nat.reduceEqDiff, Nat.reduceAdd, Nat.reduceSub, Nat.reduceMul, Int.reduceLT, Int.reduceLE, Int.reduceEq, Int.reduceToNat, Int.reduceAdd, Int.reduceSub, Int.reduceNeg, List.reduceReplicate, Nat.reducePow, Int.reduceMul]
  refine known9_K fun T1 k1 => ?_
  simp -implicitDefEqProofs -dsimp only [tb_at, hlr, vcS, ↓vcP1, ↓vcP2, ↓reduceIte, reduceCtorEq, Nat.reduceLT, Nat.reduceLeDiff, Nat.reduceEqDiff, Nat.reduceAdd, Nat.reduceSub, Nat.reduceMul, Int.reduceLT, Int.reduceLE, Int.reduceEq, Int.reduceToNat, Int.reduceAdd, Int.reduceSub, Int.reduceNeg, List.reduceReplicate, Nat.reducePow, Int.reduceMul]
  refine ⟨fun _ => ⟨k1.1, h _ k1⟩, fun h40 => ?_⟩
  refine fresh_K (r := 2) (c := 5) (by omega) (by omega) fun T2 v2 k2 h2 => ?_
  have K2 : Keep T T2 [] := k1.new k2 (by simp)
  have L2 := K2.1
  change ScVal (lkS 0 0 0) (pa0 0) v2 at h2
  generalize hs0 : lkS 0 0 0 = s0 at h2
  obtain ⟨z2, z3, j1, j2, j3, m2, pr2, d1, d2, d3, rfl, ⟨o1, o2, o3⟩, f1, f2, f3⟩ := h2.lit
  simp -implicitDefEqProofs -dsimp only [tb_at, o1, o2, o3, hlr, vcS, ↓vcP1, ↓vcP2, ↓reduceIte, reduceCtorEq, Nat.reduceLT, Nat.reduceLeDiff, Nat.reduceEqDiff, Nat.reduceAdd, Nat.reduceSub, Nat.reduceMul, Int.reduceLT, Int.reduceLE, Int.reduceEq, Int.reduceToNat, Int.reduceAdd, Int.reduceSub, Int.reduceNeg, List.reduceReplicate, Nat.reducePow, Int.reduceMul]
  have h2' : ∃ cs, Ob.box [.int .i64 s0.rows, .int .i64 s0.cols, .sl 3 (ceRows s0.cells) j1, .int .i64 s0.y, .int .i64 s0.x, .bool s0.wrap, .int .u16 s0.attr, .int .i64 s0.top, .int .i64 s0.bot, .sl z2 (boRows s0.tabs) j2, .int .i64 s0.sy, .int .i64 s0.sx, .int .u16 s0.sattr, .bool s0.auto, .bool s0.shown, .bool s0.alt, .sl z3 (ceRows s0.other) j3, .int .i64 s0.oy, .int .i64 s0.ox, .int .i64 m2, .int .u8 pr2, d1, d2, d3] = .box cs ∧ ScVal (lkS 0 0 0) (pa0 0) (.agg cs) := ⟨_, rfl, by rw [hs0]; exact h2⟩
  obtain ⟨cs0, ecs0, h2''⟩ := h2'
  rw [ecs0]
  refine LoopWp.inv FOk.nil (S := fun σ : Nat × Objs × Nat × Nat × Nat => ⟨[(0, .sl sz (intRows .u8 l) sk), (3, .ptr T2.length 0 0), (4, .int .i64 σ.2.2.1), (5, .int .i64 σ.2.2.2.1), (6, .int .i64 σ.2.2.2.2), (7, .int .i64 σ.1)], σ.2.1⟩)
    (I := fun σ => σ.1 ≤ l.length ∧ Keep T σ.2.1 [] ∧ σ.2.2.1 < 8 ∧ σ.2.2.2.1 < 9 ∧ σ.2.2.2.2 < 9 ∧ ∃ cs, σ.2.1[T2.length]? = some (some (.box cs)) ∧ ScVal (lkS σ.2.2.1 σ.2.2.2.1 σ.2.2.2.2) (pa0 0) (.agg cs)) (μ := fun σ => l.length - σ.1) (0, _, 0, 0, 0) ⟨by simp, K2.newApp [some (Ob.box cs0)], (show 0 < 8 by decide), (show 0 < 9 by decide), (show 0 < 9 by decide), cs0, tb_get0 T2 [] _, h2''⟩ ?_ ?_
  · simp -implicitDefEqProofs -dsimp only [wkT_self, objsWk_refl, vcS, ↓vcP1, ↓vcP2, ↓reduceIte, reduceCtorEq, Nat.reduceLT, Nat.reduceLeDiff, Nat.reduceEqDiff, Nat.reduceAdd, Nat.reduceSub, Nat.reduceMul, Int.reduceLT, Int.reduceLE, Int.reduceEq, Int.reduceToNat, Int.reduceAdd, Int.reduceSub, Int.reduceNeg, List.reduceReplicate, Nat.reducePow, Int.reduceMul]
  · intro ⟨i, A, b, f, g⟩ ⟨n1, n2, hb, hf, hg, cs, n3, n4⟩
    dsimp only at n1 n2 n3 n4 hb hf hg ⊢
    have n4' := n4
    have sok := lkS_ok hb hf hg
    have w6 : IntKind.i64.wrap ((i : Int) + 1) = ((i + 1 : Nat) : Int) := by rw [wI64 (by omega) (by omega)]; omega
    unfold rc_looks_l0
    rcases Nat.lt_or_ge i l.length with hlt | hge
    · have hii : (i : Int) < l.length := by omega
      have i0 : (0 : Int) ≤ i := by omega
      have hsz : sz = 1 := by rcases hs with h | h; exact h; subst h; simp at hlt
      subst hsz
      have hgi : (intRows .u8 l)[i]? = some [.int .u8 (l.getD i 0)] := by simp [intRows, hlt]
      have he := hl (l.getD i 0) (by simp [List.getD_eq_getElem?_getD, hlt])
      generalize l.getD i 0 = e at *
      obtain ⟨k, hk⟩ : ∃ k : Nat, e.tmod 26 = k := ⟨(e.tmod 26).toNat, by have := Int.tmod_nonneg 26 he.1; omega⟩
      have hk26 : k < 26 := by rw [Int.tmod_eq_emod_of_nonneg he.1] at hk; omega
      have wk : IntKind.i64.wrap (k : Int) = k := wI64 (by omega) (by omega)
      have hk0 : (0 : Int) ≤ k := by omega
      have hcc : [(0 : Int), 1, 4, 7, 22, 24, 27, 30, 31, 32, 33, 34, 35, 36, 37, 39, 40, 41, 42, 43, 44, 45, 46, 47, 49, 5].getD k 0 = ((lkC k : Nat) : Int) := lkC_int k hk26
      have hk26' : (k : Int) < 26 := by omega
      simp -implicitDefEqProofs -dsimp only [tb_at, tb_all n3, hii, i0, hgi, hlr, hk, wk, hk0, hk26, hk26', Int.toNat_natCast, hcc, ↓rc_looks_c92_s, vcS, ↓vcP1, ↓vcP2, ↓reduceIte, reduceCtorEq, Nat.reduceLT, Nat.reduceLeDiff, Nat.reduceEqDiff, Nat.reduceAdd, Nat.reduceSub, Nat.reduceMul, Int.reduceLT, Int.reduceLE, Int.reduceEq, Int.reduceToNat, Int.reduceAdd, Int.reduceSub, Int.reduceNeg, List.reduceReplicate, Nat.reducePow, Int.reduceMul]
      repeat' (with_reducible (refine And.intro (fun hc => ?_) (fun hc => ?_)))
      all_goals
        with_reducible (first | refine looks_c92 n2 L2 n3 n4' sok (c := lkC k) (Nat.lt_trans (lkC_lt k hk26) (by decide)) fun T' cs' m1 m2 m3 => ?_ | refine looks_c92b n2 L2 n3 n4' sok (c := lkC k) (Nat.lt_trans (lkC_lt k hk26) (by decide)) fun T' cs' m1 m2 m3 => ?_)
        rw [lk_csi hk26 hb hf hg rfl] at m3
        obtain ⟨_, st1, st2, st3⟩ := lk_step hk26 hb hf hg
        have c50 := lkC_lt k hk26
        simp -implicitDefEqProofs -dsimp only [tb_at, w6, wkT_self, vcS, ↓vcP1, ↓vcP2, ↓reduceIte, reduceCtorEq, Nat.reduceLT, Nat.reduceLeDiff, Nat.reduceEqDiff, Nat.reduceAdd, Nat.reduceSub, Nat.reduceMul, Int.reduceLT, Int.reduceLE, Int.reduceEq, Int.reduceToNat, Int.reduceAdd, Int.reduceSub, Int.reduceNeg, List.reduceReplicate, Nat.reducePow, Int.reduceMul]
        refine ⟨(i + 1, _, lkB (lkC k) b, lkF (lkC k) f, lkG (lkC k) g), ⟨⟨?_, ?_, ?_, rfl⟩, objsWk_refl _⟩, ⟨hlt, m1, st1, st2, st3, cs', m2, m3⟩, by dsimp only; omega⟩
        · dsimp only
          generalize lkC k = c at *
          unfold lkB
          repeat (first | rw [if_pos (by omega)] | rw [if_neg (by omega)])
          all_goals first | rfl | exact lk_or b hb 2 (by decide) | exact lk_or b hb 4 (by decide) | exact lk_clr b hb 2 (by decide) | exact lk_clr b hb 4 (by decide) | (rw [show (c : Int) = 1 by omega]; exact lk_d1 b hb) | (rw [show (c : Int) = 22 by omega]; exact lk_d22 b hb) | (exfalso; omega)
        · dsimp only
          generalize lkC k = c at *
          unfold lkF
          repeat (first | rw [if_pos (by omega)] | rw [if_neg (by omega)])
          all_goals first | rfl | (rw [wI64 (by omega) (by omega)]; omega) | (exfalso; omega)
        · dsimp only
          generalize lkC k = c at *
          unfold lkG
          repeat (first | rw [if_pos (by omega)] | rw [if_neg (by omega)])
          all_goals first | rfl | (rw [wI64 (by omega) (by omega)]; omega) | (exfalso; omega)
    · have hii : ¬ (i : Int) < l.length := by omega
      have sok := lkS_ok hb hf hg
      have lx := lk_x b f g
      obtain ⟨y2, y3, i1, i2, i3, m6, pr6, u1, u2, u3, ecs, ⟨x1, x2, x3⟩, g1', g2', g3'⟩ := n4.lit
      obtain rfl := DV.agg.inj ecs
      generalize lkS b f g = s at *
      simp -implicitDefEqProofs -dsimp only [tb_at, tb_all n3, hii, hlr, x1, x2, x3, g1', g2', g3', wkT_self, vcS, ↓vcP1, ↓vcP2, ↓reduceIte, reduceCtorEq, Nat.reduceLT, Nat.reduceLeDiff, Nat.reduceEqDiff, Nat.reduceAdd, Nat.reduceSub, Nat.reduceMul, Int.reduceLT, Int.reduceLE, Int.reduceEq, Int.reduceToNat, Int.reduceAdd, Int.reduceSub, Int.reduceNeg, List.reduceReplicate, Nat.reducePow, Int.reduceMul]
      refine sfeed_K (l := [120]) sok (paOk_pa0 0) n4' (.inl rfl) (inK_b (by simp) (by decide)) (by simp) fun T6 v6 k6 h6 => ?_
      change ScVal (List.foldl feedF (s, pa0 0) [120]).1 (List.foldl feedF (s, pa0 0) [120]).2 v6 at h6
      generalize List.foldl feedF (s, pa0 0) [120] = s6 at *
      obtain ⟨lx1, lx2⟩ := lx
      have lx1' : (s6.1.cells.length : Int) = 10 := by omega
      have h10 : (0 : Int) < s6.1.cells.length := by omega
      have hg0 := ceRows_get (L := s6.1.cells) (i := 0) (by omega)
      rw [lx2] at hg0
      dsimp only [lkA] at hg0
      have wf : IntKind.i64.wrap ((f : Int) * 16) = (f : Int) * 16 := wI64 (by omega) (by omega)
      have wg : IntKind.i64.wrap ((g : Int) * 256) = (g : Int) * 256 := wI64 (by omega) (by omega)
      have wbf : IntKind.i64.wrap ((b : Int) + (f : Int) * 16) = (b : Int) + (f : Int) * 16 := wI64 (by omega) (by omega)
      have ws : IntKind.i64.wrap ((b : Int) + (f : Int) * 16 + (g : Int) * 256) = (b : Int) + (f : Int) * 16 + (g : Int) * 256 := wI64 (by omega) (by omega)
      have wu : IntKind.u16.wrap ((b : Int) + (f : Int) * 16 + (g : Int) * 256) = (b : Int) + (f : Int) * 16 + (g : Int) * 256 := wU16 (by omega) (by omega)
      obtain ⟨y2, y3, i1, i2, i3, m7, pr7, v1, v2, v3, rfl, ⟨x1, x2, x3⟩, _⟩ := h6.lit
      have hb6 := k6.at (tb_f n3 _) (by simp)
      simp -implicitDefEqProofs -dsimp only [tb_at, tb_all hb6, x1, x2, x3, ceRows_len, eq_true lx1', h10, hg0, wf, wg, wbf, ws, wu, wkT_self, vcS, ↓vcP1, ↓vcP2, ↓reduceIte, reduceCtorEq, Nat.reduceLT, Nat.reduceLeDiff, Nat.reduceEqDiff, Nat.reduceAdd, Nat.reduceSub, Nat.reduceMul, Int.reduceLT, Int.reduceLE, Int.reduceEq, Int.reduceToNat, Int.reduceAdd, Int.reduceSub, Int.reduceNeg, List.reduceReplicate, Nat.reducePow, Int.reduceMul]
      exact ⟨by simp; exact ((n2.newApp _).new k6 (by simp)).1, h _ (((n2.newApp _).new k6 (by simp)).put (Dd.ge L2) _)⟩
theorem screenLooks_true (dv : List DV) (h : ConfL [(false, [.sl [.int .u8]])] dv) {K : DV → Objs → Prop} (hK : ∀ T', K (.bool true) T') : CallK PG 6 dv [] K := by
  obtain ⟨a0, r0, rfl, h0, h⟩ := h.cons
  obtain rfl := h.nil
  obtain ⟨l, rfl, hl⟩ := confA_ints h0
  exact looks_K (.inl rfl) hl fun T' _ => hK T'
end Go.Proofs.YtjmnbpilnneonaaDoor
