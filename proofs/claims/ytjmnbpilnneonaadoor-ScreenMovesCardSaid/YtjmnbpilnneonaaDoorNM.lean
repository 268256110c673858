/- Texts H20, H21, H22, H23, H25, H26 in one. -/
import Derived.Test.YtjmnbpilnneonaaDoorNA
set_option linter.unusedVariables false
set_option linter.unusedSimpArgs false
set_option maxRecDepth 10000
namespace Go.Proofs.YtjmnbpilnneonaaDoor
open Go.RowKit
section
open Go.ChangeShapes Go.WideShapes
theorem conf_ints {k : IntKind} {d : DV} (h : Conf (.sl [.int k]) d) : ∃ l, d = .sl 1 (intRows k l) .any ∧ (∀ n ∈ l, k.min ≤ n ∧ n ≤ k.max) := by
  cases h with
  | sl row rows h1 h2 h3 =>
    refine ⟨ints rows, ?_, ?_⟩
    · congr 1
      have : ∀ R : List (List DV), (∀ r ∈ R, r.length = 1) → (∀ r ∈ R, ∀ (i : Nat) c d, [CS.int k][i]? = some c → r[i]? = some d → Conf c d) → R = intRows k (ints R) := by
        intro R
        induction R with
        | nil => intro _ _; rfl
        | cons r R ih =>
          intro g1 g2
          have g3 := g1 r (by simp)
          match r, g3 with
          | [c], _ =>
            have g4 := g2 [c] (by simp) 0 (.int k) c rfl rfl
            cases g4 with
            | int k n a b =>
              have := ih (fun r hr => g1 r (by simp [hr])) (fun r hr => g2 r (by simp [hr]))
              conv => lhs; rw [this]
              simp [ints, intRows]
      exact this rows h2 h3
    · intro n hn
      simp only [ints, List.mem_map] at hn
      obtain ⟨r, hr, rfl⟩ := hn
      have g3 := h2 r hr
      match r, g3 with
      | [c], _ =>
        have g4 := h3 [c] hr 0 (.int k) c rfl rfl
        cases g4 with
        | int k n a b => exact ⟨a, b⟩
theorem confA_ints {k : IntKind} {d : DV} (h : ConfA (false, [.sl [.int k]]) d) : ∃ l, d = .sl 1 (intRows k l) .any ∧ (∀ n ∈ l, k.min ≤ n ∧ n ≤ k.max) := by
  obtain ⟨c, h1, h2⟩ := h
  obtain rfl := (List.cons.inj h1).1
  exact conf_ints h2
end
noncomputable def rc_growsS : RFn := ⟨2, 27, .seq (.reg [⟨some 4, .mov (.c (.int .i64 0)), none, false⟩] 0 [0, 1]) (.seq (.seq (.reg [⟨some 5, .mov (.t 1), none, false⟩, ⟨some 6, .call 36 [.t 5], none, false⟩, ⟨some 7, .un .not (.t 6), none, false⟩, ⟨some 8, .mov (.t 7), none, false⟩, ⟨some 9, .mov (.t 0), some (8, false), false⟩, ⟨some 10, .len (.t 9), some (8, false), false⟩, ⟨some 11, .mov (.t 1), some (8, false), false⟩, ⟨some 12, .bin .rem (.t 10) (.t 11), some (8, false), false⟩, ⟨some 13, .bin .neq (.t 12) (.c (.int .i64 0)), some (8, false), false⟩, ⟨some 14, .pick (.t 8) (.c (.bool true)) (.t 13), none, false⟩, ⟨some 15, .mov (.t 14), none, false⟩, ⟨some 16, .mov (.t 0), some (15, false), false⟩, ⟨some 17, .len (.t 16), some (15, false), false⟩, ⟨some 18, .mov (.t 1), some (15, false), false⟩, ⟨some 19, .bin .quo (.t 17) (.t 18), some (15, false), false⟩, ⟨some 20, .call 36 [.t 19], some (15, false), false⟩, ⟨some 21, .un .not (.t 20), some (15, false), false⟩, ⟨some 22, .pick (.t 15) (.c (.bool true)) (.t 21), none, false⟩] 0 [0, 1, 22]) (.cond (.t 22) (.seq (.reg [⟨some 4, .mov (.c (.int .i64 0)), none, false⟩] 0 [4]) .ret) .skip)) (.seq (.reg [⟨some 23, .mov (.t 0), none, false⟩, ⟨some 24, .len (.t 23), none, false⟩, ⟨some 25, .mov (.t 1), none, false⟩, ⟨some 26, .bin .quo (.t 24) (.t 25), none, false⟩, ⟨some 4, .mov (.t 26), none, false⟩] 0 [4]) .ret)), [.t 4]⟩
theorem rc_growsS_ok : compFn PG.P [⟨0, 0, [0, 1], []⟩, ⟨1, 0, [0, 1, 22], []⟩, ⟨2, 0, [4], []⟩, ⟨3, 0, [4], []⟩] 45 = some rc_growsS := by kernel_rfl
theorem growsS_P {sz_l : Nat} {k_l : SK} {l : List (List DV)} {c : Int}  (hp : l.length ≤ 1000000) :
    PCalls PG 45 [.sl sz_l l k_l, .int .i64 c] fun n RR OO => RR = (((.int .i64 (rowsI l.length c), [])) : DV × Objs).1 ∧ OO = (((.int .i64 (rowsI l.length c), [])) : DV × Objs).2 := by
  refine PCalls.by_fn (res := fun n => ((.int .i64 (rowsI l.length c), []))) TG1_ok rc_growsS_ok (by simp [rc_growsS]) fun n => ?_
  unfold rc_growsS
  dsimp only
  unfold rowsI
  cases hs : sizeB c with
  | false =>
    have h1 := sizeB_f hs
    simp -implicitDefEqProofs -dsimp only [TG1_b, hs, vcS, ↓vcP1, ↓vcP2, ↓reduceIte, reduceCtorEq, Nat.reduceLT, Nat.reduceLeDiff, Nat.reduceEqDiff, Nat.reduceAdd, Nat.reduceSub, Nat.reduceMul, Int.reduceLT, Int.reduceLE, Int.reduceEq, Int.reduceToNat, Int.reduceAdd, Int.reduceSub, Int.reduceNeg, List.reduceReplicate, Nat.reducePow, Int.reduceMul]
    rw [if_neg (by omega)]
  | true =>
    have h1 := sizeB_t hs
    have hc : ¬ c = 0 := by omega
    have hc1 : ¬ c = -1 := by omega
    have hd0 : 0 ≤ (l.length : Int).tdiv c := Int.tdiv_nonneg (by omega) (by omega)
    have hd1 : (l.length : Int).tdiv c ≤ l.length := Int.tdiv_le_self _ (by omega)
    have hw : IntKind.i64.wrap ((l.length : Int).tdiv c) = (l.length : Int).tdiv c := wI64 (by omega) (by omega)
    by_cases hm : (l.length : Int).tmod c = 0
    · cases hq : sizeB ((l.length : Int).tdiv c) with
      | false =>
        have h2 := sizeB_f hq
        simp -implicitDefEqProofs -dsimp only [TG1_b, hs, hc, hc1, hm, hw, hq, vcS, ↓vcP1, ↓vcP2, ↓reduceIte, reduceCtorEq, Nat.reduceLT, Nat.reduceLeDiff, Nat.reduceEqDiff, Nat.reduceAdd, Nat.reduceSub, Nat.reduceMul, Int.reduceLT, Int.reduceLE, Int.reduceEq, Int.reduceToNat, Int.reduceAdd, Int.reduceSub, Int.reduceNeg, List.reduceReplicate, Nat.reducePow, Int.reduceMul]
        rw [if_neg (by omega)]
      | true =>
        have h2 := sizeB_t hq
        simp -implicitDefEqProofs -dsimp only [TG1_b, hs, hc, hc1, hm, hw, hq, vcS, ↓vcP1, ↓vcP2, ↓reduceIte, reduceCtorEq, Nat.reduceLT, Nat.reduceLeDiff, Nat.reduceEqDiff, Nat.reduceAdd, Nat.reduceSub, Nat.reduceMul, Int.reduceLT, Int.reduceLE, Int.reduceEq, Int.reduceToNat, Int.reduceAdd, Int.reduceSub, Int.reduceNeg, List.reduceReplicate, Nat.reducePow, Int.reduceMul]
        rw [if_pos (by omega)]
    · simp -implicitDefEqProofs -dsimp only [TG1_b, hs, hc, hc1, hm, vcS, ↓vcP1, ↓vcP2, ↓reduceIte, reduceCtorEq, Nat.reduceLT, Nat.reduceLeDiff, Nat.reduceEqDiff, Nat.reduceAdd, Nat.reduceSub, Nat.reduceMul, Int.reduceLT, Int.reduceLE, Int.reduceEq, Int.reduceToNat, Int.reduceAdd, Int.reduceSub, Int.reduceNeg, List.reduceReplicate, Nat.reducePow, Int.reduceMul]
      try rw [if_neg (by omega)]
def F_growsS : List DV → Option FSpec
  | [.sl sz_l l k_l, .int .i64 c] => some ⟨l.length ≤ 1000000, fun n => ((.int .i64 (rowsI l.length c), []))⟩
  | _ => none
theorem F_growsS_1 (sz_l : Nat) (l : List (List DV)) (k_l : SK) (c : Int) : F_growsS [.sl sz_l l k_l, .int .i64 c] = some ⟨l.length ≤ 1000000, fun n => ((.int .i64 (rowsI l.length c), []))⟩ := nrfl _
theorem growsS_ok (args : List DV) (s : FSpec) (hs : F_growsS args = some s) (hp : s.pre) : PCalls PG 45 args fun n r os => r = (s.res n).1 ∧ os = (s.res n).2 := by
  unfold F_growsS at hs
  split at hs
  · rename_i sz_l l k_l c
    obtain rfl := sj hs
    have this := growsS_P  (sz_l := sz_l) (k_l := k_l) (c := c)  hp
    exact this
  · cases hs
def TH20 : FL := (45, .o F_growsS) :: TH14
theorem TH20_ok : FOk PG (tab TH20) := FOk.cons TH14_ok growsS_ok
theorem TH20_at (args : List DV) : tab TH20 45 args = (F_growsS args).map .o := nrfl _
theorem TH20_c (args : List DV) : tab TH20 23 args = (F_cloneC args).map .o := nrfl _
theorem TH20_n24 (args : List DV) : tab TH20 24 args = none := nrfl _
theorem growS_K {T : Objs} {sz rows cols y : Nat} {k : SK} {L : List Ce} {K : DV → Objs → Prop} (hz : sz = 3) (g : GrOk L rows cols) (hy : y < rows) (h : ∀ k', K (.sl sz (ceRows (rowF L cols y)) k') T) : CallK PG 24 [.sl sz (ceRows L) k, .int .i64 cols, .int .i64 y] T K := by
  have h1 := g.r
  have h2 := g.c
  have hm : rows * cols ≤ 1000 * 1000 := Nat.mul_le_mul h1.2 h2.2
  have hl := g.lim
  have hgl := g.len
  have hrow := row_in (cols := cols) hy
  have hsucc := row_succ y cols
  have hp : (y : Int) * cols = ((y * cols : Nat) : Int) := by simp
  have hp1 : ((y : Int) + 1) * cols = (((y + 1) * cols : Nat) : Int) := by simp
  have hw1 : IntKind.i64.wrap ((y : Int) + 1) = (y : Int) + 1 := wI64 (by omega) (by omega)
  have hw2 : IntKind.i64.wrap ((y : Int) * cols) = ((y * cols : Nat) : Int) := by rw [hp]; exact wI64 (by omega) (by omega)
  have hw3 : IntKind.i64.wrap (((y : Int) + 1) * cols) = (((y + 1) * cols : Nat) : Int) := by rw [hp1]; exact wI64 (by omega) (by omega)
  have hy0 : ¬ (y : Int) < 0 := by omega
  have hy1 : ¬ (rows : Int) ≤ y := by omega
  refine CallK.of_fn TH20_ok rc_grow_ok (by simp [rc_grow]) ?_
  unfold rc_grow
  dsimp only
  simp -implicitDefEqProofs -dsimp only [TH20_at, F_growsS_1, ceRows_len, rowsI_gr g, hl.1, hy0, hy1, hw1, hw2, hw3, vcS, ↓vcP1, ↓vcP2, ↓reduceIte, reduceCtorEq, Nat.reduceLT, Nat.reduceLeDiff, Nat.reduceEqDiff, Nat.reduceAdd, Nat.reduceSub, Nat.reduceMul, Int.reduceLT, Int.reduceLE, Int.reduceEq, Int.reduceToNat, Int.reduceAdd, Int.reduceSub, Int.reduceNeg, List.reduceReplicate, Nat.reducePow, Int.reduceMul]
  have e : (y + 1) * cols - y * cols = cols := by omega
  rw [e, ceRows_drop, ceRows_take]
  exact ⟨by omega, by omega, ⟨by omega, by omega, .inl hz⟩, h k⟩
theorem srow_K {T : Objs} {s : Sc} {p : Pa} {v : DV} {y : Nat} {K : DV → Objs → Prop} (ok : ScOk s) (hv : ScVal s p v) (hy : y < s.rows) (h : ∀ T' q, T.length ≤ q → T'[q]? = some (some (.arr 3 (ceRows (rowF s.cells s.cols y)))) → Keep T T' [] → K (.own q 0 s.cols) T') : CallK PG 12 [v, .int .i64 y] T K := by
  obtain ⟨z1, z2, z3, k1, k2, k3, m, pr, d1, d2, d3, sv, rfl⟩ := hv
  have o1 : DV.one d1 = true := by obtain ⟨a, b, e, _⟩ := isInts_inv sv.pa.i1; rw [e]; rfl
  have o2 : DV.one d2 = true := by obtain ⟨a, b, e, _⟩ := isInts_inv sv.pa.i2; rw [e]; rfl
  have o3 : DV.one d3 = true := by obtain ⟨a, b, e, _⟩ := isInts_inv sv.pa.i3; rw [e]; rfl
  have hl := ok.g.lim
  have rl := rowF_len ok.g hy
  have hc := ok.g.c
  have cC : isCe z1 (ceRows (rowF s.cells s.cols y)) := isCe_mk (.inl sv.z1) (by omega)
  unfold scD
  refine CallK.of_fn TH20_ok rc_srow_ok (by simp [rc_srow]) ?_
  unfold rc_srow
  dsimp only
  simp -implicitDefEqProofs -dsimp only [tb_at, TH20_n24, o1, o2, o3, vcS, ↓vcP1, ↓vcP2, ↓reduceIte, reduceCtorEq, Nat.reduceLT, Nat.reduceLeDiff, Nat.reduceEqDiff, Nat.reduceAdd, Nat.reduceSub, Nat.reduceMul, Int.reduceLT, Int.reduceLE, Int.reduceEq, Int.reduceToNat, Int.reduceAdd, Int.reduceSub, Int.reduceNeg, List.reduceReplicate, Nat.reducePow, Int.reduceMul]
  refine growS_K sv.z1 ok.g hy fun k' => ?_
  simp -implicitDefEqProofs -dsimp only [tb_at, TH20_c, F_cloneC_1, cC, ceRows_len, rl, o1, o2, o3, vcS, ↓vcP1, ↓vcP2, ↓reduceIte, reduceCtorEq, Nat.reduceLT, Nat.reduceLeDiff, Nat.reduceEqDiff, Nat.reduceAdd, Nat.reduceSub, Nat.reduceMul, Int.reduceLT, Int.reduceLE, Int.reduceEq, Int.reduceToNat, Int.reduceAdd, Int.reduceSub, Int.reduceNeg, List.reduceReplicate, Nat.reducePow, Int.reduceMul]
  exact h _ (T.length + 1) (by omega) (tb_geti _ _ 1) (Keep.app _ _ _)
theorem Frzs.tup1 {T : Objs} {q sz : Nat} {rows : List (List DV)} {cs : List DV} {k : IntKind} {x : Int} (h : T[q]? = some (some (.arr sz rows))) : Frzs ⟨[(0, .tup [.agg cs, .int k x])], T⟩ ⟨[(0, .tup [.agg (cs.map (DV.frz0 q sz rows)), .int k x])], T.set q none⟩ := by
  refine .frz q sz rows ⟨h, fun t => ?_, by simp, fun k ob' hk => ?_⟩ (.refl _)
  · rw [look_single, look_single]
    split
    · exact .inr rfl
    · exact .inl rfl
  · rw [getElem?_set] at hk
    by_cases e : q = k
    · rw [if_pos e] at hk; split at hk <;> simp at hk
    · rw [if_neg e] at hk; exact ⟨fun e' => e e'.symm, ob', hk, frOb.refl (fr0.refl _ _ _) _⟩
theorem Frzs.scT {T0 T : Objs} {o q tq : Nat} {s : Sc} {p : Pa} {m pr : Int} {d1 d2 d3 : DV} {n : IntKind} {x : Int} (k0 : Keep T0 T []) (pa : PaAt p m pr d1 d2 d3) (t : TmAt T0 T o q tq s (.sl 0 [] .nil) m pr d1 d2 d3) (ok : ScOk s) :
    ∃ v T', Frzs ⟨[(0, .tup [.agg (tmBox s q tq (.sl 0 [] .nil) m pr d1 d2 d3), .int n x])], T⟩ ⟨[(0, .tup [v, .int n x])], T'⟩ ∧ ScVal s p v ∧ Keep T0 T' [] ∧ T'.length = T.length := by
  have h1 := Frzs.tup1 (cs := tmBox s q tq (.sl 0 [] .nil) m pr d1 d2 d3) (k := n) (x := x) t.cells
  have h2 := Frzs.tup1 (cs := (tmBox s q tq (.sl 0 [] .nil) m pr d1 d2 d3).map (DV.frz0 q 3 (ceRows s.cells))) (k := n) (x := x) (tb_ne t.tabs none t.qt.symm)
  have k2 : Keep T0 ((T.set q none).set tq none) [] := (k0.put t.nq none).put t.nt none
  have ha : s.alt = false := by
    rcases t.oth with ⟨oq, e, _⟩ | ⟨h, _⟩
    · cases e
    · exact h
  refine ⟨_, _, h1.trans h2, ⟨3, 1, 0, .any, .any, .nil, m, pr, d1, d2, d3, ⟨rfl, rfl, .inr (ok.non ha).1, pa⟩, ?_⟩, k2, by simp⟩
  simp only [tmBox, scD, List.map_cons, List.map_nil, fzOwn q 3 _ _ (ceRows_len s.cells).symm, fzNe _ t.qt.symm, fzSl, fzOwn tq 1 _ _ (boRows_len s.tabs).symm, fzInts pa.i1, fzInts pa.i2, fzInts pa.i3, (ok.non ha).1, ceRows_nil, fzInt, fzBool]
theorem snewV_K {T : Objs} {r c : Nat} {K : DV → Objs → Prop} (hr : 1 ≤ r ∧ r ≤ 1000) (hc : 1 ≤ c ∧ c ≤ 1000) (h : ∀ T' v, Keep T T' [] → ScVal (newF r c) (pa0 0) v → K (.tup [v, .int .i64 0]) T') : CallK PG 10 [.int .i64 r, .int .i64 c] T K := by
  refine CallK.of_fnF FOk.nil rc_snewS_ok (by simp [rc_snewS]) ?_
  unfold rc_snewS
  dsimp only
  have r1 : ¬ (r : Int) < 1 := by omega
  have r2 : ¬ (1000 : Int) < r := by omega
  have c1 : ¬ (c : Int) < 1 := by omega
  have c2 : ¬ (1000 : Int) < c := by omega
  simp -implicitDefEqProofs -dsimp only [tb_at, r1, r2, c1, c2, vcS, ↓vcP1, ↓vcP2, ↓reduceIte, reduceCtorEq, Nat.reduceLT, Nat.reduceLeDiff, Nat.reduceEqDiff, Nat.reduceAdd, Nat.reduceSub, Nat.reduceMul, Int.reduceLT, Int.reduceLE, Int.reduceEq, Int.reduceToNat, Int.reduceAdd, Int.reduceSub, Int.reduceNeg, List.reduceReplicate, Nat.reducePow, Int.reduceMul]
  refine gBlank_K hr hc fun T1 q hq hA k1 => ?_
  have w1 : IntKind.i64.wrap ((r : Int) - 1) = ((r - 1 : Nat) : Int) := by rw [wI64 (by omega) (by omega)]; omega
  have hb := k1.at (tb_get0 T [] (some (Ob.box _))) (by simp)
  simp -implicitDefEqProofs -dsimp only [tb_at, r1, r2, c1, c2, w1, vcS, ↓vcP1, ↓vcP2, ↓reduceIte, reduceCtorEq, Nat.reduceLT, Nat.reduceLeDiff, Nat.reduceEqDiff, Nat.reduceAdd, Nat.reduceSub, Nat.reduceMul, Int.reduceLT, Int.reduceLE, Int.reduceEq, Int.reduceToNat, Int.reduceAdd, Int.reduceSub, Int.reduceNeg, List.reduceReplicate, Nat.reducePow, Int.reduceMul]
  refine stabs_K (was := []) (.inr rfl) hc fun T2 tq htq hB k2 => ?_
  simp -implicitDefEqProofs -dsimp only [tb_at, r1, r2, c1, c2, w1, tb_all (k2.at hb (by simp)), vcS, ↓vcP1, ↓vcP2, ↓reduceIte, reduceCtorEq, Nat.reduceLT, Nat.reduceLeDiff, Nat.reduceEqDiff, Nat.reduceAdd, Nat.reduceSub, Nat.reduceMul, Int.reduceLT, Int.reduceLE, Int.reduceEq, Int.reduceToNat, Int.reduceAdd, Int.reduceSub, Int.reduceNeg, List.reduceReplicate, Nat.reducePow, Int.reduceMul]
  have l1 := k1.1
  have l2 := k2.1
  simp only [List.length_append, List.length_cons, List.length_nil] at l1 hq
  have kk : Keep T T2 [] := ((Keep.app T _ []).new k1 (by simp)).new k2 (by simp)
  have e : newD r c q tq = .agg [.int .i64 r, .int .i64 c, .own q 0 (r * c), .int .i64 0, .int .i64 0, .bool false, .int .u16 0, .int .i64 0, .int .i64 ((r - 1 : Nat) : Int), .own tq 0 c, .int .i64 0, .int .i64 0, .int .u16 0, .bool true, .bool true, .bool false, .sl 0 [] .nil, .int .i64 0, .int .i64 0, .int .i64 0, .int .u8 0, .sl 0 [] .nil, .sl 0 [] .nil, .sl 0 [] .nil] := by
    simp [newD, tmBox, newF, blankG, tabs0_len]
  have lq := tb_lt hA
  have tz : TmAt T (T2.set T.length (some (.box (tmBox (newF r c) q tq (.sl 0 [] .nil) 0 0 (.sl 0 [] .nil) (.sl 0 [] .nil) (.sl 0 [] .nil))))) T.length q tq (newF r c) (.sl 0 [] .nil) 0 0 (.sl 0 [] .nil) (.sl 0 [] .nil) (.sl 0 [] .nil) :=
    ⟨tb_ss (k2.at hb (by simp)) _, tb_ne (k2.at hA (by simp)) _ (by omega), by rw [tabsTo_nil] at hB; exact tb_ne hB _ (by omega), .inr ⟨rfl, 0, .nil, rfl⟩, by omega, by omega, by omega, Dd.ge (Nat.le_refl _), Dd.ge (by omega), Dd.ge (by omega)⟩
  have pz : PaAt (pa0 0) 0 0 (.sl 0 [] .nil) (.sl 0 [] .nil) (.sl 0 [] .nil) := { m := rfl, pr := rfl, i1 := isInts_none _ _ _, i2 := isInts_none _ _ _, i3 := isInts_none _ _ _, e1 := rfl, e2 := rfl, e3 := rfl }
  have e2 : tmBox (newF r c) q tq (.sl 0 [] .nil) 0 0 (.sl 0 [] .nil) (.sl 0 [] .nil) (.sl 0 [] .nil) = _ := DV.agg.inj e
  obtain ⟨v', T', hF, hv, kT, hl⟩ := Frzs.scT (n := .i64) (x := 0) (kk.put (Dd.ge (Nat.le_refl _)) _) pz tz (newF_ok hr hc)
  refine ⟨by simp; omega, .tup [v', .int .i64 0], T', ?_, h T' v' kT hv⟩
  rw [e2] at hF
  exact hF
noncomputable def rc_fresh : RFn := ⟨2, 14, .seq (.reg [⟨some 4, .alloc [.int .i64 0, .int .i64 0, .sl 0 [] .nil, .int .i64 0, .int .i64 0, .bool false, .int .u16 0, .int .i64 0, .int .i64 0, .sl 0 [] .nil, .int .i64 0, .int .i64 0, .int .u16 0, .bool false, .bool false, .bool false, .sl 0 [] .nil, .int .i64 0, .int .i64 0, .int .i64 0, .int .u8 0, .sl 0 [] .nil, .sl 0 [] .nil, .sl 0 [] .nil], none, false⟩] 0 [0, 1, 4]) (.seq (.reg [⟨some 8, .mov (.t 0), none, false⟩, ⟨some 9, .mov (.t 1), none, false⟩, ⟨some 10, .call 10 [.t 8, .t 9], none, false⟩, ⟨some 7, .mov (.t 10), none, false⟩, ⟨some 11, .ext (.t 7) 0, none, false⟩, ⟨some 12, .ext (.t 7) 1, none, false⟩, ⟨some 5, .alloc [.int .i64 0, .int .i64 0, .sl 0 [] .nil, .int .i64 0, .int .i64 0, .bool false, .int .u16 0, .int .i64 0, .int .i64 0, .sl 0 [] .nil, .int .i64 0, .int .i64 0, .int .u16 0, .bool false, .bool false, .bool false, .sl 0 [] .nil, .int .i64 0, .int .i64 0, .int .i64 0, .int .u8 0, .sl 0 [] .nil, .sl 0 [] .nil, .sl 0 [] .nil], none, false⟩, ⟨none, .store 24 (.t 5) (.t 11), none, false⟩, ⟨some 6, .mov (.t 12), none, false⟩] 0 [4, 5]) (.seq (.reg [⟨some 13, .load true 24 (.t 5), none, false⟩, ⟨none, .store 24 (.t 4) (.t 13), none, false⟩] 0 [4]) .ret)), [.c 4 true 24]⟩
theorem rc_fresh_ok : compFn PG.P [⟨0, 0, [0, 1, 4], []⟩, ⟨1, 0, [4, 5], []⟩, ⟨2, 0, [4], []⟩] 8 = some rc_fresh := by kernel_rfl
theorem fresh_K {T : Objs} {r c : Nat} {K : DV → Objs → Prop} (hr : 1 ≤ r ∧ r ≤ 1000) (hc : 1 ≤ c ∧ c ≤ 1000) (h : ∀ T' v, Keep T T' [] → ScVal (newF r c) (pa0 0) v → K v T') : CallK PG 8 [.int .i64 r, .int .i64 c] T K := by
  refine CallK.of_fn FOk.nil rc_fresh_ok (by simp [rc_fresh]) ?_
  unfold rc_fresh
  dsimp only
  simp -implicitDefEqProofs -dsimp only [tb_at, vcS, ↓vcP1, ↓vcP2, ↓reduceIte, reduceCtorEq, Nat.reduceLT, Nat.reduceLeDiff, Nat.reduceEqDiff, Nat.reduceAdd, Nat.reduceSub, Nat.reduceMul, Int.reduceLT, Int.reduceLE, Int.reduceEq, Int.reduceToNat, Int.reduceAdd, Int.reduceSub, Int.reduceNeg, List.reduceReplicate, Nat.reducePow, Int.reduceMul]
  refine snewV_K hr hc fun T1 v k1 hv => ?_
  have hv' := hv
  obtain ⟨z1, z2, z3, j1, j2, j3, m, pr, d1, d2, d3, sv, rfl⟩ := hv
  have o1 : DV.one d1 = true := by obtain ⟨a, b, e, _⟩ := isInts_inv sv.pa.i1; rw [e]; rfl
  have o2 : DV.one d2 = true := by obtain ⟨a, b, e, _⟩ := isInts_inv sv.pa.i2; rw [e]; rfl
  have o3 : DV.one d3 = true := by obtain ⟨a, b, e, _⟩ := isInts_inv sv.pa.i3; rw [e]; rfl
  have hb := k1.at (tb_get0 T [] (some (Ob.box _))) (by simp)
  generalize newF r c = s at *
  unfold scD at hv' ⊢
  simp -implicitDefEqProofs -dsimp only [tb_at, tb_all hb, o1, o2, o3, vcS, ↓vcP1, ↓vcP2, ↓reduceIte, reduceCtorEq, Nat.reduceLT, Nat.reduceLeDiff, Nat.reduceEqDiff, Nat.reduceAdd, Nat.reduceSub, Nat.reduceMul, Int.reduceLT, Int.reduceLE, Int.reduceEq, Int.reduceToNat, Int.reduceAdd, Int.reduceSub, Int.reduceNeg, List.reduceReplicate, Nat.reducePow, Int.reduceMul]
  have kk : Keep T T1 [] := (Keep.app T [_] []).new k1 (by simp)
  exact ⟨by have := kk.1; simp; omega, h _ _ ((kk.put (Dd.ge (Nat.le_refl _)) _).newApp _) hv'⟩
noncomputable def rc_known9 : RFn := ⟨0, 70, .seq (.reg [⟨some 0, .mov (.c (.bool false)), none, false⟩] 0 []) (.seq (.reg [⟨some 7, .call 10 [.c (.int .i64 3), .c (.int .i64 4)], none, false⟩, ⟨some 6, .mov (.t 7), none, false⟩, ⟨some 8, .ext (.t 6) 0, none, false⟩, ⟨some 9, .ext (.t 6) 1, none, false⟩, ⟨some 1, .alloc [.int .i64 0, .int .i64 0, .sl 0 [] .nil, .int .i64 0, .int .i64 0, .bool false, .int .u16 0, .int .i64 0, .int .i64 0, .sl 0 [] .nil, .int .i64 0, .int .i64 0, .int .u16 0, .bool false, .bool false, .bool false, .sl 0 [] .nil, .int .i64 0, .int .i64 0, .int .i64 0, .int .u8 0, .sl 0 [] .nil, .sl 0 [] .nil, .sl 0 [] .nil], none, false⟩, ⟨none, .store 24 (.t 1) (.t 8), none, false⟩, ⟨some 2, .mov (.t 9), none, false⟩] 0 [1, 2]) (.seq (.reg [⟨some 11, .call 10 [.c (.int .i64 0), .c (.int .i64 4)], none, false⟩, ⟨some 10, .mov (.t 11), none, false⟩, ⟨some 12, .ext (.t 10) 0, none, false⟩, ⟨some 13, .ext (.t 10) 1, none, false⟩, ⟨some 3, .alloc [.int .i64 0, .int .i64 0, .sl 0 [] .nil, .int .i64 0, .int .i64 0, .bool false, .int .u16 0, .int .i64 0, .int .i64 0, .sl 0 [] .nil, .int .i64 0, .int .i64 0, .int .u16 0, .bool false, .bool false, .bool false, .sl 0 [] .nil, .int .i64 0, .int .i64 0, .int .i64 0, .int .u8 0, .sl 0 [] .nil, .sl 0 [] .nil, .sl 0 [] .nil], none, false⟩, ⟨none, .store 24 (.t 3) (.t 12), none, false⟩, ⟨some 4, .mov (.t 13), none, false⟩] 0 [1, 2, 4]) (.seq (.seq (.reg [⟨some 14, .mov (.t 2), none, false⟩, ⟨some 15, .bin .neq (.t 14) (.c (.int .i64 0)), none, false⟩, ⟨some 16, .mov (.t 15), none, false⟩, ⟨some 17, .faddr 2 (.t 1), some (16, false), false⟩, ⟨some 18, .load false 1 (.t 17), some (16, false), false⟩, ⟨some 19, .len (.t 18), some (16, false), false⟩, ⟨some 20, .bin .neq (.t 19) (.c (.int .i64 12)), some (16, false), false⟩, ⟨some 21, .pick (.t 16) (.c (.bool true)) (.t 20), none, false⟩] 0 [1, 4, 21]) (.cond (.t 21) (.seq (.reg [⟨some 0, .mov (.c (.bool false)), none, false⟩] 0 [0]) .ret) .skip)) (.seq (.reg [⟨some 22, .load true 24 (.t 1), none, false⟩, ⟨some 23, .mkrow 1 [.int .u8 0] 4 [(0, (.c (.int .u8 97))), (1, (.c (.int .u8 13))), (2, (.c (.int .u8 10))), (3, (.c (.int .u8 98)))], none, false⟩, ⟨some 24, .conv .lit (.t 23), none, true⟩, ⟨some 25, .call 9 [.t 22, .t 24], none, false⟩, ⟨some 5, .alloc [.int .i64 0, .int .i64 0, .sl 0 [] .nil, .int .i64 0, .int .i64 0, .bool false, .int .u16 0, .int .i64 0, .int .i64 0, .sl 0 [] .nil, .int .i64 0, .int .i64 0, .int .u16 0, .bool false, .bool false, .bool false, .sl 0 [] .nil, .int .i64 0, .int .i64 0, .int .i64 0, .int .u8 0, .sl 0 [] .nil, .sl 0 [] .nil, .sl 0 [] .nil], none, false⟩, ⟨none, .store 24 (.t 5) (.t 25), none, false⟩] 0 [4, 5]) (.seq (.reg [⟨some 26, .mov (.t 4), none, false⟩, ⟨some 27, .bin .eql (.t 26) (.c (.int .i64 26)), none, false⟩, ⟨some 28, .mov (.t 27), none, false⟩, ⟨some 29, .faddr 2 (.t 5), some (28, true), false⟩, ⟨some 30, .load false 1 (.t 29), some (28, true), false⟩, ⟨some 31, .len (.t 30), some (28, true), false⟩, ⟨some 32, .bin .eql (.t 31) (.c (.int .i64 12)), some (28, true), false⟩, ⟨some 33, .pick (.t 28) (.t 32) (.c (.bool false)), none, false⟩, ⟨some 34, .mov (.t 33), none, false⟩, ⟨some 35, .faddr 2 (.t 5), some (34, true), false⟩, ⟨some 36, .load false 1 (.t 35), some (34, true), false⟩, ⟨some 37, .iaddr 3 (.t 36) (.c (.int .i64 0)), some (34, true), false⟩, ⟨some 38, .faddr 0 (.t 37), some (34, true), false⟩, ⟨some 39, .load false 1 (.t 38), some (34, true), false⟩, ⟨some 40, .bin .eql (.t 39) (.c (.int .i32 97)), some (34, true), false⟩, ⟨some 41, .pick (.t 34) (.t 40) (.c (.bool false)), none, false⟩, ⟨some 42, .mov (.t 41), none, false⟩, ⟨some 43, .faddr 2 (.t 5), some (42, true), false⟩, ⟨some 44, .load false 1 (.t 43), some (42, true), false⟩, ⟨some 45, .iaddr 3 (.t 44) (.c (.int .i64 4)), some (42, true), false⟩, ⟨some 46, .faddr 0 (.t 45), some (42, true), false⟩, ⟨some 47, .load false 1 (.t 46), some (42, true), false⟩, ⟨some 48, .bin .eql (.t 47) (.c (.int .i32 98)), some (42, true), false⟩, ⟨some 49, .pick (.t 42) (.t 48) (.c (.bool false)), none, false⟩, ⟨some 50, .mov (.t 49), none, false⟩, ⟨some 51, .faddr 3 (.t 5), some (50, true), false⟩, ⟨some 52, .load false 1 (.t 51), some (50, true), false⟩, ⟨some 53, .bin .eql (.t 52) (.c (.int .i64 1)), some (50, true), false⟩, ⟨some 54, .pick (.t 50) (.t 53) (.c (.bool false)), none, false⟩, ⟨some 55, .mov (.t 54), none, false⟩, ⟨some 56, .faddr 4 (.t 5), some (55, true), false⟩, ⟨some 57, .load false 1 (.t 56), some (55, true), false⟩, ⟨some 58, .bin .eql (.t 57) (.c (.int .i64 1)), some (55, true), false⟩, ⟨some 59, .pick (.t 55) (.t 58) (.c (.bool false)), none, false⟩, ⟨some 60, .mov (.t 59), none, false⟩, ⟨some 61, .load true 24 (.t 5), some (60, true), false⟩, ⟨some 62, .call 11 [.t 61], some (60, true), false⟩, ⟨some 63, .pick (.t 60) (.t 62) (.c (.bool false)), none, false⟩, ⟨some 64, .mov (.t 63), none, false⟩, ⟨some 65, .load true 24 (.t 5), some (64, true), false⟩, ⟨some 66, .call 12 [.t 65, .c (.int .i64 1)], some (64, true), false⟩, ⟨some 67, .len (.t 66), some (64, true), false⟩, ⟨some 68, .bin .eql (.t 67) (.c (.int .i64 4)), some (64, true), false⟩, ⟨some 69, .pick (.t 64) (.t 68) (.c (.bool false)), none, false⟩, ⟨some 0, .mov (.t 69), none, false⟩] 0 [0]) .ret))))), [.t 0]⟩
theorem rc_known9_ok : compFn PG.P [⟨0, 0, [], []⟩, ⟨1, 0, [1, 2], []⟩, ⟨2, 0, [1, 2, 4], []⟩, ⟨3, 0, [1, 4, 21], []⟩, ⟨4, 0, [0], []⟩, ⟨5, 0, [4, 5], [24]⟩, ⟨6, 0, [0], []⟩] 7 = some rc_known9 := by kernel_rfl
instance (c : Ce) : Decidable (ceIn c) := by unfold ceIn; infer_instance
def x0K : Sc × Pa := [97, 13, 10, 98].foldl feedF (newF 3 4, pa0 0)
theorem x0K_1 : x0K.1.cells.length = 12 ∧ x0K.1.cells.getD 0 blkC = ⟨97, 0, 0⟩ ∧ x0K.1.cells.getD 4 blkC = ⟨98, 0, 0⟩ ∧ x0K.1.y = 1 ∧ x0K.1.x = 1 ∧ x0K.1.rows = 3 ∧ x0K.1.cols = 4 ∧ x0K.1.wrap = false ∧ x0K.1.alt = false := by decide +kernel
theorem x0K_2 : (∀ c ∈ x0K.1.cells, ceIn c) ∧ x0K.1.other = [] ∧ cellsB x0K.1.cells 3 4 = true ∧ x0K.1.alt = false ∧ atB x0K.1.attr = true ∧ atB x0K.1.sattr = true ∧ prightF x0K.2 = true := by decide +kernel
theorem x0K_R : ScR x0K.1 x0K.2 := by
  obtain ⟨a1, a2, a3, a4, a5, a6, a7⟩ := x0K_2
  obtain ⟨b1, b2, b3, b4, b5, b6, b7, b8, b9⟩ := x0K_1
  refine { ci := a1, oi := ?_, cb := ?_, ob := ?_, ab := a5, sb := a6, pb := a7 }
  · rw [a2]; intro c hc; cases hc
  · rw [b6, b7]; exact a3
  · intro h; rw [a4] at h; cases h
theorem known9_K {T : Objs} {K : DV → Objs → Prop} (h : ∀ T', Keep T T' [] → K (.bool true) T') : CallK PG 7 [] T K := by
  have ok0 : ScOk (newF 3 4) := newF_ok (by decide) (by decide)
  have l0 : ((newF 3 4).cells.length : Int) = 12 := by decide
  refine CallK.of_fn FOk.nil rc_known9_ok (by simp [rc_known9]) ?_
  unfold rc_known9
  dsimp only
  simp -implicitDefEqProofs -dsimp only [tb_at, vcS, ↓vcP1, ↓vcP2, ↓reduceIte, reduceCtorEq, Nat.reduceLT, Nat.reduceLeDiff, Nat.reduceEqDiff, Nat.reduceAdd, Nat.reduceSub, Nat.reduceMul, Int.reduceLT, Int.reduceLE, Int.reduceEq, Int.reduceToNat, Int.reduceAdd, Int.reduceSub, Int.reduceNeg, List.reduceReplicate, Nat.reducePow, Int.reduceMul]
  refine snewV_K (r := 3) (c := 4) (by decide) (by decide) fun T1 v k1 hv => ?_
  have hv' := hv
  obtain ⟨z1, z2, z3, j1, j2, j3, m, pr, d1, d2, d3, sv, rfl⟩ := hv
  have o1 : DV.one d1 = true := by obtain ⟨a, b, e, _⟩ := isInts_inv sv.pa.i1; rw [e]; rfl
  have o2 : DV.one d2 = true := by obtain ⟨a, b, e, _⟩ := isInts_inv sv.pa.i2; rw [e]; rfl
  have o3 : DV.one d3 = true := by obtain ⟨a, b, e, _⟩ := isInts_inv sv.pa.i3; rw [e]; rfl
  generalize hs0 : newF 3 4 = s0 at *
  unfold scD at hv' ⊢
  simp -implicitDefEqProofs -dsimp only [tb_at, o1, o2, o3, vcS, ↓vcP1, ↓vcP2, ↓reduceIte, reduceCtorEq, Nat.reduceLT, Nat.reduceLeDiff, Nat.reduceEqDiff, Nat.reduceAdd, Nat.reduceSub, Nat.reduceMul, Int.reduceLT, Int.reduceLE, Int.reduceEq, Int.reduceToNat, Int.reduceAdd, Int.reduceSub, Int.reduceNeg, List.reduceReplicate, Nat.reducePow, Int.reduceMul]
  refine snewS_no (r := 0) (c := 4) (by decide) fun T2 k2 => ?_
  have hb1 := k2.at (tb_get0 T1 [] (some (Ob.box _))) (by simp)
  simp -implicitDefEqProofs -dsimp only [tb_at, tb_all hb1, o1, o2, o3, ceRows_len, l0, fun q sz rows => fzInts (q := q) (sz := sz) (rows := rows) sv.pa.i1, fun q sz rows => fzInts (q := q) (sz := sz) (rows := rows) sv.pa.i2, fun q sz rows => fzInts (q := q) (sz := sz) (rows := rows) sv.pa.i3, vcS, ↓vcP1, ↓vcP2, ↓reduceIte, reduceCtorEq, Nat.reduceLT, Nat.reduceLeDiff, Nat.reduceEqDiff, Nat.reduceAdd, Nat.reduceSub, Nat.reduceMul, Int.reduceLT, Int.reduceLE, Int.reduceEq, Int.reduceToNat, Int.reduceAdd, Int.reduceSub, Int.reduceNeg, List.reduceReplicate, Nat.reducePow, Int.reduceMul]
  subst hs0
  refine sfeed_K (l := [97, 13, 10, 98]) ok0 (paOk_pa0 0) hv' (.inl rfl) (inK_u8 (by simp) (by decide)) (by simp) fun T3 w k3 hw => ?_
  change ScVal x0K.1 x0K.2 w at hw
  have fo := feed_ok (l := [97, 13, 10, 98]) (x := (newF 3 4, pa0 0)) ok0 (paOk_pa0 0) (by decide)
  change ScOk x0K.1 ∧ paOk x0K.2 at fo
  have R := x0K_R
  obtain ⟨b1, b2, b3, b4, b5, b6, b7, b8, b9⟩ := x0K_1
  obtain ⟨ok1, pk1⟩ := fo
  have g0 := ceRows_get (L := x0K.1.cells) (i := 0) (by omega)
  have g4 := ceRows_get (L := x0K.1.cells) (i := 4) (by omega)
  rw [b2] at g0
  rw [b3] at g4
  generalize x0K.1 = s1 at *
  generalize x0K.2 = p1 at *
  have hw' := hw
  obtain ⟨z1, z2, z3, j1, j2, j3, m, pr, d1, d2, d3, sv1, rfl⟩ := hw
  have o1 : DV.one d1 = true := by obtain ⟨a, b, e, _⟩ := isInts_inv sv1.pa.i1; rw [e]; rfl
  have o2 : DV.one d2 = true := by obtain ⟨a, b, e, _⟩ := isInts_inv sv1.pa.i2; rw [e]; rfl
  have o3 : DV.one d3 = true := by obtain ⟨a, b, e, _⟩ := isInts_inv sv1.pa.i3; rw [e]; rfl
  have z13 := sv1.z1
  subst z13
  have c1 : (s1.cells.length : Int) = 12 := by omega
  have c2 : (s1.y : Int) = 1 := by omega
  have c3 : (s1.x : Int) = 1 := by omega
  have hw2 := hw'
  unfold scD at hw' ⊢
  simp -implicitDefEqProofs -dsimp only [tb_at, o1, o2, o3, ceRows_len, eq_true c1, eq_true c2, eq_true c3, g0, g4, vcS, ↓vcP1, ↓vcP2, ↓reduceIte, reduceCtorEq, Nat.reduceLT, Nat.reduceLeDiff, Nat.reduceEqDiff, Nat.reduceAdd, Nat.reduceSub, Nat.reduceMul, Int.reduceLT, Int.reduceLE, Int.reduceEq, Int.reduceToNat, Int.reduceAdd, Int.reduceSub, Int.reduceNeg, List.reduceReplicate, Nat.reducePow, Int.reduceMul]
  refine ⟨by omega, by omega, ?_⟩
  refine sright_fbf ok1 pk1 hw2 R b8 (by omega) b9 fun T4 k4 => ?_
  have hb4 := k4.at (tb_get0 T3 [] (some (Ob.box _))) (by simp)
  simp -implicitDefEqProofs -dsimp only [tb_at, tb_all hb4, o1, o2, o3, ceRows_len, vcS, ↓vcP1, ↓vcP2, ↓reduceIte, reduceCtorEq, Nat.reduceLT, Nat.reduceLeDiff, Nat.reduceEqDiff, Nat.reduceAdd, Nat.reduceSub, Nat.reduceMul, Int.reduceLT, Int.reduceLE, Int.reduceEq, Int.reduceToNat, Int.reduceAdd, Int.reduceSub, Int.reduceNeg, List.reduceReplicate, Nat.reducePow, Int.reduceMul]
  refine srow_K (y := 1) ok1 hw2 (by omega) fun T5 q hq hA k5 => ?_
  have c4 : (s1.cols : Int) = 4 := by omega
  simp -implicitDefEqProofs -dsimp only [tb_at, o1, o2, o3, ceRows_len, eq_true c4, vcS, ↓vcP1, ↓vcP2, ↓reduceIte, reduceCtorEq, Nat.reduceLT, Nat.reduceLeDiff, Nat.reduceEqDiff, Nat.reduceAdd, Nat.reduceSub, Nat.reduceMul, Int.reduceLT, Int.reduceLE, Int.reduceEq, Int.reduceToNat, Int.reduceAdd, Int.reduceSub, Int.reduceNeg, List.reduceReplicate, Nat.reducePow, Int.reduceMul]
  have q1 : Keep T T1 [] := by first | exact k1 | exact (Keep.app T _ []).new k1 (by simp)
  have q2 : Keep T T2 [] := by first | exact q1.new k2 (by simp) | exact (q1.newApp _).new k2 (by simp)
  have q3 : Keep T T3 [] := by first | exact q2.new k3 (by simp) | exact (q2.newApp _).new k3 (by simp) | exact ((q2.newApp _).put (Dd.ge (by have := q2.1; omega)) _).new k3 (by simp)
  have q4 : Keep T T4 [] := by first | exact q3.new k4 (by simp) | exact (q3.newApp _).new k4 (by simp)
  have q5 : Keep T T5 [] := by first | exact q4.new k5 (by simp) | exact (q4.newApp _).new k5 (by simp)
  exact ⟨q5.1, h _ q5⟩
theorem ScVal.lit {s : Sc} {p : Pa} {v : DV} (h : ScVal s p v) : ∃ z2 z3 k1 k2 k3 m pr d1 d2 d3, v = .agg [.int .i64 s.rows, .int .i64 s.cols, .sl 3 (ceRows s.cells) k1, .int .i64 s.y, .int .i64 s.x, .bool s.wrap, .int .u16 s.attr, .int .i64 s.top, .int .i64 s.bot, .sl z2 (boRows s.tabs) k2, .int .i64 s.sy, .int .i64 s.sx, .int .u16 s.sattr, .bool s.auto, .bool s.shown, .bool s.alt, .sl z3 (ceRows s.other) k3, .int .i64 s.oy, .int .i64 s.ox, .int .i64 m, .int .u8 pr, d1, d2, d3] ∧
    (DV.one d1 = true ∧ DV.one d2 = true ∧ DV.one d3 = true) ∧ (∀ q sz rows, DV.frz0 q sz rows d1 = d1) ∧ (∀ q sz rows, DV.frz0 q sz rows d2 = d2) ∧ (∀ q sz rows, DV.frz0 q sz rows d3 = d3) := by
  obtain ⟨z1, z2, z3, j1, j2, j3, m, pr, d1, d2, d3, sv, rfl⟩ := h
  have o1 : DV.one d1 = true := by obtain ⟨a, b, e, _⟩ := isInts_inv sv.pa.i1; rw [e]; rfl
  have o2 : DV.one d2 = true := by obtain ⟨a, b, e, _⟩ := isInts_inv sv.pa.i2; rw [e]; rfl
  have o3 : DV.one d3 = true := by obtain ⟨a, b, e, _⟩ := isInts_inv sv.pa.i3; rw [e]; rfl
  have z := sv.z1
  subst z
  exact ⟨z2, z3, j1, j2, j3, m, pr, d1, d2, d3, rfl, ⟨o1, o2, o3⟩, fun q sz rows => fzInts sv.pa.i1, fun q sz rows => fzInts sv.pa.i2, fun q sz rows => fzInts sv.pa.i3⟩
theorem inK_b {l : List Int} (hl : l.length ≤ 1000) (h : ∀ c ∈ l, 0 ≤ c ∧ c ≤ 255) : inK .u8 l := ⟨by omega, fun c hc => by have := h c hc; have := u8mm; omega⟩
theorem vs_esc : vstepF (pa0 0) 27 = (pa0 1, []) := by kernel_rfl
theorem vs_csi : vstepF (pa0 1) 91 = (pa0 4, []) := by kernel_rfl
theorem vs_dig : ∀ n : Nat, n < 10 → vstepF (pa0 4) (48 + (n : Int)) = (⟨4, 0, [(n : Int)], [], []⟩, [])
  | 0, _ => by kernel_rfl
  | 1, _ => by kernel_rfl
  | 2, _ => by kernel_rfl
  | 3, _ => by kernel_rfl
  | 4, _ => by kernel_rfl
  | 5, _ => by kernel_rfl
  | 6, _ => by kernel_rfl
  | 7, _ => by kernel_rfl
  | 8, _ => by kernel_rfl
  | 9, _ => by kernel_rfl
  | n + 10, h => by omega
theorem vs_end (m b : Int) (hb : 64 ≤ b ∧ b ≤ 126) : vstepF ⟨4, 0, [m], [], []⟩ b = (pa0 0, [⟨3, 0, b, 0, some [m], some []⟩]) := by
  have hv : vint b = false := by unfold vint; simp; omega
  unfold vstepF vcut
  simp only [show ¬ ((4 : Int) = 0) by decide, decide_false, Bool.false_and, Bool.false_eq_true, if_false]
  unfold vtakeF
  dsimp only
  rw [if_neg (by omega), if_neg (by omega), if_neg (by omega), if_neg (by omega), if_neg (by omega), if_neg (by decide), if_neg (by omega), if_neg (by decide), if_neg (by decide), if_neg (by decide), if_pos rfl]
  unfold vcsiF
  rw [hv]
  dsimp only
  rw [if_neg (by decide), if_pos hb.1]
  rfl
theorem feed_csi1 (s : Sc) {n : Nat} {b : Int} (hn : n < 10) (hb : 64 ≤ b ∧ b ≤ 126) : [27, 91, 48 + (n : Int), b].foldl feedF (s, pa0 0) = (csiF s b [(n : Int)], pa0 0) := by
  simp only [List.foldl_cons, List.foldl_nil]
  unfold feedF
  simp only [vs_esc, List.foldl_nil, vs_csi, vs_dig n hn, vs_end _ _ hb, List.foldl_cons, actF, osL]
  rfl
theorem csiF_65 {s : Sc} (h : ScOk s) {n : Nat} {z : Int} (hz : z = max (n : Int) 1) : ((csiF s 65 [(n : Int)]).y : Int) = max ((s.y : Int) - z) 0 ∧ (csiF s 65 [(n : Int)]).x = s.x ∧ (csiF s 65 [(n : Int)]).rows = s.rows ∧ (csiF s 65 [(n : Int)]).cols = s.cols := by
  have h1 := h.y
  have h2 := h.x
  have e : csiF s 65 [(n : Int)] = toF s (s.y - max (n : Int) 1) s.x := rfl
  rw [e, ← hz]
  refine ⟨?_, ?_, rfl, rfl⟩ <;> (unfold toF; dsimp only; omega)
theorem csiF_66 {s : Sc} (h : ScOk s) {n : Nat} {z : Int} (hz : z = max (n : Int) 1) : ((csiF s 66 [(n : Int)]).y : Int) = min ((s.y : Int) + z) ((s.rows : Int) - 1) ∧ (csiF s 66 [(n : Int)]).x = s.x ∧ (csiF s 66 [(n : Int)]).rows = s.rows ∧ (csiF s 66 [(n : Int)]).cols = s.cols := by
  have h1 := h.y
  have h2 := h.x
  have e : csiF s 66 [(n : Int)] = toF s (s.y + max (n : Int) 1) s.x := rfl
  rw [e, ← hz]
  refine ⟨?_, ?_, rfl, rfl⟩ <;> (unfold toF; dsimp only; omega)
theorem csiF_67 {s : Sc} (h : ScOk s) {n : Nat} {z : Int} (hz : z = max (n : Int) 1) : ((csiF s 67 [(n : Int)]).x : Int) = min ((s.x : Int) + z) ((s.cols : Int) - 1) ∧ (csiF s 67 [(n : Int)]).y = s.y ∧ (csiF s 67 [(n : Int)]).rows = s.rows ∧ (csiF s 67 [(n : Int)]).cols = s.cols := by
  have h1 := h.y
  have h2 := h.x
  have e : csiF s 67 [(n : Int)] = toF s s.y (s.x + max (n : Int) 1) := rfl
  rw [e, ← hz]
  refine ⟨?_, ?_, rfl, rfl⟩ <;> (unfold toF; dsimp only; omega)
theorem csiF_68 {s : Sc} (h : ScOk s) {n : Nat} {z : Int} (hz : z = max (n : Int) 1) : ((csiF s 68 [(n : Int)]).x : Int) = max ((s.x : Int) - z) 0 ∧ (csiF s 68 [(n : Int)]).y = s.y ∧ (csiF s 68 [(n : Int)]).rows = s.rows ∧ (csiF s 68 [(n : Int)]).cols = s.cols := by
  have h1 := h.y
  have h2 := h.x
  have e : csiF s 68 [(n : Int)] = toF s s.y (s.x - max (n : Int) 1) := rfl
  rw [e, ← hz]
  refine ⟨?_, ?_, rfl, rfl⟩ <;> (unfold toF; dsimp only; omega)
noncomputable def rc_moves_l0 : RC := (.seq (.seq (.reg [⟨some 30, .mov (.t 12), none, false⟩, ⟨some 31, .mov (.t 2), none, false⟩, ⟨some 32, .len (.t 31), none, false⟩, ⟨some 33, .bin .lss (.t 30) (.t 32), none, false⟩] 0 [2, 7, 8, 9, 10, 11, 12, 33]) (.cond (.t 33) .skip (.ext 0))) (.seq (.blk 1 (.seq (.reg [⟨some 36, .mov (.t 2), none, false⟩, ⟨some 37, .mov (.t 12), none, false⟩, ⟨some 38, .iaddr 1 (.t 36) (.t 37), none, false⟩, ⟨some 39, .load false 1 (.t 38), none, false⟩, ⟨some 40, .bin .quo (.t 39) (.c (.int .u8 4)), none, false⟩, ⟨some 41, .bin .rem (.t 40) (.c (.int .u8 10)), none, false⟩, ⟨some 42, .conv (.i2i .i64) (.t 41), none, false⟩, ⟨some 13, .mov (.t 42), none, false⟩] 0 [2, 7, 8, 9, 10, 11, 12, 13]) (.seq (.regD (.take ⟨some 44, .mov (.t 13), none, false⟩ [] (.take ⟨some 45, .bin .add (.c (.int .i64 48)) (.t 44), none, false⟩ [] (.take ⟨some 46, .conv (.i2i .u8) (.t 45), none, false⟩ [] (.take ⟨some 47, .mov (.t 2), none, false⟩ [] (.take ⟨some 48, .mov (.t 12), none, false⟩ [] (.take ⟨some 49, .iaddr 1 (.t 47) (.t 48), none, false⟩ [] (.take ⟨some 50, .load false 1 (.t 49), none, false⟩ [] (.take ⟨some 51, .bin .rem (.t 50) (.c (.int .u8 4)), none, false⟩ [] (.take ⟨some 52, .idxS (.c (.str [(65), (66), (67), (68)])) (.t 51), none, false⟩ [] (.alt (.op ⟨some 43, .load true 24 (.t 9), none, false⟩ (.op ⟨some 53, .mkrow 1 [.int .u8 0] 4 [(0, (.c (.int .u8 27))), (1, (.c (.int .u8 91))), (2, (.t 46)), (3, (.t 52))], none, true⟩ (.mid ⟨some 54, .call 9 [.t 43, .t 53], none, false⟩ (.op ⟨none, .store 24 (.t 9) (.t 54), none, false⟩ .done)))) (.op ⟨some 53, .mkrow 1 [.int .u8 0] 4 [(0, (.c (.int .u8 27))), (1, (.c (.int .u8 91))), (2, (.t 46)), (3, (.t 52))], none, true⟩ (.take ⟨some 43, .load true 24 (.t 9), none, false⟩ [] (.mid ⟨some 54, .call 9 [.t 43, .t 53], none, false⟩ (.op ⟨none, .store 24 (.t 9) (.t 54), none, false⟩ .done)))))))))))))) 0 [2, 7, 8, 9, 10, 11, 12, 13]) (.seq (.reg [⟨some 55, .mov (.t 13), none, false⟩, ⟨some 56, .mm true (.t 55) (.c (.int .i64 1)), none, false⟩, ⟨some 13, .mov (.t 56), none, false⟩] 0 [2, 7, 8, 9, 10, 11, 12, 13]) (.seq (.seq (.reg [⟨some 57, .mov (.t 2), none, false⟩, ⟨some 58, .mov (.t 12), none, false⟩, ⟨some 59, .iaddr 1 (.t 57) (.t 58), none, false⟩, ⟨some 60, .load false 1 (.t 59), none, false⟩, ⟨some 61, .bin .rem (.t 60) (.c (.int .u8 4)), none, false⟩] 0 [2, 7, 8, 9, 10, 11, 12, 13, 61]) (.blk 2 (.seq (.reg [⟨some 67, .bin .eql (.t 61) (.c (.int .u8 0)), none, false⟩, ⟨some 66, .mov (.t 67), none, false⟩] 0 [2, 7, 8, 9, 10, 11, 12, 13, 61, 66]) (.cond (.t 66) (.reg [⟨some 68, .mov (.t 10), none, false⟩, ⟨some 69, .mov (.t 13), none, false⟩, ⟨some 70, .bin .sub (.t 68) (.t 69), none, false⟩, ⟨some 71, .mm true (.t 70) (.c (.int .i64 0)), none, false⟩, ⟨some 10, .mov (.t 71), none, false⟩] 0 [2, 7, 8, 9, 10, 11, 12]) (.seq (.reg [⟨some 73, .bin .eql (.t 61) (.c (.int .u8 1)), none, false⟩, ⟨some 72, .mov (.t 73), none, false⟩] 0 [2, 7, 8, 9, 10, 11, 12, 13, 61, 72]) (.cond (.t 72) (.reg [⟨some 74, .mov (.t 10), none, false⟩, ⟨some 75, .mov (.t 13), none, false⟩, ⟨some 76, .bin .add (.t 74) (.t 75), none, false⟩, ⟨some 77, .mov (.t 7), none, false⟩, ⟨some 78, .bin .sub (.t 77) (.c (.int .i64 1)), none, false⟩, ⟨some 79, .mm false (.t 76) (.t 78), none, false⟩, ⟨some 10, .mov (.t 79), none, false⟩] 0 [2, 7, 8, 9, 10, 11, 12]) (.seq (.reg [⟨some 81, .bin .eql (.t 61) (.c (.int .u8 2)), none, false⟩, ⟨some 80, .mov (.t 81), none, false⟩] 0 [2, 7, 8, 9, 10, 11, 12, 13, 80]) (.cond (.t 80) (.reg [⟨some 82, .mov (.t 11), none, false⟩, ⟨some 83, .mov (.t 13), none, false⟩, ⟨some 84, .bin .add (.t 82) (.t 83), none, false⟩, ⟨some 85, .mov (.t 8), none, false⟩, ⟨some 86, .bin .sub (.t 85) (.c (.int .i64 1)), none, false⟩, ⟨some 87, .mm false (.t 84) (.t 86), none, false⟩, ⟨some 11, .mov (.t 87), none, false⟩] 0 [2, 7, 8, 9, 10, 11, 12]) (.reg [⟨some 62, .mov (.t 11), none, false⟩, ⟨some 63, .mov (.t 13), none, false⟩, ⟨some 64, .bin .sub (.t 62) (.t 63), none, false⟩, ⟨some 65, .mm true (.t 64) (.c (.int .i64 0)), none, false⟩, ⟨some 11, .mov (.t 65), none, false⟩] 0 [2, 7, 8, 9, 10, 11, 12]))))))))) (.seq (.reg [⟨some 88, .faddr 3 (.t 9), none, false⟩, ⟨some 89, .load false 1 (.t 88), none, false⟩, ⟨some 90, .mov (.t 10), none, false⟩, ⟨some 91, .bin .neq (.t 89) (.t 90), none, false⟩, ⟨some 92, .mov (.t 91), none, false⟩, ⟨some 93, .faddr 4 (.t 9), some (92, false), false⟩, ⟨some 94, .load false 1 (.t 93), some (92, false), false⟩, ⟨some 95, .mov (.t 11), some (92, false), false⟩, ⟨some 96, .bin .neq (.t 94) (.t 95), some (92, false), false⟩, ⟨some 97, .pick (.t 92) (.c (.bool true)) (.t 96), none, false⟩] 0 [2, 7, 8, 9, 10, 11, 12, 97]) (.cond (.t 97) (.seq (.reg [⟨some 6, .mov (.c (.bool false)), none, false⟩] 0 [6]) .ret) .skip))))))) (.reg [⟨some 34, .mov (.t 12), none, false⟩, ⟨some 35, .bin .add (.t 34) (.c (.int .i64 1)), none, false⟩, ⟨some 12, .mov (.t 35), none, false⟩] 0 [2, 7, 8, 9, 10, 11, 12])))
noncomputable def rc_moves : RFn := ⟨3, 105, .seq (.reg [⟨some 6, .mov (.c (.bool false)), none, false⟩] 0 [0, 1, 2]) (.seq (.seq (.reg [⟨some 14, .call 7 [], none, false⟩, ⟨some 15, .un .not (.t 14), none, false⟩] 0 [0, 1, 2, 15]) (.cond (.t 15) (.seq (.reg [⟨some 6, .mov (.c (.bool false)), none, false⟩] 0 [6]) .ret) .skip)) (.seq (.seq (.reg [⟨some 16, .mov (.t 2), none, false⟩, ⟨some 17, .len (.t 16), none, false⟩, ⟨some 18, .bin .gtr (.t 17) (.c (.int .i64 40)), none, false⟩] 0 [0, 1, 2, 18]) (.cond (.t 18) (.seq (.reg [⟨some 6, .mov (.c (.bool true)), none, false⟩] 0 [6]) .ret) .skip)) (.seq (.reg [⟨some 19, .mov (.t 0), none, false⟩, ⟨some 20, .bin .rem (.t 19) (.c (.int .u8 6)), none, false⟩, ⟨some 21, .conv (.i2i .i64) (.t 20), none, false⟩, ⟨some 22, .bin .add (.t 21) (.c (.int .i64 1)), none, false⟩, ⟨some 23, .mov (.t 1), none, false⟩, ⟨some 24, .bin .rem (.t 23) (.c (.int .u8 9)), none, false⟩, ⟨some 25, .conv (.i2i .i64) (.t 24), none, false⟩, ⟨some 26, .bin .add (.t 25) (.c (.int .i64 1)), none, false⟩, ⟨some 7, .mov (.t 22), none, false⟩, ⟨some 8, .mov (.t 26), none, false⟩] 0 [2, 7, 8]) (.seq (.reg [⟨some 27, .mov (.t 7), none, false⟩, ⟨some 28, .mov (.t 8), none, false⟩, ⟨some 29, .call 8 [.t 27, .t 28], none, false⟩, ⟨some 9, .alloc [.int .i64 0, .int .i64 0, .sl 0 [] .nil, .int .i64 0, .int .i64 0, .bool false, .int .u16 0, .int .i64 0, .int .i64 0, .sl 0 [] .nil, .int .i64 0, .int .i64 0, .int .u16 0, .bool false, .bool false, .bool false, .sl 0 [] .nil, .int .i64 0, .int .i64 0, .int .i64 0, .int .u8 0, .sl 0 [] .nil, .sl 0 [] .nil, .sl 0 [] .nil], none, false⟩, ⟨none, .store 24 (.t 9) (.t 29), none, false⟩] 0 [2, 7, 8, 9]) (.seq (.reg [⟨some 10, .mov (.c (.int .i64 0)), none, false⟩, ⟨some 11, .mov (.c (.int .i64 0)), none, false⟩] 0 [2, 7, 8, 9, 10, 11]) (.seq (.seq (.reg [⟨some 12, .mov (.c (.int .i64 0)), none, false⟩] 0 [2, 7, 8, 9, 10, 11, 12]) (.blk 0 (.loop rc_moves_l0))) (.seq (.reg [⟨some 98, .faddr 2 (.t 9), none, false⟩, ⟨some 99, .load false 1 (.t 98), none, false⟩, ⟨some 100, .len (.t 99), none, false⟩, ⟨some 101, .mov (.t 7), none, false⟩, ⟨some 102, .mov (.t 8), none, false⟩, ⟨some 103, .bin .mul (.t 101) (.t 102), none, false⟩, ⟨some 104, .bin .eql (.t 100) (.t 103), none, false⟩, ⟨some 6, .mov (.t 104), none, false⟩] 0 [6]) .ret))))))), [.t 6]⟩
theorem rc_moves_ok : compFn PG.P [⟨0, 0, [0, 1, 2], []⟩, ⟨1, 0, [0, 1, 2, 15], []⟩, ⟨2, 0, [6], []⟩, ⟨3, 0, [0, 1, 2, 18], []⟩, ⟨4, 0, [6], []⟩, ⟨5, 0, [2, 7, 8], []⟩, ⟨6, 0, [2, 7, 8, 9], []⟩, ⟨7, 0, [2, 7, 8, 9, 10, 11], []⟩, ⟨8, 0, [2, 7, 8, 9, 10, 11, 12], []⟩, ⟨9, 0, [2, 7, 8, 9, 10, 11, 12, 33], []⟩, ⟨10, 0, [2, 7, 8, 9, 10, 11, 12], []⟩, ⟨11, 0, [2, 7, 8, 9, 10, 11, 12, 13], []⟩, ⟨12, 0, [2, 7, 8, 9, 10, 11, 12, 13], [53]⟩, ⟨13, 0, [2, 7, 8, 9, 10, 11, 12, 13], []⟩, ⟨14, 0, [2, 7, 8, 9, 10, 11, 12, 13, 61], []⟩, ⟨15, 0, [2, 7, 8, 9, 10, 11, 12], []⟩, ⟨16, 0, [2, 7, 8, 9, 10, 11, 12, 13, 61, 66], []⟩, ⟨17, 0, [2, 7, 8, 9, 10, 11, 12], []⟩, ⟨18, 0, [2, 7, 8, 9, 10, 11, 12, 13, 61, 72], []⟩, ⟨19, 0, [2, 7, 8, 9, 10, 11, 12], []⟩, ⟨20, 0, [2, 7, 8, 9, 10, 11, 12, 13, 80], []⟩, ⟨21, 0, [2, 7, 8, 9, 10, 11, 12], []⟩, ⟨22, 0, [2, 7, 8, 9, 10, 11, 12, 97], []⟩, ⟨23, 0, [6], []⟩, ⟨24, 0, [6], []⟩] 5 = some rc_moves := by kernel_rfl
theorem moves_K {T : Objs} {r c : Int} {l : List Int} {sz : Nat} {sk : SK} {K : DV → Objs → Prop} (hr : 0 ≤ r ∧ r ≤ 255) (hc : 0 ≤ c ∧ c ≤ 255) (hs : sz = 1 ∨ l = []) (hl : ∀ e ∈ l, 0 ≤ e ∧ e ≤ 255) (h : ∀ T', Keep T T' [] → K (.bool true) T') : CallK PG 5 [.int .u8 r, .int .u8 c, .sl sz (intRows .u8 l) sk] T K := by
  obtain ⟨a, ha⟩ : ∃ a : Nat, r.tmod 6 + 1 = a := ⟨(r.tmod 6 + 1).toNat, by have := Int.tmod_nonneg 6 hr.1; omega⟩
  obtain ⟨b, hb⟩ : ∃ b : Nat, c.tmod 9 + 1 = b := ⟨(c.tmod 9 + 1).toNat, by have := Int.tmod_nonneg 9 hc.1; omega⟩
  have a7 : 1 ≤ a ∧ a < 7 := by rw [Int.tmod_eq_emod_of_nonneg hr.1] at ha; omega
  have b7 : 1 ≤ b ∧ b < 10 := by rw [Int.tmod_eq_emod_of_nonneg hc.1] at hb; omega
  have e1 : IntKind.i64.wrap (r.tmod 6) + 1 = a := by rw [wI64 (by omega) (by omega)]; exact ha
  have e2 : IntKind.i64.wrap (c.tmod 9) + 1 = b := by rw [wI64 (by omega) (by omega)]; exact hb
  have w1 : IntKind.i64.wrap (a : Int) = a := wI64 (by omega) (by omega)
  have w2 : IntKind.i64.wrap (b : Int) = b := wI64 (by omega) (by omega)
  have hlr : (intRows .u8 l).length = l.length := by simp [intRows]
  refine CallK.of_fn FOk.nil rc_moves_ok (by simp [rc_moves]) ?_
  unfold rc_moves
  dsimp only
  simp -implicitDefEqProofs -dsimp only [tb_at, vcS, ↓vcP1, ↓vcP2, ↓reduceIte, reduceCtorEq, Nat.reduceLT, Nat.reduceLeDiff, Nat.reduceEqDiff, Nat.reduceAdd, Nat.reduceSub, Nat.reduceMul, Int.reduceLT, Int.reduceLE, Int.reduceEq, Int.reduceToNat, Int.reduceAdd, Int.reduceSub, Int.reduceNeg, List.reduceReplicate, Nat.reducePow, Int.reduceMul]
  refine known9_K fun T1 k1 => ?_
  simp -implicitDefEqProofs -dsimp only [tb_at, hlr, vcS, ↓vcP1, ↓vcP2, ↓reduceIte, reduceCtorEq, Nat.reduceLT, Nat.reduceLeDiff, Nat.reduceEqDiff, Nat.reduceAdd, Nat.reduceSub, Nat.reduceMul, Int.reduceLT, Int.reduceLE, Int.reduceEq, Int.reduceToNat, Int.reduceAdd, Int.reduceSub, Int.reduceNeg, List.reduceReplicate, Nat.reducePow, Int.reduceMul]
  refine ⟨fun _ => ⟨k1.1, h _ k1⟩, fun h40 => ?_⟩
  simp -implicitDefEqProofs -dsimp only [tb_at, hlr, e1, e2, w1, w2, vcS, ↓vcP1, ↓vcP2, ↓reduceIte, reduceCtorEq, Nat.reduceLT, Nat.reduceLeDiff, Nat.reduceEqDiff, Nat.reduceAdd, Nat.reduceSub, Nat.reduceMul, Int.reduceLT, Int.reduceLE, Int.reduceEq, Int.reduceToNat, Int.reduceAdd, Int.reduceSub, Int.reduceNeg, List.reduceReplicate, Nat.reducePow, Int.reduceMul]
  refine fresh_K (r := a) (c := b) (by omega) (by omega) fun T2 v2 k2 h2 => ?_
  obtain ⟨z2, z3, j1, j2, j3, m2, pr2, d1, d2, d3, rfl, ⟨o1, o2, o3⟩, f1, f2, f3⟩ := h2.lit
  have K2 : Keep T T2 [] := k1.new k2 (by simp)
  have L2 := K2.1
  have hok0 : ScOk (newF a b) := newF_ok (by omega) (by omega)
  have y0 : (newF a b).y = 0 := rfl
  have x0 : (newF a b).x = 0 := rfl
  have r0 : (newF a b).rows = a := rfl
  have c0 : (newF a b).cols = b := rfl
  generalize newF a b = s0 at *
  simp -implicitDefEqProofs -dsimp only [tb_at, o1, o2, o3, hlr, vcS, ↓vcP1, ↓vcP2, ↓reduceIte, reduceCtorEq, Nat.reduceLT, Nat.reduceLeDiff, Nat.reduceEqDiff, Nat.reduceAdd, Nat.reduceSub, Nat.reduceMul, Int.reduceLT, Int.reduceLE, Int.reduceEq, Int.reduceToNat, Int.reduceAdd, Int.reduceSub, Int.reduceNeg, List.reduceReplicate, Nat.reducePow, Int.reduceMul]
  refine LoopWp.inv FOk.nil (S := fun σ : Nat × Objs × Nat × Nat => ⟨[(2, .sl sz (intRows .u8 l) sk), (7, .int .i64 a), (8, .int .i64 b), (9, .ptr T2.length 0 0), (10, .int .i64 σ.2.2.1), (11, .int .i64 σ.2.2.2), (12, .int .i64 σ.1)], σ.2.1⟩)
    (I := fun σ => σ.1 ≤ l.length ∧ Keep T σ.2.1 [] ∧ ∃ s cs, σ.2.1[T2.length]? = some (some (.box cs)) ∧ ScVal s (pa0 0) (.agg cs) ∧ ScOk s ∧ s.rows = a ∧ s.cols = b ∧ s.y = σ.2.2.1 ∧ s.x = σ.2.2.2) (μ := fun σ => l.length - σ.1) (0, _, 0, 0) ⟨by simp, K2.newApp _, s0, _, tb_get0 T2 [] _, h2, hok0, r0, c0, y0, x0⟩ ?_ ?_
  · simp -implicitDefEqProofs -dsimp only [wkT_self, e1, e2, w1, w2, objsWk_refl, vcS, ↓vcP1, ↓vcP2, ↓reduceIte, reduceCtorEq, Nat.reduceLT, Nat.reduceLeDiff, Nat.reduceEqDiff, Nat.reduceAdd, Nat.reduceSub, Nat.reduceMul, Int.reduceLT, Int.reduceLE, Int.reduceEq, Int.reduceToNat, Int.reduceAdd, Int.reduceSub, Int.reduceNeg, List.reduceReplicate, Nat.reducePow, Int.reduceMul]
  · intro ⟨i, A, y, x⟩ ⟨n1, n2, s, cs, n3, n4, n5, n6, n7, n8, n9⟩
    dsimp only at n1 n2 n3 n4 n5 n6 n7 n8 n9 ⊢
    subst n8 n9
    have n4' := n4
    obtain ⟨y2, y3, i1, i2, i3, m6, pr6, u1, u2, u3, ecs, ⟨x1, x2, x3⟩, g1', g2', g3'⟩ := n4.lit
    obtain rfl := DV.agg.inj ecs
    have w6 : IntKind.i64.wrap ((i : Int) + 1) = ((i + 1 : Nat) : Int) := by rw [wI64 (by omega) (by omega)]; omega
    unfold rc_moves_l0
    rcases Nat.lt_or_ge i l.length with hlt | hge
    · have hii : (i : Int) < l.length := by omega
      have i0 : (0 : Int) ≤ i := by omega
      have hsz : sz = 1 := by rcases hs with h | h; exact h; subst h; simp at hlt
      subst hsz
      have hg : (intRows .u8 l)[i]? = some [.int .u8 (l.getD i 0)] := by simp [intRows, hlt]
      have he := hl (l.getD i 0) (by simp [List.getD_eq_getElem?_getD, hlt])
      generalize l.getD i 0 = e at *
      obtain ⟨n, hn⟩ : ∃ n : Nat, (e.tdiv 4).tmod 10 = n := ⟨((e.tdiv 4).tmod 10).toNat, by have := Int.tmod_nonneg 10 (Int.tdiv_nonneg he.1 (show (0 : Int) ≤ 4 by decide)); omega⟩
      have hd : e.tdiv 4 = e / 4 := Int.tdiv_eq_ediv_of_nonneg he.1
      have hn10 : n < 10 := by rw [hd, Int.tmod_eq_emod_of_nonneg (by omega)] at hn; omega
      have wd : IntKind.u8.wrap (e.tdiv 4) = e.tdiv 4 := by rw [hd]; exact wU8 (by omega) (by omega)
      have wn : IntKind.i64.wrap (n : Int) = n := wI64 (by omega) (by omega)
      have wn2 : IntKind.i64.wrap (48 + (n : Int)) = 48 + (n : Int) := wI64 (by omega) (by omega)
      have wn3 : IntKind.u8.wrap (48 + (n : Int)) = 48 + (n : Int) := wU8 (by omega) (by omega)
      have hm4 : e.tmod 4 = e % 4 := Int.tmod_eq_emod_of_nonneg he.1
      obtain ⟨z, hz⟩ : ∃ z : Int, max (n : Int) 1 = z := ⟨_, rfl⟩
      have z10 : 1 ≤ z ∧ z < 10 := by omega
      have yy := n5.y
      have xx := n5.x
      have wa1 : IntKind.i64.wrap ((a : Int) - 1) = (a : Int) - 1 := wI64 (by omega) (by omega)
      have wb1 : IntKind.i64.wrap ((b : Int) - 1) = (b : Int) - 1 := wI64 (by omega) (by omega)
      have wz1 : IntKind.i64.wrap ((s.y : Int) - z) = (s.y : Int) - z := wI64 (by omega) (by omega)
      have wz2 : IntKind.i64.wrap ((s.y : Int) + z) = (s.y : Int) + z := wI64 (by omega) (by omega)
      have wz3 : IntKind.i64.wrap ((s.x : Int) + z) = (s.x : Int) + z := wI64 (by omega) (by omega)
      have wz4 : IntKind.i64.wrap ((s.x : Int) - z) = (s.x : Int) - z := wI64 (by omega) (by omega)
      rcases (show e % 4 = 0 ∨ e % 4 = 1 ∨ e % 4 = 2 ∨ e % 4 = 3 by omega) with he4 | he4 | he4 | he4
      · rw [he4] at hm4
        simp -implicitDefEqProofs -dsimp only [tb_at, tb_all n3, hii, i0, hg, hlr, x1, x2, x3, g1', g2', g3', wd, hn, wn, wn2, wn3, hm4, Nat.zero_add, vcS, ↓vcP1, ↓vcP2, ↓reduceIte, reduceCtorEq, Nat.reduceLT, Nat.reduceLeDiff, Nat.reduceEqDiff, Nat.reduceAdd, Nat.reduceSub, Nat.reduceMul, Int.reduceLT, Int.reduceLE, Int.reduceEq, Int.reduceToNat, Int.reduceAdd, Int.reduceSub, Int.reduceNeg, List.reduceReplicate, Nat.reducePow, Int.reduceMul]
        refine sfeed_K (l := [27, 91, 48 + (n : Int), 65]) n5 (paOk_pa0 0) n4' (.inl rfl) (inK_b (by simp) (by intro x hx; simp at hx; omega)) (by simp) fun T6 v6 k6 h6 => ?_
        change ScVal (List.foldl feedF (s, pa0 0) [27, 91, 48 + (n : Int), 65]).1 (List.foldl feedF (s, pa0 0) [27, 91, 48 + (n : Int), 65]).2 v6 at h6
        rw [feed_csi1 s hn10 (by decide)] at h6
        dsimp only at h6
        obtain ⟨q1, q2, q3, q4⟩ := csiF_65 n5 hz.symm
        have ok6 := csiF_ok n5 65 [(n : Int)]
        generalize csiF s 65 [(n : Int)] = s6 at *
        have q1' : max ((s.y : Int) - z) 0 = (s6.y : Int) := by omega
        have q2' : (s.x : Int) = (s6.x : Int) := by omega
        obtain ⟨y2, y3, i1, i2, i3, m7, pr7, v1, v2, v3, rfl, ⟨x1, x2, x3⟩, _⟩ := h6.lit
        have hb6 := k6.at (tb_f n3 _) (by simp)
        simp -implicitDefEqProofs -dsimp only [tb_at, tb_all hb6, hii, i0, hg, hlr, x1, x2, x3, hz, hm4, w6, wa1, wb1, wz1, wz2, wz3, wz4, q1', q2', wkT_self, vcS, ↓vcP1, ↓vcP2, ↓reduceIte, reduceCtorEq, Nat.reduceLT, Nat.reduceLeDiff, Nat.reduceEqDiff, Nat.reduceAdd, Nat.reduceSub, Nat.reduceMul, Int.reduceLT, Int.reduceLE, Int.reduceEq, Int.reduceToNat, Int.reduceAdd, Int.reduceSub, Int.reduceNeg, List.reduceReplicate, Nat.reducePow, Int.reduceMul]
        exact ⟨(i + 1, _, s6.y, s6.x), ⟨⟨rfl, rfl, rfl⟩, objsWk_refl _⟩, ⟨hlt, ((n2.newApp _).new k6 (by simp)).put (Dd.ge L2) _, s6, _, tb_ss hb6 _, h6, ok6, by omega, by omega, rfl, rfl⟩, by dsimp only; omega⟩
      · rw [he4] at hm4
        simp -implicitDefEqProofs -dsimp only [tb_at, tb_all n3, hii, i0, hg, hlr, x1, x2, x3, g1', g2', g3', wd, hn, wn, wn2, wn3, hm4, Nat.zero_add, vcS, ↓vcP1, ↓vcP2, ↓reduceIte, reduceCtorEq, Nat.reduceLT, Nat.reduceLeDiff, Nat.reduceEqDiff, Nat.reduceAdd, Nat.reduceSub, Nat.reduceMul, Int.reduceLT, Int.reduceLE, Int.reduceEq, Int.reduceToNat, Int.reduceAdd, Int.reduceSub, Int.reduceNeg, List.reduceReplicate, Nat.reducePow, Int.reduceMul]
        refine sfeed_K (l := [27, 91, 48 + (n : Int), 66]) n5 (paOk_pa0 0) n4' (.inl rfl) (inK_b (by simp) (by intro x hx; simp at hx; omega)) (by simp) fun T6 v6 k6 h6 => ?_
        change ScVal (List.foldl feedF (s, pa0 0) [27, 91, 48 + (n : Int), 66]).1 (List.foldl feedF (s, pa0 0) [27, 91, 48 + (n : Int), 66]).2 v6 at h6
        rw [feed_csi1 s hn10 (by decide)] at h6
        dsimp only at h6
        obtain ⟨q1, q2, q3, q4⟩ := csiF_66 n5 hz.symm
        have ok6 := csiF_ok n5 66 [(n : Int)]
        generalize csiF s 66 [(n : Int)] = s6 at *
        have q1' : min ((s.y : Int) + z) ((a : Int) - 1) = (s6.y : Int) := by omega
        have q2' : (s.x : Int) = (s6.x : Int) := by omega
        obtain ⟨y2, y3, i1, i2, i3, m7, pr7, v1, v2, v3, rfl, ⟨x1, x2, x3⟩, _⟩ := h6.lit
        have hb6 := k6.at (tb_f n3 _) (by simp)
        simp -implicitDefEqProofs -dsimp only [tb_at, tb_all hb6, hii, i0, hg, hlr, x1, x2, x3, hz, hm4, w6, wa1, wb1, wz1, wz2, wz3, wz4, q1', q2', wkT_self, vcS, ↓vcP1, ↓vcP2, ↓reduceIte, reduceCtorEq, Nat.reduceLT, Nat.reduceLeDiff, Nat.reduceEqDiff, Nat.reduceAdd, Nat.reduceSub, Nat.reduceMul, Int.reduceLT, Int.reduceLE, Int.reduceEq, Int.reduceToNat, Int.reduceAdd, Int.reduceSub, Int.reduceNeg, List.reduceReplicate, Nat.reducePow, Int.reduceMul]
        exact ⟨(i + 1, _, s6.y, s6.x), ⟨⟨rfl, rfl, rfl⟩, objsWk_refl _⟩, ⟨hlt, ((n2.newApp _).new k6 (by simp)).put (Dd.ge L2) _, s6, _, tb_ss hb6 _, h6, ok6, by omega, by omega, rfl, rfl⟩, by dsimp only; omega⟩
      · rw [he4] at hm4
        simp -implicitDefEqProofs -dsimp only [tb_at, tb_all n3, hii, i0, hg, hlr, x1, x2, x3, g1', g2', g3', wd, hn, wn, wn2, wn3, hm4, Nat.zero_add, vcS, ↓vcP1, ↓vcP2, ↓reduceIte, reduceCtorEq, Nat.reduceLT, Nat.reduceLeDiff, Nat.reduceEqDiff, Nat.reduceAdd, Nat.reduceSub, Nat.reduceMul, Int.reduceLT, Int.reduceLE, Int.reduceEq, Int.reduceToNat, Int.reduceAdd, Int.reduceSub, Int.reduceNeg, List.reduceReplicate, Nat.reducePow, Int.reduceMul]
        refine sfeed_K (l := [27, 91, 48 + (n : Int), 67]) n5 (paOk_pa0 0) n4' (.inl rfl) (inK_b (by simp) (by intro x hx; simp at hx; omega)) (by simp) fun T6 v6 k6 h6 => ?_
        change ScVal (List.foldl feedF (s, pa0 0) [27, 91, 48 + (n : Int), 67]).1 (List.foldl feedF (s, pa0 0) [27, 91, 48 + (n : Int), 67]).2 v6 at h6
        rw [feed_csi1 s hn10 (by decide)] at h6
        dsimp only at h6
        obtain ⟨q1, q2, q3, q4⟩ := csiF_67 n5 hz.symm
        have ok6 := csiF_ok n5 67 [(n : Int)]
        generalize csiF s 67 [(n : Int)] = s6 at *
        have q1' : min ((s.x : Int) + z) ((b : Int) - 1) = (s6.x : Int) := by omega
        have q2' : (s.y : Int) = (s6.y : Int) := by omega
        obtain ⟨y2, y3, i1, i2, i3, m7, pr7, v1, v2, v3, rfl, ⟨x1, x2, x3⟩, _⟩ := h6.lit
        have hb6 := k6.at (tb_f n3 _) (by simp)
        simp -implicitDefEqProofs -dsimp only [tb_at, tb_all hb6, hii, i0, hg, hlr, x1, x2, x3, hz, hm4, w6, wa1, wb1, wz1, wz2, wz3, wz4, q1', q2', wkT_self, vcS, ↓vcP1, ↓vcP2, ↓reduceIte, reduceCtorEq, Nat.reduceLT, Nat.reduceLeDiff, Nat.reduceEqDiff, Nat.reduceAdd, Nat.reduceSub, Nat.reduceMul, Int.reduceLT, Int.reduceLE, Int.reduceEq, Int.reduceToNat, Int.reduceAdd, Int.reduceSub, Int.reduceNeg, List.reduceReplicate, Nat.reducePow, Int.reduceMul]
        exact ⟨(i + 1, _, s6.y, s6.x), ⟨⟨rfl, rfl, rfl⟩, objsWk_refl _⟩, ⟨hlt, ((n2.newApp _).new k6 (by simp)).put (Dd.ge L2) _, s6, _, tb_ss hb6 _, h6, ok6, by omega, by omega, rfl, rfl⟩, by dsimp only; omega⟩
      · rw [he4] at hm4
        simp -implicitDefEqProofs -dsimp only [tb_at, tb_all n3, hii, i0, hg, hlr, x1, x2, x3, g1', g2', g3', wd, hn, wn, wn2, wn3, hm4, Nat.zero_add, vcS, ↓vcP1, ↓vcP2, ↓reduceIte, reduceCtorEq, Nat.reduceLT, Nat.reduceLeDiff, Nat.reduceEqDiff, Nat.reduceAdd, Nat.reduceSub, Nat.reduceMul, Int.reduceLT, Int.reduceLE, Int.reduceEq, Int.reduceToNat, Int.reduceAdd, Int.reduceSub, Int.reduceNeg, List.reduceReplicate, Nat.reducePow, Int.reduceMul]
        refine sfeed_K (l := [27, 91, 48 + (n : Int), 68]) n5 (paOk_pa0 0) n4' (.inl rfl) (inK_b (by simp) (by intro x hx; simp at hx; omega)) (by simp) fun T6 v6 k6 h6 => ?_
        change ScVal (List.foldl feedF (s, pa0 0) [27, 91, 48 + (n : Int), 68]).1 (List.foldl feedF (s, pa0 0) [27, 91, 48 + (n : Int), 68]).2 v6 at h6
        rw [feed_csi1 s hn10 (by decide)] at h6
        dsimp only at h6
        obtain ⟨q1, q2, q3, q4⟩ := csiF_68 n5 hz.symm
        have ok6 := csiF_ok n5 68 [(n : Int)]
        generalize csiF s 68 [(n : Int)] = s6 at *
        have q1' : max ((s.x : Int) - z) 0 = (s6.x : Int) := by omega
        have q2' : (s.y : Int) = (s6.y : Int) := by omega
        obtain ⟨y2, y3, i1, i2, i3, m7, pr7, v1, v2, v3, rfl, ⟨x1, x2, x3⟩, _⟩ := h6.lit
        have hb6 := k6.at (tb_f n3 _) (by simp)
        simp -implicitDefEqProofs -dsimp only [tb_at, tb_all hb6, hii, i0, hg, hlr, x1, x2, x3, hz, hm4, w6, wa1, wb1, wz1, wz2, wz3, wz4, q1', q2', wkT_self, vcS, ↓vcP1, ↓vcP2, ↓reduceIte, reduceCtorEq, Nat.reduceLT, Nat.reduceLeDiff, Nat.reduceEqDiff, Nat.reduceAdd, Nat.reduceSub, Nat.reduceMul, Int.reduceLT, Int.reduceLE, Int.reduceEq, Int.reduceToNat, Int.reduceAdd, Int.reduceSub, Int.reduceNeg, List.reduceReplicate, Nat.reducePow, Int.reduceMul]
        exact ⟨(i + 1, _, s6.y, s6.x), ⟨⟨rfl, rfl, rfl⟩, objsWk_refl _⟩, ⟨hlt, ((n2.newApp _).new k6 (by simp)).put (Dd.ge L2) _, s6, _, tb_ss hb6 _, h6, ok6, by omega, by omega, rfl, rfl⟩, by dsimp only; omega⟩
    · have hii : ¬ (i : Int) < l.length := by omega
      have gl := n5.g.len
      have gl' : (s.cells.length : Int) = (a : Int) * b := by rw [gl, n6, n7]; push_cast; rfl
      have wab : IntKind.i64.wrap ((a : Int) * b) = (a : Int) * b := by
        have : (a : Int) * b = ((a * b : Nat) : Int) := by push_cast; rfl
        have h9 : a * b ≤ 6 * 9 := Nat.mul_le_mul (by omega) (by omega)
        rw [this]; exact wI64 (by omega) (by omega)
      simp -implicitDefEqProofs -dsimp only [tb_at, tb_all n3, hii, hlr, ceRows_len, wab, eq_true gl', wkT_self, vcS, ↓vcP1, ↓vcP2, ↓reduceIte, reduceCtorEq, Nat.reduceLT, Nat.reduceLeDiff, Nat.reduceEqDiff, Nat.reduceAdd, Nat.reduceSub, Nat.reduceMul, Int.reduceLT, Int.reduceLE, Int.reduceEq, Int.reduceToNat, Int.reduceAdd, Int.reduceSub, Int.reduceNeg, List.reduceReplicate, Nat.reducePow, Int.reduceMul]
      exact ⟨n2.1, h _ n2⟩
theorem screenMoves_true (dv : List DV) (h : ConfL [(false, [.int .u8]), (false, [.int .u8]), (false, [.sl [.int .u8]])] dv) {K : DV → Objs → Prop} (hK : ∀ T', K (.bool true) T') : CallK PG 5 dv [] K := by
  obtain ⟨a0, r0, rfl, h0, h⟩ := h.cons
  obtain ⟨a1, r1, rfl, h1, h⟩ := h.cons
  obtain ⟨a2, r2, rfl, h2, h⟩ := h.cons
  obtain rfl := h.nil
  obtain ⟨x, rfl, hx⟩ := confA_int h0
  obtain ⟨y, rfl, hy⟩ := confA_int h1
  obtain ⟨l, rfl, hl⟩ := confA_ints h2
  exact moves_K hx hy (.inl rfl) hl fun T' _ => hK T'
end Go.Proofs.YtjmnbpilnneonaaDoor
