/- Texts H5, H6 in one. -/
import Derived.Test.YtjmnbpilnneonaaDoorN3
set_option linter.unusedVariables false
set_option linter.unusedSimpArgs false
set_option maxRecDepth 10000
namespace Go.Proofs.YtjmnbpilnneonaaDoor
open Go.RowKit
noncomputable def rc_tprint_c57 : RC := (.seq (.regD (.take ⟨some 57, .mov (.t 0), none, false⟩ [] (.take ⟨some 58, .nilck (.t 57), none, false⟩ [] (.take ⟨some 59, .faddr 0 (.t 58), none, false⟩ [] (.take ⟨some 60, .faddr 2 (.t 59), none, false⟩ [] (.take ⟨some 61, .load false 1 (.t 60), none, false⟩ [] (.take ⟨some 62, .mov (.t 0), none, false⟩ [] (.take ⟨some 63, .nilck (.t 62), none, false⟩ [] (.take ⟨some 64, .faddr 0 (.t 63), none, false⟩ [] (.take ⟨some 65, .faddr 1 (.t 64), none, false⟩ [] (.take ⟨some 66, .load false 1 (.t 65), none, false⟩ [] (.take ⟨some 67, .mov (.t 0), none, false⟩ [] (.take ⟨some 68, .nilck (.t 67), none, false⟩ [] (.take ⟨some 69, .faddr 0 (.t 68), none, false⟩ [] (.take ⟨some 70, .faddr 3 (.t 69), none, false⟩ [] (.take ⟨some 71, .load false 1 (.t 70), none, false⟩ [] (.mid ⟨some 72, .call 24 [.t 61, .t 66, .t 71], none, false⟩ (.take ⟨some 5, .mov (.t 72), none, false⟩ [] .done))))))))))))))))) 0 [0, 1, 4, 5]) (.seq (.seq (.reg [⟨some 73, .mov (.t 0), none, false⟩, ⟨some 74, .nilck (.t 73), none, false⟩, ⟨some 75, .faddr 0 (.t 74), none, false⟩, ⟨some 76, .faddr 4 (.t 75), none, false⟩, ⟨some 77, .load false 1 (.t 76), none, false⟩, ⟨some 78, .bin .lss (.t 77) (.c (.int .i64 0)), none, false⟩, ⟨some 79, .mov (.t 78), none, false⟩, ⟨some 80, .mov (.t 0), some (79, false), false⟩, ⟨some 81, .nilck (.t 80), some (79, false), false⟩, ⟨some 82, .faddr 0 (.t 81), some (79, false), false⟩, ⟨some 83, .faddr 4 (.t 82), some (79, false), false⟩, ⟨some 84, .load false 1 (.t 83), some (79, false), false⟩, ⟨some 85, .mov (.t 4), some (79, false), false⟩, ⟨some 86, .bin .add (.t 84) (.t 85), some (79, false), false⟩, ⟨some 87, .mov (.t 5), some (79, false), false⟩, ⟨some 88, .len (.t 87), some (79, false), false⟩, ⟨some 89, .bin .gtr (.t 86) (.t 88), some (79, false), false⟩, ⟨some 90, .pick (.t 79) (.c (.bool true)) (.t 89), none, false⟩] 0 [0, 1, 4, 5, 90]) (.cond (.t 90) .ret .skip)) (.seq (.regD (.take ⟨some 91, .mov (.t 5), none, false⟩ [] (.take ⟨some 92, .mov (.t 0), none, false⟩ [] (.take ⟨some 93, .nilck (.t 92), none, false⟩ [] (.take ⟨some 94, .faddr 0 (.t 93), none, false⟩ [] (.take ⟨some 95, .faddr 4 (.t 94), none, false⟩ [] (.take ⟨some 96, .load false 1 (.t 95), none, false⟩ [] (.take ⟨some 97, .mov (.t 1), none, false⟩ [] (.take ⟨some 98, .mov (.t 0), none, false⟩ [] (.take ⟨some 99, .nilck (.t 98), none, false⟩ [] (.take ⟨some 100, .faddr 0 (.t 99), none, false⟩ [] (.take ⟨some 101, .faddr 6 (.t 100), none, false⟩ [] (.take ⟨some 102, .load false 1 (.t 101), none, false⟩ [] (.take ⟨some 103, .build [.int .i32 0, .int .u16 0, .int .u8 0] [(0, (1, (.t 97))), (1, (1, (.t 102)))], none, false⟩ [] (.take ⟨some 104, .iaddr 3 (.t 91) (.t 96), none, false⟩ [] (.op ⟨none, .store 3 (.t 104) (.t 103), none, false⟩ .done))))))))))))))) 0 [0, 4, 5]) (.seq (.seq (.reg [⟨some 105, .mov (.t 4), none, false⟩, ⟨some 106, .bin .eql (.t 105) (.c (.int .i64 2)), none, false⟩] 0 [0, 4, 5, 106]) (.cond (.t 106) (.seq (.reg [⟨some 107, .mov (.t 5), none, false⟩, ⟨some 108, .mov (.t 0), none, false⟩, ⟨some 109, .nilck (.t 108), none, false⟩, ⟨some 110, .faddr 0 (.t 109), none, false⟩, ⟨some 111, .faddr 4 (.t 110), none, false⟩, ⟨some 112, .load false 1 (.t 111), none, false⟩, ⟨some 113, .iaddr 3 (.t 107) (.t 112), none, false⟩, ⟨some 114, .faddr 2 (.t 113), none, false⟩, ⟨none, .store 1 (.t 114) (.c (.int .u8 1)), none, false⟩] 0 [0, 4, 5]) (.regD (.take ⟨some 115, .mov (.t 5), none, false⟩ [] (.take ⟨some 116, .mov (.t 0), none, false⟩ [] (.take ⟨some 117, .nilck (.t 116), none, false⟩ [] (.take ⟨some 118, .faddr 0 (.t 117), none, false⟩ [] (.take ⟨some 119, .faddr 4 (.t 118), none, false⟩ [] (.take ⟨some 120, .load false 1 (.t 119), none, false⟩ [] (.take ⟨some 121, .bin .add (.t 120) (.c (.int .i64 1)), none, false⟩ [] (.take ⟨some 122, .mov (.t 0), none, false⟩ [] (.take ⟨some 123, .nilck (.t 122), none, false⟩ [] (.take ⟨some 124, .faddr 0 (.t 123), none, false⟩ [] (.take ⟨some 125, .faddr 6 (.t 124), none, false⟩ [] (.take ⟨some 126, .load false 1 (.t 125), none, false⟩ [] (.take ⟨some 127, .build [.int .i32 0, .int .u16 0, .int .u8 0] [(1, (1, (.t 126))), (2, (1, (.c (.int .u8 2))))], none, false⟩ [] (.take ⟨some 128, .iaddr 3 (.t 115) (.t 121), none, false⟩ [] (.op ⟨none, .store 3 (.t 128) (.t 127), none, false⟩ .done))))))))))))))) 0 [0, 4, 5])) .skip)) (.seq (.reg [⟨some 129, .mov (.t 5), none, false⟩, ⟨some 130, .call 41 [.t 129], none, false⟩] 0 [0, 4]) (.seq (.reg [⟨some 131, .mov (.t 0), none, false⟩, ⟨some 132, .nilck (.t 131), none, false⟩, ⟨some 133, .faddr 0 (.t 132), none, false⟩, ⟨some 134, .faddr 4 (.t 133), none, false⟩, ⟨some 135, .load false 1 (.t 134), none, false⟩, ⟨some 136, .mov (.t 4), none, false⟩, ⟨some 137, .bin .add (.t 135) (.t 136), none, false⟩, ⟨some 138, .nilck (.t 131), none, false⟩, ⟨some 139, .faddr 0 (.t 138), none, false⟩, ⟨some 140, .faddr 4 (.t 139), none, false⟩, ⟨none, .store 1 (.t 140) (.t 137), none, false⟩] 0 [0]) (.seq (.regD (.take ⟨some 141, .mov (.t 0), none, false⟩ [] (.take ⟨some 142, .nilck (.t 141), none, false⟩ [] (.take ⟨some 143, .faddr 0 (.t 142), none, false⟩ [] (.take ⟨some 144, .faddr 4 (.t 143), none, false⟩ [] (.take ⟨some 145, .load false 1 (.t 144), none, false⟩ [] (.take ⟨some 146, .mov (.t 0), none, false⟩ [] (.take ⟨some 147, .nilck (.t 146), none, false⟩ [] (.take ⟨some 148, .faddr 0 (.t 147), none, false⟩ [] (.take ⟨some 149, .faddr 1 (.t 148), none, false⟩ [] (.take ⟨some 150, .load false 1 (.t 149), none, false⟩ [] (.take ⟨some 151, .bin .geq (.t 145) (.t 150), none, false⟩ [] .done))))))))))) 0 [0, 151]) (.cond (.t 151) (.regD (.take ⟨some 152, .mov (.t 0), none, false⟩ [] (.take ⟨some 153, .mov (.t 0), none, false⟩ [] (.take ⟨some 154, .mov (.t 0), none, false⟩ [] (.take ⟨some 155, .nilck (.t 154), none, false⟩ [] (.take ⟨some 156, .faddr 0 (.t 155), none, false⟩ [] (.take ⟨some 157, .faddr 1 (.t 156), none, false⟩ [] (.take ⟨some 158, .load false 1 (.t 157), none, false⟩ [] (.take ⟨some 159, .bin .sub (.t 158) (.c (.int .i64 1)), none, false⟩ [] (.take ⟨some 160, .mov (.t 0), none, false⟩ [] (.take ⟨some 161, .nilck (.t 160), none, false⟩ [] (.take ⟨some 162, .faddr 0 (.t 161), none, false⟩ [] (.take ⟨some 163, .faddr 13 (.t 162), none, false⟩ [] (.take ⟨some 164, .load false 1 (.t 163), none, false⟩ [] (.take ⟨some 165, .nilck (.t 152), none, false⟩ [] (.take ⟨some 166, .faddr 0 (.t 165), none, false⟩ [] (.take ⟨some 167, .faddr 4 (.t 166), none, false⟩ [] (.op ⟨none, .store 1 (.t 167) (.t 159), none, false⟩ (.take ⟨some 168, .nilck (.t 153), none, false⟩ [] (.take ⟨some 169, .faddr 0 (.t 168), none, false⟩ [] (.take ⟨some 170, .faddr 5 (.t 169), none, false⟩ [] (.op ⟨none, .store 1 (.t 170) (.t 164), none, false⟩ .done))))))))))))))))))))) 0 []) .skip))))))))
theorem rc_tprint_c57_s (E : Prg) (F : FTab) (n : Nat) (Q : Exit → St → Prop) (st : St) : RC.wp E F n rc_tprint_c57 Q st = WpH E F n rc_tprint_c57 Q st := nrfl _
noncomputable def rc_tprint_c21 : RC := (.seq (.seq (.regD (.take ⟨some 21, .mov (.t 4), none, false⟩ [] (.take ⟨some 22, .bin .eql (.t 21) (.c (.int .i64 2)), none, false⟩ [] (.take ⟨some 23, .mov (.t 22), none, false⟩ [] (.take ⟨some 24, .mov (.t 0), some (23, true), false⟩ [] (.take ⟨some 25, .nilck (.t 24), some (23, true), false⟩ [] (.take ⟨some 26, .faddr 0 (.t 25), some (23, true), false⟩ [] (.take ⟨some 27, .faddr 4 (.t 26), some (23, true), false⟩ [] (.take ⟨some 28, .load false 1 (.t 27), some (23, true), false⟩ [] (.take ⟨some 29, .mov (.t 0), some (23, true), false⟩ [] (.take ⟨some 30, .nilck (.t 29), some (23, true), false⟩ [] (.take ⟨some 31, .faddr 0 (.t 30), some (23, true), false⟩ [] (.take ⟨some 32, .faddr 1 (.t 31), some (23, true), false⟩ [] (.take ⟨some 33, .load false 1 (.t 32), some (23, true), false⟩ [] (.take ⟨some 34, .bin .sub (.t 33) (.c (.int .i64 1)), some (23, true), false⟩ [] (.take ⟨some 35, .bin .eql (.t 28) (.t 34), some (23, true), false⟩ [] (.take ⟨some 36, .pick (.t 23) (.t 35) (.c (.bool false)), none, false⟩ [] .done)))))))))))))))) 0 [0, 1, 4, 36]) (.cond (.t 36) (.seq (.seq (.reg [⟨some 37, .mov (.t 0), none, false⟩, ⟨some 38, .nilck (.t 37), none, false⟩, ⟨some 39, .faddr 0 (.t 38), none, false⟩, ⟨some 40, .faddr 13 (.t 39), none, false⟩, ⟨some 41, .load false 1 (.t 40), none, false⟩, ⟨some 42, .un .not (.t 41), none, false⟩, ⟨some 43, .mov (.t 42), none, false⟩, ⟨some 44, .mov (.t 0), some (43, false), false⟩, ⟨some 45, .nilck (.t 44), some (43, false), false⟩, ⟨some 46, .faddr 0 (.t 45), some (43, false), false⟩, ⟨some 47, .faddr 1 (.t 46), some (43, false), false⟩, ⟨some 48, .load false 1 (.t 47), some (43, false), false⟩, ⟨some 49, .bin .eql (.t 48) (.c (.int .i64 1)), some (43, false), false⟩, ⟨some 50, .pick (.t 43) (.c (.bool true)) (.t 49), none, false⟩] 0 [0, 1, 4, 50]) (.cond (.t 50) .ret .skip)) (.seq (.reg [⟨some 51, .mov (.t 0), none, false⟩, ⟨some 52, .call 55 [.t 51], none, false⟩] 0 [0, 1, 4]) (.reg [⟨some 53, .mov (.t 0), none, false⟩, ⟨some 54, .nilck (.t 53), none, false⟩, ⟨some 55, .faddr 0 (.t 54), none, false⟩, ⟨some 56, .faddr 4 (.t 55), none, false⟩, ⟨none, .store 1 (.t 56) (.c (.int .i64 0)), none, false⟩] 0 [0, 1, 4]))) .skip)) rc_tprint_c57)
theorem rc_tprint_c21_s (E : Prg) (F : FTab) (n : Nat) (Q : Exit → St → Prop) (st : St) : RC.wp E F n rc_tprint_c21 Q st = WpH E F n rc_tprint_c21 Q st := nrfl _
noncomputable def rc_tprint : RFn := ⟨2, 171, .seq (.reg [⟨some 6, .mov (.t 1), none, false⟩, ⟨some 7, .call 54 [.t 6], none, false⟩, ⟨some 4, .mov (.t 7), none, false⟩] 0 [0, 1, 4]) (.seq (.seq (.reg [⟨some 8, .mov (.t 4), none, false⟩, ⟨some 9, .bin .eql (.t 8) (.c (.int .i64 0)), none, false⟩] 0 [0, 1, 4, 9]) (.cond (.t 9) .ret .skip)) (.seq (.seq (.reg [⟨some 10, .mov (.t 0), none, false⟩, ⟨some 11, .nilck (.t 10), none, false⟩, ⟨some 12, .faddr 0 (.t 11), none, false⟩, ⟨some 13, .faddr 5 (.t 12), none, false⟩, ⟨some 14, .load false 1 (.t 13), none, false⟩] 0 [0, 1, 4, 14]) (.cond (.t 14) (.seq (.reg [⟨some 15, .mov (.t 0), none, false⟩, ⟨some 16, .call 55 [.t 15], none, false⟩] 0 [0, 1, 4]) (.reg [⟨some 17, .mov (.t 0), none, false⟩, ⟨some 18, .nilck (.t 17), none, false⟩, ⟨some 19, .faddr 0 (.t 18), none, false⟩, ⟨some 20, .faddr 4 (.t 19), none, false⟩, ⟨none, .store 1 (.t 20) (.c (.int .i64 0)), none, false⟩] 0 [0, 1, 4])) .skip)) rc_tprint_c21)), []⟩
theorem rc_tprint_ok : compFn PG.P [⟨0, 0, [0, 1, 4], []⟩, ⟨1, 0, [0, 1, 4, 9], []⟩, ⟨2, 0, [0, 1, 4, 14], []⟩, ⟨3, 0, [0, 1, 4], []⟩, ⟨4, 0, [0, 1, 4], []⟩, ⟨5, 0, [0, 1, 4, 36], []⟩, ⟨6, 0, [0, 1, 4, 50], []⟩, ⟨7, 0, [0, 1, 4], []⟩, ⟨8, 0, [0, 1, 4], []⟩, ⟨9, 0, [0, 1, 4, 5], []⟩, ⟨10, 0, [0, 1, 4, 5, 90], []⟩, ⟨11, 0, [0, 4, 5], []⟩, ⟨12, 0, [0, 4, 5, 106], []⟩, ⟨13, 0, [0, 4, 5], []⟩, ⟨14, 0, [0, 4, 5], []⟩, ⟨15, 0, [0, 4], []⟩, ⟨16, 0, [0], []⟩, ⟨17, 0, [0, 151], []⟩, ⟨18, 0, [], []⟩] 31 = some rc_tprint := by kernel_rfl
theorem tprint_c57 {T0 T : Objs} {o : Nat} {s : Sc} {p : Pa} {r : Int} {w : Nat} {K : Objs → Prop} {Q : Exit → St → Prop} (ok : ScOk s) (hw : w = 1 ∨ w = 2) (hf : s.x + w ≤ s.cols) (h : TermAt T0 T o s p) (hK : ∀ T', T.length ≤ T'.length → TermAt T0 T' o (putR s r w) p → K T')
    (hQ : ∀ env T', K T' → Q .normal ⟨env, T'⟩) {X : List (Nat × DV)} (hX : X = [] ∨ ∃ d, X = [(36, d)]) {wI : Int} (hwI : wI = w) : WpH PG (tab []) 171 rc_tprint_c57 Q ⟨(0, .ptr o 0 0) :: (1, .int .i32 r) :: (4, .int .i64 wI) :: X, T⟩ := by
  subst hwI
  obtain ⟨k0, q, tq, od, m, pr, d1, d2, d3, pa, t⟩ := id h
  have hb := t.box
  unfold tmBox at hb
  have hr := ok.g.r
  have hc := ok.g.c
  have hy := ok.y
  have hx := ok.x
  have hin := at_in ok
  have hlim := ok.g.lim
  have x0 : ¬ (s.x : Int) < 0 := by omega
  have x1 : (0 : Int) ≤ s.x := by omega
  have f2 : (s.x : Int) < s.cols := by omega
  have hg := ceRows_get (L := s.cells) (i := s.y * s.cols + s.x) (by omega)
  have w5 : IntKind.i64.wrap ((s.cols : Int) - 1) = ((s.cols - 1 : Nat) : Int) := by rw [wI64 (by omega) (by omega)]; omega
  have rs := row_succ s.y s.cols
  have fin : ∀ {T3 : Objs}, Keep T T3 [q] → T3[q]? = some (some (.arr 3 (ceRows (midF (setF s r w) (s.y * s.cols) (s.y * s.cols + s.cols) (wholG (((setF s r w).drop (s.y * s.cols)).take s.cols)))))) →
      TmAt T0 T3 o q tq { s with cells := mendF (setF s r w) s.cols s.y } od m pr d1 d2 d3 := fun k hc => by
    have e : midF (setF s r w) (s.y * s.cols) (s.y * s.cols + s.cols) (wholG (((setF s r w).drop (s.y * s.cols)).take s.cols)) = mendF (setF s r w) s.cols s.y := by unfold mendF putF rowF; rw [rs]
    rw [e] at hc
    exact t.celK k hc (by rw [mendF_len (setF_g ok r w) hy, setF_len])
  have fin2 : ∀ {T3 : Objs} (kk : Keep T T3 [q]), TmAt T0 T3 o q tq { s with cells := mendF (setF s r w) s.cols s.y } od m pr d1 d2 d3 → ∀ (x' : Nat) (wr : Bool), putR s r w = { s with cells := mendF (setF s r w) s.cols s.y, x := x', wrap := wr } → K (T3.set o (some (.box (tmBox { s with cells := mendF (setF s r w) s.cols s.y, x := x', wrap := wr } q tq od m pr d1 d2 d3)))) := fun kk t3 x' wr e =>
    hK _ (by simpa using kk.1) (by rw [e]; exact .mk ((k0.newD kk t.nq).put t.no _) pa (t3.put rfl rfl rfl rfl rfl))
  rcases hw with rfl | rfl
  · have w1 : IntKind.i64.wrap ((s.x : Int) + 1) = ((s.x + 1 : Nat) : Int) := by rw [wI64 (by omega) (by omega)]; omega
    have f1 : ¬ (s.cols : Int) < ((s.x + 1 : Nat) : Int) := by omega
    have hset : (ceRows s.cells).set (s.y * s.cols + s.x) [.int .i32 r, .int .u16 s.attr, .int .u8 0] = ceRows (setF s r 1) := by
      unfold setF; rw [if_neg (by decide), ← ceRows_set]
    rcases hX with rfl | ⟨dx, rfl⟩
    all_goals
      unfold WpH rc_tprint_c57
      simp -implicitDefEqProofs -dsimp only [tb_at, tb_all hb, vcS, ↓vcP1, ↓vcP2, ↓reduceIte, reduceCtorEq, Nat.reduceLT, Nat.reduceLeDiff, Nat.reduceEqDiff, Nat.reduceAdd, Nat.reduceSub, Nat.reduceMul, Int.reduceLT, Int.reduceLE, Int.reduceEq, Int.reduceToNat, Int.reduceAdd, Int.reduceSub, Int.reduceNeg, List.reduceReplicate, Nat.reducePow, Int.reduceMul]
      refine grow_K t.cells ok.g hy ?_
      simp -implicitDefEqProofs -dsimp only [tb_at, tb_all hb, tb_all t.cells, x0, x1, w1, f1, f2, hg, hset, vcS, ↓vcP1, ↓vcP2, ↓reduceIte, reduceCtorEq, Nat.reduceLT, Nat.reduceLeDiff, Nat.reduceEqDiff, Nat.reduceAdd, Nat.reduceSub, Nat.reduceMul, Int.reduceLT, Int.reduceLE, Int.reduceEq, Int.reduceToNat, Int.reduceAdd, Int.reduceSub, Int.reduceNeg, List.reduceReplicate, Nat.reducePow, Int.reduceMul]
      refine whole_K (tb_ss t.cells _) (by rw [setF_len]; omega) (by rw [setF_len]; exact hlim.1) fun T3 h3 k3 => ?_
      have kk : Keep T T3 [q] := (Keep.set T q _).trans k3 (k := [q]) (by simp) (by simp)
      have t3 := fin kk h3
      have hb3 := t3.box
      unfold tmBox at hb3
      rcases Nat.lt_or_ge (s.x + 1) s.cols with c1 | c1
      · have c1' : ¬ (s.cols : Int) ≤ ((s.x + 1 : Nat) : Int) := by omega
        simp -implicitDefEqProofs -dsimp only [tb_at, tb_all hb3, w1, w5, c1', List.set_set, vcS, ↓vcP1, ↓vcP2, ↓reduceIte, reduceCtorEq, Nat.reduceLT, Nat.reduceLeDiff, Nat.reduceEqDiff, Nat.reduceAdd, Nat.reduceSub, Nat.reduceMul, Int.reduceLT, Int.reduceLE, Int.reduceEq, Int.reduceToNat, Int.reduceAdd, Int.reduceSub, Int.reduceNeg, List.reduceReplicate, Nat.reducePow, Int.reduceMul]
        exact hQ _ _ (fin2 kk t3 (s.x + 1) s.wrap (by unfold putR; rw [if_neg (by omega)]))
      · have c1' : (s.cols : Int) ≤ ((s.x + 1 : Nat) : Int) := by omega
        simp -implicitDefEqProofs -dsimp only [tb_at, tb_all hb3, w1, w5, c1', List.set_set, vcS, ↓vcP1, ↓vcP2, ↓reduceIte, reduceCtorEq, Nat.reduceLT, Nat.reduceLeDiff, Nat.reduceEqDiff, Nat.reduceAdd, Nat.reduceSub, Nat.reduceMul, Int.reduceLT, Int.reduceLE, Int.reduceEq, Int.reduceToNat, Int.reduceAdd, Int.reduceSub, Int.reduceNeg, List.reduceReplicate, Nat.reducePow, Int.reduceMul]
        have := fin2 kk t3 (s.cols - 1) s.auto (by unfold putR; rw [if_pos (by omega)])
        repeat' (first | exact hQ _ _ this | apply And.intro)
  · have w1 : IntKind.i64.wrap ((s.x : Int) + 2) = ((s.x + 2 : Nat) : Int) := by rw [wI64 (by omega) (by omega)]; omega
    have w2 : IntKind.i64.wrap ((s.x : Int) + 1) = ((s.x + 1 : Nat) : Int) := by rw [wI64 (by omega) (by omega)]; omega
    have f1 : ¬ (s.cols : Int) < ((s.x + 2 : Nat) : Int) := by omega
    have f3 : ((s.x + 1 : Nat) : Int) < s.cols := by omega
    have x3 : (0 : Int) ≤ ((s.x + 1 : Nat) : Int) := by omega
    have hs1 := ceRows_set s.cells (s.y * s.cols + s.x) ⟨r, s.attr, 0⟩
    have hs2 := ceRows_set (s.cells.set (s.y * s.cols + s.x) ⟨r, s.attr, 0⟩) (s.y * s.cols + s.x) ⟨r, s.attr, 1⟩
    have hs3 := ceRows_set (s.cells.set (s.y * s.cols + s.x) ⟨r, s.attr, 1⟩) (s.y * s.cols + (s.x + 1)) ⟨0, s.attr, 2⟩
    have e3 : ((s.cells.set (s.y * s.cols + s.x) ⟨r, s.attr, 1⟩).set (s.y * s.cols + (s.x + 1)) ⟨0, s.attr, 2⟩) = setF s r 2 := by
      unfold setF; rw [if_pos rfl]; rfl
    rw [e3] at hs3
    have hg1 : (ceRows (s.cells.set (s.y * s.cols + s.x) ⟨r, s.attr, 0⟩))[s.y * s.cols + s.x]? = some [.int .i32 r, .int .u16 s.attr, .int .u8 0] := by
      rw [← ceRows_set]; exact List.getElem?_set_self (by rw [ceRows_len]; omega)
    have hg2 := ceRows_get (L := s.cells.set (s.y * s.cols + s.x) ⟨r, s.attr, 1⟩) (i := s.y * s.cols + (s.x + 1)) (by simp; omega)
    rcases hX with rfl | ⟨dx, rfl⟩
    all_goals
      unfold WpH rc_tprint_c57
      simp -implicitDefEqProofs -dsimp only [tb_at, tb_all hb, vcS, ↓vcP1, ↓vcP2, ↓reduceIte, reduceCtorEq, Nat.reduceLT, Nat.reduceLeDiff, Nat.reduceEqDiff, Nat.reduceAdd, Nat.reduceSub, Nat.reduceMul, Int.reduceLT, Int.reduceLE, Int.reduceEq, Int.reduceToNat, Int.reduceAdd, Int.reduceSub, Int.reduceNeg, List.reduceReplicate, Nat.reducePow, Int.reduceMul]
      refine grow_K t.cells ok.g hy ?_
      simp -implicitDefEqProofs -dsimp only [tb_at, tb_all hb, tb_all t.cells, x0, x1, x3, w1, w2, f1, f2, f3, hg, hg1, hg2, hs1, hs2, hs3, List.set_set, fun y => tb_ne hb y t.oq, vcS, ↓vcP1, ↓vcP2, ↓reduceIte, reduceCtorEq, Nat.reduceLT, Nat.reduceLeDiff, Nat.reduceEqDiff, Nat.reduceAdd, Nat.reduceSub, Nat.reduceMul, Int.reduceLT, Int.reduceLE, Int.reduceEq, Int.reduceToNat, Int.reduceAdd, Int.reduceSub, Int.reduceNeg, List.reduceReplicate, Nat.reducePow, Int.reduceMul]
      refine whole_K (L := setF s r 2) (tb_ss t.cells _) (by rw [setF_len]; omega) (by rw [setF_len]; exact hlim.1) fun T3 h3 k3 => ?_
      have kk : Keep T T3 [q] := (Keep.set T q _).trans k3 (k := [q]) (by simp) (by simp)
      have t3 := fin kk h3
      have hb3 := t3.box
      unfold tmBox at hb3
      rcases Nat.lt_or_ge (s.x + 2) s.cols with c1 | c1
      · have c1' : ¬ (s.cols : Int) ≤ ((s.x + 2 : Nat) : Int) := by omega
        simp -implicitDefEqProofs -dsimp only [tb_at, tb_all hb3, w1, w5, c1', List.set_set, vcS, ↓vcP1, ↓vcP2, ↓reduceIte, reduceCtorEq, Nat.reduceLT, Nat.reduceLeDiff, Nat.reduceEqDiff, Nat.reduceAdd, Nat.reduceSub, Nat.reduceMul, Int.reduceLT, Int.reduceLE, Int.reduceEq, Int.reduceToNat, Int.reduceAdd, Int.reduceSub, Int.reduceNeg, List.reduceReplicate, Nat.reducePow, Int.reduceMul]
        exact hQ _ _ (fin2 kk t3 (s.x + 2) s.wrap (by unfold putR; rw [if_neg (by omega)]))
      · have c1' : (s.cols : Int) ≤ ((s.x + 2 : Nat) : Int) := by omega
        simp -implicitDefEqProofs -dsimp only [tb_at, tb_all hb3, w1, w5, c1', List.set_set, vcS, ↓vcP1, ↓vcP2, ↓reduceIte, reduceCtorEq, Nat.reduceLT, Nat.reduceLeDiff, Nat.reduceEqDiff, Nat.reduceAdd, Nat.reduceSub, Nat.reduceMul, Int.reduceLT, Int.reduceLE, Int.reduceEq, Int.reduceToNat, Int.reduceAdd, Int.reduceSub, Int.reduceNeg, List.reduceReplicate, Nat.reducePow, Int.reduceMul]
        have := fin2 kk t3 (s.cols - 1) s.auto (by unfold putR; rw [if_pos (by omega)])
        repeat' (first | exact hQ _ _ this | apply And.intro)
theorem tprint_c21 {T0 T : Objs} {o : Nat} {s : Sc} {p : Pa} {r : Int} {w : Nat} {K : Objs → Prop} {Q : Exit → St → Prop} (ok : ScOk s) (hwr : s.wrap = false) (hw : w = 1 ∨ w = 2) (h : TermAt T0 T o s p)
    (hK : ∀ T', T.length ≤ T'.length → TermAt T0 T' o (if w = 2 ∧ s.x + 1 = s.cols then (if s.auto = false ∨ s.cols = 1 then s else putR { nextF s with x := 0 } r 2) else putR s r w) p → K T')
    (hQ : ∀ env T', K T' → Q .normal ⟨env, T'⟩) (hQ2 : ∀ env T', K T' → Q .ret ⟨env, T'⟩) {X : List (Nat × DV)} (hX : X = [] ∨ ∃ d, X = [(14, d)]) {wI : Int} (hwI : wI = w) : WpH PG (tab []) 171 rc_tprint_c21 Q ⟨(0, .ptr o 0 0) :: (1, .int .i32 r) :: (4, .int .i64 wI) :: X, T⟩ := by
  subst hwI
  obtain ⟨k0, q, tq, od, m, pr, d1, d2, d3, pa, t⟩ := id h
  have hb := t.box
  unfold tmBox at hb
  have hr := ok.g.r
  have hc := ok.g.c
  have hx := ok.x
  have w5 : IntKind.i64.wrap ((s.cols : Int) - 1) = ((s.cols - 1 : Nat) : Int) := by rw [wI64 (by omega) (by omega)]; omega
  rcases hw with rfl | rfl
  · rw [if_neg (by omega)] at hK
    rcases hX with rfl | ⟨dx, rfl⟩
    all_goals
      unfold WpH rc_tprint_c21
      simp -implicitDefEqProofs -dsimp only [tb_at, tb_all hb, w5, ↓rc_tprint_c57_s, vcS, ↓vcP1, ↓vcP2, ↓reduceIte, reduceCtorEq, Nat.reduceLT, Nat.reduceLeDiff, Nat.reduceEqDiff, Nat.reduceAdd, Nat.reduceSub, Nat.reduceMul, Int.reduceLT, Int.reduceLE, Int.reduceEq, Int.reduceToNat, Int.reduceAdd, Int.reduceSub, Int.reduceNeg, List.reduceReplicate, Nat.reducePow, Int.reduceMul]
      exact tprint_c57 ok (.inl rfl) (by omega) h hK hQ (X := [(36, .bool false)]) (.inr ⟨_, rfl⟩) rfl
  · rcases Nat.lt_or_ge (s.x + 1) s.cols with c1 | c1
    · rw [if_neg (by omega)] at hK
      have c1' : ¬ (s.x : Int) = ((s.cols - 1 : Nat) : Int) := by omega
      rcases hX with rfl | ⟨dx, rfl⟩
      all_goals
        unfold WpH rc_tprint_c21
        simp -implicitDefEqProofs -dsimp only [tb_at, tb_all hb, w5, eq_false c1', ↓rc_tprint_c57_s, vcS, ↓vcP1, ↓vcP2, ↓reduceIte, reduceCtorEq, Nat.reduceLT, Nat.reduceLeDiff, Nat.reduceEqDiff, Nat.reduceAdd, Nat.reduceSub, Nat.reduceMul, Int.reduceLT, Int.reduceLE, Int.reduceEq, Int.reduceToNat, Int.reduceAdd, Int.reduceSub, Int.reduceNeg, List.reduceReplicate, Nat.reducePow, Int.reduceMul]
        exact tprint_c57 ok (.inr rfl) (by omega) h hK hQ (X := [(36, .bool false)]) (.inr ⟨_, rfl⟩) rfl
    · rw [if_pos (by omega)] at hK
      have c1' : (s.x : Int) = ((s.cols - 1 : Nat) : Int) := by omega
      have n := nextF_ok ok
      rcases Decidable.em (s.auto = false ∨ s.cols = 1) with c2 | c2
      · rw [if_pos c2] at hK
        have kk := hK _ (Nat.le_refl _) h
        cases ha : s.auto with
        | false =>
          rw [ha] at hb
          rcases hX with rfl | ⟨dx, rfl⟩
          all_goals
            unfold WpH rc_tprint_c21
            simp -implicitDefEqProofs -dsimp only [tb_at, tb_all hb, w5, eq_true c1', ↓rc_tprint_c57_s, vcS, ↓vcP1, ↓vcP2, ↓reduceIte, reduceCtorEq, Nat.reduceLT, Nat.reduceLeDiff, Nat.reduceEqDiff, Nat.reduceAdd, Nat.reduceSub, Nat.reduceMul, Int.reduceLT, Int.reduceLE, Int.reduceEq, Int.reduceToNat, Int.reduceAdd, Int.reduceSub, Int.reduceNeg, List.reduceReplicate, Nat.reducePow, Int.reduceMul]
            exact hQ2 _ _ kk
        | true =>
          rw [ha] at hb
          have c3 : (s.cols : Int) = 1 := by rcases c2 with c2 | c2; rw [ha] at c2; cases c2; omega
          rcases hX with rfl | ⟨dx, rfl⟩
          all_goals
            unfold WpH rc_tprint_c21
            simp -implicitDefEqProofs -dsimp only [tb_at, tb_all hb, w5, eq_true c1', eq_true c3, ↓rc_tprint_c57_s, vcS, ↓vcP1, ↓vcP2, ↓reduceIte, reduceCtorEq, Nat.reduceLT, Nat.reduceLeDiff, Nat.reduceEqDiff, Nat.reduceAdd, Nat.reduceSub, Nat.reduceMul, Int.reduceLT, Int.reduceLE, Int.reduceEq, Int.reduceToNat, Int.reduceAdd, Int.reduceSub, Int.reduceNeg, List.reduceReplicate, Nat.reducePow, Int.reduceMul]
            exact hQ2 _ _ kk
      · rw [if_neg c2] at hK
        have ha : s.auto = true := by cases h : s.auto; exact (c2 (.inl h)).elim; rfl
        rw [ha] at hb
        have c3 : ¬ (s.cols : Int) = 1 := by omega
        rcases hX with rfl | ⟨dx, rfl⟩
        all_goals
          unfold WpH rc_tprint_c21
          simp -implicitDefEqProofs -dsimp only [tb_at, tb_all hb, w5, eq_true c1', eq_false c3, ↓rc_tprint_c57_s, vcS, ↓vcP1, ↓vcP2, ↓reduceIte, reduceCtorEq, Nat.reduceLT, Nat.reduceLeDiff, Nat.reduceEqDiff, Nat.reduceAdd, Nat.reduceSub, Nat.reduceMul, Int.reduceLT, Int.reduceLE, Int.reduceEq, Int.reduceToNat, Int.reduceAdd, Int.reduceSub, Int.reduceNeg, List.reduceReplicate, Nat.reducePow, Int.reduceMul]
          refine tnext_K ok h fun T' l t' => ?_
          obtain ⟨k1, q', tq', od', m', pr', e1, e2, e3, pa', t2⟩ := t'
          have hb2 := t2.box
          unfold tmBox at hb2
          simp -implicitDefEqProofs -dsimp only [tb_at, tb_all hb2, ↓rc_tprint_c57_s, vcS, ↓vcP1, ↓vcP2, ↓reduceIte, reduceCtorEq, Nat.reduceLT, Nat.reduceLeDiff, Nat.reduceEqDiff, Nat.reduceAdd, Nat.reduceSub, Nat.reduceMul, Int.reduceLT, Int.reduceLE, Int.reduceEq, Int.reduceToNat, Int.reduceAdd, Int.reduceSub, Int.reduceNeg, List.reduceReplicate, Nat.reducePow, Int.reduceMul]
          refine tprint_c57 (T0 := T0) (s := { nextF s with x := 0 }) (p := p) (n.1.x0 n.2.2.2.2.1) (.inr rfl) (by show 0 + 2 ≤ (nextF s).cols; rw [n.2.2.1]; omega) (.mk (k1.put t2.no _) pa' (t2.put rfl rfl rfl rfl rfl)) (fun T3 l3 => hK T3 (by simp at l3; omega)) hQ (.inl rfl) rfl
theorem tprint_K {T0 T : Objs} {o : Nat} {s : Sc} {p : Pa} {r : Int} {K : DV → Objs → Prop} (hr : -2147483648 ≤ r ∧ r ≤ 2147483647) (ok : ScOk s) (h : TermAt T0 T o s p) (hK : ∀ T', T.length ≤ T'.length → TermAt T0 T' o (printF s r) p → K (.tup []) T') :
    CallK PG 31 [.ptr o 0 0, .int .i32 r] T K := by
  have hw2 : widthF r = 0 ∨ widthF r = 1 ∨ widthF r = 2 := by unfold widthF; split; exact .inl rfl; split; exact .inr (.inr rfl); exact .inr (.inl rfl)
  have n := nextF_ok ok
  have wo := wrapF_ok ok
  cases hwr : s.wrap with
  | false =>
    have ew : wrapF s = s := by unfold wrapF; rw [hwr]; rfl
    refine CallK.of_fn FOk.nil rc_tprint_ok (by simp [rc_tprint]) ?_
    unfold rc_tprint
    dsimp only
    simp -implicitDefEqProofs -dsimp only [tb_at, vcS, ↓vcP1, ↓vcP2, ↓reduceIte, reduceCtorEq, Nat.reduceLT, Nat.reduceLeDiff, Nat.reduceEqDiff, Nat.reduceAdd, Nat.reduceSub, Nat.reduceMul, Int.reduceLT, Int.reduceLE, Int.reduceEq, Int.reduceToNat, Int.reduceAdd, Int.reduceSub, Int.reduceNeg, List.reduceReplicate, Nat.reducePow, Int.reduceMul]
    refine wof_K hr fun T1 k1 => ?_
    have t1 := h.keep k1
    obtain ⟨k0, q, tq, od, m, pr, d1, d2, d3, pa, t⟩ := id t1
    have hb := t.box
    unfold tmBox at hb
    rw [hwr] at hb
    unfold printF at hK
    rcases hw2 with e | e
    · rw [if_pos e] at hK
      rw [e]
      simp -implicitDefEqProofs -dsimp only [tb_at, vcS, ↓vcP1, ↓vcP2, ↓reduceIte, reduceCtorEq, Nat.reduceLT, Nat.reduceLeDiff, Nat.reduceEqDiff, Nat.reduceAdd, Nat.reduceSub, Nat.reduceMul, Int.reduceLT, Int.reduceLE, Int.reduceEq, Int.reduceToNat, Int.reduceAdd, Int.reduceSub, Int.reduceNeg, List.reduceReplicate, Nat.reducePow, Int.reduceMul]
      exact ⟨k1.1, hK _ k1.1 t1⟩
    · rw [if_neg (by omega), ew] at hK
      have e0 : ¬ ((widthF r : Nat) : Int) = 0 := by omega
      simp -implicitDefEqProofs -dsimp only [tb_at, tb_all hb, eq_false e0, ↓rc_tprint_c21_s, vcS, ↓vcP1, ↓vcP2, ↓reduceIte, reduceCtorEq, Nat.reduceLT, Nat.reduceLeDiff, Nat.reduceEqDiff, Nat.reduceAdd, Nat.reduceSub, Nat.reduceMul, Int.reduceLT, Int.reduceLE, Int.reduceEq, Int.reduceToNat, Int.reduceAdd, Int.reduceSub, Int.reduceNeg, List.reduceReplicate, Nat.reducePow, Int.reduceMul]
      refine tprint_c21 (K := fun T' => T.length ≤ T'.length ∧ K (.tup []) T') ok hwr e t1 (fun T' l t' => ⟨Nat.le_trans k1.1 l, hK T' (Nat.le_trans k1.1 l) t'⟩) ?_ ?_ (X := [(14, .bool false)]) (.inr ⟨_, rfl⟩) rfl
      · exact fun _ _ h => h
      · exact fun _ _ h => h
  | true =>
    have ew : wrapF s = { nextF s with x := 0 } := by unfold wrapF; rw [hwr]; rfl
    refine CallK.of_fn FOk.nil rc_tprint_ok (by simp [rc_tprint]) ?_
    unfold rc_tprint
    dsimp only
    simp -implicitDefEqProofs -dsimp only [tb_at, vcS, ↓vcP1, ↓vcP2, ↓reduceIte, reduceCtorEq, Nat.reduceLT, Nat.reduceLeDiff, Nat.reduceEqDiff, Nat.reduceAdd, Nat.reduceSub, Nat.reduceMul, Int.reduceLT, Int.reduceLE, Int.reduceEq, Int.reduceToNat, Int.reduceAdd, Int.reduceSub, Int.reduceNeg, List.reduceReplicate, Nat.reducePow, Int.reduceMul]
    refine wof_K hr fun T1 k1 => ?_
    have t1 := h.keep k1
    obtain ⟨k0, q, tq, od, m, pr, d1, d2, d3, pa, t⟩ := id t1
    have hb := t.box
    unfold tmBox at hb
    rw [hwr] at hb
    unfold printF at hK
    rcases hw2 with e | e
    · rw [if_pos e] at hK
      rw [e]
      simp -implicitDefEqProofs -dsimp only [tb_at, vcS, ↓vcP1, ↓vcP2, ↓reduceIte, reduceCtorEq, Nat.reduceLT, Nat.reduceLeDiff, Nat.reduceEqDiff, Nat.reduceAdd, Nat.reduceSub, Nat.reduceMul, Int.reduceLT, Int.reduceLE, Int.reduceEq, Int.reduceToNat, Int.reduceAdd, Int.reduceSub, Int.reduceNeg, List.reduceReplicate, Nat.reducePow, Int.reduceMul]
      exact ⟨k1.1, hK _ k1.1 t1⟩
    · rw [if_neg (by omega), ew] at hK
      have e0 : ¬ ((widthF r : Nat) : Int) = 0 := by omega
      simp -implicitDefEqProofs -dsimp only [tb_at, tb_all hb, eq_false e0, ↓rc_tprint_c21_s, vcS, ↓vcP1, ↓vcP2, ↓reduceIte, reduceCtorEq, Nat.reduceLT, Nat.reduceLeDiff, Nat.reduceEqDiff, Nat.reduceAdd, Nat.reduceSub, Nat.reduceMul, Int.reduceLT, Int.reduceLE, Int.reduceEq, Int.reduceToNat, Int.reduceAdd, Int.reduceSub, Int.reduceNeg, List.reduceReplicate, Nat.reducePow, Int.reduceMul]
      refine tnext_K ok t1 fun T2 l2 t2 => ?_
      obtain ⟨k2, q', tq', od', m', pr', e1, e2, e3, pa', t3⟩ := t2
      have hb2 := t3.box
      unfold tmBox at hb2
      simp -implicitDefEqProofs -dsimp only [tb_at, tb_all hb2, ↓rc_tprint_c21_s, vcS, ↓vcP1, ↓vcP2, ↓reduceIte, reduceCtorEq, Nat.reduceLT, Nat.reduceLeDiff, Nat.reduceEqDiff, Nat.reduceAdd, Nat.reduceSub, Nat.reduceMul, Int.reduceLT, Int.reduceLE, Int.reduceEq, Int.reduceToNat, Int.reduceAdd, Int.reduceSub, Int.reduceNeg, List.reduceReplicate, Nat.reducePow, Int.reduceMul]
      have lt : T.length ≤ T2.length := Nat.le_trans k1.1 l2
      refine tprint_c21 (T0 := T0) (s := { nextF s with x := 0 }) (p := p) (K := fun T' => T.length ≤ T'.length ∧ K (.tup []) T') (n.1.x0 n.2.2.2.2.1) n.2.2.2.2.1 e (.mk (k2.put t3.no _) pa' (t3.put rfl rfl rfl rfl rfl)) (fun T' l t' => ?_) ?_ ?_ (.inl rfl) rfl
      · have l' : T.length ≤ T'.length := by simp at l; omega
        rw [← n.2.2.1, ← n.2.2.2.2.2.1] at hK
        exact ⟨l', hK T' l' t'⟩
      · exact fun _ _ h => h
      · exact fun _ _ h => h
noncomputable def rc_trows : RFn := ⟨3, 152, .blk 0 (.seq (.reg [⟨some 37, .mov (.t 1), none, false⟩, ⟨some 38, .bin .eql (.t 37) (.c (.int .u8 83)), none, false⟩, ⟨some 36, .mov (.t 38), none, false⟩] 0 [0, 1, 2, 36]) (.cond (.t 36) (.regD (.take ⟨some 39, .mov (.t 0), none, false⟩ [] (.take ⟨some 40, .mov (.t 0), none, false⟩ [] (.take ⟨some 41, .nilck (.t 40), none, false⟩ [] (.take ⟨some 42, .faddr 0 (.t 41), none, false⟩ [] (.take ⟨some 43, .faddr 2 (.t 42), none, false⟩ [] (.take ⟨some 44, .load false 1 (.t 43), none, false⟩ [] (.take ⟨some 45, .mov (.t 0), none, false⟩ [] (.take ⟨some 46, .nilck (.t 45), none, false⟩ [] (.take ⟨some 47, .faddr 0 (.t 46), none, false⟩ [] (.take ⟨some 48, .faddr 1 (.t 47), none, false⟩ [] (.take ⟨some 49, .load false 1 (.t 48), none, false⟩ [] (.take ⟨some 50, .mov (.t 0), none, false⟩ [] (.take ⟨some 51, .nilck (.t 50), none, false⟩ [] (.take ⟨some 52, .faddr 0 (.t 51), none, false⟩ [] (.take ⟨some 53, .faddr 7 (.t 52), none, false⟩ [] (.take ⟨some 54, .load false 1 (.t 53), none, false⟩ [] (.take ⟨some 55, .mov (.t 0), none, false⟩ [] (.take ⟨some 56, .nilck (.t 55), none, false⟩ [] (.take ⟨some 57, .faddr 0 (.t 56), none, false⟩ [] (.take ⟨some 58, .faddr 8 (.t 57), none, false⟩ [] (.take ⟨some 59, .load false 1 (.t 58), none, false⟩ [] (.take ⟨some 60, .mov (.t 2), none, false⟩ [] (.mid ⟨some 61, .call 78 [.t 44, .t 49, .t 54, .t 59, .t 60], none, false⟩ (.take ⟨some 62, .nilck (.t 39), none, false⟩ [] (.take ⟨some 63, .faddr 0 (.t 62), none, false⟩ [] (.take ⟨some 64, .faddr 2 (.t 63), none, false⟩ [] (.op ⟨none, .store 1 (.t 64) (.t 61), none, false⟩ .done))))))))))))))))))))))))))) 0 []) (.seq (.reg [⟨some 66, .mov (.t 1), none, false⟩, ⟨some 67, .bin .eql (.t 66) (.c (.int .u8 84)), none, false⟩, ⟨some 65, .mov (.t 67), none, false⟩] 0 [0, 1, 2, 65]) (.cond (.t 65) (.regD (.take ⟨some 68, .mov (.t 0), none, false⟩ [] (.take ⟨some 69, .mov (.t 0), none, false⟩ [] (.take ⟨some 70, .nilck (.t 69), none, false⟩ [] (.take ⟨some 71, .faddr 0 (.t 70), none, false⟩ [] (.take ⟨some 72, .faddr 2 (.t 71), none, false⟩ [] (.take ⟨some 73, .load false 1 (.t 72), none, false⟩ [] (.take ⟨some 74, .mov (.t 0), none, false⟩ [] (.take ⟨some 75, .nilck (.t 74), none, false⟩ [] (.take ⟨some 76, .faddr 0 (.t 75), none, false⟩ [] (.take ⟨some 77, .faddr 1 (.t 76), none, false⟩ [] (.take ⟨some 78, .load false 1 (.t 77), none, false⟩ [] (.take ⟨some 79, .mov (.t 0), none, false⟩ [] (.take ⟨some 80, .nilck (.t 79), none, false⟩ [] (.take ⟨some 81, .faddr 0 (.t 80), none, false⟩ [] (.take ⟨some 82, .faddr 7 (.t 81), none, false⟩ [] (.take ⟨some 83, .load false 1 (.t 82), none, false⟩ [] (.take ⟨some 84, .mov (.t 0), none, false⟩ [] (.take ⟨some 85, .nilck (.t 84), none, false⟩ [] (.take ⟨some 86, .faddr 0 (.t 85), none, false⟩ [] (.take ⟨some 87, .faddr 8 (.t 86), none, false⟩ [] (.take ⟨some 88, .load false 1 (.t 87), none, false⟩ [] (.take ⟨some 89, .mov (.t 2), none, false⟩ [] (.mid ⟨some 90, .call 56 [.t 73, .t 78, .t 83, .t 88, .t 89], none, false⟩ (.take ⟨some 91, .nilck (.t 68), none, false⟩ [] (.take ⟨some 92, .faddr 0 (.t 91), none, false⟩ [] (.take ⟨some 93, .faddr 2 (.t 92), none, false⟩ [] (.op ⟨none, .store 1 (.t 93) (.t 90), none, false⟩ .done))))))))))))))))))))))))))) 0 []) (.seq (.regD (.take ⟨some 95, .mov (.t 0), none, false⟩ [] (.take ⟨some 96, .nilck (.t 95), none, false⟩ [] (.take ⟨some 97, .faddr 0 (.t 96), none, false⟩ [] (.take ⟨some 98, .faddr 3 (.t 97), none, false⟩ [] (.take ⟨some 99, .load false 1 (.t 98), none, false⟩ [] (.take ⟨some 100, .mov (.t 0), none, false⟩ [] (.take ⟨some 101, .nilck (.t 100), none, false⟩ [] (.take ⟨some 102, .faddr 0 (.t 101), none, false⟩ [] (.take ⟨some 103, .faddr 7 (.t 102), none, false⟩ [] (.take ⟨some 104, .load false 1 (.t 103), none, false⟩ [] (.take ⟨some 105, .bin .lss (.t 99) (.t 104), none, false⟩ [] (.take ⟨some 106, .mov (.t 105), none, false⟩ [] (.take ⟨some 107, .mov (.t 0), some (106, false), false⟩ [] (.take ⟨some 108, .nilck (.t 107), some (106, false), false⟩ [] (.take ⟨some 109, .faddr 0 (.t 108), some (106, false), false⟩ [] (.take ⟨some 110, .faddr 3 (.t 109), some (106, false), false⟩ [] (.take ⟨some 111, .load false 1 (.t 110), some (106, false), false⟩ [] (.take ⟨some 112, .mov (.t 0), some (106, false), false⟩ [] (.take ⟨some 113, .nilck (.t 112), some (106, false), false⟩ [] (.take ⟨some 114, .faddr 0 (.t 113), some (106, false), false⟩ [] (.take ⟨some 115, .faddr 8 (.t 114), some (106, false), false⟩ [] (.take ⟨some 116, .load false 1 (.t 115), some (106, false), false⟩ [] (.take ⟨some 117, .bin .gtr (.t 111) (.t 116), some (106, false), false⟩ [] (.take ⟨some 118, .pick (.t 106) (.c (.bool true)) (.t 117), none, false⟩ [] (.take ⟨some 94, .mov (.t 118), none, false⟩ [] .done))))))))))))))))))))))))) 0 [0, 1, 2, 94]) (.cond (.t 94) .skip (.seq (.reg [⟨some 120, .mov (.t 1), none, false⟩, ⟨some 121, .bin .eql (.t 120) (.c (.int .u8 76)), none, false⟩, ⟨some 119, .mov (.t 121), none, false⟩] 0 [0, 2, 119]) (.cond (.t 119) (.regD (.take ⟨some 122, .mov (.t 0), none, false⟩ [] (.take ⟨some 123, .mov (.t 0), none, false⟩ [] (.take ⟨some 124, .mov (.t 0), none, false⟩ [] (.take ⟨some 125, .nilck (.t 124), none, false⟩ [] (.take ⟨some 126, .faddr 0 (.t 125), none, false⟩ [] (.take ⟨some 127, .faddr 2 (.t 126), none, false⟩ [] (.take ⟨some 128, .load false 1 (.t 127), none, false⟩ [] (.take ⟨some 129, .mov (.t 0), none, false⟩ [] (.take ⟨some 130, .nilck (.t 129), none, false⟩ [] (.take ⟨some 131, .faddr 0 (.t 130), none, false⟩ [] (.take ⟨some 132, .faddr 1 (.t 131), none, false⟩ [] (.take ⟨some 133, .load false 1 (.t 132), none, false⟩ [] (.take ⟨some 134, .mov (.t 0), none, false⟩ [] (.take ⟨some 135, .nilck (.t 134), none, false⟩ [] (.take ⟨some 136, .faddr 0 (.t 135), none, false⟩ [] (.take ⟨some 137, .faddr 3 (.t 136), none, false⟩ [] (.take ⟨some 138, .load false 1 (.t 137), none, false⟩ [] (.take ⟨some 139, .mov (.t 0), none, false⟩ [] (.take ⟨some 140, .nilck (.t 139), none, false⟩ [] (.take ⟨some 141, .faddr 0 (.t 140), none, false⟩ [] (.take ⟨some 142, .faddr 8 (.t 141), none, false⟩ [] (.take ⟨some 143, .load false 1 (.t 142), none, false⟩ [] (.take ⟨some 144, .mov (.t 2), none, false⟩ [] (.mid ⟨some 145, .call 56 [.t 128, .t 133, .t 138, .t 143, .t 144], none, false⟩ (.take ⟨some 146, .nilck (.t 122), none, false⟩ [] (.take ⟨some 147, .faddr 0 (.t 146), none, false⟩ [] (.take ⟨some 148, .faddr 2 (.t 147), none, false⟩ [] (.op ⟨none, .store 1 (.t 148) (.t 145), none, false⟩ (.take ⟨some 149, .nilck (.t 123), none, false⟩ [] (.take ⟨some 150, .faddr 0 (.t 149), none, false⟩ [] (.take ⟨some 151, .faddr 4 (.t 150), none, false⟩ [] (.op ⟨none, .store 1 (.t 151) (.c (.int .i64 0)), none, false⟩ .done)))))))))))))))))))))))))))))))) 0 []) (.regD (.take ⟨some 6, .mov (.t 0), none, false⟩ [] (.take ⟨some 7, .mov (.t 0), none, false⟩ [] (.take ⟨some 8, .mov (.t 0), none, false⟩ [] (.take ⟨some 9, .nilck (.t 8), none, false⟩ [] (.take ⟨some 10, .faddr 0 (.t 9), none, false⟩ [] (.take ⟨some 11, .faddr 2 (.t 10), none, false⟩ [] (.take ⟨some 12, .load false 1 (.t 11), none, false⟩ [] (.take ⟨some 13, .mov (.t 0), none, false⟩ [] (.take ⟨some 14, .nilck (.t 13), none, false⟩ [] (.take ⟨some 15, .faddr 0 (.t 14), none, false⟩ [] (.take ⟨some 16, .faddr 1 (.t 15), none, false⟩ [] (.take ⟨some 17, .load false 1 (.t 16), none, false⟩ [] (.take ⟨some 18, .mov (.t 0), none, false⟩ [] (.take ⟨some 19, .nilck (.t 18), none, false⟩ [] (.take ⟨some 20, .faddr 0 (.t 19), none, false⟩ [] (.take ⟨some 21, .faddr 3 (.t 20), none, false⟩ [] (.take ⟨some 22, .load false 1 (.t 21), none, false⟩ [] (.take ⟨some 23, .mov (.t 0), none, false⟩ [] (.take ⟨some 24, .nilck (.t 23), none, false⟩ [] (.take ⟨some 25, .faddr 0 (.t 24), none, false⟩ [] (.take ⟨some 26, .faddr 8 (.t 25), none, false⟩ [] (.take ⟨some 27, .load false 1 (.t 26), none, false⟩ [] (.take ⟨some 28, .mov (.t 2), none, false⟩ [] (.mid ⟨some 29, .call 78 [.t 12, .t 17, .t 22, .t 27, .t 28], none, false⟩ (.take ⟨some 30, .nilck (.t 6), none, false⟩ [] (.take ⟨some 31, .faddr 0 (.t 30), none, false⟩ [] (.take ⟨some 32, .faddr 2 (.t 31), none, false⟩ [] (.op ⟨none, .store 1 (.t 32) (.t 29), none, false⟩ (.take ⟨some 33, .nilck (.t 7), none, false⟩ [] (.take ⟨some 34, .faddr 0 (.t 33), none, false⟩ [] (.take ⟨some 35, .faddr 4 (.t 34), none, false⟩ [] (.op ⟨none, .store 1 (.t 35) (.c (.int .i64 0)), none, false⟩ .done)))))))))))))))))))))))))))))))) 0 []))))))))), []⟩
theorem rc_trows_ok : compFn PG.P [⟨0, 0, [], []⟩, ⟨1, 0, [0, 1, 2, 36], []⟩, ⟨2, 0, [], []⟩, ⟨3, 0, [0, 1, 2, 65], []⟩, ⟨4, 0, [], []⟩, ⟨5, 0, [0, 1, 2, 94], []⟩, ⟨6, 0, [0, 2, 119], []⟩, ⟨7, 0, [], []⟩] 60 = some rc_trows := by kernel_rfl
noncomputable def rc_tregion : RFn := ⟨3, 49, .seq (.seq (.reg [⟨some 6, .mov (.t 2), none, false⟩, ⟨some 7, .bin .eql (.t 6) (.c (.int .i64 0)), none, false⟩, ⟨some 8, .mov (.t 7), none, false⟩, ⟨some 9, .mov (.t 2), some (8, false), false⟩, ⟨some 10, .mov (.t 0), some (8, false), false⟩, ⟨some 11, .nilck (.t 10), some (8, false), false⟩, ⟨some 12, .faddr 0 (.t 11), some (8, false), false⟩, ⟨some 13, .faddr 0 (.t 12), some (8, false), false⟩, ⟨some 14, .load false 1 (.t 13), some (8, false), false⟩, ⟨some 15, .bin .gtr (.t 9) (.t 14), some (8, false), false⟩, ⟨some 16, .pick (.t 8) (.c (.bool true)) (.t 15), none, false⟩] 0 [0, 1, 2, 16]) (.cond (.t 16) (.reg [⟨some 17, .mov (.t 0), none, false⟩, ⟨some 18, .nilck (.t 17), none, false⟩, ⟨some 19, .faddr 0 (.t 18), none, false⟩, ⟨some 20, .faddr 0 (.t 19), none, false⟩, ⟨some 21, .load false 1 (.t 20), none, false⟩, ⟨some 2, .mov (.t 21), none, false⟩] 0 [0, 1, 2]) .skip)) (.seq (.reg [⟨some 22, .mov (.t 1), none, false⟩, ⟨some 23, .mov (.t 2), none, false⟩, ⟨some 24, .bin .sub (.t 23) (.c (.int .i64 1)), none, false⟩, ⟨some 25, .bin .lss (.t 22) (.t 24), none, false⟩] 0 [0, 1, 2, 25]) (.cond (.t 25) (.reg [⟨some 26, .mov (.t 0), none, false⟩, ⟨some 27, .mov (.t 0), none, false⟩, ⟨some 28, .mov (.t 0), none, false⟩, ⟨some 29, .mov (.t 0), none, false⟩, ⟨some 30, .mov (.t 0), none, false⟩, ⟨some 31, .mov (.t 1), none, false⟩, ⟨some 32, .mov (.t 2), none, false⟩, ⟨some 33, .bin .sub (.t 32) (.c (.int .i64 1)), none, false⟩, ⟨some 34, .nilck (.t 26), none, false⟩, ⟨some 35, .faddr 0 (.t 34), none, false⟩, ⟨some 36, .faddr 7 (.t 35), none, false⟩, ⟨none, .store 1 (.t 36) (.t 31), none, false⟩, ⟨some 37, .nilck (.t 27), none, false⟩, ⟨some 38, .faddr 0 (.t 37), none, false⟩, ⟨some 39, .faddr 8 (.t 38), none, false⟩, ⟨none, .store 1 (.t 39) (.t 33), none, false⟩, ⟨some 40, .nilck (.t 28), none, false⟩, ⟨some 41, .faddr 0 (.t 40), none, false⟩, ⟨some 42, .faddr 3 (.t 41), none, false⟩, ⟨none, .store 1 (.t 42) (.c (.int .i64 0)), none, false⟩, ⟨some 43, .nilck (.t 29), none, false⟩, ⟨some 44, .faddr 0 (.t 43), none, false⟩, ⟨some 45, .faddr 4 (.t 44), none, false⟩, ⟨none, .store 1 (.t 45) (.c (.int .i64 0)), none, false⟩, ⟨some 46, .nilck (.t 30), none, false⟩, ⟨some 47, .faddr 0 (.t 46), none, false⟩, ⟨some 48, .faddr 5 (.t 47), none, false⟩, ⟨none, .store 1 (.t 48) (.c (.bool false)), none, false⟩] 0 []) .skip)), []⟩
theorem rc_tregion_ok : compFn PG.P [⟨0, 0, [0, 1, 2, 16], []⟩, ⟨1, 0, [0, 1, 2], []⟩, ⟨2, 0, [0, 1, 2, 25], []⟩, ⟨3, 0, [], []⟩] 64 = some rc_tregion := by kernel_rfl
noncomputable def rc_tclear_l0 : RC := (.seq (.reg [⟨some 12, .bin .lss (.t 11) (.t 10), none, false⟩] 0 [0, 1, 10, 11, 12]) (.seq (.cond (.t 12) .skip (.ext 0)) (.seq (.blk 1 (.seq (.reg [⟨some 13, .mov (.t 11), none, false⟩, ⟨some 4, .mov (.t 13), none, false⟩] 0 [0, 1, 4, 10, 11]) (.seq (.reg [⟨some 14, .mov (.t 1), none, false⟩, ⟨some 15, .bin .eql (.t 14) (.c (.int .i64 3)), none, false⟩, ⟨some 16, .mov (.t 15), none, false⟩, ⟨some 17, .mov (.t 1), some (16, false), false⟩, ⟨some 18, .bin .eql (.t 17) (.c (.int .i64 0)), some (16, false), false⟩, ⟨some 19, .mov (.t 18), some (16, false), false⟩, ⟨some 20, .mov (.t 4), some (19, true), false⟩, ⟨some 21, .mov (.t 0), some (19, true), false⟩, ⟨some 22, .nilck (.t 21), some (19, true), false⟩, ⟨some 23, .faddr 0 (.t 22), some (19, true), false⟩, ⟨some 24, .faddr 4 (.t 23), some (19, true), false⟩, ⟨some 25, .load false 1 (.t 24), some (19, true), false⟩, ⟨some 26, .bin .eql (.t 20) (.t 25), some (19, true), false⟩, ⟨some 27, .pick (.t 19) (.t 26) (.c (.bool false)), some (16, false), false⟩, ⟨some 28, .pick (.t 16) (.c (.bool true)) (.t 27), none, false⟩] 0 [0, 1, 4, 10, 11, 28]) (.cond (.t 28) (.reg [⟨some 29, .mov (.t 0), none, false⟩, ⟨some 30, .nilck (.t 29), none, false⟩, ⟨some 31, .faddr 0 (.t 30), none, false⟩, ⟨some 32, .faddr 9 (.t 31), none, false⟩, ⟨some 33, .load false 1 (.t 32), none, false⟩, ⟨some 34, .mov (.t 4), none, false⟩, ⟨some 35, .iaddr 1 (.t 33) (.t 34), none, false⟩, ⟨none, .store 1 (.t 35) (.c (.bool false)), none, false⟩] 0 [0, 1, 10, 11]) .skip)))) (.reg [⟨some 36, .bin .add (.t 11) (.c (.int .i64 1)), none, false⟩, ⟨some 11, .mov (.t 36), none, false⟩] 0 [0, 1, 10, 11]))))
noncomputable def rc_tclear : RFn := ⟨2, 37, .seq (.reg [⟨some 5, .mov (.t 0), none, false⟩, ⟨some 6, .nilck (.t 5), none, false⟩, ⟨some 7, .faddr 0 (.t 6), none, false⟩, ⟨some 8, .faddr 9 (.t 7), none, false⟩, ⟨some 9, .load false 1 (.t 8), none, false⟩, ⟨some 10, .len (.t 9), none, false⟩, ⟨some 11, .mov (.c (.int .i64 0)), none, false⟩] 0 [0, 1, 10, 11]) (.blk 0 (.loop rc_tclear_l0)), []⟩
theorem rc_tclear_ok : compFn PG.P [⟨0, 0, [0, 1, 10, 11], []⟩, ⟨1, 0, [0, 1, 10, 11, 12], []⟩, ⟨2, 0, [0, 1, 4, 10, 11], []⟩, ⟨3, 0, [0, 1, 4, 10, 11, 28], []⟩, ⟨4, 0, [0, 1, 10, 11], []⟩, ⟨5, 0, [0, 1, 10, 11], []⟩] 65 = some rc_tclear := by kernel_rfl
def rowsF (s : Sc) (b n : Int) : Sc :=
  if b = 83 then { s with cells := upF s.cells s.cols s.top s.bot n }
  else if b = 84 then { s with cells := dnF s.cells s.cols s.top s.bot n }
  else if s.y < s.top ∨ s.bot < s.y then s
  else if b = 76 then { s with cells := dnF s.cells s.cols s.y s.bot n, x := 0 }
  else { s with cells := upF s.cells s.cols s.y s.bot n, x := 0 }
theorem trows_83 {T0 T : Objs} {o : Nat} {s : Sc} {p : Pa} {n : Int} {K : DV → Objs → Prop} (ok : ScOk s) (h : TermAt T0 T o s p) (hK : ∀ T', T.length ≤ T'.length → TermAt T0 T' o { s with cells := upF s.cells s.cols s.top s.bot n } p → K (.tup []) T') : CallK PG 60 [.ptr o 0 0, .int .u8 83, .int .i64 n] T K := by
  obtain ⟨k0, q, tq, od, m, pr, d1, d2, d3, pa, t⟩ := h
  have hb := t.box
  unfold tmBox at hb
  refine CallK.of_fn FOk.nil rc_trows_ok (by simp [rc_trows]) ?_
  unfold rc_trows
  dsimp only
  simp -implicitDefEqProofs -dsimp only [tb_at, tb_all hb, vcS, ↓vcP1, ↓vcP2, ↓reduceIte, reduceCtorEq, Nat.reduceLT, Nat.reduceLeDiff, Nat.reduceEqDiff, Nat.reduceAdd, Nat.reduceSub, Nat.reduceMul, Int.reduceLT, Int.reduceLE, Int.reduceEq, Int.reduceToNat, Int.reduceAdd, Int.reduceSub, Int.reduceNeg, List.reduceReplicate, Nat.reducePow, Int.reduceMul]
  refine gup_K t.cells ok.g ok.tb ok.b fun T' p hp hc k => ?_
  simp -implicitDefEqProofs -dsimp only [tb_at, tb_all (k.at hb (by simp)), vcS, ↓vcP1, ↓vcP2, ↓reduceIte, reduceCtorEq, Nat.reduceLT, Nat.reduceLeDiff, Nat.reduceEqDiff, Nat.reduceAdd, Nat.reduceSub, Nat.reduceMul, Int.reduceLT, Int.reduceLE, Int.reduceEq, Int.reduceToNat, Int.reduceAdd, Int.reduceSub, Int.reduceNeg, List.reduceReplicate, Nat.reducePow, Int.reduceMul]
  exact ⟨by simpa using k.1, hK _ (by simpa using k.1) (.newG (s2 := s) pa k0 t k hp hc (upF_len ok.g ok.b ok.tb) rfl rfl rfl)⟩
theorem trows_84 {T0 T : Objs} {o : Nat} {s : Sc} {p : Pa} {n : Int} {K : DV → Objs → Prop} (ok : ScOk s) (h : TermAt T0 T o s p) (hK : ∀ T', T.length ≤ T'.length → TermAt T0 T' o { s with cells := dnF s.cells s.cols s.top s.bot n } p → K (.tup []) T') : CallK PG 60 [.ptr o 0 0, .int .u8 84, .int .i64 n] T K := by
  obtain ⟨k0, q, tq, od, m, pr, d1, d2, d3, pa, t⟩ := h
  have hb := t.box
  unfold tmBox at hb
  refine CallK.of_fn FOk.nil rc_trows_ok (by simp [rc_trows]) ?_
  unfold rc_trows
  dsimp only
  simp -implicitDefEqProofs -dsimp only [tb_at, tb_all hb, vcS, ↓vcP1, ↓vcP2, ↓reduceIte, reduceCtorEq, Nat.reduceLT, Nat.reduceLeDiff, Nat.reduceEqDiff, Nat.reduceAdd, Nat.reduceSub, Nat.reduceMul, Int.reduceLT, Int.reduceLE, Int.reduceEq, Int.reduceToNat, Int.reduceAdd, Int.reduceSub, Int.reduceNeg, List.reduceReplicate, Nat.reducePow, Int.reduceMul]
  refine gdown_K t.cells ok.g ok.tb ok.b fun T' p hp hc k => ?_
  simp -implicitDefEqProofs -dsimp only [tb_at, tb_all (k.at hb (by simp)), vcS, ↓vcP1, ↓vcP2, ↓reduceIte, reduceCtorEq, Nat.reduceLT, Nat.reduceLeDiff, Nat.reduceEqDiff, Nat.reduceAdd, Nat.reduceSub, Nat.reduceMul, Int.reduceLT, Int.reduceLE, Int.reduceEq, Int.reduceToNat, Int.reduceAdd, Int.reduceSub, Int.reduceNeg, List.reduceReplicate, Nat.reducePow, Int.reduceMul]
  exact ⟨by simpa using k.1, hK _ (by simpa using k.1) (.newG (s2 := s) pa k0 t k hp hc (dnF_len ok.g ok.b ok.tb) rfl rfl rfl)⟩
theorem trows_76 {T0 T : Objs} {o : Nat} {s : Sc} {p : Pa} {n : Int} {K : DV → Objs → Prop} (ok : ScOk s) (hy : ¬ (s.y < s.top ∨ s.bot < s.y)) (h : TermAt T0 T o s p) (hK : ∀ T', T.length ≤ T'.length → TermAt T0 T' o { s with cells := dnF s.cells s.cols s.y s.bot n, x := 0 } p → K (.tup []) T') : CallK PG 60 [.ptr o 0 0, .int .u8 76, .int .i64 n] T K := by
  obtain ⟨k0, q, tq, od, m, pr, d1, d2, d3, pa, t⟩ := h
  have hb := t.box
  unfold tmBox at hb
  have y1 : ¬ (s.y : Int) < s.top := by omega
  have y2 : ¬ (s.bot : Int) < s.y := by omega
  refine CallK.of_fn FOk.nil rc_trows_ok (by simp [rc_trows]) ?_
  unfold rc_trows
  dsimp only
  simp -implicitDefEqProofs -dsimp only [tb_at, tb_all hb, y1, y2, vcS, ↓vcP1, ↓vcP2, ↓reduceIte, reduceCtorEq, Nat.reduceLT, Nat.reduceLeDiff, Nat.reduceEqDiff, Nat.reduceAdd, Nat.reduceSub, Nat.reduceMul, Int.reduceLT, Int.reduceLE, Int.reduceEq, Int.reduceToNat, Int.reduceAdd, Int.reduceSub, Int.reduceNeg, List.reduceReplicate, Nat.reducePow, Int.reduceMul]
  refine gdown_K t.cells ok.g (by omega) ok.b fun T' p hp hc k => ?_
  have kk : K (.tup []) (T'.set o (some (.box (tmBox { s with x := 0 } p tq od m pr d1 d2 d3)))) := hK _ (by simpa using k.1) (.newG (s2 := { s with x := 0 }) pa k0 t k hp hc (dnF_len ok.g ok.b (by omega)) rfl rfl rfl)
  have kl := k.1
  simp -implicitDefEqProofs -dsimp only [tb_at, tb_all (k.at hb (by simp)), List.set_set, vcS, ↓vcP1, ↓vcP2, ↓reduceIte, reduceCtorEq, Nat.reduceLT, Nat.reduceLeDiff, Nat.reduceEqDiff, Nat.reduceAdd, Nat.reduceSub, Nat.reduceMul, Int.reduceLT, Int.reduceLE, Int.reduceEq, Int.reduceToNat, Int.reduceAdd, Int.reduceSub, Int.reduceNeg, List.reduceReplicate, Nat.reducePow, Int.reduceMul]
  repeat' (first | exact kk | (simpa using kl) | apply And.intro)
theorem trows_77 {T0 T : Objs} {o : Nat} {s : Sc} {p : Pa} {n : Int} {K : DV → Objs → Prop} (ok : ScOk s) (hy : ¬ (s.y < s.top ∨ s.bot < s.y)) (h : TermAt T0 T o s p) (hK : ∀ T', T.length ≤ T'.length → TermAt T0 T' o { s with cells := upF s.cells s.cols s.y s.bot n, x := 0 } p → K (.tup []) T') : CallK PG 60 [.ptr o 0 0, .int .u8 77, .int .i64 n] T K := by
  obtain ⟨k0, q, tq, od, m, pr, d1, d2, d3, pa, t⟩ := h
  have hb := t.box
  unfold tmBox at hb
  have y1 : ¬ (s.y : Int) < s.top := by omega
  have y2 : ¬ (s.bot : Int) < s.y := by omega
  refine CallK.of_fn FOk.nil rc_trows_ok (by simp [rc_trows]) ?_
  unfold rc_trows
  dsimp only
  simp -implicitDefEqProofs -dsimp only [tb_at, tb_all hb, y1, y2, vcS, ↓vcP1, ↓vcP2, ↓reduceIte, reduceCtorEq, Nat.reduceLT, Nat.reduceLeDiff, Nat.reduceEqDiff, Nat.reduceAdd, Nat.reduceSub, Nat.reduceMul, Int.reduceLT, Int.reduceLE, Int.reduceEq, Int.reduceToNat, Int.reduceAdd, Int.reduceSub, Int.reduceNeg, List.reduceReplicate, Nat.reducePow, Int.reduceMul]
  refine gup_K t.cells ok.g (by omega) ok.b fun T' p hp hc k => ?_
  have kk : K (.tup []) (T'.set o (some (.box (tmBox { s with x := 0 } p tq od m pr d1 d2 d3)))) := hK _ (by simpa using k.1) (.newG (s2 := { s with x := 0 }) pa k0 t k hp hc (upF_len ok.g ok.b (by omega)) rfl rfl rfl)
  have kl := k.1
  simp -implicitDefEqProofs -dsimp only [tb_at, tb_all (k.at hb (by simp)), List.set_set, vcS, ↓vcP1, ↓vcP2, ↓reduceIte, reduceCtorEq, Nat.reduceLT, Nat.reduceLeDiff, Nat.reduceEqDiff, Nat.reduceAdd, Nat.reduceSub, Nat.reduceMul, Int.reduceLT, Int.reduceLE, Int.reduceEq, Int.reduceToNat, Int.reduceAdd, Int.reduceSub, Int.reduceNeg, List.reduceReplicate, Nat.reducePow, Int.reduceMul]
  repeat' (first | exact kk | (simpa using kl) | apply And.intro)
theorem trows_no {T0 T : Objs} {o : Nat} {s : Sc} {p : Pa} {b n : Int} {K : DV → Objs → Prop} (b1 : ¬ b = 83) (b2 : ¬ b = 84) (hy : s.y < s.top ∨ s.bot < s.y) (h : TermAt T0 T o s p) (hK : K (.tup []) T) : CallK PG 60 [.ptr o 0 0, .int .u8 b, .int .i64 n] T K := by
  obtain ⟨k0, q, tq, od, m, pr, d1, d2, d3, pa, t⟩ := h
  have hb := t.box
  unfold tmBox at hb
  rcases Nat.lt_or_ge s.y s.top with h1 | h1
  · have y1 : (s.y : Int) < s.top := by omega
    refine CallK.of_fn FOk.nil rc_trows_ok (by simp [rc_trows]) ?_
    unfold rc_trows
    dsimp only
    simp -implicitDefEqProofs -dsimp only [tb_at, tb_all hb, y1, eq_false b1, eq_false b2, vcS, ↓vcP1, ↓vcP2, ↓reduceIte, reduceCtorEq, Nat.reduceLT, Nat.reduceLeDiff, Nat.reduceEqDiff, Nat.reduceAdd, Nat.reduceSub, Nat.reduceMul, Int.reduceLT, Int.reduceLE, Int.reduceEq, Int.reduceToNat, Int.reduceAdd, Int.reduceSub, Int.reduceNeg, List.reduceReplicate, Nat.reducePow, Int.reduceMul]
    exact hK
  · have y1 : ¬ (s.y : Int) < s.top := by omega
    have y2 : (s.bot : Int) < s.y := by omega
    refine CallK.of_fn FOk.nil rc_trows_ok (by simp [rc_trows]) ?_
    unfold rc_trows
    dsimp only
    simp -implicitDefEqProofs -dsimp only [tb_at, tb_all hb, y1, y2, eq_false b1, eq_false b2, vcS, ↓vcP1, ↓vcP2, ↓reduceIte, reduceCtorEq, Nat.reduceLT, Nat.reduceLeDiff, Nat.reduceEqDiff, Nat.reduceAdd, Nat.reduceSub, Nat.reduceMul, Int.reduceLT, Int.reduceLE, Int.reduceEq, Int.reduceToNat, Int.reduceAdd, Int.reduceSub, Int.reduceNeg, List.reduceReplicate, Nat.reducePow, Int.reduceMul]
    exact hK
theorem trows_K {T0 T : Objs} {o : Nat} {s : Sc} {p : Pa} {b n : Int} {K : DV → Objs → Prop} (ok : ScOk s) (hb : b = 76 ∨ b = 77 ∨ b = 83 ∨ b = 84) (h : TermAt T0 T o s p) (hK : ∀ T', T.length ≤ T'.length → TermAt T0 T' o (rowsF s b n) p → K (.tup []) T') : CallK PG 60 [.ptr o 0 0, .int .u8 b, .int .i64 n] T K := by
  unfold rowsF at hK
  rcases Decidable.em (s.y < s.top ∨ s.bot < s.y) with hy | hy
  · rcases hb with rfl | rfl | rfl | rfl
    · rw [if_neg (by decide), if_neg (by decide), if_pos hy] at hK
      exact trows_no (by decide) (by decide) hy h (hK _ (Nat.le_refl _) h)
    · rw [if_neg (by decide), if_neg (by decide), if_pos hy] at hK
      exact trows_no (by decide) (by decide) hy h (hK _ (Nat.le_refl _) h)
    · exact trows_83 ok h hK
    · exact trows_84 ok h hK
  · rcases hb with rfl | rfl | rfl | rfl
    · rw [if_neg (by decide), if_neg (by decide), if_neg hy] at hK
      exact trows_76 ok hy h hK
    · rw [if_neg (by decide), if_neg (by decide), if_neg hy] at hK
      exact trows_77 ok hy h hK
    · exact trows_83 ok h hK
    · exact trows_84 ok h hK
def regF (s : Sc) (t b : Int) : Sc :=
  let bt := (if b = 0 ∨ (s.rows : Int) < b then (s.rows : Int) else b) - 1
  if t < bt then { s with y := 0, x := 0, wrap := false, top := t.toNat, bot := bt.toNat } else s
theorem tregion_K {T0 T : Objs} {o : Nat} {s : Sc} {p : Pa} {tp b : Int} {K : DV → Objs → Prop} (ok : ScOk s) (ht : 0 ≤ tp) (hb0 : 0 ≤ b) (h : TermAt T0 T o s p) (hK : ∀ T', T.length ≤ T'.length → TermAt T0 T' o (regF s tp b) p → K (.tup []) T') : CallK PG 64 [.ptr o 0 0, .int .i64 tp, .int .i64 b] T K := by
  obtain ⟨k0, q, tq, od, m, pr, d1, d2, d3, pa, t⟩ := id h
  have hb := t.box
  unfold tmBox at hb
  have hr := ok.g.r
  unfold regF at hK
  dsimp only at hK
  have key : ∀ bt : Int, (0 ≤ bt ∧ bt ≤ s.rows) → (∀ T', T.length ≤ T'.length → TermAt T0 T' o (if tp < bt - 1 then { s with y := 0, x := 0, wrap := false, top := tp.toNat, bot := (bt - 1).toNat } else s) p → K (.tup []) T') →
      IntKind.i64.wrap (bt - 1) = bt - 1 ∧ (tp < bt - 1 → K (.tup []) (T.set o (some (.box [.int .i64 s.rows, .int .i64 s.cols, .own q 0 s.cells.length, .int .i64 0, .int .i64 0, .bool false, .int .u16 s.attr, .int .i64 tp, .int .i64 (bt - 1), .own tq 0 s.tabs.length,
        .int .i64 s.sy, .int .i64 s.sx, .int .u16 s.sattr, .bool s.auto, .bool s.shown, .bool s.alt, od, .int .i64 s.oy, .int .i64 s.ox, .int .i64 m, .int .u8 pr, d1, d2, d3])))) ∧ (¬ tp < bt - 1 → K (.tup []) T) := fun bt hbt hK => by
    refine ⟨wI64 (by omega) (by omega), fun hc => ?_, fun hc => ?_⟩
    · rw [if_pos hc] at hK
      refine hK _ (by simp) (.mk (k0.put t.no _) pa (t.put ?_ rfl rfl rfl rfl))
      unfold tmBox
      dsimp only
      rw [Int.toNat_of_nonneg ht, Int.toNat_of_nonneg (show 0 ≤ bt - 1 by omega)]
      rfl
    · rw [if_neg hc] at hK
      exact hK _ (Nat.le_refl _) h
  rcases Decidable.em (b = 0) with h1 | h1
  · rw [show (if b = 0 ∨ (s.rows : Int) < b then (s.rows : Int) else b) = s.rows from if_pos (.inl h1)] at hK
    obtain ⟨k1, k2, k3⟩ := key _ (by omega) hK
    refine CallK.of_fn FOk.nil rc_tregion_ok (by simp [rc_tregion]) ?_
    unfold rc_tregion
    dsimp only
    simp -implicitDefEqProofs -dsimp only [tb_at, tb_all hb, eq_true h1, k1, List.set_set, vcS, ↓vcP1, ↓vcP2, ↓reduceIte, reduceCtorEq, Nat.reduceLT, Nat.reduceLeDiff, Nat.reduceEqDiff, Nat.reduceAdd, Nat.reduceSub, Nat.reduceMul, Int.reduceLT, Int.reduceLE, Int.reduceEq, Int.reduceToNat, Int.reduceAdd, Int.reduceSub, Int.reduceNeg, List.reduceReplicate, Nat.reducePow, Int.reduceMul]
    exact ⟨fun c => ⟨by simp, k2 c⟩, k3⟩
  · rcases Decidable.em ((s.rows : Int) < b) with h2 | h2
    · rw [show (if b = 0 ∨ (s.rows : Int) < b then (s.rows : Int) else b) = s.rows from if_pos (.inr h2)] at hK
      obtain ⟨k1, k2, k3⟩ := key _ (by omega) hK
      refine CallK.of_fn FOk.nil rc_tregion_ok (by simp [rc_tregion]) ?_
      unfold rc_tregion
      dsimp only
      simp -implicitDefEqProofs -dsimp only [tb_at, tb_all hb, eq_false h1, h2, k1, List.set_set, vcS, ↓vcP1, ↓vcP2, ↓reduceIte, reduceCtorEq, Nat.reduceLT, Nat.reduceLeDiff, Nat.reduceEqDiff, Nat.reduceAdd, Nat.reduceSub, Nat.reduceMul, Int.reduceLT, Int.reduceLE, Int.reduceEq, Int.reduceToNat, Int.reduceAdd, Int.reduceSub, Int.reduceNeg, List.reduceReplicate, Nat.reducePow, Int.reduceMul]
      exact ⟨fun c => ⟨by simp, k2 c⟩, k3⟩
    · rw [show (if b = 0 ∨ (s.rows : Int) < b then (s.rows : Int) else b) = b from if_neg (by omega)] at hK
      obtain ⟨k1, k2, k3⟩ := key _ (by omega) hK
      refine CallK.of_fn FOk.nil rc_tregion_ok (by simp [rc_tregion]) ?_
      unfold rc_tregion
      dsimp only
      simp -implicitDefEqProofs -dsimp only [tb_at, tb_all hb, eq_false h1, h2, k1, List.set_set, vcS, ↓vcP1, ↓vcP2, ↓reduceIte, reduceCtorEq, Nat.reduceLT, Nat.reduceLeDiff, Nat.reduceEqDiff, Nat.reduceAdd, Nat.reduceSub, Nat.reduceMul, Int.reduceLT, Int.reduceLE, Int.reduceEq, Int.reduceToNat, Int.reduceAdd, Int.reduceSub, Int.reduceNeg, List.reduceReplicate, Nat.reducePow, Int.reduceMul]
      exact ⟨fun c => ⟨by simp, k2 c⟩, k3⟩
def clrT (s : Sc) (k : Int) (i : Nat) : List Bool := (List.range s.tabs.length).map fun j => if j < i ∧ (k = 3 ∨ (k = 0 ∧ j = s.x)) then false else s.tabs.getD j false
theorem clrT_len (s : Sc) (k : Int) (i : Nat) : (clrT s k i).length = s.tabs.length := by simp [clrT]
theorem clrT_0 (s : Sc) (k : Int) : clrT s k 0 = s.tabs := by
  refine List.ext_getElem (by simp [clrT]) fun i h1 h2 => ?_
  simp [clrT, h2]
theorem clrT_same {s : Sc} {k : Int} {i : Nat} (h : ¬ (k = 3 ∨ (k = 0 ∧ i = s.x))) : clrT s k (i + 1) = clrT s k i := by
  refine List.ext_getElem (by simp [clrT]) fun j h1 h2 => ?_
  simp only [clrT, List.getElem_map, List.getElem_range]
  by_cases e : j = i
  · subst e; rw [if_neg (fun hh => h hh.2), if_neg (fun hh => h hh.2)]
  · have : (j < i + 1 ∧ (k = 3 ∨ (k = 0 ∧ j = s.x))) ↔ (j < i ∧ (k = 3 ∨ (k = 0 ∧ j = s.x))) := ⟨fun hh => ⟨by omega, hh.2⟩, fun hh => ⟨by omega, hh.2⟩⟩
    simp only [this]
theorem clrT_set {s : Sc} {k : Int} {i : Nat} (hi : i < s.tabs.length) (h : k = 3 ∨ (k = 0 ∧ i = s.x)) : (clrT s k i).set i false = clrT s k (i + 1) := by
  refine List.ext_getElem (by simp [clrT]) fun j h1 h2 => ?_
  rw [List.getElem_set]
  simp only [clrT, List.getElem_map, List.getElem_range]
  by_cases e : i = j
  · subst e; rw [if_pos rfl, if_pos ⟨by omega, h⟩]
  · rw [if_neg e]
    have : (j < i + 1 ∧ (k = 3 ∨ (k = 0 ∧ j = s.x))) ↔ (j < i ∧ (k = 3 ∨ (k = 0 ∧ j = s.x))) := ⟨fun hh => ⟨by omega, hh.2⟩, fun hh => ⟨by omega, hh.2⟩⟩
    simp only [this]
def clearF (s : Sc) (k : Int) : Sc := { s with tabs := clrT s k s.tabs.length }
theorem tclear_K {T0 T : Objs} {o : Nat} {s : Sc} {p : Pa} {k : Int} {K : DV → Objs → Prop} (ok : ScOk s) (h : TermAt T0 T o s p) (hK : ∀ T', T.length ≤ T'.length → TermAt T0 T' o (clearF s k) p → K (.tup []) T') : CallK PG 65 [.ptr o 0 0, .int .i64 k] T K := by
  obtain ⟨k0, q, tq, od, m, pr, d1, d2, d3, pa, t⟩ := id h
  have hb := t.box
  unfold tmBox at hb
  have hc := ok.g.c
  have htl := ok.tabs
  refine CallK.of_fn FOk.nil rc_tclear_ok (by simp [rc_tclear]) ?_
  unfold rc_tclear
  dsimp only
  simp -implicitDefEqProofs -dsimp only [tb_at, tb_all hb, vcS, ↓vcP1, ↓vcP2, ↓reduceIte, reduceCtorEq, Nat.reduceLT, Nat.reduceLeDiff, Nat.reduceEqDiff, Nat.reduceAdd, Nat.reduceSub, Nat.reduceMul, Int.reduceLT, Int.reduceLE, Int.reduceEq, Int.reduceToNat, Int.reduceAdd, Int.reduceSub, Int.reduceNeg, List.reduceReplicate, Nat.reducePow, Int.reduceMul]
  refine LoopWp.inv FOk.nil (S := fun i : Nat => ⟨[(0, .ptr o 0 0), (1, .int .i64 k), (10, .int .i64 s.tabs.length), (11, .int .i64 i)], T.set tq (some (.arr 1 (boRows (clrT s k i))))⟩)
    (I := fun i => i ≤ s.tabs.length) (μ := fun i => s.tabs.length - i) 0 (by omega) ?_ ?_
  · simp -implicitDefEqProofs -dsimp only [wkT_self, clrT_0, vcS, ↓vcP1, ↓vcP2, ↓reduceIte, reduceCtorEq, Nat.reduceLT, Nat.reduceLeDiff, Nat.reduceEqDiff, Nat.reduceAdd, Nat.reduceSub, Nat.reduceMul, Int.reduceLT, Int.reduceLE, Int.reduceEq, Int.reduceToNat, Int.reduceAdd, Int.reduceSub, Int.reduceNeg, List.reduceReplicate, Nat.reducePow, Int.reduceMul]
    rw [tb_self t.tabs]
    exact objsWk_refl _
  · intro i hi
    unfold rc_tclear_l0
    have ti := t.tab (clrT_len s k i)
    have hbi := ti.box
    have hti := ti.tabs
    unfold tmBox at hbi
    simp only [clrT_len] at hbi
    have i0 : (0 : Int) ≤ i := by omega
    have w1 : IntKind.i64.wrap ((i : Int) + 1) = ((i + 1 : Nat) : Int) := by rw [wI64 (by omega) (by omega)]; omega
    rcases Nat.lt_or_ge i s.tabs.length with hlt | hge
    · have hii : (i : Int) < s.tabs.length := by omega
      have hg := boRows_get (L := clrT s k i) (i := i) (by rw [clrT_len]; exact hlt)
      have hset : (k = 3 ∨ (k = 0 ∧ i = s.x)) → (boRows (clrT s k i)).set i [.bool false] = boRows (clrT s k (i + 1)) := fun hh => by rw [boRows_set, clrT_set hlt hh]
      rcases Decidable.em (k = 3) with c1 | c1
      · have hs := hset (.inl c1)
        simp -implicitDefEqProofs -dsimp only [tb_at, tb_all hbi, tb_all hti, i0, w1, hii, hg, eq_true c1, hs, boRows_len, Nat.zero_add, wkT_self, List.set_set, vcS, ↓vcP1, ↓vcP2, ↓reduceIte, reduceCtorEq, Nat.reduceLT, Nat.reduceLeDiff, Nat.reduceEqDiff, Nat.reduceAdd, Nat.reduceSub, Nat.reduceMul, Int.reduceLT, Int.reduceLE, Int.reduceEq, Int.reduceToNat, Int.reduceAdd, Int.reduceSub, Int.reduceNeg, List.reduceReplicate, Nat.reducePow, Int.reduceMul]
        exact ⟨i + 1, ⟨rfl, objsWk_refl _⟩, hlt, by omega⟩
      · rcases Decidable.em (k = 0) with c2 | c2
        · rcases Decidable.em (i = s.x) with c3 | c3
          · have hs := hset (.inr ⟨c2, c3⟩)
            have c3' : (i : Int) = s.x := by omega
            have e3 : (¬ (3 : Int) = 0) := by decide
            simp -implicitDefEqProofs -dsimp only [tb_at, tb_all hbi, tb_all hti, i0, w1, hii, hg, eq_false c1, eq_true c2, eq_true c3', hs, boRows_len, Nat.zero_add, wkT_self, List.set_set, vcS, ↓vcP1, ↓vcP2, ↓reduceIte, reduceCtorEq, Nat.reduceLT, Nat.reduceLeDiff, Nat.reduceEqDiff, Nat.reduceAdd, Nat.reduceSub, Nat.reduceMul, Int.reduceLT, Int.reduceLE, Int.reduceEq, Int.reduceToNat, Int.reduceAdd, Int.reduceSub, Int.reduceNeg, List.reduceReplicate, Nat.reducePow, Int.reduceMul]
            exact ⟨i + 1, ⟨rfl, objsWk_refl _⟩, hlt, by omega⟩
          · have c3' : ¬ (i : Int) = s.x := by omega
            have same := clrT_same (s := s) (k := k) (i := i) (by omega)
            simp -implicitDefEqProofs -dsimp only [tb_at, tb_all hbi, tb_all hti, i0, w1, hii, hg, eq_false c1, eq_true c2, eq_false c3', boRows_len, Nat.zero_add, wkT_self, List.set_set, vcS, ↓vcP1, ↓vcP2, ↓reduceIte, reduceCtorEq, Nat.reduceLT, Nat.reduceLeDiff, Nat.reduceEqDiff, Nat.reduceAdd, Nat.reduceSub, Nat.reduceMul, Int.reduceLT, Int.reduceLE, Int.reduceEq, Int.reduceToNat, Int.reduceAdd, Int.reduceSub, Int.reduceNeg, List.reduceReplicate, Nat.reducePow, Int.reduceMul]
            exact ⟨i + 1, ⟨rfl, by rw [same]; exact objsWk_refl _⟩, hlt, by omega⟩
        · have same := clrT_same (s := s) (k := k) (i := i) (by omega)
          simp -implicitDefEqProofs -dsimp only [tb_at, tb_all hbi, tb_all hti, i0, w1, hii, hg, eq_false c1, eq_false c2, boRows_len, Nat.zero_add, wkT_self, List.set_set, vcS, ↓vcP1, ↓vcP2, ↓reduceIte, reduceCtorEq, Nat.reduceLT, Nat.reduceLeDiff, Nat.reduceEqDiff, Nat.reduceAdd, Nat.reduceSub, Nat.reduceMul, Int.reduceLT, Int.reduceLE, Int.reduceEq, Int.reduceToNat, Int.reduceAdd, Int.reduceSub, Int.reduceNeg, List.reduceReplicate, Nat.reducePow, Int.reduceMul]
          exact ⟨i + 1, ⟨rfl, by rw [same]; exact objsWk_refl _⟩, hlt, by omega⟩
    · have hii : ¬ (i : Int) < s.tabs.length := by omega
      obtain rfl : i = s.tabs.length := by omega
      simp -implicitDefEqProofs -dsimp only [tb_at, hii, wkT_self, vcS, ↓vcP1, ↓vcP2, ↓reduceIte, reduceCtorEq, Nat.reduceLT, Nat.reduceLeDiff, Nat.reduceEqDiff, Nat.reduceAdd, Nat.reduceSub, Nat.reduceMul, Int.reduceLT, Int.reduceLE, Int.reduceEq, Int.reduceToNat, Int.reduceAdd, Int.reduceSub, Int.reduceNeg, List.reduceReplicate, Nat.reducePow, Int.reduceMul]
      exact ⟨by simp, hK _ (by simp) (.mk (k0.put t.nt _) pa ti)⟩
end Go.Proofs.YtjmnbpilnneonaaDoor
