/- Texts H4 in one. -/
import Derived.Test.YtjmnbpilnneonaaDoorN3
import Derived.Test.YtjmnbpilnneonaaDoorN7
set_option linter.unusedVariables false
set_option linter.unusedSimpArgs false
set_option maxRecDepth 10000
namespace Go.Proofs.YtjmnbpilnneonaaDoor
open Go.RowKit
noncomputable def rc_tesc : RFn := ⟨2, 190, .seq (.reg [⟨some 4, .mov (.t 1), none, false⟩] 0 [0, 4]) (.blk 0 (.seq (.reg [⟨some 6, .bin .eql (.t 4) (.c (.int .u8 55)), none, false⟩, ⟨some 5, .mov (.t 6), none, false⟩] 0 [0, 4, 5]) (.cond (.t 5) (.regD (.take ⟨some 7, .mov (.t 0), none, false⟩ [] (.take ⟨some 8, .mov (.t 0), none, false⟩ [] (.take ⟨some 9, .mov (.t 0), none, false⟩ [] (.take ⟨some 10, .mov (.t 0), none, false⟩ [] (.take ⟨some 11, .nilck (.t 10), none, false⟩ [] (.take ⟨some 12, .faddr 0 (.t 11), none, false⟩ [] (.take ⟨some 13, .faddr 3 (.t 12), none, false⟩ [] (.take ⟨some 14, .load false 1 (.t 13), none, false⟩ [] (.take ⟨some 15, .mov (.t 0), none, false⟩ [] (.take ⟨some 16, .nilck (.t 15), none, false⟩ [] (.take ⟨some 17, .faddr 0 (.t 16), none, false⟩ [] (.take ⟨some 18, .faddr 4 (.t 17), none, false⟩ [] (.take ⟨some 19, .load false 1 (.t 18), none, false⟩ [] (.take ⟨some 20, .mov (.t 0), none, false⟩ [] (.take ⟨some 21, .nilck (.t 20), none, false⟩ [] (.take ⟨some 22, .faddr 0 (.t 21), none, false⟩ [] (.take ⟨some 23, .faddr 6 (.t 22), none, false⟩ [] (.take ⟨some 24, .load false 1 (.t 23), none, false⟩ [] (.take ⟨some 25, .nilck (.t 7), none, false⟩ [] (.take ⟨some 26, .faddr 0 (.t 25), none, false⟩ [] (.take ⟨some 27, .faddr 10 (.t 26), none, false⟩ [] (.op ⟨none, .store 1 (.t 27) (.t 14), none, false⟩ (.take ⟨some 28, .nilck (.t 8), none, false⟩ [] (.take ⟨some 29, .faddr 0 (.t 28), none, false⟩ [] (.take ⟨some 30, .faddr 11 (.t 29), none, false⟩ [] (.op ⟨none, .store 1 (.t 30) (.t 19), none, false⟩ (.take ⟨some 31, .nilck (.t 9), none, false⟩ [] (.take ⟨some 32, .faddr 0 (.t 31), none, false⟩ [] (.take ⟨some 33, .faddr 12 (.t 32), none, false⟩ [] (.op ⟨none, .store 1 (.t 33) (.t 24), none, false⟩ .done)))))))))))))))))))))))))))))) 0 []) (.seq (.reg [⟨some 35, .bin .eql (.t 4) (.c (.int .u8 56)), none, false⟩, ⟨some 34, .mov (.t 35), none, false⟩] 0 [0, 4, 34]) (.cond (.t 34) (.regD (.take ⟨some 36, .mov (.t 0), none, false⟩ [] (.take ⟨some 37, .mov (.t 0), none, false⟩ [] (.take ⟨some 38, .mov (.t 0), none, false⟩ [] (.take ⟨some 39, .mov (.t 0), none, false⟩ [] (.take ⟨some 40, .mov (.t 0), none, false⟩ [] (.take ⟨some 41, .nilck (.t 40), none, false⟩ [] (.take ⟨some 42, .faddr 0 (.t 41), none, false⟩ [] (.take ⟨some 43, .faddr 10 (.t 42), none, false⟩ [] (.take ⟨some 44, .load false 1 (.t 43), none, false⟩ [] (.take ⟨some 45, .mov (.t 0), none, false⟩ [] (.take ⟨some 46, .nilck (.t 45), none, false⟩ [] (.take ⟨some 47, .faddr 0 (.t 46), none, false⟩ [] (.take ⟨some 48, .faddr 11 (.t 47), none, false⟩ [] (.take ⟨some 49, .load false 1 (.t 48), none, false⟩ [] (.take ⟨some 50, .mov (.t 0), none, false⟩ [] (.take ⟨some 51, .nilck (.t 50), none, false⟩ [] (.take ⟨some 52, .faddr 0 (.t 51), none, false⟩ [] (.take ⟨some 53, .faddr 12 (.t 52), none, false⟩ [] (.take ⟨some 54, .load false 1 (.t 53), none, false⟩ [] (.take ⟨some 55, .nilck (.t 36), none, false⟩ [] (.take ⟨some 56, .faddr 0 (.t 55), none, false⟩ [] (.take ⟨some 57, .faddr 3 (.t 56), none, false⟩ [] (.op ⟨none, .store 1 (.t 57) (.t 44), none, false⟩ (.take ⟨some 58, .nilck (.t 37), none, false⟩ [] (.take ⟨some 59, .faddr 0 (.t 58), none, false⟩ [] (.take ⟨some 60, .faddr 4 (.t 59), none, false⟩ [] (.op ⟨none, .store 1 (.t 60) (.t 49), none, false⟩ (.take ⟨some 61, .nilck (.t 38), none, false⟩ [] (.take ⟨some 62, .faddr 0 (.t 61), none, false⟩ [] (.take ⟨some 63, .faddr 6 (.t 62), none, false⟩ [] (.op ⟨none, .store 1 (.t 63) (.t 54), none, false⟩ (.take ⟨some 64, .nilck (.t 39), none, false⟩ [] (.take ⟨some 65, .faddr 0 (.t 64), none, false⟩ [] (.take ⟨some 66, .faddr 5 (.t 65), none, false⟩ [] (.op ⟨none, .store 1 (.t 66) (.c (.bool false)), none, false⟩ .done))))))))))))))))))))))))))))))))))) 0 []) (.seq (.reg [⟨some 68, .bin .eql (.t 4) (.c (.int .u8 68)), none, false⟩, ⟨some 67, .mov (.t 68), none, false⟩] 0 [0, 4, 67]) (.cond (.t 67) (.reg [⟨some 69, .mov (.t 0), none, false⟩, ⟨some 70, .call 55 [.t 69], none, false⟩] 0 []) (.seq (.reg [⟨some 72, .bin .eql (.t 4) (.c (.int .u8 69)), none, false⟩, ⟨some 71, .mov (.t 72), none, false⟩] 0 [0, 4, 71]) (.cond (.t 71) (.seq (.reg [⟨some 73, .mov (.t 0), none, false⟩, ⟨some 74, .call 55 [.t 73], none, false⟩] 0 [0]) (.reg [⟨some 75, .mov (.t 0), none, false⟩, ⟨some 76, .nilck (.t 75), none, false⟩, ⟨some 77, .faddr 0 (.t 76), none, false⟩, ⟨some 78, .faddr 4 (.t 77), none, false⟩, ⟨none, .store 1 (.t 78) (.c (.int .i64 0)), none, false⟩] 0 [])) (.seq (.reg [⟨some 80, .bin .eql (.t 4) (.c (.int .u8 77)), none, false⟩, ⟨some 79, .mov (.t 80), none, false⟩] 0 [0, 4, 79]) (.cond (.t 79) (.seq (.reg [⟨some 81, .mov (.t 0), none, false⟩, ⟨some 82, .nilck (.t 81), none, false⟩, ⟨some 83, .faddr 0 (.t 82), none, false⟩, ⟨some 84, .faddr 5 (.t 83), none, false⟩, ⟨none, .store 1 (.t 84) (.c (.bool false)), none, false⟩] 0 [0]) (.blk 1 (.seq (.regD (.take ⟨some 86, .mov (.t 0), none, false⟩ [] (.take ⟨some 87, .nilck (.t 86), none, false⟩ [] (.take ⟨some 88, .faddr 0 (.t 87), none, false⟩ [] (.take ⟨some 89, .faddr 3 (.t 88), none, false⟩ [] (.take ⟨some 90, .load false 1 (.t 89), none, false⟩ [] (.take ⟨some 91, .mov (.t 0), none, false⟩ [] (.take ⟨some 92, .nilck (.t 91), none, false⟩ [] (.take ⟨some 93, .faddr 0 (.t 92), none, false⟩ [] (.take ⟨some 94, .faddr 7 (.t 93), none, false⟩ [] (.take ⟨some 95, .load false 1 (.t 94), none, false⟩ [] (.take ⟨some 96, .bin .eql (.t 90) (.t 95), none, false⟩ [] (.take ⟨some 85, .mov (.t 96), none, false⟩ [] .done)))))))))))) 0 [0, 85]) (.cond (.t 85) (.regD (.take ⟨some 97, .mov (.t 0), none, false⟩ [] (.take ⟨some 98, .mov (.t 0), none, false⟩ [] (.take ⟨some 99, .nilck (.t 98), none, false⟩ [] (.take ⟨some 100, .faddr 0 (.t 99), none, false⟩ [] (.take ⟨some 101, .faddr 2 (.t 100), none, false⟩ [] (.take ⟨some 102, .load false 1 (.t 101), none, false⟩ [] (.take ⟨some 103, .mov (.t 0), none, false⟩ [] (.take ⟨some 104, .nilck (.t 103), none, false⟩ [] (.take ⟨some 105, .faddr 0 (.t 104), none, false⟩ [] (.take ⟨some 106, .faddr 1 (.t 105), none, false⟩ [] (.take ⟨some 107, .load false 1 (.t 106), none, false⟩ [] (.take ⟨some 108, .mov (.t 0), none, false⟩ [] (.take ⟨some 109, .nilck (.t 108), none, false⟩ [] (.take ⟨some 110, .faddr 0 (.t 109), none, false⟩ [] (.take ⟨some 111, .faddr 7 (.t 110), none, false⟩ [] (.take ⟨some 112, .load false 1 (.t 111), none, false⟩ [] (.take ⟨some 113, .mov (.t 0), none, false⟩ [] (.take ⟨some 114, .nilck (.t 113), none, false⟩ [] (.take ⟨some 115, .faddr 0 (.t 114), none, false⟩ [] (.take ⟨some 116, .faddr 8 (.t 115), none, false⟩ [] (.take ⟨some 117, .load false 1 (.t 116), none, false⟩ [] (.mid ⟨some 118, .call 56 [.t 102, .t 107, .t 112, .t 117, .c (.int .i64 1)], none, false⟩ (.take ⟨some 119, .nilck (.t 97), none, false⟩ [] (.take ⟨some 120, .faddr 0 (.t 119), none, false⟩ [] (.take ⟨some 121, .faddr 2 (.t 120), none, false⟩ [] (.op ⟨none, .store 1 (.t 121) (.t 118), none, false⟩ .done)))))))))))))))))))))))))) 0 []) (.seq (.reg [⟨some 123, .mov (.t 0), none, false⟩, ⟨some 124, .nilck (.t 123), none, false⟩, ⟨some 125, .faddr 0 (.t 124), none, false⟩, ⟨some 126, .faddr 3 (.t 125), none, false⟩, ⟨some 127, .load false 1 (.t 126), none, false⟩, ⟨some 128, .bin .gtr (.t 127) (.c (.int .i64 0)), none, false⟩, ⟨some 122, .mov (.t 128), none, false⟩] 0 [0, 122]) (.cond (.t 122) (.reg [⟨some 129, .mov (.t 0), none, false⟩, ⟨some 130, .nilck (.t 129), none, false⟩, ⟨some 131, .faddr 0 (.t 130), none, false⟩, ⟨some 132, .faddr 3 (.t 131), none, false⟩, ⟨some 133, .load false 1 (.t 132), none, false⟩, ⟨some 134, .bin .sub (.t 133) (.c (.int .i64 1)), none, false⟩, ⟨some 135, .nilck (.t 129), none, false⟩, ⟨some 136, .faddr 0 (.t 135), none, false⟩, ⟨some 137, .faddr 3 (.t 136), none, false⟩, ⟨none, .store 1 (.t 137) (.t 134), none, false⟩] 0 []) .skip)))))) (.seq (.reg [⟨some 139, .bin .eql (.t 4) (.c (.int .u8 72)), none, false⟩, ⟨some 138, .mov (.t 139), none, false⟩] 0 [0, 4, 138]) (.cond (.t 138) (.seq (.regD (.take ⟨some 140, .mov (.t 0), none, false⟩ [] (.take ⟨some 141, .nilck (.t 140), none, false⟩ [] (.take ⟨some 142, .faddr 0 (.t 141), none, false⟩ [] (.take ⟨some 143, .faddr 4 (.t 142), none, false⟩ [] (.take ⟨some 144, .load false 1 (.t 143), none, false⟩ [] (.take ⟨some 145, .bin .geq (.t 144) (.c (.int .i64 0)), none, false⟩ [] (.take ⟨some 146, .mov (.t 145), none, false⟩ [] (.take ⟨some 147, .mov (.t 0), some (146, true), false⟩ [] (.take ⟨some 148, .nilck (.t 147), some (146, true), false⟩ [] (.take ⟨some 149, .faddr 0 (.t 148), some (146, true), false⟩ [] (.take ⟨some 150, .faddr 4 (.t 149), some (146, true), false⟩ [] (.take ⟨some 151, .load false 1 (.t 150), some (146, true), false⟩ [] (.take ⟨some 152, .mov (.t 0), some (146, true), false⟩ [] (.take ⟨some 153, .nilck (.t 152), some (146, true), false⟩ [] (.take ⟨some 154, .faddr 0 (.t 153), some (146, true), false⟩ [] (.take ⟨some 155, .faddr 9 (.t 154), some (146, true), false⟩ [] (.take ⟨some 156, .load false 1 (.t 155), some (146, true), false⟩ [] (.take ⟨some 157, .len (.t 156), some (146, true), false⟩ [] (.take ⟨some 158, .bin .lss (.t 151) (.t 157), some (146, true), false⟩ [] (.take ⟨some 159, .pick (.t 146) (.t 158) (.c (.bool false)), none, false⟩ [] .done)))))))))))))))))))) 0 [0, 159]) (.cond (.t 159) (.regD (.take ⟨some 160, .mov (.t 0), none, false⟩ [] (.take ⟨some 161, .nilck (.t 160), none, false⟩ [] (.take ⟨some 162, .faddr 0 (.t 161), none, false⟩ [] (.take ⟨some 163, .faddr 9 (.t 162), none, false⟩ [] (.take ⟨some 164, .load false 1 (.t 163), none, false⟩ [] (.take ⟨some 165, .mov (.t 0), none, false⟩ [] (.take ⟨some 166, .nilck (.t 165), none, false⟩ [] (.take ⟨some 167, .faddr 0 (.t 166), none, false⟩ [] (.take ⟨some 168, .faddr 4 (.t 167), none, false⟩ [] (.take ⟨some 169, .load false 1 (.t 168), none, false⟩ [] (.take ⟨some 170, .iaddr 1 (.t 164) (.t 169), none, false⟩ [] (.op ⟨none, .store 1 (.t 170) (.c (.bool true)), none, false⟩ .done)))))))))))) 0 []) .skip)) (.seq (.reg [⟨some 172, .bin .eql (.t 4) (.c (.int .u8 99)), none, false⟩, ⟨some 171, .mov (.t 172), none, false⟩] 0 [0, 171]) (.cond (.t 171) (.regD (.take ⟨some 174, .mov (.t 0), none, false⟩ [] (.take ⟨some 175, .mov (.t 0), none, false⟩ [] (.take ⟨some 176, .nilck (.t 175), none, false⟩ [] (.take ⟨some 177, .faddr 0 (.t 176), none, false⟩ [] (.take ⟨some 178, .faddr 0 (.t 177), none, false⟩ [] (.take ⟨some 179, .load false 1 (.t 178), none, false⟩ [] (.take ⟨some 180, .mov (.t 0), none, false⟩ [] (.take ⟨some 181, .nilck (.t 180), none, false⟩ [] (.take ⟨some 182, .faddr 0 (.t 181), none, false⟩ [] (.take ⟨some 183, .faddr 1 (.t 182), none, false⟩ [] (.take ⟨some 184, .load false 1 (.t 183), none, false⟩ [] (.mid ⟨some 185, .call 10 [.t 179, .t 184], none, false⟩ (.take ⟨some 173, .mov (.t 185), none, false⟩ [] (.take ⟨some 186, .ext (.t 173) 0, none, false⟩ [] (.take ⟨some 187, .ext (.t 173) 1, none, false⟩ [] (.take ⟨some 188, .nilck (.t 174), none, false⟩ [] (.take ⟨some 189, .faddr 0 (.t 188), none, false⟩ [] (.op ⟨none, .store 24 (.t 189) (.t 186), none, false⟩ .done)))))))))))))))))) 0 []) .skip))))))))))))))), []⟩
theorem rc_tesc_ok : compFn PG.P [⟨0, 0, [0, 4], []⟩, ⟨1, 0, [0, 4, 5], []⟩, ⟨2, 0, [], []⟩, ⟨3, 0, [0, 4, 34], []⟩, ⟨4, 0, [], []⟩, ⟨5, 0, [0, 4, 67], []⟩, ⟨6, 0, [], []⟩, ⟨7, 0, [0, 4, 71], []⟩, ⟨8, 0, [0], []⟩, ⟨9, 0, [], []⟩, ⟨10, 0, [0, 4, 79], []⟩, ⟨11, 0, [0], []⟩, ⟨12, 0, [0, 85], []⟩, ⟨13, 0, [], []⟩, ⟨14, 0, [0, 122], []⟩, ⟨15, 0, [], []⟩, ⟨16, 0, [0, 4, 138], []⟩, ⟨17, 0, [0, 159], []⟩, ⟨18, 0, [], []⟩, ⟨19, 0, [0, 171], []⟩, ⟨20, 0, [], []⟩] 33 = some rc_tesc := by kernel_rfl
def escP (b : Int) (p : Pa) : Pa := if b = 99 then pa0 0 else p
set_option maxHeartbeats 2000000 in
theorem tesc_55 {T0 T : Objs} {o : Nat} {s : Sc} {p : Pa} {K : DV → Objs → Prop} (ok : ScOk s) (h : TermAt T0 T o s p) (hK : ∀ T', T.length ≤ T'.length → TermAt T0 T' o (escF s 55) (escP 55 p) → K (.tup []) T') : CallK PG 33 [.ptr o 0 0, .int .u8 55] T K := by
  obtain ⟨k0, q, tq, od, m, pr, d1, d2, d3, pa, t⟩ := id h
  have hb := t.box
  unfold tmBox at hb
  have hr := ok.g.r
  have hc := ok.g.c
  have hy := ok.y
  have hx := ok.x
  refine CallK.of_fn FOk.nil rc_tesc_ok (by simp [rc_tesc]) ?_
  unfold rc_tesc
  dsimp only
  rw [show escF s 55 = { s with sy := s.y, sx := s.x, sattr := s.attr } from rfl, show escP 55 p = p from rfl] at hK
  have kk : K (.tup []) (T.set o (some (.box (tmBox { s with sy := s.y, sx := s.x, sattr := s.attr } q tq od m pr d1 d2 d3)))) := hK _ (by simp) (.mk (k0.put t.no _) pa (t.put rfl rfl rfl rfl rfl))
  simp -implicitDefEqProofs -dsimp only [tb_at, tb_all hb, List.set_set, vcS, ↓vcP1, ↓vcP2, ↓reduceIte, reduceCtorEq, Nat.reduceLT, Nat.reduceLeDiff, Nat.reduceEqDiff, Nat.reduceAdd, Nat.reduceSub, Nat.reduceMul, Int.reduceLT, Int.reduceLE, Int.reduceEq, Int.reduceToNat, Int.reduceAdd, Int.reduceSub, Int.reduceNeg, List.reduceReplicate, Nat.reducePow, Int.reduceMul]
  repeat' (first | exact kk | (simp; done) | apply And.intro)
set_option maxHeartbeats 2000000 in
theorem tesc_56 {T0 T : Objs} {o : Nat} {s : Sc} {p : Pa} {K : DV → Objs → Prop} (ok : ScOk s) (h : TermAt T0 T o s p) (hK : ∀ T', T.length ≤ T'.length → TermAt T0 T' o (escF s 56) (escP 56 p) → K (.tup []) T') : CallK PG 33 [.ptr o 0 0, .int .u8 56] T K := by
  obtain ⟨k0, q, tq, od, m, pr, d1, d2, d3, pa, t⟩ := id h
  have hb := t.box
  unfold tmBox at hb
  have hr := ok.g.r
  have hc := ok.g.c
  have hy := ok.y
  have hx := ok.x
  refine CallK.of_fn FOk.nil rc_tesc_ok (by simp [rc_tesc]) ?_
  unfold rc_tesc
  dsimp only
  rw [show escF s 56 = { s with y := s.sy, x := s.sx, attr := s.sattr, wrap := false } from rfl, show escP 56 p = p from rfl] at hK
  have kk : K (.tup []) (T.set o (some (.box (tmBox { s with y := s.sy, x := s.sx, attr := s.sattr, wrap := false } q tq od m pr d1 d2 d3)))) := hK _ (by simp) (.mk (k0.put t.no _) pa (t.put rfl rfl rfl rfl rfl))
  simp -implicitDefEqProofs -dsimp only [tb_at, tb_all hb, List.set_set, vcS, ↓vcP1, ↓vcP2, ↓reduceIte, reduceCtorEq, Nat.reduceLT, Nat.reduceLeDiff, Nat.reduceEqDiff, Nat.reduceAdd, Nat.reduceSub, Nat.reduceMul, Int.reduceLT, Int.reduceLE, Int.reduceEq, Int.reduceToNat, Int.reduceAdd, Int.reduceSub, Int.reduceNeg, List.reduceReplicate, Nat.reducePow, Int.reduceMul]
  repeat' (first | exact kk | (simp; done) | apply And.intro)
set_option maxHeartbeats 2000000 in
theorem tesc_68 {T0 T : Objs} {o : Nat} {s : Sc} {p : Pa} {K : DV → Objs → Prop} (ok : ScOk s) (h : TermAt T0 T o s p) (hK : ∀ T', T.length ≤ T'.length → TermAt T0 T' o (escF s 68) (escP 68 p) → K (.tup []) T') : CallK PG 33 [.ptr o 0 0, .int .u8 68] T K := by
  obtain ⟨k0, q, tq, od, m, pr, d1, d2, d3, pa, t⟩ := id h
  have hb := t.box
  unfold tmBox at hb
  have hr := ok.g.r
  have hc := ok.g.c
  have hy := ok.y
  have hx := ok.x
  refine CallK.of_fn FOk.nil rc_tesc_ok (by simp [rc_tesc]) ?_
  unfold rc_tesc
  dsimp only
  rw [show escF s 68 = nextF s from rfl, show escP 68 p = p from rfl] at hK
  simp -implicitDefEqProofs -dsimp only [tb_at, tb_all hb, List.set_set, vcS, ↓vcP1, ↓vcP2, ↓reduceIte, reduceCtorEq, Nat.reduceLT, Nat.reduceLeDiff, Nat.reduceEqDiff, Nat.reduceAdd, Nat.reduceSub, Nat.reduceMul, Int.reduceLT, Int.reduceLE, Int.reduceEq, Int.reduceToNat, Int.reduceAdd, Int.reduceSub, Int.reduceNeg, List.reduceReplicate, Nat.reducePow, Int.reduceMul]
  refine tnext_K ok h fun T' l t' => ?_
  simp -implicitDefEqProofs -dsimp only [tb_at, vcS, ↓vcP1, ↓vcP2, ↓reduceIte, reduceCtorEq, Nat.reduceLT, Nat.reduceLeDiff, Nat.reduceEqDiff, Nat.reduceAdd, Nat.reduceSub, Nat.reduceMul, Int.reduceLT, Int.reduceLE, Int.reduceEq, Int.reduceToNat, Int.reduceAdd, Int.reduceSub, Int.reduceNeg, List.reduceReplicate, Nat.reducePow, Int.reduceMul]
  exact ⟨l, hK _ l t'⟩
set_option maxHeartbeats 2000000 in
theorem tesc_69 {T0 T : Objs} {o : Nat} {s : Sc} {p : Pa} {K : DV → Objs → Prop} (ok : ScOk s) (h : TermAt T0 T o s p) (hK : ∀ T', T.length ≤ T'.length → TermAt T0 T' o (escF s 69) (escP 69 p) → K (.tup []) T') : CallK PG 33 [.ptr o 0 0, .int .u8 69] T K := by
  obtain ⟨k0, q, tq, od, m, pr, d1, d2, d3, pa, t⟩ := id h
  have hb := t.box
  unfold tmBox at hb
  have hr := ok.g.r
  have hc := ok.g.c
  have hy := ok.y
  have hx := ok.x
  refine CallK.of_fn FOk.nil rc_tesc_ok (by simp [rc_tesc]) ?_
  unfold rc_tesc
  dsimp only
  rw [show escF s 69 = { nextF s with x := 0 } from rfl, show escP 69 p = p from rfl] at hK
  simp -implicitDefEqProofs -dsimp only [tb_at, tb_all hb, List.set_set, vcS, ↓vcP1, ↓vcP2, ↓reduceIte, reduceCtorEq, Nat.reduceLT, Nat.reduceLeDiff, Nat.reduceEqDiff, Nat.reduceAdd, Nat.reduceSub, Nat.reduceMul, Int.reduceLT, Int.reduceLE, Int.reduceEq, Int.reduceToNat, Int.reduceAdd, Int.reduceSub, Int.reduceNeg, List.reduceReplicate, Nat.reducePow, Int.reduceMul]
  refine tnext_K ok h fun T' l t' => ?_
  obtain ⟨k1, q', tq', od', m', pr', e1, e2, e3, pa', t2⟩ := t'
  have hb2 := t2.box
  unfold tmBox at hb2
  simp -implicitDefEqProofs -dsimp only [tb_at, tb_all hb2, vcS, ↓vcP1, ↓vcP2, ↓reduceIte, reduceCtorEq, Nat.reduceLT, Nat.reduceLeDiff, Nat.reduceEqDiff, Nat.reduceAdd, Nat.reduceSub, Nat.reduceMul, Int.reduceLT, Int.reduceLE, Int.reduceEq, Int.reduceToNat, Int.reduceAdd, Int.reduceSub, Int.reduceNeg, List.reduceReplicate, Nat.reducePow, Int.reduceMul]
  exact ⟨by simpa using l, hK _ (by simpa using l) (.mk (k1.put t2.no _) pa' (t2.put rfl rfl rfl rfl rfl))⟩
set_option maxHeartbeats 2000000 in
theorem tesc_77 {T0 T : Objs} {o : Nat} {s : Sc} {p : Pa} {K : DV → Objs → Prop} (ok : ScOk s) (h : TermAt T0 T o s p) (hK : ∀ T', T.length ≤ T'.length → TermAt T0 T' o (escF s 77) (escP 77 p) → K (.tup []) T') : CallK PG 33 [.ptr o 0 0, .int .u8 77] T K := by
  obtain ⟨k0, q, tq, od, m, pr, d1, d2, d3, pa, t⟩ := id h
  have hb := t.box
  unfold tmBox at hb
  have hr := ok.g.r
  have hc := ok.g.c
  have hy := ok.y
  have hx := ok.x
  rw [show escF s 77 = (if s.y = s.top then { s with wrap := false, cells := dnF s.cells s.cols s.top s.bot 1 } else { s with wrap := false, y := s.y - 1 }) from rfl, show escP 77 p = p from rfl] at hK
  rcases Decidable.em (s.y = s.top) with c1 | c1
  · rw [if_pos c1] at hK
    have c1' : (s.y : Int) = s.top := by omega
    refine CallK.of_fn FOk.nil rc_tesc_ok (by simp [rc_tesc]) ?_
    unfold rc_tesc
    dsimp only
    simp -implicitDefEqProofs -dsimp only [tb_at, tb_all hb, eq_true c1', List.set_set, vcS, ↓vcP1, ↓vcP2, ↓reduceIte, reduceCtorEq, Nat.reduceLT, Nat.reduceLeDiff, Nat.reduceEqDiff, Nat.reduceAdd, Nat.reduceSub, Nat.reduceMul, Int.reduceLT, Int.reduceLE, Int.reduceEq, Int.reduceToNat, Int.reduceAdd, Int.reduceSub, Int.reduceNeg, List.reduceReplicate, Nat.reducePow, Int.reduceMul]
    have t1 := t.put (s' := { s with wrap := false }) (l := tmBox { s with wrap := false } q tq od m pr d1 d2 d3) rfl rfl rfl rfl rfl
    refine gdown_K t1.cells ok.g ok.tb ok.b fun T' p hp hc k => ?_
    have hb' := k.at t1.box (by simp)
    unfold tmBox at hb'
    simp -implicitDefEqProofs -dsimp only [tb_at, tb_all hb', eq_true c1', vcS, ↓vcP1, ↓vcP2, ↓reduceIte, reduceCtorEq, Nat.reduceLT, Nat.reduceLeDiff, Nat.reduceEqDiff, Nat.reduceAdd, Nat.reduceSub, Nat.reduceMul, Int.reduceLT, Int.reduceLE, Int.reduceEq, Int.reduceToNat, Int.reduceAdd, Int.reduceSub, Int.reduceNeg, List.reduceReplicate, Nat.reducePow, Int.reduceMul]
    have l1 := k.1
    simp only [List.length_set] at l1 hp
    have t2 := t1.grid k (by simp; exact k0.1) (by simpa using hp) (s' := { s with wrap := false, cells := dnF s.cells s.cols s.top s.bot 1 }) (l := tmBox { s with wrap := false, cells := dnF s.cells s.cols s.top s.bot 1 } p tq od m pr d1 d2 d3) rfl hc rfl rfl rfl
    have hl := dnF_len (n := 1) ok.g ok.b ok.tb
    unfold tmBox at t2
    simp only [hl] at t2
    exact ⟨by simpa using l1, hK _ (by simpa using l1) (.mk (((k0.put t.no _).new k (by simp)).put t.no _) pa t2)⟩
  · rw [if_neg c1] at hK
    have c1' : ¬ (s.y : Int) = s.top := by omega
    rcases Decidable.em (0 < s.y) with c2 | c2
    · have c2' : (0 : Int) < s.y := by omega
      have w1 : IntKind.i64.wrap ((s.y : Int) - 1) = ((s.y - 1 : Nat) : Int) := by rw [wI64 (by omega) (by omega)]; omega
      refine CallK.of_fn FOk.nil rc_tesc_ok (by simp [rc_tesc]) ?_
      unfold rc_tesc
      dsimp only
      simp -implicitDefEqProofs -dsimp only [tb_at, tb_all hb, eq_false c1', c2', w1, List.set_set, vcS, ↓vcP1, ↓vcP2, ↓reduceIte, reduceCtorEq, Nat.reduceLT, Nat.reduceLeDiff, Nat.reduceEqDiff, Nat.reduceAdd, Nat.reduceSub, Nat.reduceMul, Int.reduceLT, Int.reduceLE, Int.reduceEq, Int.reduceToNat, Int.reduceAdd, Int.reduceSub, Int.reduceNeg, List.reduceReplicate, Nat.reducePow, Int.reduceMul]
      exact ⟨by simp, hK _ (by simp) (.mk (k0.put t.no _) pa (t.put rfl rfl rfl rfl rfl))⟩
    · have c2' : ¬ (0 : Int) < s.y := by omega
      have e0 : s.y - 1 = s.y := by omega
      rw [e0] at hK
      refine CallK.of_fn FOk.nil rc_tesc_ok (by simp [rc_tesc]) ?_
      unfold rc_tesc
      dsimp only
      simp -implicitDefEqProofs -dsimp only [tb_at, tb_all hb, eq_false c1', c2', List.set_set, vcS, ↓vcP1, ↓vcP2, ↓reduceIte, reduceCtorEq, Nat.reduceLT, Nat.reduceLeDiff, Nat.reduceEqDiff, Nat.reduceAdd, Nat.reduceSub, Nat.reduceMul, Int.reduceLT, Int.reduceLE, Int.reduceEq, Int.reduceToNat, Int.reduceAdd, Int.reduceSub, Int.reduceNeg, List.reduceReplicate, Nat.reducePow, Int.reduceMul]
      exact ⟨by simp, hK _ (by simp) (.mk (k0.put t.no _) pa (t.put rfl rfl rfl rfl rfl))⟩
set_option maxHeartbeats 2000000 in
theorem tesc_72 {T0 T : Objs} {o : Nat} {s : Sc} {p : Pa} {K : DV → Objs → Prop} (ok : ScOk s) (h : TermAt T0 T o s p) (hK : ∀ T', T.length ≤ T'.length → TermAt T0 T' o (escF s 72) (escP 72 p) → K (.tup []) T') : CallK PG 33 [.ptr o 0 0, .int .u8 72] T K := by
  obtain ⟨k0, q, tq, od, m, pr, d1, d2, d3, pa, t⟩ := id h
  have hb := t.box
  unfold tmBox at hb
  have hr := ok.g.r
  have hc := ok.g.c
  have hy := ok.y
  have hx := ok.x
  refine CallK.of_fn FOk.nil rc_tesc_ok (by simp [rc_tesc]) ?_
  unfold rc_tesc
  dsimp only
  rw [show escF s 72 = { s with tabs := s.tabs.set s.x true } from rfl, show escP 72 p = p from rfl] at hK
  have x0 : (0 : Int) ≤ s.x := by omega
  have x1 : (s.x : Int) < s.tabs.length := by rw [ok.tabs]; omega
  have hg := boRows_get (L := s.tabs) (i := s.x) (by omega)
  have hset := boRows_set s.tabs s.x true
  simp -implicitDefEqProofs -dsimp only [tb_at, tb_all hb, tb_all t.tabs, x0, x1, boRows_len, hg, hset, Nat.zero_add, List.set_set, vcS, ↓vcP1, ↓vcP2, ↓reduceIte, reduceCtorEq, Nat.reduceLT, Nat.reduceLeDiff, Nat.reduceEqDiff, Nat.reduceAdd, Nat.reduceSub, Nat.reduceMul, Int.reduceLT, Int.reduceLE, Int.reduceEq, Int.reduceToNat, Int.reduceAdd, Int.reduceSub, Int.reduceNeg, List.reduceReplicate, Nat.reducePow, Int.reduceMul]
  exact ⟨by simp, hK _ (by simp) (.mk (k0.put t.nt _) pa (t.tab (by simp)))⟩
set_option maxHeartbeats 2000000 in
theorem tesc_99 {T0 T : Objs} {o : Nat} {s : Sc} {p : Pa} {K : DV → Objs → Prop} (ok : ScOk s) (h : TermAt T0 T o s p) (hK : ∀ T', T.length ≤ T'.length → TermAt T0 T' o (escF s 99) (escP 99 p) → K (.tup []) T') : CallK PG 33 [.ptr o 0 0, .int .u8 99] T K := by
  obtain ⟨k0, q, tq, od, m, pr, d1, d2, d3, pa, t⟩ := id h
  have hb := t.box
  unfold tmBox at hb
  have hr := ok.g.r
  have hc := ok.g.c
  have hy := ok.y
  have hx := ok.x
  refine CallK.of_fn FOk.nil rc_tesc_ok (by simp [rc_tesc]) ?_
  unfold rc_tesc
  dsimp only
  rw [show escF s 99 = newF s.rows s.cols from rfl, show escP 99 p = pa0 0 from rfl] at hK
  simp -implicitDefEqProofs -dsimp only [tb_at, tb_all hb, List.set_set, vcS, ↓vcP1, ↓vcP2, ↓reduceIte, reduceCtorEq, Nat.reduceLT, Nat.reduceLeDiff, Nat.reduceEqDiff, Nat.reduceAdd, Nat.reduceSub, Nat.reduceMul, Int.reduceLT, Int.reduceLE, Int.reduceEq, Int.reduceToNat, Int.reduceAdd, Int.reduceSub, Int.reduceNeg, List.reduceReplicate, Nat.reducePow, Int.reduceMul]
  refine snewS_K hr hc fun T' q' tq' h1 h2 h3 h4 h5 k => ?_
  unfold newD
  have hb' := k.at t.box (by simp)
  unfold tmBox at hb'
  simp -implicitDefEqProofs -dsimp only [tb_at, tb_all hb', tmBox, vcS, ↓vcP1, ↓vcP2, ↓reduceIte, reduceCtorEq, Nat.reduceLT, Nat.reduceLeDiff, Nat.reduceEqDiff, Nat.reduceAdd, Nat.reduceSub, Nat.reduceMul, Int.reduceLT, Int.reduceLE, Int.reduceEq, Int.reduceToNat, Int.reduceAdd, Int.reduceSub, Int.reduceNeg, List.reduceReplicate, Nat.reducePow, Int.reduceMul]
  have l := k.1
  have lo := tb_lt t.box
  have l0 := k0.1
  have pp : PaAt (pa0 0) 0 0 (.sl 0 [] .nil) (.sl 0 [] .nil) (.sl 0 [] .nil) := { m := rfl, pr := rfl, i1 := isInts_none _ _ _, i2 := isInts_none _ _ _, i3 := isInts_none _ _ _, e1 := rfl, e2 := rfl, e3 := rfl }
  have tt : TmAt T0 (T'.set o (some (.box (tmBox (newF s.rows s.cols) q' tq' (.sl 0 [] .nil) 0 0 (.sl 0 [] .nil) (.sl 0 [] .nil) (.sl 0 [] .nil))))) o q' tq' (newF s.rows s.cols) (.sl 0 [] .nil) 0 0 (.sl 0 [] .nil) (.sl 0 [] .nil) (.sl 0 [] .nil) :=
    ⟨tb_ss hb' _, tb_ne h4 _ (by omega), tb_ne h5 _ (by omega), .inr ⟨rfl, 0, .nil, rfl⟩, by omega, by omega, h3, t.no, Dd.ge (by omega), Dd.ge (by omega)⟩
  exact ⟨by simpa using l, hK _ (by simpa using l) (.mk ((k0.new k (by simp)).put t.no _) pp tt)⟩
theorem tesc_no {T0 T : Objs} {o : Nat} {s : Sc} {p : Pa} {b : Int} {K : DV → Objs → Prop} (b1 : ¬ b = 55) (b2 : ¬ b = 56) (b3 : ¬ b = 68) (b4 : ¬ b = 69) (b5 : ¬ b = 77) (b6 : ¬ b = 72) (b7 : ¬ b = 99) (h : TermAt T0 T o s p) (hK : ∀ T', T.length ≤ T'.length → TermAt T0 T' o (escF s b) (escP b p) → K (.tup []) T') : CallK PG 33 [.ptr o 0 0, .int .u8 b] T K := by
  refine CallK.of_fn FOk.nil rc_tesc_ok (by simp [rc_tesc]) ?_
  unfold rc_tesc
  dsimp only
  unfold escF escP at hK
  rw [if_neg b1, if_neg b2, if_neg b3, if_neg b4, if_neg b5, if_neg b6, if_neg b7, if_neg b7] at hK
  simp -implicitDefEqProofs -dsimp only [tb_at, eq_false b1, eq_false b2, eq_false b3, eq_false b4, eq_false b5, eq_false b6, eq_false b7, List.set_set, vcS, ↓vcP1, ↓vcP2, ↓reduceIte, reduceCtorEq, Nat.reduceLT, Nat.reduceLeDiff, Nat.reduceEqDiff, Nat.reduceAdd, Nat.reduceSub, Nat.reduceMul, Int.reduceLT, Int.reduceLE, Int.reduceEq, Int.reduceToNat, Int.reduceAdd, Int.reduceSub, Int.reduceNeg, List.reduceReplicate, Nat.reducePow, Int.reduceMul]
  exact hK _ (Nat.le_refl _) h
theorem tesc_K {T0 T : Objs} {o : Nat} {s : Sc} {p : Pa} {b : Int} {K : DV → Objs → Prop} (ok : ScOk s) (h : TermAt T0 T o s p) (hK : ∀ T', T.length ≤ T'.length → TermAt T0 T' o (escF s b) (escP b p) → K (.tup []) T') : CallK PG 33 [.ptr o 0 0, .int .u8 b] T K := by
  rcases Decidable.em (b = 55) with b1 | b1
  · subst b1; exact tesc_55 ok h hK
  rcases Decidable.em (b = 56) with b2 | b2
  · subst b2; exact tesc_56 ok h hK
  rcases Decidable.em (b = 68) with b3 | b3
  · subst b3; exact tesc_68 ok h hK
  rcases Decidable.em (b = 69) with b4 | b4
  · subst b4; exact tesc_69 ok h hK
  rcases Decidable.em (b = 77) with b5 | b5
  · subst b5; exact tesc_77 ok h hK
  rcases Decidable.em (b = 72) with b6 | b6
  · subst b6; exact tesc_72 ok h hK
  rcases Decidable.em (b = 99) with b7 | b7
  · subst b7; exact tesc_99 ok h hK
  exact tesc_no b1 b2 b3 b4 b5 b6 b7 h hK
end Go.Proofs.YtjmnbpilnneonaaDoor
