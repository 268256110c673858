/- VtParams is true. -/
import Derived.Test.YteemmpghpdaloaaDoorM7
set_option linter.unusedVariables false
set_option linter.unusedSimpArgs false
set_option maxRecDepth 10000
namespace Go.Proofs.YteemmpghpdaloaaDoor
open Go.RowKit

noncomputable def rc_vtParams_l0 : RC := (.seq (.seq (.reg [⟨(some 27), (.mov (.t 9)), none, false⟩, ⟨(some 28), (.mov (.t 0)), none, false⟩, ⟨(some 29), (.len (.t 28)), none, false⟩, ⟨(some 30), (.bin .lss (.t 27) (.t 29)), none, false⟩] 0 [0, 1, 2, 7, 8, 9, 30]) (.cond (.t 30) .skip (.ext 0))) (.seq (.blk 1 (.seq (.seq (.reg [⟨(some 33), (.mov (.t 9)), none, false⟩, ⟨(some 34), (.bin .gtr (.t 33) (.c (.int .i64 0))), none, false⟩] 0 [0, 1, 2, 7, 8, 9, 34]) (.cond (.t 34) (.reg [⟨(some 35), (.mov (.t 7)), none, false⟩, ⟨(some 36), (.mkrow 1 [(.int .u8 0)] 1 [(0, (.c (.int .u8 59)))]), none, false⟩, ⟨(some 37), (.append 1 1 (.t 35) (.t 36)), none, false⟩, ⟨(some 7), (.mov (.t 37)), none, false⟩] 0 [0, 1, 2, 7, 8, 9]) .skip)) (.seq (.reg [⟨(some 38), (.mov (.t 0)), none, false⟩, ⟨(some 39), (.mov (.t 9)), none, false⟩, ⟨(some 40), (.iaddr 1 (.t 38) (.t 39)), none, false⟩, ⟨(some 41), (.load false 1 (.t 40)), none, false⟩, ⟨(some 42), (.bin .rem (.t 41) (.c (.int .u32 200000))), none, false⟩, ⟨(some 43), (.conv (.i2i .i64) (.t 42)), none, false⟩, ⟨(some 10), (.mov (.t 43)), none, false⟩] 0 [0, 1, 2, 7, 8, 9, 10]) (.seq (.reg [⟨(some 44), (.mov (.t 10)), none, false⟩, ⟨(some 45), (.bin .quo (.t 44) (.c (.int .i64 100000))), none, false⟩, ⟨(some 46), (.bin .add (.c (.int .i64 48)) (.t 45)), none, false⟩, ⟨(some 47), (.conv (.i2i .u8) (.t 46)), none, false⟩, ⟨(some 48), (.mov (.t 10)), none, false⟩, ⟨(some 49), (.bin .quo (.t 48) (.c (.int .i64 10000))), none, false⟩, ⟨(some 50), (.bin .rem (.t 49) (.c (.int .i64 10))), none, false⟩, ⟨(some 51), (.bin .add (.c (.int .i64 48)) (.t 50)), none, false⟩, ⟨(some 52), (.conv (.i2i .u8) (.t 51)), none, false⟩, ⟨(some 53), (.mov (.t 10)), none, false⟩, ⟨(some 54), (.bin .quo (.t 53) (.c (.int .i64 1000))), none, false⟩, ⟨(some 55), (.bin .rem (.t 54) (.c (.int .i64 10))), none, false⟩, ⟨(some 56), (.bin .add (.c (.int .i64 48)) (.t 55)), none, false⟩, ⟨(some 57), (.conv (.i2i .u8) (.t 56)), none, false⟩, ⟨(some 58), (.mov (.t 10)), none, false⟩, ⟨(some 59), (.bin .quo (.t 58) (.c (.int .i64 100))), none, false⟩, ⟨(some 60), (.bin .rem (.t 59) (.c (.int .i64 10))), none, false⟩, ⟨(some 61), (.bin .add (.c (.int .i64 48)) (.t 60)), none, false⟩, ⟨(some 62), (.conv (.i2i .u8) (.t 61)), none, false⟩, ⟨(some 63), (.mov (.t 10)), none, false⟩, ⟨(some 64), (.bin .quo (.t 63) (.c (.int .i64 10))), none, false⟩, ⟨(some 65), (.bin .rem (.t 64) (.c (.int .i64 10))), none, false⟩, ⟨(some 66), (.bin .add (.c (.int .i64 48)) (.t 65)), none, false⟩, ⟨(some 67), (.conv (.i2i .u8) (.t 66)), none, false⟩, ⟨(some 68), (.mov (.t 10)), none, false⟩, ⟨(some 69), (.bin .rem (.t 68) (.c (.int .i64 10))), none, false⟩, ⟨(some 70), (.bin .add (.c (.int .i64 48)) (.t 69)), none, false⟩, ⟨(some 71), (.conv (.i2i .u8) (.t 70)), none, false⟩, ⟨(some 72), (.mkrow 1 [(.int .u8 0)] 6 [(0, (.t 47)), (1, (.t 52)), (2, (.t 57)), (3, (.t 62)), (4, (.t 67)), (5, (.t 71))]), none, false⟩, ⟨(some 11), (.mov (.t 72)), none, false⟩] 0 [0, 1, 2, 7, 8, 9, 10, 11]) (.seq (.reg [⟨(some 73), (.mov (.t 7)), none, false⟩, ⟨(some 74), (.mov (.t 11)), none, false⟩, ⟨(some 75), (.append 1 1 (.t 73) (.t 74)), none, false⟩, ⟨(some 7), (.mov (.t 75)), none, false⟩] 0 [0, 1, 2, 7, 8, 9, 10]) (.reg [⟨(some 76), (.mov (.t 8)), none, false⟩, ⟨(some 77), (.mov (.t 10)), none, false⟩, ⟨(some 78), (.mm false (.t 77) (.c (.int .i64 65535))), none, false⟩, ⟨(some 79), (.mkrow 1 [(.int .i64 0)] 1 [(0, (.t 78))]), none, false⟩, ⟨(some 80), (.append 1 8 (.t 76) (.t 79)), none, false⟩, ⟨(some 8), (.mov (.t 80)), none, false⟩] 0 [0, 1, 2, 7, 8, 9])))))) (.reg [⟨(some 31), (.mov (.t 9)), none, false⟩, ⟨(some 32), (.bin .add (.t 31) (.c (.int .i64 1))), none, false⟩, ⟨(some 9), (.mov (.t 32)), none, false⟩] 0 [0, 1, 2, 7, 8, 9])))
noncomputable def rc_vtParams_l1 : RC := (.seq (.seq (.reg [⟨(some 139), (.mov (.t 15)), none, false⟩, ⟨(some 140), (.mov (.t 8)), none, false⟩, ⟨(some 141), (.len (.t 140)), none, false⟩, ⟨(some 142), (.bin .lss (.t 139) (.t 141)), none, false⟩] 0 [8, 14, 15, 142]) (.cond (.t 142) .skip (.ext 2))) (.seq (.blk 3 (.seq (.regD (.take ⟨(some 145), (.mov (.t 14)), none, false⟩ [] (.take ⟨(some 146), (.iaddr 6 (.t 145) (.c (.int .i64 0))), none, false⟩ [] (.take ⟨(some 147), (.faddr 4 (.t 146)), none, false⟩ [] (.take ⟨(some 148), (.load false 1 (.t 147)), none, false⟩ [] (.take ⟨(some 149), (.mov (.t 15)), none, false⟩ [] (.take ⟨(some 150), (.iaddr 1 (.t 148) (.t 149)), none, false⟩ [] (.take ⟨(some 151), (.load false 1 (.t 150)), none, false⟩ [] (.take ⟨(some 152), (.mov (.t 8)), none, false⟩ [] (.take ⟨(some 153), (.mov (.t 15)), none, false⟩ [] (.take ⟨(some 154), (.iaddr 1 (.t 152) (.t 153)), none, false⟩ [] (.take ⟨(some 155), (.load false 1 (.t 154)), none, false⟩ [] (.take ⟨(some 156), (.bin .neq (.t 151) (.t 155)), none, false⟩ [] .done)))))))))))) 0 [8, 14, 15, 156]) (.cond (.t 156) (.seq (.reg [⟨(some 6), (.mov (.c (.bool false))), none, false⟩] 0 [6]) .ret) .skip))) (.reg [⟨(some 143), (.mov (.t 15)), none, false⟩, ⟨(some 144), (.bin .add (.t 143) (.c (.int .i64 1))), none, false⟩, ⟨(some 15), (.mov (.t 144)), none, false⟩] 0 [8, 14, 15])))
noncomputable def rc_vtParams_r0 : RC := (.seq (.reg [⟨(some 6), (.mov (.c (.bool true))), none, false⟩] 0 [6]) .ret)
noncomputable def rc_vtParams_r1 : RC := (.seq (.reg [⟨(some 81), (.mov (.t 1)), none, false⟩, ⟨(some 82), (.bin .rem (.t 81) (.c (.int .u8 63))), none, false⟩, ⟨(some 83), (.bin .add (.c (.int .u8 64)) (.t 82)), none, false⟩, ⟨(some 12), (.mov (.t 83)), none, false⟩] 0 [0, 2, 7, 8, 12]) (.seq (.reg [⟨(some 85), (.build [(.int .i64 0), (.int .u8 0), (.sl 0 [] .nil), (.sl 0 [] .nil), (.sl 0 [] .nil)] []), none, false⟩, ⟨(some 86), (.mov (.t 7)), none, false⟩, ⟨(some 87), (.mov (.t 12)), none, false⟩, ⟨(some 88), (.mkrow 1 [(.int .u8 0)] 1 [(0, (.t 87))]), none, false⟩, ⟨(some 89), (.append 1 1 (.t 86) (.t 88)), none, true⟩, ⟨(some 90), (.call 34 [(.t 85), (.t 89)]), none, false⟩, ⟨(some 84), (.mov (.t 90)), none, false⟩, ⟨(some 91), (.ext (.t 84) 0), none, false⟩, ⟨(some 92), (.ext (.t 84) 1), none, false⟩, ⟨(some 13), (.alloc [(.int .i64 0), (.int .u8 0), (.sl 0 [] .nil), (.sl 0 [] .nil), (.sl 0 [] .nil)]), none, false⟩, ⟨none, (.store 5 (.t 13) (.t 91)), none, false⟩, ⟨(some 14), (.mov (.t 92)), none, false⟩] 0 [0, 2, 8, 12, 13, 14]) (.seq (.seq (.reg [⟨(some 93), (.faddr 0 (.t 13)), none, false⟩, ⟨(some 94), (.load false 1 (.t 93)), none, false⟩, ⟨(some 95), (.bin .neq (.t 94) (.c (.int .i64 0))), none, false⟩] 0 [0, 2, 8, 12, 14, 95]) (.cond (.t 95) (.seq (.reg [⟨(some 6), (.mov (.c (.bool false))), none, false⟩] 0 [6]) .ret) .skip)) (.seq (.seq (.reg [⟨(some 96), (.mov (.t 0)), none, false⟩, ⟨(some 97), (.len (.t 96)), none, false⟩, ⟨(some 98), (.bin .gtr (.t 97) (.c (.int .i64 16))), none, false⟩] 0 [2, 8, 12, 14, 98]) (.cond (.t 98) (.seq (.reg [⟨(some 99), (.mov (.t 14)), none, false⟩, ⟨(some 100), (.len (.t 99)), none, false⟩, ⟨(some 101), (.bin .eql (.t 100) (.c (.int .i64 0))), none, false⟩, ⟨(some 6), (.mov (.t 101)), none, false⟩] 0 [6]) .ret) .skip)) (.seq (.seq (.reg [⟨(some 102), (.mov (.t 14)), none, false⟩, ⟨(some 103), (.len (.t 102)), none, false⟩, ⟨(some 104), (.bin .neq (.t 103) (.c (.int .i64 1))), none, false⟩, ⟨(some 105), (.mov (.t 104)), none, false⟩, ⟨(some 106), (.mov (.t 14)), (some (105, false)), false⟩, ⟨(some 107), (.iaddr 6 (.t 106) (.c (.int .i64 0))), (some (105, false)), false⟩, ⟨(some 108), (.faddr 0 (.t 107)), (some (105, false)), false⟩, ⟨(some 109), (.load false 1 (.t 108)), (some (105, false)), false⟩, ⟨(some 110), (.bin .neq (.t 109) (.c (.int .i64 3))), (some (105, false)), false⟩, ⟨(some 111), (.pick (.t 105) (.c (.bool true)) (.t 110)), none, false⟩, ⟨(some 112), (.mov (.t 111)), none, false⟩, ⟨(some 113), (.mov (.t 14)), (some (112, false)), false⟩, ⟨(some 114), (.iaddr 6 (.t 113) (.c (.int .i64 0))), (some (112, false)), false⟩, ⟨(some 115), (.faddr 2 (.t 114)), (some (112, false)), false⟩, ⟨(some 116), (.load false 1 (.t 115)), (some (112, false)), false⟩, ⟨(some 117), (.mov (.t 12)), (some (112, false)), false⟩, ⟨(some 118), (.bin .neq (.t 116) (.t 117)), (some (112, false)), false⟩, ⟨(some 119), (.pick (.t 112) (.c (.bool true)) (.t 118)), none, false⟩, ⟨(some 120), (.mov (.t 119)), none, false⟩, ⟨(some 121), (.mov (.t 14)), (some (120, false)), false⟩, ⟨(some 122), (.iaddr 6 (.t 121) (.c (.int .i64 0))), (some (120, false)), false⟩, ⟨(some 123), (.faddr 3 (.t 122)), (some (120, false)), false⟩, ⟨(some 124), (.load false 1 (.t 123)), (some (120, false)), false⟩, ⟨(some 125), (.bin .eql (.t 124) (.c (.int .u8 63))), (some (120, false)), false⟩, ⟨(some 126), (.mov (.t 2)), (some (120, false)), false⟩, ⟨(some 127), (.eqB true (.t 125) (.t 126)), (some (120, false)), false⟩, ⟨(some 128), (.pick (.t 120) (.c (.bool true)) (.t 127)), none, false⟩, ⟨(some 129), (.mov (.t 128)), none, false⟩, ⟨(some 130), (.mov (.t 14)), (some (129, false)), false⟩, ⟨(some 131), (.iaddr 6 (.t 130) (.c (.int .i64 0))), (some (129, false)), false⟩, ⟨(some 132), (.faddr 4 (.t 131)), (some (129, false)), false⟩, ⟨(some 133), (.load false 1 (.t 132)), (some (129, false)), false⟩, ⟨(some 134), (.len (.t 133)), (some (129, false)), false⟩, ⟨(some 135), (.mov (.t 8)), (some (129, false)), false⟩, ⟨(some 136), (.len (.t 135)), (some (129, false)), false⟩, ⟨(some 137), (.bin .neq (.t 134) (.t 136)), (some (129, false)), false⟩, ⟨(some 138), (.pick (.t 129) (.c (.bool true)) (.t 137)), none, false⟩] 0 [8, 14, 138]) (.cond (.t 138) (.seq (.reg [⟨(some 6), (.mov (.c (.bool false))), none, false⟩] 0 [6]) .ret) .skip)) (.seq (.seq (.reg [⟨(some 15), (.mov (.c (.int .i64 0))), none, false⟩] 0 [8, 14, 15]) (.blk 2 (.loop rc_vtParams_l1))) rc_vtParams_r0))))))
noncomputable def rc_vtParams : RFn := ⟨3, 157, (.seq (.reg [⟨(some 6), (.mov (.c (.bool false))), none, false⟩] 0 [0, 1, 2]) (.seq (.seq (.reg [⟨(some 16), (.call 25 []), none, false⟩, ⟨(some 17), (.un .not (.t 16)), none, false⟩] 0 [0, 1, 2, 17]) (.cond (.t 17) (.seq (.reg [⟨(some 6), (.mov (.c (.bool false))), none, false⟩] 0 [6]) .ret) .skip)) (.seq (.seq (.reg [⟨(some 18), (.mov (.t 0)), none, false⟩, ⟨(some 19), (.len (.t 18)), none, false⟩, ⟨(some 20), (.bin .gtr (.t 19) (.c (.int .i64 20))), none, false⟩] 0 [0, 1, 2, 20]) (.cond (.t 20) (.seq (.reg [⟨(some 6), (.mov (.c (.bool true))), none, false⟩] 0 [6]) .ret) .skip)) (.seq (.reg [⟨(some 21), (.mkrow 1 [(.int .u8 0)] 2 [(0, (.c (.int .u8 27))), (1, (.c (.int .u8 91)))]), none, false⟩, ⟨(some 22), (.conv .lit (.t 21)), none, false⟩, ⟨(some 7), (.mov (.t 22)), none, false⟩] 0 [0, 1, 2, 7]) (.seq (.seq (.reg [⟨(some 23), (.mov (.t 2)), none, false⟩] 0 [0, 1, 2, 7, 23]) (.cond (.t 23) (.reg [⟨(some 24), (.mov (.t 7)), none, false⟩, ⟨(some 25), (.mkrow 1 [(.int .u8 0)] 1 [(0, (.c (.int .u8 63)))]), none, false⟩, ⟨(some 26), (.append 1 1 (.t 24) (.t 25)), none, false⟩, ⟨(some 7), (.mov (.t 26)), none, false⟩] 0 [0, 1, 2, 7]) .skip)) (.seq (.reg [⟨(some 8), (.mov (.c (.sl 0 [] .nil))), none, false⟩] 0 [0, 1, 2, 7, 8]) (.seq (.seq (.reg [⟨(some 9), (.mov (.c (.int .i64 0))), none, false⟩] 0 [0, 1, 2, 7, 8, 9]) (.blk 0 (.loop rc_vtParams_l0))) rc_vtParams_r1))))))), [(.t 6)]⟩
theorem rc_vtParams_ok : compFn PG.P [⟨0, 0, [0, 1, 2], []⟩, ⟨1, 0, [0, 1, 2, 17], []⟩, ⟨2, 0, [6], []⟩, ⟨3, 0, [0, 1, 2, 20], []⟩, ⟨4, 0, [6], []⟩, ⟨5, 0, [0, 1, 2, 7], []⟩, ⟨6, 0, [0, 1, 2, 7, 23], []⟩, ⟨7, 0, [0, 1, 2, 7], []⟩, ⟨8, 0, [0, 1, 2, 7, 8], []⟩, ⟨9, 0, [0, 1, 2, 7, 8, 9], []⟩, ⟨10, 0, [0, 1, 2, 7, 8, 9, 30], []⟩, ⟨11, 0, [0, 1, 2, 7, 8, 9], []⟩, ⟨12, 0, [0, 1, 2, 7, 8, 9, 34], []⟩, ⟨13, 0, [0, 1, 2, 7, 8, 9], []⟩, ⟨14, 0, [0, 1, 2, 7, 8, 9, 10], []⟩, ⟨15, 0, [0, 1, 2, 7, 8, 9, 10, 11], []⟩, ⟨16, 0, [0, 1, 2, 7, 8, 9, 10], []⟩, ⟨17, 0, [0, 1, 2, 7, 8, 9], []⟩, ⟨18, 0, [0, 2, 7, 8, 12], []⟩, ⟨19, 0, [0, 2, 8, 12, 13, 14], [89]⟩, ⟨20, 0, [0, 2, 8, 12, 14, 95], []⟩, ⟨21, 0, [6], []⟩, ⟨22, 0, [2, 8, 12, 14, 98], []⟩, ⟨23, 0, [6], []⟩, ⟨24, 0, [8, 14, 138], []⟩, ⟨25, 0, [6], []⟩, ⟨26, 0, [8, 14, 15], []⟩, ⟨27, 0, [8, 14, 15, 142], []⟩, ⟨28, 0, [8, 14, 15], []⟩, ⟨29, 0, [8, 14, 15, 156], []⟩, ⟨30, 0, [6], []⟩, ⟨31, 0, [6], []⟩] 10 = some rc_vtParams := by kernel_rfl
def digs (v : Int) : List Int := [48 + v / 100000, 48 + v / 10000 % 10, 48 + v / 1000 % 10, 48 + v / 100 % 10, 48 + v / 10 % 10, 48 + v % 10]
def pbs (H : List Int) : List Int → List Int
  | [] => H
  | v :: vs => H ++ digs v ++ vs.flatMap fun v => 59 :: digs v
theorem pbs_snoc (H V : List Int) (v : Int) : pbs H (V ++ [v]) = pbs H V ++ ((if V = [] then [] else [59]) ++ digs v) := by
  cases V with
  | nil => simp [pbs]
  | cons a V => simp [pbs]
theorem pbs_len (H V : List Int) : (pbs H V).length ≤ H.length + 7 * V.length := by
  cases V with
  | nil => simp [pbs]
  | cons a V =>
    have : (V.flatMap fun v => 59 :: digs v).length = 7 * V.length := by
      induction V with
      | nil => rfl
      | cons b V ih => rw [List.flatMap_cons, List.length_append, ih]; simp [digs]; omega
    simp only [pbs, List.length_append, this, List.length_cons]
    simp [digs]
    omega
theorem digs_u8 {v : Int} (h : 0 ≤ v ∧ v < 200000) : ∀ x ∈ digs v, 48 ≤ x ∧ x ≤ 57 := by
  intro x hx
  simp only [digs, List.mem_cons, List.not_mem_nil, or_false] at hx
  omega
theorem pbs_u8 {H V : List Int} (hH : ∀ x ∈ H, 0 ≤ x ∧ x ≤ 255) (hV : ∀ v ∈ V, 0 ≤ v ∧ v < 200000) : ∀ x ∈ pbs H V, 0 ≤ x ∧ x ≤ 255 := by
  intro x hx
  cases V with
  | nil => exact hH x hx
  | cons a V =>
    simp only [pbs, List.mem_append, List.mem_flatMap, List.mem_cons] at hx
    rcases hx with (hx | hx) | ⟨v, hv, rfl | hx⟩
    · exact hH x hx
    · have := digs_u8 (hV a (by simp)) x hx; omega
    · omega
    · have := digs_u8 (hV v (by simp [hv])) x hx; omega
theorem csi_step {p : Pa} {b : Int} (hm : p.m = 4) (hb : 48 ≤ b ∧ b ≤ 126) : vstepF p b = vcsiF p b := by
  have hv : vcut p b = false := by unfold vcut; simp [hm]
  unfold vstepF
  rw [hv, if_neg (by decide)]
  unfold vtakeF
  rw [if_neg (by omega), if_neg (by omega), if_neg (by omega), if_neg (by omega), if_neg (by omega), if_neg (by omega), if_neg (by omega), if_neg (by omega), if_neg (by omega), if_neg (by omega), if_pos hm]
theorem csi_ge {p : Pa} {b : Int} (hb : 48 ≤ b) : vint b = false := by simp [vint]; omega
theorem digP_snoc (Q : List Int) (x b : Int) : digP (Q ++ [x]) b = Q ++ [min (10 * x + (b - 48)) 65535] := by
  unfold digP
  have e : (Q ++ [x]).length - 1 = Q.length := by simp
  rw [e]
  have : (Q ++ [x]).getD Q.length 0 = x := by simp [List.getD_eq_getElem?_getD]
  rw [this]
  simp
theorem dig_step {pr : Int} {Q : List Int} {x b : Int} (hb : 48 ≤ b ∧ b ≤ 57) : vstepF ⟨4, pr, Q ++ [x], [], []⟩ b = (⟨4, pr, Q ++ [min (10 * x + (b - 48)) 65535], [], []⟩, []) := by
  rw [csi_step rfl (by omega), vcsiF_8 (csi_ge (p := pa0 0) hb.1) (by omega) (by simp; omega), digP_snoc]
theorem dig_first {pr : Int} {b : Int} (hb : 48 ≤ b ∧ b ≤ 57) : vstepF ⟨4, pr, [], [], []⟩ b = (⟨4, pr, [] ++ [min (10 * 0 + (b - 48)) 65535], [], []⟩, []) := by
  rw [csi_step rfl (by omega), vcsiF_5 (csi_ge (p := pa0 0) hb.1) (by omega) (by simp)]
  simp
theorem num_tail {pr x v : Int} {Q : List Int} (hv : 0 ≤ v ∧ v < 200000) (hx : x = min (v / 100000) 65535) : vallF ⟨4, pr, Q ++ [x], [], []⟩ [] [48 + v / 10000 % 10, 48 + v / 1000 % 10, 48 + v / 100 % 10, 48 + v / 10 % 10, 48 + v % 10] = (⟨4, pr, Q ++ [min v 65535], [], []⟩, []) := by
  simp only [vallF, dig_step (b := 48 + v / 10000 % 10) (by omega), dig_step (b := 48 + v / 1000 % 10) (by omega), dig_step (b := 48 + v / 100 % 10) (by omega), dig_step (b := 48 + v / 10 % 10) (by omega), dig_step (b := 48 + v % 10) (by omega), List.append_nil]
  subst hx
  have c : ∀ y d : Int, 0 ≤ y → 0 ≤ d → min (10 * min y 65535 + d) 65535 = min (10 * y + d) 65535 := fun y d h1 h2 => by omega
  have e1 : min (10 * min (v / 100000) 65535 + (48 + v / 10000 % 10 - 48)) 65535 = min (v / 10000) 65535 := by rw [c _ _ (by omega) (by omega)]; congr 1; omega
  have e2 : min (10 * min (v / 10000) 65535 + (48 + v / 1000 % 10 - 48)) 65535 = min (v / 1000) 65535 := by rw [c _ _ (by omega) (by omega)]; congr 1; omega
  have e3 : min (10 * min (v / 1000) 65535 + (48 + v / 100 % 10 - 48)) 65535 = min (v / 100) 65535 := by rw [c _ _ (by omega) (by omega)]; congr 1; omega
  have e4 : min (10 * min (v / 100) 65535 + (48 + v / 10 % 10 - 48)) 65535 = min (v / 10) 65535 := by rw [c _ _ (by omega) (by omega)]; congr 1; omega
  have e5 : min (10 * min (v / 10) 65535 + (48 + v % 10 - 48)) 65535 = min v 65535 := by rw [c _ _ (by omega) (by omega)]; congr 1; omega
  rw [e1, e2, e3, e4, e5]
theorem num_first {pr v : Int} (hv : 0 ≤ v ∧ v < 200000) : vallF ⟨4, pr, [], [], []⟩ [] (digs v) = (⟨4, pr, [min v 65535], [], []⟩, []) := by
  have := num_tail (pr := pr) (Q := []) hv (x := min (10 * 0 + (48 + v / 100000 - 48)) 65535) (by omega)
  unfold digs
  rw [show ∀ (p : Pa) (a : Int) (l : List Int), vallF p [] (a :: l) = vallF (vstepF p a).1 ([] ++ (vstepF p a).2) l from fun _ _ _ => rfl, dig_first (by omega)]
  exact this
theorem num_next {pr v : Int} {Q : List Int} (hv : 0 ≤ v ∧ v < 200000) : vallF ⟨4, pr, Q ++ [0], [], []⟩ [] (digs v) = (⟨4, pr, Q ++ [min v 65535], [], []⟩, []) := by
  have := num_tail (pr := pr) (Q := Q) hv (x := min (10 * 0 + (48 + v / 100000 - 48)) 65535) (by omega)
  unfold digs
  rw [show ∀ (p : Pa) (a : Int) (l : List Int), vallF p [] (a :: l) = vallF (vstepF p a).1 ([] ++ (vstepF p a).2) l from fun _ _ _ => rfl, dig_step (by omega)]
  exact this
theorem ign_step {p : Pa} {b : Int} (hm : p.m = 6) (hb : 48 ≤ b ∧ b ≤ 126) : vstepF p b = (if 64 ≤ b then pa0 0 else p, []) := by
  have hv : vcut p b = false := by unfold vcut; simp [hm]
  unfold vstepF
  rw [hv, if_neg (by decide)]
  unfold vtakeF
  rw [if_neg (by omega), if_neg (by omega), if_neg (by omega), if_neg (by omega), if_neg (by omega), if_neg (by omega), if_neg (by omega), if_neg (by omega), if_neg (by omega), if_neg (by omega), if_neg (by omega), if_neg (by omega)]
theorem ign (l : List Int) : (∀ x ∈ l, 48 ≤ x ∧ x ≤ 59) → vallF (pa0 6) [] l = (pa0 6, []) := by
  induction l with
  | nil => intro _; rfl
  | cons b l ih =>
    intro h
    have hb := h b (by simp)
    have e : vstepF (pa0 6) b = (pa0 6, []) := by rw [ign_step rfl (by omega), if_neg (by omega)]
    simp only [vallF, e, List.nil_append]
    exact ih fun x hx => h x (by simp [hx])
def wants (V : List Int) : List Int := V.map fun v => min v 65535
/-- More numbers behind the first ones. -/
theorem nums_more {pr : Int} (vs : List Int) : ∀ (W : List Int), 0 < W.length → W.length ≤ 16 → (∀ v ∈ vs, 0 ≤ v ∧ v < 200000) → vallF ⟨4, pr, W, [], []⟩ [] (vs.flatMap fun v => 59 :: digs v) =
    if W.length + vs.length ≤ 16 then (⟨4, pr, W ++ wants vs, [], []⟩, []) else (pa0 6, []) := by
  induction vs with
  | nil => intro W h0 h1 _; rw [if_pos (by simpa using h1)]; simp [vallF, wants]
  | cons v vs ih =>
    intro W h0 h1 hv
    have hv0 := hv v (by simp)
    by_cases hW : W.length = 16
    · rw [if_neg (by simp; omega)]
      have e : vstepF ⟨4, pr, W, [], []⟩ 59 = (pa0 6, []) := by
        rw [csi_step rfl (by omega), vcsiF_6 (p := ⟨4, pr, W, [], []⟩) (by decide) rfl (show ¬ (W.length : Int) = 0 by omega) (show 16 ≤ (W.length : Int) by omega)]
      simp only [List.flatMap_cons, List.cons_append, vallF, e, List.nil_append]
      refine ign _ fun x hx => ?_
      simp only [List.mem_append, List.mem_flatMap, List.mem_cons] at hx
      rcases hx with hx | ⟨y, hy, rfl | hx⟩
      · have := digs_u8 hv0 x hx; omega
      · omega
      · have := digs_u8 (hv y (by simp [hy])) x hx; omega
    · have e : vstepF ⟨4, pr, W, [], []⟩ 59 = (⟨4, pr, W ++ [0], [], []⟩, []) := by
        rw [csi_step rfl (by omega), vcsiF_7 (p := ⟨4, pr, W, [], []⟩) (by decide) rfl (show ¬ (W.length : Int) = 0 by omega) (show ¬ 16 ≤ (W.length : Int) by omega)]
      simp only [List.flatMap_cons, List.cons_append, vallF, e, List.nil_append]
      rw [vall_app, num_next hv0]
      simp only
      rw [ih (W ++ [min v 65535]) (by simp) (by simp; omega) (fun y hy => hv y (by simp [hy]))]
      have hl : (W ++ [min v 65535]).length + vs.length = W.length + (v :: vs).length := by simp; omega
      rw [hl]
      simp [wants]
theorem all_nums {pr : Int} (V : List Int) (hV : ∀ v ∈ V, 0 ≤ v ∧ v < 200000) : vallF ⟨4, pr, [], [], []⟩ [] (pbs [] V) = if V.length ≤ 16 then (⟨4, pr, wants V, [], []⟩, []) else (pa0 6, []) := by
  cases V with
  | nil => rfl
  | cons v vs =>
    simp only [pbs, List.nil_append]
    rw [vall_app, num_first (hV v (by simp))]
    simp only
    rw [nums_more vs _ (by simp) (by simp) (fun y hy => hV y (by simp [hy]))]
    have hl : [min v 65535].length + vs.length = (v :: vs).length := by simp; omega
    rw [hl]
    simp [wants]
theorem pbs_H (H V : List Int) : pbs H V = H ++ pbs [] V := by cases V <;> simp [pbs]
theorem fin_step {pr f : Int} {P : List Int} (hf : 64 ≤ f ∧ f ≤ 126) : vstepF ⟨4, pr, P, [], []⟩ f = (pa0 0, [⟨3, 0, f, pr, some P, some []⟩]) := by
  rw [csi_step rfl (by omega), vcsiF_1 (csi_ge (p := pa0 0) (by omega)) hf.1]
  rfl
theorem fin_ign {f : Int} (hf : 64 ≤ f ∧ f ≤ 126) : vstepF (pa0 6) f = (pa0 0, []) := by rw [ign_step rfl (by omega), if_pos hf.1]
def hdr (pv : Bool) : List Int := if pv then [27, 91, 63] else [27, 91]
def hpr (pv : Bool) : Int := if pv then 63 else 0
theorem hdr_all (pv : Bool) (l : List Int) : vallF ⟨0, 0, [], [], []⟩ [] (hdr pv ++ l) = vallF ⟨4, hpr pv, [], [], []⟩ [] l := by
  rw [vall_app]
  have : vallF ⟨0, 0, [], [], []⟩ [] (hdr pv) = (⟨4, hpr pv, [], [], []⟩, []) := by cases pv <;> rfl
  rw [this]
theorem params_all {pv : Bool} {V : List Int} {f : Int} (hV : ∀ v ∈ V, 0 ≤ v ∧ v < 200000) (hf : 64 ≤ f ∧ f ≤ 126) : vallF ⟨0, 0, [], [], []⟩ [] (pbs (hdr pv) V ++ [f]) = (pa0 0, if V.length ≤ 16 then [⟨3, 0, f, hpr pv, some (wants V), some []⟩] else []) := by
  rw [pbs_H, List.append_assoc, hdr_all, vall_app, all_nums V hV]
  split
  · simp only [vallF, fin_step hf, List.nil_append]
  · simp only [vallF, fin_ign hf, List.nil_append]
theorem params_t {pv : Bool} {V : List Int} {f : Int} (hV : ∀ v ∈ V, 0 ≤ v ∧ v < 200000) (hf : 64 ≤ f ∧ f ≤ 126) (h : V.length ≤ 16) : paR (vallF ⟨0, 0, [], [], []⟩ [] (pbs (hdr pv) V ++ [f])) = .tup [.agg [.int .i64 0, .int .u8 0, .sl 1 [] .any, .sl 1 [] .any, .sl 1 [] .any],
    .sl 6 [[.int .i64 3, .int .i32 0, .int .u8 f, .int .u8 (hpr pv), .sl 1 (intRows .i64 (wants V)) .any, .sl 1 [] .any]] .any] := by
  rw [params_all hV hf, if_pos h]; rfl
theorem params_f {pv : Bool} {V : List Int} {f : Int} (hV : ∀ v ∈ V, 0 ≤ v ∧ v < 200000) (hf : 64 ≤ f ∧ f ≤ 126) (h : ¬ V.length ≤ 16) : paR (vallF ⟨0, 0, [], [], []⟩ [] (pbs (hdr pv) V ++ [f])) = .tup [.agg [.int .i64 0, .int .u8 0, .sl 1 [] .any, .sl 1 [] .any, .sl 1 [] .any], .sl 6 [] .any] := by
  rw [params_all hV hf, if_neg h]; rfl
theorem pok0' : paOk ⟨0, 0, [], [], []⟩ := paOk_pa0 0
theorem hpr_f : hpr false = 0 := nrfl _
theorem hpr_t : hpr true = 63 := nrfl _
theorem conv_u32 {x : Int} (h : 0 ≤ x ∧ x ≤ 4294967295) : IntKind.i64.wrap (x.tmod 200000) = x % 200000 := by rw [Int.tmod_eq_emod_of_nonneg h.1, wI64] <;> omega
theorem wdig {v : Int} (h : 0 ≤ v ∧ v < 200000) : IntKind.u8.wrap (IntKind.i64.wrap (48 + IntKind.i64.wrap (v.tdiv 100000))) = 48 + v / 100000 ∧ IntKind.u8.wrap (IntKind.i64.wrap (48 + (IntKind.i64.wrap (v.tdiv 10000)).tmod 10)) = 48 + v / 10000 % 10 ∧
    IntKind.u8.wrap (IntKind.i64.wrap (48 + (IntKind.i64.wrap (v.tdiv 1000)).tmod 10)) = 48 + v / 1000 % 10 ∧ IntKind.u8.wrap (IntKind.i64.wrap (48 + (IntKind.i64.wrap (v.tdiv 100)).tmod 10)) = 48 + v / 100 % 10 ∧
    IntKind.u8.wrap (IntKind.i64.wrap (48 + (IntKind.i64.wrap (v.tdiv 10)).tmod 10)) = 48 + v / 10 % 10 ∧ IntKind.u8.wrap (IntKind.i64.wrap (48 + v.tmod 10)) = 48 + v % 10 := by
  have q : ∀ d : Int, v.tdiv d = v / d := fun d => Int.tdiv_eq_ediv_of_nonneg h.1
  have m : ∀ x : Int, 0 ≤ x → x.tmod 10 = x % 10 := fun x hx => Int.tmod_eq_emod_of_nonneg hx
  simp only [q]
  rw [wI64 (n := v / 100000) (by omega) (by omega), wI64 (n := v / 10000) (by omega) (by omega), wI64 (n := v / 1000) (by omega) (by omega), wI64 (n := v / 100) (by omega) (by omega), wI64 (n := v / 10) (by omega) (by omega),
    m _ (by omega), m _ (by omega), m _ (by omega), m _ (by omega), m _ (by omega)]
  refine ⟨?_, ?_, ?_, ?_, ?_, ?_⟩ <;> rw [wI64 (by omega) (by omega), wU8 (by omega) (by omega)]
set_option maxHeartbeats 8000000 in
theorem vtParams_true (dv : List DV) (h : ConfL [(false, [.sl [.int .u32]]), (false, [.int .u8]), (false, [.bool])] dv) : PCalls PG 10 dv fun _ r _ => r = .bool true := by
  obtain ⟨d0, r0, rfl, c0, h⟩ := h.cons
  obtain ⟨d1, r1, rfl, c1, h⟩ := h.cons
  obtain ⟨d2, r2, rfl, c2, h⟩ := h.cons
  obtain rfl := h.nil
  obtain ⟨l, rfl, hl⟩ := confA_ints c0
  obtain ⟨fi, rfl, hk⟩ := confA_int c1
  obtain ⟨pv, rfl⟩ := confA_bool c2
  clear c0 c1 c2
  refine PCalls.mono (R := fun n r os => r = .bool true ∧ os = []) ?_ fun n r os h => h.1
  refine PCalls.by_fn (res := fun n => (.bool true, [])) T38_ok rc_vtParams_ok (by simp [rc_vtParams]) fun n => ?_
  rw [u8mm.1, u8mm.2] at hk
  unfold rc_vtParams
  dsimp only
  simp -implicitDefEqProofs only [T38_l, ↓bindO_iteN, vcB1, vcB2, vcB3, vcA1, vcA2, vcA3, vcA4, vcA5, vcA6, vcA7, ↓vcP1, ↓vcP2, ↓reduceIte, Option.map_some, Option.map_none, Option.bind_some, Option.bind_none, if_true, if_false, reduceCtorEq, beq_true, beq_false, Bool.not_true, Bool.not_false, BEq.rfl, Bool.true_beq, Bool.false_beq, and_true, true_and, and_self, decide_true, decide_false, List.length_cons, List.length_nil, List.all_cons, List.all_nil, Bool.and_true, Bool.and_self, List.getElem?_cons_zero, List.getElem?_cons_succ, List.set_cons_zero, List.set_cons_succ, List.nil_append, List.cons_append, List.append_nil, List.map_cons, List.map_nil, not_true_eq_false, not_false_eq_true, false_implies, true_implies, implies_true, List.take_succ_cons, List.take_zero, List.take_nil, List.drop_succ_cons, List.drop_zero, List.drop_nil, Nat.reduceLT, Nat.reduceLeDiff, Nat.reduceEqDiff, Nat.reduceAdd, Nat.reduceSub, Nat.reduceMul, Int.reduceLT, Int.reduceLE, Int.reduceEq, Int.reduceToNat, Int.reduceAdd, Int.reduceSub, Int.reduceNeg, List.reduceReplicate, List.replicate_zero, List.replicate_succ, ne_eq, List.flatMap_cons, List.flatMap_nil, List.length_replicate, List.length_append, Nat.le_refl, Nat.le_add_right, Nat.add_assoc, List.append_assoc, or_true, true_or, or_false, false_or, and_false, false_and, exists_eq_left, exists_eq_left', Option.some.injEq, DV.int.injEq, DV.bool.injEq, DV.sl.injEq, DV.own.injEq, DV.tup.injEq, List.cons.injEq, Ob.arr.injEq, Ob.box.injEq, Option.map_map, Int.toNat_natCast, Int.toNat_zero, Nat.reducePow, Int.toNat_one, Int.reduceMul, Nat.mul_one, Nat.zero_add, Nat.add_zero, Function.comp_apply, List.map_append, List.map_replicate, Int.cast_ofNat_Int, Nat.left_eq_add, Nat.add_eq_left, Nat.add_left_cancel_iff]
  intro hl20
  have hll : l.length ≤ 20 := by omega
  obtain ⟨V, hV⟩ : ∃ V, V = l.map fun x => x % 200000 := ⟨_, rfl⟩
  have hVl : V.length = l.length := by rw [hV, List.length_map]
  have u32mm : IntKind.u32.min = 0 ∧ IntKind.u32.max = 4294967295 := by decide
  rw [u32mm.1, u32mm.2] at hl
  have hVb : ∀ v ∈ V, 0 ≤ v ∧ v < 200000 := fun v hv => by
    rw [hV, List.mem_map] at hv
    obtain ⟨x, _, rfl⟩ := hv
    omega
  cases pv
  · simp only [cnd_false]
    refine LoopWp.own 8 1 rfl (.inl rfl) ?_
    refine LoopWp.invR T38_ok (S := fun q (i : Nat) => ⟨[(0, .sl 1 (intRows .u32 l) .any), (1, .int .u8 fi), (2, .bool false), (7, .own q 0 (pbs (hdr false) (V.take i)).length), (8, .own (q + 1) 0 i), (9, .int .i64 i)],
      List.replicate q none ++ [some (.arr 1 (intRows .u8 (pbs (hdr false) (V.take i)))), some (.arr 1 (intRows .i64 (wants (V.take i))))]⟩) (I := fun i => i ≤ l.length) (μ := fun i => l.length - i) n 0 (by omega) ?_ ?_
    · simp -implicitDefEqProofs only [List.take_zero, vcB1, vcB2, vcB3, vcA1, vcA2, vcA3, vcA4, vcA5, vcA6, vcA7, ↓vcP1, ↓vcP2, ↓reduceIte, Option.map_some, Option.map_none, Option.bind_some, Option.bind_none, if_true, if_false, reduceCtorEq, beq_true, beq_false, Bool.not_true, Bool.not_false, BEq.rfl, Bool.true_beq, Bool.false_beq, and_true, true_and, and_self, decide_true, decide_false, List.length_cons, List.length_nil, List.all_cons, List.all_nil, Bool.and_true, Bool.and_self, List.getElem?_cons_zero, List.getElem?_cons_succ, List.set_cons_zero, List.set_cons_succ, List.nil_append, List.cons_append, List.append_nil, List.map_cons, List.map_nil, not_true_eq_false, not_false_eq_true, false_implies, true_implies, implies_true, List.take_succ_cons, List.take_zero, List.take_nil, List.drop_succ_cons, List.drop_zero, List.drop_nil, Nat.reduceLT, Nat.reduceLeDiff, Nat.reduceEqDiff, Nat.reduceAdd, Nat.reduceSub, Nat.reduceMul, Int.reduceLT, Int.reduceLE, Int.reduceEq, Int.reduceToNat, Int.reduceAdd, Int.reduceSub, Int.reduceNeg, List.reduceReplicate, List.replicate_zero, List.replicate_succ, ne_eq, List.flatMap_cons, List.flatMap_nil, List.length_replicate, List.length_append, Nat.le_refl, Nat.le_add_right, Nat.add_assoc, List.append_assoc, or_true, true_or, or_false, false_or, and_false, false_and, exists_eq_left, exists_eq_left', Option.some.injEq, DV.int.injEq, DV.bool.injEq, DV.sl.injEq, DV.own.injEq, DV.tup.injEq, List.cons.injEq, Ob.arr.injEq, Ob.box.injEq, Option.map_map, Int.toNat_natCast, Int.toNat_zero, Nat.reducePow, Int.toNat_one, Int.reduceMul, Nat.mul_one, Nat.zero_add, Nat.add_zero, Function.comp_apply, List.map_append, List.map_replicate, Int.cast_ofNat_Int, Nat.left_eq_add, Nat.add_eq_left, Nat.add_left_cancel_iff]
      exact ⟨rfl, rfl, rfl⟩
    · intro q i hq hi
      have hpl := pbs_len (hdr false) (V.take i)
      have hhl : (hdr false).length ≤ 3 := by decide
      have htl : (V.take i).length = i := by rw [List.length_take]; omega
      have hwl : (wants (V.take i)).length = i := by rw [wants, List.length_map]; exact htl
      rw [htl] at hpl
      unfold rc_vtParams_l0
      simp -implicitDefEqProofs only [T38_l, ↓bindO_iteN, vcB1, vcB2, vcB3, vcA1, vcA2, vcA3, vcA4, vcA5, vcA6, vcA7, ↓vcP1, ↓vcP2, ↓reduceIte, Option.map_some, Option.map_none, Option.bind_some, Option.bind_none, if_true, if_false, reduceCtorEq, beq_true, beq_false, Bool.not_true, Bool.not_false, BEq.rfl, Bool.true_beq, Bool.false_beq, and_true, true_and, and_self, decide_true, decide_false, List.length_cons, List.length_nil, List.all_cons, List.all_nil, Bool.and_true, Bool.and_self, List.getElem?_cons_zero, List.getElem?_cons_succ, List.set_cons_zero, List.set_cons_succ, List.nil_append, List.cons_append, List.append_nil, List.map_cons, List.map_nil, not_true_eq_false, not_false_eq_true, false_implies, true_implies, implies_true, List.take_succ_cons, List.take_zero, List.take_nil, List.drop_succ_cons, List.drop_zero, List.drop_nil, Nat.reduceLT, Nat.reduceLeDiff, Nat.reduceEqDiff, Nat.reduceAdd, Nat.reduceSub, Nat.reduceMul, Int.reduceLT, Int.reduceLE, Int.reduceEq, Int.reduceToNat, Int.reduceAdd, Int.reduceSub, Int.reduceNeg, List.reduceReplicate, List.replicate_zero, List.replicate_succ, ne_eq, List.flatMap_cons, List.flatMap_nil, List.length_replicate, List.length_append, Nat.le_refl, Nat.le_add_right, Nat.add_assoc, List.append_assoc, or_true, true_or, or_false, false_or, and_false, false_and, exists_eq_left, exists_eq_left', Option.some.injEq, DV.int.injEq, DV.bool.injEq, DV.sl.injEq, DV.own.injEq, DV.tup.injEq, List.cons.injEq, Ob.arr.injEq, Ob.box.injEq, Option.map_map, Int.toNat_natCast, Int.toNat_zero, Nat.reducePow, Int.toNat_one, Int.reduceMul, Nat.mul_one, Nat.zero_add, Nat.add_zero, Function.comp_apply, List.map_append, List.map_replicate, Int.cast_ofNat_Int, Nat.left_eq_add, Nat.add_eq_left, Nat.add_left_cancel_iff]
      generalize hR : RC.wp PG (tab T38) 157 rc_vtParams_r1 _ _ = G
      have hG : i = l.length → G := fun hi2 => by
        rw [← hR]; clear hR
        have hVt : V.take i = V := List.take_of_length_le (by omega)
        rw [hVt]
        rw [hVt] at hpl htl hwl
        have hf : 64 ≤ 64 + fi % 63 ∧ 64 + fi % 63 ≤ 126 := by omega
        have w1 : fi.tmod 63 = fi % 63 := Int.tmod_eq_emod_of_nonneg hk.1
        have w2 : IntKind.u8.wrap (64 + fi % 63) = 64 + fi % 63 := wU8 (by omega) (by omega)
        have hpk : inK .u8 (pbs (hdr false) V ++ [64 + fi % 63]) := by
          refine inK_u8 (by simp; omega) fun x hx => ?_
          rcases List.mem_append.1 hx with hx | hx
          · exact pbs_u8 (by decide) hVb x hx
          · simp at hx; omega
        have htk : List.take ((pbs (hdr false) V).length + 1) (pbs (hdr false) V ++ [64 + fi % 63]) = pbs (hdr false) V ++ [64 + fi % 63] := List.take_of_length_le (by simp)
        unfold rc_vtParams_r1
        by_cases h16 : V.length ≤ 16
        · have q1 := params_t (pv := false) hVb hf h16
          have c1 : ¬ 16 < l.length := by omega
          have c2 : (¬ (16 : Int) < l.length) := by omega
          simp -implicitDefEqProofs only [T38_l, htk, w1, w2, q1, hpr_f, hpr_t, hwl, c2, pok0', isInts_sl, isInts_nil, intsD_nil, intsD_sl, ints_intRows, ints_nil, ↓bindO_iteN, vcB1, vcB2, vcB3, vcA1, vcA2, vcA3, vcA4, vcA5, vcA6, vcA7, ↓vcP1, ↓vcP2, ↓reduceIte, Option.map_some, Option.map_none, Option.bind_some, Option.bind_none, if_true, if_false, reduceCtorEq, beq_true, beq_false, Bool.not_true, Bool.not_false, BEq.rfl, Bool.true_beq, Bool.false_beq, and_true, true_and, and_self, decide_true, decide_false, List.length_cons, List.length_nil, List.all_cons, List.all_nil, Bool.and_true, Bool.and_self, List.getElem?_cons_zero, List.getElem?_cons_succ, List.set_cons_zero, List.set_cons_succ, List.nil_append, List.cons_append, List.append_nil, List.map_cons, List.map_nil, not_true_eq_false, not_false_eq_true, false_implies, true_implies, implies_true, List.take_succ_cons, List.take_zero, List.take_nil, List.drop_succ_cons, List.drop_zero, List.drop_nil, Nat.reduceLT, Nat.reduceLeDiff, Nat.reduceEqDiff, Nat.reduceAdd, Nat.reduceSub, Nat.reduceMul, Int.reduceLT, Int.reduceLE, Int.reduceEq, Int.reduceToNat, Int.reduceAdd, Int.reduceSub, Int.reduceNeg, List.reduceReplicate, List.replicate_zero, List.replicate_succ, ne_eq, List.flatMap_cons, List.flatMap_nil, List.length_replicate, List.length_append, Nat.le_refl, Nat.le_add_right, Nat.add_assoc, List.append_assoc, or_true, true_or, or_false, false_or, and_false, false_and, exists_eq_left, exists_eq_left', Option.some.injEq, DV.int.injEq, DV.bool.injEq, DV.sl.injEq, DV.own.injEq, DV.tup.injEq, List.cons.injEq, Ob.arr.injEq, Ob.box.injEq, Option.map_map, Int.toNat_natCast, Int.toNat_zero, Nat.reducePow, Int.toNat_one, Int.reduceMul, Nat.mul_one, Nat.zero_add, Nat.add_zero, Function.comp_apply, List.map_append, List.map_replicate, Int.cast_ofNat_Int, Nat.left_eq_add, Nat.add_eq_left, Nat.add_left_cancel_iff]
          refine ⟨⟨by omega, by omega⟩, ⟨hpk, by omega⟩, ?_⟩
          refine LoopWp.invR T38_ok (S := fun q2 (e : Nat) => ⟨[(8, .own q2 0 i), (14, .sl 6 [[.int .i64 3, .int .i32 0, .int .u8 (64 + fi % 63), .int .u8 0, .sl 1 (intRows .i64 (wants V)) .any, .sl 1 [] .any]] .any), (15, .int .i64 e)], List.replicate q2 none ++ [some (.arr 1 (intRows .i64 (wants V)))]⟩) (I := fun e => e ≤ i) (μ := fun e => i - e) n 0 (by omega) ?_ ?_
          · simp -implicitDefEqProofs only [vcB1, vcB2, vcB3, vcA1, vcA2, vcA3, vcA4, vcA5, vcA6, vcA7, ↓vcP1, ↓vcP2, ↓reduceIte, Option.map_some, Option.map_none, Option.bind_some, Option.bind_none, if_true, if_false, reduceCtorEq, beq_true, beq_false, Bool.not_true, Bool.not_false, BEq.rfl, Bool.true_beq, Bool.false_beq, and_true, true_and, and_self, decide_true, decide_false, List.length_cons, List.length_nil, List.all_cons, List.all_nil, Bool.and_true, Bool.and_self, List.getElem?_cons_zero, List.getElem?_cons_succ, List.set_cons_zero, List.set_cons_succ, List.nil_append, List.cons_append, List.append_nil, List.map_cons, List.map_nil, not_true_eq_false, not_false_eq_true, false_implies, true_implies, implies_true, List.take_succ_cons, List.take_zero, List.take_nil, List.drop_succ_cons, List.drop_zero, List.drop_nil, Nat.reduceLT, Nat.reduceLeDiff, Nat.reduceEqDiff, Nat.reduceAdd, Nat.reduceSub, Nat.reduceMul, Int.reduceLT, Int.reduceLE, Int.reduceEq, Int.reduceToNat, Int.reduceAdd, Int.reduceSub, Int.reduceNeg, List.reduceReplicate, List.replicate_zero, List.replicate_succ, ne_eq, List.flatMap_cons, List.flatMap_nil, List.length_replicate, List.length_append, Nat.le_refl, Nat.le_add_right, Nat.add_assoc, List.append_assoc, or_true, true_or, or_false, false_or, and_false, false_and, exists_eq_left, exists_eq_left', Option.some.injEq, DV.int.injEq, DV.bool.injEq, DV.sl.injEq, DV.own.injEq, DV.tup.injEq, List.cons.injEq, Ob.arr.injEq, Ob.box.injEq, Option.map_map, Int.toNat_natCast, Int.toNat_zero, Nat.reducePow, Int.toNat_one, Int.reduceMul, Nat.mul_one, Nat.zero_add, Nat.add_zero, Function.comp_apply, List.map_append, List.map_replicate, Int.cast_ofNat_Int, Nat.left_eq_add, Nat.add_eq_left, Nat.add_left_cancel_iff]
            omega
          · intro q2 e hq2 he
            unfold rc_vtParams_l1 rc_vtParams_r0
            simp -implicitDefEqProofs only [hwl, vcB1, vcB2, vcB3, vcA1, vcA2, vcA3, vcA4, vcA5, vcA6, vcA7, ↓vcP1, ↓vcP2, ↓reduceIte, Option.map_some, Option.map_none, Option.bind_some, Option.bind_none, if_true, if_false, reduceCtorEq, beq_true, beq_false, Bool.not_true, Bool.not_false, BEq.rfl, Bool.true_beq, Bool.false_beq, and_true, true_and, and_self, decide_true, decide_false, List.length_cons, List.length_nil, List.all_cons, List.all_nil, Bool.and_true, Bool.and_self, List.getElem?_cons_zero, List.getElem?_cons_succ, List.set_cons_zero, List.set_cons_succ, List.nil_append, List.cons_append, List.append_nil, List.map_cons, List.map_nil, not_true_eq_false, not_false_eq_true, false_implies, true_implies, implies_true, List.take_succ_cons, List.take_zero, List.take_nil, List.drop_succ_cons, List.drop_zero, List.drop_nil, Nat.reduceLT, Nat.reduceLeDiff, Nat.reduceEqDiff, Nat.reduceAdd, Nat.reduceSub, Nat.reduceMul, Int.reduceLT, Int.reduceLE, Int.reduceEq, Int.reduceToNat, Int.reduceAdd, Int.reduceSub, Int.reduceNeg, List.reduceReplicate, List.replicate_zero, List.replicate_succ, ne_eq, List.flatMap_cons, List.flatMap_nil, List.length_replicate, List.length_append, Nat.le_refl, Nat.le_add_right, Nat.add_assoc, List.append_assoc, or_true, true_or, or_false, false_or, and_false, false_and, exists_eq_left, exists_eq_left', Option.some.injEq, DV.int.injEq, DV.bool.injEq, DV.sl.injEq, DV.own.injEq, DV.tup.injEq, List.cons.injEq, Ob.arr.injEq, Ob.box.injEq, Option.map_map, Int.toNat_natCast, Int.toNat_zero, Nat.reducePow, Int.toNat_one, Int.reduceMul, Nat.mul_one, Nat.zero_add, Nat.add_zero, Function.comp_apply, List.map_append, List.map_replicate, Int.cast_ofNat_Int, Nat.left_eq_add, Nat.add_eq_left, Nat.add_left_cancel_iff]
            exact ⟨fun h => ⟨⟨by omega, h⟩, by omega, ⟨by omega, h⟩, by omega, by omega, e + 1, by rw [wI64] <;> omega, by omega, by omega⟩, fun h => by omega⟩
        · have q1 := params_f (pv := false) hVb hf h16
          have c2 : (16 : Int) < l.length := by omega
          simp -implicitDefEqProofs only [T38_l, htk, w1, w2, q1, hpr_f, hpr_t, hwl, c2, pok0', isInts_sl, isInts_nil, intsD_nil, intsD_sl, ints_intRows, ints_nil, ↓bindO_iteN, vcB1, vcB2, vcB3, vcA1, vcA2, vcA3, vcA4, vcA5, vcA6, vcA7, ↓vcP1, ↓vcP2, ↓reduceIte, Option.map_some, Option.map_none, Option.bind_some, Option.bind_none, if_true, if_false, reduceCtorEq, beq_true, beq_false, Bool.not_true, Bool.not_false, BEq.rfl, Bool.true_beq, Bool.false_beq, and_true, true_and, and_self, decide_true, decide_false, List.length_cons, List.length_nil, List.all_cons, List.all_nil, Bool.and_true, Bool.and_self, List.getElem?_cons_zero, List.getElem?_cons_succ, List.set_cons_zero, List.set_cons_succ, List.nil_append, List.cons_append, List.append_nil, List.map_cons, List.map_nil, not_true_eq_false, not_false_eq_true, false_implies, true_implies, implies_true, List.take_succ_cons, List.take_zero, List.take_nil, List.drop_succ_cons, List.drop_zero, List.drop_nil, Nat.reduceLT, Nat.reduceLeDiff, Nat.reduceEqDiff, Nat.reduceAdd, Nat.reduceSub, Nat.reduceMul, Int.reduceLT, Int.reduceLE, Int.reduceEq, Int.reduceToNat, Int.reduceAdd, Int.reduceSub, Int.reduceNeg, List.reduceReplicate, List.replicate_zero, List.replicate_succ, ne_eq, List.flatMap_cons, List.flatMap_nil, List.length_replicate, List.length_append, Nat.le_refl, Nat.le_add_right, Nat.add_assoc, List.append_assoc, or_true, true_or, or_false, false_or, and_false, false_and, exists_eq_left, exists_eq_left', Option.some.injEq, DV.int.injEq, DV.bool.injEq, DV.sl.injEq, DV.own.injEq, DV.tup.injEq, List.cons.injEq, Ob.arr.injEq, Ob.box.injEq, Option.map_map, Int.toNat_natCast, Int.toNat_zero, Nat.reducePow, Int.toNat_one, Int.reduceMul, Nat.mul_one, Nat.zero_add, Nat.add_zero, Function.comp_apply, List.map_append, List.map_replicate, Int.cast_ofNat_Int, Nat.left_eq_add, Nat.add_eq_left, Nat.add_left_cancel_iff]
          exact ⟨⟨by omega, by omega⟩, ⟨hpk, by omega⟩, by omega⟩
      clear hR
      refine ⟨fun h => ?_, fun h => hG (by omega)⟩
      have h0 : i < l.length := by omega
      have hx := hl _ (getD_mem h0)
      have hvi : V[i]'(by omega) = l.getD i 0 % 200000 := by
        simp only [hV, List.getElem_map]
        rw [List.getD_eq_getElem?_getD, List.getElem?_eq_getElem h0]; rfl
      have hvb : 0 ≤ l.getD i 0 % 200000 ∧ l.getD i 0 % 200000 < 200000 := by omega
      obtain ⟨d1, d2, d3, d4, d5, d6⟩ := wdig hvb
      have ht : V.take (i + 1) = V.take i ++ [l.getD i 0 % 200000] := by rw [List.take_succ_eq_append_getElem (by omega), hvi]
      have hs := pbs_snoc (hdr false) (V.take i) (l.getD i 0 % 200000)
      rw [← ht] at hs
      have hw : wants (V.take (i + 1)) = wants (V.take i) ++ [min (l.getD i 0 % 200000) 65535] := by rw [ht]; simp [wants]
      simp only [conv_u32 hx, d1, d2, d3, d4, d5, d6]
      refine ⟨fun h1 => ⟨⟨by omega, by omega⟩, ⟨by omega, h⟩, h0, ⟨by omega, by omega⟩, ⟨hwl.symm, by omega, by omega⟩, by omega, i + 1, ⟨⟨?_, rfl, by rw [wI64] <;> omega⟩, ?_, ?_⟩, by omega, by omega⟩, fun h1 => ⟨⟨by omega, h⟩, h0, ⟨by omega, by omega⟩, ⟨hwl.symm, by omega, by omega⟩, by omega, i + 1, ⟨⟨?_, rfl, by rw [wI64] <;> omega⟩, ?_, ?_⟩, by omega, by omega⟩⟩
      · rw [hs, if_neg (by intro e; rw [e] at htl; simp at htl; omega)]; simp [digs]
      · rw [hs, if_neg (by intro e; rw [e] at htl; simp at htl; omega)]; rfl
      · rw [hw]
      · have : i = 0 := by omega
        subst this
        rw [hs]; simp [digs]
      · have : i = 0 := by omega
        subst this
        rw [hs]; rfl
      · rw [hw]
  · simp only [cnd_true]
    refine LoopWp.own 8 1 rfl (.inl rfl) ?_
    refine LoopWp.invR T38_ok (S := fun q (i : Nat) => ⟨[(0, .sl 1 (intRows .u32 l) .any), (1, .int .u8 fi), (2, .bool true), (7, .own q 0 (pbs (hdr true) (V.take i)).length), (8, .own (q + 1) 0 i), (9, .int .i64 i)],
      List.replicate q none ++ [some (.arr 1 (intRows .u8 (pbs (hdr true) (V.take i)))), some (.arr 1 (intRows .i64 (wants (V.take i))))]⟩) (I := fun i => i ≤ l.length) (μ := fun i => l.length - i) n 0 (by omega) ?_ ?_
    · simp -implicitDefEqProofs only [List.take_zero, vcB1, vcB2, vcB3, vcA1, vcA2, vcA3, vcA4, vcA5, vcA6, vcA7, ↓vcP1, ↓vcP2, ↓reduceIte, Option.map_some, Option.map_none, Option.bind_some, Option.bind_none, if_true, if_false, reduceCtorEq, beq_true, beq_false, Bool.not_true, Bool.not_false, BEq.rfl, Bool.true_beq, Bool.false_beq, and_true, true_and, and_self, decide_true, decide_false, List.length_cons, List.length_nil, List.all_cons, List.all_nil, Bool.and_true, Bool.and_self, List.getElem?_cons_zero, List.getElem?_cons_succ, List.set_cons_zero, List.set_cons_succ, List.nil_append, List.cons_append, List.append_nil, List.map_cons, List.map_nil, not_true_eq_false, not_false_eq_true, false_implies, true_implies, implies_true, List.take_succ_cons, List.take_zero, List.take_nil, List.drop_succ_cons, List.drop_zero, List.drop_nil, Nat.reduceLT, Nat.reduceLeDiff, Nat.reduceEqDiff, Nat.reduceAdd, Nat.reduceSub, Nat.reduceMul, Int.reduceLT, Int.reduceLE, Int.reduceEq, Int.reduceToNat, Int.reduceAdd, Int.reduceSub, Int.reduceNeg, List.reduceReplicate, List.replicate_zero, List.replicate_succ, ne_eq, List.flatMap_cons, List.flatMap_nil, List.length_replicate, List.length_append, Nat.le_refl, Nat.le_add_right, Nat.add_assoc, List.append_assoc, or_true, true_or, or_false, false_or, and_false, false_and, exists_eq_left, exists_eq_left', Option.some.injEq, DV.int.injEq, DV.bool.injEq, DV.sl.injEq, DV.own.injEq, DV.tup.injEq, List.cons.injEq, Ob.arr.injEq, Ob.box.injEq, Option.map_map, Int.toNat_natCast, Int.toNat_zero, Nat.reducePow, Int.toNat_one, Int.reduceMul, Nat.mul_one, Nat.zero_add, Nat.add_zero, Function.comp_apply, List.map_append, List.map_replicate, Int.cast_ofNat_Int, Nat.left_eq_add, Nat.add_eq_left, Nat.add_left_cancel_iff]
      exact ⟨rfl, rfl, rfl⟩
    · intro q i hq hi
      have hpl := pbs_len (hdr true) (V.take i)
      have hhl : (hdr true).length ≤ 3 := by decide
      have htl : (V.take i).length = i := by rw [List.length_take]; omega
      have hwl : (wants (V.take i)).length = i := by rw [wants, List.length_map]; exact htl
      rw [htl] at hpl
      unfold rc_vtParams_l0
      simp -implicitDefEqProofs only [T38_l, ↓bindO_iteN, vcB1, vcB2, vcB3, vcA1, vcA2, vcA3, vcA4, vcA5, vcA6, vcA7, ↓vcP1, ↓vcP2, ↓reduceIte, Option.map_some, Option.map_none, Option.bind_some, Option.bind_none, if_true, if_false, reduceCtorEq, beq_true, beq_false, Bool.not_true, Bool.not_false, BEq.rfl, Bool.true_beq, Bool.false_beq, and_true, true_and, and_self, decide_true, decide_false, List.length_cons, List.length_nil, List.all_cons, List.all_nil, Bool.and_true, Bool.and_self, List.getElem?_cons_zero, List.getElem?_cons_succ, List.set_cons_zero, List.set_cons_succ, List.nil_append, List.cons_append, List.append_nil, List.map_cons, List.map_nil, not_true_eq_false, not_false_eq_true, false_implies, true_implies, implies_true, List.take_succ_cons, List.take_zero, List.take_nil, List.drop_succ_cons, List.drop_zero, List.drop_nil, Nat.reduceLT, Nat.reduceLeDiff, Nat.reduceEqDiff, Nat.reduceAdd, Nat.reduceSub, Nat.reduceMul, Int.reduceLT, Int.reduceLE, Int.reduceEq, Int.reduceToNat, Int.reduceAdd, Int.reduceSub, Int.reduceNeg, List.reduceReplicate, List.replicate_zero, List.replicate_succ, ne_eq, List.flatMap_cons, List.flatMap_nil, List.length_replicate, List.length_append, Nat.le_refl, Nat.le_add_right, Nat.add_assoc, List.append_assoc, or_true, true_or, or_false, false_or, and_false, false_and, exists_eq_left, exists_eq_left', Option.some.injEq, DV.int.injEq, DV.bool.injEq, DV.sl.injEq, DV.own.injEq, DV.tup.injEq, List.cons.injEq, Ob.arr.injEq, Ob.box.injEq, Option.map_map, Int.toNat_natCast, Int.toNat_zero, Nat.reducePow, Int.toNat_one, Int.reduceMul, Nat.mul_one, Nat.zero_add, Nat.add_zero, Function.comp_apply, List.map_append, List.map_replicate, Int.cast_ofNat_Int, Nat.left_eq_add, Nat.add_eq_left, Nat.add_left_cancel_iff]
      generalize hR : RC.wp PG (tab T38) 157 rc_vtParams_r1 _ _ = G
      have hG : i = l.length → G := fun hi2 => by
        rw [← hR]; clear hR
        have hVt : V.take i = V := List.take_of_length_le (by omega)
        rw [hVt]
        rw [hVt] at hpl htl hwl
        have hf : 64 ≤ 64 + fi % 63 ∧ 64 + fi % 63 ≤ 126 := by omega
        have w1 : fi.tmod 63 = fi % 63 := Int.tmod_eq_emod_of_nonneg hk.1
        have w2 : IntKind.u8.wrap (64 + fi % 63) = 64 + fi % 63 := wU8 (by omega) (by omega)
        have hpk : inK .u8 (pbs (hdr true) V ++ [64 + fi % 63]) := by
          refine inK_u8 (by simp; omega) fun x hx => ?_
          rcases List.mem_append.1 hx with hx | hx
          · exact pbs_u8 (by decide) hVb x hx
          · simp at hx; omega
        have htk : List.take ((pbs (hdr true) V).length + 1) (pbs (hdr true) V ++ [64 + fi % 63]) = pbs (hdr true) V ++ [64 + fi % 63] := List.take_of_length_le (by simp)
        unfold rc_vtParams_r1
        by_cases h16 : V.length ≤ 16
        · have q1 := params_t (pv := true) hVb hf h16
          have c1 : ¬ 16 < l.length := by omega
          have c2 : (¬ (16 : Int) < l.length) := by omega
          simp -implicitDefEqProofs only [T38_l, htk, w1, w2, q1, hpr_f, hpr_t, hwl, c2, pok0', isInts_sl, isInts_nil, intsD_nil, intsD_sl, ints_intRows, ints_nil, ↓bindO_iteN, vcB1, vcB2, vcB3, vcA1, vcA2, vcA3, vcA4, vcA5, vcA6, vcA7, ↓vcP1, ↓vcP2, ↓reduceIte, Option.map_some, Option.map_none, Option.bind_some, Option.bind_none, if_true, if_false, reduceCtorEq, beq_true, beq_false, Bool.not_true, Bool.not_false, BEq.rfl, Bool.true_beq, Bool.false_beq, and_true, true_and, and_self, decide_true, decide_false, List.length_cons, List.length_nil, List.all_cons, List.all_nil, Bool.and_true, Bool.and_self, List.getElem?_cons_zero, List.getElem?_cons_succ, List.set_cons_zero, List.set_cons_succ, List.nil_append, List.cons_append, List.append_nil, List.map_cons, List.map_nil, not_true_eq_false, not_false_eq_true, false_implies, true_implies, implies_true, List.take_succ_cons, List.take_zero, List.take_nil, List.drop_succ_cons, List.drop_zero, List.drop_nil, Nat.reduceLT, Nat.reduceLeDiff, Nat.reduceEqDiff, Nat.reduceAdd, Nat.reduceSub, Nat.reduceMul, Int.reduceLT, Int.reduceLE, Int.reduceEq, Int.reduceToNat, Int.reduceAdd, Int.reduceSub, Int.reduceNeg, List.reduceReplicate, List.replicate_zero, List.replicate_succ, ne_eq, List.flatMap_cons, List.flatMap_nil, List.length_replicate, List.length_append, Nat.le_refl, Nat.le_add_right, Nat.add_assoc, List.append_assoc, or_true, true_or, or_false, false_or, and_false, false_and, exists_eq_left, exists_eq_left', Option.some.injEq, DV.int.injEq, DV.bool.injEq, DV.sl.injEq, DV.own.injEq, DV.tup.injEq, List.cons.injEq, Ob.arr.injEq, Ob.box.injEq, Option.map_map, Int.toNat_natCast, Int.toNat_zero, Nat.reducePow, Int.toNat_one, Int.reduceMul, Nat.mul_one, Nat.zero_add, Nat.add_zero, Function.comp_apply, List.map_append, List.map_replicate, Int.cast_ofNat_Int, Nat.left_eq_add, Nat.add_eq_left, Nat.add_left_cancel_iff]
          refine ⟨⟨by omega, by omega⟩, ⟨hpk, by omega⟩, ?_⟩
          refine LoopWp.invR T38_ok (S := fun q2 (e : Nat) => ⟨[(8, .own q2 0 i), (14, .sl 6 [[.int .i64 3, .int .i32 0, .int .u8 (64 + fi % 63), .int .u8 63, .sl 1 (intRows .i64 (wants V)) .any, .sl 1 [] .any]] .any), (15, .int .i64 e)], List.replicate q2 none ++ [some (.arr 1 (intRows .i64 (wants V)))]⟩) (I := fun e => e ≤ i) (μ := fun e => i - e) n 0 (by omega) ?_ ?_
          · simp -implicitDefEqProofs only [vcB1, vcB2, vcB3, vcA1, vcA2, vcA3, vcA4, vcA5, vcA6, vcA7, ↓vcP1, ↓vcP2, ↓reduceIte, Option.map_some, Option.map_none, Option.bind_some, Option.bind_none, if_true, if_false, reduceCtorEq, beq_true, beq_false, Bool.not_true, Bool.not_false, BEq.rfl, Bool.true_beq, Bool.false_beq, and_true, true_and, and_self, decide_true, decide_false, List.length_cons, List.length_nil, List.all_cons, List.all_nil, Bool.and_true, Bool.and_self, List.getElem?_cons_zero, List.getElem?_cons_succ, List.set_cons_zero, List.set_cons_succ, List.nil_append, List.cons_append, List.append_nil, List.map_cons, List.map_nil, not_true_eq_false, not_false_eq_true, false_implies, true_implies, implies_true, List.take_succ_cons, List.take_zero, List.take_nil, List.drop_succ_cons, List.drop_zero, List.drop_nil, Nat.reduceLT, Nat.reduceLeDiff, Nat.reduceEqDiff, Nat.reduceAdd, Nat.reduceSub, Nat.reduceMul, Int.reduceLT, Int.reduceLE, Int.reduceEq, Int.reduceToNat, Int.reduceAdd, Int.reduceSub, Int.reduceNeg, List.reduceReplicate, List.replicate_zero, List.replicate_succ, ne_eq, List.flatMap_cons, List.flatMap_nil, List.length_replicate, List.length_append, Nat.le_refl, Nat.le_add_right, Nat.add_assoc, List.append_assoc, or_true, true_or, or_false, false_or, and_false, false_and, exists_eq_left, exists_eq_left', Option.some.injEq, DV.int.injEq, DV.bool.injEq, DV.sl.injEq, DV.own.injEq, DV.tup.injEq, List.cons.injEq, Ob.arr.injEq, Ob.box.injEq, Option.map_map, Int.toNat_natCast, Int.toNat_zero, Nat.reducePow, Int.toNat_one, Int.reduceMul, Nat.mul_one, Nat.zero_add, Nat.add_zero, Function.comp_apply, List.map_append, List.map_replicate, Int.cast_ofNat_Int, Nat.left_eq_add, Nat.add_eq_left, Nat.add_left_cancel_iff]
            omega
          · intro q2 e hq2 he
            unfold rc_vtParams_l1 rc_vtParams_r0
            simp -implicitDefEqProofs only [hwl, vcB1, vcB2, vcB3, vcA1, vcA2, vcA3, vcA4, vcA5, vcA6, vcA7, ↓vcP1, ↓vcP2, ↓reduceIte, Option.map_some, Option.map_none, Option.bind_some, Option.bind_none, if_true, if_false, reduceCtorEq, beq_true, beq_false, Bool.not_true, Bool.not_false, BEq.rfl, Bool.true_beq, Bool.false_beq, and_true, true_and, and_self, decide_true, decide_false, List.length_cons, List.length_nil, List.all_cons, List.all_nil, Bool.and_true, Bool.and_self, List.getElem?_cons_zero, List.getElem?_cons_succ, List.set_cons_zero, List.set_cons_succ, List.nil_append, List.cons_append, List.append_nil, List.map_cons, List.map_nil, not_true_eq_false, not_false_eq_true, false_implies, true_implies, implies_true, List.take_succ_cons, List.take_zero, List.take_nil, List.drop_succ_cons, List.drop_zero, List.drop_nil, Nat.reduceLT, Nat.reduceLeDiff, Nat.reduceEqDiff, Nat.reduceAdd, Nat.reduceSub, Nat.reduceMul, Int.reduceLT, Int.reduceLE, Int.reduceEq, Int.reduceToNat, Int.reduceAdd, Int.reduceSub, Int.reduceNeg, List.reduceReplicate, List.replicate_zero, List.replicate_succ, ne_eq, List.flatMap_cons, List.flatMap_nil, List.length_replicate, List.length_append, Nat.le_refl, Nat.le_add_right, Nat.add_assoc, List.append_assoc, or_true, true_or, or_false, false_or, and_false, false_and, exists_eq_left, exists_eq_left', Option.some.injEq, DV.int.injEq, DV.bool.injEq, DV.sl.injEq, DV.own.injEq, DV.tup.injEq, List.cons.injEq, Ob.arr.injEq, Ob.box.injEq, Option.map_map, Int.toNat_natCast, Int.toNat_zero, Nat.reducePow, Int.toNat_one, Int.reduceMul, Nat.mul_one, Nat.zero_add, Nat.add_zero, Function.comp_apply, List.map_append, List.map_replicate, Int.cast_ofNat_Int, Nat.left_eq_add, Nat.add_eq_left, Nat.add_left_cancel_iff]
            exact ⟨fun h => ⟨⟨by omega, h⟩, by omega, ⟨by omega, h⟩, by omega, by omega, e + 1, by rw [wI64] <;> omega, by omega, by omega⟩, fun h => by omega⟩
        · have q1 := params_f (pv := true) hVb hf h16
          have c2 : (16 : Int) < l.length := by omega
          simp -implicitDefEqProofs only [T38_l, htk, w1, w2, q1, hpr_f, hpr_t, hwl, c2, pok0', isInts_sl, isInts_nil, intsD_nil, intsD_sl, ints_intRows, ints_nil, ↓bindO_iteN, vcB1, vcB2, vcB3, vcA1, vcA2, vcA3, vcA4, vcA5, vcA6, vcA7, ↓vcP1, ↓vcP2, ↓reduceIte, Option.map_some, Option.map_none, Option.bind_some, Option.bind_none, if_true, if_false, reduceCtorEq, beq_true, beq_false, Bool.not_true, Bool.not_false, BEq.rfl, Bool.true_beq, Bool.false_beq, and_true, true_and, and_self, decide_true, decide_false, List.length_cons, List.length_nil, List.all_cons, List.all_nil, Bool.and_true, Bool.and_self, List.getElem?_cons_zero, List.getElem?_cons_succ, List.set_cons_zero, List.set_cons_succ, List.nil_append, List.cons_append, List.append_nil, List.map_cons, List.map_nil, not_true_eq_false, not_false_eq_true, false_implies, true_implies, implies_true, List.take_succ_cons, List.take_zero, List.take_nil, List.drop_succ_cons, List.drop_zero, List.drop_nil, Nat.reduceLT, Nat.reduceLeDiff, Nat.reduceEqDiff, Nat.reduceAdd, Nat.reduceSub, Nat.reduceMul, Int.reduceLT, Int.reduceLE, Int.reduceEq, Int.reduceToNat, Int.reduceAdd, Int.reduceSub, Int.reduceNeg, List.reduceReplicate, List.replicate_zero, List.replicate_succ, ne_eq, List.flatMap_cons, List.flatMap_nil, List.length_replicate, List.length_append, Nat.le_refl, Nat.le_add_right, Nat.add_assoc, List.append_assoc, or_true, true_or, or_false, false_or, and_false, false_and, exists_eq_left, exists_eq_left', Option.some.injEq, DV.int.injEq, DV.bool.injEq, DV.sl.injEq, DV.own.injEq, DV.tup.injEq, List.cons.injEq, Ob.arr.injEq, Ob.box.injEq, Option.map_map, Int.toNat_natCast, Int.toNat_zero, Nat.reducePow, Int.toNat_one, Int.reduceMul, Nat.mul_one, Nat.zero_add, Nat.add_zero, Function.comp_apply, List.map_append, List.map_replicate, Int.cast_ofNat_Int, Nat.left_eq_add, Nat.add_eq_left, Nat.add_left_cancel_iff]
          exact ⟨⟨by omega, by omega⟩, ⟨hpk, by omega⟩, by omega⟩
      clear hR
      refine ⟨fun h => ?_, fun h => hG (by omega)⟩
      have h0 : i < l.length := by omega
      have hx := hl _ (getD_mem h0)
      have hvi : V[i]'(by omega) = l.getD i 0 % 200000 := by
        simp only [hV, List.getElem_map]
        rw [List.getD_eq_getElem?_getD, List.getElem?_eq_getElem h0]; rfl
      have hvb : 0 ≤ l.getD i 0 % 200000 ∧ l.getD i 0 % 200000 < 200000 := by omega
      obtain ⟨d1, d2, d3, d4, d5, d6⟩ := wdig hvb
      have ht : V.take (i + 1) = V.take i ++ [l.getD i 0 % 200000] := by rw [List.take_succ_eq_append_getElem (by omega), hvi]
      have hs := pbs_snoc (hdr true) (V.take i) (l.getD i 0 % 200000)
      rw [← ht] at hs
      have hw : wants (V.take (i + 1)) = wants (V.take i) ++ [min (l.getD i 0 % 200000) 65535] := by rw [ht]; simp [wants]
      simp only [conv_u32 hx, d1, d2, d3, d4, d5, d6]
      refine ⟨fun h1 => ⟨⟨by omega, by omega⟩, ⟨by omega, h⟩, h0, ⟨by omega, by omega⟩, ⟨hwl.symm, by omega, by omega⟩, by omega, i + 1, ⟨⟨?_, rfl, by rw [wI64] <;> omega⟩, ?_, ?_⟩, by omega, by omega⟩, fun h1 => ⟨⟨by omega, h⟩, h0, ⟨by omega, by omega⟩, ⟨hwl.symm, by omega, by omega⟩, by omega, i + 1, ⟨⟨?_, rfl, by rw [wI64] <;> omega⟩, ?_, ?_⟩, by omega, by omega⟩⟩
      · rw [hs, if_neg (by intro e; rw [e] at htl; simp at htl; omega)]; simp [digs]
      · rw [hs, if_neg (by intro e; rw [e] at htl; simp at htl; omega)]; rfl
      · rw [hw]
      · have : i = 0 := by omega
        subst this
        rw [hs]; simp [digs]
      · have : i = 0 := by omega
        subst this
        rw [hs]; rfl
      · rw [hw]
end Go.Proofs.YteemmpghpdaloaaDoor
