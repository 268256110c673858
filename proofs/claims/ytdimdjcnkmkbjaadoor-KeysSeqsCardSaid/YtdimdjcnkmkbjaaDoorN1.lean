/- Texts K0, K1, K2, K3 in one. -/
import Derived.Test.YtdimdjcnkmkbjaaDoorM4
import Derived.Test.YtdimdjcnkmkbjaaDoorM3
set_option linter.unusedVariables false
set_option linter.unusedSimpArgs false
set_option maxRecDepth 10000
namespace Go.Proofs.YtdimdjcnkmkbjaaDoor
open Go.RowKit
def arrowsL : List (List UInt8) := [[27, 91, 65], [112, 114, 101, 118, 105, 111, 117, 115, 45, 104, 105, 115, 116, 111, 114, 121], [27, 91, 66], [110, 101, 120, 116, 45, 104, 105, 115, 116, 111, 114, 121], [27, 91, 67], [102, 111, 114, 119, 97, 114, 100, 45, 99, 104, 97, 114], [27, 91, 68], [98, 97, 99, 107, 119, 97, 114, 100, 45, 99, 104, 97, 114], [27, 91, 72], [98, 101, 103, 105, 110, 110, 105, 110, 103, 45, 111, 102, 45, 108, 105, 110, 101], [27, 91, 70], [101, 110, 100, 45, 111, 102, 45, 108, 105, 110, 101]]
def emacsL : List (List UInt8) := [[1], [98, 101, 103, 105, 110, 110, 105, 110, 103, 45, 111, 102, 45, 108, 105, 110, 101], [2], [98, 97, 99, 107, 119, 97, 114, 100, 45, 99, 104, 97, 114], [4], [100, 101, 108, 101, 116, 101, 45, 99, 104, 97, 114], [5], [101, 110, 100, 45, 111, 102, 45, 108, 105, 110, 101], [6], [102, 111, 114, 119, 97, 114, 100, 45, 99, 104, 97, 114], [7], [97, 98, 111, 114, 116], [8], [98, 97, 99, 107, 119, 97, 114, 100, 45, 100, 101, 108, 101, 116, 101, 45, 99, 104, 97, 114], [127], [98, 97, 99, 107, 119, 97, 114, 100, 45, 100, 101, 108, 101, 116, 101, 45, 99, 104, 97, 114], [10], [97, 99, 99, 101, 112, 116, 45, 108, 105, 110, 101], [13], [97, 99, 99, 101, 112, 116, 45, 108, 105, 110, 101], [11], [107, 105, 108, 108, 45, 108, 105, 110, 101], [12], [99, 108, 101, 97, 114, 45, 115, 99, 114, 101, 101, 110], [14], [110, 101, 120, 116, 45, 104, 105, 115, 116, 111, 114, 121], [16], [112, 114, 101, 118, 105, 111, 117, 115, 45, 104, 105, 115, 116, 111, 114, 121], [17], [113, 117, 111, 116, 101, 100, 45, 105, 110, 115, 101, 114, 116], [22], [113, 117, 111, 116, 101, 100, 45, 105, 110, 115, 101, 114, 116], [18], [114, 101, 118, 101, 114, 115, 101, 45, 115, 101, 97, 114, 99, 104, 45, 104, 105, 115, 116, 111, 114, 121], [19], [102, 111, 114, 119, 97, 114, 100, 45, 115, 101, 97, 114, 99, 104, 45, 104, 105, 115, 116, 111, 114, 121], [20], [116, 114, 97, 110, 115, 112, 111, 115, 101, 45, 99, 104, 97, 114, 115], [21], [117, 110, 105, 120, 45, 108, 105, 110, 101, 45, 100, 105, 115, 99, 97, 114, 100], [23], [98, 97, 99, 107, 119, 97, 114, 100, 45, 107, 105, 108, 108, 45, 119, 111, 114, 100], [25], [121, 97, 110, 107], [31], [117, 110, 100, 111], [27, 98], [98, 97, 99, 107, 119, 97, 114, 100, 45, 119, 111, 114, 100], [27, 99], [99, 97, 112, 105, 116, 97, 108, 105, 122, 101, 45, 119, 111, 114, 100], [27, 100], [107, 105, 108, 108, 45, 119, 111, 114, 100], [27, 102], [102, 111, 114, 119, 97, 114, 100, 45, 119, 111, 114, 100], [27, 108], [100, 111, 119, 110, 99, 97, 115, 101, 45, 119, 111, 114, 100], [27, 116], [116, 114, 97, 110, 115, 112, 111, 115, 101, 45, 119, 111, 114, 100, 115], [27, 117], [117, 112, 99, 97, 115, 101, 45, 119, 111, 114, 100], [27, 121], [121, 97, 110, 107, 45, 112, 111, 112], [27, 60], [98, 101, 103, 105, 110, 110, 105, 110, 103, 45, 111, 102, 45, 104, 105, 115, 116, 111, 114, 121], [27, 62], [101, 110, 100, 45, 111, 102, 45, 104, 105, 115, 116, 111, 114, 121], [27, 127], [98, 97, 99, 107, 119, 97, 114, 100, 45, 107, 105, 108, 108, 45, 119, 111, 114, 100], [27, 48], [100, 105, 103, 105, 116, 45, 97, 114, 103, 117, 109, 101, 110, 116], [27, 49], [100, 105, 103, 105, 116, 45, 97, 114, 103, 117, 109, 101, 110, 116], [27, 50], [100, 105, 103, 105, 116, 45, 97, 114, 103, 117, 109, 101, 110, 116], [27, 51], [100, 105, 103, 105, 116, 45, 97, 114, 103, 117, 109, 101, 110, 116], [27, 52], [100, 105, 103, 105, 116, 45, 97, 114, 103, 117, 109, 101, 110, 116], [27, 53], [100, 105, 103, 105, 116, 45, 97, 114, 103, 117, 109, 101, 110, 116], [27, 54], [100, 105, 103, 105, 116, 45, 97, 114, 103, 117, 109, 101, 110, 116], [27, 55], [100, 105, 103, 105, 116, 45, 97, 114, 103, 117, 109, 101, 110, 116], [27, 56], [100, 105, 103, 105, 116, 45, 97, 114, 103, 117, 109, 101, 110, 116], [27, 57], [100, 105, 103, 105, 116, 45, 97, 114, 103, 117, 109, 101, 110, 116], [27, 45], [100, 105, 103, 105, 116, 45, 97, 114, 103, 117, 109, 101, 110, 116]]
def viInsL : List (List UInt8) := [[8], [98, 97, 99, 107, 119, 97, 114, 100, 45, 100, 101, 108, 101, 116, 101, 45, 99, 104, 97, 114], [127], [98, 97, 99, 107, 119, 97, 114, 100, 45, 100, 101, 108, 101, 116, 101, 45, 99, 104, 97, 114], [10], [97, 99, 99, 101, 112, 116, 45, 108, 105, 110, 101], [13], [97, 99, 99, 101, 112, 116, 45, 108, 105, 110, 101], [18], [114, 101, 118, 101, 114, 115, 101, 45, 115, 101, 97, 114, 99, 104, 45, 104, 105, 115, 116, 111, 114, 121], [19], [102, 111, 114, 119, 97, 114, 100, 45, 115, 101, 97, 114, 99, 104, 45, 104, 105, 115, 116, 111, 114, 121], [21], [117, 110, 105, 120, 45, 108, 105, 110, 101, 45, 100, 105, 115, 99, 97, 114, 100], [22], [113, 117, 111, 116, 101, 100, 45, 105, 110, 115, 101, 114, 116], [23], [98, 97, 99, 107, 119, 97, 114, 100, 45, 107, 105, 108, 108, 45, 119, 111, 114, 100], [31], [117, 110, 100, 111]]
def viEscL : List (List UInt8) := [[27], [118, 105, 45, 109, 111, 118, 101, 109, 101, 110, 116, 45, 109, 111, 100, 101]]
def viMovL : List (List UInt8) := [[104], [98, 97, 99, 107, 119, 97, 114, 100, 45, 99, 104, 97, 114], [8], [98, 97, 99, 107, 119, 97, 114, 100, 45, 99, 104, 97, 114], [108], [102, 111, 114, 119, 97, 114, 100, 45, 99, 104, 97, 114], [32], [102, 111, 114, 119, 97, 114, 100, 45, 99, 104, 97, 114], [48], [98, 101, 103, 105, 110, 110, 105, 110, 103, 45, 111, 102, 45, 108, 105, 110, 101], [36], [101, 110, 100, 45, 111, 102, 45, 108, 105, 110, 101], [119], [118, 105, 45, 110, 101, 120, 116, 45, 119, 111, 114, 100], [98], [118, 105, 45, 112, 114, 101, 118, 45, 119, 111, 114, 100], [120], [118, 105, 45, 100, 101, 108, 101, 116, 101], [100], [118, 105, 45, 100, 101, 108, 101, 116, 101, 45, 108, 105, 110, 101], [67], [118, 105, 45, 99, 104, 97, 110, 103, 101, 45, 101, 111, 108], [68], [107, 105, 108, 108, 45, 108, 105, 110, 101], [112], [118, 105, 45, 112, 117, 116], [117], [117, 110, 100, 111], [105], [118, 105, 45, 105, 110, 115, 101, 114, 116, 105, 111, 110, 45, 109, 111, 100, 101], [73], [118, 105, 45, 105, 110, 115, 101, 114, 116, 45, 98, 111, 108], [97], [118, 105, 45, 97, 112, 112, 101, 110, 100], [65], [118, 105, 45, 97, 112, 112, 101, 110, 100, 45, 101, 111, 108], [106], [110, 101, 120, 116, 45, 104, 105, 115, 116, 111, 114, 121], [107], [112, 114, 101, 118, 105, 111, 117, 115, 45, 104, 105, 115, 116, 111, 114, 121], [49], [100, 105, 103, 105, 116, 45, 97, 114, 103, 117, 109, 101, 110, 116], [50], [100, 105, 103, 105, 116, 45, 97, 114, 103, 117, 109, 101, 110, 116], [51], [100, 105, 103, 105, 116, 45, 97, 114, 103, 117, 109, 101, 110, 116], [52], [100, 105, 103, 105, 116, 45, 97, 114, 103, 117, 109, 101, 110, 116], [53], [100, 105, 103, 105, 116, 45, 97, 114, 103, 117, 109, 101, 110, 116], [54], [100, 105, 103, 105, 116, 45, 97, 114, 103, 117, 109, 101, 110, 116], [55], [100, 105, 103, 105, 116, 45, 97, 114, 103, 117, 109, 101, 110, 116], [56], [100, 105, 103, 105, 116, 45, 97, 114, 103, 117, 109, 101, 110, 116], [57], [100, 105, 103, 105, 116, 45, 97, 114, 103, 117, 109, 101, 110, 116], [10], [97, 99, 99, 101, 112, 116, 45, 108, 105, 110, 101], [13], [97, 99, 99, 101, 112, 116, 45, 108, 105, 110, 101], [18], [114, 101, 118, 101, 114, 115, 101, 45, 115, 101, 97, 114, 99, 104, 45, 104, 105, 115, 116, 111, 114, 121], [19], [102, 111, 114, 119, 97, 114, 100, 45, 115, 101, 97, 114, 99, 104, 45, 104, 105, 115, 116, 111, 114, 121]]
def stRows (l : List (List UInt8)) : List (List DV) := l.map fun s => [.str s]
theorem stRows_len (l : List (List UInt8)) : (stRows l).length = l.length := by simp [stRows]
theorem stRows_get {l : List (List UInt8)} {i : Nat} (h : i < l.length) : (stRows l)[i]? = some [.str (l.getD i [])] := by simp [stRows, h]
def numsB (l : List UInt8) : List Int := l.map fun b => (b.toNat : Int)
theorem bytesRows_numsB (l : List UInt8) : bytesRows l = intRows .u8 (numsB l) := by simp [bytesRows, intRows, numsB]
theorem numsB_len (l : List UInt8) : (numsB l).length = l.length := by simp [numsB]
structure Bd where
  seq : List Int
  cmd : List UInt8
  deriving Inhabited, DecidableEq
def bdRow (b : Bd) : List DV := [.sl 1 (intRows .u8 b.seq) .any, .str b.cmd]
def bdRows (L : List Bd) : List (List DV) := L.map bdRow
theorem bdRows_len (L : List Bd) : (bdRows L).length = L.length := by simp [bdRows]
theorem bdRows_app (A B : List Bd) : bdRows A ++ bdRows B = bdRows (A ++ B) := by simp [bdRows]
theorem bdRows_get {L : List Bd} {i : Nat} (h : i < L.length) : (bdRows L)[i]? = some [.sl 1 (intRows .u8 (L.getD i default).seq) .any, .str (L.getD i default).cmd] := by simp [bdRows, bdRow, h]
def bindsF : List (List UInt8) → List Bd
  | a :: b :: l => ⟨numsB a, b⟩ :: bindsF l
  | _ => []
theorem bindsF_len : ∀ l : List (List UInt8), (bindsF l).length = l.length / 2
  | [] => rfl
  | [_] => by simp [bindsF]
  | a :: b :: l => by simp only [bindsF, List.length_cons, bindsF_len l]; omega
theorem bindsF_snoc : ∀ (k : Nat) (l : List (List UInt8)), 2 * k + 1 < l.length → bindsF (l.take (2 * k + 2)) = bindsF (l.take (2 * k)) ++ [⟨numsB (l.getD (2 * k) []), l.getD (2 * k + 1) []⟩]
  | 0, a :: b :: l, _ => by simp [bindsF]
  | k + 1, a :: b :: l, h => by
    have := bindsF_snoc k l (by simp at h; omega)
    rw [show 2 * (k + 1) + 2 = (2 * k + 2) + 1 + 1 by omega, show 2 * (k + 1) = 2 * k + 1 + 1 by omega]
    simp only [List.take_succ_cons, bindsF, this, List.cons_append, List.getD_cons_succ]
  | 0, [], h => by simp at h
  | 0, [_], h => by simp at h
  | k + 1, [], h => by simp at h
  | k + 1, [_], h => by simp at h
theorem bindsF_odd : ∀ (k : Nat) (l : List (List UInt8)), l.length = 2 * k + 1 → bindsF (l.take (2 * k)) = bindsF l
  | 0, [_], _ => by simp [bindsF]
  | 0, [], h => by simp at h
  | 0, _ :: _ :: _, h => by simp at h
  | k + 1, [], h => by simp at h
  | k + 1, [_], h => by simp at h
  | k + 1, a :: b :: l, h => by
    have := bindsF_odd k l (by simp at h; omega)
    rw [show 2 * (k + 1) = 2 * k + 1 + 1 by omega]
    simp only [List.take_succ_cons, bindsF, this]
theorem frz_bd {A : Objs} {env : List (Nat × DV)} {mk : Option Ob} {out : List Bd} {e : Bd} (p : Nat) (hp : p = A.length) :
    Frzs ⟨env, A ++ [some (.arr 1 (intRows .u8 e.seq)), mk, some (.arr 2 (bdRows out ++ [[.own p 0 e.seq.length, .str e.cmd]]))]⟩
      ⟨env, A ++ [none, mk, some (.arr 2 (bdRows (out ++ [e])))]⟩ := by
  subst hp
  have := Frzs.inner (env := env) (T := A ++ [some (.arr 1 (intRows .u8 e.seq)), mk, some (.arr 2 (bdRows out ++ [[.own A.length 0 e.seq.length, .str e.cmd]]))])
    (p := A.length) (q := A.length + 2) (rows' := bdRows (out ++ [e])) (tb_get0 _ _ _) (tb_geti _ _ 2) (by omega) ⟨by simp [bdRows], fun i row' hr => ?_⟩
  · rw [tb_set0, tb_seti] at this
    exact this
  · rw [← bdRows_app] at hr
    rcases Nat.lt_or_ge i (bdRows out).length with h | h
    · rw [List.getElem?_append_left h] at hr
      exact ⟨row', by rw [List.getElem?_append_left h]; exact hr, frRow.refl (fr0.refl _ _ _) _⟩
    · rw [List.getElem?_append_right h] at hr
      refine ⟨_, by rw [List.getElem?_append_right h]; exact List.getElem?_eq_getElem (by have := (List.getElem?_eq_some_iff.1 hr).1; simpa [bdRows] using this), ?_⟩
      have hi : i - (bdRows out).length = 0 := by have := (List.getElem?_eq_some_iff.1 hr).1; simp [bdRows] at this ⊢; omega
      simp only [hi] at hr ⊢
      obtain rfl : bdRow e = row' := by simpa [bdRows] using hr
      refine ⟨rfl, fun j c' hj => ?_⟩
      match j with
      | 0 =>
        refine ⟨_, rfl, .inr ?_⟩
        simp [bdRow] at hj
        subst hj
        have : (intRows .u8 e.seq).take e.seq.length = intRows .u8 e.seq := List.take_of_length_le (by simp [intRows])
        simp [DV.frz0, intRows_length, this]
      | 1 => exact ⟨_, rfl, .inl (by simpa [bdRow] using hj.symm)⟩
      | j + 2 => simp [bdRow] at hj
noncomputable def rc_binds_l0 : RC := (.seq (.seq (.reg [⟨some 5, .mov (.t 4), none, false⟩, ⟨some 6, .bin .add (.t 5) (.c (.int .i64 1)), none, false⟩, ⟨some 7, .mov (.t 0), none, false⟩, ⟨some 8, .len (.t 7), none, false⟩, ⟨some 9, .bin .lss (.t 6) (.t 8), none, false⟩] 0 [0, 3, 4, 9]) (.cond (.t 9) .skip (.ext 0))) (.seq (.blk 1 (.regD (.take ⟨some 12, .mov (.t 3), none, false⟩ [] (.take ⟨some 13, .mov (.t 0), none, false⟩ [] (.take ⟨some 14, .mov (.t 4), none, false⟩ [] (.take ⟨some 15, .iaddr 1 (.t 13) (.t 14), none, false⟩ [] (.take ⟨some 16, .load false 1 (.t 15), none, false⟩ [] (.take ⟨some 18, .mov (.t 0), none, false⟩ [] (.take ⟨some 19, .mov (.t 4), none, false⟩ [] (.take ⟨some 20, .bin .add (.t 19) (.c (.int .i64 1)), none, false⟩ [] (.take ⟨some 21, .iaddr 1 (.t 18) (.t 20), none, false⟩ [] (.take ⟨some 22, .load false 1 (.t 21), none, false⟩ [] (.op ⟨some 17, .conv .s2b (.t 16), none, false⟩ (.take ⟨some 23, .build [.sl 0 [] .nil, .str []] [(0, (1, (.t 17))), (1, (1, (.t 22)))], none, false⟩ [] (.op ⟨some 24, .mkrow 2 [.sl 0 [] .nil, .str []] 1 [(0, (.t 23))], none, false⟩ (.op ⟨some 25, .append 2 40 (.t 12) (.t 24), none, false⟩ (.take ⟨some 3, .mov (.t 25), none, false⟩ [] .done))))))))))))))) 0 [0, 3, 4])) (.reg [⟨some 10, .mov (.t 4), none, false⟩, ⟨some 11, .bin .add (.t 10) (.c (.int .i64 2)), none, false⟩, ⟨some 4, .mov (.t 11), none, false⟩] 0 [0, 3, 4])))
noncomputable def rc_binds : RFn := ⟨1, 27, .seq (.reg [⟨some 2, .mov (.c (.sl 0 [] .nil)), none, false⟩] 0 [0]) (.seq (.reg [⟨some 3, .mov (.c (.sl 0 [] .nil)), none, false⟩] 0 [0, 3]) (.seq (.seq (.reg [⟨some 4, .mov (.c (.int .i64 0)), none, false⟩] 0 [0, 3, 4]) (.blk 0 (.loop rc_binds_l0))) (.seq (.reg [⟨some 26, .mov (.t 3), none, false⟩, ⟨some 2, .mov (.t 26), none, false⟩] 0 [2]) .ret))), [.t 2]⟩
theorem rc_binds_ok : compFn PG.P [⟨0, 0, [0], []⟩, ⟨1, 0, [0, 3], []⟩, ⟨2, 0, [0, 3, 4], []⟩, ⟨3, 0, [0, 3, 4, 9], []⟩, ⟨4, 0, [0, 3, 4], []⟩, ⟨5, 0, [0, 3, 4], []⟩, ⟨6, 0, [2], []⟩] 31 = some rc_binds := by kernel_rfl
noncomputable def rc_arrows : RFn := ⟨0, 3, .seq (.reg [⟨some 0, .mov (.c (.sl 0 [] .nil)), none, false⟩] 0 []) (.seq (.reg [⟨some 1, .mkrow 1 [.str []] 12 [(0, (.c (.str [(27), (91), (65)]))), (1, (.c (.str [(112), (114), (101), (118), (105), (111), (117), (115), (45), (104), (105), (115), (116), (111), (114), (121)]))), (2, (.c (.str [(27), (91), (66)]))), (3, (.c (.str [(110), (101), (120), (116), (45), (104), (105), (115), (116), (111), (114), (121)]))), (4, (.c (.str [(27), (91), (67)]))), (5, (.c (.str [(102), (111), (114), (119), (97), (114), (100), (45), (99), (104), (97), (114)]))), (6, (.c (.str [(27), (91), (68)]))), (7, (.c (.str [(98), (97), (99), (107), (119), (97), (114), (100), (45), (99), (104), (97), (114)]))), (8, (.c (.str [(27), (91), (72)]))), (9, (.c (.str [(98), (101), (103), (105), (110), (110), (105), (110), (103), (45), (111), (102), (45), (108), (105), (110), (101)]))), (10, (.c (.str [(27), (91), (70)]))), (11, (.c (.str [(101), (110), (100), (45), (111), (102), (45), (108), (105), (110), (101)])))], none, false⟩, ⟨some 2, .call 31 [.t 1], none, false⟩, ⟨some 0, .mov (.t 2), none, false⟩] 0 [0]) .ret), [.t 0]⟩
theorem rc_arrows_ok : compFn PG.P [⟨0, 0, [], []⟩, ⟨1, 0, [0], []⟩] 32 = some rc_arrows := by kernel_rfl
noncomputable def rc_usual : RFn := ⟨1, 31, .seq (.reg [⟨some 2, .mov (.c (.sl 0 [] .nil)), none, false⟩] 0 [0]) (.seq (.seq (.reg [⟨some 6, .mov (.t 0), none, false⟩] 0 [6]) (.blk 0 (.seq (.reg [⟨some 8, .bin .eql (.t 6) (.c (.int .i64 0)), none, false⟩, ⟨some 7, .mov (.t 8), none, false⟩] 0 [6, 7]) (.cond (.t 7) (.seq (.reg [⟨some 9, .mkrow 1 [.str []] 90 [(0, (.c (.str [(1)]))), (1, (.c (.str [(98), (101), (103), (105), (110), (110), (105), (110), (103), (45), (111), (102), (45), (108), (105), (110), (101)]))), (2, (.c (.str [(2)]))), (3, (.c (.str [(98), (97), (99), (107), (119), (97), (114), (100), (45), (99), (104), (97), (114)]))), (4, (.c (.str [(4)]))), (5, (.c (.str [(100), (101), (108), (101), (116), (101), (45), (99), (104), (97), (114)]))), (6, (.c (.str [(5)]))), (7, (.c (.str [(101), (110), (100), (45), (111), (102), (45), (108), (105), (110), (101)]))), (8, (.c (.str [(6)]))), (9, (.c (.str [(102), (111), (114), (119), (97), (114), (100), (45), (99), (104), (97), (114)]))), (10, (.c (.str [(7)]))), (11, (.c (.str [(97), (98), (111), (114), (116)]))), (12, (.c (.str [(8)]))), (13, (.c (.str [(98), (97), (99), (107), (119), (97), (114), (100), (45), (100), (101), (108), (101), (116), (101), (45), (99), (104), (97), (114)]))), (14, (.c (.str [(127)]))), (15, (.c (.str [(98), (97), (99), (107), (119), (97), (114), (100), (45), (100), (101), (108), (101), (116), (101), (45), (99), (104), (97), (114)]))), (16, (.c (.str [(10)]))), (17, (.c (.str [(97), (99), (99), (101), (112), (116), (45), (108), (105), (110), (101)]))), (18, (.c (.str [(13)]))), (19, (.c (.str [(97), (99), (99), (101), (112), (116), (45), (108), (105), (110), (101)]))), (20, (.c (.str [(11)]))), (21, (.c (.str [(107), (105), (108), (108), (45), (108), (105), (110), (101)]))), (22, (.c (.str [(12)]))), (23, (.c (.str [(99), (108), (101), (97), (114), (45), (115), (99), (114), (101), (101), (110)]))), (24, (.c (.str [(14)]))), (25, (.c (.str [(110), (101), (120), (116), (45), (104), (105), (115), (116), (111), (114), (121)]))), (26, (.c (.str [(16)]))), (27, (.c (.str [(112), (114), (101), (118), (105), (111), (117), (115), (45), (104), (105), (115), (116), (111), (114), (121)]))), (28, (.c (.str [(17)]))), (29, (.c (.str [(113), (117), (111), (116), (101), (100), (45), (105), (110), (115), (101), (114), (116)]))), (30, (.c (.str [(22)]))), (31, (.c (.str [(113), (117), (111), (116), (101), (100), (45), (105), (110), (115), (101), (114), (116)]))), (32, (.c (.str [(18)]))), (33, (.c (.str [(114), (101), (118), (101), (114), (115), (101), (45), (115), (101), (97), (114), (99), (104), (45), (104), (105), (115), (116), (111), (114), (121)]))), (34, (.c (.str [(19)]))), (35, (.c (.str [(102), (111), (114), (119), (97), (114), (100), (45), (115), (101), (97), (114), (99), (104), (45), (104), (105), (115), (116), (111), (114), (121)]))), (36, (.c (.str [(20)]))), (37, (.c (.str [(116), (114), (97), (110), (115), (112), (111), (115), (101), (45), (99), (104), (97), (114), (115)]))), (38, (.c (.str [(21)]))), (39, (.c (.str [(117), (110), (105), (120), (45), (108), (105), (110), (101), (45), (100), (105), (115), (99), (97), (114), (100)]))), (40, (.c (.str [(23)]))), (41, (.c (.str [(98), (97), (99), (107), (119), (97), (114), (100), (45), (107), (105), (108), (108), (45), (119), (111), (114), (100)]))), (42, (.c (.str [(25)]))), (43, (.c (.str [(121), (97), (110), (107)]))), (44, (.c (.str [(31)]))), (45, (.c (.str [(117), (110), (100), (111)]))), (46, (.c (.str [(27), (98)]))), (47, (.c (.str [(98), (97), (99), (107), (119), (97), (114), (100), (45), (119), (111), (114), (100)]))), (48, (.c (.str [(27), (99)]))), (49, (.c (.str [(99), (97), (112), (105), (116), (97), (108), (105), (122), (101), (45), (119), (111), (114), (100)]))), (50, (.c (.str [(27), (100)]))), (51, (.c (.str [(107), (105), (108), (108), (45), (119), (111), (114), (100)]))), (52, (.c (.str [(27), (102)]))), (53, (.c (.str [(102), (111), (114), (119), (97), (114), (100), (45), (119), (111), (114), (100)]))), (54, (.c (.str [(27), (108)]))), (55, (.c (.str [(100), (111), (119), (110), (99), (97), (115), (101), (45), (119), (111), (114), (100)]))), (56, (.c (.str [(27), (116)]))), (57, (.c (.str [(116), (114), (97), (110), (115), (112), (111), (115), (101), (45), (119), (111), (114), (100), (115)]))), (58, (.c (.str [(27), (117)]))), (59, (.c (.str [(117), (112), (99), (97), (115), (101), (45), (119), (111), (114), (100)]))), (60, (.c (.str [(27), (121)]))), (61, (.c (.str [(121), (97), (110), (107), (45), (112), (111), (112)]))), (62, (.c (.str [(27), (60)]))), (63, (.c (.str [(98), (101), (103), (105), (110), (110), (105), (110), (103), (45), (111), (102), (45), (104), (105), (115), (116), (111), (114), (121)]))), (64, (.c (.str [(27), (62)]))), (65, (.c (.str [(101), (110), (100), (45), (111), (102), (45), (104), (105), (115), (116), (111), (114), (121)]))), (66, (.c (.str [(27), (127)]))), (67, (.c (.str [(98), (97), (99), (107), (119), (97), (114), (100), (45), (107), (105), (108), (108), (45), (119), (111), (114), (100)]))), (68, (.c (.str [(27), (48)]))), (69, (.c (.str [(100), (105), (103), (105), (116), (45), (97), (114), (103), (117), (109), (101), (110), (116)]))), (70, (.c (.str [(27), (49)]))), (71, (.c (.str [(100), (105), (103), (105), (116), (45), (97), (114), (103), (117), (109), (101), (110), (116)]))), (72, (.c (.str [(27), (50)]))), (73, (.c (.str [(100), (105), (103), (105), (116), (45), (97), (114), (103), (117), (109), (101), (110), (116)]))), (74, (.c (.str [(27), (51)]))), (75, (.c (.str [(100), (105), (103), (105), (116), (45), (97), (114), (103), (117), (109), (101), (110), (116)]))), (76, (.c (.str [(27), (52)]))), (77, (.c (.str [(100), (105), (103), (105), (116), (45), (97), (114), (103), (117), (109), (101), (110), (116)]))), (78, (.c (.str [(27), (53)]))), (79, (.c (.str [(100), (105), (103), (105), (116), (45), (97), (114), (103), (117), (109), (101), (110), (116)]))), (80, (.c (.str [(27), (54)]))), (81, (.c (.str [(100), (105), (103), (105), (116), (45), (97), (114), (103), (117), (109), (101), (110), (116)]))), (82, (.c (.str [(27), (55)]))), (83, (.c (.str [(100), (105), (103), (105), (116), (45), (97), (114), (103), (117), (109), (101), (110), (116)]))), (84, (.c (.str [(27), (56)]))), (85, (.c (.str [(100), (105), (103), (105), (116), (45), (97), (114), (103), (117), (109), (101), (110), (116)]))), (86, (.c (.str [(27), (57)]))), (87, (.c (.str [(100), (105), (103), (105), (116), (45), (97), (114), (103), (117), (109), (101), (110), (116)]))), (88, (.c (.str [(27), (45)]))), (89, (.c (.str [(100), (105), (103), (105), (116), (45), (97), (114), (103), (117), (109), (101), (110), (116)])))], none, false⟩, ⟨some 10, .call 31 [.t 9], none, false⟩, ⟨some 3, .mov (.t 10), none, false⟩] 0 [3]) (.seq (.reg [⟨some 11, .mov (.t 3), none, false⟩, ⟨some 12, .call 32 [], none, false⟩, ⟨some 13, .append 2 40 (.t 11) (.t 12), none, false⟩, ⟨some 2, .mov (.t 13), none, false⟩] 0 [2]) .ret)) (.seq (.reg [⟨some 15, .bin .eql (.t 6) (.c (.int .i64 1)), none, false⟩, ⟨some 14, .mov (.t 15), none, false⟩] 0 [6, 14]) (.cond (.t 14) (.seq (.reg [⟨some 16, .mkrow 1 [.str []] 20 [(0, (.c (.str [(8)]))), (1, (.c (.str [(98), (97), (99), (107), (119), (97), (114), (100), (45), (100), (101), (108), (101), (116), (101), (45), (99), (104), (97), (114)]))), (2, (.c (.str [(127)]))), (3, (.c (.str [(98), (97), (99), (107), (119), (97), (114), (100), (45), (100), (101), (108), (101), (116), (101), (45), (99), (104), (97), (114)]))), (4, (.c (.str [(10)]))), (5, (.c (.str [(97), (99), (99), (101), (112), (116), (45), (108), (105), (110), (101)]))), (6, (.c (.str [(13)]))), (7, (.c (.str [(97), (99), (99), (101), (112), (116), (45), (108), (105), (110), (101)]))), (8, (.c (.str [(18)]))), (9, (.c (.str [(114), (101), (118), (101), (114), (115), (101), (45), (115), (101), (97), (114), (99), (104), (45), (104), (105), (115), (116), (111), (114), (121)]))), (10, (.c (.str [(19)]))), (11, (.c (.str [(102), (111), (114), (119), (97), (114), (100), (45), (115), (101), (97), (114), (99), (104), (45), (104), (105), (115), (116), (111), (114), (121)]))), (12, (.c (.str [(21)]))), (13, (.c (.str [(117), (110), (105), (120), (45), (108), (105), (110), (101), (45), (100), (105), (115), (99), (97), (114), (100)]))), (14, (.c (.str [(22)]))), (15, (.c (.str [(113), (117), (111), (116), (101), (100), (45), (105), (110), (115), (101), (114), (116)]))), (16, (.c (.str [(23)]))), (17, (.c (.str [(98), (97), (99), (107), (119), (97), (114), (100), (45), (107), (105), (108), (108), (45), (119), (111), (114), (100)]))), (18, (.c (.str [(31)]))), (19, (.c (.str [(117), (110), (100), (111)])))], none, false⟩, ⟨some 17, .call 31 [.t 16], none, false⟩, ⟨some 4, .mov (.t 17), none, false⟩] 0 [4]) (.seq (.reg [⟨some 18, .mov (.t 4), none, false⟩, ⟨some 19, .call 32 [], none, false⟩, ⟨some 20, .append 2 40 (.t 18) (.t 19), none, false⟩, ⟨some 21, .mkrow 1 [.str []] 2 [(0, (.c (.str [(27)]))), (1, (.c (.str [(118), (105), (45), (109), (111), (118), (101), (109), (101), (110), (116), (45), (109), (111), (100), (101)])))], none, false⟩, ⟨some 22, .call 31 [.t 21], none, false⟩, ⟨some 23, .append 2 40 (.t 20) (.t 22), none, false⟩, ⟨some 2, .mov (.t 23), none, false⟩] 0 [2]) .ret)) (.seq (.reg [⟨some 25, .bin .eql (.t 6) (.c (.int .i64 2)), none, false⟩, ⟨some 24, .mov (.t 25), none, false⟩] 0 [24]) (.cond (.t 24) (.seq (.reg [⟨some 26, .mkrow 1 [.str []] 66 [(0, (.c (.str [(104)]))), (1, (.c (.str [(98), (97), (99), (107), (119), (97), (114), (100), (45), (99), (104), (97), (114)]))), (2, (.c (.str [(8)]))), (3, (.c (.str [(98), (97), (99), (107), (119), (97), (114), (100), (45), (99), (104), (97), (114)]))), (4, (.c (.str [(108)]))), (5, (.c (.str [(102), (111), (114), (119), (97), (114), (100), (45), (99), (104), (97), (114)]))), (6, (.c (.str [(32)]))), (7, (.c (.str [(102), (111), (114), (119), (97), (114), (100), (45), (99), (104), (97), (114)]))), (8, (.c (.str [(48)]))), (9, (.c (.str [(98), (101), (103), (105), (110), (110), (105), (110), (103), (45), (111), (102), (45), (108), (105), (110), (101)]))), (10, (.c (.str [(36)]))), (11, (.c (.str [(101), (110), (100), (45), (111), (102), (45), (108), (105), (110), (101)]))), (12, (.c (.str [(119)]))), (13, (.c (.str [(118), (105), (45), (110), (101), (120), (116), (45), (119), (111), (114), (100)]))), (14, (.c (.str [(98)]))), (15, (.c (.str [(118), (105), (45), (112), (114), (101), (118), (45), (119), (111), (114), (100)]))), (16, (.c (.str [(120)]))), (17, (.c (.str [(118), (105), (45), (100), (101), (108), (101), (116), (101)]))), (18, (.c (.str [(100)]))), (19, (.c (.str [(118), (105), (45), (100), (101), (108), (101), (116), (101), (45), (108), (105), (110), (101)]))), (20, (.c (.str [(67)]))), (21, (.c (.str [(118), (105), (45), (99), (104), (97), (110), (103), (101), (45), (101), (111), (108)]))), (22, (.c (.str [(68)]))), (23, (.c (.str [(107), (105), (108), (108), (45), (108), (105), (110), (101)]))), (24, (.c (.str [(112)]))), (25, (.c (.str [(118), (105), (45), (112), (117), (116)]))), (26, (.c (.str [(117)]))), (27, (.c (.str [(117), (110), (100), (111)]))), (28, (.c (.str [(105)]))), (29, (.c (.str [(118), (105), (45), (105), (110), (115), (101), (114), (116), (105), (111), (110), (45), (109), (111), (100), (101)]))), (30, (.c (.str [(73)]))), (31, (.c (.str [(118), (105), (45), (105), (110), (115), (101), (114), (116), (45), (98), (111), (108)]))), (32, (.c (.str [(97)]))), (33, (.c (.str [(118), (105), (45), (97), (112), (112), (101), (110), (100)]))), (34, (.c (.str [(65)]))), (35, (.c (.str [(118), (105), (45), (97), (112), (112), (101), (110), (100), (45), (101), (111), (108)]))), (36, (.c (.str [(106)]))), (37, (.c (.str [(110), (101), (120), (116), (45), (104), (105), (115), (116), (111), (114), (121)]))), (38, (.c (.str [(107)]))), (39, (.c (.str [(112), (114), (101), (118), (105), (111), (117), (115), (45), (104), (105), (115), (116), (111), (114), (121)]))), (40, (.c (.str [(49)]))), (41, (.c (.str [(100), (105), (103), (105), (116), (45), (97), (114), (103), (117), (109), (101), (110), (116)]))), (42, (.c (.str [(50)]))), (43, (.c (.str [(100), (105), (103), (105), (116), (45), (97), (114), (103), (117), (109), (101), (110), (116)]))), (44, (.c (.str [(51)]))), (45, (.c (.str [(100), (105), (103), (105), (116), (45), (97), (114), (103), (117), (109), (101), (110), (116)]))), (46, (.c (.str [(52)]))), (47, (.c (.str [(100), (105), (103), (105), (116), (45), (97), (114), (103), (117), (109), (101), (110), (116)]))), (48, (.c (.str [(53)]))), (49, (.c (.str [(100), (105), (103), (105), (116), (45), (97), (114), (103), (117), (109), (101), (110), (116)]))), (50, (.c (.str [(54)]))), (51, (.c (.str [(100), (105), (103), (105), (116), (45), (97), (114), (103), (117), (109), (101), (110), (116)]))), (52, (.c (.str [(55)]))), (53, (.c (.str [(100), (105), (103), (105), (116), (45), (97), (114), (103), (117), (109), (101), (110), (116)]))), (54, (.c (.str [(56)]))), (55, (.c (.str [(100), (105), (103), (105), (116), (45), (97), (114), (103), (117), (109), (101), (110), (116)]))), (56, (.c (.str [(57)]))), (57, (.c (.str [(100), (105), (103), (105), (116), (45), (97), (114), (103), (117), (109), (101), (110), (116)]))), (58, (.c (.str [(10)]))), (59, (.c (.str [(97), (99), (99), (101), (112), (116), (45), (108), (105), (110), (101)]))), (60, (.c (.str [(13)]))), (61, (.c (.str [(97), (99), (99), (101), (112), (116), (45), (108), (105), (110), (101)]))), (62, (.c (.str [(18)]))), (63, (.c (.str [(114), (101), (118), (101), (114), (115), (101), (45), (115), (101), (97), (114), (99), (104), (45), (104), (105), (115), (116), (111), (114), (121)]))), (64, (.c (.str [(19)]))), (65, (.c (.str [(102), (111), (114), (119), (97), (114), (100), (45), (115), (101), (97), (114), (99), (104), (45), (104), (105), (115), (116), (111), (114), (121)])))], none, false⟩, ⟨some 27, .call 31 [.t 26], none, false⟩, ⟨some 5, .mov (.t 27), none, false⟩] 0 [5]) (.seq (.reg [⟨some 28, .mov (.t 5), none, false⟩, ⟨some 29, .call 32 [], none, false⟩, ⟨some 30, .append 2 40 (.t 28) (.t 29), none, false⟩, ⟨some 2, .mov (.t 30), none, false⟩] 0 [2]) .ret)) .skip)))))))) (.seq (.reg [⟨some 2, .mov (.c (.sl 0 [] .nil)), none, false⟩] 0 [2]) .ret)), [.t 2]⟩
theorem rc_usual_ok : compFn PG.P [⟨0, 0, [0], []⟩, ⟨1, 0, [6], []⟩, ⟨2, 0, [6, 7], []⟩, ⟨3, 0, [3], []⟩, ⟨4, 0, [2], []⟩, ⟨5, 0, [6, 14], []⟩, ⟨6, 0, [4], []⟩, ⟨7, 0, [2], []⟩, ⟨8, 0, [24], []⟩, ⟨9, 0, [5], []⟩, ⟨10, 0, [2], []⟩, ⟨11, 0, [2], []⟩] 10 = some rc_usual := by kernel_rfl
theorem binds_K {T : Objs} {K : DV → Objs → Prop} {l : List (List UInt8)} {o : Nat} (ho : T[o]? = some (some (.arr 1 (stRows l)))) (hl : l.length ≤ 1000) (hs : ∀ s ∈ l, s.length ≤ 1000)
    (h : ∀ T' q, T.length ≤ q → T'[q]? = some (some (.arr 2 (bdRows (bindsF l)))) → Keep T T' [] → K (.own q 0 (l.length / 2)) T') : CallK PG 31 [.own o 0 l.length] T K := by
  refine CallK.of_fn FOk.nil rc_binds_ok (by simp [rc_binds]) ?_
  unfold rc_binds
  dsimp only
  simp -implicitDefEqProofs -dsimp only [vcS, ↓vcP1, ↓vcP2, ↓reduceIte, reduceCtorEq, Nat.reduceLT, Nat.reduceLeDiff, Nat.reduceEqDiff, Nat.reduceAdd, Nat.reduceSub, Nat.reduceMul, Int.reduceLT, Int.reduceLE, Int.reduceEq, Int.reduceToNat, Int.reduceAdd, Int.reduceSub, Int.reduceNeg, List.reduceReplicate, Nat.reducePow, Int.reduceMul]
  refine LoopWp.own 3 2 rfl (.inl rfl) ?_
  refine LoopWp.invF FOk.nil (S := fun s : Objs × Nat × Nat => ⟨[(0, .own o 0 l.length), (3, .own s.2.1 0 s.2.2), (4, .int .i64 ((2 * s.2.2 : Nat) : Int))], s.1⟩)
    (I := fun s => s.1[s.2.1]? = some (some (.arr 2 (bdRows (bindsF (l.take (2 * s.2.2)))))) ∧ 2 * s.2.2 ≤ l.length ∧ Keep T s.1 [] ∧ T.length ≤ s.2.1)
    (μ := fun s => l.length - 2 * s.2.2) (T ++ [some (.arr 2 [])], T.length, 0) ⟨tb_get0 _ _ _, by simp, Keep.app _ _ _, by simp⟩ ?_ ?_
  · simp -implicitDefEqProofs -dsimp only [vcS, ↓vcP1, ↓vcP2, ↓reduceIte, reduceCtorEq, Nat.reduceLT, Nat.reduceLeDiff, Nat.reduceEqDiff, Nat.reduceAdd, Nat.reduceSub, Nat.reduceMul, Int.reduceLT, Int.reduceLE, Int.reduceEq, Int.reduceToNat, Int.reduceAdd, Int.reduceSub, Int.reduceNeg, List.reduceReplicate, Nat.reducePow, Int.reduceMul]
    exact .refl _
  · intro ⟨T1, q, i⟩ ⟨i1, i2, i3, i4⟩
    dsimp only at i1 i2 i3 i4 ⊢
    unfold rc_binds_l0
    have hw1 : IntKind.i64.wrap (((2 * i : Nat) : Int) + 1) = ((2 * i + 1 : Nat) : Int) := by rw [wI64 (by omega) (by omega)]; omega
    have hw2 : IntKind.i64.wrap (((2 * i : Nat) : Int) + 2) = ((2 * (i + 1) : Nat) : Int) := by rw [wI64 (by omega) (by omega)]; omega
    have ho1 := i3.at ho (by simp)
    by_cases h0 : 2 * i + 1 < l.length
    · have h1 : ((2 * i + 1 : Nat) : Int) < l.length := by omega
      have h2 : ((2 * i : Nat) : Int) < l.length := by omega
      have h3 : (0 : Int) ≤ ((2 * i : Nat) : Int) := by omega
      have h4 : (0 : Int) ≤ ((2 * i + 1 : Nat) : Int) := by omega
      have g1 := stRows_get (l := l) (i := 2 * i) (by omega)
      have g2 := stRows_get (l := l) (i := 2 * i + 1) (by omega)
      simp -implicitDefEqProofs -dsimp only [tb_all ho1, tb_all i1, hw1, hw2, h1, h2, h3, h4, g1, g2, stRows_len, bdRows_len, bytesRows_numsB, tb_at, Nat.zero_add, vcS, ↓vcP1, ↓vcP2, ↓reduceIte, reduceCtorEq, Nat.reduceLT, Nat.reduceLeDiff, Nat.reduceEqDiff, Nat.reduceAdd, Nat.reduceSub, Nat.reduceMul, Int.reduceLT, Int.reduceLE, Int.reduceEq, Int.reduceToNat, Int.reduceAdd, Int.reduceSub, Int.reduceNeg, List.reduceReplicate, Nat.reducePow, Int.reduceMul]
      have hoT := tb_lt ho
      have hlb : (bindsF (l.take (2 * i))).length = i := by rw [bindsF_len, List.length_take]; omega
      have hsl : (l.getD (2 * i) []).length ≤ 1000 := hs _ (by rw [List.getD_eq_getElem?_getD, List.getElem?_eq_getElem (by omega)]; exact List.getElem_mem _)
      have hq1 := tb_lt i1
      refine ⟨by omega, ⟨by omega, by omega, by omega⟩, ?_⟩
      have hsn := bindsF_snoc i l h0
      generalize hE : (⟨numsB (l.getD (2 * i) []), l.getD (2 * i + 1) []⟩ : Bd) = e at *
      have hE1 : numsB (l.getD (2 * i) []) = e.seq := by rw [← hE]
      have hE2 : l.getD (2 * i + 1) [] = e.cmd := by rw [← hE]
      have hE3 : (l.getD (2 * i) []).length = e.seq.length := by rw [← hE1, numsB_len]
      rw [hE1, hE2, hE3]
      generalize hMK : some (Ob.arr 2 [[.own T1.length 0 e.seq.length, .str e.cmd]]) = MK
      refine ⟨(T1.set q none ++ [none, MK, some (.arr 2 (bdRows (bindsF (l.take (2 * i)) ++ [e])))], T1.length + 2, i + 1), ?_, ⟨?_, by dsimp only; omega, ?_, ?_⟩, by dsimp only; omega⟩
      · exact frz_bd (A := T1.set q none) (mk := MK) (out := bindsF (l.take (2 * i))) (e := e) T1.length (by simp)
      · dsimp only
        rw [show 2 * (i + 1) = 2 * i + 2 by omega, hsn]
        have := tb_geti (T1.set q none) [none, MK, some (Ob.arr 2 (bdRows (bindsF (l.take (2 * i)) ++ [e])))] 2
        rw [List.length_set] at this
        exact this
      · refine i3.new (j := [q]) ⟨by simp, fun k ob hk ho => ?_⟩ (by simp; omega)
        exact tb_f (tb_ne ho _ (by simpa using hk)) _
      · dsimp only; omega
    · have h1 : ¬ ((2 * i + 1 : Nat) : Int) < l.length := by omega
      simp -implicitDefEqProofs -dsimp only [hw1, h1, vcS, ↓vcP1, ↓vcP2, ↓reduceIte, reduceCtorEq, Nat.reduceLT, Nat.reduceLeDiff, Nat.reduceEqDiff, Nat.reduceAdd, Nat.reduceSub, Nat.reduceMul, Int.reduceLT, Int.reduceLE, Int.reduceEq, Int.reduceToNat, Int.reduceAdd, Int.reduceSub, Int.reduceNeg, List.reduceReplicate, Nat.reducePow, Int.reduceMul]
      have hi : l.length / 2 = i := by omega
      have hlast : bindsF (l.take (2 * i)) = bindsF l := by
        rcases Nat.lt_or_ge (2 * i) l.length with h | h
        · exact bindsF_odd i l (by omega)
        · rw [List.take_of_length_le h]
      rw [hlast] at i1
      rw [← hi]
      exact ⟨i3.1, h _ _ i4 i1 i3⟩
theorem arrows_K {T : Objs} {K : DV → Objs → Prop}
    (h : ∀ T' q, T.length ≤ q → T'[q]? = some (some (.arr 2 (bdRows (bindsF arrowsL)))) → Keep T T' [] → K (.own q 0 6) T') : CallK PG 32 [] T K := by
  refine CallK.of_fn FOk.nil rc_arrows_ok (by simp [rc_arrows]) ?_
  unfold rc_arrows
  dsimp only
  simp -implicitDefEqProofs -dsimp only [vcS, ↓vcP1, ↓vcP2, ↓reduceIte, reduceCtorEq, Nat.reduceLT, Nat.reduceLeDiff, Nat.reduceEqDiff, Nat.reduceAdd, Nat.reduceSub, Nat.reduceMul, Int.reduceLT, Int.reduceLE, Int.reduceEq, Int.reduceToNat, Int.reduceAdd, Int.reduceSub, Int.reduceNeg, List.reduceReplicate, Nat.reducePow, Int.reduceMul]
  refine binds_K (l := arrowsL) (tb_get0 _ _ _) (by decide) (by decide) fun T' q hq g k => ?_
  simp -implicitDefEqProofs -dsimp only [vcS, ↓vcP1, ↓vcP2, ↓reduceIte, reduceCtorEq, Nat.reduceLT, Nat.reduceLeDiff, Nat.reduceEqDiff, Nat.reduceAdd, Nat.reduceSub, Nat.reduceMul, Int.reduceLT, Int.reduceLE, Int.reduceEq, Int.reduceToNat, Int.reduceAdd, Int.reduceSub, Int.reduceNeg, List.reduceReplicate, Nat.reducePow, Int.reduceMul]
  have K1 := (Keep.app T _ []).new k (by simp)
  refine ⟨K1.1, h T' q (by simp at hq; omega) g K1⟩
def usualF (m : Int) : List Bd := if m = 0 then bindsF emacsL ++ bindsF arrowsL else if m = 1 then bindsF viInsL ++ bindsF arrowsL ++ bindsF viEscL else if m = 2 then bindsF viMovL ++ bindsF arrowsL else []
theorem usual0_K {T : Objs} {K : DV → Objs → Prop}
    (h : ∀ T' q, T.length ≤ q → T'[q]? = some (some (.arr 2 (bdRows (usualF 0)))) → Keep T T' [] → K (.own q 0 51) T') : CallK PG 10 [.int .i64 0] T K := by
  refine CallK.of_fn FOk.nil rc_usual_ok (by simp [rc_usual]) ?_
  unfold rc_usual
  dsimp only
  simp -implicitDefEqProofs -dsimp only [vcS, ↓vcP1, ↓vcP2, ↓reduceIte, reduceCtorEq, Nat.reduceLT, Nat.reduceLeDiff, Nat.reduceEqDiff, Nat.reduceAdd, Nat.reduceSub, Nat.reduceMul, Int.reduceLT, Int.reduceLE, Int.reduceEq, Int.reduceToNat, Int.reduceAdd, Int.reduceSub, Int.reduceNeg, List.reduceReplicate, Nat.reducePow, Int.reduceMul]
  refine binds_K (l := emacsL) (tb_get0 _ _ _) (by decide) (by decide) fun T' q hq g k => ?_
  simp -implicitDefEqProofs -dsimp only [vcS, ↓vcP1, ↓vcP2, ↓reduceIte, reduceCtorEq, Nat.reduceLT, Nat.reduceLeDiff, Nat.reduceEqDiff, Nat.reduceAdd, Nat.reduceSub, Nat.reduceMul, Int.reduceLT, Int.reduceLE, Int.reduceEq, Int.reduceToNat, Int.reduceAdd, Int.reduceSub, Int.reduceNeg, List.reduceReplicate, Nat.reducePow, Int.reduceMul]
  refine arrows_K fun T2 q2 hq2 g2 k2 => ?_
  have g1 := k2.at g (by simp)
  have hl1 : (bdRows (bindsF emacsL)).length = 45 := by rw [bdRows_len]; rfl
  have hl2 : (bdRows (bindsF arrowsL)).length = 6 := by rw [bdRows_len]; rfl
  have e2 : (emacsL.length / 2 : Nat) = 45 := rfl
  have htk : (bdRows (bindsF arrowsL)).take 6 = bdRows (bindsF arrowsL) := List.take_of_length_le (by rw [hl2]; omega)
  simp -implicitDefEqProofs -dsimp only [tb_all g1, tb_all g2, hl1, hl2, e2, htk, bdRows_app, tb_at, vcS, ↓vcP1, ↓vcP2, ↓reduceIte, reduceCtorEq, Nat.reduceLT, Nat.reduceLeDiff, Nat.reduceEqDiff, Nat.reduceAdd, Nat.reduceSub, Nat.reduceMul, Int.reduceLT, Int.reduceLE, Int.reduceEq, Int.reduceToNat, Int.reduceAdd, Int.reduceSub, Int.reduceNeg, List.reduceReplicate, Nat.reducePow, Int.reduceMul]
  have K1 := ((Keep.app T _ []).new k (by simp)).new k2 (by simp)
  simp at hq
  have K2 := K1.1
  refine ⟨by simp; omega, h _ T2.length K2 ?_ (K1.new (j := [q]) ⟨by simp, fun k ob hk ho => tb_f (tb_ne ho _ (by simpa using hk)) _⟩ (by simp; omega))⟩
  have := tb_get0 (T2.set q none) [] (some (Ob.arr 2 (bdRows (usualF 0))))
  rw [List.length_set] at this
  exact this
def beginL : List Int := [27, 91, 50, 48, 48, 126]
def stB (s p : List Int) : Bool := decide (s.take p.length = p)
theorem stB_iff {s p : List Int} : stB s p = true ↔ s.take p.length = p := by simp [stB]
theorem stB_len {s p : List Int} (h : stB s p = true) : p.length ≤ s.length := by
  have := congrArg List.length (stB_iff.1 h)
  simp at this
  omega
def withB (b : Bd) : List Bd → List Bd
  | [] => [b]
  | x :: l => if x.seq = b.seq then b :: l else x :: withB b l
theorem withB_mem {b x : Bd} : ∀ {l : List Bd}, x ∈ withB b l → x = b ∨ x ∈ l
  | [], h => by simp [withB] at h; exact .inl h
  | y :: l, h => by
    unfold withB at h
    split at h
    · rcases List.mem_cons.1 h with h | h
      · exact .inl h
      · exact .inr (List.mem_cons_of_mem _ h)
    · rcases List.mem_cons.1 h with h | h
      · exact .inr (by rw [h]; exact List.mem_cons_self)
      · exact (withB_mem h).imp id (List.mem_cons_of_mem _)
def Uniq (l : List Bd) : Prop := l.Pairwise fun a b => a.seq ≠ b.seq
theorem Uniq.withB {b : Bd} : ∀ {l : List Bd}, Uniq l → Uniq (withB b l)
  | [], _ => by simp [Uniq, Go.Proofs.YtdimdjcnkmkbjaaDoor.withB]
  | x :: l, h => by
    obtain ⟨h1, h2⟩ := List.pairwise_cons.1 h
    unfold Go.Proofs.YtdimdjcnkmkbjaaDoor.withB
    split
    · rename_i e
      exact List.pairwise_cons.2 ⟨fun y hy => by rw [← e]; exact h1 y hy, h2⟩
    · rename_i e
      refine List.pairwise_cons.2 ⟨fun y hy => ?_, Uniq.withB h2⟩
      rcases withB_mem hy with rfl | hy
      · exact e
      · exact h1 y hy
def findB (l : List Bd) (s : List Int) : Option Bd := l.find? fun b => decide (b.seq = s)
noncomputable def rc_bequal : RFn := ⟨2, 10, .seq (.reg [⟨some 4, .mov (.c (.bool false)), none, false⟩] 0 [0, 1]) (.seq (.reg [⟨some 5, .mov (.t 0), none, false⟩, ⟨some 6, .conv .b2s (.t 5), none, false⟩, ⟨some 7, .mov (.t 1), none, false⟩, ⟨some 8, .conv .b2s (.t 7), none, false⟩, ⟨some 9, .bin .eql (.t 6) (.t 8), none, false⟩, ⟨some 4, .mov (.t 9), none, false⟩] 0 [4]) .ret), [.t 4]⟩
theorem rc_bequal_ok : compFn PG.P [⟨0, 0, [0, 1], []⟩, ⟨1, 0, [4], []⟩] 58 = some rc_bequal := by kernel_rfl
noncomputable def rc_bhasp : RFn := ⟨2, 18, .seq (.reg [⟨some 4, .mov (.c (.bool false)), none, false⟩] 0 [0, 1]) (.seq (.reg [⟨some 5, .mov (.t 0), none, false⟩, ⟨some 6, .len (.t 5), none, false⟩, ⟨some 7, .mov (.t 1), none, false⟩, ⟨some 8, .len (.t 7), none, false⟩, ⟨some 9, .bin .geq (.t 6) (.t 8), none, false⟩, ⟨some 10, .mov (.t 9), none, false⟩, ⟨some 11, .mov (.t 0), some (10, true), false⟩, ⟨some 12, .mov (.t 1), some (10, true), false⟩, ⟨some 13, .len (.t 12), some (10, true), false⟩, ⟨some 14, .slice 1 (.t 11) none (some (.t 13)) none, some (10, true), false⟩, ⟨some 15, .mov (.t 1), some (10, true), false⟩, ⟨some 16, .call 58 [.t 14, .t 15], some (10, true), false⟩, ⟨some 17, .pick (.t 10) (.t 16) (.c (.bool false)), none, false⟩, ⟨some 4, .mov (.t 17), none, false⟩] 0 [4]) .ret), [.t 4]⟩
theorem rc_bhasp_ok : compFn PG.P [⟨0, 0, [0, 1], []⟩, ⟨1, 0, [4], []⟩] 49 = some rc_bhasp := by kernel_rfl
noncomputable def rc_cnan : RFn := ⟨1, 6, .seq (.reg [⟨some 2, .mov (.c (.bool false)), none, false⟩] 0 [0]) (.seq (.reg [⟨some 3, .mov (.t 0), none, false⟩, ⟨some 4, .mov (.t 0), none, false⟩, ⟨some 5, .bin .neq (.t 3) (.t 4), none, false⟩, ⟨some 2, .mov (.t 5), none, false⟩] 0 [2]) .ret), [.t 2]⟩
theorem rc_cnan_ok : compFn PG.P [⟨0, 0, [0], []⟩, ⟨1, 0, [2], []⟩] 77 = some rc_cnan := by kernel_rfl
noncomputable def rc_snan : RFn := ⟨1, 6, .seq (.reg [⟨some 2, .mov (.c (.bool false)), none, false⟩] 0 [0]) (.seq (.reg [⟨some 3, .mov (.t 0), none, false⟩, ⟨some 4, .mov (.t 0), none, false⟩, ⟨some 5, .bin .neq (.t 3) (.t 4), none, false⟩, ⟨some 2, .mov (.t 5), none, false⟩] 0 [2]) .ret), [.t 2]⟩
theorem rc_snan_ok : compFn PG.P [⟨0, 0, [0], []⟩, ⟨1, 0, [2], []⟩] 70 = some rc_snan := by kernel_rfl
noncomputable def rc_cless : RFn := ⟨2, 17, .seq (.reg [⟨some 4, .mov (.c (.bool false)), none, false⟩] 0 [0, 1]) (.seq (.reg [⟨some 5, .mov (.t 0), none, false⟩, ⟨some 6, .call 77 [.t 5], none, false⟩, ⟨some 7, .mov (.t 6), none, false⟩, ⟨some 8, .mov (.t 1), some (7, true), false⟩, ⟨some 9, .call 77 [.t 8], some (7, true), false⟩, ⟨some 10, .un .not (.t 9), some (7, true), false⟩, ⟨some 11, .pick (.t 7) (.t 10) (.c (.bool false)), none, false⟩, ⟨some 12, .mov (.t 11), none, false⟩, ⟨some 13, .mov (.t 0), some (12, false), false⟩, ⟨some 14, .mov (.t 1), some (12, false), false⟩, ⟨some 15, .bin .lss (.t 13) (.t 14), some (12, false), false⟩, ⟨some 16, .pick (.t 12) (.c (.bool true)) (.t 15), none, false⟩, ⟨some 4, .mov (.t 16), none, false⟩] 0 [4]) .ret), [.t 4]⟩
theorem rc_cless_ok : compFn PG.P [⟨0, 0, [0, 1], []⟩, ⟨1, 0, [4], []⟩] 69 = some rc_cless := by kernel_rfl
noncomputable def rc_bsearch_l0 : RC := (.seq (.seq (.reg [⟨some 13, .mov (.t 7), none, false⟩, ⟨some 14, .mov (.t 8), none, false⟩, ⟨some 15, .bin .lss (.t 13) (.t 14), none, false⟩] 0 [0, 1, 6, 7, 8, 15]) (.cond (.t 15) .skip (.ext 0))) (.blk 1 (.seq (.reg [⟨some 16, .mov (.t 7), none, false⟩, ⟨some 17, .mov (.t 8), none, false⟩, ⟨some 18, .bin .add (.t 16) (.t 17), none, false⟩, ⟨some 19, .conv (.i2i .u64) (.t 18), none, false⟩, ⟨some 20, .bin .shr (.t 19) (.c (.int .u64 1)), none, false⟩, ⟨some 21, .conv (.i2i .i64) (.t 20), none, false⟩, ⟨some 9, .mov (.t 21), none, false⟩] 0 [0, 1, 6, 7, 8, 9]) (.seq (.reg [⟨some 22, .mov (.t 0), none, false⟩, ⟨some 23, .mov (.t 9), none, false⟩, ⟨some 24, .iaddr 1 (.t 22) (.t 23), none, false⟩, ⟨some 25, .load false 1 (.t 24), none, false⟩, ⟨some 26, .mov (.t 1), none, false⟩, ⟨some 27, .call 69 [.t 25, .t 26], none, false⟩] 0 [0, 1, 6, 7, 8, 9, 27]) (.cond (.t 27) (.reg [⟨some 28, .mov (.t 9), none, false⟩, ⟨some 29, .bin .add (.t 28) (.c (.int .i64 1)), none, false⟩, ⟨some 7, .mov (.t 29), none, false⟩] 0 [0, 1, 6, 7, 8]) (.reg [⟨some 30, .mov (.t 9), none, false⟩, ⟨some 8, .mov (.t 30), none, false⟩] 0 [0, 1, 6, 7, 8]))))))
noncomputable def rc_bsearch : RFn := ⟨2, 54, .seq (.reg [⟨some 4, .mov (.c (.int .i64 0)), none, false⟩, ⟨some 5, .mov (.c (.bool false)), none, false⟩] 0 [0, 1]) (.seq (.reg [⟨some 10, .mov (.t 0), none, false⟩, ⟨some 11, .len (.t 10), none, false⟩, ⟨some 6, .mov (.t 11), none, false⟩] 0 [0, 1, 6]) (.seq (.reg [⟨some 12, .mov (.t 6), none, false⟩, ⟨some 7, .mov (.c (.int .i64 0)), none, false⟩, ⟨some 8, .mov (.t 12), none, false⟩] 0 [0, 1, 6, 7, 8]) (.seq (.blk 0 (.loop rc_bsearch_l0)) (.seq (.reg [⟨some 31, .mov (.t 7), none, false⟩, ⟨some 32, .mov (.t 7), none, false⟩, ⟨some 33, .mov (.t 6), none, false⟩, ⟨some 34, .bin .lss (.t 32) (.t 33), none, false⟩, ⟨some 35, .mov (.t 34), none, false⟩, ⟨some 36, .mov (.t 0), some (35, true), false⟩, ⟨some 37, .mov (.t 7), some (35, true), false⟩, ⟨some 38, .iaddr 1 (.t 36) (.t 37), some (35, true), false⟩, ⟨some 39, .load false 1 (.t 38), some (35, true), false⟩, ⟨some 40, .mov (.t 1), some (35, true), false⟩, ⟨some 41, .bin .eql (.t 39) (.t 40), some (35, true), false⟩, ⟨some 42, .mov (.t 41), some (35, true), false⟩, ⟨some 43, .mov (.t 0), some (42, false), false⟩, ⟨some 44, .mov (.t 7), some (42, false), false⟩, ⟨some 45, .iaddr 1 (.t 43) (.t 44), some (42, false), false⟩, ⟨some 46, .load false 1 (.t 45), some (42, false), false⟩, ⟨some 47, .call 70 [.t 46], some (42, false), false⟩, ⟨some 48, .mov (.t 47), some (42, false), false⟩, ⟨some 49, .mov (.t 1), some (48, true), false⟩, ⟨some 50, .call 70 [.t 49], some (48, true), false⟩, ⟨some 51, .pick (.t 48) (.t 50) (.c (.bool false)), some (42, false), false⟩, ⟨some 52, .pick (.t 42) (.c (.bool true)) (.t 51), some (35, true), false⟩, ⟨some 53, .pick (.t 35) (.t 52) (.c (.bool false)), none, false⟩, ⟨some 4, .mov (.t 31), none, false⟩, ⟨some 5, .mov (.t 53), none, false⟩] 0 [4, 5]) .ret)))), [.t 4, .t 5]⟩
theorem rc_bsearch_ok : compFn PG.P [⟨0, 0, [0, 1], []⟩, ⟨1, 0, [0, 1, 6], []⟩, ⟨2, 0, [0, 1, 6, 7, 8], []⟩, ⟨3, 0, [0, 1, 6, 7, 8, 15], []⟩, ⟨4, 0, [0, 1, 6, 7, 8, 9], []⟩, ⟨5, 0, [0, 1, 6, 7, 8, 9, 27], []⟩, ⟨6, 0, [0, 1, 6, 7, 8], []⟩, ⟨7, 0, [0, 1, 6, 7, 8], []⟩, ⟨8, 0, [4, 5], []⟩] 59 = some rc_bsearch := by kernel_rfl
noncomputable def rc_bcmds : RFn := ⟨0, 2, .seq (.reg [⟨some 0, .mov (.c (.sl 0 [] .nil)), none, false⟩] 0 []) (.seq (.reg [⟨some 1, .mkrow 1 [.str []] 44 [(0, (.c (.str [(97), (98), (111), (114), (116)]))), (1, (.c (.str [(97), (99), (99), (101), (112), (116), (45), (108), (105), (110), (101)]))), (2, (.c (.str [(98), (97), (99), (107), (119), (97), (114), (100), (45), (99), (104), (97), (114)]))), (3, (.c (.str [(98), (97), (99), (107), (119), (97), (114), (100), (45), (100), (101), (108), (101), (116), (101), (45), (99), (104), (97), (114)]))), (4, (.c (.str [(98), (97), (99), (107), (119), (97), (114), (100), (45), (107), (105), (108), (108), (45), (119), (111), (114), (100)]))), (5, (.c (.str [(98), (97), (99), (107), (119), (97), (114), (100), (45), (119), (111), (114), (100)]))), (6, (.c (.str [(98), (101), (103), (105), (110), (110), (105), (110), (103), (45), (111), (102), (45), (104), (105), (115), (116), (111), (114), (121)]))), (7, (.c (.str [(98), (101), (103), (105), (110), (110), (105), (110), (103), (45), (111), (102), (45), (108), (105), (110), (101)]))), (8, (.c (.str [(99), (97), (112), (105), (116), (97), (108), (105), (122), (101), (45), (119), (111), (114), (100)]))), (9, (.c (.str [(99), (108), (101), (97), (114), (45), (115), (99), (114), (101), (101), (110)]))), (10, (.c (.str [(100), (101), (108), (101), (116), (101), (45), (99), (104), (97), (114)]))), (11, (.c (.str [(100), (105), (103), (105), (116), (45), (97), (114), (103), (117), (109), (101), (110), (116)]))), (12, (.c (.str [(100), (111), (119), (110), (99), (97), (115), (101), (45), (119), (111), (114), (100)]))), (13, (.c (.str [(101), (109), (97), (99), (115), (45), (101), (100), (105), (116), (105), (110), (103), (45), (109), (111), (100), (101)]))), (14, (.c (.str [(101), (110), (100), (45), (111), (102), (45), (104), (105), (115), (116), (111), (114), (121)]))), (15, (.c (.str [(101), (110), (100), (45), (111), (102), (45), (108), (105), (110), (101)]))), (16, (.c (.str [(102), (111), (114), (119), (97), (114), (100), (45), (99), (104), (97), (114)]))), (17, (.c (.str [(102), (111), (114), (119), (97), (114), (100), (45), (115), (101), (97), (114), (99), (104), (45), (104), (105), (115), (116), (111), (114), (121)]))), (18, (.c (.str [(102), (111), (114), (119), (97), (114), (100), (45), (119), (111), (114), (100)]))), (19, (.c (.str [(107), (105), (108), (108), (45), (108), (105), (110), (101)]))), (20, (.c (.str [(107), (105), (108), (108), (45), (119), (111), (114), (100)]))), (21, (.c (.str [(110), (101), (120), (116), (45), (104), (105), (115), (116), (111), (114), (121)]))), (22, (.c (.str [(112), (114), (101), (118), (105), (111), (117), (115), (45), (104), (105), (115), (116), (111), (114), (121)]))), (23, (.c (.str [(113), (117), (111), (116), (101), (100), (45), (105), (110), (115), (101), (114), (116)]))), (24, (.c (.str [(114), (101), (118), (101), (114), (115), (101), (45), (115), (101), (97), (114), (99), (104), (45), (104), (105), (115), (116), (111), (114), (121)]))), (25, (.c (.str [(116), (114), (97), (110), (115), (112), (111), (115), (101), (45), (99), (104), (97), (114), (115)]))), (26, (.c (.str [(116), (114), (97), (110), (115), (112), (111), (115), (101), (45), (119), (111), (114), (100), (115)]))), (27, (.c (.str [(117), (110), (100), (111)]))), (28, (.c (.str [(117), (110), (105), (120), (45), (108), (105), (110), (101), (45), (100), (105), (115), (99), (97), (114), (100)]))), (29, (.c (.str [(117), (112), (99), (97), (115), (101), (45), (119), (111), (114), (100)]))), (30, (.c (.str [(118), (105), (45), (97), (112), (112), (101), (110), (100)]))), (31, (.c (.str [(118), (105), (45), (97), (112), (112), (101), (110), (100), (45), (101), (111), (108)]))), (32, (.c (.str [(118), (105), (45), (99), (104), (97), (110), (103), (101), (45), (101), (111), (108)]))), (33, (.c (.str [(118), (105), (45), (100), (101), (108), (101), (116), (101)]))), (34, (.c (.str [(118), (105), (45), (100), (101), (108), (101), (116), (101), (45), (108), (105), (110), (101)]))), (35, (.c (.str [(118), (105), (45), (101), (100), (105), (116), (105), (110), (103), (45), (109), (111), (100), (101)]))), (36, (.c (.str [(118), (105), (45), (105), (110), (115), (101), (114), (116), (45), (98), (111), (108)]))), (37, (.c (.str [(118), (105), (45), (105), (110), (115), (101), (114), (116), (105), (111), (110), (45), (109), (111), (100), (101)]))), (38, (.c (.str [(118), (105), (45), (109), (111), (118), (101), (109), (101), (110), (116), (45), (109), (111), (100), (101)]))), (39, (.c (.str [(118), (105), (45), (110), (101), (120), (116), (45), (119), (111), (114), (100)]))), (40, (.c (.str [(118), (105), (45), (112), (114), (101), (118), (45), (119), (111), (114), (100)]))), (41, (.c (.str [(118), (105), (45), (112), (117), (116)]))), (42, (.c (.str [(121), (97), (110), (107)]))), (43, (.c (.str [(121), (97), (110), (107), (45), (112), (111), (112)])))], none, false⟩, ⟨some 0, .mov (.t 1), none, false⟩] 0 [0]) .ret), [.t 0]⟩
theorem rc_bcmds_ok : compFn PG.P [⟨0, 0, [], []⟩, ⟨1, 0, [0], []⟩] 60 = some rc_bcmds := by kernel_rfl
noncomputable def rc_bknown : RFn := ⟨1, 12, .seq (.reg [⟨some 2, .mov (.c (.bool false)), none, false⟩] 0 [0]) (.seq (.reg [⟨some 6, .call 60 [], none, false⟩, ⟨some 7, .mov (.t 0), none, false⟩, ⟨some 8, .call 59 [.t 6, .t 7], none, false⟩, ⟨some 5, .mov (.t 8), none, false⟩, ⟨some 9, .ext (.t 5) 0, none, false⟩, ⟨some 10, .ext (.t 5) 1, none, false⟩, ⟨some 3, .mov (.t 9), none, false⟩, ⟨some 4, .mov (.t 10), none, false⟩] 0 [4]) (.seq (.reg [⟨some 11, .mov (.t 4), none, false⟩, ⟨some 2, .mov (.t 11), none, false⟩] 0 [2]) .ret)), [.t 2]⟩
theorem rc_bknown_ok : compFn PG.P [⟨0, 0, [0], []⟩, ⟨1, 0, [4], []⟩, ⟨2, 0, [2], []⟩] 50 = some rc_bknown := by kernel_rfl
noncomputable def rc_bright : RFn := ⟨1, 26, .seq (.reg [⟨some 1, .box 2 (.t 0), none, false⟩, ⟨some 2, .mov (.c (.bool false)), none, false⟩] 0 [1]) (.seq (.reg [⟨some 3, .faddr 0 (.t 1), none, false⟩, ⟨some 4, .load false 1 (.t 3), none, false⟩, ⟨some 5, .len (.t 4), none, false⟩, ⟨some 6, .bin .geq (.t 5) (.c (.int .i64 1)), none, false⟩, ⟨some 7, .mov (.t 6), none, false⟩, ⟨some 8, .faddr 0 (.t 1), some (7, true), false⟩, ⟨some 9, .load false 1 (.t 8), some (7, true), false⟩, ⟨some 10, .len (.t 9), some (7, true), false⟩, ⟨some 11, .bin .leq (.t 10) (.c (.int .i64 8)), some (7, true), false⟩, ⟨some 12, .pick (.t 7) (.t 11) (.c (.bool false)), none, false⟩, ⟨some 13, .mov (.t 12), none, false⟩, ⟨some 14, .faddr 0 (.t 1), some (13, true), false⟩, ⟨some 15, .load false 1 (.t 14), some (13, true), false⟩, ⟨some 16, .mkrow 1 [.int .u8 0] 4 [(0, (.c (.int .u8 27))), (1, (.c (.int .u8 91))), (2, (.c (.int .u8 50))), (3, (.c (.int .u8 48)))], some (13, true), false⟩, ⟨some 17, .conv .lit (.t 16), some (13, true), true⟩, ⟨some 18, .call 49 [.t 15, .t 17], some (13, true), false⟩, ⟨some 19, .un .not (.t 18), some (13, true), false⟩, ⟨some 20, .pick (.t 13) (.t 19) (.c (.bool false)), none, false⟩, ⟨some 21, .mov (.t 20), none, false⟩, ⟨some 22, .faddr 1 (.t 1), some (21, true), false⟩, ⟨some 23, .load false 1 (.t 22), some (21, true), false⟩, ⟨some 24, .call 50 [.t 23], some (21, true), false⟩, ⟨some 25, .pick (.t 21) (.t 24) (.c (.bool false)), none, false⟩, ⟨some 2, .mov (.t 25), none, false⟩] 0 [2]) .ret), [.t 2]⟩
theorem rc_bright_ok : compFn PG.P [⟨0, 0, [1], []⟩, ⟨1, 0, [2], [17]⟩] 39 = some rc_bright := by kernel_rfl
def toB (l : List Int) : List UInt8 := l.map fun n => UInt8.ofNat n.toNat
theorem toB_inj {a b : List Int} (ha : ∀ n ∈ a, 0 ≤ n ∧ n ≤ 255) (hb : ∀ n ∈ b, 0 ≤ n ∧ n ≤ 255) : toB a = toB b ↔ a = b := by
  refine ⟨fun h => ?_, fun h => by rw [h]⟩
  induction a generalizing b with
  | nil => cases b with
    | nil => rfl
    | cons => simp [toB] at h
  | cons x a ih =>
    cases b with
    | nil => simp [toB] at h
    | cons y b =>
      simp only [toB, List.map_cons, List.cons.injEq] at h
      have h1 := ha x (by simp)
      have h2 := hb y (by simp)
      have h3 := congrArg UInt8.toNat h.1
      simp at h3
      rw [ih (fun n hn => ha n (by simp [hn])) (fun n hn => hb n (by simp [hn])) h.2, show x = y by omega]
theorem toB_len (l : List Int) : (toB l).length = l.length := by simp [toB]
def cmdsL : List (List UInt8) := [[97, 98, 111, 114, 116], [97, 99, 99, 101, 112, 116, 45, 108, 105, 110, 101], [98, 97, 99, 107, 119, 97, 114, 100, 45, 99, 104, 97, 114], [98, 97, 99, 107, 119, 97, 114, 100, 45, 100, 101, 108, 101, 116, 101, 45, 99, 104, 97, 114], [98, 97, 99, 107, 119, 97, 114, 100, 45, 107, 105, 108, 108, 45, 119, 111, 114, 100], [98, 97, 99, 107, 119, 97, 114, 100, 45, 119, 111, 114, 100], [98, 101, 103, 105, 110, 110, 105, 110, 103, 45, 111, 102, 45, 104, 105, 115, 116, 111, 114, 121], [98, 101, 103, 105, 110, 110, 105, 110, 103, 45, 111, 102, 45, 108, 105, 110, 101], [99, 97, 112, 105, 116, 97, 108, 105, 122, 101, 45, 119, 111, 114, 100], [99, 108, 101, 97, 114, 45, 115, 99, 114, 101, 101, 110], [100, 101, 108, 101, 116, 101, 45, 99, 104, 97, 114], [100, 105, 103, 105, 116, 45, 97, 114, 103, 117, 109, 101, 110, 116], [100, 111, 119, 110, 99, 97, 115, 101, 45, 119, 111, 114, 100], [101, 109, 97, 99, 115, 45, 101, 100, 105, 116, 105, 110, 103, 45, 109, 111, 100, 101], [101, 110, 100, 45, 111, 102, 45, 104, 105, 115, 116, 111, 114, 121], [101, 110, 100, 45, 111, 102, 45, 108, 105, 110, 101], [102, 111, 114, 119, 97, 114, 100, 45, 99, 104, 97, 114], [102, 111, 114, 119, 97, 114, 100, 45, 115, 101, 97, 114, 99, 104, 45, 104, 105, 115, 116, 111, 114, 121], [102, 111, 114, 119, 97, 114, 100, 45, 119, 111, 114, 100], [107, 105, 108, 108, 45, 108, 105, 110, 101], [107, 105, 108, 108, 45, 119, 111, 114, 100], [110, 101, 120, 116, 45, 104, 105, 115, 116, 111, 114, 121], [112, 114, 101, 118, 105, 111, 117, 115, 45, 104, 105, 115, 116, 111, 114, 121], [113, 117, 111, 116, 101, 100, 45, 105, 110, 115, 101, 114, 116], [114, 101, 118, 101, 114, 115, 101, 45, 115, 101, 97, 114, 99, 104, 45, 104, 105, 115, 116, 111, 114, 121], [116, 114, 97, 110, 115, 112, 111, 115, 101, 45, 99, 104, 97, 114, 115], [116, 114, 97, 110, 115, 112, 111, 115, 101, 45, 119, 111, 114, 100, 115], [117, 110, 100, 111], [117, 110, 105, 120, 45, 108, 105, 110, 101, 45, 100, 105, 115, 99, 97, 114, 100], [117, 112, 99, 97, 115, 101, 45, 119, 111, 114, 100], [118, 105, 45, 97, 112, 112, 101, 110, 100], [118, 105, 45, 97, 112, 112, 101, 110, 100, 45, 101, 111, 108], [118, 105, 45, 99, 104, 97, 110, 103, 101, 45, 101, 111, 108], [118, 105, 45, 100, 101, 108, 101, 116, 101], [118, 105, 45, 100, 101, 108, 101, 116, 101, 45, 108, 105, 110, 101], [118, 105, 45, 101, 100, 105, 116, 105, 110, 103, 45, 109, 111, 100, 101], [118, 105, 45, 105, 110, 115, 101, 114, 116, 45, 98, 111, 108], [118, 105, 45, 105, 110, 115, 101, 114, 116, 105, 111, 110, 45, 109, 111, 100, 101], [118, 105, 45, 109, 111, 118, 101, 109, 101, 110, 116, 45, 109, 111, 100, 101], [118, 105, 45, 110, 101, 120, 116, 45, 119, 111, 114, 100], [118, 105, 45, 112, 114, 101, 118, 45, 119, 111, 114, 100], [118, 105, 45, 112, 117, 116], [121, 97, 110, 107], [121, 97, 110, 107, 45, 112, 111, 112]]
theorem wkT_self (d : DV) : wkT d d = True := eq_true (wkT_refl d)
theorem wrap_u64 {n : Int} (h0 : 0 ≤ n) (h1 : n < 18446744073709551616) : IntKind.u64.wrap n = n := by
  unfold IntKind.wrap
  simp only [show IntKind.u64.bits = 64 from rfl, show IntKind.u64.signed = false from rfl]
  simp
  omega
theorem cmds_len : cmdsL.length = 44 := rfl
theorem cmds_lt : ((List.range 44).all fun i => (List.range 44).all fun j => decide (i < j) == Op.bytesLess (cmdsL.getD i []) (cmdsL.getD j [])) = true := by decide +kernel
theorem less_lt {i j : Nat} (hi : i < 44) (hj : j < 44) : Op.bytesLess (cmdsL.getD i []) (cmdsL.getD j []) = decide (i < j) := by
  have := List.all_eq_true.1 (List.all_eq_true.1 cmds_lt i (List.mem_range.2 hi)) j (List.mem_range.2 hj)
  simpa using (beq_iff_eq.1 this).symm
theorem cnan_P (s : List UInt8) : PCalls PG 77 [.str s] fun n r os => r = .bool false ∧ os = [] := by
  refine PCalls.by_fn (res := fun n => (.bool false, [])) FOk.nil rc_cnan_ok (by simp [rc_cnan]) fun n => ?_
  unfold rc_cnan
  dsimp only
  simp -implicitDefEqProofs -dsimp only [beq_self_eq_true, Bool.not_true, vcS, ↓vcP1, ↓vcP2, ↓reduceIte, reduceCtorEq, Nat.reduceLT, Nat.reduceLeDiff, Nat.reduceEqDiff, Nat.reduceAdd, Nat.reduceSub, Nat.reduceMul, Int.reduceLT, Int.reduceLE, Int.reduceEq, Int.reduceToNat, Int.reduceAdd, Int.reduceSub, Int.reduceNeg, List.reduceReplicate, Nat.reducePow, Int.reduceMul]
theorem cless_K {T : Objs} {a b : List UInt8} {K : DV → Objs → Prop} (h : K (.bool (Op.bytesLess a b)) T) : CallK PG 69 [.str a, .str b] T K := by
  refine CallK.of_fn FOk.nil rc_cless_ok (by simp [rc_cless]) ?_
  unfold rc_cless
  dsimp only
  simp -implicitDefEqProofs -dsimp only [tb_at, vcS, ↓vcP1, ↓vcP2, ↓reduceIte, reduceCtorEq, Nat.reduceLT, Nat.reduceLeDiff, Nat.reduceEqDiff, Nat.reduceAdd, Nat.reduceSub, Nat.reduceMul, Int.reduceLT, Int.reduceLE, Int.reduceEq, Int.reduceToNat, Int.reduceAdd, Int.reduceSub, Int.reduceNeg, List.reduceReplicate, Nat.reducePow, Int.reduceMul]
  refine CallK.pure (cnan_P a) fun r os ⟨h1, h2⟩ => ?_
  subst h1; subst h2
  simp -implicitDefEqProofs -dsimp only [tb_at, vcS, ↓vcP1, ↓vcP2, ↓reduceIte, reduceCtorEq, Nat.reduceLT, Nat.reduceLeDiff, Nat.reduceEqDiff, Nat.reduceAdd, Nat.reduceSub, Nat.reduceMul, Int.reduceLT, Int.reduceLE, Int.reduceEq, Int.reduceToNat, Int.reduceAdd, Int.reduceSub, Int.reduceNeg, List.reduceReplicate, Nat.reducePow, Int.reduceMul]
  exact h
theorem snan_P (s : List UInt8) : PCalls PG 70 [.str s] fun n r os => r = .bool false ∧ os = [] := by
  refine PCalls.by_fn (res := fun n => (.bool false, [])) FOk.nil rc_snan_ok (by simp [rc_snan]) fun n => ?_
  unfold rc_snan
  dsimp only
  simp -implicitDefEqProofs -dsimp only [beq_self_eq_true, Bool.not_true, vcS, ↓vcP1, ↓vcP2, ↓reduceIte, reduceCtorEq, Nat.reduceLT, Nat.reduceLeDiff, Nat.reduceEqDiff, Nat.reduceAdd, Nat.reduceSub, Nat.reduceMul, Int.reduceLT, Int.reduceLE, Int.reduceEq, Int.reduceToNat, Int.reduceAdd, Int.reduceSub, Int.reduceNeg, List.reduceReplicate, Nat.reducePow, Int.reduceMul]
theorem bcmds_K {T : Objs} {K : DV → Objs → Prop} (h : ∀ T' q, T.length ≤ q → T'[q]? = some (some (.arr 1 (stRows cmdsL))) → Keep T T' [] → K (.own q 0 44) T') : CallK PG 60 [] T K := by
  refine CallK.of_fn FOk.nil rc_bcmds_ok (by simp [rc_bcmds]) ?_
  unfold rc_bcmds
  dsimp only
  simp -implicitDefEqProofs -dsimp only [tb_at, vcS, ↓vcP1, ↓vcP2, ↓reduceIte, reduceCtorEq, Nat.reduceLT, Nat.reduceLeDiff, Nat.reduceEqDiff, Nat.reduceAdd, Nat.reduceSub, Nat.reduceMul, Int.reduceLT, Int.reduceLE, Int.reduceEq, Int.reduceToNat, Int.reduceAdd, Int.reduceSub, Int.reduceNeg, List.reduceReplicate, Nat.reducePow, Int.reduceMul]
  exact h _ T.length (Nat.le_refl _) (tb_get0 _ _ _) (Keep.app _ _ _)
theorem not_cmd {c : List UInt8} {i : Nat} (hi : i ≤ 44) (h1 : i = 0 ∨ Op.bytesLess (cmdsL.getD (i - 1) []) c = true) (h2 : i = 44 ∨ Op.bytesLess (cmdsL.getD i []) c = false) (h3 : i < 44 → cmdsL.getD i [] ≠ c) : ¬ c ∈ cmdsL := by
  intro hc
  obtain ⟨j, hj, rfl⟩ := List.getElem_of_mem hc
  have e : cmdsL[j] = cmdsL.getD j [] := by rw [List.getD_eq_getElem?_getD, List.getElem?_eq_getElem hj]; rfl
  have hj' : j < 44 := hj
  generalize cmdsL[j] = cc at *
  subst e
  have hji : j ≠ i := fun hh => h3 (by omega) (by rw [hh])
  rcases h1 with h1 | h1
  · rcases h2 with h2 | h2
    · omega
    · rw [less_lt (by omega) hj'] at h2
      simp at h2; omega
  · rw [less_lt (by omega) hj'] at h1
    simp at h1
    rcases h2 with h2 | h2
    · omega
    · rcases Nat.lt_or_ge i 44 with h4 | h4
      · rw [less_lt h4 hj'] at h2
        simp at h2; omega
      · omega
theorem bsearch_K {T : Objs} {q : Nat} {c : List UInt8} {K : DV → Objs → Prop} (hq : T[q]? = some (some (.arr 1 (stRows cmdsL)))) (h : ∀ i : Nat, K (.tup [.int .i64 i, .bool (decide (c ∈ cmdsL))]) T) : CallK PG 59 [.own q 0 44, .str c] T K := by
  refine CallK.of_fn FOk.nil rc_bsearch_ok (by simp [rc_bsearch]) ?_
  unfold rc_bsearch
  dsimp only
  have hl : (stRows cmdsL).length = 44 := rfl
  simp -implicitDefEqProofs -dsimp only [tb_at, tb_all hq, hl, vcS, ↓vcP1, ↓vcP2, ↓reduceIte, reduceCtorEq, Nat.reduceLT, Nat.reduceLeDiff, Nat.reduceEqDiff, Nat.reduceAdd, Nat.reduceSub, Nat.reduceMul, Int.reduceLT, Int.reduceLE, Int.reduceEq, Int.reduceToNat, Int.reduceAdd, Int.reduceSub, Int.reduceNeg, List.reduceReplicate, Nat.reducePow, Int.reduceMul]
  refine LoopWp.inv FOk.nil (S := fun s : Nat × Nat => ⟨[(0, .own q 0 44), (1, .str c), (6, .int .i64 44), (7, .int .i64 s.1), (8, .int .i64 s.2)], T⟩)
    (I := fun s => s.1 ≤ s.2 ∧ s.2 ≤ 44 ∧ (s.1 = 0 ∨ Op.bytesLess (cmdsL.getD (s.1 - 1) []) c = true) ∧ (s.2 = 44 ∨ Op.bytesLess (cmdsL.getD s.2 []) c = false))
    (μ := fun s => s.2 - s.1) (0, 44) ⟨by simp, by simp, .inl rfl, .inl rfl⟩ ?_ ?_
  · simp -implicitDefEqProofs -dsimp only [wkT_self, vcS, ↓vcP1, ↓vcP2, ↓reduceIte, reduceCtorEq, Nat.reduceLT, Nat.reduceLeDiff, Nat.reduceEqDiff, Nat.reduceAdd, Nat.reduceSub, Nat.reduceMul, Int.reduceLT, Int.reduceLE, Int.reduceEq, Int.reduceToNat, Int.reduceAdd, Int.reduceSub, Int.reduceNeg, List.reduceReplicate, Nat.reducePow, Int.reduceMul]
  · intro ⟨lo, hi⟩ ⟨h1, h2, h3, h4⟩
    dsimp only at h1 h2 h3 h4 ⊢
    unfold rc_bsearch_l0
    by_cases hc : lo < hi
    · have hc' : (lo : Int) < hi := by omega
      have hw1 : IntKind.i64.wrap ((lo : Int) + hi) = ((lo + hi : Nat) : Int) := by rw [wI64 (by omega) (by omega)]; omega
      have hm : IntKind.i64.wrap ((IntKind.u64.wrap ((lo + hi : Nat) : Int)).fdiv (2 ^ min 1 IntKind.u64.bits)) = (((lo + hi) / 2 : Nat) : Int) := by
        rw [show min 1 IntKind.u64.bits = 1 from rfl, wrap_u64 (by omega) (by omega), Int.fdiv_eq_ediv_of_nonneg _ (by decide), wI64 (by omega) (by omega)]
        omega
      have hmid : (lo + hi) / 2 < 44 := by omega
      have hm1 : (((lo + hi) / 2 : Nat) : Int) < 44 := by omega
      have hm0 : (0 : Int) ≤ (((lo + hi) / 2 : Nat) : Int) := by omega
      generalize hmm : (lo + hi) / 2 = m at *
      have g := stRows_get (l := cmdsL) (i := m) hmid
      have hwm : IntKind.i64.wrap ((m : Int) + 1) = ((m + 1 : Nat) : Int) := by rw [wI64 (by omega) (by omega)]; omega
      simp -implicitDefEqProofs -dsimp only [hc', hw1, wkT_self, hm, hm0, hm1, hl, g, tb_all hq, tb_at, Nat.zero_add, vcS, ↓vcP1, ↓vcP2, ↓reduceIte, reduceCtorEq, Nat.reduceLT, Nat.reduceLeDiff, Nat.reduceEqDiff, Nat.reduceAdd, Nat.reduceSub, Nat.reduceMul, Int.reduceLT, Int.reduceLE, Int.reduceEq, Int.reduceToNat, Int.reduceAdd, Int.reduceSub, Int.reduceNeg, List.reduceReplicate, Nat.reducePow, Int.reduceMul]
      refine cless_K ?_
      cases hr : Op.bytesLess (cmdsL.getD m []) c
      · simp -implicitDefEqProofs -dsimp only [hwm, wkT_self, vcS, ↓vcP1, ↓vcP2, ↓reduceIte, reduceCtorEq, Nat.reduceLT, Nat.reduceLeDiff, Nat.reduceEqDiff, Nat.reduceAdd, Nat.reduceSub, Nat.reduceMul, Int.reduceLT, Int.reduceLE, Int.reduceEq, Int.reduceToNat, Int.reduceAdd, Int.reduceSub, Int.reduceNeg, List.reduceReplicate, Nat.reducePow, Int.reduceMul]
        exact ⟨(lo, m), ⟨rfl, rfl⟩, ⟨by dsimp only; omega, by dsimp only; omega, h3, .inr hr⟩, by dsimp only; omega⟩
      · simp -implicitDefEqProofs -dsimp only [hwm, wkT_self, vcS, ↓vcP1, ↓vcP2, ↓reduceIte, reduceCtorEq, Nat.reduceLT, Nat.reduceLeDiff, Nat.reduceEqDiff, Nat.reduceAdd, Nat.reduceSub, Nat.reduceMul, Int.reduceLT, Int.reduceLE, Int.reduceEq, Int.reduceToNat, Int.reduceAdd, Int.reduceSub, Int.reduceNeg, List.reduceReplicate, Nat.reducePow, Int.reduceMul]
        exact ⟨(m + 1, hi), ⟨rfl, rfl⟩, ⟨by dsimp only; omega, h2, .inr (by simpa using hr), h4⟩, by dsimp only; omega⟩
    · have hc' : ¬ (lo : Int) < hi := by omega
      have : lo = hi := by omega
      subst this
      by_cases h0 : lo < 44
      · have h0' : (lo : Int) < 44 := by omega
        have h00 : (0 : Int) ≤ lo := by omega
        have g := stRows_get (l := cmdsL) (i := lo) h0
        by_cases he : cmdsL.getD lo [] = c
        · have hcm : decide (c ∈ cmdsL) = true := by
            rw [decide_eq_true_eq, ← he, List.getD_eq_getElem?_getD, List.getElem?_eq_getElem (by rw [cmds_len]; exact h0)]
            exact List.getElem_mem _
          rw [hcm] at h
          simp -implicitDefEqProofs -dsimp only [hc', h0', h00, g, hl, he, tb_all hq, tb_at, Nat.zero_add, wkT_self, beq_self_eq_true, vcS, ↓vcP1, ↓vcP2, ↓reduceIte, reduceCtorEq, Nat.reduceLT, Nat.reduceLeDiff, Nat.reduceEqDiff, Nat.reduceAdd, Nat.reduceSub, Nat.reduceMul, Int.reduceLT, Int.reduceLE, Int.reduceEq, Int.reduceToNat, Int.reduceAdd, Int.reduceSub, Int.reduceNeg, List.reduceReplicate, Nat.reducePow, Int.reduceMul]
          exact h lo
        · have hcm : decide (c ∈ cmdsL) = false := by
            rw [decide_eq_false_iff_not]
            exact not_cmd h2 h3 h4 (fun _ => he)
          rw [hcm] at h
          simp -implicitDefEqProofs -dsimp only [hc', h0', h00, g, hl, he, tb_all hq, tb_at, Nat.zero_add, wkT_self, vcS, ↓vcP1, ↓vcP2, ↓reduceIte, reduceCtorEq, Nat.reduceLT, Nat.reduceLeDiff, Nat.reduceEqDiff, Nat.reduceAdd, Nat.reduceSub, Nat.reduceMul, Int.reduceLT, Int.reduceLE, Int.reduceEq, Int.reduceToNat, Int.reduceAdd, Int.reduceSub, Int.reduceNeg, List.reduceReplicate, Nat.reducePow, Int.reduceMul]
          rw [show (cmdsL.getD lo [] == c) = false by simpa using he]
          simp -implicitDefEqProofs -dsimp only [vcS, ↓vcP1, ↓vcP2, ↓reduceIte, reduceCtorEq, Nat.reduceLT, Nat.reduceLeDiff, Nat.reduceEqDiff, Nat.reduceAdd, Nat.reduceSub, Nat.reduceMul, Int.reduceLT, Int.reduceLE, Int.reduceEq, Int.reduceToNat, Int.reduceAdd, Int.reduceSub, Int.reduceNeg, List.reduceReplicate, Nat.reducePow, Int.reduceMul]
          refine CallK.pure (snan_P _) fun r os ⟨h1, h2⟩ => ?_
          subst h1; subst h2
          simp -implicitDefEqProofs -dsimp only [tb_at, vcS, ↓vcP1, ↓vcP2, ↓reduceIte, reduceCtorEq, Nat.reduceLT, Nat.reduceLeDiff, Nat.reduceEqDiff, Nat.reduceAdd, Nat.reduceSub, Nat.reduceMul, Int.reduceLT, Int.reduceLE, Int.reduceEq, Int.reduceToNat, Int.reduceAdd, Int.reduceSub, Int.reduceNeg, List.reduceReplicate, Nat.reducePow, Int.reduceMul]
          exact h lo
      · have h0' : ¬ (lo : Int) < 44 := by omega
        have hcm : decide (c ∈ cmdsL) = false := by
          rw [decide_eq_false_iff_not]
          exact not_cmd h2 h3 h4 (fun h => absurd h h0)
        rw [hcm] at h
        simp -implicitDefEqProofs -dsimp only [hc', h0', wkT_self, vcS, ↓vcP1, ↓vcP2, ↓reduceIte, reduceCtorEq, Nat.reduceLT, Nat.reduceLeDiff, Nat.reduceEqDiff, Nat.reduceAdd, Nat.reduceSub, Nat.reduceMul, Int.reduceLT, Int.reduceLE, Int.reduceEq, Int.reduceToNat, Int.reduceAdd, Int.reduceSub, Int.reduceNeg, List.reduceReplicate, Nat.reducePow, Int.reduceMul]
        exact h lo
theorem bknown_K {T : Objs} {c : List UInt8} {K : DV → Objs → Prop} (h : ∀ T', Keep T T' [] → K (.bool (decide (c ∈ cmdsL))) T') : CallK PG 50 [.str c] T K := by
  refine CallK.of_fn FOk.nil rc_bknown_ok (by simp [rc_bknown]) ?_
  unfold rc_bknown
  dsimp only
  simp -implicitDefEqProofs -dsimp only [vcS, ↓vcP1, ↓vcP2, ↓reduceIte, reduceCtorEq, Nat.reduceLT, Nat.reduceLeDiff, Nat.reduceEqDiff, Nat.reduceAdd, Nat.reduceSub, Nat.reduceMul, Int.reduceLT, Int.reduceLE, Int.reduceEq, Int.reduceToNat, Int.reduceAdd, Int.reduceSub, Int.reduceNeg, List.reduceReplicate, Nat.reducePow, Int.reduceMul]
  refine bcmds_K fun T' q hq g k => ?_
  simp -implicitDefEqProofs -dsimp only [tb_at, vcS, ↓vcP1, ↓vcP2, ↓reduceIte, reduceCtorEq, Nat.reduceLT, Nat.reduceLeDiff, Nat.reduceEqDiff, Nat.reduceAdd, Nat.reduceSub, Nat.reduceMul, Int.reduceLT, Int.reduceLE, Int.reduceEq, Int.reduceToNat, Int.reduceAdd, Int.reduceSub, Int.reduceNeg, List.reduceReplicate, Nat.reducePow, Int.reduceMul]
  refine bsearch_K g fun i => ?_
  simp -implicitDefEqProofs -dsimp only [tb_at, vcS, ↓vcP1, ↓vcP2, ↓reduceIte, reduceCtorEq, Nat.reduceLT, Nat.reduceLeDiff, Nat.reduceEqDiff, Nat.reduceAdd, Nat.reduceSub, Nat.reduceMul, Int.reduceLT, Int.reduceLE, Int.reduceEq, Int.reduceToNat, Int.reduceAdd, Int.reduceSub, Int.reduceNeg, List.reduceReplicate, Nat.reducePow, Int.reduceMul]
  exact ⟨k.1, h T' k⟩
theorem bequal_P {a b : List Int} {s1 s2 : Nat} {k1 k2 : SK} (ha : ∀ n ∈ a, 0 ≤ n ∧ n ≤ 255) (hb : ∀ n ∈ b, 0 ≤ n ∧ n ≤ 255) (h1 : s1 = 1 ∨ intRows .u8 a = []) (h2 : s2 = 1 ∨ intRows .u8 b = []) : PCalls PG 58 [.sl s1 (intRows .u8 a) k1, .sl s2 (intRows .u8 b) k2] fun n r os => r = .bool (decide (a = b)) ∧ os = [] := by
  refine PCalls.by_fn (res := fun n => (.bool (decide (a = b)), [])) FOk.nil rc_bequal_ok (by simp [rc_bequal]) fun n => ?_
  unfold rc_bequal
  dsimp only
  simp -implicitDefEqProofs -dsimp only [vcS, ↓vcP1, ↓vcP2, ↓reduceIte, reduceCtorEq, Nat.reduceLT, Nat.reduceLeDiff, Nat.reduceEqDiff, Nat.reduceAdd, Nat.reduceSub, Nat.reduceMul, Int.reduceLT, Int.reduceLE, Int.reduceEq, Int.reduceToNat, Int.reduceAdd, Int.reduceSub, Int.reduceNeg, List.reduceReplicate, Nat.reducePow, Int.reduceMul]
  refine ⟨h1, h2, ?_⟩
  have := toB_inj ha hb
  by_cases e : a = b
  · subst e; simp
  · rw [decide_eq_false e]
    simpa [toB] using mt this.1 e
theorem bhasp_K {T : Objs} {a b : List Int} {s1 s2 : Nat} {k1 k2 : SK} {K : DV → Objs → Prop} (ha : ∀ n ∈ a, 0 ≤ n ∧ n ≤ 255) (hb : ∀ n ∈ b, 0 ≤ n ∧ n ≤ 255) (h1 : s1 = 1 ∨ intRows .u8 a = []) (h2 : s2 = 1 ∨ intRows .u8 b = []) (h : K (.bool (stB a b)) T) : CallK PG 49 [.sl s1 (intRows .u8 a) k1, .sl s2 (intRows .u8 b) k2] T K := by
  refine CallK.of_fn FOk.nil rc_bhasp_ok (by simp [rc_bhasp]) ?_
  unfold rc_bhasp
  dsimp only
  simp -implicitDefEqProofs -dsimp only [vcS, ↓vcP1, ↓vcP2, ↓reduceIte, reduceCtorEq, Nat.reduceLT, Nat.reduceLeDiff, Nat.reduceEqDiff, Nat.reduceAdd, Nat.reduceSub, Nat.reduceMul, Int.reduceLT, Int.reduceLE, Int.reduceEq, Int.reduceToNat, Int.reduceAdd, Int.reduceSub, Int.reduceNeg, List.reduceReplicate, Nat.reducePow, Int.reduceMul]
  refine ⟨fun hl => ?_, fun hl => ?_⟩
  · have hl' : b.length ≤ a.length := by omega
    refine ⟨by omega, ⟨by omega, hl', h1⟩, ?_⟩
    have ht : (intRows .u8 a).take b.length = intRows .u8 (a.take b.length) := by simp [intRows]
    simp -implicitDefEqProofs -dsimp only [ht, List.drop_zero, Nat.sub_zero, vcS, ↓vcP1, ↓vcP2, ↓reduceIte, reduceCtorEq, Nat.reduceLT, Nat.reduceLeDiff, Nat.reduceEqDiff, Nat.reduceAdd, Nat.reduceSub, Nat.reduceMul, Int.reduceLT, Int.reduceLE, Int.reduceEq, Int.reduceToNat, Int.reduceAdd, Int.reduceSub, Int.reduceNeg, List.reduceReplicate, Nat.reducePow, Int.reduceMul]
    refine CallK.pure (bequal_P (fun n hn => ha n (List.mem_of_mem_take hn)) hb (h1.imp id fun e => by rw [← ht, e, List.take_nil]) h2) fun r os ⟨e1, e2⟩ => ?_
    subst e1; subst e2
    simp -implicitDefEqProofs -dsimp only [tb_at, vcS, ↓vcP1, ↓vcP2, ↓reduceIte, reduceCtorEq, Nat.reduceLT, Nat.reduceLeDiff, Nat.reduceEqDiff, Nat.reduceAdd, Nat.reduceSub, Nat.reduceMul, Int.reduceLT, Int.reduceLE, Int.reduceEq, Int.reduceToNat, Int.reduceAdd, Int.reduceSub, Int.reduceNeg, List.reduceReplicate, Nat.reducePow, Int.reduceMul]
    exact h
  · rw [show stB a b = false by simpa using mt stB_len (by omega)] at h
    exact h
def rightB (b : Bd) : Bool := decide (1 ≤ b.seq.length) && decide (b.seq.length ≤ 8) && !stB b.seq [27, 91, 50, 48] && decide (b.cmd ∈ cmdsL)
theorem bright_K {T : Objs} {b : Bd} {s1 : Nat} {k1 : SK} {K : DV → Objs → Prop} (hb : ∀ n ∈ b.seq, 0 ≤ n ∧ n ≤ 255) (h1 : s1 = 1 ∨ intRows .u8 b.seq = []) (hl : b.seq.length < 2 ^ 62) (h : ∀ T', Keep T T' [] → K (.bool (rightB b)) T') : CallK PG 39 [.agg [.sl s1 (intRows .u8 b.seq) k1, .str b.cmd]] T K := by
  refine CallK.of_fn FOk.nil rc_bright_ok (by simp [rc_bright]) ?_
  unfold rc_bright
  dsimp only
  have hg : (T ++ [some (.box [.sl s1 (intRows .u8 b.seq) k1, .str b.cmd])])[T.length]? = some (some (.box [.sl s1 (intRows .u8 b.seq) k1, .str b.cmd])) := tb_get0 _ _ _
  by_cases c1 : 1 ≤ b.seq.length
  · by_cases c2 : b.seq.length ≤ 8
    · have c1' : (1 : Int) ≤ b.seq.length := by omega
      have c2' : (b.seq.length : Int) ≤ 8 := by omega
      have hi : IntKind.i64.wrap (b.seq.length : Int) = b.seq.length := wI64 (by omega) (by omega)
      simp -implicitDefEqProofs -dsimp only [tb_all hg, c1', c2', tb_at, vcS, ↓vcP1, ↓vcP2, ↓reduceIte, reduceCtorEq, Nat.reduceLT, Nat.reduceLeDiff, Nat.reduceEqDiff, Nat.reduceAdd, Nat.reduceSub, Nat.reduceMul, Int.reduceLT, Int.reduceLE, Int.reduceEq, Int.reduceToNat, Int.reduceAdd, Int.reduceSub, Int.reduceNeg, List.reduceReplicate, Nat.reducePow, Int.reduceMul]
      refine bhasp_K hb (by simp) h1 (.inl rfl) ?_
      have hg2 : (T ++ [some (Ob.box [.sl s1 (intRows .u8 b.seq) k1, .str b.cmd]), none])[T.length]? = some (some (Ob.box [.sl s1 (intRows .u8 b.seq) k1, .str b.cmd])) := tb_get0 _ _ _
      cases hs : stB b.seq [27, 91, 50, 48]
      · simp -implicitDefEqProofs -dsimp only [tb_all hg2, Bool.not_false, tb_at, vcS, ↓vcP1, ↓vcP2, ↓reduceIte, reduceCtorEq, Nat.reduceLT, Nat.reduceLeDiff, Nat.reduceEqDiff, Nat.reduceAdd, Nat.reduceSub, Nat.reduceMul, Int.reduceLT, Int.reduceLE, Int.reduceEq, Int.reduceToNat, Int.reduceAdd, Int.reduceSub, Int.reduceNeg, List.reduceReplicate, Nat.reducePow, Int.reduceMul]
        refine bknown_K fun T' k => ?_
        have K1 := (Keep.app T _ []).new k (by simp)
        simp -implicitDefEqProofs -dsimp only [tb_at, vcS, ↓vcP1, ↓vcP2, ↓reduceIte, reduceCtorEq, Nat.reduceLT, Nat.reduceLeDiff, Nat.reduceEqDiff, Nat.reduceAdd, Nat.reduceSub, Nat.reduceMul, Int.reduceLT, Int.reduceLE, Int.reduceEq, Int.reduceToNat, Int.reduceAdd, Int.reduceSub, Int.reduceNeg, List.reduceReplicate, Nat.reducePow, Int.reduceMul]
        refine ⟨K1.1, ?_⟩
        have := h _ K1
        rwa [show rightB b = decide (b.cmd ∈ cmdsL) by simp [rightB, c1, c2, hs]] at this
      · simp -implicitDefEqProofs -dsimp only [tb_all hg2, Bool.not_true, tb_at, vcS, ↓vcP1, ↓vcP2, ↓reduceIte, reduceCtorEq, Nat.reduceLT, Nat.reduceLeDiff, Nat.reduceEqDiff, Nat.reduceAdd, Nat.reduceSub, Nat.reduceMul, Int.reduceLT, Int.reduceLE, Int.reduceEq, Int.reduceToNat, Int.reduceAdd, Int.reduceSub, Int.reduceNeg, List.reduceReplicate, Nat.reducePow, Int.reduceMul]
        rw [show rightB b = false by simp [rightB, c1, c2, hs]] at h
        exact h _ (Keep.app _ _ _)
    · have c1' : (1 : Int) ≤ b.seq.length := by omega
      have c2' : ¬ (b.seq.length : Int) ≤ 8 := by omega
      rw [show rightB b = false by simp [rightB, c2]] at h
      simp -implicitDefEqProofs -dsimp only [tb_all hg, c1', c2', tb_at, vcS, ↓vcP1, ↓vcP2, ↓reduceIte, reduceCtorEq, Nat.reduceLT, Nat.reduceLeDiff, Nat.reduceEqDiff, Nat.reduceAdd, Nat.reduceSub, Nat.reduceMul, Int.reduceLT, Int.reduceLE, Int.reduceEq, Int.reduceToNat, Int.reduceAdd, Int.reduceSub, Int.reduceNeg, List.reduceReplicate, Nat.reducePow, Int.reduceMul]
      exact h _ (Keep.app _ _ _)
  · have c1' : ¬ (1 : Int) ≤ b.seq.length := by omega
    rw [show rightB b = false by simp [rightB, c1]] at h
    simp -implicitDefEqProofs -dsimp only [tb_all hg, c1', tb_at, vcS, ↓vcP1, ↓vcP2, ↓reduceIte, reduceCtorEq, Nat.reduceLT, Nat.reduceLeDiff, Nat.reduceEqDiff, Nat.reduceAdd, Nat.reduceSub, Nat.reduceMul, Int.reduceLT, Int.reduceLE, Int.reduceEq, Int.reduceToNat, Int.reduceAdd, Int.reduceSub, Int.reduceNeg, List.reduceReplicate, Nat.reducePow, Int.reduceMul]
    exact h _ (Keep.app _ _ _)
end Go.Proofs.YtdimdjcnkmkbjaaDoor
