/- sched: Merge: the plain law. -/
import Derived.Test.YtaopaongpoecoaaS16
import Derived.Test.YtaopaongpoecoaaM3
set_option linter.unusedVariables false
set_option linter.unusedSimpArgs false
set_option maxRecDepth 10000
namespace Go.Proofs.Ytaopaongpoecoaa
open Go.RowKit
/-- An event. -/
structure Ev where
  tick : Int
  kind : Int
  data : List Int
  rows : Int
  cols : Int
  deriving Inhabited, DecidableEq
def evRow (e : Ev) : List DV := [.int .i64 e.tick, .int .i64 e.kind, .sl 1 (intRows .u8 e.data) .any, .int .i64 e.rows, .int .i64 e.cols]
def evRows (L : List Ev) : List (List DV) := L.map evRow
theorem evRows_len (L : List Ev) : (evRows L).length = L.length := by simp [evRows]
theorem evRows_get {L : List Ev} {i : Nat} (h : i < L.length) : (evRows L)[i]? = some [.int .i64 (L.getD i default).tick, .int .i64 (L.getD i default).kind, .sl 1 (intRows .u8 (L.getD i default).data) .any, .int .i64 (L.getD i default).rows, .int .i64 (L.getD i default).cols] := by
  simp [evRows, evRow, h]
theorem evRows_app (A B : List Ev) : evRows A ++ evRows B = evRows (A ++ B) := by simp [evRows]
def evLists (LL : List (List Ev)) : List (List DV) := LL.map fun L => [.sl 5 (evRows L) .any]
theorem evLists_len (LL : List (List Ev)) : (evLists LL).length = LL.length := by simp [evLists]
theorem evLists_get {LL : List (List Ev)} {i : Nat} (h : i < LL.length) : (evLists LL)[i]? = some [.sl 5 (evRows (LL.getD i [])) .any] := by simp [evLists, h]
def natRows (l : List Nat) : List (List DV) := l.map fun n : Nat => [DV.int .i64 (n : Int)]
theorem natRows_len (l : List Nat) : (natRows l).length = l.length := by simp [natRows]
theorem natRows_get {l : List Nat} {i : Nat} (h : i < l.length) : (natRows l)[i]? = some [.int .i64 (l.getD i 0)] := by simp [natRows, h]
theorem natRows_set (l : List Nat) (i n : Nat) : (natRows l).set i [.int .i64 n] = natRows (l.set i n) := by simp [natRows, List.map_set]
theorem natRows_rep (n : Nat) : List.replicate n [DV.int .i64 0] = natRows (List.replicate n 0) := by simp [natRows]
section
variable (LL : List (List Ev))
/-- Is a list's next event there? Its tick. -/
def hasE (at' : List Nat) (i : Nat) : Bool := decide (at'.getD i 0 < (LL.getD i []).length)
def headE (at' : List Nat) (i : Nat) : Ev := (LL.getD i []).getD (at'.getD i 0) default
/-- Which of the first lists has the first one. -/
def bestF (at' : List Nat) : Nat → Option Nat
  | 0 => none
  | i + 1 => match bestF at' i with
    | none => if hasE LL at' i = true then some i else none
    | some b => if hasE LL at' i = true ∧ (headE LL at' i).tick < (headE LL at' b).tick then some i else some b
def mrgF : Nat → List Nat → List Ev
  | 0, _ => []
  | n + 1, at' => match bestF LL at' LL.length with
    | none => []
    | some b => headE LL at' b :: mrgF n (at'.set b (at'.getD b 0 + 1))
end
theorem best_none {LL : List (List Ev)} {at' : List Nat} : ∀ {i : Nat}, bestF LL at' i = none → ∀ j < i, hasE LL at' j = false
  | 0, _, j, hj => by omega
  | i + 1, h, j, hj => by
    simp only [bestF] at h
    split at h
    · rename_i hn
      split at h
      · cases h
      · rename_i hi
        rcases Nat.lt_or_ge j i with h1 | h1
        · exact best_none hn j h1
        · obtain rfl : j = i := by omega
          simpa using hi
    · split at h <;> cases h
theorem best_some {LL : List (List Ev)} {at' : List Nat} : ∀ {i b : Nat}, bestF LL at' i = some b → b < i ∧ hasE LL at' b = true ∧ ∀ j < i, hasE LL at' j = true → (headE LL at' b).tick ≤ (headE LL at' j).tick
  | 0, b, h => by cases h
  | i + 1, b, h => by
    simp only [bestF] at h
    split at h
    · rename_i hn
      split at h
      · rename_i hi
        obtain rfl := Option.some.inj h
        refine ⟨by omega, hi, fun j hj hh => ?_⟩
        rcases Nat.lt_or_ge j i with h1 | h1
        · rw [best_none hn j h1] at hh; cases hh
        · obtain rfl : j = i := by omega
          omega
      · cases h
    · rename_i b0 hb
      obtain ⟨h1, h2, h3⟩ := best_some hb
      split at h
      · rename_i hi
        obtain rfl := Option.some.inj h
        refine ⟨by omega, hi.1, fun j hj hh => ?_⟩
        rcases Nat.lt_or_ge j i with h4 | h4
        · have := h3 j h4 hh; omega
        · obtain rfl : j = i := by omega
          omega
      · rename_i hi
        obtain rfl := Option.some.inj h
        refine ⟨by omega, h2, fun j hj hh => ?_⟩
        rcases Nat.lt_or_ge j i with h4 | h4
        · exact h3 j h4 hh
        · obtain rfl : j = i := by omega
          simp only [hh, true_and] at hi
          omega
section
variable (LL : List (List Ev))
/-- How far each list may be read. -/
def OkAt (at' : List Nat) : Prop := at'.length = LL.length ∧ ∀ i, at'.getD i 0 ≤ (LL.getD i []).length
def total : Nat := (LL.map List.length).sum
theorem getDset {l : List Nat} {i j n : Nat} (h : i < l.length) : (l.set i n).getD j 0 = if j = i then n else l.getD j 0 := by
  simp only [List.getD_eq_getElem?_getD, List.getElem?_set]
  by_cases e : i = j
  · subst e; simp [h]
  · rw [if_neg e, if_neg (fun h => e h.symm)]
theorem okAt_step {at' : List Nat} {b : Nat} (h : OkAt LL at') (hb : b < LL.length) (hh : hasE LL at' b = true) : OkAt LL (at'.set b (at'.getD b 0 + 1)) := by
  refine ⟨by simpa using h.1, fun i => ?_⟩
  rw [getDset (by rw [h.1]; exact hb)]
  split
  · rename_i e; subst e; simp only [hasE, decide_eq_true_eq] at hh; omega
  · exact h.2 i
theorem sum_set : ∀ (l : List Nat) (i : Nat), i < l.length → (l.set i (l.getD i 0 + 1)).sum = l.sum + 1
  | [], i, h => by simp at h
  | a :: l, 0, _ => by simp; omega
  | a :: l, i + 1, h => by
    have := sum_set l i (by simpa using h)
    simp only [List.set_cons_succ, List.sum_cons, List.getD_cons_succ]
    omega
theorem sum_le : ∀ {LL : List (List Ev)} {at' : List Nat}, OkAt LL at' → at'.sum ≤ total LL
  | [], [], _ => by simp [total]
  | [], _ :: _, h => by have := h.1; simp at this
  | _ :: _, [], h => by have := h.1; simp at this
  | L :: LL, a :: l, h => by
    have h1 := h.2 0
    have : OkAt LL l := ⟨by simpa using h.1, fun i => by simpa using h.2 (i + 1)⟩
    have h2 := sum_le this
    simp at h1
    simp only [total, List.map_cons, List.sum_cons] at h2 ⊢
    omega
theorem sum_eq : ∀ {LL : List (List Ev)} {at' : List Nat}, OkAt LL at' → (∀ j < LL.length, hasE LL at' j = false) → at'.sum = total LL
  | [], [], _, _ => by simp [total]
  | [], _ :: _, h, _ => by have := h.1; simp at this
  | _ :: _, [], h, _ => by have := h.1; simp at this
  | L :: LL, a :: l, h, hn => by
    have h1 := h.2 0
    have h3 := hn 0 (by simp)
    have : OkAt LL l := ⟨by simpa using h.1, fun i => by simpa using h.2 (i + 1)⟩
    have h2 := sum_eq this fun j hj => by have := hn (j + 1) (by simpa using hj); simpa [hasE] using this
    simp [hasE] at h1 h3
    simp only [total, List.map_cons, List.sum_cons] at h2 ⊢
    omega
theorem mrgF_len : ∀ (n : Nat) {at' : List Nat}, OkAt LL at' → at'.sum + n = total LL → (mrgF LL n at').length = n
  | 0, _, _, _ => rfl
  | n + 1, at', h, hs => by
    simp only [mrgF]
    split
    · rename_i hb
      have := sum_eq h fun j hj => best_none hb j hj
      omega
    · rename_i b hb
      obtain ⟨h1, h2, _⟩ := best_some hb
      simp only [List.length_cons]
      rw [mrgF_len n (okAt_step LL h h1 h2) (by rw [sum_set _ _ (by rw [h.1]; exact h1)]; omega)]
theorem headE_set_ne {at' : List Nat} {b i n : Nat} (h : b < at'.length) (hne : i ≠ b) : headE LL (at'.set b n) i = headE LL at' i := by
  simp only [headE]; rw [getDset h, if_neg hne]
theorem mrgF_sorted (hS : ∀ i, (LL.getD i []).Pairwise fun a b => a.tick ≤ b.tick) : ∀ (n : Nat) {at' : List Nat}, OkAt LL at' →
    (mrgF LL n at').Pairwise (fun a b => a.tick ≤ b.tick) ∧ ∀ t, (∀ i < LL.length, hasE LL at' i = true → t ≤ (headE LL at' i).tick) → ∀ e ∈ mrgF LL n at', t ≤ e.tick
  | 0, _, _ => ⟨.nil, fun t _ e he => by cases he⟩
  | n + 1, at', h => by
    simp only [mrgF]
    split
    · exact ⟨.nil, fun t _ e he => by cases he⟩
    · rename_i b hb
      obtain ⟨h1, h2, h3⟩ := best_some hb
      have hok := okAt_step LL h h1 h2
      obtain ⟨i1, i2⟩ := mrgF_sorted hS n hok
      have hlb : b < at'.length := by rw [h.1]; exact h1
      have hnext : ∀ i < LL.length, hasE LL (at'.set b (at'.getD b 0 + 1)) i = true → (headE LL at' b).tick ≤ (headE LL (at'.set b (at'.getD b 0 + 1)) i).tick := by
        intro i hi hh
        by_cases e : i = b
        · subst e
          simp only [hasE, decide_eq_true_eq] at hh h2
          rw [getDset hlb, if_pos rfl] at hh
          simp only [headE]
          rw [getDset hlb, if_pos rfl]
          have := List.pairwise_iff_getElem.1 (hS i) _ _ h2 hh (by omega)
          rw [List.getD_eq_getElem?_getD, List.getD_eq_getElem?_getD (i := at'.getD i 0 + 1), List.getElem?_eq_getElem h2, List.getElem?_eq_getElem hh]
          exact this
        · rw [headE_set_ne LL hlb e]
          refine h3 i hi ?_
          simp only [hasE] at hh ⊢
          rwa [getDset hlb, if_neg e] at hh
      have hrest := i2 _ hnext
      refine ⟨List.pairwise_cons.2 ⟨hrest, i1⟩, fun t ht e he => ?_⟩
      rcases List.mem_cons.1 he with rfl | he
      · exact ht b h1 h2
      · have := hrest e he
        have := ht b h1 h2
        omega
/-- All events, merged. -/
def mergeF : List Ev := mrgF LL (total LL) (List.replicate LL.length 0)
theorem okAt_0 : OkAt LL (List.replicate LL.length 0) := ⟨by simp, fun i => by
  rw [List.getD_eq_getElem?_getD, List.getElem?_replicate]; split <;> simp⟩
theorem mergeF_len : (mergeF LL).length = total LL := mrgF_len LL _ (okAt_0 LL) (by simp)
theorem mergeF_sorted (hS : ∀ i, (LL.getD i []).Pairwise fun a b => a.tick ≤ b.tick) : (mergeF LL).Pairwise fun a b => a.tick ≤ b.tick := (mrgF_sorted LL hS _ (okAt_0 LL)).1
end
end Go.Proofs.Ytaopaongpoecoaa
