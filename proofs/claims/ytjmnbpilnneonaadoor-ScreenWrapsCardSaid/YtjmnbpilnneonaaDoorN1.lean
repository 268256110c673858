/- Texts C1, C2, C3, C4, G1, G2 in one. -/
import Derived.Test.YtjmnbpilnneonaaDoorM3
import Derived.Test.YtjmnbpilnneonaaDoorM4
set_option linter.unusedVariables false
set_option linter.unusedSimpArgs false
set_option maxRecDepth 10000
namespace Go.Proofs.YtjmnbpilnneonaaDoor
open Go.RowKit
structure Ce where
  r : Int
  a : Int
  h : Int
  deriving DecidableEq, Inhabited
def blkC : Ce := ⟨32, 0, 0⟩
def Ce.row (c : Ce) : List DV := [.int .i32 c.r, .int .u16 c.a, .int .u8 c.h]
def ceRows (L : List Ce) : List (List DV) := L.map Ce.row
theorem ceRows_len (L : List Ce) : (ceRows L).length = L.length := by simp [ceRows]
theorem ceRows_get {L : List Ce} {i : Nat} (h : i < L.length) : (ceRows L)[i]? = some [.int .i32 (L.getD i blkC).r, .int .u16 (L.getD i blkC).a, .int .u8 (L.getD i blkC).h] := by simp [ceRows, Ce.row, h]
theorem ceRows_app (A B : List Ce) : ceRows A ++ ceRows B = ceRows (A ++ B) := by simp [ceRows]
theorem ceRows_take (L : List Ce) (n : Nat) : (ceRows L).take n = ceRows (L.take n) := by simp [ceRows]
theorem ceRows_drop (L : List Ce) (n : Nat) : (ceRows L).drop n = ceRows (L.drop n) := by simp [ceRows]
theorem ceRows_set (L : List Ce) (i : Nat) (c : Ce) : (ceRows L).set i [.int .i32 c.r, .int .u16 c.a, .int .u8 c.h] = ceRows (L.set i c) := by simp [ceRows, Ce.row, List.map_set]
theorem ceRows_rep (n : Nat) (c : Ce) : List.replicate n [.int .i32 c.r, .int .u16 c.a, .int .u8 c.h] = ceRows (List.replicate n c) := by simp [ceRows, Ce.row]
theorem ceRows_nil : ceRows [] = [] := rfl
theorem ceRows_cl (L : List Ce) : ClRows (ceRows L) := fun row hr c hc => by
  simp only [ceRows, List.mem_map] at hr
  obtain ⟨e, _, rfl⟩ := hr
  simp [Ce.row] at hc
  rcases hc with rfl | rfl | rfl <;> exact .int _ _
theorem ext_getD {A B : List Ce} (hl : A.length = B.length) (h : ∀ i, i < A.length → A.getD i blkC = B.getD i blkC) : A = B := by
  refine List.ext_getElem hl fun i h1 h2 => ?_
  have := h i h1
  simpa [List.getD_eq_getElem?_getD, h1, h2] using this
theorem getD_take {L : List Ce} {n i : Nat} : (L.take n).getD i blkC = if i < n then L.getD i blkC else blkC := by
  simp only [List.getD_eq_getElem?_getD, List.getElem?_take]
  split <;> rfl
theorem getD_drop {L : List Ce} {n i : Nat} : (L.drop n).getD i blkC = L.getD (n + i) blkC := by
  simp only [List.getD_eq_getElem?_getD, List.getElem?_drop]
theorem getD_app {A B : List Ce} {i : Nat} : (A ++ B).getD i blkC = if i < A.length then A.getD i blkC else B.getD (i - A.length) blkC := by
  simp only [List.getD_eq_getElem?_getD]
  split
  · rw [List.getElem?_append_left (by assumption)]
  · rw [List.getElem?_append_right (by omega)]
theorem getD_rep {n i : Nat} : (List.replicate n blkC).getD i blkC = blkC := by
  simp only [List.getD_eq_getElem?_getD, List.getElem?_replicate]
  split <;> rfl
theorem getD_setC {L : List Ce} {i j : Nat} {c : Ce} (h : i < L.length) : (L.set i c).getD j blkC = if j = i then c else L.getD j blkC := by
  simp only [List.getD_eq_getElem?_getD, List.getElem?_set]
  by_cases e : i = j
  · subst e; simp [h]
  · rw [if_neg e, if_neg (fun h => e h.symm)]
def midF (L : List Ce) (a b : Nat) (M : List Ce) : List Ce := L.take a ++ M ++ L.drop b
theorem midF_len {L : List Ce} {a b : Nat} {M : List Ce} (hab : a ≤ b) (hb : b ≤ L.length) (hM : M.length = b - a) : (midF L a b M).length = L.length := by simp [midF]; omega
theorem midF_getD {L : List Ce} {a b i : Nat} {M : List Ce} (hab : a ≤ b) (hb : b ≤ L.length) (hM : M.length = b - a) :
    (midF L a b M).getD i blkC = if i < a then L.getD i blkC else if i < b then M.getD (i - a) blkC else L.getD i blkC := by
  unfold midF
  rw [getD_app, getD_app, getD_take, getD_drop]
  simp only [List.length_append, List.length_take, Nat.min_eq_left (show a ≤ L.length by omega), hM]
  by_cases h1 : i < a
  · rw [if_pos (by omega), if_pos h1, if_pos h1, if_pos h1]
  · by_cases h2 : i < b
    · rw [if_pos (by omega), if_neg h1, if_neg h1, if_pos h2]
    · rw [if_neg (by omega), if_neg h1, if_neg h2]
      congr 1; omega
def shUp (k : Nat) (M : List Ce) : List Ce := M.drop k ++ List.replicate (min k M.length) blkC
def shDn (k : Nat) (M : List Ce) : List Ce := List.replicate (min k M.length) blkC ++ M.take (M.length - k)
theorem shUp_len (k : Nat) (M : List Ce) : (shUp k M).length = M.length := by simp [shUp]; omega
theorem shDn_len (k : Nat) (M : List Ce) : (shDn k M).length = M.length := by simp [shDn]; omega
theorem shUp_getD {k i : Nat} {M : List Ce} (hi : i < M.length) : (shUp k M).getD i blkC = if i + k < M.length then M.getD (i + k) blkC else blkC := by
  unfold shUp
  rw [getD_app, getD_drop, getD_rep, List.length_drop]
  by_cases h : i + k < M.length
  · rw [if_pos (by omega), if_pos h, Nat.add_comm]
  · rw [if_neg (by omega), if_neg h]
theorem shDn_getD {k i : Nat} {M : List Ce} (hi : i < M.length) : (shDn k M).getD i blkC = if k ≤ i then M.getD (i - k) blkC else blkC := by
  unfold shDn
  rw [getD_app, getD_take, getD_rep, List.length_replicate]
  by_cases h : k ≤ i
  · rw [if_neg (by omega), if_pos h, if_pos (by omega)]
    congr 1; omega
  · rw [if_pos (by omega), if_neg h]
def hAt (L : List Ce) (i : Nat) : Int := (L.getD i blkC).h
def wholeC (L : List Ce) (i : Nat) : Ce := if (hAt L i = 1 ∧ (i + 1 = L.length ∨ hAt L (i + 1) ≠ 2)) ∨ (hAt L i = 2 ∧ (i = 0 ∨ hAt L (i - 1) ≠ 1)) then blkC else L.getD i blkC
def wholG (L : List Ce) : List Ce := (List.range L.length).map (wholeC L)
theorem wholG_len (L : List Ce) : (wholG L).length = L.length := by simp [wholG]
theorem wholG_getD {L : List Ce} {i : Nat} (h : i < L.length) : (wholG L).getD i blkC = wholeC L i := by simp [wholG, List.getD_eq_getElem?_getD, h]
def wholeTo (L : List Ce) (i : Nat) : List Ce := (wholG L).take i ++ L.drop i
theorem wholeTo_len {L : List Ce} {i : Nat} : (wholeTo L i).length = L.length := by simp [wholeTo, wholG_len]; omega
theorem wholeTo_0 (L : List Ce) : wholeTo L 0 = L := by simp [wholeTo]
theorem wholeTo_all (L : List Ce) : wholeTo L L.length = wholG L := by
  simp only [wholeTo, List.drop_length, List.append_nil]
  exact List.take_of_length_le (by rw [wholG_len]; exact Nat.le_refl _)
theorem wholeTo_getD {L : List Ce} {i j : Nat} (hj : j < L.length) : (wholeTo L i).getD j blkC = if j < i then wholeC L j else L.getD j blkC := by
  unfold wholeTo
  rw [getD_app, getD_take, getD_drop, List.length_take, wholG_len]
  by_cases h : j < i
  · rw [if_pos (by omega), if_pos h, if_pos h, wholG_getD hj]
  · by_cases h2 : i ≤ L.length
    · rw [if_neg (by omega), if_neg h]
      congr 1; omega
    · omega
theorem whole_left {L : List Ce} {i : Nat} (hi : i + 1 < L.length) (h2 : hAt L (i + 1) = 2) : ((wholeC L i).h = 1 ↔ hAt L i = 1) := by
  unfold wholeC
  constructor
  · intro h
    split at h
    · simp [blkC] at h
    · exact h
  · intro h
    rw [if_neg]
    · exact h
    · intro hc
      rcases hc with ⟨_, h3 | h3⟩ | ⟨h3, _⟩
      · omega
      · exact h3 h2
      · omega
structure GrOk (L : List Ce) (rows cols : Nat) : Prop where
  r : 1 ≤ rows ∧ rows ≤ 1000
  c : 1 ≤ cols ∧ cols ≤ 1000
  len : L.length = rows * cols
def nearN (n : Int) : Nat := min n.toNat 1000
def upF (L : List Ce) (cols top bot : Nat) (n : Int) : List Ce := midF L (top * cols) ((bot + 1) * cols) (shUp (nearN n * cols) ((L.drop (top * cols)).take ((bot + 1) * cols - top * cols)))
def dnF (L : List Ce) (cols top bot : Nat) (n : Int) : List Ce := midF L (top * cols) ((bot + 1) * cols) (shDn (nearN n * cols) ((L.drop (top * cols)).take ((bot + 1) * cols - top * cols)))
def rowF (L : List Ce) (cols y : Nat) : List Ce := (L.drop (y * cols)).take cols
def putF (L : List Ce) (cols y : Nat) (R : List Ce) : List Ce := midF L (y * cols) ((y + 1) * cols) R
def mendF (L : List Ce) (cols y : Nat) : List Ce := putF L cols y (wholG (rowF L cols y))
def insF (L : List Ce) (cols y x : Nat) (n : Int) : List Ce := putF L cols y (wholG ((rowF L cols y).take x ++ shDn (nearN n) ((rowF L cols y).drop x)))
def delF (L : List Ce) (cols y x : Nat) (n : Int) : List Ce := putF L cols y (wholG ((rowF L cols y).take x ++ shUp (nearN n) ((rowF L cols y).drop x)))
def clampN (n : Int) (c : Nat) : Nat := min n.toNat c
def eraF (L : List Ce) (cols y : Nat) (a b : Int) : List Ce := putF L cols y (wholG (midF (rowF L cols y) (clampN a cols) (max (clampN a cols) (clampN b cols)) (List.replicate (max (clampN a cols) (clampN b cols) - clampN a cols) blkC)))
theorem row_in {rows cols y : Nat} (hy : y < rows) : (y + 1) * cols ≤ rows * cols := Nat.mul_le_mul_right _ hy
theorem row_succ (y cols : Nat) : (y + 1) * cols = y * cols + cols := by rw [Nat.add_mul]; omega
theorem rowF_len {L : List Ce} {rows cols y : Nat} (g : GrOk L rows cols) (hy : y < rows) : (rowF L cols y).length = cols := by
  have := row_in (cols := cols) hy
  have h1 := row_succ y cols
  simp [rowF, g.len]; omega
theorem putF_len {L R : List Ce} {rows cols y : Nat} (g : GrOk L rows cols) (hy : y < rows) (hR : R.length = cols) : (putF L cols y R).length = L.length := by
  have := row_in (cols := cols) hy
  have h1 := row_succ y cols
  exact midF_len (by omega) (by rw [g.len]; omega) (by omega)
theorem GrOk.of_len {L M : List Ce} {rows cols : Nat} (g : GrOk L rows cols) (h : M.length = L.length) : GrOk M rows cols := ⟨g.r, g.c, h.trans g.len⟩
theorem part_len {L : List Ce} {rows cols top bot : Nat} (g : GrOk L rows cols) (hb : bot < rows) (ht : top ≤ bot) : ((L.drop (top * cols)).take ((bot + 1) * cols - top * cols)).length = (bot + 1) * cols - top * cols := by
  have := row_in (cols := cols) hb
  have : top * cols ≤ (bot + 1) * cols := Nat.mul_le_mul_right _ (by omega)
  simp [g.len]; omega
theorem upF_len {L : List Ce} {rows cols top bot : Nat} {n : Int} (g : GrOk L rows cols) (hb : bot < rows) (ht : top ≤ bot) : (upF L cols top bot n).length = L.length := by
  have h1 := row_in (cols := cols) hb
  have h2 : top * cols ≤ (bot + 1) * cols := Nat.mul_le_mul_right _ (by omega)
  exact midF_len h2 (by rw [g.len]; exact h1) (by rw [shUp_len, part_len g hb ht])
theorem dnF_len {L : List Ce} {rows cols top bot : Nat} {n : Int} (g : GrOk L rows cols) (hb : bot < rows) (ht : top ≤ bot) : (dnF L cols top bot n).length = L.length := by
  have h1 := row_in (cols := cols) hb
  have h2 : top * cols ≤ (bot + 1) * cols := Nat.mul_le_mul_right _ (by omega)
  exact midF_len h2 (by rw [g.len]; exact h1) (by rw [shDn_len, part_len g hb ht])
structure Sc where
  rows : Nat
  cols : Nat
  cells : List Ce
  y : Nat
  x : Nat
  wrap : Bool
  attr : Int
  top : Nat
  bot : Nat
  tabs : List Bool
  sy : Nat
  sx : Nat
  sattr : Int
  auto : Bool
  shown : Bool
  alt : Bool
  other : List Ce
  oy : Nat
  ox : Nat
def mayR (r : Int) : Bool := decide (0 ≤ r ∧ r ≤ 1114111 ∧ (r < 55296 ∨ 57343 < r))
def inR (r a b : Int) : Bool := decide (a ≤ r ∧ r ≤ b)
def wides : List (Int × Int) := [(0x1100, 0x115f), (0x2e80, 0x303e), (0x3041, 0x33ff), (0x3400, 0x4dbf), (0x4e00, 0x9fff), (0xa000, 0xa4cf), (0xac00, 0xd7a3), (0xf900, 0xfaff), (0xfe30, 0xfe6f), (0xff00, 0xff60), (0xffe0, 0xffe6), (0x1f300, 0x1f64f), (0x1f900, 0x1f9ff), (0x20000, 0x2fffd), (0x30000, 0x3fffd)]
def widthF (r : Int) : Nat :=
  if mayR r = false ∨ r < 32 ∨ inR r 0x7f 0x9f = true ∨ inR r 0x300 0x36f = true ∨ inR r 0x200b 0x200f = true ∨ inR r 0xfe00 0xfe0f = true then 0
  else if wides.any (fun p => inR r p.1 p.2) = true then 2 else 1
def blankG (rows cols : Nat) : List Ce := List.replicate (rows * cols) blkC
def tabs0 (cols : Nat) : List Bool := (List.range cols).map fun x => decide (x % 8 = 0)
def newF (rows cols : Nat) : Sc := ⟨rows, cols, blankG rows cols, 0, 0, false, 0, 0, rows - 1, tabs0 cols, 0, 0, 0, true, true, false, [], 0, 0⟩
def nextF (s : Sc) : Sc :=
  if s.y = s.bot then { s with wrap := false, cells := upF s.cells s.cols s.top s.bot 1 }
  else if s.y + 1 < s.rows then { s with wrap := false, y := s.y + 1 } else { s with wrap := false }
def setF (s : Sc) (r : Int) (w : Nat) : List Ce :=
  if w = 2 then (s.cells.set (s.y * s.cols + s.x) ⟨r, s.attr, 1⟩).set (s.y * s.cols + s.x + 1) ⟨0, s.attr, 2⟩ else s.cells.set (s.y * s.cols + s.x) ⟨r, s.attr, 0⟩
def putR (s : Sc) (r : Int) (w : Nat) : Sc :=
  if s.x + w ≥ s.cols then { s with cells := mendF (setF s r w) s.cols s.y, x := s.cols - 1, wrap := s.auto }
  else { s with cells := mendF (setF s r w) s.cols s.y, x := s.x + w }
def wrapF (s : Sc) : Sc := if s.wrap = true then { nextF s with x := 0 } else s
def printF (s : Sc) (r : Int) : Sc :=
  if widthF r = 0 then s
  else if widthF r = 2 ∧ (wrapF s).x + 1 = s.cols then (if s.auto = false ∨ s.cols = 1 then wrapF s else putR { nextF (wrapF s) with x := 0 } r 2)
  else putR (wrapF s) r (widthF r)
def tabN (t : List Bool) (c : Nat) : Nat → Nat → Nat
  | 0, x => x
  | f + 1, x => if x + 1 < c ∧ t.getD x false = false then tabN t c f (x + 1) else x
def ctlF (s : Sc) (b : Int) : Sc :=
  if b = 8 then { s with x := s.x - 1, wrap := false }
  else if b = 9 then { s with x := min (tabN s.tabs s.cols s.cols (s.x + 1)) (s.cols - 1), wrap := false }
  else if b = 10 ∨ b = 11 ∨ b = 12 then nextF s
  else if b = 13 then { s with x := 0, wrap := false } else s
def escF (s : Sc) (b : Int) : Sc :=
  if b = 55 then { s with sy := s.y, sx := s.x, sattr := s.attr }
  else if b = 56 then { s with y := s.sy, x := s.sx, attr := s.sattr, wrap := false }
  else if b = 68 then nextF s
  else if b = 69 then { nextF s with x := 0 }
  else if b = 77 then (if s.y = s.top then { s with wrap := false, cells := dnF s.cells s.cols s.top s.bot 1 } else { s with wrap := false, y := s.y - 1 })
  else if b = 72 then { s with tabs := s.tabs.set s.x true }
  else if b = 99 then newF s.rows s.cols else s
def parN (ps : List Int) (i : Nat) : Int := ps.getD i 0
def toF (s : Sc) (y x : Int) : Sc := { s with y := min y.toNat (s.rows - 1), x := min x.toNat (s.cols - 1), wrap := false }
def fromF (s : Sc) (k : Int) : Int := if k = 0 then s.x else 0
def toK (s : Sc) (k : Int) : Int := if k = 1 then s.x + 1 else s.cols
def eraJ (s : Sc) (k : Int) : Nat → List Ce
  | 0 => s.cells
  | n + 1 => if n = s.y then eraF (eraJ s k n) s.cols n (fromF s k) (toK s k) else if k = 2 ∨ (k = 0 ∧ s.y < n) ∨ (k = 1 ∧ n < s.y) then eraF (eraJ s k n) s.cols n 0 s.cols else eraJ s k n
def eraseF (s : Sc) (row : Bool) (k : Int) : Sc :=
  if 0 ≤ k ∧ k ≤ 2 then { s with wrap := false, cells := if row = true then eraF s.cells s.cols s.y (fromF s k) (toK s k) else eraJ s k s.rows } else { s with wrap := false }
def bitN (a : Int) (b : Int) : Int := (a.toNat ||| b.toNat : Nat)
def clrN (a : Int) (m : Nat) : Int := ((a.toNat &&& (65535 ^^^ m)) : Nat)
def lookF (a k : Int) : Int :=
  if k = 0 then 0 else if k = 1 then bitN a 1 else if k = 4 then bitN a 2 else if k = 7 then bitN a 4
  else if k = 22 then clrN a 1 else if k = 24 then clrN a 2 else if k = 27 then clrN a 4
  else if 30 ≤ k ∧ k ≤ 37 then bitN (clrN a 0xf0) ((k - 29) * 16) else if k = 39 then clrN a 0xf0
  else if 40 ≤ k ∧ k ≤ 47 then bitN (clrN a 0xf00) ((k - 39) * 256) else if k = 49 then clrN a 0xf00 else a
def csiF (s : Sc) (b : Int) (ps : List Int) : Sc :=
  let n := max (parN ps 0) 1
  let m := max (parN ps 1) 1
  let k := parN ps 0
  if b = 65 then toF s (s.y - n) s.x
  else if b = 66 then toF s (s.y + n) s.x
  else if b = 67 then toF s s.y (s.x + n)
  else if b = 68 then toF s s.y (s.x - n)
  else if b = 71 ∨ b = 96 then toF s s.y (n - 1)
  else if b = 100 then toF s (n - 1) s.x
  else if b = 72 ∨ b = 102 then toF s (n - 1) (m - 1)
  else if b = 74 then eraseF s false k
  else if b = 75 then eraseF s true k
  else if b = 76 then (if s.top ≤ s.y ∧ s.y ≤ s.bot then { s with wrap := false, x := 0, cells := dnF s.cells s.cols s.y s.bot n } else { s with wrap := false })
  else if b = 77 then (if s.top ≤ s.y ∧ s.y ≤ s.bot then { s with wrap := false, x := 0, cells := upF s.cells s.cols s.y s.bot n } else { s with wrap := false })
  else if b = 83 then { s with wrap := false, cells := upF s.cells s.cols s.top s.bot n }
  else if b = 84 then { s with wrap := false, cells := dnF s.cells s.cols s.top s.bot n }
  else if b = 64 then { s with wrap := false, cells := insF s.cells s.cols s.y s.x n }
  else if b = 80 then { s with wrap := false, cells := delF s.cells s.cols s.y s.x n }
  else if b = 88 then { s with wrap := false, cells := eraF s.cells s.cols s.y s.x (s.x + n) }
  else if b = 114 then
    let bt := (if parN ps 1 = 0 ∨ (s.rows : Int) < parN ps 1 then (s.rows : Int) else parN ps 1) - 1
    if n - 1 < bt then { s with y := 0, x := 0, wrap := false, top := (n - 1).toNat, bot := bt.toNat } else s
  else if b = 103 then (if k = 3 then { s with tabs := List.replicate s.cols false } else if k = 0 then { s with tabs := s.tabs.set s.x false } else s)
  else if b = 109 then { s with attr := if ps = [] then 0 else ps.foldl lookF s.attr }
  else s
def modeF (on : Bool) (s : Sc) (k : Int) : Sc :=
  if k = 7 then { s with auto := on } else if k = 25 then { s with shown := on }
  else if k = 1049 ∧ on = true ∧ s.alt = false then { s with other := s.cells, oy := s.y, ox := s.x, alt := true, wrap := false, cells := blankG s.rows s.cols }
  else if k = 1049 ∧ on = false ∧ s.alt = true then { s with cells := s.other, y := s.oy, x := s.ox, alt := false, wrap := false, other := [], oy := 0, ox := 0 }
  else s
structure ScOk (s : Sc) : Prop where
  g : GrOk s.cells s.rows s.cols
  y : s.y < s.rows
  x : s.x < s.cols
  wr : s.wrap = true → s.x + 1 = s.cols
  tb : s.top ≤ s.bot
  b : s.bot < s.rows
  rg : s.top < s.bot ∨ s.rows = 1
  tabs : s.tabs.length = s.cols
  sy : s.sy < s.rows
  sx : s.sx < s.cols
  oy : s.oy < s.rows
  ox : s.ox < s.cols
  at' : 0 ≤ s.attr ∧ s.attr ≤ 65535
  sat : 0 ≤ s.sattr ∧ s.sattr ≤ 65535
  alt : s.alt = true → GrOk s.other s.rows s.cols
  non : s.alt = false → s.other = [] ∧ s.oy = 0 ∧ s.ox = 0
theorem blankG_ok {rows cols : Nat} (hr : 1 ≤ rows ∧ rows ≤ 1000) (hc : 1 ≤ cols ∧ cols ≤ 1000) : GrOk (blankG rows cols) rows cols := ⟨hr, hc, by simp [blankG]⟩
theorem tabs0_len (cols : Nat) : (tabs0 cols).length = cols := by simp [tabs0]
theorem newF_ok {rows cols : Nat} (hr : 1 ≤ rows ∧ rows ≤ 1000) (hc : 1 ≤ cols ∧ cols ≤ 1000) : ScOk (newF rows cols) := by
  have h1 := hr.1
  have h2 := hc.1
  refine ⟨blankG_ok hr hc, ?_, ?_, ?_, ?_, ?_, ?_, ?_, ?_, ?_, ?_, ?_, ?_, ?_, ?_, ?_⟩ <;> simp [newF, tabs0_len] <;> omega
theorem nextF_ok {s : Sc} (h : ScOk s) : ScOk (nextF s) ∧ (nextF s).rows = s.rows ∧ (nextF s).cols = s.cols ∧ (nextF s).x = s.x ∧ (nextF s).wrap = false ∧ (nextF s).auto = s.auto ∧ (nextF s).attr = s.attr := by
  unfold nextF
  split
  · exact ⟨⟨h.g.of_len (upF_len h.g h.b h.tb), h.y, h.x, by simp, h.tb, h.b, h.rg, h.tabs, h.sy, h.sx, h.oy, h.ox, h.at', h.sat, h.alt, h.non⟩, rfl, rfl, rfl, rfl, rfl, rfl⟩
  · split
    · rename_i hh
      exact ⟨⟨h.g, hh, h.x, by simp, h.tb, h.b, h.rg, h.tabs, h.sy, h.sx, h.oy, h.ox, h.at', h.sat, h.alt, h.non⟩, rfl, rfl, rfl, rfl, rfl, rfl⟩
    · exact ⟨⟨h.g, h.y, h.x, by simp, h.tb, h.b, h.rg, h.tabs, h.sy, h.sx, h.oy, h.ox, h.at', h.sat, h.alt, h.non⟩, rfl, rfl, rfl, rfl, rfl, rfl⟩
theorem ScOk.x0 {s : Sc} (h : ScOk s) (hw : s.wrap = false) : ScOk { s with x := 0 } :=
  ⟨h.g, h.y, by have := h.g.c; show 0 < s.cols; omega, by simp [hw], h.tb, h.b, h.rg, h.tabs, h.sy, h.sx, h.oy, h.ox, h.at', h.sat, h.alt, h.non⟩
theorem wrapF_ok {s : Sc} (h : ScOk s) : ScOk (wrapF s) ∧ (wrapF s).rows = s.rows ∧ (wrapF s).cols = s.cols ∧ (wrapF s).wrap = false ∧ (wrapF s).auto = s.auto ∧ (wrapF s).attr = s.attr := by
  have n := nextF_ok h
  unfold wrapF
  split
  · exact ⟨n.1.x0 n.2.2.2.2.1, n.2.1, n.2.2.1, n.2.2.2.2.1, n.2.2.2.2.2.1, n.2.2.2.2.2.2⟩
  · rename_i hw
    exact ⟨h, rfl, rfl, by simpa using hw, rfl, rfl⟩
theorem setF_len (s : Sc) (r : Int) (w : Nat) : (setF s r w).length = s.cells.length := by
  unfold setF
  split <;> simp
theorem mendF_len {L : List Ce} {rows cols y : Nat} (g : GrOk L rows cols) (hy : y < rows) : (mendF L cols y).length = L.length := putF_len g hy (by rw [wholG_len, rowF_len g hy])
theorem ScOk.cells {s : Sc} (h : ScOk s) {L : List Ce} (hL : L.length = s.cells.length) : ScOk { s with cells := L } :=
  ⟨h.g.of_len hL, h.y, h.x, h.wr, h.tb, h.b, h.rg, h.tabs, h.sy, h.sx, h.oy, h.ox, h.at', h.sat, h.alt, h.non⟩
theorem ScOk.nowrap {s : Sc} (h : ScOk s) : ScOk { s with wrap := false } :=
  ⟨h.g, h.y, h.x, by simp, h.tb, h.b, h.rg, h.tabs, h.sy, h.sx, h.oy, h.ox, h.at', h.sat, h.alt, h.non⟩
theorem ScOk.place {s : Sc} (h : ScOk s) {y x : Nat} (hy : y < s.rows) (hx : x < s.cols) : ScOk { s with y := y, x := x, wrap := false } :=
  ⟨h.g, hy, hx, by simp, h.tb, h.b, h.rg, h.tabs, h.sy, h.sx, h.oy, h.ox, h.at', h.sat, h.alt, h.non⟩
theorem ScOk.cw {s : Sc} (h : ScOk s) {L : List Ce} (hL : L.length = s.cells.length) : ScOk { s with cells := L, wrap := false } := (h.cells hL).nowrap
theorem ScOk.cw0 {s : Sc} (h : ScOk s) {L : List Ce} (hL : L.length = s.cells.length) : ScOk { s with cells := L, wrap := false, x := 0 } := (h.cw hL).x0 rfl
theorem setF_g {s : Sc} (h : ScOk s) (r : Int) (w : Nat) : GrOk (setF s r w) s.rows s.cols := h.g.of_len (setF_len s r w)
theorem putR_ok {s : Sc} (h : ScOk s) (hw : s.wrap = false) {r : Int} {w : Nat} : ScOk (putR s r w) := by
  have hl : (mendF (setF s r w) s.cols s.y).length = s.cells.length := by rw [mendF_len (setF_g h r w) h.y, setF_len]
  have hc := h.g.c
  unfold putR
  split
  · exact ⟨h.g.of_len hl, h.y, by show s.cols - 1 < s.cols; omega, fun _ => by show s.cols - 1 + 1 = s.cols; omega, h.tb, h.b, h.rg, h.tabs, h.sy, h.sx, h.oy, h.ox, h.at', h.sat, h.alt, h.non⟩
  · exact ⟨h.g.of_len hl, h.y, by show s.x + w < s.cols; omega, by simp [hw], h.tb, h.b, h.rg, h.tabs, h.sy, h.sx, h.oy, h.ox, h.at', h.sat, h.alt, h.non⟩
theorem printF_ok {s : Sc} (h : ScOk s) (r : Int) : ScOk (printF s r) := by
  have w := wrapF_ok h
  have n := nextF_ok w.1
  unfold printF
  split
  · exact h
  · split
    · split
      · exact w.1
      · exact putR_ok (n.1.x0 n.2.2.2.2.1) n.2.2.2.2.1
    · exact putR_ok w.1 w.2.2.2.1
theorem ctlF_ok {s : Sc} (h : ScOk s) (b : Int) : ScOk (ctlF s b) := by
  have hx := h.x
  unfold ctlF
  split
  · exact ⟨h.g, h.y, by show s.x - 1 < s.cols; omega, by simp, h.tb, h.b, h.rg, h.tabs, h.sy, h.sx, h.oy, h.ox, h.at', h.sat, h.alt, h.non⟩
  · split
    · exact ⟨h.g, h.y, by show min _ (s.cols - 1) < s.cols; omega, by simp, h.tb, h.b, h.rg, h.tabs, h.sy, h.sx, h.oy, h.ox, h.at', h.sat, h.alt, h.non⟩
    · split
      · exact (nextF_ok h).1
      · split
        · exact (h.nowrap).x0 rfl
        · exact h
theorem escF_ok {s : Sc} (h : ScOk s) (b : Int) : ScOk (escF s b) := by
  have hy := h.y
  have n := nextF_ok h
  unfold escF
  split
  · exact ⟨h.g, h.y, h.x, h.wr, h.tb, h.b, h.rg, h.tabs, h.y, h.x, h.oy, h.ox, h.at', h.at', h.alt, h.non⟩
  split
  · exact ⟨h.g, h.sy, h.sx, by simp, h.tb, h.b, h.rg, h.tabs, h.sy, h.sx, h.oy, h.ox, h.sat, h.sat, h.alt, h.non⟩
  split
  · exact n.1
  split
  · exact n.1.x0 n.2.2.2.2.1
  split
  · split
    · exact h.cw (dnF_len h.g h.b h.tb)
    · exact ⟨h.g, by show s.y - 1 < s.rows; omega, h.x, by simp, h.tb, h.b, h.rg, h.tabs, h.sy, h.sx, h.oy, h.ox, h.at', h.sat, h.alt, h.non⟩
  split
  · exact ⟨h.g, h.y, h.x, h.wr, h.tb, h.b, h.rg, by show (s.tabs.set s.x true).length = s.cols; rw [List.length_set]; exact h.tabs, h.sy, h.sx, h.oy, h.ox, h.at', h.sat, h.alt, h.non⟩
  split
  · exact newF_ok h.g.r h.g.c
  · exact h
theorem toF_ok {s : Sc} (h : ScOk s) (y x : Int) : ScOk (toF s y x) := h.place (by have := h.y; omega) (by have := h.x; omega)
theorem at_in {s : Sc} (h : ScOk s) : s.y * s.cols + s.x < s.cells.length ∧ (s.y + 1) * s.cols ≤ s.cells.length ∧ s.y * s.cols + s.cols = (s.y + 1) * s.cols := by
  have h1 := row_in (cols := s.cols) h.y
  have h2 := row_succ s.y s.cols
  have h3 := h.x
  rw [h.g.len]; omega
theorem bitN_in {a b : Int} (ha : 0 ≤ a ∧ a ≤ 65535) (hb : 0 ≤ b ∧ b ≤ 65535) : 0 ≤ bitN a b ∧ bitN a b ≤ 65535 := by
  unfold bitN
  have : a.toNat ||| b.toNat < 2 ^ 16 := Nat.or_lt_two_pow (by omega) (by omega)
  omega
theorem clrN_in {a : Int} {m : Nat} (ha : 0 ≤ a ∧ a ≤ 65535) : 0 ≤ clrN a m ∧ clrN a m ≤ 65535 := by
  unfold clrN
  have : a.toNat &&& (65535 ^^^ m) ≤ a.toNat := Nat.and_le_left
  omega
theorem lookF_in {a k : Int} (ha : 0 ≤ a ∧ a ≤ 65535) : 0 ≤ lookF a k ∧ lookF a k ≤ 65535 := by
  unfold lookF
  repeat' split
  all_goals first
    | omega
    | exact bitN_in ha (by decide)
    | exact clrN_in ha
    | exact bitN_in (clrN_in ha) (by omega)
    | exact ha
theorem looks_in : ∀ {ps : List Int} {a : Int}, (0 ≤ a ∧ a ≤ 65535) → 0 ≤ ps.foldl lookF a ∧ ps.foldl lookF a ≤ 65535
  | [], a, h => h
  | k :: ps, a, h => looks_in (ps := ps) (lookF_in h)
theorem shDn_part {M : List Ce} {k : Int} {x : Nat} : (M.take x ++ shDn (nearN k) (M.drop x)).length = M.length := by rw [List.length_append, shDn_len]; simp; omega
theorem shUp_part {M : List Ce} {k : Int} {x : Nat} : (M.take x ++ shUp (nearN k) (M.drop x)).length = M.length := by rw [List.length_append, shUp_len]; simp; omega
theorem insF_len {L : List Ce} {rows cols y x : Nat} {n : Int} (g : GrOk L rows cols) (hy : y < rows) : (insF L cols y x n).length = L.length := putF_len g hy (by rw [wholG_len, shDn_part, rowF_len g hy])
theorem delF_len {L : List Ce} {rows cols y x : Nat} {n : Int} (g : GrOk L rows cols) (hy : y < rows) : (delF L cols y x n).length = L.length := putF_len g hy (by rw [wholG_len, shUp_part, rowF_len g hy])
theorem eraF_len {L : List Ce} {rows cols y : Nat} {a b : Int} (g : GrOk L rows cols) (hy : y < rows) : (eraF L cols y a b).length = L.length := by
  refine putF_len g hy ?_
  have := rowF_len g hy
  rw [wholG_len, midF_len (by omega) (by rw [this]; unfold clampN; omega) (by simp), this]
theorem eraJ_g {s : Sc} (h : ScOk s) (k : Int) : ∀ n, n ≤ s.rows → GrOk (eraJ s k n) s.rows s.cols
  | 0, _ => h.g
  | n + 1, hn => by
    have ih := eraJ_g h k n (by omega)
    unfold eraJ
    split
    · exact ih.of_len (eraF_len ih (by omega))
    · split
      · exact ih.of_len (eraF_len ih (by omega))
      · exact ih
theorem eraseF_ok {s : Sc} (h : ScOk s) (row : Bool) (k : Int) : ScOk (eraseF s row k) := by
  unfold eraseF
  split
  · refine h.cw ?_
    split
    · exact eraF_len h.g h.y
    · rw [(eraJ_g h k s.rows (Nat.le_refl _)).len, h.g.len]
  · exact h.nowrap
theorem csiF_ok {s : Sc} (h : ScOk s) (b : Int) (ps : List Int) : ScOk (csiF s b ps) := by
  have hy := h.y
  have hb := h.b
  unfold csiF
  dsimp only
  have c0 : ∀ {c : Prop} [Decidable c] {x y : Sc}, (c → ScOk x) → (¬ c → ScOk y) → ScOk (if c then x else y) := fun {c} _ {x y} h1 h2 => by
    by_cases hc : c
    · rw [if_pos hc]; exact h1 hc
    · rw [if_neg hc]; exact h2 hc
  refine c0 (fun _ => toF_ok h _ _) fun _ => c0 (fun _ => toF_ok h _ _) fun _ => c0 (fun _ => toF_ok h _ _) fun _ => c0 (fun _ => toF_ok h _ _) fun _ => c0 (fun _ => toF_ok h _ _) fun _ => c0 (fun _ => toF_ok h _ _) fun _ => c0 (fun _ => toF_ok h _ _) fun _ => ?_
  refine c0 (fun _ => eraseF_ok h _ _) fun _ => c0 (fun _ => eraseF_ok h _ _) fun _ => ?_
  refine c0 (fun _ => c0 (fun hh => h.cw0 (dnF_len h.g h.b hh.2)) fun _ => h.nowrap) fun _ => c0 (fun _ => c0 (fun hh => h.cw0 (upF_len h.g h.b hh.2)) fun _ => h.nowrap) fun _ => ?_
  refine c0 (fun _ => h.cw (upF_len h.g h.b h.tb)) fun _ => c0 (fun _ => h.cw (dnF_len h.g h.b h.tb)) fun _ => ?_
  refine c0 (fun _ => h.cw (insF_len h.g hy)) fun _ => c0 (fun _ => h.cw (delF_len h.g hy)) fun _ => c0 (fun _ => h.cw (eraF_len h.g hy)) fun _ => ?_
  refine c0 (fun _ => c0 (fun hh => ?_) fun _ => h) fun _ => c0 (fun _ => c0 (fun _ => ?_) fun _ => c0 (fun _ => ?_) fun _ => h) fun _ => c0 (fun _ => ?_) fun _ => h
  · have hr := h.g.r
    have hc := h.g.c
    have hbt : (if parN ps 1 = 0 ∨ (s.rows : Int) < parN ps 1 then (s.rows : Int) else parN ps 1) ≤ s.rows := by split <;> omega
    have hn : 1 ≤ max (parN ps 0) 1 := by omega
    generalize (if parN ps 1 = 0 ∨ (s.rows : Int) < parN ps 1 then (s.rows : Int) else parN ps 1) = bt at *
    generalize max (parN ps 0) 1 = n at *
    exact ⟨h.g, by show 0 < s.rows; omega, by show 0 < s.cols; omega, by simp, by show (n - 1).toNat ≤ (bt - 1).toNat; omega, by show (bt - 1).toNat < s.rows; omega, .inl (by show (n - 1).toNat < (bt - 1).toNat; omega), h.tabs, h.sy, h.sx, h.oy, h.ox, h.at', h.sat, h.alt, h.non⟩
  · exact ⟨h.g, h.y, h.x, h.wr, h.tb, h.b, h.rg, by simp, h.sy, h.sx, h.oy, h.ox, h.at', h.sat, h.alt, h.non⟩
  · exact ⟨h.g, h.y, h.x, h.wr, h.tb, h.b, h.rg, by show (s.tabs.set s.x false).length = s.cols; rw [List.length_set]; exact h.tabs, h.sy, h.sx, h.oy, h.ox, h.at', h.sat, h.alt, h.non⟩
  · refine ⟨h.g, h.y, h.x, h.wr, h.tb, h.b, h.rg, h.tabs, h.sy, h.sx, h.oy, h.ox, ?_, h.sat, h.alt, h.non⟩
    show 0 ≤ (if ps = [] then 0 else ps.foldl lookF s.attr) ∧ (if ps = [] then 0 else ps.foldl lookF s.attr) ≤ 65535
    split
    · omega
    · exact looks_in h.at'
theorem modeF_ok {on : Bool} {s : Sc} (h : ScOk s) (k : Int) : ScOk (modeF on s k) := by
  have hr := h.g.r
  have hc := h.g.c
  unfold modeF
  split
  · exact ⟨h.g, h.y, h.x, h.wr, h.tb, h.b, h.rg, h.tabs, h.sy, h.sx, h.oy, h.ox, h.at', h.sat, h.alt, h.non⟩
  split
  · exact ⟨h.g, h.y, h.x, h.wr, h.tb, h.b, h.rg, h.tabs, h.sy, h.sx, h.oy, h.ox, h.at', h.sat, h.alt, h.non⟩
  split
  · exact ⟨blankG_ok hr hc, h.y, h.x, by simp, h.tb, h.b, h.rg, h.tabs, h.sy, h.sx, h.y, h.x, h.at', h.sat, fun _ => h.g, by simp⟩
  split
  · rename_i hh
    have ha := h.alt hh.2.2
    exact ⟨ha, h.oy, h.ox, by simp, h.tb, h.b, h.rg, h.tabs, h.sy, h.sx, by show 0 < s.rows; omega, by show 0 < s.cols; omega, h.at', h.sat, by simp, by simp⟩
  · exact h
def osL : Option (List Int) → List Int
  | none => []
  | some l => l
theorem wkT_self (d : DV) : wkT d d = True := eq_true (wkT_refl d)
noncomputable def rc_gsize : RFn := ⟨1, 9, .seq (.reg [⟨some 2, .mov (.c (.bool false)), none, false⟩] 0 [0]) (.seq (.reg [⟨some 3, .mov (.t 0), none, false⟩, ⟨some 4, .bin .geq (.t 3) (.c (.int .i64 1)), none, false⟩, ⟨some 5, .mov (.t 4), none, false⟩, ⟨some 6, .mov (.t 0), some (5, true), false⟩, ⟨some 7, .bin .leq (.t 6) (.c (.int .i64 1000)), some (5, true), false⟩, ⟨some 8, .pick (.t 5) (.t 7) (.c (.bool false)), none, false⟩, ⟨some 2, .mov (.t 8), none, false⟩] 0 [2]) .ret), [.t 2]⟩
theorem rc_gsize_ok : compFn PG.P [⟨0, 0, [0], []⟩, ⟨1, 0, [2], []⟩] 36 = some rc_gsize := by kernel_rfl
noncomputable def rc_near : RFn := ⟨1, 6, .seq (.reg [⟨some 2, .mov (.c (.int .i64 0)), none, false⟩] 0 [0]) (.seq (.reg [⟨some 3, .mov (.t 0), none, false⟩, ⟨some 4, .mm true (.t 3) (.c (.int .i64 0)), none, false⟩, ⟨some 5, .mm false (.t 4) (.c (.int .i64 1000)), none, false⟩, ⟨some 2, .mov (.t 5), none, false⟩] 0 [2]) .ret), [.t 2]⟩
theorem rc_near_ok : compFn PG.P [⟨0, 0, [0], []⟩, ⟨1, 0, [2], []⟩] 80 = some rc_near := by kernel_rfl
noncomputable def rc_grows : RFn := ⟨2, 27, .seq (.reg [⟨some 4, .mov (.c (.int .i64 0)), none, false⟩] 0 [0, 1]) (.seq (.seq (.reg [⟨some 5, .mov (.t 1), none, false⟩, ⟨some 6, .call 36 [.t 5], none, false⟩, ⟨some 7, .un .not (.t 6), none, false⟩, ⟨some 8, .mov (.t 7), none, false⟩, ⟨some 9, .mov (.t 0), some (8, false), false⟩, ⟨some 10, .len (.t 9), some (8, false), false⟩, ⟨some 11, .mov (.t 1), some (8, false), false⟩, ⟨some 12, .bin .rem (.t 10) (.t 11), some (8, false), false⟩, ⟨some 13, .bin .neq (.t 12) (.c (.int .i64 0)), some (8, false), false⟩, ⟨some 14, .pick (.t 8) (.c (.bool true)) (.t 13), none, false⟩, ⟨some 15, .mov (.t 14), none, false⟩, ⟨some 16, .mov (.t 0), some (15, false), false⟩, ⟨some 17, .len (.t 16), some (15, false), false⟩, ⟨some 18, .mov (.t 1), some (15, false), false⟩, ⟨some 19, .bin .quo (.t 17) (.t 18), some (15, false), false⟩, ⟨some 20, .call 36 [.t 19], some (15, false), false⟩, ⟨some 21, .un .not (.t 20), some (15, false), false⟩, ⟨some 22, .pick (.t 15) (.c (.bool true)) (.t 21), none, false⟩] 0 [0, 1, 22]) (.cond (.t 22) (.seq (.reg [⟨some 4, .mov (.c (.int .i64 0)), none, false⟩] 0 [4]) .ret) .skip)) (.seq (.reg [⟨some 23, .mov (.t 0), none, false⟩, ⟨some 24, .len (.t 23), none, false⟩, ⟨some 25, .mov (.t 1), none, false⟩, ⟨some 26, .bin .quo (.t 24) (.t 25), none, false⟩, ⟨some 4, .mov (.t 26), none, false⟩] 0 [4]) .ret)), [.t 4]⟩
theorem rc_grows_ok : compFn PG.P [⟨0, 0, [0, 1], []⟩, ⟨1, 0, [0, 1, 22], []⟩, ⟨2, 0, [4], []⟩, ⟨3, 0, [4], []⟩] 45 = some rc_grows := by kernel_rfl
noncomputable def rc_within : RFn := ⟨4, 23, .seq (.reg [⟨some 8, .mov (.c (.bool false)), none, false⟩] 0 [0, 1, 2, 3]) (.seq (.reg [⟨some 9, .mov (.t 2), none, false⟩, ⟨some 10, .bin .geq (.t 9) (.c (.int .i64 0)), none, false⟩, ⟨some 11, .mov (.t 10), none, false⟩, ⟨some 12, .mov (.t 2), some (11, true), false⟩, ⟨some 13, .mov (.t 3), some (11, true), false⟩, ⟨some 14, .bin .leq (.t 12) (.t 13), some (11, true), false⟩, ⟨some 15, .pick (.t 11) (.t 14) (.c (.bool false)), none, false⟩, ⟨some 16, .mov (.t 15), none, false⟩, ⟨some 17, .mov (.t 3), some (16, true), false⟩, ⟨some 18, .mov (.t 0), some (16, true), false⟩, ⟨some 19, .mov (.t 1), some (16, true), false⟩, ⟨some 20, .call 45 [.t 18, .t 19], some (16, true), false⟩, ⟨some 21, .bin .lss (.t 17) (.t 20), some (16, true), false⟩, ⟨some 22, .pick (.t 16) (.t 21) (.c (.bool false)), none, false⟩, ⟨some 8, .mov (.t 22), none, false⟩] 0 [8]) .ret), [.t 8]⟩
theorem rc_within_ok : compFn PG.P [⟨0, 0, [0, 1, 2, 3], []⟩, ⟨1, 0, [8], []⟩] 79 = some rc_within := by kernel_rfl
noncomputable def rc_gblank : RFn := ⟨0, 2, .seq (.reg [⟨some 0, .alloc [.int .i32 0, .int .u16 0, .int .u8 0], none, false⟩] 0 [0]) (.seq (.reg [⟨some 1, .build [.int .i32 0, .int .u16 0, .int .u8 0] [(0, (1, (.c (.int .i32 32))))], none, false⟩, ⟨none, .store 3 (.t 0) (.t 1), none, false⟩] 0 [0]) .ret), [.c 0 true 3]⟩
theorem rc_gblank_ok : compFn PG.P [⟨0, 0, [0], []⟩, ⟨1, 0, [0], []⟩] 68 = some rc_gblank := by kernel_rfl
noncomputable def rc_gfill_l0 : RC := (.seq (.reg [⟨some 6, .bin .lss (.t 5) (.t 4), none, false⟩] 0 [0, 4, 5, 6]) (.seq (.cond (.t 6) .skip (.ext 0)) (.seq (.blk 1 (.seq (.reg [⟨some 7, .mov (.t 5), none, false⟩, ⟨some 2, .mov (.t 7), none, false⟩] 0 [0, 2, 4, 5]) (.reg [⟨some 8, .mov (.t 0), none, false⟩, ⟨some 9, .mov (.t 2), none, false⟩, ⟨some 10, .call 68 [], none, false⟩, ⟨some 11, .iaddr 3 (.t 8) (.t 9), none, false⟩, ⟨none, .store 3 (.t 11) (.t 10), none, false⟩] 0 [0, 4, 5]))) (.reg [⟨some 12, .bin .add (.t 5) (.c (.int .i64 1)), none, false⟩, ⟨some 5, .mov (.t 12), none, false⟩] 0 [0, 4, 5]))))
noncomputable def rc_gfill : RFn := ⟨1, 13, .seq (.reg [⟨some 3, .mov (.t 0), none, false⟩, ⟨some 4, .len (.t 3), none, false⟩, ⟨some 5, .mov (.c (.int .i64 0)), none, false⟩] 0 [0, 4, 5]) (.blk 0 (.loop rc_gfill_l0)), []⟩
theorem rc_gfill_ok : compFn PG.P [⟨0, 0, [0, 4, 5], []⟩, ⟨1, 0, [0, 4, 5, 6], []⟩, ⟨2, 0, [0, 2, 4, 5], []⟩, ⟨3, 0, [0, 4, 5], []⟩, ⟨4, 0, [0, 4, 5], []⟩] 37 = some rc_gfill := by kernel_rfl
noncomputable def rc_cclone : RFn := ⟨1, 8, .seq (.reg [⟨some 2, .mov (.c (.sl 0 [] .nil)), none, false⟩] 0 [0]) (.seq (.seq (.reg [⟨some 3, .mov (.t 0), none, false⟩, ⟨some 4, .eqNil false (.t 3) (.c (.sl 0 [] .nil)), none, false⟩] 0 [0, 4]) (.cond (.t 4) (.seq (.reg [⟨some 2, .mov (.c (.sl 0 [] .nil)), none, false⟩] 0 [2]) .ret) .skip)) (.seq (.reg [⟨some 5, .mkrow 3 [.int .i32 0, .int .u16 0, .int .u8 0] 0 [], none, false⟩, ⟨some 6, .mov (.t 0), none, false⟩, ⟨some 7, .append 3 8 (.t 5) (.t 6), none, false⟩, ⟨some 2, .mov (.t 7), none, false⟩] 0 [2]) .ret)), [.t 2]⟩
theorem rc_cclone_ok : compFn PG.P [⟨0, 0, [0], []⟩, ⟨1, 0, [0, 4], []⟩, ⟨2, 0, [2], []⟩, ⟨3, 0, [2], []⟩] 23 = some rc_cclone := by kernel_rfl
noncomputable def rc_grow : RFn := ⟨3, 25, .seq (.reg [⟨some 6, .mov (.c (.sl 0 [] .nil)), none, false⟩] 0 [0, 1, 2]) (.seq (.seq (.reg [⟨some 7, .mov (.t 2), none, false⟩, ⟨some 8, .bin .lss (.t 7) (.c (.int .i64 0)), none, false⟩, ⟨some 9, .mov (.t 8), none, false⟩, ⟨some 10, .mov (.t 2), some (9, false), false⟩, ⟨some 11, .mov (.t 0), some (9, false), false⟩, ⟨some 12, .mov (.t 1), some (9, false), false⟩, ⟨some 13, .call 45 [.t 11, .t 12], some (9, false), false⟩, ⟨some 14, .bin .geq (.t 10) (.t 13), some (9, false), false⟩, ⟨some 15, .pick (.t 9) (.c (.bool true)) (.t 14), none, false⟩] 0 [0, 1, 2, 15]) (.cond (.t 15) (.seq (.reg [⟨some 6, .mov (.c (.sl 0 [] .nil)), none, false⟩] 0 [6]) .ret) .skip)) (.seq (.reg [⟨some 16, .mov (.t 0), none, false⟩, ⟨some 17, .mov (.t 2), none, false⟩, ⟨some 18, .mov (.t 1), none, false⟩, ⟨some 19, .bin .mul (.t 17) (.t 18), none, false⟩, ⟨some 20, .mov (.t 2), none, false⟩, ⟨some 21, .bin .add (.t 20) (.c (.int .i64 1)), none, false⟩, ⟨some 22, .mov (.t 1), none, false⟩, ⟨some 23, .bin .mul (.t 21) (.t 22), none, false⟩, ⟨some 24, .slice 3 (.t 16) (some (.t 19)) (some (.t 23)) none, none, false⟩, ⟨some 6, .mov (.t 24), none, false⟩] 0 [6]) .ret)), [.t 6]⟩
theorem rc_grow_ok : compFn PG.P [⟨0, 0, [0, 1, 2], []⟩, ⟨1, 0, [0, 1, 2, 15], []⟩, ⟨2, 0, [6], []⟩, ⟨3, 0, [6], []⟩] 24 = some rc_grow := by kernel_rfl
def TG0 : FL := []
theorem TG0_ok : FOk PG (tab TG0) := FOk.nil
def sizeB (n : Int) : Bool := decide (1 ≤ n ∧ n ≤ 1000)
theorem sizeB_t {n : Int} (h : sizeB n = true) : 1 ≤ n ∧ n ≤ 1000 := by simpa [sizeB] using h
theorem sizeB_f {n : Int} (h : sizeB n = false) : ¬ (1 ≤ n ∧ n ≤ 1000) := by simpa [sizeB] using h
theorem sizeB_1 {n : Int} (h : 1 ≤ n ∧ n ≤ 1000) : sizeB n = true := by simpa [sizeB] using h
theorem gsize_P {m : Int}   :
    PCalls PG 36 [.int .i64 m] fun n RR OO => RR = (((.bool (sizeB m), [])) : DV × Objs).1 ∧ OO = (((.bool (sizeB m), [])) : DV × Objs).2 := by
  refine PCalls.by_fn (res := fun n => ((.bool (sizeB m), []))) TG0_ok rc_gsize_ok (by simp [rc_gsize]) fun n => ?_
  unfold rc_gsize
  dsimp only
  simp -implicitDefEqProofs -dsimp only [vcS, ↓vcP1, ↓vcP2, ↓reduceIte, reduceCtorEq, Nat.reduceLT, Nat.reduceLeDiff, Nat.reduceEqDiff, Nat.reduceAdd, Nat.reduceSub, Nat.reduceMul, Int.reduceLT, Int.reduceLE, Int.reduceEq, Int.reduceToNat, Int.reduceAdd, Int.reduceSub, Int.reduceNeg, List.reduceReplicate, Nat.reducePow, Int.reduceMul]
  unfold sizeB
  simp
  omega
def F_gsize : List DV → Option FSpec
  | [.int .i64 m] => some ⟨True, fun n => ((.bool (sizeB m), []))⟩
  | _ => none
theorem F_gsize_1 (m : Int) : F_gsize [.int .i64 m] = some ⟨True, fun n => ((.bool (sizeB m), []))⟩ := nrfl _
theorem gsize_ok (args : List DV) (s : FSpec) (hs : F_gsize args = some s) (hp : s.pre) : PCalls PG 36 args fun n r os => r = (s.res n).1 ∧ os = (s.res n).2 := by
  unfold F_gsize at hs
  split at hs
  · rename_i m
    obtain rfl := sj hs
    have this := gsize_P  (m := m)  
    exact this
  · cases hs
theorem near_P {m : Int}   :
    PCalls PG 80 [.int .i64 m] fun n RR OO => RR = (((.int .i64 (nearN m), [])) : DV × Objs).1 ∧ OO = (((.int .i64 (nearN m), [])) : DV × Objs).2 := by
  refine PCalls.by_fn (res := fun n => ((.int .i64 (nearN m), []))) TG0_ok rc_near_ok (by simp [rc_near]) fun n => ?_
  unfold rc_near
  dsimp only
  simp -implicitDefEqProofs -dsimp only [vcS, ↓vcP1, ↓vcP2, ↓reduceIte, reduceCtorEq, Nat.reduceLT, Nat.reduceLeDiff, Nat.reduceEqDiff, Nat.reduceAdd, Nat.reduceSub, Nat.reduceMul, Int.reduceLT, Int.reduceLE, Int.reduceEq, Int.reduceToNat, Int.reduceAdd, Int.reduceSub, Int.reduceNeg, List.reduceReplicate, Nat.reducePow, Int.reduceMul]
  unfold nearN
  omega
def F_near : List DV → Option FSpec
  | [.int .i64 m] => some ⟨True, fun n => ((.int .i64 (nearN m), []))⟩
  | _ => none
theorem F_near_1 (m : Int) : F_near [.int .i64 m] = some ⟨True, fun n => ((.int .i64 (nearN m), []))⟩ := nrfl _
theorem near_ok (args : List DV) (s : FSpec) (hs : F_near args = some s) (hp : s.pre) : PCalls PG 80 args fun n r os => r = (s.res n).1 ∧ os = (s.res n).2 := by
  unfold F_near at hs
  split at hs
  · rename_i m
    obtain rfl := sj hs
    have this := near_P  (m := m)  
    exact this
  · cases hs
def TG1 : FL := (36, F_gsize) :: (80, F_near) :: []
theorem TG1_ok : FOk PG (tab TG1) := FOk.cons (FOk.cons (FOk.nil) near_ok) gsize_ok
theorem TG1_at_gsize (args : List DV) : tab TG1 36 args = (F_gsize args).map .o := nrfl _
theorem TG1_at_near (args : List DV) : tab TG1 80 args = (F_near args).map .o := nrfl _
theorem TG1_b : type_of% (And.intro @TG1_at_gsize <| And.intro @F_gsize_1 <| And.intro @TG1_at_near <| @F_near_1) := And.intro @TG1_at_gsize <| And.intro @F_gsize_1 <| And.intro @TG1_at_near <| @F_near_1
def rowsI (n : Nat) (c : Int) : Int := if 1 ≤ c ∧ c ≤ 1000 ∧ (n : Int).tmod c = 0 ∧ 1 ≤ (n : Int).tdiv c ∧ (n : Int).tdiv c ≤ 1000 then (n : Int).tdiv c else 0
theorem rowsI_gr {L : List Ce} {rows cols : Nat} (g : GrOk L rows cols) : rowsI L.length cols = rows := by
  have h1 := g.r
  have h2 := g.c
  have h3 : (L.length : Int) = (rows : Int) * cols := by rw [g.len]; simp
  have h4 : (L.length : Int).tmod cols = 0 := by rw [h3]; exact Int.mul_tmod_left _ _
  have h5 : (L.length : Int).tdiv cols = rows := by rw [h3]; exact Int.mul_tdiv_cancel _ (by omega)
  unfold rowsI
  rw [h4, h5, if_pos (by omega)]
theorem grows_P {o_l f_l n_l : Nat} {c : Int}  (hp : n_l ≤ 1000000) :
    PCalls PG 45 [.own o_l f_l n_l, .int .i64 c] fun n RR OO => RR = (((.int .i64 (rowsI n_l c), [])) : DV × Objs).1 ∧ OO = (((.int .i64 (rowsI n_l c), [])) : DV × Objs).2 := by
  refine PCalls.by_fn (res := fun n => ((.int .i64 (rowsI n_l c), []))) TG1_ok rc_grows_ok (by simp [rc_grows]) fun n => ?_
  unfold rc_grows
  dsimp only
  unfold rowsI
  cases hs : sizeB c with
  | false =>
    have h1 := sizeB_f hs
    simp -implicitDefEqProofs -dsimp only [TG1_b, hs, vcS, ↓vcP1, ↓vcP2, ↓reduceIte, reduceCtorEq, Nat.reduceLT, Nat.reduceLeDiff, Nat.reduceEqDiff, Nat.reduceAdd, Nat.reduceSub, Nat.reduceMul, Int.reduceLT, Int.reduceLE, Int.reduceEq, Int.reduceToNat, Int.reduceAdd, Int.reduceSub, Int.reduceNeg, List.reduceReplicate, Nat.reducePow, Int.reduceMul]
    rw [if_neg (by omega)]
  | true =>
    have h1 := sizeB_t hs
    have hc : ¬ c = 0 := by omega
    have hc1 : ¬ c = -1 := by omega
    have hd0 : 0 ≤ (n_l : Int).tdiv c := Int.tdiv_nonneg (by omega) (by omega)
    have hd1 : (n_l : Int).tdiv c ≤ n_l := Int.tdiv_le_self _ (by omega)
    have hw : IntKind.i64.wrap ((n_l : Int).tdiv c) = (n_l : Int).tdiv c := wI64 (by omega) (by omega)
    by_cases hm : (n_l : Int).tmod c = 0
    · cases hq : sizeB ((n_l : Int).tdiv c) with
      | false =>
        have h2 := sizeB_f hq
        simp -implicitDefEqProofs -dsimp only [TG1_b, hs, hc, hc1, hm, hw, hq, vcS, ↓vcP1, ↓vcP2, ↓reduceIte, reduceCtorEq, Nat.reduceLT, Nat.reduceLeDiff, Nat.reduceEqDiff, Nat.reduceAdd, Nat.reduceSub, Nat.reduceMul, Int.reduceLT, Int.reduceLE, Int.reduceEq, Int.reduceToNat, Int.reduceAdd, Int.reduceSub, Int.reduceNeg, List.reduceReplicate, Nat.reducePow, Int.reduceMul]
        rw [if_neg (by omega)]
      | true =>
        have h2 := sizeB_t hq
        simp -implicitDefEqProofs -dsimp only [TG1_b, hs, hc, hc1, hm, hw, hq, vcS, ↓vcP1, ↓vcP2, ↓reduceIte, reduceCtorEq, Nat.reduceLT, Nat.reduceLeDiff, Nat.reduceEqDiff, Nat.reduceAdd, Nat.reduceSub, Nat.reduceMul, Int.reduceLT, Int.reduceLE, Int.reduceEq, Int.reduceToNat, Int.reduceAdd, Int.reduceSub, Int.reduceNeg, List.reduceReplicate, Nat.reducePow, Int.reduceMul]
        rw [if_pos (by omega)]
    · simp -implicitDefEqProofs -dsimp only [TG1_b, hs, hc, hc1, hm, vcS, ↓vcP1, ↓vcP2, ↓reduceIte, reduceCtorEq, Nat.reduceLT, Nat.reduceLeDiff, Nat.reduceEqDiff, Nat.reduceAdd, Nat.reduceSub, Nat.reduceMul, Int.reduceLT, Int.reduceLE, Int.reduceEq, Int.reduceToNat, Int.reduceAdd, Int.reduceSub, Int.reduceNeg, List.reduceReplicate, Nat.reducePow, Int.reduceMul]
      try rw [if_neg (by omega)]
def F_grows : List DV → Option FSpec
  | [.own o_l f_l n_l, .int .i64 c] => some ⟨n_l ≤ 1000000, fun n => ((.int .i64 (rowsI n_l c), []))⟩
  | _ => none
theorem F_grows_1 (o_l : Nat) (f_l : Nat) (n_l : Nat) (c : Int) : F_grows [.own o_l f_l n_l, .int .i64 c] = some ⟨n_l ≤ 1000000, fun n => ((.int .i64 (rowsI n_l c), []))⟩ := nrfl _
theorem grows_ok (args : List DV) (s : FSpec) (hs : F_grows args = some s) (hp : s.pre) : PCalls PG 45 args fun n r os => r = (s.res n).1 ∧ os = (s.res n).2 := by
  unfold F_grows at hs
  split at hs
  · rename_i o_l f_l n_l c
    obtain rfl := sj hs
    have this := grows_P  (o_l := o_l) (f_l := f_l) (n_l := n_l) (c := c)  hp
    exact this
  · cases hs
def TG2 : FL := (45, F_grows) :: TG1
theorem TG2_ok : FOk PG (tab TG2) := FOk.cons (TG1_ok) grows_ok
theorem TG2_at_grows (args : List DV) : tab TG2 45 args = (F_grows args).map .o := nrfl _
theorem TG2_at_gsize (args : List DV) : tab TG2 36 args = (F_gsize args).map .o := nrfl _
theorem TG2_at_near (args : List DV) : tab TG2 80 args = (F_near args).map .o := nrfl _
theorem TG2_b : type_of% (And.intro @TG2_at_grows <| And.intro @F_grows_1 <| And.intro @TG2_at_gsize <| And.intro @F_gsize_1 <| And.intro @TG2_at_near <| @F_near_1) := And.intro @TG2_at_grows <| And.intro @F_grows_1 <| And.intro @TG2_at_gsize <| And.intro @F_gsize_1 <| And.intro @TG2_at_near <| @F_near_1
theorem within_P {o_l f_l n_l : Nat} {c : Int} {a : Int} {b : Int}  (hp : n_l ≤ 1000000) :
    PCalls PG 79 [.own o_l f_l n_l, .int .i64 c, .int .i64 a, .int .i64 b] fun n RR OO => RR = (((.bool (decide (0 ≤ a ∧ a ≤ b ∧ b < rowsI n_l c)), [])) : DV × Objs).1 ∧ OO = (((.bool (decide (0 ≤ a ∧ a ≤ b ∧ b < rowsI n_l c)), [])) : DV × Objs).2 := by
  refine PCalls.by_fn (res := fun n => ((.bool (decide (0 ≤ a ∧ a ≤ b ∧ b < rowsI n_l c)), []))) TG2_ok rc_within_ok (by simp [rc_within]) fun n => ?_
  unfold rc_within
  dsimp only
  simp -implicitDefEqProofs -dsimp only [TG2_b, hp, vcS, ↓vcP1, ↓vcP2, ↓reduceIte, reduceCtorEq, Nat.reduceLT, Nat.reduceLeDiff, Nat.reduceEqDiff, Nat.reduceAdd, Nat.reduceSub, Nat.reduceMul, Int.reduceLT, Int.reduceLE, Int.reduceEq, Int.reduceToNat, Int.reduceAdd, Int.reduceSub, Int.reduceNeg, List.reduceReplicate, Nat.reducePow, Int.reduceMul]
  refine ⟨fun h1 => ⟨fun h2 => by simp [h1, h2], fun h2 => by simp [h2]⟩, fun h1 => by simp [h1]⟩
def F_within : List DV → Option FSpec
  | [.own o_l f_l n_l, .int .i64 c, .int .i64 a, .int .i64 b] => some ⟨n_l ≤ 1000000, fun n => ((.bool (decide (0 ≤ a ∧ a ≤ b ∧ b < rowsI n_l c)), []))⟩
  | _ => none
theorem F_within_1 (o_l : Nat) (f_l : Nat) (n_l : Nat) (c : Int) (a : Int) (b : Int) : F_within [.own o_l f_l n_l, .int .i64 c, .int .i64 a, .int .i64 b] = some ⟨n_l ≤ 1000000, fun n => ((.bool (decide (0 ≤ a ∧ a ≤ b ∧ b < rowsI n_l c)), []))⟩ := nrfl _
theorem within_ok (args : List DV) (s : FSpec) (hs : F_within args = some s) (hp : s.pre) : PCalls PG 79 args fun n r os => r = (s.res n).1 ∧ os = (s.res n).2 := by
  unfold F_within at hs
  split at hs
  · rename_i o_l f_l n_l c a b
    obtain rfl := sj hs
    have this := within_P  (o_l := o_l) (f_l := f_l) (n_l := n_l) (c := c) (a := a) (b := b)  hp
    exact this
  · cases hs
def TG3 : FL := (79, F_within) :: TG2
theorem TG3_ok : FOk PG (tab TG3) := FOk.cons (TG2_ok) within_ok
theorem TG3_at_within (args : List DV) : tab TG3 79 args = (F_within args).map .o := nrfl _
theorem TG3_at_grows (args : List DV) : tab TG3 45 args = (F_grows args).map .o := nrfl _
theorem TG3_at_gsize (args : List DV) : tab TG3 36 args = (F_gsize args).map .o := nrfl _
theorem TG3_at_near (args : List DV) : tab TG3 80 args = (F_near args).map .o := nrfl _
theorem TG3_b : type_of% (And.intro @TG3_at_within <| And.intro @F_within_1 <| And.intro @TG3_at_grows <| And.intro @F_grows_1 <| And.intro @TG3_at_gsize <| And.intro @F_gsize_1 <| And.intro @TG3_at_near <| @F_near_1) := And.intro @TG3_at_within <| And.intro @F_within_1 <| And.intro @TG3_at_grows <| And.intro @F_grows_1 <| And.intro @TG3_at_gsize <| And.intro @F_gsize_1 <| And.intro @TG3_at_near <| @F_near_1
theorem gblank_K {T : Objs} {K : DV → Objs → Prop} (h : ∀ T', Keep T T' [] → K (.agg blkC.row) T') : CallK PG 68 [] T K := by
  refine CallK.of_fn FOk.nil rc_gblank_ok (by simp [rc_gblank]) ?_
  unfold rc_gblank
  dsimp only
  simp -implicitDefEqProofs -dsimp only [tb_at, vcS, ↓vcP1, ↓vcP2, ↓reduceIte, reduceCtorEq, Nat.reduceLT, Nat.reduceLeDiff, Nat.reduceEqDiff, Nat.reduceAdd, Nat.reduceSub, Nat.reduceMul, Int.reduceLT, Int.reduceLE, Int.reduceEq, Int.reduceToNat, Int.reduceAdd, Int.reduceSub, Int.reduceNeg, List.reduceReplicate, Nat.reducePow, Int.reduceMul]
  exact h _ (Keep.app _ _ _)
theorem cclone_K {T : Objs} {q off n : Nat} {L : List Ce} {K : DV → Objs → Prop} (hq : T[q]? = some (some (.arr 3 (ceRows L)))) (ho : off + n ≤ L.length) (h0 : 0 < n) (hl : L.length ≤ 1000000)
    (h : ∀ T' p, T.length ≤ p → T'[p]? = some (some (.arr 3 (ceRows ((L.drop off).take n)))) → Keep T T' [] → K (.own p 0 n) T') : CallK PG 23 [.own q off n] T K := by
  refine CallK.of_fn FOk.nil rc_cclone_ok (by simp [rc_cclone]) ?_
  unfold rc_cclone
  dsimp only
  have hlen : (List.take n (List.drop off (ceRows L))).length = n := by simp [ceRows_len]; omega
  simp -implicitDefEqProofs -dsimp only [tb_at, tb_all hq, h0, hlen, vcS, ↓vcP1, ↓vcP2, ↓reduceIte, reduceCtorEq, Nat.reduceLT, Nat.reduceLeDiff, Nat.reduceEqDiff, Nat.reduceAdd, Nat.reduceSub, Nat.reduceMul, Int.reduceLT, Int.reduceLE, Int.reduceEq, Int.reduceToNat, Int.reduceAdd, Int.reduceSub, Int.reduceNeg, List.reduceReplicate, Nat.reducePow, Int.reduceMul]
  rw [ceRows_len]
  refine ⟨ho, by omega, h _ _ (by omega) ?_ (Keep.app _ _ _)⟩
  rw [tb_geti, ceRows_drop, ceRows_take]
  rfl
theorem Keep.set (T : Objs) (q : Nat) (x : Option Ob) : Keep T (T.set q x) [q] := ⟨by simp, fun k ob hk h => by rw [List.getElem?_set_ne (fun e => hk (by simp [e]))]; exact h⟩
theorem fill_step {L : List Ce} {off i n : Nat} (hi : i < n) (ho : off + n ≤ L.length) : (midF L off (off + i) (List.replicate i blkC)).set (off + i) blkC = midF L off (off + (i + 1)) (List.replicate (i + 1) blkC) := by
  have l1 : (midF L off (off + i) (List.replicate i blkC)).length = L.length := midF_len (by omega) (by omega) (by simp)
  have l2 : (midF L off (off + (i + 1)) (List.replicate (i + 1) blkC)).length = L.length := midF_len (by omega) (by omega) (by simp)
  refine ext_getD (by rw [List.length_set, l1, l2]) fun j hj => ?_
  rw [getD_setC (by omega), midF_getD (by omega) (by omega) (by simp), midF_getD (by omega) (by omega) (by simp), getD_rep, getD_rep]
  by_cases h1 : j = off + i
  · rw [if_pos h1, if_neg (by omega), if_pos (by omega)]
  · rw [if_neg h1]
    by_cases h2 : j < off
    · rw [if_pos h2, if_pos h2]
    · rw [if_neg h2, if_neg h2]
      by_cases h3 : j < off + i
      · rw [if_pos h3, if_pos (by omega)]
      · rw [if_neg h3, if_neg (by omega)]
theorem mid_nil (L : List Ce) (off : Nat) : midF L off off [] = L := by simp [midF]
theorem fill_K {T : Objs} {q off n : Nat} {L : List Ce} {K : DV → Objs → Prop} (hq : T[q]? = some (some (.arr 3 (ceRows L)))) (ho : off + n ≤ L.length) (hl : L.length ≤ 1000000)
    (h : ∀ T', T'[q]? = some (some (.arr 3 (ceRows (midF L off (off + n) (List.replicate n blkC))))) → Keep T T' [q] → K (.tup []) T') : CallK PG 37 [.own q off n] T K := by
  refine CallK.of_fn FOk.nil rc_gfill_ok (by simp [rc_gfill]) ?_
  unfold rc_gfill
  dsimp only
  simp -implicitDefEqProofs -dsimp only [tb_at, tb_all hq, vcS, ↓vcP1, ↓vcP2, ↓reduceIte, reduceCtorEq, Nat.reduceLT, Nat.reduceLeDiff, Nat.reduceEqDiff, Nat.reduceAdd, Nat.reduceSub, Nat.reduceMul, Int.reduceLT, Int.reduceLE, Int.reduceEq, Int.reduceToNat, Int.reduceAdd, Int.reduceSub, Int.reduceNeg, List.reduceReplicate, Nat.reducePow, Int.reduceMul]
  refine LoopWp.inv FOk.nil (S := fun s : Nat × Objs => ⟨[(0, .own q off n), (4, .int .i64 n), (5, .int .i64 s.1)], s.2⟩)
    (I := fun s => s.1 ≤ n ∧ s.2[q]? = some (some (.arr 3 (ceRows (midF L off (off + s.1) (List.replicate s.1 blkC))))) ∧ Keep T s.2 [q])
    (μ := fun s => n - s.1) (0, T) ⟨by simp, by simpa [mid_nil] using hq, Keep.refl _ _⟩ ?_ ?_
  · simp -implicitDefEqProofs -dsimp only [wkT_self, vcS, ↓vcP1, ↓vcP2, ↓reduceIte, reduceCtorEq, Nat.reduceLT, Nat.reduceLeDiff, Nat.reduceEqDiff, Nat.reduceAdd, Nat.reduceSub, Nat.reduceMul, Int.reduceLT, Int.reduceLE, Int.reduceEq, Int.reduceToNat, Int.reduceAdd, Int.reduceSub, Int.reduceNeg, List.reduceReplicate, Nat.reducePow, Int.reduceMul]
  · intro ⟨i, A⟩ ⟨h1, h2, h3⟩
    dsimp only at h1 h2 h3 ⊢
    unfold rc_gfill_l0
    have l1 : (midF L off (off + i) (List.replicate i blkC)).length = L.length := midF_len (by omega) (by omega) (by simp)
    by_cases hi : i < n
    · have hii : (i : Int) < n := by omega
      have hi0 : (0 : Int) ≤ (i : Int) := by omega
      have hw1 : IntKind.i64.wrap ((i : Int) + 1) = ((i + 1 : Nat) : Int) := by rw [wI64 (by omega) (by omega)]; omega
      simp -implicitDefEqProofs -dsimp only [tb_all h2, hii, hi0, hw1, wkT_self, Nat.zero_add, tb_at, vcS, ↓vcP1, ↓vcP2, ↓reduceIte, reduceCtorEq, Nat.reduceLT, Nat.reduceLeDiff, Nat.reduceEqDiff, Nat.reduceAdd, Nat.reduceSub, Nat.reduceMul, Int.reduceLT, Int.reduceLE, Int.reduceEq, Int.reduceToNat, Int.reduceAdd, Int.reduceSub, Int.reduceNeg, List.reduceReplicate, Nat.reducePow, Int.reduceMul]
      refine gblank_K fun T' k => ?_
      have h2' := k.at h2 (by simp)
      have hg := ceRows_get (L := midF L off (off + i) (List.replicate i blkC)) (i := off + i) (by omega)
      have hset := ceRows_set (midF L off (off + i) (List.replicate i blkC)) (off + i) blkC
      rw [fill_step hi ho] at hset
      have hb : blkC.row = [.int .i32 32, .int .u16 0, .int .u8 0] := rfl
      change (ceRows (midF L off (off + i) (List.replicate i blkC))).set (off + i) [.int .i32 32, .int .u16 0, .int .u8 0] = _ at hset
      rw [hb]
      simp -implicitDefEqProofs -dsimp only [tb_all h2', hii, hi0, hw1, wkT_self, Nat.zero_add, tb_at, hg, hset, vcS, ↓vcP1, ↓vcP2, ↓reduceIte, reduceCtorEq, Nat.reduceLT, Nat.reduceLeDiff, Nat.reduceEqDiff, Nat.reduceAdd, Nat.reduceSub, Nat.reduceMul, Int.reduceLT, Int.reduceLE, Int.reduceEq, Int.reduceToNat, Int.reduceAdd, Int.reduceSub, Int.reduceNeg, List.reduceReplicate, Nat.reducePow, Int.reduceMul]
      refine ⟨(i + 1, T'.set q (some (.arr 3 (ceRows (midF L off (off + (i + 1)) (List.replicate (i + 1) blkC)))))), ⟨rfl, objsWk_refl _⟩, ⟨hi, tb_ss h2' _, ?_⟩, by dsimp only; omega⟩
      exact (h3.trans k (k := [q]) (by simp) (by simp)).trans (Keep.set T' q _) (by simp) (by simp)
    · have hii : ¬ (i : Int) < n := by omega
      simp -implicitDefEqProofs -dsimp only [tb_all h2, hii, wkT_self, vcS, ↓vcP1, ↓vcP2, ↓reduceIte, reduceCtorEq, Nat.reduceLT, Nat.reduceLeDiff, Nat.reduceEqDiff, Nat.reduceAdd, Nat.reduceSub, Nat.reduceMul, Int.reduceLT, Int.reduceLE, Int.reduceEq, Int.reduceToNat, Int.reduceAdd, Int.reduceSub, Int.reduceNeg, List.reduceReplicate, Nat.reducePow, Int.reduceMul]
      obtain rfl : i = n := by omega
      exact ⟨h3.1, h _ h2 h3⟩
theorem grow_K {T : Objs} {q rows cols y : Nat} {L : List Ce} {K : DV → Objs → Prop} (hq : T[q]? = some (some (.arr 3 (ceRows L)))) (g : GrOk L rows cols) (hy : y < rows) (h : K (.own q (y * cols) cols) T) : CallK PG 24 [.own q 0 L.length, .int .i64 cols, .int .i64 y] T K := by
  have h1 := g.r
  have h2 := g.c
  have hm : rows * cols ≤ 1000 * 1000 := Nat.mul_le_mul h1.2 h2.2
  have hl : L.length ≤ 1000000 := by rw [g.len]; omega
  have hrow := row_in (cols := cols) hy
  have hsucc := row_succ y cols
  have hp : (y : Int) * cols = ((y * cols : Nat) : Int) := by simp
  have hp1 : ((y : Int) + 1) * cols = (((y + 1) * cols : Nat) : Int) := by simp
  have hw1 : IntKind.i64.wrap ((y : Int) + 1) = (y : Int) + 1 := wI64 (by omega) (by omega)
  have hw2 : IntKind.i64.wrap ((y : Int) * cols) = ((y * cols : Nat) : Int) := by rw [hp]; exact wI64 (by omega) (by omega)
  have hw3 : IntKind.i64.wrap (((y : Int) + 1) * cols) = (((y + 1) * cols : Nat) : Int) := by rw [hp1]; exact wI64 (by omega) (by omega)
  have hy0 : ¬ (y : Int) < 0 := by omega
  have hy1 : ¬ (rows : Int) ≤ y := by omega
  refine CallK.of_fn TG3_ok rc_grow_ok (by simp [rc_grow]) ?_
  unfold rc_grow
  dsimp only
  simp -implicitDefEqProofs -dsimp only [TG3_b, tb_all hq, rowsI_gr g, hl, hy0, hy1, hw1, hw2, hw3, vcS, ↓vcP1, ↓vcP2, ↓reduceIte, reduceCtorEq, Nat.reduceLT, Nat.reduceLeDiff, Nat.reduceEqDiff, Nat.reduceAdd, Nat.reduceSub, Nat.reduceMul, Int.reduceLT, Int.reduceLE, Int.reduceEq, Int.reduceToNat, Int.reduceAdd, Int.reduceSub, Int.reduceNeg, List.reduceReplicate, Nat.reducePow, Int.reduceMul]
  have hsub : (y + 1) * cols - y * cols = cols := by omega
  rw [hsub]
  refine ⟨by omega, by omega, ⟨by omega, by rw [g.len]; omega⟩, h⟩
noncomputable def rc_gup : RFn := ⟨5, 50, .seq (.reg [⟨some 10, .mov (.c (.sl 0 [] .nil)), none, false⟩] 0 [0, 1, 2, 3, 4]) (.seq (.reg [⟨some 14, .mov (.t 0), none, false⟩, ⟨some 15, .call 23 [.t 14], none, false⟩, ⟨some 11, .mov (.t 15), none, false⟩] 0 [0, 1, 2, 3, 4, 11]) (.seq (.seq (.reg [⟨some 16, .mov (.t 0), none, false⟩, ⟨some 17, .mov (.t 1), none, false⟩, ⟨some 18, .mov (.t 2), none, false⟩, ⟨some 19, .mov (.t 3), none, false⟩, ⟨some 20, .call 79 [.t 16, .t 17, .t 18, .t 19], none, false⟩] 0 [1, 2, 3, 4, 11, 20]) (.cond (.t 20) (.seq (.reg [⟨some 21, .mov (.t 11), none, false⟩, ⟨some 22, .mov (.t 2), none, false⟩, ⟨some 23, .mov (.t 1), none, false⟩, ⟨some 24, .bin .mul (.t 22) (.t 23), none, false⟩, ⟨some 25, .mov (.t 3), none, false⟩, ⟨some 26, .bin .add (.t 25) (.c (.int .i64 1)), none, false⟩, ⟨some 27, .mov (.t 1), none, false⟩, ⟨some 28, .bin .mul (.t 26) (.t 27), none, false⟩, ⟨some 29, .slice 3 (.t 21) (some (.t 24)) (some (.t 28)) none, none, false⟩, ⟨some 12, .mov (.t 29), none, false⟩] 0 [1, 4, 11, 12]) (.seq (.reg [⟨some 30, .mov (.t 4), none, false⟩, ⟨some 31, .call 80 [.t 30], none, false⟩, ⟨some 32, .mov (.t 1), none, false⟩, ⟨some 33, .bin .mul (.t 31) (.t 32), none, false⟩, ⟨some 34, .mov (.t 12), none, false⟩, ⟨some 35, .len (.t 34), none, false⟩, ⟨some 36, .mm false (.t 33) (.t 35), none, false⟩, ⟨some 13, .mov (.t 36), none, false⟩] 0 [11, 12, 13]) (.seq (.reg [⟨some 37, .mov (.t 12), none, false⟩, ⟨some 38, .mov (.t 12), none, false⟩, ⟨some 39, .mov (.t 13), none, false⟩, ⟨some 40, .slice 3 (.t 38) (some (.t 39)) none none, none, false⟩, ⟨some 41, .copy 3 (.t 37) (.t 40), none, false⟩] 0 [11, 12, 13]) (.reg [⟨some 42, .mov (.t 12), none, false⟩, ⟨some 43, .mov (.t 12), none, false⟩, ⟨some 44, .len (.t 43), none, false⟩, ⟨some 45, .mov (.t 13), none, false⟩, ⟨some 46, .bin .sub (.t 44) (.t 45), none, false⟩, ⟨some 47, .slice 3 (.t 42) (some (.t 46)) none none, none, false⟩, ⟨some 48, .call 37 [.t 47], none, false⟩] 0 [11])))) .skip)) (.seq (.reg [⟨some 49, .mov (.t 11), none, false⟩, ⟨some 10, .mov (.t 49), none, false⟩] 0 [10]) .ret))), [.t 10]⟩
theorem rc_gup_ok : compFn PG.P [⟨0, 0, [0, 1, 2, 3, 4], []⟩, ⟨1, 0, [0, 1, 2, 3, 4, 11], []⟩, ⟨2, 0, [1, 2, 3, 4, 11, 20], []⟩, ⟨3, 0, [1, 4, 11, 12], []⟩, ⟨4, 0, [11, 12, 13], []⟩, ⟨5, 0, [11, 12, 13], []⟩, ⟨6, 0, [11], []⟩, ⟨7, 0, [10], []⟩] 78 = some rc_gup := by kernel_rfl
noncomputable def rc_gdown : RFn := ⟨5, 47, .seq (.reg [⟨some 10, .mov (.c (.sl 0 [] .nil)), none, false⟩] 0 [0, 1, 2, 3, 4]) (.seq (.reg [⟨some 14, .mov (.t 0), none, false⟩, ⟨some 15, .call 23 [.t 14], none, false⟩, ⟨some 11, .mov (.t 15), none, false⟩] 0 [0, 1, 2, 3, 4, 11]) (.seq (.seq (.reg [⟨some 16, .mov (.t 0), none, false⟩, ⟨some 17, .mov (.t 1), none, false⟩, ⟨some 18, .mov (.t 2), none, false⟩, ⟨some 19, .mov (.t 3), none, false⟩, ⟨some 20, .call 79 [.t 16, .t 17, .t 18, .t 19], none, false⟩] 0 [1, 2, 3, 4, 11, 20]) (.cond (.t 20) (.seq (.reg [⟨some 21, .mov (.t 11), none, false⟩, ⟨some 22, .mov (.t 2), none, false⟩, ⟨some 23, .mov (.t 1), none, false⟩, ⟨some 24, .bin .mul (.t 22) (.t 23), none, false⟩, ⟨some 25, .mov (.t 3), none, false⟩, ⟨some 26, .bin .add (.t 25) (.c (.int .i64 1)), none, false⟩, ⟨some 27, .mov (.t 1), none, false⟩, ⟨some 28, .bin .mul (.t 26) (.t 27), none, false⟩, ⟨some 29, .slice 3 (.t 21) (some (.t 24)) (some (.t 28)) none, none, false⟩, ⟨some 12, .mov (.t 29), none, false⟩] 0 [1, 4, 11, 12]) (.seq (.reg [⟨some 30, .mov (.t 4), none, false⟩, ⟨some 31, .call 80 [.t 30], none, false⟩, ⟨some 32, .mov (.t 1), none, false⟩, ⟨some 33, .bin .mul (.t 31) (.t 32), none, false⟩, ⟨some 34, .mov (.t 12), none, false⟩, ⟨some 35, .len (.t 34), none, false⟩, ⟨some 36, .mm false (.t 33) (.t 35), none, false⟩, ⟨some 13, .mov (.t 36), none, false⟩] 0 [11, 12, 13]) (.seq (.reg [⟨some 37, .mov (.t 12), none, false⟩, ⟨some 38, .mov (.t 13), none, false⟩, ⟨some 39, .slice 3 (.t 37) (some (.t 38)) none none, none, false⟩, ⟨some 40, .mov (.t 12), none, false⟩, ⟨some 41, .copy 3 (.t 39) (.t 40), none, false⟩] 0 [11, 12, 13]) (.reg [⟨some 42, .mov (.t 12), none, false⟩, ⟨some 43, .mov (.t 13), none, false⟩, ⟨some 44, .slice 3 (.t 42) none (some (.t 43)) none, none, false⟩, ⟨some 45, .call 37 [.t 44], none, false⟩] 0 [11])))) .skip)) (.seq (.reg [⟨some 46, .mov (.t 11), none, false⟩, ⟨some 10, .mov (.t 46), none, false⟩] 0 [10]) .ret))), [.t 10]⟩
theorem rc_gdown_ok : compFn PG.P [⟨0, 0, [0, 1, 2, 3, 4], []⟩, ⟨1, 0, [0, 1, 2, 3, 4, 11], []⟩, ⟨2, 0, [1, 2, 3, 4, 11, 20], []⟩, ⟨3, 0, [1, 4, 11, 12], []⟩, ⟨4, 0, [11, 12, 13], []⟩, ⟨5, 0, [11, 12, 13], []⟩, ⟨6, 0, [11], []⟩, ⟨7, 0, [10], []⟩] 56 = some rc_gdown := by kernel_rfl
noncomputable def rc_gBlank : RFn := ⟨2, 21, .seq (.reg [⟨some 4, .mov (.c (.sl 0 [] .nil)), none, false⟩] 0 [0, 1]) (.seq (.seq (.reg [⟨some 6, .mov (.t 0), none, false⟩, ⟨some 7, .call 36 [.t 6], none, false⟩, ⟨some 8, .un .not (.t 7), none, false⟩, ⟨some 9, .mov (.t 8), none, false⟩, ⟨some 10, .mov (.t 1), some (9, false), false⟩, ⟨some 11, .call 36 [.t 10], some (9, false), false⟩, ⟨some 12, .un .not (.t 11), some (9, false), false⟩, ⟨some 13, .pick (.t 9) (.c (.bool true)) (.t 12), none, false⟩] 0 [0, 1, 13]) (.cond (.t 13) (.seq (.reg [⟨some 4, .mov (.c (.sl 0 [] .nil)), none, false⟩] 0 [4]) .ret) .skip)) (.seq (.reg [⟨some 14, .mov (.t 0), none, false⟩, ⟨some 15, .mov (.t 1), none, false⟩, ⟨some 16, .bin .mul (.t 14) (.t 15), none, false⟩, ⟨some 17, .mkslice 3 8 [.int .i32 0, .int .u16 0, .int .u8 0] (.t 16) (.t 16), none, false⟩, ⟨some 5, .mov (.t 17), none, false⟩] 0 [5]) (.seq (.reg [⟨some 18, .mov (.t 5), none, false⟩, ⟨some 19, .call 37 [.t 18], none, false⟩] 0 [5]) (.seq (.reg [⟨some 20, .mov (.t 5), none, false⟩, ⟨some 4, .mov (.t 20), none, false⟩] 0 [4]) .ret)))), [.t 4]⟩
theorem rc_gBlank_ok : compFn PG.P [⟨0, 0, [0, 1], []⟩, ⟨1, 0, [0, 1, 13], []⟩, ⟨2, 0, [4], []⟩, ⟨3, 0, [5], []⟩, ⟨4, 0, [5], []⟩, ⟨5, 0, [4], []⟩] 17 = some rc_gBlank := by kernel_rfl
theorem TG3_n23 (args : List DV) : tab TG3 23 args = none := nrfl _
theorem TG3_n37 (args : List DV) : tab TG3 37 args = none := nrfl _
theorem GrOk.lim {L : List Ce} {rows cols : Nat} (g : GrOk L rows cols) : L.length ≤ 1000000 ∧ 0 < L.length := by
  have h1 := g.r
  have h2 := g.c
  have hm : rows * cols ≤ 1000 * 1000 := Nat.mul_le_mul h1.2 h2.2
  have hm2 : 1 * 1 ≤ rows * cols := Nat.mul_le_mul h1.1 h2.1
  rw [g.len]; omega
theorem up_eq {L : List Ce} {a b k k0 : Nat} (hab : a ≤ b) (hb : b ≤ L.length) (hk : k = min k0 (b - a)) :
    midF (midF L a (a + (b - a - k)) ((L.drop (a + k)).take (b - a - k))) (a + (b - a - k)) (a + (b - a - k) + k) (List.replicate k blkC) = midF L a b (shUp k0 ((L.drop a).take (b - a))) := by
  have m1 : ((L.drop (a + k)).take (b - a - k)).length = a + (b - a - k) - a := by simp; omega
  have m2 : ((L.drop a).take (b - a)).length = b - a := by simp; omega
  have l1 : (midF L a (a + (b - a - k)) ((L.drop (a + k)).take (b - a - k))).length = L.length := midF_len (by omega) (by omega) m1
  have l2 : (midF L a b (shUp k0 ((L.drop a).take (b - a)))).length = L.length := midF_len hab hb (by rw [shUp_len, m2])
  have l3 : (midF (midF L a (a + (b - a - k)) ((L.drop (a + k)).take (b - a - k))) (a + (b - a - k)) (a + (b - a - k) + k) (List.replicate k blkC)).length = L.length := by rw [midF_len (by omega) (by omega) (by simp), l1]
  refine ext_getD (by rw [l3, l2]) fun i hi => ?_
  rw [l3] at hi
  rw [midF_getD (by omega) (by omega) (by simp), midF_getD (by omega) (by omega) m1, midF_getD hab hb (by rw [shUp_len, m2]), getD_rep, getD_take, getD_drop]
  by_cases h1 : i < a
  · rw [if_pos (by omega), if_pos h1, if_pos h1]
  · rw [if_neg h1, if_neg h1]
    by_cases h2 : i < a + (b - a - k)
    · rw [if_pos h2, if_pos h2, if_pos (by omega), if_pos (by omega), shUp_getD (by omega), m2, if_pos (by omega), getD_take, if_pos (by omega), getD_drop]
      congr 1; omega
    · rw [if_neg h2, if_neg h2]
      by_cases h3 : i < b
      · rw [if_pos (by omega), if_pos h3, shUp_getD (by omega), m2, if_neg (by omega)]
      · rw [if_neg (by omega), if_neg h3]
theorem dn_eq {L : List Ce} {a b k k0 : Nat} (hab : a ≤ b) (hb : b ≤ L.length) (hk : k = min k0 (b - a)) :
    midF (midF L (a + k) (a + k + (b - a - k)) ((L.drop a).take (b - a - k))) a (a + k) (List.replicate k blkC) = midF L a b (shDn k0 ((L.drop a).take (b - a))) := by
  have m1 : ((L.drop a).take (b - a - k)).length = a + k + (b - a - k) - (a + k) := by simp; omega
  have m2 : ((L.drop a).take (b - a)).length = b - a := by simp; omega
  have l1 : (midF L (a + k) (a + k + (b - a - k)) ((L.drop a).take (b - a - k))).length = L.length := midF_len (by omega) (by omega) m1
  have l2 : (midF L a b (shDn k0 ((L.drop a).take (b - a)))).length = L.length := midF_len hab hb (by rw [shDn_len, m2])
  have l3 : (midF (midF L (a + k) (a + k + (b - a - k)) ((L.drop a).take (b - a - k))) a (a + k) (List.replicate k blkC)).length = L.length := by rw [midF_len (by omega) (by omega) (by simp), l1]
  refine ext_getD (by rw [l3, l2]) fun i hi => ?_
  rw [l3] at hi
  rw [midF_getD (by omega) (by omega) (by simp), midF_getD (by omega) (by omega) m1, midF_getD hab hb (by rw [shDn_len, m2]), getD_rep, getD_take, getD_drop]
  by_cases h1 : i < a
  · rw [if_pos h1, if_pos (by omega), if_pos h1]
  · rw [if_neg h1, if_neg h1]
    by_cases h2 : i < a + k
    · rw [if_pos h2, if_pos (by omega), shDn_getD (by omega), if_neg (by omega)]
    · rw [if_neg h2, if_neg h2]
      by_cases h3 : i < b
      · rw [if_pos (by omega), if_pos h3, if_pos (by omega), shDn_getD (by omega), if_pos (by omega), getD_take, if_pos (by omega), getD_drop]
        congr 1; omega
      · rw [if_neg (by omega), if_neg h3]
theorem gup_K {T : Objs} {q rows cols top bot : Nat} {n : Int} {L : List Ce} {K : DV → Objs → Prop} (hq : T[q]? = some (some (.arr 3 (ceRows L)))) (g : GrOk L rows cols) (ht : top ≤ bot) (hb : bot < rows)
    (h : ∀ T' p, T.length ≤ p → T'[p]? = some (some (.arr 3 (ceRows (upF L cols top bot n)))) → Keep T T' [] → K (.own p 0 L.length) T') : CallK PG 78 [.own q 0 L.length, .int .i64 cols, .int .i64 top, .int .i64 bot, .int .i64 n] T K := by
  have h1 := g.r
  have h2 := g.c
  have hl := g.lim
  have hrow := row_in (cols := cols) hb
  have hsucc := row_succ bot cols
  have htb : top * cols ≤ (bot + 1) * cols := Nat.mul_le_mul_right _ (by omega)
  have hgl := g.len
  have hp : (top : Int) * cols = ((top * cols : Nat) : Int) := by simp
  have hp1 : ((bot : Int) + 1) * cols = (((bot + 1) * cols : Nat) : Int) := by simp
  have hw1 : IntKind.i64.wrap ((bot : Int) + 1) = (bot : Int) + 1 := wI64 (by omega) (by omega)
  have hw2 : IntKind.i64.wrap ((top : Int) * cols) = ((top * cols : Nat) : Int) := by rw [hp]; exact wI64 (by omega) (by omega)
  have hw3 : IntKind.i64.wrap (((bot : Int) + 1) * cols) = (((bot + 1) * cols : Nat) : Int) := by rw [hp1]; exact wI64 (by omega) (by omega)
  have hn : nearN n ≤ 1000 := by unfold nearN; omega
  have hnm : nearN n * cols ≤ 1000 * 1000 := Nat.mul_le_mul hn h2.2
  have hp4 : ((nearN n : Nat) : Int) * cols = ((nearN n * cols : Nat) : Int) := by simp
  have hw4 : IntKind.i64.wrap ((nearN n : Int) * cols) = ((nearN n * cols : Nat) : Int) := by rw [hp4]; exact wI64 (by omega) (by omega)
  have ha : decide ((0 : Int) ≤ top ∧ (top : Int) ≤ bot ∧ (bot : Int) < rows) = true := decide_eq_true (by omega)
  refine CallK.of_fn TG3_ok rc_gup_ok (by simp [rc_gup]) ?_
  unfold rc_gup
  dsimp only
  simp -implicitDefEqProofs -dsimp only [TG3_b, TG3_n23, TG3_n37, tb_all hq, rowsI_gr g, hl.1, ha, vcS, ↓vcP1, ↓vcP2, ↓reduceIte, reduceCtorEq, Nat.reduceLT, Nat.reduceLeDiff, Nat.reduceEqDiff, Nat.reduceAdd, Nat.reduceSub, Nat.reduceMul, Int.reduceLT, Int.reduceLE, Int.reduceEq, Int.reduceToNat, Int.reduceAdd, Int.reduceSub, Int.reduceNeg, List.reduceReplicate, Nat.reducePow, Int.reduceMul]
  refine cclone_K hq (by omega) hl.2 hl.1 fun T' p hp hA kp => ?_
  simp only [List.drop_zero, List.take_length] at hA
  obtain ⟨a, ea⟩ : ∃ a, a = top * cols := ⟨_, rfl⟩
  obtain ⟨b, eb⟩ : ∃ b, b = (bot + 1) * cols := ⟨_, rfl⟩
  obtain ⟨e, ee⟩ : ∃ e, e = nearN n * cols := ⟨_, rfl⟩
  unfold upF at h
  rw [← ea, ← eb, ← ee] at h
  rw [← ea] at hw2
  rw [← eb] at hw3
  rw [← ee] at hw4
  rw [← ea, ← eb] at htb
  rw [← eb] at hrow
  obtain ⟨k, ek⟩ : ∃ k, k = min e (b - a) := ⟨_, rfl⟩
  have hmin : min (e : Int) ((b - a : Nat) : Int) = (k : Int) := by omega
  have hab : a ≤ b ∧ b ≤ L.length := by omega
  have hkk : k ≤ b - a := by omega
  have z0 : (0 : Int) ≤ (a : Int) := by omega
  have z1 : (0 : Int) ≤ (b : Int) := by omega
  have z2 : (0 : Int) ≤ (k : Int) := by omega
  have z3 : a + (k + (b - a - k)) ≤ L.length := by omega
  have hM : ((L.drop (a + k)).take (b - a - k)).length = b - a - k := by simp; omega
  have hmm : min (b - a - k) (b - a) = b - a - k := by omega
  have htk : (List.take (b - a - k) (List.take (b - a - k) (L.drop (a + k)))) = List.take (b - a - k) (L.drop (a + k)) := by rw [List.take_take, Nat.min_self]
  have hcp : ceRows (List.take a L) ++ (ceRows (List.take (b - a - k) (List.drop (a + k) L)) ++ ceRows (List.drop (a + (b - a - k)) L)) = ceRows (midF L a (a + (b - a - k)) ((L.drop (a + k)).take (b - a - k))) := by rw [ceRows_app, ceRows_app]; simp [midF]
  have z4 : a + (b - a) ≤ L.length := by omega
  have z5 : (0 : Int) ≤ ((b - a - k : Nat) : Int) := by omega
  have z6 : b - a - k ≤ b - a := by omega
  have z7 : b - a - (b - a - k) = k := by omega
  have hw5 : IntKind.i64.wrap (((b - a : Nat) : Int) - (k : Int)) = ((b - a - k : Nat) : Int) := by rw [wI64 (by omega) (by omega)]; omega
  simp -implicitDefEqProofs -dsimp only [TG3_b, TG3_n23, TG3_n37, tb_all hA, rowsI_gr g, hl.1, ha, hw1, hw2, hw3, hw4, hmin, hab, hkk, z0, z1, z2, z3, ceRows_len, ceRows_drop, ceRows_take, hM, hmm, htk, hcp, hw5, z4, z5, z6, z7, vcS, ↓vcP1, ↓vcP2, ↓reduceIte, reduceCtorEq, Nat.reduceLT, Nat.reduceLeDiff, Nat.reduceEqDiff, Nat.reduceAdd, Nat.reduceSub, Nat.reduceMul, Int.reduceLT, Int.reduceLE, Int.reduceEq, Int.reduceToNat, Int.reduceAdd, Int.reduceSub, Int.reduceNeg, List.reduceReplicate, Nat.reducePow, Int.reduceMul]
  have m1 : ((L.drop (a + k)).take (b - a - k)).length = a + (b - a - k) - a := by simp; omega
  have l1 : (midF L a (a + (b - a - k)) ((L.drop (a + k)).take (b - a - k))).length = L.length := midF_len (by omega) (by omega) m1
  refine fill_K (tb_ss hA _) (by omega) (by omega) fun T2 h2 k2 => ?_
  simp -implicitDefEqProofs -dsimp only [TG3_b, TG3_n23, TG3_n37, vcS, ↓vcP1, ↓vcP2, ↓reduceIte, reduceCtorEq, Nat.reduceLT, Nat.reduceLeDiff, Nat.reduceEqDiff, Nat.reduceAdd, Nat.reduceSub, Nat.reduceMul, Int.reduceLT, Int.reduceLE, Int.reduceEq, Int.reduceToNat, Int.reduceAdd, Int.reduceSub, Int.reduceNeg, List.reduceReplicate, Nat.reducePow, Int.reduceMul]
  rw [up_eq hab.1 hab.2 ek] at h2
  exact ⟨by have := kp.1; have := k2.1; simp at this; omega, h T2 p hp h2 (kp.new ((Keep.set T' p _).trans k2 (k := [p]) (by simp) (by simp)) (by simpa using hp))⟩
theorem gdown_K {T : Objs} {q rows cols top bot : Nat} {n : Int} {L : List Ce} {K : DV → Objs → Prop} (hq : T[q]? = some (some (.arr 3 (ceRows L)))) (g : GrOk L rows cols) (ht : top ≤ bot) (hb : bot < rows)
    (h : ∀ T' p, T.length ≤ p → T'[p]? = some (some (.arr 3 (ceRows (dnF L cols top bot n)))) → Keep T T' [] → K (.own p 0 L.length) T') : CallK PG 56 [.own q 0 L.length, .int .i64 cols, .int .i64 top, .int .i64 bot, .int .i64 n] T K := by
  have h1 := g.r
  have h2 := g.c
  have hl := g.lim
  have hrow := row_in (cols := cols) hb
  have hsucc := row_succ bot cols
  have htb : top * cols ≤ (bot + 1) * cols := Nat.mul_le_mul_right _ (by omega)
  have hgl := g.len
  have hp : (top : Int) * cols = ((top * cols : Nat) : Int) := by simp
  have hp1 : ((bot : Int) + 1) * cols = (((bot + 1) * cols : Nat) : Int) := by simp
  have hw1 : IntKind.i64.wrap ((bot : Int) + 1) = (bot : Int) + 1 := wI64 (by omega) (by omega)
  have hw2 : IntKind.i64.wrap ((top : Int) * cols) = ((top * cols : Nat) : Int) := by rw [hp]; exact wI64 (by omega) (by omega)
  have hw3 : IntKind.i64.wrap (((bot : Int) + 1) * cols) = (((bot + 1) * cols : Nat) : Int) := by rw [hp1]; exact wI64 (by omega) (by omega)
  have hn : nearN n ≤ 1000 := by unfold nearN; omega
  have hnm : nearN n * cols ≤ 1000 * 1000 := Nat.mul_le_mul hn h2.2
  have hp4 : ((nearN n : Nat) : Int) * cols = ((nearN n * cols : Nat) : Int) := by simp
  have hw4 : IntKind.i64.wrap ((nearN n : Int) * cols) = ((nearN n * cols : Nat) : Int) := by rw [hp4]; exact wI64 (by omega) (by omega)
  have ha : decide ((0 : Int) ≤ top ∧ (top : Int) ≤ bot ∧ (bot : Int) < rows) = true := decide_eq_true (by omega)
  refine CallK.of_fn TG3_ok rc_gdown_ok (by simp [rc_gdown]) ?_
  unfold rc_gdown
  dsimp only
  simp -implicitDefEqProofs -dsimp only [TG3_b, TG3_n23, TG3_n37, tb_all hq, rowsI_gr g, hl.1, ha, vcS, ↓vcP1, ↓vcP2, ↓reduceIte, reduceCtorEq, Nat.reduceLT, Nat.reduceLeDiff, Nat.reduceEqDiff, Nat.reduceAdd, Nat.reduceSub, Nat.reduceMul, Int.reduceLT, Int.reduceLE, Int.reduceEq, Int.reduceToNat, Int.reduceAdd, Int.reduceSub, Int.reduceNeg, List.reduceReplicate, Nat.reducePow, Int.reduceMul]
  refine cclone_K hq (by omega) hl.2 hl.1 fun T' p hp hA kp => ?_
  simp only [List.drop_zero, List.take_length] at hA
  obtain ⟨a, ea⟩ : ∃ a, a = top * cols := ⟨_, rfl⟩
  obtain ⟨b, eb⟩ : ∃ b, b = (bot + 1) * cols := ⟨_, rfl⟩
  obtain ⟨e, ee⟩ : ∃ e, e = nearN n * cols := ⟨_, rfl⟩
  unfold dnF at h
  rw [← ea, ← eb, ← ee] at h
  rw [← ea] at hw2
  rw [← eb] at hw3
  rw [← ee] at hw4
  rw [← ea, ← eb] at htb
  rw [← eb] at hrow
  obtain ⟨k, ek⟩ : ∃ k, k = min e (b - a) := ⟨_, rfl⟩
  have hmin : min (e : Int) ((b - a : Nat) : Int) = (k : Int) := by omega
  have hab : a ≤ b ∧ b ≤ L.length := by omega
  have hkk : k ≤ b - a := by omega
  have z0 : (0 : Int) ≤ (a : Int) := by omega
  have z1 : (0 : Int) ≤ (b : Int) := by omega
  have z2 : (0 : Int) ≤ (k : Int) := by omega
  have z3 : a + (k + (b - a - k)) ≤ L.length := by omega
  have hM : ((L.drop a).take (b - a)).length = b - a := by simp; omega
  have hmm : min (b - a) (b - a - k) = b - a - k := by omega
  have htk : (List.take (b - a - k) (List.take (b - a) (L.drop a))) = List.take (b - a - k) (L.drop a) := by rw [List.take_take, Nat.min_eq_left (by omega)]
  have hcp : ceRows (List.take (a + k) L) ++ (ceRows (List.take (b - a - k) (List.drop a L)) ++ ceRows (List.drop (a + (k + (b - a - k))) L)) = ceRows (midF L (a + k) (a + k + (b - a - k)) ((L.drop a).take (b - a - k))) := by rw [ceRows_app, ceRows_app]; simp [midF, Nat.add_assoc]
  have hw5 : k - 0 = k := rfl
  have z4 : a + (b - a) ≤ L.length := by omega
  have z5 : (0 : Int) ≤ ((b - a - k : Nat) : Int) := by omega
  have z6 : b - a - k ≤ b - a := by omega
  have z7 : b - a - (b - a - k) = k := by omega
  have hw5 : IntKind.i64.wrap (((b - a : Nat) : Int) - (k : Int)) = ((b - a - k : Nat) : Int) := by rw [wI64 (by omega) (by omega)]; omega
  simp -implicitDefEqProofs -dsimp only [TG3_b, TG3_n23, TG3_n37, tb_all hA, rowsI_gr g, hl.1, ha, hw1, hw2, hw3, hw4, hmin, hab, hkk, z0, z1, z2, z3, ceRows_len, ceRows_drop, ceRows_take, hM, hmm, htk, hcp, hw5, z4, z5, z6, z7, vcS, ↓vcP1, ↓vcP2, ↓reduceIte, reduceCtorEq, Nat.reduceLT, Nat.reduceLeDiff, Nat.reduceEqDiff, Nat.reduceAdd, Nat.reduceSub, Nat.reduceMul, Int.reduceLT, Int.reduceLE, Int.reduceEq, Int.reduceToNat, Int.reduceAdd, Int.reduceSub, Int.reduceNeg, List.reduceReplicate, Nat.reducePow, Int.reduceMul]
  have m1 : ((L.drop a).take (b - a - k)).length = a + k + (b - a - k) - (a + k) := by simp; omega
  have l1 : (midF L (a + k) (a + k + (b - a - k)) ((L.drop a).take (b - a - k))).length = L.length := midF_len (by omega) (by omega) m1
  have hz : a + (k + (b - a - k)) = a + k + (b - a - k) := (Nat.add_assoc _ _ _).symm
  refine ⟨Nat.zero_le _, ?_⟩
  refine fill_K (L := midF L (a + k) (a + (k + (b - a - k))) ((L.drop a).take (b - a - k))) (n := k) (tb_ss hA _) (by rw [hz, l1]; omega) (by rw [hz, l1]; omega) fun T2 h2 k2 => ?_
  simp -implicitDefEqProofs -dsimp only [TG3_b, TG3_n23, TG3_n37, vcS, ↓vcP1, ↓vcP2, ↓reduceIte, reduceCtorEq, Nat.reduceLT, Nat.reduceLeDiff, Nat.reduceEqDiff, Nat.reduceAdd, Nat.reduceSub, Nat.reduceMul, Int.reduceLT, Int.reduceLE, Int.reduceEq, Int.reduceToNat, Int.reduceAdd, Int.reduceSub, Int.reduceNeg, List.reduceReplicate, Nat.reducePow, Int.reduceMul]
  rw [hz, dn_eq hab.1 hab.2 ek] at h2
  exact ⟨by have := kp.1; have := k2.1; simp at this; omega, h T2 p hp h2 (kp.new ((Keep.set T' p _).trans k2 (k := [p]) (by simp) (by simp)) (by simpa using hp))⟩
end Go.Proofs.YtjmnbpilnneonaaDoor
