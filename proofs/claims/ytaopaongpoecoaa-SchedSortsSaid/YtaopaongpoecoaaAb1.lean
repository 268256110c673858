/- An abstract machine over the model: abstract values, states, and how they stand to values and worlds. -/
import Derived.Orders
import Derived.Below
import Derived.Laws.IdiomCopy
import Derived.Laws.World
set_option linter.unusedVariables false
set_option linter.unusedSimpArgs false
namespace Go.Proofs.Ytaopaongpoecoaa
open Go.RowKit

/-- What is known of a slice's pointer and capacity. -/
inductive SK where
  | any | nil | nonnil | zero
  deriving DecidableEq, Inhabited

/-- What holds other values: an interface's dynamic type (round one value, round a struct's), a func with what it captures. -/
inductive WK where
  | ifc (t : TypeId)
  | ifa (t : TypeId)
  | clo (f : FuncId)
  deriving DecidableEq, Inhabited

/-- Abstract values. -/
inductive DV where
  | undef
  | int (k : IntKind) (n : Int)
  | bool (b : Bool)
  | str (s : List UInt8)
  | lit (v : Value)
  | agg (cs : List DV)
  | tup (cs : List DV)
  | sl (sz : Nat) (rows : List (List DV)) (k : SK)
  | own (o off n : Nat)
  | ptr (o i j : Nat)
  | rp (row : List DV) (j : Nat)
  | wrap (w : WK) (cs : List DV)
  deriving Inhabited

/-- Where an object lies: 'cap' rows of 'sz' cells. -/
structure Place where
  block : Nat
  off : Nat
  sz : Nat
  cap : Nat

def Place.cellAt (p : Place) (m : Nat) : Addr := ⟨p.block, p.off + m, none⟩

/-- What is known of memory: cells that stay as they are; the objects' places. -/
structure Gh where
  rd : Addr → Option Value
  pl : Nat → Option Place

def SK.ok : SK → Option Addr → Nat → Prop
  | .any, p, c => p = none → c = 0
  | .nil, p, c => p = none ∧ c = 0
  | .nonnil, p, _ => p.isSome = true
  | .zero, _, c => c = 0

/-- How an abstract value stands to a value. -/
inductive Rel (G : Gh) : DV → Value → Prop where
  | undef (v : Value) : Rel G .undef v
  | int (k : IntKind) (n : Int) : Rel G (.int k n) (.int k n)
  | bool (b : Bool) : Rel G (.bool b) (.bool b)
  | str (s : List UInt8) : Rel G (.str s) (.string ⟨s.toArray⟩)
  | lit (v : Value) : Rel G (.lit v) v
  | agg (cs : List DV) (vs : Array Value) : vs.size = cs.length → (∀ (i : Nat) (c : DV), cs[i]? = some c → Rel G c (vs.getD i undef)) → Rel G (.agg cs) (.agg vs)
  | tup (cs : List DV) (vs : Array Value) : vs.size = cs.length → (∀ (i : Nat) (c : DV), cs[i]? = some c → Rel G c (vs.getD i undef)) → Rel G (.tup cs) (.tuple vs)
  | sl (sz : Nat) (rows : List (List DV)) (k : SK) (p : Option Addr) (len cap b o : Nat) (vals : Nat → Nat → Value) : len = rows.length → k.ok p cap → len ≤ cap →
      (rows ≠ [] → p = some ⟨b, o, none⟩) → (∀ (i : Nat) (row : List DV), rows[i]? = some row → row.length = sz) →
      (∀ (i j : Nat) (row : List DV) (c : DV), rows[i]? = some row → row[j]? = some c → G.rd ⟨b, o + (i * sz + j), none⟩ = some (vals i j)) →
      (∀ (i j : Nat) (row : List DV) (c : DV), rows[i]? = some row → row[j]? = some c → Rel G c (vals i j)) → Rel G (.sl sz rows k) (.slice p len cap)
  | own (o off n : Nat) (pl : Place) (p : Option Addr) (c : Nat) : G.pl o = some pl → c = pl.cap - off → off + n ≤ pl.cap →
      (0 < c → p = some (pl.cellAt (off * pl.sz))) → Rel G (.own o off n) (.slice p n c)
  | ptr (o i j : Nat) (pl : Place) : G.pl o = some pl → Rel G (.ptr o i j) (.pointer (some (pl.cellAt (i * pl.sz + j))))
  | rp (row : List DV) (j b o : Nat) (vals : Nat → Value) : (∀ (m : Nat) (c : DV), row[m]? = some c → G.rd ⟨b, o + m, none⟩ = some (vals m)) →
      (∀ (m : Nat) (c : DV), row[m]? = some c → Rel G c (vals m)) → Rel G (.rp row j) (.pointer (some ⟨b, o + j, none⟩))

  | ifc (t : TypeId) (d : DV) (v : Value) : Rel G d v → Rel G (.wrap (.ifc t) [d]) (.iface t v)
  | ifa (t : TypeId) (cs : List DV) (vs : Array Value) : vs.size = cs.length → (∀ (i : Nat) (c : DV), cs[i]? = some c → Rel G c (vs.getD i undef)) → Rel G (.wrap (.ifa t) cs) (.iface t (.agg vs))
  | clo (f : FuncId) (cs : List DV) (vs : Array Value) : vs.size = cs.length → (∀ (i : Nat) (c : DV), cs[i]? = some c → Rel G c (vs.getD i undef)) → Rel G (.wrap (.clo f) cs) (.func (.func f) #[] vs)

/-- More is known. -/
structure Gh.le (G G' : Gh) : Prop where
  rd : ∀ a v, G.rd a = some v → G'.rd a = some v
  pl : ∀ k p, G.pl k = some p → G'.pl k = some p

theorem Gh.le.refl (G : Gh) : G.le G := ⟨fun _ _ h => h, fun _ _ h => h⟩
theorem Gh.le.trans {A B C : Gh} (h : A.le B) (k : B.le C) : A.le C := ⟨fun a v x => k.rd a v (h.rd a v x), fun a v x => k.pl a v (h.pl a v x)⟩

theorem Rel.mono {G G' : Gh} (h : G.le G') {d : DV} {v : Value} (r : Rel G d v) : Rel G' d v := by
  induction r with
  | undef v => exact .undef v
  | int k n => exact .int k n
  | bool b => exact .bool b
  | str s => exact .str s
  | lit v => exact .lit v
  | agg cs vs hs _ ih => exact .agg cs vs hs ih
  | tup cs vs hs _ ih => exact .tup cs vs hs ih
  | sl sz rows k p len cap b o vals h1 h2 h3 h4 h5 h6 _ ih => exact .sl sz rows k p len cap b o vals h1 h2 h3 h4 h5 (fun i j row c a b => h.rd _ _ (h6 i j row c a b)) ih
  | own o off n pl p c h1 h2 h3 h4 => exact .own o off n pl p c (h.pl _ _ h1) h2 h3 h4
  | ptr o i j pl h1 => exact .ptr o i j pl (h.pl _ _ h1)
  | rp row j b o vals h1 _ ih => exact .rp row j b o vals (fun m c a => h.rd _ _ (h1 m c a)) ih
  | ifc t d v _ ih => exact .ifc t d v ih
  | ifa t cs vs hs _ ih => exact .ifa t cs vs hs ih
  | clo f cs vs hs _ ih => exact .clo f cs vs hs ih

/-- An object: one row of cells (a variable), or rows of cells (what a slice lies in). -/
inductive Ob where
  | box (cs : List DV)
  | arr (sz : Nat) (rows : List (List DV))
  deriving Inhabited
def Ob.rows : Ob → List (List DV)
  | .box cs => [cs]
  | .arr _ rows => rows
def Ob.sz : Ob → Nat
  | .box cs => cs.length
  | .arr sz _ => sz
/-- none: it's dead. -/
abbrev Objs := List (Option Ob)

/-- What is frozen of a block is none of its cells. -/
def MkOk (w : World) (b : Nat) : Prop := ∀ cs T fr, w.heap[b]? = some (.cells cs T fr) → fr.1 = fr.2 ∨ cs.size ≤ fr.1
theorem MkOk.of_eq {w w' : World} {b : Nat} (e : w'.heap[b]? = w.heap[b]?) (h : MkOk w b) : MkOk w' b := fun cs T fr h1 => h cs T fr (e ▸ h1)
/-- An object as it lies. -/
structure LiveAt (G : Gh) (w : World) (p : Place) (ob : Ob) : Prop where
  psz : p.sz = ob.sz
  fits : ob.rows.length ≤ p.cap
  size : ∀ row, row ∈ ob.rows → row.length = p.sz
  there : ∀ m, m < p.cap * p.sz → ∃ v, w.cell? (p.cellAt m) = some v ∧ v.oneCell' = true ∧ w.frozen? (p.cellAt m) = false
  holds : ∀ (i j : Nat) row c v, ob.rows[i]? = some row → row[j]? = some c → w.cell? (p.cellAt (i * p.sz + j)) = some v → Rel G c v
  mko : 0 < p.cap * p.sz → MkOk w p.block

/-- Memory as the abstract state has it. -/
structure Heap (G : Gh) (objs : Objs) (w : World) : Prop where
  pls : ∀ k p, G.pl k = some p → k < objs.length
  live : ∀ k ob, objs[k]? = some (some ob) → ∃ p, G.pl k = some p ∧ LiveAt G w p ob
  sep : ∀ k k' rows rows' p p' m m', objs[k]? = some (some rows) → objs[k']? = some (some rows') → k ≠ k' → G.pl k = some p → G.pl k' = some p' →
    m < p.cap * p.sz → m' < p'.cap * p'.sz → p.cellAt m ≠ p'.cellAt m'
  rdv : ∀ a v, G.rd a = some v → w.cell? a = some v ∧ v.oneCell' = true
  rds : ∀ k rows p m, objs[k]? = some (some rows) → G.pl k = some p → m < p.cap * p.sz → G.rd (p.cellAt m) = none

/-- The world and the ghost in which a function began; the cells that it may write; how many temporaries it has. -/
structure Ctx where
  w0 : World
  G0 : Gh
  W : Addr → Prop
  n : Nat

structure Frm (C : Ctx) (G : Gh) (objs : Objs) (w : World) : Prop where
  os : w.os = C.w0.os
  tape : w.tape = C.w0.tape
  output : w.output = C.w0.output
  size : C.w0.heap.size ≤ w.heap.size
  blk : ∀ b, b < C.w0.heap.size → (∀ o, ¬ C.W ⟨b, o, none⟩) → w.heap[b]? = C.w0.heap[b]?
  cell : ∀ a, a.block < C.w0.heap.size → ¬ C.W a → w.cell? a = C.w0.cell? a
  frz : ∀ a v, C.w0.cell? a = some v → ¬ C.W a → w.frozen? a = C.w0.frozen? a
  mine : ∀ k rows p m, objs[k]? = some (some rows) → G.pl k = some p → m < p.cap * p.sz → C.w0.heap.size ≤ p.block ∨ C.W (p.cellAt m)
  rdn : ∀ a v, G.rd a = some v → C.G0.rd a = some v ∨ C.w0.heap.size ≤ a.block ∨ C.W a
  le : C.G0.le G
  mko : ∀ b, b < C.w0.heap.size → MkOk C.w0 b → MkOk w b

/-- The program, and what its package-level variables hold. -/
structure Prg where
  P : Program
  GT : Nat → Option (List DV)

structure St where
  env : List (Nat × DV)
  objs : Objs

def St.look (t : Nat) : List (Nat × DV) → DV
  | [] => .undef
  | (k, d) :: l => if k = t then d else St.look t l
def St.get (s : St) (t : Nat) : DV := St.look t s.env
def St.ins (t : Nat) (d : DV) : List (Nat × DV) → List (Nat × DV)
  | [] => [(t, d)]
  | (k, x) :: l => if t < k then (t, d) :: (k, x) :: l else if k = t then (t, d) :: l else (k, x) :: St.ins t d l
def St.put (s : St) (dst : Option Nat) (d : DV) : St :=
  match dst with
  | some t => { s with env := St.ins t d s.env }
  | none => s

theorem St.look_ins (t u : Nat) (d : DV) : ∀ l : List (Nat × DV), St.look u (St.ins t d l) = if t = u then d else St.look u l
  | [] => by simp [St.ins, St.look]
  | (k, x) :: l => by
    have ih := St.look_ins t u d l
    by_cases h1 : t < k
    · simp only [St.ins, if_pos h1, St.look]
    · by_cases h2 : k = t
      · subst h2
        simp only [St.ins, if_neg h1, if_true, St.look]
        split <;> rfl
      · simp only [St.ins, if_neg h1, if_neg h2, St.look, ih]
        by_cases h3 : k = u
        · subst h3; simp [show ¬ t = k from fun e => h2 e.symm]
        · simp [h3]

theorem St.get_put (s : St) (t u : Nat) (d : DV) : (s.put (some t) d).get u = if t = u then d else s.get u := St.look_ins t u d s.env

/-- The globals' cells. -/
def GlobOk (E : Prg) (G : Gh) : Prop := ∀ g row, E.GT g = some row → Rel G (.rp row 0) (.pointer (some ⟨g, 0, none⟩))

/-- How an abstract state stands to a frame's temporaries and the world. -/
structure RelG (E : Prg) (C : Ctx) (G : Gh) (st : St) (a : Act) (w : World) : Prop where
  env : ∀ t, Rel G (st.get t) (a.tmps.getD t undef)
  num : a.tmps.size = C.n
  defs : a.defers = []
  heap : Heap G st.objs w
  frm : Frm C G st.objs w
  glob : GlobOk E G

def RelSt (E : Prg) (C : Ctx) (st : St) (a : Act) (w : World) : Prop := ∃ G, RelG E C G st a w

theorem getD_set (xs : Array Value) (t u : Nat) (v d : Value) (h : t < xs.size) : (xs.setIfInBounds t v).getD u d = if t = u then v else xs.getD u d := by
  simp only [Array.getD_eq_getD_getElem?, Array.getElem?_setIfInBounds]
  split
  · rename_i e; subst e; simp [h]
  · rfl

theorem RelG.put {E : Prg} {C : Ctx} {G : Gh} {st : St} {a : Act} {w : World} (h : RelG E C G st a w) {dst : Option Nat} (hd : ∀ t, dst = some t → t < C.n) {d : DV} {v : Value}
    (r : Rel G d v) : RelG E C G (st.put dst d) (a.put dst v) w := by
  cases dst with
  | none => exact h
  | some t =>
    refine ⟨fun u => ?_, by simp [Act.put, h.num], h.defs, h.heap, h.frm, h.glob⟩
    rw [St.get_put]
    simp only [Act.put]
    rw [getD_set _ _ _ _ _ (by rw [h.num]; exact hd t rfl)]
    split
    · exact r
    · exact h.env u

end Go.Proofs.Ytaopaongpoecoaa
