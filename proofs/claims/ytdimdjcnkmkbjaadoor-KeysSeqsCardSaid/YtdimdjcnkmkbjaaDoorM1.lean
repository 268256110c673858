/- Texts Ab1, Ab2, Ab3, Ab4, Ab5, Ab6, Ab7, Ab8, Ab9, Ab10, Ab37 in one. -/
import Derived.Orders
import Derived.Below
import Derived.Laws.IdiomCopy
import Derived.Laws.World
import Derived.Laws.Entries
import Derived.Laws.Cells
import Derived.Laws.Strings
import Derived.Laws.Small
import Derived.Laws.Append
import Derived.Laws.MakeOwn
import Derived.Laws.BytesArg
import Derived.Laws.AppendOwn
import Derived.Lib.ConvBytes
import Derived.Laws.BytesString
import Derived.Laws.StructEq
import Derived.ChangeKeysEq
import Derived.MapKept
import Derived.Carry
set_option linter.unusedVariables false
set_option linter.unusedSimpArgs false
set_option maxRecDepth 10000
namespace Go.Proofs.YtdimdjcnkmkbjaaDoor
open Go.RowKit
theorem sj {α : Type _} {a b : α} (h : some a = some b) : a = b := Option.some.inj h
inductive SK where
  | any | nil | nonnil | zero
  deriving DecidableEq, Inhabited
inductive WK where
  | ifc (t : TypeId)
  | ifa (t : TypeId)
  | clo (f : FuncId)
  deriving DecidableEq, Inhabited
inductive DV where
  | undef
  | int (k : IntKind) (n : Int)
  | bool (b : Bool)
  | str (s : List UInt8)
  | lit (v : Value)
  | agg (cs : List DV)
  | tup (cs : List DV)
  | sl (sz : Nat) (rows : List (List DV)) (k : SK)
  | own (o off n : Nat)
  | ptr (o i j : Nat)
  | rp (row : List DV) (j : Nat)
  | wrap (w : WK) (cs : List DV)
  | mp (o : Nat)
  deriving Inhabited
structure Place where
  block : Nat
  off : Nat
  sz : Nat
  cap : Nat
def Place.cellAt (p : Place) (m : Nat) : Addr := ⟨p.block, p.off + m, none⟩
structure Gh where
  rd : Addr → Option Value
  pl : Nat → Option Place
def SK.ok : SK → Option Addr → Nat → Prop
  | .any, p, c => p = none → c = 0
  | .nil, p, c => p = none ∧ c = 0
  | .nonnil, p, _ => p.isSome = true
  | .zero, _, c => c = 0
inductive Rel (G : Gh) : DV → Value → Prop where
  | undef (v : Value) : Rel G .undef v
  | int (k : IntKind) (n : Int) : Rel G (.int k n) (.int k n)
  | bool (b : Bool) : Rel G (.bool b) (.bool b)
  | str (s : List UInt8) : Rel G (.str s) (.string ⟨s.toArray⟩)
  | lit (v : Value) : Rel G (.lit v) v
  | agg (cs : List DV) (vs : Array Value) : vs.size = cs.length → (∀ (i : Nat) (c : DV), cs[i]? = some c → Rel G c (vs.getD i undef)) → Rel G (.agg cs) (.agg vs)
  | tup (cs : List DV) (vs : Array Value) : vs.size = cs.length → (∀ (i : Nat) (c : DV), cs[i]? = some c → Rel G c (vs.getD i undef)) → Rel G (.tup cs) (.tuple vs)
  | sl (sz : Nat) (rows : List (List DV)) (k : SK) (p : Option Addr) (len cap b o : Nat) (vals : Nat → Nat → Value) : len = rows.length → k.ok p cap → len ≤ cap →
      (rows ≠ [] → p = some ⟨b, o, none⟩) → (∀ (i : Nat) (row : List DV), rows[i]? = some row → row.length = sz) →
      (∀ (i j : Nat) (row : List DV) (c : DV), rows[i]? = some row → row[j]? = some c → G.rd ⟨b, o + (i * sz + j), none⟩ = some (vals i j)) →
      (∀ (i j : Nat) (row : List DV) (c : DV), rows[i]? = some row → row[j]? = some c → Rel G c (vals i j)) → Rel G (.sl sz rows k) (.slice p len cap)
  | own (o off n : Nat) (pl : Place) (p : Option Addr) (c : Nat) : G.pl o = some pl → c = pl.cap - off → off + n ≤ pl.cap →
      (0 < c → p = some (pl.cellAt (off * pl.sz))) → Rel G (.own o off n) (.slice p n c)
  | ptr (o i j : Nat) (pl : Place) : G.pl o = some pl → Rel G (.ptr o i j) (.pointer (some (pl.cellAt (i * pl.sz + j))))
  | rp (row : List DV) (j b o : Nat) (vals : Nat → Value) : (∀ (m : Nat) (c : DV), row[m]? = some c → G.rd ⟨b, o + m, none⟩ = some (vals m)) →
      (∀ (m : Nat) (c : DV), row[m]? = some c → Rel G c (vals m)) → Rel G (.rp row j) (.pointer (some ⟨b, o + j, none⟩))
  | ifc (t : TypeId) (d : DV) (v : Value) : Rel G d v → Rel G (.wrap (.ifc t) [d]) (.iface t v)
  | ifa (t : TypeId) (cs : List DV) (vs : Array Value) : vs.size = cs.length → (∀ (i : Nat) (c : DV), cs[i]? = some c → Rel G c (vs.getD i undef)) → Rel G (.wrap (.ifa t) cs) (.iface t (.agg vs))
  | mp (o : Nat) (pl : Place) : G.pl o = some pl → Rel G (.mp o) (.map (some pl.block))
  | clo (f : FuncId) (cs : List DV) (vs : Array Value) : vs.size = cs.length → (∀ (i : Nat) (c : DV), cs[i]? = some c → Rel G c (vs.getD i undef)) → Rel G (.wrap (.clo f) cs) (.func (.func f) #[] vs)
structure Gh.le (G G' : Gh) : Prop where
  rd : ∀ a v, G.rd a = some v → G'.rd a = some v
  pl : ∀ k p, G.pl k = some p → G'.pl k = some p
theorem Gh.le.refl (G : Gh) : G.le G := ⟨fun _ _ h => h, fun _ _ h => h⟩
theorem Gh.le.trans {A B C : Gh} (h : A.le B) (k : B.le C) : A.le C := ⟨fun a v x => k.rd a v (h.rd a v x), fun a v x => k.pl a v (h.pl a v x)⟩
theorem Rel.mono {G G' : Gh} (h : G.le G') {d : DV} {v : Value} (r : Rel G d v) : Rel G' d v := by
  induction r with
  | undef v => exact .undef v
  | int k n => exact .int k n
  | bool b => exact .bool b
  | str s => exact .str s
  | lit v => exact .lit v
  | agg cs vs hs _ ih => exact .agg cs vs hs ih
  | tup cs vs hs _ ih => exact .tup cs vs hs ih
  | sl sz rows k p len cap b o vals h1 h2 h3 h4 h5 h6 _ ih => exact .sl sz rows k p len cap b o vals h1 h2 h3 h4 h5 (fun i j row c a b => h.rd _ _ (h6 i j row c a b)) ih
  | own o off n pl p c h1 h2 h3 h4 => exact .own o off n pl p c (h.pl _ _ h1) h2 h3 h4
  | ptr o i j pl h1 => exact .ptr o i j pl (h.pl _ _ h1)
  | rp row j b o vals h1 _ ih => exact .rp row j b o vals (fun m c a => h.rd _ _ (h1 m c a)) ih
  | ifc t d v _ ih => exact .ifc t d v ih
  | ifa t cs vs hs _ ih => exact .ifa t cs vs hs ih
  | mp o pl h1 => exact .mp o pl (h.pl _ _ h1)
  | clo f cs vs hs _ ih => exact .clo f cs vs hs ih
inductive Ob where
  | box (cs : List DV)
  | arr (sz : Nat) (rows : List (List DV))
  | map (es : List (DV × DV))
  deriving Inhabited
def Ob.rows : Ob → List (List DV)
  | .box cs => [cs]
  | .arr _ rows => rows
  | .map _ => []
def Ob.sz : Ob → Nat
  | .box cs => cs.length
  | .arr sz _ => sz
  | .map _ => 1
def Ob.cel : Ob → Prop
  | .map _ => False
  | _ => True
theorem Ob.cel_of {ob : Ob} {i : Nat} {row : List DV} (h : ob.rows[i]? = some row) : ob.cel := by
  cases ob with
  | box => trivial
  | arr => trivial
  | map => simp [Ob.rows] at h
abbrev Objs := List (Option Ob)
def MkOk (w : World) (b : Nat) : Prop := ∀ cs T fr, w.heap[b]? = some (.cells cs T fr) → fr.1 = fr.2 ∨ cs.size ≤ fr.1
theorem MkOk.of_eq {w w' : World} {b : Nat} (e : w'.heap[b]? = w.heap[b]?) (h : MkOk w b) : MkOk w' b := fun cs T fr h1 => h cs T fr (e ▸ h1)
structure MapAt (G : Gh) (w : World) (p : Place) (es : List (DV × DV)) : Prop where
  off : p.off = 0
  cap : p.cap = 1
  ents : ∃ a : Array MapEntry, w.heap[p.block]? = some (.map a a.size) ∧ a.size = es.length ∧ ∀ (i : Nat) k d, es[i]? = some (k, d) → ∃ e, a[i]? = some e ∧ e.born = i ∧ Rel G k e.key ∧ Rel G d e.val
structure LiveAt (G : Gh) (w : World) (p : Place) (ob : Ob) : Prop where
  psz : p.sz = ob.sz
  fits : ob.rows.length ≤ p.cap
  size : ∀ row, row ∈ ob.rows → row.length = p.sz
  there : ob.cel → ∀ m, m < p.cap * p.sz → ∃ v, w.cell? (p.cellAt m) = some v ∧ v.oneCell' = true ∧ w.frozen? (p.cellAt m) = false
  holds : ∀ (i j : Nat) row c v, ob.rows[i]? = some row → row[j]? = some c → w.cell? (p.cellAt (i * p.sz + j)) = some v → Rel G c v
  mko : 0 < p.cap * p.sz → MkOk w p.block
  mp : ∀ es, ob = .map es → MapAt G w p es
structure Heap (G : Gh) (objs : Objs) (w : World) : Prop where
  pls : ∀ k p, G.pl k = some p → k < objs.length
  live : ∀ k ob, objs[k]? = some (some ob) → ∃ p, G.pl k = some p ∧ LiveAt G w p ob
  sep : ∀ k k' rows rows' p p' m m', objs[k]? = some (some rows) → objs[k']? = some (some rows') → k ≠ k' → G.pl k = some p → G.pl k' = some p' →
    m < p.cap * p.sz → m' < p'.cap * p'.sz → p.cellAt m ≠ p'.cellAt m'
  rdv : ∀ a v, G.rd a = some v → w.cell? a = some v ∧ v.oneCell' = true
  rds : ∀ k rows p m, objs[k]? = some (some rows) → G.pl k = some p → m < p.cap * p.sz → G.rd (p.cellAt m) = none
structure Ctx where
  w0 : World
  G0 : Gh
  W : Addr → Prop
  n : Nat
structure Frm (C : Ctx) (G : Gh) (objs : Objs) (w : World) : Prop where
  os : w.os = C.w0.os
  tape : w.tape = C.w0.tape
  output : w.output = C.w0.output
  size : C.w0.heap.size ≤ w.heap.size
  blk : ∀ b, b < C.w0.heap.size → (∀ o, ¬ C.W ⟨b, o, none⟩) → w.heap[b]? = C.w0.heap[b]?
  cell : ∀ a, a.block < C.w0.heap.size → ¬ C.W a → w.cell? a = C.w0.cell? a
  frz : ∀ a v, C.w0.cell? a = some v → ¬ C.W a → w.frozen? a = C.w0.frozen? a
  mine : ∀ k rows p m, objs[k]? = some (some rows) → G.pl k = some p → m < p.cap * p.sz → C.w0.heap.size ≤ p.block ∨ C.W (p.cellAt m)
  rdn : ∀ a v, G.rd a = some v → C.G0.rd a = some v ∨ C.w0.heap.size ≤ a.block ∨ C.W a
  le : C.G0.le G
  mko : ∀ b, b < C.w0.heap.size → MkOk C.w0 b → MkOk w b
structure Prg where
  P : Program
  GT : Nat → Option (List DV)
structure St where
  env : List (Nat × DV)
  objs : Objs
def St.look (t : Nat) : List (Nat × DV) → DV
  | [] => .undef
  | (k, d) :: l => if k = t then d else St.look t l
def St.get (s : St) (t : Nat) : DV := St.look t s.env
def St.ins (t : Nat) (d : DV) : List (Nat × DV) → List (Nat × DV)
  | [] => [(t, d)]
  | (k, x) :: l => if t < k then (t, d) :: (k, x) :: l else if k = t then (t, d) :: l else (k, x) :: St.ins t d l
def St.put (s : St) (dst : Option Nat) (d : DV) : St :=
  match dst with
  | some t => { s with env := St.ins t d s.env }
  | none => s
theorem St.look_ins (t u : Nat) (d : DV) : ∀ l : List (Nat × DV), St.look u (St.ins t d l) = if t = u then d else St.look u l
  | [] => by simp [St.ins, St.look]
  | (k, x) :: l => by
    have ih := St.look_ins t u d l
    by_cases h1 : t < k
    · simp only [St.ins, if_pos h1, St.look]
    · by_cases h2 : k = t
      · subst h2
        simp only [St.ins, if_neg h1, if_true, St.look]
        split <;> rfl
      · simp only [St.ins, if_neg h1, if_neg h2, St.look, ih]
        by_cases h3 : k = u
        · subst h3; simp [show ¬ t = k from fun e => h2 e.symm]
        · simp [h3]
theorem St.get_put (s : St) (t u : Nat) (d : DV) : (s.put (some t) d).get u = if t = u then d else s.get u := St.look_ins t u d s.env
def GlobOk (E : Prg) (G : Gh) : Prop := ∀ g row, E.GT g = some row → Rel G (.rp row 0) (.pointer (some ⟨g, 0, none⟩))
structure RelG (E : Prg) (C : Ctx) (G : Gh) (st : St) (a : Act) (w : World) : Prop where
  env : ∀ t, Rel G (st.get t) (a.tmps.getD t undef)
  num : a.tmps.size = C.n
  defs : a.defers = []
  heap : Heap G st.objs w
  frm : Frm C G st.objs w
  glob : GlobOk E G
def RelSt (E : Prg) (C : Ctx) (st : St) (a : Act) (w : World) : Prop := ∃ G, RelG E C G st a w
theorem getD_set (xs : Array Value) (t u : Nat) (v d : Value) (h : t < xs.size) : (xs.setIfInBounds t v).getD u d = if t = u then v else xs.getD u d := by
  simp only [Array.getD_eq_getD_getElem?, Array.getElem?_setIfInBounds]
  split
  · rename_i e; subst e; simp [h]
  · rfl
theorem RelG.put {E : Prg} {C : Ctx} {G : Gh} {st : St} {a : Act} {w : World} (h : RelG E C G st a w) {dst : Option Nat} (hd : ∀ t, dst = some t → t < C.n) {d : DV} {v : Value}
    (r : Rel G d v) : RelG E C G (st.put dst d) (a.put dst v) w := by
  cases dst with
  | none => exact h
  | some t =>
    refine ⟨fun u => ?_, by simp [Act.put, h.num], h.defs, h.heap, h.frm, h.glob⟩
    rw [St.get_put]
    simp only [Act.put]
    rw [getD_set _ _ _ _ _ (by rw [h.num]; exact hd t rfl)]
    split
    · exact r
    · exact h.env u
theorem cellAt_add (p : Place) (m n : Nat) : (p.cellAt m).add n = p.cellAt (m + n) := by
  unfold Addr.add Place.cellAt
  split
  · subst n; rfl
  · simp [Nat.add_assoc]
theorem LiveAt.idx {G : Gh} {w : World} {p : Place} {ob : Ob} (h : LiveAt G w p ob) {i j : Nat} {row : List DV} {c : DV} (hi : ob.rows[i]? = some row) (hj : row[j]? = some c) :
    i * p.sz + j < p.cap * p.sz := by
  have h1 : i < ob.rows.length := (List.getElem?_eq_some_iff.1 hi).1
  have h2 : j < row.length := (List.getElem?_eq_some_iff.1 hj).1
  have h3 := h.size row (List.mem_of_getElem? hi)
  have h4 := h.fits
  have h5 : (i + 1) * p.sz ≤ p.cap * p.sz := Nat.mul_le_mul_right _ (by omega)
  rw [Nat.add_mul] at h5
  omega
theorem MapAt.mono {G G' : Gh} {w w' : World} {p : Place} {es : List (DV × DV)} (h : MapAt G w p es) (hG : G.le G') (hb : ∀ a c, w.heap[p.block]? = some (.map a c) → w'.heap[p.block]? = some (.map a c)) : MapAt G' w' p es := by
  obtain ⟨a, h1, h2, h3⟩ := h.ents
  exact ⟨h.off, h.cap, a, hb _ _ h1, h2, fun i k d hi => let ⟨e, g1, g2, g3, g4⟩ := h3 i k d hi; ⟨e, g1, g2, g3.mono hG, g4.mono hG⟩⟩
theorem MapAt.lt {G : Gh} {w : World} {p : Place} {es : List (DV × DV)} (h : MapAt G w p es) : p.block < w.heap.size := by
  obtain ⟨a, h1, _⟩ := h.ents
  exact (Array.getElem?_eq_some_iff.1 h1).1
theorem LiveAt.mono {G G' : Gh} {w w' : World} {p : Place} {ob : Ob} (h : LiveAt G w p ob) (hG : G.le G') (hb : ¬ ob.cel → ∀ a c, w.heap[p.block]? = some (.map a c) → w'.heap[p.block]? = some (.map a c))
    (hc : ∀ m, m < p.cap * p.sz → w'.cell? (p.cellAt m) = w.cell? (p.cellAt m)) (hf : ob.cel → ∀ m, m < p.cap * p.sz → w'.frozen? (p.cellAt m) = w.frozen? (p.cellAt m)) (hk : 0 < p.cap * p.sz → MkOk w p.block → MkOk w' p.block) : LiveAt G' w' p ob := by
  refine ⟨h.psz, h.fits, h.size, fun hx m hm => ?_, fun i j row c v hi hj hv => ?_, fun h0 => hk h0 (h.mko h0), fun es he => (h.mp es he).mono hG (hb (by rw [he]; exact id))⟩
  · rw [hc m hm, hf hx m hm]; exact h.there hx m hm
  · rw [hc _ (h.idx hi hj)] at hv
    exact (h.holds i j row c v hi hj hv).mono hG
theorem LiveAt.block_lt {G : Gh} {w : World} {p : Place} {ob : Ob} (h : LiveAt G w p ob) {m : Nat} (hm : m < p.cap * p.sz) : p.block < w.heap.size := by
  have hlt : ob.cel → p.block < w.heap.size := fun hx => by
    obtain ⟨v, hv, _⟩ := h.there hx m hm
    exact World.block_lt_of_cell? _ (p.cellAt m) hv
  cases ob with
  | box => exact hlt trivial
  | arr => exact hlt trivial
  | map es => exact (h.mp es rfl).lt
theorem LiveAt.noMap {G : Gh} {w : World} {p : Place} {ob : Ob} (h : LiveAt G w p ob) (hx : ob.cel) {m : Nat} (hm : m < p.cap * p.sz) {a : Array MapEntry} {c : Nat} : w.heap[p.block]? ≠ some (.map a c) := fun e => by
  obtain ⟨v, hv, _⟩ := h.there hx m hm
  simp [World.cell?, Place.cellAt, e] at hv
theorem Heap.mapBlk {G : Gh} {objs : Objs} {w : World} (h : Heap G objs w) {k o : Nat} {es : List (DV × DV)} {r : Ob} {q p : Place} (hk : objs[k]? = some (some (.map es))) (ho : objs[o]? = some (some r)) (hne : k ≠ o) (hq : G.pl k = some q) (hp : G.pl o = some p) {m : Nat} (hm : m < p.cap * p.sz) : p.block ≠ q.block := fun e => by
  obtain ⟨q', hq', hl⟩ := h.live k _ hk
  obtain rfl : q' = q := sj (hq'.symm.trans hq)
  obtain ⟨p', hp', hlp⟩ := h.live o _ ho
  obtain rfl : p' = p := sj (hp'.symm.trans hp)
  have hm1 := hl.mp es rfl
  obtain ⟨a, h1, _⟩ := hm1.ents
  have hcel : ¬ r.cel := fun hx => hlp.noMap hx hm (e ▸ h1)
  cases r with
  | box => exact hcel trivial
  | arr => exact hcel trivial
  | map es' =>
    have hm2 := hlp.mp es' rfl
    have s1 : q'.sz = 1 := hl.psz
    have s2 : p'.sz = 1 := hlp.psz
    exact h.sep k o _ _ q' p' 0 0 hk ho hne hq hp (by rw [hm1.cap, s1]; decide) (by rw [hm2.cap, s2]; decide) (by simp [Place.cellAt, hm1.off, hm2.off, e])
theorem getElem?_snoc {α : Type} (l : List α) (x : α) (k : Nat) : (l ++ [x])[k]? = if k < l.length then l[k]? else if k = l.length then some x else none := by
  by_cases h : k < l.length
  · rw [if_pos h, List.getElem?_append_left h]
  · rw [if_neg h, List.getElem?_append_right (by omega)]
    by_cases h2 : k = l.length
    · subst h2; simp
    · rw [if_neg h2, List.getElem?_eq_none (by simp; omega)]
theorem RelG.drew {E : Prg} {C : Ctx} {G : Gh} {st : St} {a : Act} {w : World} (h : RelG E C G st a w) : RelG E C G st a w.drew :=
  ⟨h.env, h.num, h.defs, ⟨h.heap.pls, fun k rows hk => let ⟨p, hp, hl⟩ := h.heap.live k rows hk; ⟨p, hp, hl.mono (.refl _) (fun _ _ _ h => h) (fun _ _ => rfl) (fun _ _ _ => rfl) (fun _ h => h)⟩, h.heap.sep, h.heap.rdv, h.heap.rds⟩,
   ⟨h.frm.os, h.frm.tape, h.frm.output, h.frm.size, h.frm.blk, h.frm.cell, h.frm.frz, h.frm.mine, h.frm.rdn, h.frm.le, h.frm.mko⟩, h.glob⟩
def Gh.more (G : Gh) (k : Nat) (p : Place) : Gh := { rd := G.rd, pl := fun x => if x = k then some p else G.pl x }
theorem Gh.le_more {G : Gh} {objs : Objs} {w : World} (h : Heap G objs w) (p : Place) : G.le (G.more objs.length p) :=
  ⟨fun _ _ x => x, fun k q hk => by
    have := h.pls k q hk
    simp only [Gh.more]
    rw [if_neg (by omega)]; exact hk⟩
theorem RelG.newO {E : Prg} {C : Ctx} {G : Gh} {st : St} {a : Act} {w : World} (h : RelG E C G st a w) (oj : Obj) (ob : Ob) (sz cap : Nat) (hl : LiveAt (G.more st.objs.length ⟨w.heap.size, 0, sz, cap⟩) (w.alloc oj) ⟨w.heap.size, 0, sz, cap⟩ ob) :
    RelG E C (G.more st.objs.length ⟨w.heap.size, 0, sz, cap⟩) { st with objs := st.objs ++ [some ob] } a (w.alloc oj) := by
  have hle : G.le (G.more st.objs.length ⟨w.heap.size, 0, sz, cap⟩) := Gh.le_more h.heap _
  have hself : (G.more st.objs.length ⟨w.heap.size, 0, sz, cap⟩).pl st.objs.length = some ⟨w.heap.size, 0, sz, cap⟩ := by simp [Gh.more]
  have hold_pl : ∀ k p, k < st.objs.length → (G.more st.objs.length ⟨w.heap.size, 0, sz, cap⟩).pl k = some p → G.pl k = some p := fun k p hk hp => by
    simp only [Gh.more] at hp; rwa [if_neg (by omega)] at hp
  have hkeep : ∀ p rows', LiveAt G w p rows' → LiveAt (G.more st.objs.length ⟨w.heap.size, 0, sz, cap⟩) (w.alloc oj) p rows' := fun p rows' hl =>
    hl.mono hle (fun _ a c e => by have := (Array.getElem?_eq_some_iff.1 e).1; simp only [World.alloc, Array.getElem?_push]; rw [if_neg (by omega)]; exact e) (fun m hm => World.cell?_alloc_lt _ _ _ (hl.block_lt hm)) (fun _ m hm => World.frozen?_alloc_old _ _ _ (Nat.ne_of_lt (hl.block_lt hm)))
      (fun h0 h1 => h1.of_eq (by have := hl.block_lt h0; simp only [World.alloc, Array.getElem?_push]; rw [if_neg (by omega)]))
  have hcase : ∀ (k : Nat) (rows' : Ob), (st.objs ++ [some ob])[k]? = some (some rows') → (k < st.objs.length ∧ st.objs[k]? = some (some rows')) ∨ (k = st.objs.length ∧ rows' = ob) := by
    intro k rows' hk
    rw [getElem?_snoc] at hk
    split at hk
    · exact .inl ⟨‹_›, hk⟩
    · split at hk
      · exact .inr ⟨‹_›, by simpa using hk.symm⟩
      · cases hk
  refine ⟨fun t => (h.env t).mono hle, h.num, h.defs, ⟨?_, ?_, ?_, ?_, ?_⟩, ⟨h.frm.os, h.frm.tape, h.frm.output, by simp; have := h.frm.size; omega, ?_, ?_, ?_, ?_, ?_, h.frm.le.trans hle, fun b hb h1 => (h.frm.mko b hb h1).of_eq (by have := h.frm.size; simp only [World.alloc, Array.getElem?_push]; rw [if_neg (by omega)])⟩, fun g row hg => (h.glob g row hg).mono hle⟩
  · intro k p hp
    simp only [Gh.more] at hp
    split at hp
    · subst k; simp
    · have := h.heap.pls k p hp; simp; omega
  · intro k rows' hk
    rcases hcase k rows' hk with ⟨hlt, hk'⟩ | ⟨rfl, rfl⟩
    · obtain ⟨p, hp, hl⟩ := h.heap.live k rows' hk'
      exact ⟨p, hle.pl _ _ hp, hkeep p rows' hl⟩
    · exact ⟨_, hself, hl⟩
  · intro k k' r r' p p' m m' hk hk' hne hp hp' hm hm' e
    rcases hcase k r hk with ⟨hlt, hk1⟩ | ⟨rfl, rfl⟩ <;> rcases hcase k' r' hk' with ⟨hlt', hk1'⟩ | ⟨rfl, rfl⟩
    · exact h.heap.sep k k' r r' p p' m m' hk1 hk1' hne (hold_pl _ _ hlt hp) (hold_pl _ _ hlt' hp') hm hm' e
    · obtain ⟨q, hq, hl⟩ := h.heap.live k r hk1
      obtain rfl : q = p := sj ((hold_pl _ _ hlt hp ▸ hq.symm : some q = some p))
      rw [hself] at hp'
      obtain rfl := sj hp'
      have := hl.block_lt hm
      have e2 : q.block = w.heap.size := congrArg Addr.block e
      omega
    · obtain ⟨q, hq, hl⟩ := h.heap.live k' r' hk1'
      obtain rfl : q = p' := sj ((hold_pl _ _ hlt' hp' ▸ hq.symm : some q = some p'))
      rw [hself] at hp
      obtain rfl := sj hp
      have := hl.block_lt hm'
      have e2 : w.heap.size = q.block := congrArg Addr.block e
      omega
    · exact hne rfl
  · intro x v hx
    obtain ⟨h1, h2⟩ := h.heap.rdv x v hx
    exact ⟨(World.cell?_alloc_lt _ _ _ (World.block_lt_of_cell? _ _ h1)).trans h1, h2⟩
  · intro k r p m hk hp hm
    rcases hcase k r hk with ⟨hlt, hk1⟩ | ⟨rfl, rfl⟩
    · exact h.heap.rds k r p m hk1 (hold_pl _ _ hlt hp) hm
    · rw [hself] at hp
      obtain rfl := sj hp
      show G.rd _ = none
      cases hrd : G.rd ((⟨w.heap.size, 0, sz, cap⟩ : Place).cellAt m) with
      | none => rfl
      | some v =>
        have := World.block_lt_of_cell? _ _ (h.heap.rdv _ v hrd).1
        simp [Place.cellAt] at this
  · intro b hb hn
    rw [← h.frm.blk b hb hn]
    have := h.frm.size
    simp only [World.alloc, Array.getElem?_push]
    rw [if_neg (by omega)]
  · intro x hx hn
    have := h.frm.size
    rw [World.cell?_alloc_lt _ _ _ (by omega)]
    exact h.frm.cell x hx hn
  · intro x v hx hn
    have := h.frm.size
    have := World.block_lt_of_cell? _ _ hx
    rw [World.frozen?_alloc_old _ _ _ (by omega)]
    exact h.frm.frz x v hx hn
  · intro k r p m hk hp hm
    rcases hcase k r hk with ⟨hlt, hk1⟩ | ⟨rfl, rfl⟩
    · exact h.frm.mine k r p m hk1 (hold_pl _ _ hlt hp) hm
    · rw [hself] at hp
      obtain rfl := sj hp
      exact .inl h.frm.size
  · exact fun x v hx => h.frm.rdn x v hx
theorem RelG.new {E : Prg} {C : Ctx} {G : Gh} {st : St} {a : Act} {w : World} (h : RelG E C G st a w) (cs : Array Value) (T : TypeId) (fr : Nat × Nat) (ob : Ob) (sz cap : Nat)
    (hmk : fr.1 = fr.2 ∨ cs.size ≤ fr.1) (hosz : ob.sz = sz) (hsz : cs.size = cap * sz) (hfit : ob.rows.length ≤ cap) (hrow : ∀ row, row ∈ ob.rows → row.length = sz) (hone : ∀ (m : Nat) (v : Value), cs[m]? = some v → v.oneCell' = true)
    (hold : ∀ (i j : Nat) row c v, ob.rows[i]? = some row → row[j]? = some c → cs[i * sz + j]? = some v → Rel G c v) (hcel : ob.cel := by trivial) :
    RelG E C (G.more st.objs.length ⟨w.heap.size, 0, sz, cap⟩) { st with objs := st.objs ++ [some ob] } a (w.alloc (.cells cs T fr)) := by
  have hfr : ∀ m, m < cs.size → ¬ (fr.1 ≤ m ∧ m < fr.2) := fun m hm h => by omega
  have hle : G.le (G.more st.objs.length ⟨w.heap.size, 0, sz, cap⟩) := Gh.le_more h.heap _
  have hcell : ∀ m, (w.alloc (.cells cs T fr)).cell? ((⟨w.heap.size, 0, sz, cap⟩ : Place).cellAt m) = cs[m]? := fun m => by
    simp [Place.cellAt, World.alloc, World.cell?, -World.alloc_eq]
  refine h.newO _ ob sz cap ⟨hosz.symm, hfit, hrow, fun _ m hm => ?_, fun i j row c v hi hj hv => ?_, fun _ cs' T' fr' h1 => ?_, fun es he => absurd hcel (by rw [he]; exact id)⟩
  · have hm' : m < cs.size := by rw [hsz]; exact hm
    refine ⟨cs[m], ?_, hone m _ (by simp [hm']), ?_⟩
    · rw [hcell]; simp [hm']
    · have := hfr m hm'
      obtain ⟨lo, hi⟩ := fr
      simp [Place.cellAt, World.alloc, World.frozen?, -World.alloc_eq]
      simp at this
      omega
  · rw [hcell] at hv
    exact (hold i j row c v hi hj hv).mono hle
  · simp [World.alloc, -World.alloc_eq] at h1
    obtain ⟨rfl, rfl, rfl⟩ := h1
    exact hmk
theorem RelG.newEmpty {E : Prg} {C : Ctx} {G : Gh} {st : St} {a : Act} {w : World} (h : RelG E C G st a w) (sz : Nat) :
    RelG E C (G.more st.objs.length ⟨0, 0, sz, 0⟩) { st with objs := st.objs ++ [some (.arr sz [])] } a w := by
  have hle : G.le (G.more st.objs.length ⟨0, 0, sz, 0⟩) := Gh.le_more h.heap _
  have hself : (G.more st.objs.length ⟨0, 0, sz, 0⟩).pl st.objs.length = some ⟨0, 0, sz, 0⟩ := by simp [Gh.more]
  have hcase : ∀ (k : Nat) (r : Ob) (p : Place) (m : Nat), (st.objs ++ [some (.arr sz [])])[k]? = some (some r) → (G.more st.objs.length ⟨0, 0, sz, 0⟩).pl k = some p → m < p.cap * p.sz → st.objs[k]? = some (some r) ∧ G.pl k = some p := by
    intro k r p m hk hp hm
    rw [getElem?_snoc] at hk
    by_cases h1 : k < st.objs.length
    · rw [if_pos h1] at hk
      refine ⟨hk, ?_⟩
      simp only [Gh.more] at hp; rwa [if_neg (by omega)] at hp
    · rw [if_neg h1] at hk
      by_cases h2 : k = st.objs.length
      · subst h2
        rw [hself] at hp
        obtain rfl := sj hp
        simp at hm
      · rw [if_neg h2] at hk; cases hk
  refine ⟨fun t => (h.env t).mono hle, h.num, h.defs, ⟨?_, ?_, ?_, h.heap.rdv, ?_⟩, ⟨h.frm.os, h.frm.tape, h.frm.output, h.frm.size, h.frm.blk, h.frm.cell, h.frm.frz, ?_, h.frm.rdn, h.frm.le.trans hle, h.frm.mko⟩, fun g row hg => (h.glob g row hg).mono hle⟩
  · intro k p hp
    simp only [Gh.more] at hp
    split at hp
    · subst k; simp
    · have := h.heap.pls k p hp; simp; omega
  · intro k r hk
    rw [getElem?_snoc] at hk
    by_cases h1 : k < st.objs.length
    · rw [if_pos h1] at hk
      obtain ⟨p, hp, hl⟩ := h.heap.live k r hk
      exact ⟨p, hle.pl _ _ hp, hl.mono hle (fun _ _ _ h => h) (fun _ _ => rfl) (fun _ _ _ => rfl) (fun _ h => h)⟩
    · rw [if_neg h1] at hk
      by_cases h2 : k = st.objs.length
      · subst h2
        rw [if_pos rfl] at hk
        obtain rfl : Ob.arr sz [] = r := by simpa using hk
        exact ⟨_, hself, rfl, by simp [Ob.rows], by simp [Ob.rows], fun _ m hm => by simp at hm, fun i j row c v hi => by simp [Ob.rows] at hi, fun h0 => by simp at h0, fun es he => by cases he⟩
      · rw [if_neg h2] at hk; cases hk
  · intro k k' r r' p p' m m' hk hk' hne hp hp' hm hm'
    obtain ⟨h1, h2⟩ := hcase k r p m hk hp hm
    obtain ⟨h3, h4⟩ := hcase k' r' p' m' hk' hp' hm'
    exact h.heap.sep k k' r r' p p' m m' h1 h3 hne h2 h4 hm hm'
  · intro k r p m hk hp hm
    obtain ⟨h1, h2⟩ := hcase k r p m hk hp hm
    exact h.heap.rds k r p m h1 h2 hm
  · intro k r p m hk hp hm
    obtain ⟨h1, h2⟩ := hcase k r p m hk hp hm
    exact h.frm.mine k r p m h1 h2 hm
structure Wrote (w w' : World) (R : Addr → Prop) : Prop where
  os : w'.os = w.os
  tape : w'.tape = w.tape
  output : w'.output = w.output
  size : w'.heap.size = w.heap.size
  blk : ∀ b, (∀ o, ¬ R ⟨b, o, none⟩) → w'.heap[b]? = w.heap[b]?
  cell : ∀ a, ¬ R a → w'.cell? a = w.cell? a
  frz : ∀ a, w'.frozen? a = w.frozen? a
  mko : ∀ b, MkOk w b → MkOk w' b
theorem Wrote.setCells (b : Nat) : ∀ (vs : List Value) (o : Nat) (w : World), Wrote w (w.setCells b o vs) (fun x => x.block = b ∧ x.spot = none ∧ o ≤ x.off ∧ x.off < o + vs.length)
  | [], o, w => ⟨rfl, rfl, rfl, rfl, fun _ _ => rfl, fun _ _ => rfl, fun _ => rfl, fun _ h => h⟩
  | v :: r, o, w => by
    have ih := Wrote.setCells b r (o + 1) (w.setCell ⟨b, o, none⟩ v)
    refine ⟨ih.os, ih.tape, ih.output, by rw [World.setCells, ih.size]; simp, fun k hk => ?_, fun x hx => ?_, fun x => World.frozen?_setCells _ _ _ _ _, fun k hk => ih.mko k fun cs T fr h1 => ?_⟩
    · have hb : k ≠ b := fun e => hk o ⟨e, rfl, Nat.le_refl _, by simp⟩
      rw [World.setCells, ih.blk k (fun q hq => hb hq.1)]
      simp only [World.setCell, Array.getElem?_modify]
      rw [if_neg (fun e => hb e.symm)]
    · exact World.cell?_setCells_out b (v :: r) o w x (fun h1 h2 => by
        rcases Nat.lt_or_ge x.off o with h3 | h3
        · exact .inl h3
        · rcases Nat.lt_or_ge x.off (o + (v :: r).length) with h4 | h4
          · exact absurd ⟨h1, h2, h3, h4⟩ hx
          · exact .inr h4)
    · simp only [World.setCell, Array.getElem?_modify] at h1
      split at h1
      · rename_i e
        subst e
        cases h2 : w.heap[b]? with
        | none => rw [h2] at h1; cases h1
        | some ob =>
          rw [h2] at h1
          cases ob with
          | cells c T0 f0 =>
            simp at h1
            obtain ⟨rfl, rfl, rfl⟩ := h1
            simpa using hk c T0 f0 h2
          | _ => simp at h1
      · exact hk cs T fr h1
theorem getElem?_set {α : Type} (l : List α) (k i : Nat) (x : α) : (l.set k x)[i]? = if k = i then (if k < l.length then some x else none) else l[i]? := by
  rw [List.getElem?_set]
theorem RelG.write {E : Prg} {C : Ctx} {G : Gh} {st : St} {a : Act} {w w' : World} (h : RelG E C G st a w) {o : Nat} {rows rows' : Ob} {p : Place} {R : Addr → Prop}
    (ho : st.objs[o]? = some (some rows)) (hp : G.pl o = some p) (hw : Wrote w w' R) (hR : ∀ x, R x → ∃ m, m < p.cap * p.sz ∧ x = p.cellAt m) (hl : LiveAt G w' p rows') :
    RelG E C G { st with objs := st.objs.set o (some rows') } a w' := by
  have hlen : o < st.objs.length := (List.getElem?_eq_some_iff.1 ho).1
  have hcase : ∀ (k : Nat) (r : Ob), (st.objs.set o (some rows'))[k]? = some (some r) → (k ≠ o ∧ st.objs[k]? = some (some r)) ∨ (k = o ∧ r = rows') := by
    intro k r hk
    rw [getElem?_set] at hk
    by_cases e : o = k
    · subst e; rw [if_pos rfl, if_pos hlen] at hk; exact .inr ⟨rfl, by simpa using hk.symm⟩
    · rw [if_neg e] at hk; exact .inl ⟨fun e' => e e'.symm, hk⟩
  have hany : ∀ (k : Nat) (r : Ob), (List.set st.objs o (some rows'))[k]? = some (some r) → ∃ r', st.objs[k]? = some (some r') := fun k r hk => by
    rcases hcase k r hk with ⟨_, h1⟩ | ⟨rfl, _⟩
    · exact ⟨_, h1⟩
    · exact ⟨_, ho⟩
  have hrd : ∀ x v, G.rd x = some v → ¬ R x := fun x v hx hRx => by
    obtain ⟨m, hm, rfl⟩ := hR x hRx
    rw [h.heap.rds o rows p m ho hp hm] at hx
    cases hx
  refine ⟨h.env, h.num, h.defs, ⟨?_, ?_, ?_, ?_, ?_⟩, ⟨hw.os.trans h.frm.os, hw.tape.trans h.frm.tape, hw.output.trans h.frm.output, by rw [hw.size]; exact h.frm.size, ?_, ?_, ?_, ?_, h.frm.rdn, h.frm.le, fun b hb h1 => hw.mko b (h.frm.mko b hb h1)⟩, h.glob⟩
  · intro k q hq; simpa using h.heap.pls k q hq
  · intro k r hk
    rcases hcase k r hk with ⟨hne, hk'⟩ | ⟨rfl, rfl⟩
    · obtain ⟨q, hq, hlq⟩ := h.heap.live k r hk'
      refine ⟨q, hq, hlq.mono (.refl _) (fun hx a c e => (hw.blk _ fun off hRx => ?_).trans e) (fun m hm => hw.cell _ (fun hRx => ?_)) (fun _ m _ => hw.frz _) (fun _ h1 => hw.mko _ h1)⟩
      · cases r with
        | box => exact hx trivial
        | arr => exact hx trivial
        | map es =>
          obtain ⟨m', hm', e⟩ := hR _ hRx
          exact h.heap.mapBlk hk' ho hne hq hp hm' (congrArg Addr.block e).symm
      · obtain ⟨m', hm', e⟩ := hR _ hRx
        exact h.heap.sep k o r rows q p m m' hk' ho hne hq hp hm hm' e
    · exact ⟨p, hp, hl⟩
  · intro k k' r r' q q' m m' hk hk' hne hq hq' hm hm'
    obtain ⟨r1, h1⟩ := hany k r hk
    obtain ⟨r1', h1'⟩ := hany k' r' hk'
    exact h.heap.sep k k' r1 r1' q q' m m' h1 h1' hne hq hq' hm hm'
  · intro x v hx
    obtain ⟨h1, h2⟩ := h.heap.rdv x v hx
    exact ⟨(hw.cell x (hrd x v hx)).trans h1, h2⟩
  · intro k r q m hk hq hm
    obtain ⟨r1, h1⟩ := hany k r hk
    exact h.heap.rds k r1 q m h1 hq hm
  · intro b hb hn
    rw [← h.frm.blk b hb hn]
    refine hw.blk b (fun off hRx => ?_)
    obtain ⟨m, hm, e⟩ := hR _ hRx
    rcases h.frm.mine o rows p m ho hp hm with h1 | h1
    · have : b = p.block := congrArg Addr.block e
      omega
    · exact hn off (e ▸ h1)
  · intro x hx hn
    rw [← h.frm.cell x hx hn]
    refine hw.cell x (fun hRx => ?_)
    obtain ⟨m, hm, e⟩ := hR _ hRx
    rcases h.frm.mine o rows p m ho hp hm with h1 | h1
    · have : x.block = p.block := congrArg Addr.block e
      omega
    · exact hn (e ▸ h1)
  · intro x v hx hn; rw [hw.frz]; exact h.frm.frz x v hx hn
  · intro k r q m hk hq hm
    obtain ⟨r1, h1⟩ := hany k r hk
    exact h.frm.mine k r1 q m h1 hq hm
theorem RelG.kill {E : Prg} {C : Ctx} {G : Gh} {st : St} {a : Act} {w : World} (h : RelG E C G st a w) (o : Nat) : RelG E C G { st with objs := st.objs.set o none } a w := by
  have hcase : ∀ (k : Nat) (r : Ob), (st.objs.set o none)[k]? = some (some r) → st.objs[k]? = some (some r) := by
    intro k r hk
    rw [getElem?_set] at hk
    by_cases e : o = k
    · rw [if_pos e] at hk
      by_cases e2 : o < st.objs.length
      · rw [if_pos e2] at hk; simp at hk
      · rw [if_neg e2] at hk; cases hk
    · rw [if_neg e] at hk; exact hk
  exact ⟨h.env, h.num, h.defs, ⟨fun k q hq => by simpa using h.heap.pls k q hq, fun k r hk => h.heap.live k r (hcase k r hk),
      fun k k' r r' q q' m m' hk hk' => h.heap.sep k k' r r' q q' m m' (hcase k r hk) (hcase k' r' hk'), h.heap.rdv, fun k r q m hk => h.heap.rds k r q m (hcase k r hk)⟩,
    ⟨h.frm.os, h.frm.tape, h.frm.output, h.frm.size, h.frm.blk, h.frm.cell, h.frm.frz, fun k r q m hk => h.frm.mine k r q m (hcase k r hk), h.frm.rdn, h.frm.le, h.frm.mko⟩, h.glob⟩
theorem RelG.move {E : Prg} {C : Ctx} {G : Gh} {st : St} {a : Act} {w : World} (h : RelG E C G st a w) {o off sz : Nat} {rows : List (List DV)} {p : Place}
    (ho : st.objs[o]? = some (some (.arr sz rows))) (hp : G.pl o = some p) (hoff : off ≤ p.cap) :
    RelG E C (G.more st.objs.length ⟨p.block, p.off + off * p.sz, p.sz, p.cap - off⟩) { st with objs := st.objs.set o none ++ [some (.arr sz (rows.drop off))] } a w := by
  have hlen : o < st.objs.length := (List.getElem?_eq_some_iff.1 ho).1
  have hle := Gh.le_more h.heap ⟨p.block, p.off + off * p.sz, p.sz, p.cap - off⟩
  generalize hN : (⟨p.block, p.off + off * p.sz, p.sz, p.cap - off⟩ : Place) = N at *
  have hself : (G.more st.objs.length N).pl st.objs.length = some N := by simp [Gh.more]
  have hold_pl : ∀ k q, k < st.objs.length → (G.more st.objs.length N).pl k = some q → G.pl k = some q := fun k q hk hq => by
    simp only [Gh.more] at hq; rwa [if_neg (by omega)] at hq
  have hcase : ∀ (k : Nat) (r : Ob), (st.objs.set o none ++ [some (.arr sz (rows.drop off))])[k]? = some (some r) → (k < st.objs.length ∧ k ≠ o ∧ st.objs[k]? = some (some r)) ∨ (k = st.objs.length ∧ r = .arr sz (rows.drop off)) := by
    intro k r hk
    rw [getElem?_snoc] at hk
    simp only [List.length_set] at hk
    split at hk
    · rw [getElem?_set] at hk
      by_cases e : o = k
      · rw [if_pos e, if_pos hlen] at hk; simp at hk
      · rw [if_neg e] at hk; exact .inl ⟨‹_›, fun e' => e e'.symm, hk⟩
    · split at hk
      · exact .inr ⟨‹_›, by simpa using hk.symm⟩
      · cases hk
  have hmul : (p.cap - off) * p.sz + off * p.sz = p.cap * p.sz := by rw [← Nat.add_mul]; congr 1; omega
  have hin : ∀ m, m < N.cap * N.sz → off * p.sz + m < p.cap * p.sz ∧ N.cellAt m = p.cellAt (off * p.sz + m) := fun m hm => by
    subst hN
    simp only at hm
    exact ⟨by omega, by simp [Place.cellAt, Nat.add_assoc]⟩
  obtain ⟨p', hp', hl⟩ := h.heap.live o (.arr sz rows) ho
  obtain rfl : p' = p := sj (hp' ▸ hp)
  refine ⟨fun t => (h.env t).mono hle, h.num, h.defs, ⟨?_, ?_, ?_, h.heap.rdv, ?_⟩, ⟨h.frm.os, h.frm.tape, h.frm.output, h.frm.size, h.frm.blk, h.frm.cell, h.frm.frz, ?_, h.frm.rdn, h.frm.le.trans hle, h.frm.mko⟩, fun g row hg => (h.glob g row hg).mono hle⟩
  · intro k q hq
    simp only [Gh.more] at hq
    split at hq
    · subst k; simp
    · have := h.heap.pls k q hq; simp; omega
  · intro k r hk
    rcases hcase k r hk with ⟨hlt, _, hk'⟩ | ⟨rfl, rfl⟩
    · obtain ⟨q, hq, hlq⟩ := h.heap.live k r hk'
      exact ⟨q, hle.pl _ _ hq, hlq.mono hle (fun _ _ _ h => h) (fun _ _ => rfl) (fun _ _ _ => rfl) (fun _ h => h)⟩
    · refine ⟨N, hself, ?_, ?_, ?_, ?_, ?_, ?_, fun es he => by cases he⟩
      · have := hl.psz; subst hN; exact this
      · have := hl.fits; subst hN; simp [Ob.rows] at this ⊢; omega
      · intro row hr; have := hl.size row (List.mem_of_mem_drop hr); subst hN; exact this
      · intro _ m hm
        obtain ⟨h1, h2⟩ := hin m hm
        rw [h2]; exact hl.there trivial _ h1
      · intro i j row c v hi hj hv
        simp only [Ob.rows] at hi
        rw [List.getElem?_drop] at hi
        have e : N.cellAt (i * N.sz + j) = p'.cellAt ((off + i) * p'.sz + j) := by
          subst hN
          simp only [Place.cellAt, Addr.mk.injEq, true_and, and_true]
          rw [Nat.add_mul]; omega
        rw [e] at hv
        exact (hl.holds (off + i) j row c v hi hj hv).mono hle
      · intro h0
        obtain ⟨h1, _⟩ := hin 0 h0
        have := hl.mko (by omega)
        subst hN
        exact this
  · intro k k' r r' q q' m m' hk hk' hne hq hq' hm hm' e
    rcases hcase k r hk with ⟨hlt, hno, hk1⟩ | ⟨rfl, rfl⟩ <;> rcases hcase k' r' hk' with ⟨hlt', hno', hk1'⟩ | ⟨rfl, rfl⟩
    · exact h.heap.sep k k' r r' q q' m m' hk1 hk1' hne (hold_pl _ _ hlt hq) (hold_pl _ _ hlt' hq') hm hm' e
    · rw [hself] at hq'
      obtain rfl := sj hq'
      obtain ⟨h1, h2⟩ := hin m' hm'
      exact h.heap.sep k o r (.arr sz rows) q p' m _ hk1 ho hno (hold_pl _ _ hlt hq) hp hm h1 (h2 ▸ e)
    · rw [hself] at hq
      obtain rfl := sj hq
      obtain ⟨h1, h2⟩ := hin m hm
      exact h.heap.sep k' o r' (.arr sz rows) q' p' m' _ hk1' ho hno' (hold_pl _ _ hlt' hq') hp hm' h1 (h2 ▸ e.symm)
    · exact hne rfl
  · intro k r q m hk hq hm
    rcases hcase k r hk with ⟨hlt, _, hk1⟩ | ⟨rfl, rfl⟩
    · exact h.heap.rds k r q m hk1 (hold_pl _ _ hlt hq) hm
    · rw [hself] at hq
      obtain rfl := sj hq
      obtain ⟨h1, h2⟩ := hin m hm
      rw [h2]
      exact h.heap.rds o (.arr sz rows) p' _ ho hp h1
  · intro k r q m hk hq hm
    rcases hcase k r hk with ⟨hlt, _, hk1⟩ | ⟨rfl, rfl⟩
    · exact h.frm.mine k r q m hk1 (hold_pl _ _ hlt hq) hm
    · rw [hself] at hq
      obtain rfl := sj hq
      obtain ⟨h1, h2⟩ := hin m hm
      rw [h2]
      have := h.frm.mine o (.arr sz rows) p' _ ho hp h1
      subst hN
      exact this
def DV.frz0 (o sz : Nat) (rows : List (List DV)) : DV → DV
  | .own o' off n => if o' = o ∧ off + n ≤ rows.length then .sl sz ((rows.drop off).take n) .any else .own o' off n
  | d => d
def DV.frzA (o sz : Nat) (rows : List (List DV)) : DV → DV
  | .agg cs => .agg (cs.map (DV.frz0 o sz rows))
  | d => d.frz0 o sz rows
def DV.frzT (o sz : Nat) (rows : List (List DV)) : DV → DV
  | .tup cs => .tup (cs.map (DV.frzA o sz rows))
  | d => d.frzA o sz rows
def Ob.frz (o sz : Nat) (rows : List (List DV)) : Ob → Ob
  | .box cs => .box (cs.map (DV.frz0 o sz rows))
  | .arr s r => .arr s r
  | .map es => .map es
def St.freezeA (o : Nat) (st : St) : St :=
  match st.objs[o]? with
  | some (some (.arr sz rows)) => { env := st.env.map (fun x => (x.1, x.2.frzT o sz rows)), objs := (st.objs.set o none).map (Option.map (Ob.frz o sz rows)) }
  | _ => st
def St.freeze (o : Nat) (st : St) : St :=
  match st.objs[o]? with
  | some (some (.arr sz rows)) => if o + 1 = st.objs.length then { env := st.env.map (fun x => (x.1, x.2.frzT o sz rows)), objs := st.objs.set o none }
      else { env := st.env.map (fun x => (x.1, x.2.frzT o sz rows)), objs := (st.objs.set o none).map (Option.map (Ob.frz o sz rows)) }
  | _ => st
theorem St.look_map (f : DV → DV) (hf : f .undef = .undef) (t : Nat) : ∀ l : List (Nat × DV), St.look t (l.map (fun x => (x.1, f x.2))) = f (St.look t l)
  | [] => hf.symm
  | (k, d) :: l => by
    simp only [List.map_cons, St.look]
    split
    · rfl
    · exact St.look_map f hf t l
open Classical in
noncomputable def Gh.fix (G : Gh) (w : World) (p : Place) (n : Nat) : Gh :=
  { rd := fun x => if ∃ m, m < n * p.sz ∧ x = p.cellAt m then w.cell? x else G.rd x, pl := G.pl }
theorem RelG.freezeA {E : Prg} {C : Ctx} {G : Gh} {st : St} {a : Act} {w : World} (h : RelG E C G st a w) (o : Nat) : ∃ G', RelG E C G' (st.freezeA o) a w := by
  unfold St.freezeA
  split
  · rename_i sz rows ho
    obtain ⟨p, hp, hl⟩ := h.heap.live o _ ho
    have hfits : rows.length ≤ p.cap := hl.fits
    have hpsz : p.sz = sz := hl.psz
    have hlen : o < st.objs.length := (List.getElem?_eq_some_iff.1 ho).1
    have hext : ∀ m, m < rows.length * p.sz → m < p.cap * p.sz := fun m hm => Nat.lt_of_lt_of_le hm (Nat.mul_le_mul_right _ hfits)
    have hle : G.le (G.fix w p rows.length) := ⟨fun x v hx => by
      simp only [Gh.fix]
      split
      · rename_i hex
        obtain ⟨m, hm, rfl⟩ := hex
        rw [h.heap.rds o _ p m ho hp (hext m hm)] at hx
        cases hx
      · exact hx, fun _ _ x => x⟩
    have hin : ∀ m, m < rows.length * p.sz → (G.fix w p rows.length).rd (p.cellAt m) = w.cell? (p.cellAt m) := fun m hm => by
      simp only [Gh.fix]; rw [if_pos ⟨m, hm, rfl⟩]
    have hout : ∀ x v, (G.fix w p rows.length).rd x = some v → G.rd x = some v ∨ ∃ m, m < p.cap * p.sz ∧ x = p.cellAt m ∧ w.cell? x = some v := fun x v hx => by
      simp only [Gh.fix] at hx
      split at hx
      · rename_i hex
        obtain ⟨m, hm, rfl⟩ := hex
        exact .inr ⟨m, hext m hm, rfl, hx⟩
      · exact .inl hx
    have r0 : ∀ d v, Rel G d v → Rel (G.fix w p rows.length) (d.frz0 o sz rows) v := by
      intro d v r
      have r' := r.mono hle
      unfold DV.frz0
      split
      · rename_i o' off n
        split
        · rename_i hc
          obtain ⟨rfl, hfit⟩ := hc
          cases r with
          | own _ _ _ pl q c h1 h2 h3 h4 =>
            obtain rfl : pl = p := sj (h1.symm.trans hp)
            have hidx : ∀ (i j : Nat) row c, ((rows.drop off).take n)[i]? = some row → row[j]? = some c → rows[off + i]? = some row ∧ (off + i) * pl.sz + j < rows.length * pl.sz := by
              intro i j row c hi hj
              rw [List.getElem?_take] at hi
              split at hi
              · rw [List.getElem?_drop] at hi
                refine ⟨hi, ?_⟩
                have h5 : off + i < rows.length := (List.getElem?_eq_some_iff.1 hi).1
                have h6 : j < row.length := (List.getElem?_eq_some_iff.1 hj).1
                have h7 := hl.size row (List.mem_of_getElem? hi)
                have h8 : (off + i + 1) * pl.sz ≤ rows.length * pl.sz := Nat.mul_le_mul_right _ (by omega)
                rw [Nat.add_mul] at h8
                omega
              · cases hi
            refine .sl sz _ .any q n c pl.block (pl.off + off * pl.sz) (fun i j => (w.cell? (pl.cellAt ((off + i) * pl.sz + j))).getD undef) (by simp; omega) (fun hq => Nat.eq_zero_of_not_pos fun hc => by rw [h4 hc] at hq; cases hq) (by omega) (fun hne => ?_) (fun i row hi => ?_) (fun i j row c hi hj => ?_) (fun i j row c hi hj => ?_)
            · refine h4 ?_
              have : n ≠ 0 := fun e => hne (by simp [e])
              omega
            · rw [List.getElem?_take] at hi
              split at hi
              · rw [List.getElem?_drop] at hi
                rw [← hpsz]; exact hl.size row (List.mem_of_getElem? hi)
              · cases hi
            · obtain ⟨h5, h6⟩ := hidx i j row c hi hj
              have e : (⟨pl.block, pl.off + off * pl.sz + (i * sz + j), none⟩ : Addr) = pl.cellAt ((off + i) * pl.sz + j) := by
                simp only [Place.cellAt, Addr.mk.injEq, true_and, and_true]
                rw [← hpsz, Nat.add_mul]; omega
              rw [e, hin _ h6]
              obtain ⟨u, hu, _⟩ := hl.there trivial _ (hext _ h6)
              rw [hu]; rfl
            · obtain ⟨h5, h6⟩ := hidx i j row c hi hj
              obtain ⟨u, hu, _⟩ := hl.there trivial _ (hext _ h6)
              simp only [hu, Option.getD_some]
              exact (hl.holds (off + i) j row c u h5 hj hu).mono hle
        · exact r'
      · exact r'
    have rA : ∀ d v, Rel G d v → Rel (G.fix w p rows.length) (d.frzA o sz rows) v := by
      intro d v r
      unfold DV.frzA
      split
      · cases r with
        | agg cs vs hs hc =>
          refine .agg _ vs (by simpa using hs) (fun i c hi => ?_)
          rw [List.getElem?_map] at hi
          obtain ⟨d, hd, rfl⟩ := Option.map_eq_some_iff.1 hi
          exact r0 _ _ (hc i d hd)
      · exact r0 _ _ r
    have rT : ∀ d v, Rel G d v → Rel (G.fix w p rows.length) (d.frzT o sz rows) v := by
      intro d v r
      unfold DV.frzT
      split
      · cases r with
        | tup cs vs hs hc =>
          refine .tup _ vs (by simpa using hs) (fun i c hi => ?_)
          rw [List.getElem?_map] at hi
          obtain ⟨d, hd, rfl⟩ := Option.map_eq_some_iff.1 hi
          exact rA _ _ (hc i d hd)
      · exact rA _ _ r
    have hcase : ∀ (k : Nat) (r : Ob), ((List.set st.objs o none).map (Option.map (Ob.frz o sz rows)))[k]? = some (some r) → ∃ r', k ≠ o ∧ st.objs[k]? = some (some r') ∧ r = r'.frz o sz rows := by
      intro k r hk
      rw [List.getElem?_map, getElem?_set] at hk
      by_cases e : o = k
      · rw [if_pos e, if_pos hlen] at hk; simp at hk
      · rw [if_neg e] at hk
        obtain ⟨x, hx, hx2⟩ := Option.map_eq_some_iff.1 hk
        obtain ⟨y, hy, hy2⟩ := Option.map_eq_some_iff.1 hx2
        exact ⟨y, fun e' => e e'.symm, by rw [hx, hy], hy2.symm⟩
    refine ⟨G.fix w p rows.length, fun t => ?_, h.num, h.defs, ⟨?_, ?_, ?_, ?_, ?_⟩, ⟨h.frm.os, h.frm.tape, h.frm.output, h.frm.size, h.frm.blk, h.frm.cell, h.frm.frz, ?_, ?_, h.frm.le.trans hle, h.frm.mko⟩, fun g row hg => (h.glob g row hg).mono hle⟩
    · show Rel _ (St.look t _) _
      rw [St.look_map (DV.frzT o sz rows) rfl]
      exact rT _ _ (h.env t)
    · intro k q hq
      simpa using h.heap.pls k q hq
    · intro k r hk
      obtain ⟨r', hne, hk', rfl⟩ := hcase k r hk
      obtain ⟨q, hq, hlq⟩ := h.heap.live k r' hk'
      refine ⟨q, hq, ?_⟩
      cases r' with
      | arr s rs => exact hlq.mono hle (fun _ _ _ h => h) (fun _ _ => rfl) (fun _ _ _ => rfl) (fun _ h => h)
      | map es => exact hlq.mono hle (fun _ _ _ h => h) (fun _ _ => rfl) (fun _ _ _ => rfl) (fun _ h => h)
      | box cs =>
        refine ⟨by have := hlq.psz; simpa [Ob.frz, Ob.sz] using this, by simpa [Ob.rows, Ob.frz] using hlq.fits, fun row hr => ?_, hlq.there, fun i j row c v hi hj hv => ?_, hlq.mko, fun es he => by cases he⟩
        · have := hlq.size cs (by simp [Ob.rows])
          simp [Ob.rows, Ob.frz] at hr; subst hr; simpa using this
        · simp only [Ob.rows, Ob.frz] at hi
          rcases i with _ | i
          · simp at hi; subst hi
            rw [List.getElem?_map] at hj
            obtain ⟨d, hd, rfl⟩ := Option.map_eq_some_iff.1 hj
            exact r0 _ _ (hlq.holds 0 j cs d v (by simp [Ob.rows]) hd hv)
          · simp at hi
    · intro k k' r r' q q' m m' hk hk' hne hq hq' hm hm'
      obtain ⟨s, _, h1, _⟩ := hcase k r hk
      obtain ⟨s', _, h1', _⟩ := hcase k' r' hk'
      exact h.heap.sep k k' s s' q q' m m' h1 h1' hne hq hq' hm hm'
    · intro x v hx
      rcases hout x v hx with h1 | ⟨m, hm, rfl, h1⟩
      · exact h.heap.rdv x v h1
      · obtain ⟨u, hu, hu2, _⟩ := hl.there trivial m hm
        obtain rfl : u = v := sj (hu.symm.trans h1)
        exact ⟨h1, hu2⟩
    · intro k r q m hk hq hm
      obtain ⟨s, hne, h1, _⟩ := hcase k r hk
      cases hrd : (G.fix w p rows.length).rd (q.cellAt m) with
      | none => rfl
      | some v =>
        rcases hout _ v hrd with h2 | ⟨m', hm', e, _⟩
        · rw [h.heap.rds k s q m h1 hq hm] at h2; cases h2
        · exact absurd e (h.heap.sep k o s _ q p m m' h1 ho hne hq hp hm hm')
    · intro k r q m hk hq hm
      obtain ⟨s, _, h1, _⟩ := hcase k r hk
      exact h.frm.mine k s q m h1 hq hm
    · intro x v hx
      rcases hout x v hx with h1 | ⟨m, hm, rfl, _⟩
      · exact h.frm.rdn x v h1
      · exact .inr (h.frm.mine o _ p m ho hp hm)
  · exact ⟨G, h⟩
def fr0 (o sz : Nat) (rows : List (List DV)) (d d' : DV) : Prop := d' = d ∨ d' = d.frz0 o sz rows
def frT (o sz : Nat) (rows : List (List DV)) (d d' : DV) : Prop := d' = d ∨ d' = d.frzT o sz rows
def frRow (R : DV → DV → Prop) (r r' : List DV) : Prop := r'.length = r.length ∧ ∀ (j : Nat) c', r'[j]? = some c' → ∃ c, r[j]? = some c ∧ R c c'
def frOb (R : DV → DV → Prop) : Ob → Ob → Prop
  | .box cs, .box cs' => frRow R cs cs'
  | .arr s r, .arr s' r' => s' = s ∧ r'.length = r.length ∧ ∀ (i : Nat) row', r'[i]? = some row' → ∃ row, r[i]? = some row ∧ frRow R row row'
  | .map es, .map es' => es' = es
  | _, _ => False
theorem frRow.refl {R : DV → DV → Prop} (hR : ∀ d, R d d) (r : List DV) : frRow R r r := ⟨rfl, fun j c h => ⟨c, h, hR c⟩⟩
theorem frOb.refl {R : DV → DV → Prop} (hR : ∀ d, R d d) : ∀ ob, frOb R ob ob
  | .box cs => frRow.refl hR cs
  | .arr s r => ⟨rfl, rfl, fun i row h => ⟨row, h, frRow.refl hR row⟩⟩
  | .map es => rfl
theorem fr0.refl (o sz : Nat) (rows : List (List DV)) (d : DV) : fr0 o sz rows d d := .inl rfl
structure FrzS (o sz : Nat) (rows : List (List DV)) (st st' : St) : Prop where
  there : st.objs[o]? = some (some (.arr sz rows))
  env : ∀ t, frT o sz rows (st.get t) (st'.get t)
  len : st'.objs.length = st.objs.length
  obj : ∀ (k : Nat) ob', st'.objs[k]? = some (some ob') → k ≠ o ∧ ∃ ob, st.objs[k]? = some (some ob) ∧ frOb (fr0 o sz rows) ob ob'
theorem frOb_live {G G' : Gh} {w : World} {p : Place} {R : DV → DV → Prop} {ob ob' : Ob} (hle : G.le G') (rr : ∀ c c' v, R c c' → Rel G c v → Rel G' c' v) (hf : frOb R ob ob') (h : LiveAt G w p ob) : LiveAt G' w p ob' := by
  cases ob with
  | map es =>
    cases ob' with
    | arr => exact hf.elim
    | box => exact hf.elim
    | map es' =>
      obtain rfl : es' = es := hf
      exact h.mono hle (fun _ _ _ h => h) (fun _ _ => rfl) (fun _ _ _ => rfl) (fun _ h => h)
  | box cs =>
    cases ob' with
    | arr => exact hf.elim
    | map => exact hf.elim
    | box cs' =>
      obtain ⟨h1, h2⟩ := hf
      refine ⟨by have := h.psz; simpa [Ob.sz, h1] using this, by simpa [Ob.rows] using h.fits, fun row hr => ?_, h.there, fun i j row c v hi hj hv => ?_, h.mko, fun es he => by cases he⟩
      · have := h.size cs (by simp [Ob.rows])
        simp [Ob.rows] at hr; subst hr; rw [h1]; exact this
      · simp only [Ob.rows] at hi
        rcases i with _ | i
        · simp at hi; subst hi
          obtain ⟨c0, g1, g2⟩ := h2 j c hj
          exact rr _ _ _ g2 (h.holds 0 j cs c0 v (by simp [Ob.rows]) g1 hv)
        · simp at hi
  | arr s r =>
    cases ob' with
    | box => exact hf.elim
    | map => exact hf.elim
    | arr s' r' =>
      obtain ⟨rfl, h1, h2⟩ := hf
      refine ⟨h.psz, by have := h.fits; simpa [Ob.rows, h1] using this, fun row hr => ?_, h.there, fun i j row c v hi hj hv => ?_, h.mko, fun es he => by cases he⟩
      · obtain ⟨i, hi, rfl⟩ := List.mem_iff_getElem.1 hr
        obtain ⟨row0, g1, g2⟩ := h2 i _ (List.getElem?_eq_getElem hi)
        rw [g2.1]; exact h.size row0 (List.mem_of_getElem? g1)
      · obtain ⟨row0, g1, g2⟩ := h2 i row hi
        obtain ⟨c0, g3, g4⟩ := g2.2 j c hj
        exact rr _ _ _ g4 (h.holds i j row0 c0 v g1 g3 hv)
theorem RelG.frzS {E : Prg} {C : Ctx} {G : Gh} {st st' : St} {a : Act} {w : World} {o sz : Nat} {rows : List (List DV)} (h : RelG E C G st a w) (hF : FrzS o sz rows st st') : ∃ G', RelG E C G' st' a w := by
  have ho := hF.there
  obtain ⟨p, hp, hl⟩ := h.heap.live o _ ho
  have hfits : rows.length ≤ p.cap := hl.fits
  have hpsz : p.sz = sz := hl.psz
  have hext : ∀ m, m < rows.length * p.sz → m < p.cap * p.sz := fun m hm => Nat.lt_of_lt_of_le hm (Nat.mul_le_mul_right _ hfits)
  have hle : G.le (G.fix w p rows.length) := ⟨fun x v hx => by
    simp only [Gh.fix]
    split
    · rename_i hex
      obtain ⟨m, hm, rfl⟩ := hex
      rw [h.heap.rds o _ p m ho hp (hext m hm)] at hx
      cases hx
    · exact hx, fun _ _ x => x⟩
  have hin : ∀ m, m < rows.length * p.sz → (G.fix w p rows.length).rd (p.cellAt m) = w.cell? (p.cellAt m) := fun m hm => by
    simp only [Gh.fix]; rw [if_pos ⟨m, hm, rfl⟩]
  have hout : ∀ x v, (G.fix w p rows.length).rd x = some v → G.rd x = some v ∨ ∃ m, m < p.cap * p.sz ∧ x = p.cellAt m ∧ w.cell? x = some v := fun x v hx => by
    simp only [Gh.fix] at hx
    split at hx
    · rename_i hex
      obtain ⟨m, hm, rfl⟩ := hex
      exact .inr ⟨m, hext m hm, rfl, hx⟩
    · exact .inl hx
  have r0 : ∀ d v, Rel G d v → Rel (G.fix w p rows.length) (d.frz0 o sz rows) v := by
    intro d v r
    have r' := r.mono hle
    unfold DV.frz0
    split
    · rename_i o' off n
      split
      · rename_i hc
        obtain ⟨rfl, hfit⟩ := hc
        cases r with
        | own _ _ _ pl q c h1 h2 h3 h4 =>
          obtain rfl : pl = p := sj (h1.symm.trans hp)
          have hidx : ∀ (i j : Nat) row c, ((rows.drop off).take n)[i]? = some row → row[j]? = some c → rows[off + i]? = some row ∧ (off + i) * pl.sz + j < rows.length * pl.sz := by
            intro i j row c hi hj
            rw [List.getElem?_take] at hi
            split at hi
            · rw [List.getElem?_drop] at hi
              refine ⟨hi, ?_⟩
              have h5 : off + i < rows.length := (List.getElem?_eq_some_iff.1 hi).1
              have h6 : j < row.length := (List.getElem?_eq_some_iff.1 hj).1
              have h7 := hl.size row (List.mem_of_getElem? hi)
              have h8 : (off + i + 1) * pl.sz ≤ rows.length * pl.sz := Nat.mul_le_mul_right _ (by omega)
              rw [Nat.add_mul] at h8
              omega
            · cases hi
          refine .sl sz _ .any q n c pl.block (pl.off + off * pl.sz) (fun i j => (w.cell? (pl.cellAt ((off + i) * pl.sz + j))).getD undef) (by simp; omega) (fun hq => Nat.eq_zero_of_not_pos fun hc => by rw [h4 hc] at hq; cases hq) (by omega) (fun hne => ?_) (fun i row hi => ?_) (fun i j row c hi hj => ?_) (fun i j row c hi hj => ?_)
          · refine h4 ?_
            have : n ≠ 0 := fun e => hne (by simp [e])
            omega
          · rw [List.getElem?_take] at hi
            split at hi
            · rw [List.getElem?_drop] at hi
              rw [← hpsz]; exact hl.size row (List.mem_of_getElem? hi)
            · cases hi
          · obtain ⟨h5, h6⟩ := hidx i j row c hi hj
            have e : (⟨pl.block, pl.off + off * pl.sz + (i * sz + j), none⟩ : Addr) = pl.cellAt ((off + i) * pl.sz + j) := by
              simp only [Place.cellAt, Addr.mk.injEq, true_and, and_true]
              rw [← hpsz, Nat.add_mul]; omega
            rw [e, hin _ h6]
            obtain ⟨u, hu, _⟩ := hl.there trivial _ (hext _ h6)
            rw [hu]; rfl
          · obtain ⟨h5, h6⟩ := hidx i j row c hi hj
            obtain ⟨u, hu, _⟩ := hl.there trivial _ (hext _ h6)
            simp only [hu, Option.getD_some]
            exact (hl.holds (off + i) j row c u h5 hj hu).mono hle
      · exact r'
    · exact r'
  have rA : ∀ d v, Rel G d v → Rel (G.fix w p rows.length) (d.frzA o sz rows) v := by
    intro d v r
    unfold DV.frzA
    split
    · cases r with
      | agg cs vs hs hc =>
        refine .agg _ vs (by simpa using hs) (fun i c hi => ?_)
        rw [List.getElem?_map] at hi
        obtain ⟨d, hd, rfl⟩ := Option.map_eq_some_iff.1 hi
        exact r0 _ _ (hc i d hd)
    · exact r0 _ _ r
  have rT : ∀ d v, Rel G d v → Rel (G.fix w p rows.length) (d.frzT o sz rows) v := by
    intro d v r
    unfold DV.frzT
    split
    · cases r with
      | tup cs vs hs hc =>
        refine .tup _ vs (by simpa using hs) (fun i c hi => ?_)
        rw [List.getElem?_map] at hi
        obtain ⟨d, hd, rfl⟩ := Option.map_eq_some_iff.1 hi
        exact rA _ _ (hc i d hd)
    · exact rA _ _ r
  refine ⟨G.fix w p rows.length, fun t => ?_, h.num, h.defs, ⟨?_, ?_, ?_, ?_, ?_⟩, ⟨h.frm.os, h.frm.tape, h.frm.output, h.frm.size, h.frm.blk, h.frm.cell, h.frm.frz, ?_, ?_, h.frm.le.trans hle, h.frm.mko⟩, fun g row hg => (h.glob g row hg).mono hle⟩
  · rcases hF.env t with e | e
    · rw [e]; exact (h.env t).mono hle
    · rw [e]; exact rT _ _ (h.env t)
  · intro k q hq
    rw [hF.len]; exact h.heap.pls k q hq
  · intro k r hk
    obtain ⟨hne, r', hk', hfr⟩ := hF.obj k r hk
    obtain ⟨q, hq, hlq⟩ := h.heap.live k r' hk'
    exact ⟨q, hq, frOb_live hle (fun c c' v hc r => by
      rcases hc with rfl | rfl
      · exact r.mono hle
      · exact r0 _ _ r) hfr hlq⟩
  · intro k k' r r' q q' m m' hk hk' hne hq hq' hm hm'
    obtain ⟨_, s, h1, _⟩ := hF.obj k r hk
    obtain ⟨_, s', h1', _⟩ := hF.obj k' r' hk'
    exact h.heap.sep k k' s s' q q' m m' h1 h1' hne hq hq' hm hm'
  · intro x v hx
    rcases hout x v hx with h1 | ⟨m, hm, rfl, h1⟩
    · exact h.heap.rdv x v h1
    · obtain ⟨u, hu, hu2, _⟩ := hl.there trivial m hm
      obtain rfl : u = v := sj (hu.symm.trans h1)
      exact ⟨h1, hu2⟩
  · intro k r q m hk hq hm
    obtain ⟨hne, s, h1, _⟩ := hF.obj k r hk
    cases hrd : (G.fix w p rows.length).rd (q.cellAt m) with
    | none => rfl
    | some v =>
      rcases hout _ v hrd with h2 | ⟨m', hm', e, _⟩
      · rw [h.heap.rds k s q m h1 hq hm] at h2; cases h2
      · exact absurd e (h.heap.sep k o s _ q p m m' h1 ho hne hq hp hm hm')
  · intro k r q m hk hq hm
    obtain ⟨_, s, h1, _⟩ := hF.obj k r hk
    exact h.frm.mine k s q m h1 hq hm
  · intro x v hx
    rcases hout x v hx with h1 | ⟨m, hm, rfl, _⟩
    · exact h.frm.rdn x v h1
    · exact .inr (h.frm.mine o _ p m ho hp hm)
theorem RelG.freeze {E : Prg} {C : Ctx} {G : Gh} {st : St} {a : Act} {w : World} (h : RelG E C G st a w) (o : Nat) : ∃ G', RelG E C G' (st.freeze o) a w := by
  unfold St.freeze
  split
  · rename_i sz rows ho
    split
    · refine h.frzS (o := o) (sz := sz) (rows := rows) ⟨ho, fun t => .inr ?_, by simp, fun k ob' hk => ?_⟩
      · show St.look t _ = _
        exact St.look_map (DV.frzT o sz rows) rfl t st.env
      · simp only at hk
        rw [getElem?_set] at hk
        by_cases e : o = k
        · rw [if_pos e] at hk; split at hk <;> simp at hk
        · rw [if_neg e] at hk; exact ⟨fun e' => e e'.symm, ob', hk, frOb.refl (fr0.refl _ _ _) _⟩
    · have := h.freezeA o
      unfold St.freezeA at this
      rw [ho] at this
      exact this
  · exact ⟨G, h⟩
inductive Opd where
  | t (n : Nat)
  | c (d : DV)
  | g (n : Nat)
  deriving Inhabited
def Opd.ev (E : Prg) (st : St) : Opd → DV
  | .t n => st.get n
  | .c d => d
  | .g n => match E.GT n with
    | some row => .rp row 0
    | none => .undef
inductive Cv where
  | i2i (k : IntKind)
  | b2s | s2b | s2s | lit
  deriving DecidableEq, Inhabited
inductive CK where
  | i | b
  deriving DecidableEq, Inhabited
inductive ROp where
  | mov (x : Opd)
  | pick (c a b : Opd)
  | box (sz : Nat) (x : Opd)
  | alloc (zero : List DV)
  | build (zero : List DV) (parts : List (Nat × Nat × Opd))
  | mkrow (sz : Nat) (zero : List DV) (len : Nat) (parts : List (Nat × Opd))
  | load (ag : Bool) (sz : Nat) (x : Opd)
  | store (sz : Nat) (p x : Opd)
  | nilck (x : Opd)
  | bin (op : BinOp) (x y : Opd)
  | eqB (neg : Bool) (x y : Opd)
  | eqNil (neg : Bool) (x y : Opd)
  | eqP (neg : Bool) (x y : Opd)
  | eqS (neg : Bool) (ks : List CK) (x y : Opd)
  | un (op : UnOp) (x : Opd)
  | conv (k : Cv) (x : Opd)
  | slice (sz : Nat) (x : Opd) (lo hi mx : Option Opd)
  | sliceS (x : Opd) (lo hi : Option Opd)
  | faddr (off : Nat) (x : Opd)
  | fld (ag : Bool) (off sz : Nat) (x : Opd)
  | iaddr (sz : Nat) (x i : Opd)
  | iaddrA (len sz : Nat) (x i : Opd)
  | idxS (x i : Opd)
  | ext (x : Opd) (i : Nat)
  | len (x : Opd)
  | lenS (x : Opd)
  | append (sz bytes : Nat) (x y : Opd)
  | copy (sz : Nat) (x y : Opd)
  | mm (isMax : Bool) (x y : Opd)
  | mkslice (sz bytes : Nat) (zero : List DV) (n c : Opd)
  | call (f : Nat) (l : List Opd)
  | calld (y : Opd) (l : List Opd)
  | mkfn (f : FuncId) (l : List Opd)
  | mkIfc (t : TypeId) (x : Opd)
  | asrt (t : TypeId) (x : Opd)
  | inv (x : Opd) (name : String) (l : List Opd)
  | mkmap
  | mset (kd : Option IntKind) (m k x : Opd)
  | mget (kd : Option IntKind) (ok : Bool) (zero : DV) (m k : Opd)
  deriving Inhabited
def DV.one : DV → Bool
  | .int .. | .bool .. | .str .. | .sl .. | .own .. | .ptr .. | .rp .. | .mp .. => true
  | .lit v => v.oneCell'
  | _ => false
def DV.cells : DV → Option (List DV)
  | .agg cs => some cs
  | d => if d.one then some [d] else none
def rowAt (ag : Bool) (sz : Nat) (row : List DV) (j : Nat) : Option DV :=
  if ag then (if j + sz ≤ row.length then some (.agg ((row.drop j).take sz)) else none) else row[j]?
def rowSet (row : List DV) (j : Nat) (cs : List DV) : List DV := row.take j ++ cs ++ row.drop (j + cs.length)
def Ob.setRow (ob : Ob) (i : Nat) (row : List DV) : Ob :=
  match ob with
  | .box _ => .box row
  | .arr sz rows => .arr sz (rows.set i row)
  | .map es => .map es
def shiftOf (op : BinOp) (k : IntKind) (a b : Int) : Option DV :=
  match op with
  | .shl => if b < 0 then none else some (.int k (k.wrap (a * 2 ^ (min b.toNat k.bits))))
  | .shr => if b < 0 then none else some (.int k (a.fdiv (2 ^ (min b.toNat k.bits))))
  | _ => none
def binOf (op : BinOp) (k : IntKind) (a b : Int) : Option DV :=
  match op with
  | .add => some (.int k (k.wrap (a + b)))
  | .sub => some (.int k (k.wrap (a - b)))
  | .mul => some (.int k (k.wrap (a * b)))
  | .quo => if b = 0 then none else some (.int k (k.wrap (a.tdiv b)))
  | .rem => if b = 0 then none else some (.int k (a.tmod b))
  | .and => some (.int k (k.wrap (BitVec.ofInt k.bits a &&& BitVec.ofInt k.bits b).toNat))
  | .or => some (.int k (k.wrap (BitVec.ofInt k.bits a ||| BitVec.ofInt k.bits b).toNat))
  | .xor => some (.int k (k.wrap (BitVec.ofInt k.bits a ^^^ BitVec.ofInt k.bits b).toNat))
  | .andNot => some (.int k (k.wrap (BitVec.ofInt k.bits a &&& ~~~ BitVec.ofInt k.bits b).toNat))
  | .eql => some (.bool (decide (a = b)))
  | .neq => some (.bool (!decide (a = b)))
  | .lss => some (.bool (decide (a < b)))
  | .leq => some (.bool (decide (a ≤ b)))
  | .gtr => some (.bool (decide (b < a)))
  | .geq => some (.bool (decide (b ≤ a)))
  | _ => none
def strOf (op : BinOp) (a b : List UInt8) : Option DV :=
  match op with
  | .add => if a.length + b.length ≤ 4611686018427387904 then some (.str (a ++ b)) else none
  | .eql => some (.bool (a == b))
  | .neq => some (.bool (!(a == b)))
  | .lss => some (.bool (Op.bytesLess a b))
  | .leq => some (.bool (Op.bytesLess a b || a == b))
  | .gtr => some (.bool (!(Op.bytesLess a b || a == b)))
  | .geq => some (.bool (!Op.bytesLess a b))
  | _ => none
def unOf (op : UnOp) (x : DV) : Option DV :=
  match op, x with
  | .neg, .int k n => some (.int k (k.wrap (0 - n)))
  | .xor, .int k n => some (.int k (k.wrap (BitVec.ofInt k.bits (if k.signed then -1 else k.max) ^^^ BitVec.ofInt k.bits n).toNat))
  | .not, .bool b => some (.bool (!b))
  | _, _ => none
def rowsBytes : List (List DV) → Option (List UInt8)
  | [] => some []
  | [.int .u8 n] :: l => (rowsBytes l).map (UInt8.ofNat n.toNat :: ·)
  | _ :: _ => none
def bytesRows (l : List UInt8) : List (List DV) := l.map fun b => [.int .u8 b.toNat]
def rowsOf (st : St) : DV → Option (Nat × List (List DV))
  | .sl sz rows _ => some (sz, rows)
  | .own o off n => match st.objs[o]? with
    | some (some (.arr sz rows)) => if off + n ≤ rows.length then some (sz, (rows.drop off).take n) else none
    | _ => none
  | .str s => some (1, bytesRows s)
  | _ => none
def natOf (st : St) (E : Prg) (dflt : Nat) : Option Opd → Option Nat
  | none => some dflt
  | some x => match x.ev E st with
    | .int _ n => if 0 ≤ n then some n.toNat else none
    | _ => none
def eqCells : List CK → List DV → List DV → Option Bool
  | [], [], [] => some true
  | .i :: ks, .int k a :: x, .int k' b :: y => if k = k' then (eqCells ks x y).map (decide (a = b) && ·) else none
  | .b :: ks, .bool a :: x, .bool b :: y => (eqCells ks x y).map (decide (a = b) && ·)
  | _, _, _ => none
def SK.cut (k : SK) (zero : Bool) : SK := if zero then (if k = .nil then .nil else .zero) else (if k = .zero then .zero else k)
def keq : DV → DV → Option Bool
  | .str a, .str b => some (a == b)
  | .int k a, .int k' b => if k = k' then some (a == b) else none
  | _, _ => none
def mfind (k : DV) : List (DV × DV) → Option (Option DV)
  | [] => some none
  | (k', d) :: l => match keq k k' with
    | some true => some (some d)
    | some false => mfind k l
    | none => none
def mins (k d : DV) : List (DV × DV) → Option (List (DV × DV))
  | [] => some [(k, d)]
  | (k', d') :: l => match keq k k' with
    | some true => some ((k, d) :: l)
    | some false => (mins k d l).map ((k', d') :: ·)
    | none => none
def keyIs : Option IntKind → DV → Bool
  | none, .str _ => true
  | some k, .int k' _ => decide (k = k')
  | _, _ => false
def mgetV (ok : Bool) (z : DV) (r : Option DV) : DV := if ok then .tup [r.getD z, .bool r.isSome] else r.getD z
def nilP : DV → DV → Option Bool
  | .ptr .., .lit (.pointer none) => some false
  | .rp .., .lit (.pointer none) => some false
  | .lit (.pointer none), .lit (.pointer none) => some true
  | _, _ => none
def rval (E : Prg) (st : St) : ROp → Option (DV × Objs)
  | .mov x => some (x.ev E st, st.objs)
  | .pick c a b => match c.ev E st with
    | .bool t => some (if t then a.ev E st else b.ev E st, st.objs)
    | _ => none
  | .box sz x => match (x.ev E st).cells with
    | some cs => if cs.length = sz ∧ cs.all DV.one = true then some (.ptr st.objs.length 0 0, st.objs ++ [some (.box cs)]) else none
    | none => none
  | .alloc zero => some (.ptr st.objs.length 0 0, st.objs ++ [some (.box zero)])
  | .build zero parts => (parts.foldl (fun (acc : Option (List DV)) x => match acc, (x.2.2.ev E st).cells with
      | some cs, some new => if new.length = x.2.1 ∧ x.1 + new.length ≤ cs.length then some (rowSet cs x.1 new) else none
      | _, _ => none) (some zero)).map fun cs => (.agg cs, st.objs)
  | .mkrow sz zero len parts => (parts.foldl (fun (acc : Option (List (List DV))) x => match acc, (x.2.ev E st).cells with
      | some rows, some new => if new.length = sz ∧ x.1 < rows.length ∧ new.all DV.one = true then some (rows.set x.1 new) else none
      | _, _ => none) (some (List.replicate len zero))).map fun rows => (.own st.objs.length 0 len, st.objs ++ [some (.arr sz rows)])
  | .load ag sz x => match x.ev E st with
    | .ptr o i j => match st.objs[o]? with
      | some (some ob) => match ob.rows[i]? with
        | some row => (rowAt ag sz row j).map (·, st.objs)
        | none => none
      | _ => none
    | .rp row j => (rowAt ag sz row j).map (·, st.objs)
    | _ => none
  | .store sz p x => match p.ev E st, (x.ev E st).cells with
    | .ptr o i j, some cs => match st.objs[o]? with
      | some (some ob) => match ob.rows[i]? with
        | some row => if cs.length = sz ∧ cs.all DV.one = true ∧ j + sz ≤ row.length then some (.undef, st.objs.set o (some (ob.setRow i (rowSet row j cs)))) else none
        | none => none
      | _ => none
    | _, _ => none
  | .nilck x => match x.ev E st with
    | .ptr o i j => some (.ptr o i j, st.objs)
    | .rp row j => some (.rp row j, st.objs)
    | _ => none
  | .bin op x y => match x.ev E st, y.ev E st with
    | .int k a, .int k' b => (match op with
      | .shl => shiftOf .shl k a b
      | .shr => shiftOf .shr k a b
      | op => if k = k' then binOf op k a b else none).map (·, st.objs)
    | .str a, .str b => (strOf op a b).map (·, st.objs)
    | _, _ => none
  | .eqB neg x y => match x.ev E st, y.ev E st with
    | .bool a, .bool b => some (.bool (if neg then !decide (a = b) else decide (a = b)), st.objs)
    | _, _ => none
  | .eqNil neg x y => match x.ev E st, y.ev E st with
    | .sl _ _ k, .sl _ _ .nil => (match k with
      | .nil => some true
      | .nonnil => some false
      | _ => none).map fun b => (.bool (if neg then !b else b), st.objs)
    | .own _ _ n, .sl _ _ .nil => if 0 < n then some (.bool neg, st.objs) else none
    | _, _ => none
  | .eqP neg x y => (nilP (x.ev E st) (y.ev E st)).map fun b => (.bool (if neg then !b else b), st.objs)
  | .eqS neg ks x y => match x.ev E st, y.ev E st with
    | .agg a, .agg b => (eqCells ks a b).map fun e => (.bool (if neg then !e else e), st.objs)
    | _, _ => none
  | .un op x => (unOf op (x.ev E st)).map (·, st.objs)
  | .conv k x => match k, x.ev E st with
    | .i2i k, .int _ n => some (.int k (k.wrap n), st.objs)
    | .b2s, .str _ => none
    | .b2s, d => match rowsOf st d with
      | some (sz, rows) => if sz = 1 ∨ rows = [] then (rowsBytes rows).map fun s => (.str s, st.objs) else none
      | none => none
    | .s2b, .str s => if s.length ≤ 4611686018427387904 then some (.own st.objs.length 0 s.length, st.objs ++ [some (.arr 1 (bytesRows s))]) else none
    | .s2s, .str s => some (.str s, st.objs)
    | .lit, .own o off n => match st.objs[o]? with
      | some (some (.arr sz rows)) => if 0 < n ∧ 0 < sz ∧ off + n ≤ rows.length then some (.own o off n, st.objs) else none
      | _ => none
    | _, _ => none
  | .slice sz x lo hi mx => match x.ev E st with
    | .sl s rows k => match natOf st E 0 lo, natOf st E rows.length hi with
      | some l, some h => if l ≤ h ∧ h ≤ rows.length ∧ (s = sz ∨ rows = []) then (match mx with
        | none => some (.sl s ((rows.drop l).take (h - l)) k, st.objs)
        | some m => match natOf st E 0 (some m) with
          | some m => if m = h then some (.sl s ((rows.drop l).take (h - l)) (if m = l then (if k = .nil then .nil else .zero) else (if k = .nil then .nil else .any)), st.objs) else none
          | none => none) else none
      | _, _ => none
    | .own o off n => match natOf st E 0 lo, natOf st E n hi, mx with
      | some l, some h, none => (match st.objs[o]? with
        | some (some (.arr s rows)) => if l ≤ h ∧ h ≤ n ∧ s = sz then some (.own o (off + l) (h - l), st.objs) else none
        | _ => none)
      | some l, some h, some m => (match natOf st E 0 (some m) with
        | some m => if m = h ∧ h = l ∧ l ≤ n then some (.sl sz [] .zero, st.objs) else none
        | none => none)
      | _, _, _ => none
    | _ => none
  | .sliceS x lo hi => match x.ev E st with
    | .str s => match natOf st E 0 lo, natOf st E s.length hi with
      | some l, some h => if l ≤ h ∧ h ≤ s.length then some (.str ((s.drop l).take (h - l)), st.objs) else none
      | _, _ => none
    | _ => none
  | .faddr off x => match x.ev E st with
    | .ptr o i j => some (.ptr o i (j + off), st.objs)
    | .rp row j => some (.rp row (j + off), st.objs)
    | _ => none
  | .fld ag off sz x => match x.ev E st with
    | .agg cs => (rowAt ag sz cs off).map (·, st.objs)
    | _ => none
  | .iaddr sz x i => match x.ev E st, i.ev E st with
    | .sl s rows _, .int _ n => if 0 ≤ n ∧ n < (rows.length : Int) ∧ s = sz then (match rows[n.toNat]? with
        | some row => some (.rp row 0, st.objs)
        | none => none) else none
    | .own o off m, .int _ n => if 0 ≤ n ∧ n < (m : Int) then (match st.objs[o]? with
        | some (some (.arr s _)) => if s = sz then some (.ptr o (off + n.toNat) 0, st.objs) else none
        | _ => none) else none
    | _, _ => none
  | .iaddrA len sz x i => match x.ev E st, i.ev E st with
    | .ptr o r j, .int _ n => if 0 ≤ n ∧ n < (len : Int) then some (.ptr o r (j + n.toNat * sz), st.objs) else none
    | .rp row j, .int _ n => if 0 ≤ n ∧ n < (len : Int) then some (.rp row (j + n.toNat * sz), st.objs) else none
    | _, _ => none
  | .idxS x i => match x.ev E st, i.ev E st with
    | .str s, .int _ n => if 0 ≤ n then (match s[n.toNat]? with
        | some b => some (.int .u8 b.toNat, st.objs)
        | none => none) else none
    | _, _ => none
  | .ext x i => match x.ev E st with
    | .tup cs => match cs[i]? with
      | some d => some (d, st.objs)
      | none => none
    | _ => none
  | .len x => match x.ev E st with
    | .sl _ rows _ => some (.int .i64 rows.length, st.objs)
    | .own _ _ n => some (.int .i64 n, st.objs)
    | _ => none
  | .lenS x => match x.ev E st with
    | .str s => some (.int .i64 s.length, st.objs)
    | _ => none
  | .append sz bytes x y => match x.ev E st, rowsOf st (y.ev E st) with
    | .sl _ [] k, some (s2, new) => if (k = .nil ∨ k = .zero) ∧ (s2 = sz ∨ new = []) ∧ new.length * bytes ≤ 140737488355328 ∧ new.length ≤ 4611686018427387904 then
        some (.own st.objs.length 0 new.length, st.objs ++ [some (.arr sz new)]) else none
    | .own o off n, some (s2, new) => match st.objs[o]? with
      | some (some (.arr s rows)) => if off + n = rows.length ∧ s = sz ∧ (s2 = sz ∨ new = []) ∧ (n + new.length) * bytes ≤ 140737488355328 ∧ n + new.length ≤ 4611686018427387904 then
          some (.own st.objs.length 0 (n + new.length), st.objs.set o none ++ [some (.arr sz (rows.drop off ++ new))]) else none
      | _ => none
    | _, _ => none
  | .copy sz x y => match x.ev E st, rowsOf st (y.ev E st) with
    | .own o off n, some (s2, new) => match st.objs[o]? with
      | some (some (.arr s rows)) => if off + n ≤ rows.length ∧ s = sz ∧ (s2 = sz ∨ new = []) then
          some (.int .i64 (min new.length n : Nat), st.objs.set o (some (.arr sz (rows.take off ++ new.take (min new.length n) ++ rows.drop (off + min new.length n))))) else none
      | _ => none
    | _, _ => none
  | .mm isMax x y => match x.ev E st, y.ev E st with
    | .int k a, .int _ b => some (.int k (if isMax then max a b else min a b), st.objs)
    | _, _ => none
  | .mkslice sz bytes zero n c => match n.ev E st, c.ev E st with
    | .int _ n, .int _ c => if 0 ≤ n ∧ n ≤ c ∧ c * bytes ≤ 140737488355328 ∧ c ≤ 4611686018427387904 ∧ zero.length = sz then
        some (.own st.objs.length 0 n.toNat, st.objs ++ [some (.arr sz (List.replicate n.toNat zero))]) else none
    | _, _ => none
  | .call .. => none
  | .calld .. => none
  | .inv .. => none
  | .mkfn f l => some (.wrap (.clo f) (l.map (Opd.ev E st)), st.objs)
  | .mkIfc t x => match x.ev E st with
    | .agg cs => some (.wrap (.ifa t) cs, st.objs)
    | d => some (.wrap (.ifc t) [d], st.objs)
  | .asrt t x => match x.ev E st with
    | .wrap (.ifc t') [d] => if t' = t then some (d, st.objs) else none
    | .wrap (.ifa t') cs => if t' = t then some (.agg cs, st.objs) else none
    | _ => none
  | .mkmap => some (.mp st.objs.length, st.objs ++ [some (.map [])])
  | .mset kd m k x => match m.ev E st with
    | .mp o => match st.objs[o]? with
      | some (some (.map es)) => if keyIs kd (k.ev E st) = true then (mins (k.ev E st) (x.ev E st) es).map fun es' => (.undef, st.objs.set o (some (.map es'))) else none
      | _ => none
    | _ => none
  | .mget kd ok z m k => match m.ev E st with
    | .mp o => match st.objs[o]? with
      | some (some (.map es)) => if keyIs kd (k.ev E st) = true then (mfind (k.ev E st) es).map fun r => (mgetV ok z r, st.objs) else none
      | _ => none
    | _ => none
def dvOf1 : Value → Option DV
  | .int k n => some (.int k n)
  | .bool b => some (.bool b)
  | .string s => some (.str s.data.toList)
  | .slice none 0 0 => some (.sl 0 [] .nil)
  | .pointer none => some (.lit (.pointer none))
  | .map none => some (.lit (.map none))
  | .nilIface => some (.lit .nilIface)
  | .nilFunc => some (.lit .nilFunc)
  | .func f a b => some (.lit (.func f a b))
  | _ => none
def dvOfs : List Value → Option (List DV)
  | [] => some []
  | v :: l => match dvOf1 v, dvOfs l with
    | some d, some ds => some (d :: ds)
    | _, _ => none
def dvOf : Value → Option DV
  | .agg cs => (dvOfs cs.toList).map .agg
  | v => dvOf1 v
theorem dvOf1_rel {G : Gh} {v : Value} {d : DV} (h : dvOf1 v = some d) : Rel G d v := by
  unfold dvOf1 at h
  split at h <;> first
    | (cases h; done)
    | (obtain rfl := sj h; first
        | exact .int _ _ | exact .bool _ | exact .str _ | exact .lit _
        | exact .sl 0 [] .nil none 0 0 0 0 (fun _ _ => undef) rfl ⟨rfl, rfl⟩ (Nat.le_refl _) (fun h => absurd rfl h) (by simp) (by simp) (by simp))
theorem dvOf1_one {v : Value} {d : DV} (h : dvOf1 v = some d) : d.one = true ∧ v.oneCell' = true := by
  unfold dvOf1 at h
  split at h <;> first
    | (cases h; done)
    | (obtain rfl := sj h; exact ⟨rfl, rfl⟩)
theorem dvOfs_rel {G : Gh} : ∀ {l : List Value} {ds : List DV}, dvOfs l = some ds → ds.length = l.length ∧ ∀ (i : Nat) d v, ds[i]? = some d → l[i]? = some v → Rel G d v ∧ d.one = true ∧ v.oneCell' = true
  | [], ds, h => by
    obtain rfl := sj h
    exact ⟨rfl, by simp⟩
  | v :: l, ds, h => by
    unfold dvOfs at h
    split at h
    · rename_i d ds' h1 h2
      obtain rfl := sj h
      obtain ⟨h3, h4⟩ := dvOfs_rel (G := G) h2
      refine ⟨by simp [h3], fun i d' v' hd hv => ?_⟩
      rcases i with _ | i
      · simp at hd hv; subst hd hv
        exact ⟨dvOf1_rel h1, dvOf1_one h1⟩
      · exact h4 i d' v' (by simpa using hd) (by simpa using hv)
    · cases h
theorem getD_toList (vs : Array Value) (i : Nat) (v : Value) (h : vs.toList[i]? = some v) : vs.getD i undef = v := by
  rw [Array.getElem?_toList] at h
  simp [Array.getD_eq_getD_getElem?, h]
theorem dvOf_rel {G : Gh} {v : Value} {d : DV} (h : dvOf v = some d) : Rel G d v := by
  unfold dvOf at h
  split at h
  · rename_i cs
    obtain ⟨ds, hds, rfl⟩ := Option.map_eq_some_iff.1 h
    obtain ⟨h1, h2⟩ := dvOfs_rel (G := G) hds
    refine .agg ds cs (by simpa using h1.symm) (fun i c hc => ?_)
    have hi : i < cs.toList.length := by rw [← h1]; exact (List.getElem?_eq_some_iff.1 hc).1
    have hv : cs.toList[i]? = some cs.toList[i] := List.getElem?_eq_getElem hi
    rw [getD_toList cs i _ hv]
    exact (h2 i c _ hc hv).1
  · exact dvOf1_rel h
def copd : Operand → Option Opd
  | .tmp t => some (.t t)
  | .const v => (dvOf v).map .c
  | .global g => some (.g g)
  | .func f => some (.c (.lit (.func (.func f) #[] #[])))
theorem RelG.ev {E : Prg} {C : Ctx} {G : Gh} {st : St} {a : Act} {w : World} (h : RelG E C G st a w) {x : Operand} {y : Opd} (hx : copd x = some y) : Rel G (y.ev E st) (a.eval x) := by
  cases x with
  | tmp t => obtain rfl := sj hx; exact h.env t
  | const v =>
    obtain ⟨d, hd, rfl⟩ := Option.map_eq_some_iff.1 hx
    exact dvOf_rel hd
  | global g =>
    obtain rfl := sj hx
    simp only [Opd.ev]
    split
    · exact h.glob g _ (by assumption)
    · exact .undef _
  | func f => obtain rfl := sj hx; exact .lit _
theorem Rel.oneCell {G : Gh} {d : DV} {v : Value} (r : Rel G d v) (h : d.one = true) : v.oneCell' = true := by
  cases r <;> simp_all [DV.one, Value.oneCell']
theorem Rel.cells {G : Gh} {d : DV} {v : Value} {cs : List DV} (r : Rel G d v) (h : d.cells = some cs) :
    v.cells.size = cs.length ∧ ∀ (i : Nat) c, cs[i]? = some c → Rel G c (v.cells.getD i Go.undef) := by
  unfold DV.cells at h
  split at h
  · obtain rfl := sj h
    cases r with
    | agg _ vs hs hc => exact ⟨hs, hc⟩
  · split at h
    · obtain rfl := sj h
      have h1 : v.cells = #[v] := by
        have := r.oneCell (by assumption)
        cases v <;> first | rfl | simp [Value.oneCell'] at this
      rw [h1]
      refine ⟨rfl, fun i c hc => ?_⟩
      rcases i with _ | i
      · simp at hc; subst hc; exact r
      · simp at hc
    · cases h
theorem binInt_run (P : Program) (w : World) (op : BinOp) (k : IntKind) (t : TypeId) (a b : Int) (d : DV) (h : binOf op k a b = some d) (h1 : op ≠ .shl) (h2 : op ≠ .shr) :
    ∃ v, (binOp op t (.int k a) (.int k b)).run P w = .ok v w ∧ ∀ G, Rel G d v := by
  cases op <;> simp only [binOf, ne_eq, not_true_eq_false, reduceCtorEq, Option.some.injEq] at h h1 h2 <;> first
    | (subst h; exact ⟨_, by simp only [binOp, ne_eq, not_true_eq_false, if_false]; rfl, fun _ => .int _ _⟩)
    | (subst h; exact ⟨_, by simp only [binOp, ne_eq, not_true_eq_false, if_false]; rfl, fun _ => .bool _⟩)
    | (split at h
       · cases h
       · rename_i hb
         obtain rfl := sj h
         exact ⟨_, by simp only [binOp, ne_eq, not_true_eq_false, if_false, Op.intDiv, if_neg hb]; rfl, fun _ => .int _ _⟩)
theorem shift_run (P : Program) (w : World) (op : BinOp) (k k' : IntKind) (t : TypeId) (a b : Int) (d : DV) (h : shiftOf op k a b = some d) :
    ∃ v, (binOp op t (.int k a) (.int k' b)).run P w = .ok v w ∧ ∀ G, Rel G d v := by
  cases op <;> simp only [shiftOf, reduceCtorEq] at h <;>
    (split at h
     · cases h
     · rename_i hb
       obtain rfl := sj h
       exact ⟨_, by simp only [binOp, Op.shift, if_neg hb]; rfl, fun _ => .int _ _⟩)
def OpOk (E : Prg) (o : Oper) (r : ROp) : Prop := ∀ (C : Ctx) (G : Gh) (st : St) (a : Act) (w : World) (d : DV) (objs' : Objs), RelG E C G st a w → rval E st r = some (d, objs') →
  ∃ nx v w' G', (execOp a.eval o).run E.P w = .ok nx w' ∧ (nx = .value v ∨ (nx = .skip ∧ v = Go.undef)) ∧ RelG E C G' { st with objs := objs' } a w' ∧ Rel G' d v
theorem OpOk.quiet {E : Prg} {o : Oper} {r : ROp} (h : ∀ (C : Ctx) (G : Gh) (st : St) (a : Act) (w : World) (d : DV) (objs' : Objs), RelG E C G st a w → rval E st r = some (d, objs') →
    objs' = st.objs ∧ ∃ v, (execOp a.eval o).run E.P w = .ok (.value v) w ∧ Rel G d v) : OpOk E o r := by
  intro C G st a w d objs' hr hv
  obtain ⟨rfl, v, h1, h2⟩ := h C G st a w d objs' hr hv
  exact ⟨_, v, w, G, h1, .inl rfl, hr, h2⟩
theorem ok_mov {E : Prg} {o : Oper} {x : Operand} {y : Opd} (ho : o.op = .move x ∨ o.op = .assign x) (hx : copd x = some y) : OpOk E o (.mov y) := by
  refine OpOk.quiet fun C G st a w d objs' hr hv => ?_
  simp only [rval, Option.some.injEq, Prod.mk.injEq] at hv
  obtain ⟨rfl, rfl⟩ := hv
  refine ⟨rfl, a.eval x, ?_, hr.ev hx⟩
  rcases ho with ho | ho <;> simp [execOp, ho]
theorem ok_pick {E : Prg} {o : Oper} {x1 x2 x3 : Operand} {y1 y2 y3 : Opd} (ho : o.op = .pick x1 x2 x3) (h1 : copd x1 = some y1) (h2 : copd x2 = some y2) (h3 : copd x3 = some y3) : OpOk E o (.pick y1 y2 y3) := by
  refine OpOk.quiet fun C G st a w d objs' hr hv => ?_
  simp only [rval] at hv
  have r1 := hr.ev h1
  split at hv
  · rename_i t ht
    rw [ht] at r1
    simp only [Option.some.injEq, Prod.mk.injEq] at hv
    obtain ⟨rfl, rfl⟩ := hv
    generalize hu : a.eval x1 = u at r1
    cases r1
    refine ⟨rfl, if t then a.eval x2 else a.eval x3, by simp [execOp, ho, hu, asBool], ?_⟩
    cases t
    · exact hr.ev h3
    · exact hr.ev h2
  · cases hv
theorem ok_nilck {E : Prg} {o : Oper} {x : Operand} {y : Opd} (ho : o.op = .nilCheck x) (hx : copd x = some y) : OpOk E o (.nilck y) := by
  refine OpOk.quiet fun C G st a w d objs' hr hv => ?_
  simp only [rval] at hv
  have r1 := hr.ev hx
  split at hv
  · rename_i t i j ht
    rw [ht] at r1
    simp only [Option.some.injEq, Prod.mk.injEq] at hv
    obtain ⟨rfl, rfl⟩ := hv
    refine ⟨rfl, a.eval x, ?_, r1⟩
    generalize hu : a.eval x = u at r1
    cases r1
    simp [execOp, ho, hu]
  · rename_i row j ht
    rw [ht] at r1
    simp only [Option.some.injEq, Prod.mk.injEq] at hv
    obtain ⟨rfl, rfl⟩ := hv
    refine ⟨rfl, a.eval x, ?_, r1⟩
    generalize hu : a.eval x = u at r1
    cases r1
    simp [execOp, ho, hu]
  · cases hv
theorem strOf_run (P : Program) (w : World) (op : BinOp) (t : TypeId) (a b : List UInt8) (d : DV) (h : strOf op a b = some d) :
    ∃ v, (binOp op t (.string ⟨a.toArray⟩) (.string ⟨b.toArray⟩)).run P w = .ok v w ∧ ∀ G, Rel G d v := by
  have ha : (⟨a.toArray⟩ : ByteArray).toList = a := ByteArray.toList_mk a
  have hb : (⟨b.toArray⟩ : ByteArray).toList = b := ByteArray.toList_mk b
  have e : ∀ op, binOp op t (.string ⟨a.toArray⟩) (.string ⟨b.toArray⟩) = Op.stringOp op ⟨a.toArray⟩ ⟨b.toArray⟩ := fun op => by cases op <;> rfl
  rw [e]
  cases op <;> simp only [strOf, reduceCtorEq, Option.some.injEq] at h <;> first
    | (subst h; exact ⟨_, by simp only [Op.stringOp, ha, hb]; rfl, fun _ => .bool _⟩)
    | (split at h
       · rename_i hle
         obtain rfl := sj h
         refine ⟨.string ⟨(a ++ b).toArray⟩, ?_, fun _ => .str _⟩
         have hn : ¬ ((((⟨a.toArray⟩ : ByteArray).size + (⟨b.toArray⟩ : ByteArray).size : Nat) : Int) > IntKind.i64.max) := by
           simp [ByteArray.size]; omega
         simp only [Op.stringOp, if_neg hn]
         have : (⟨a.toArray⟩ : ByteArray) ++ ⟨b.toArray⟩ = ⟨(a ++ b).toArray⟩ := by
           apply ByteArray.ext; simp
         rw [this]; rfl
       · cases h)
theorem ok_bin {E : Prg} {o : Oper} {op : BinOp} {t t' : TypeId} {x1 x2 : Operand} {y1 y2 : Opd} (ho : o.op = .binOp op t x1 x2 t') (h1 : copd x1 = some y1) (h2 : copd x2 = some y2) : OpOk E o (.bin op y1 y2) := by
  refine OpOk.quiet fun C G st a w d objs' hr hv => ?_
  simp only [rval] at hv
  have r1 := hr.ev h1
  have r2 := hr.ev h2
  split at hv
  · rename_i k n k' m e1 e2
    rw [e1] at r1; rw [e2] at r2
    generalize hu : a.eval x1 = u at r1
    generalize hu' : a.eval x2 = u' at r2
    cases r1; cases r2
    obtain ⟨d', hd, he⟩ := Option.map_eq_some_iff.1 hv
    obtain ⟨rfl, rfl⟩ := Prod.mk.inj he
    refine ⟨rfl, ?_⟩
    have key : ∃ v, (binOp op t (.int k n) (.int k' m)).run E.P w = .ok v w ∧ ∀ G, Rel G d' v := by
      split at hd
      · exact shift_run _ _ _ _ _ _ _ _ _ hd
      · exact shift_run _ _ _ _ _ _ _ _ _ hd
      · rename_i hs1 hs2
        split at hd
        · subst k'
          exact binInt_run _ _ _ _ _ _ _ _ hd (fun e => hs1 e) (fun e => hs2 e)
        · cases hd
    obtain ⟨v, hv, hr'⟩ := key
    exact ⟨v, by simp [execOp, ho, hu, hu', eqGuard_at_int, hv], hr' G⟩
  · rename_i s s' e1 e2
    rw [e1] at r1; rw [e2] at r2
    generalize hu : a.eval x1 = u at r1
    generalize hu' : a.eval x2 = u' at r2
    cases r1; cases r2
    obtain ⟨d', hd, he⟩ := Option.map_eq_some_iff.1 hv
    obtain ⟨rfl, rfl⟩ := Prod.mk.inj he
    obtain ⟨v, hv, hr'⟩ := strOf_run E.P w op t s s' d' hd
    exact ⟨rfl, v, by simp [execOp, ho, hu, hu', eqGuard_at_string, hv], hr' G⟩
  · cases hv
theorem ok_eqB {E : Prg} {o : Oper} {neg : Bool} {t t' : TypeId} {x1 x2 : Operand} {y1 y2 : Opd} (ho : o.op = .binOp (if neg then .neq else .eql) t x1 x2 t') (ht : E.P.underlying t = some .bool)
    (h1 : copd x1 = some y1) (h2 : copd x2 = some y2) : OpOk E o (.eqB neg y1 y2) := by
  refine OpOk.quiet fun C G st a w d objs' hr hv => ?_
  simp only [rval] at hv
  have r1 := hr.ev h1
  have r2 := hr.ev h2
  split at hv
  · rename_i b b' e1 e2
    rw [e1] at r1; rw [e2] at r2
    generalize hu : a.eval x1 = u at r1
    generalize hu' : a.eval x2 = u' at r2
    cases r1; cases r2
    simp only [Option.some.injEq, Prod.mk.injEq] at hv
    obtain ⟨rfl, rfl⟩ := hv
    have heq := run_equal_bool (P := E.P) w t b b' ht
    have hbe : (b == b') = decide (b = b') := by cases b <;> cases b' <;> rfl
    refine ⟨rfl, .bool (if neg then !decide (b = b') else decide (b = b')), ?_, .bool _⟩
    cases neg
    · simp only [Bool.false_eq_true, if_false] at ho ⊢
      have : binOp .eql t (.bool b) (.bool b') = (do pure (.bool (← Op.equal t (.bool b) (.bool b')))) := rfl
      simp [execOp, ho, hu, hu', eqGuard_at_bool, this, heq, hbe]
    · simp only [if_true] at ho ⊢
      have : binOp .neq t (.bool b) (.bool b') = (do pure (.bool (!(← Op.equal t (.bool b) (.bool b'))))) := rfl
      simp [execOp, ho, hu, hu', eqGuard_at_bool, this, heq, hbe]
  · cases hv
theorem run_equalIn_nil {P : Program} (w : World) (d : Nat) (t e : TypeId) (p : Option Addr) (n m c : Nat) (h : P.underlying t = some (.slice e)) : (Op.equalIn (d + 1) t (.slice p n c) (.slice none m 0)).run P w = .ok p.isNone w := by
  cases p <;> simp [Op.equalIn, run_underlying h]
theorem run_equal_nil {P : Program} (w : World) (t e : TypeId) (p : Option Addr) (n m c : Nat) (h : P.underlying t = some (.slice e)) : (Op.equal t (.slice p n c) (.slice none m 0)).run P w = .ok p.isNone w :=
  run_equalIn_nil w 9999 t e p n m c h
theorem ok_eqNil {E : Prg} {o : Oper} {neg : Bool} {t t' e : TypeId} {x1 x2 : Operand} {y1 y2 : Opd} (ho : o.op = .binOp (if neg then .neq else .eql) t x1 x2 t') (ht : E.P.underlying t = some (.slice e))
    (h1 : copd x1 = some y1) (h2 : copd x2 = some y2) : OpOk E o (.eqNil neg y1 y2) := by
  refine OpOk.quiet fun C G st a w d objs' hr hv => ?_
  simp only [rval] at hv
  have r1 := hr.ev h1
  have r2 := hr.ev h2
  split at hv
  · rename_i sz rows k sz' rows' e1 e2
    rw [e1] at r1; rw [e2] at r2
    generalize hu : a.eval x1 = u at r1
    generalize hu' : a.eval x2 = u' at r2
    cases r1 with
    | sl _ _ _ p len cap _ _ _ _ hk =>
      cases r2 with
      | sl _ _ _ p' len' cap' _ _ _ _ hk' =>
        obtain ⟨rfl, rfl⟩ := hk'
        obtain ⟨b, hb, he⟩ := Option.map_eq_some_iff.1 hv
        obtain ⟨rfl, rfl⟩ := Prod.mk.inj he
        have hp : p.isNone = b := by
          cases k <;> simp only [reduceCtorEq, Option.some.injEq] at hb
          · subst hb; simp [hk.1]
          · subst hb; simpa [SK.ok] using hk
        have heq : (Op.equal t (.slice p len cap) (.slice none len' 0)).run E.P w = .ok b w := by
          exact (run_equal_nil w t e p len len' cap ht).trans (by rw [hp])
        refine ⟨rfl, .bool (if neg then !b else b), ?_, .bool _⟩
        cases neg
        · simp only [Bool.false_eq_true, if_false] at ho ⊢
          have : binOp .eql t (.slice p len cap) (.slice none len' 0) = (do pure (.bool (← Op.equal t (.slice p len cap) (.slice none len' 0)))) := rfl
          simp [execOp, ho, hu, hu', eqGuard_at_slice, this, heq]
        · simp only [if_true] at ho ⊢
          have : binOp .neq t (.slice p len cap) (.slice none len' 0) = (do pure (.bool (!(← Op.equal t (.slice p len cap) (.slice none len' 0))))) := rfl
          simp [execOp, ho, hu, hu', eqGuard_at_slice, this, heq]
  · rename_i o' off n sz' rows' e1 e2
    split at hv
    · rename_i hn
      rw [e1] at r1; rw [e2] at r2
      generalize hu : a.eval x1 = u at r1
      generalize hu' : a.eval x2 = u' at r2
      cases r1 with
      | own _ _ _ pl p cap _ hc hle hp =>
        cases r2 with
        | sl _ _ _ p' len' cap' _ _ _ _ hk' =>
          obtain ⟨rfl, rfl⟩ := hk'
          obtain ⟨rfl, rfl⟩ := Prod.mk.inj (sj hv)
          have hpn : p.isNone = false := by rw [hp (by omega)]; rfl
          have heq : (Op.equal t (.slice p n cap) (.slice none len' 0)).run E.P w = .ok false w := by
            exact (run_equal_nil w t e p n len' cap ht).trans (by rw [hpn])
          refine ⟨rfl, .bool neg, ?_, .bool _⟩
          cases neg
          · simp only [Bool.false_eq_true, if_false] at ho ⊢
            have : binOp .eql t (.slice p n cap) (.slice none len' 0) = (do pure (.bool (← Op.equal t (.slice p n cap) (.slice none len' 0)))) := rfl
            simp [execOp, ho, hu, hu', eqGuard_at_slice, this, heq]
          · simp only [if_true] at ho ⊢
            have : binOp .neq t (.slice p n cap) (.slice none len' 0) = (do pure (.bool (!(← Op.equal t (.slice p n cap) (.slice none len' 0))))) := rfl
            simp [execOp, ho, hu, hu', eqGuard_at_slice, this, heq]
    · cases hv
  · cases hv
theorem run_equalIn_ptr {P : Program} (w : World) (d : Nat) (t e : TypeId) (p : Option Addr) (h : P.underlying t = some (.pointer e)) : (Op.equalIn (d + 1) t (.pointer p) (.pointer none)).run P w = .ok p.isNone w := by
  cases p <;> simp [Op.equalIn, run_underlying h]
theorem run_equal_ptr {P : Program} (w : World) (t e : TypeId) (p : Option Addr) (h : P.underlying t = some (.pointer e)) : (Op.equal t (.pointer p) (.pointer none)).run P w = .ok p.isNone w := run_equalIn_ptr w 9999 t e p h
theorem ok_eqP {E : Prg} {o : Oper} {neg : Bool} {t t' e : TypeId} {x1 x2 : Operand} {y1 y2 : Opd} (ho : o.op = .binOp (if neg then .neq else .eql) t x1 x2 t') (ht : E.P.underlying t = some (.pointer e))
    (h1 : copd x1 = some y1) (h2 : copd x2 = some y2) : OpOk E o (.eqP neg y1 y2) := by
  refine OpOk.quiet fun C G st a w d objs' hr hv => ?_
  simp only [rval] at hv
  have r1 := hr.ev h1
  have r2 := hr.ev h2
  obtain ⟨b, hb, he⟩ := Option.map_eq_some_iff.1 hv
  obtain ⟨rfl, rfl⟩ := Prod.mk.inj he
  have key : ∃ p : Option Addr, a.eval x1 = .pointer p ∧ a.eval x2 = .pointer none ∧ p.isNone = b := by
    generalize hu : a.eval x1 = u at r1
    generalize hu' : a.eval x2 = u' at r2
    unfold nilP at hb
    split at hb
    · rename_i e1 e2
      rw [e1] at r1; rw [e2] at r2
      obtain rfl := sj hb
      cases r1; cases r2; exact ⟨_, rfl, rfl, rfl⟩
    · rename_i e1 e2
      rw [e1] at r1; rw [e2] at r2
      obtain rfl := sj hb
      cases r1; cases r2; exact ⟨_, rfl, rfl, rfl⟩
    · rename_i e1 e2
      rw [e1] at r1; rw [e2] at r2
      obtain rfl := sj hb
      cases r1; cases r2; exact ⟨_, rfl, rfl, rfl⟩
    · cases hb
  obtain ⟨p, hu, hu', hp⟩ := key
  have heq : (Op.equal t (.pointer p) (.pointer none)).run E.P w = .ok b w := (run_equal_ptr w t e p ht).trans (by rw [hp])
  refine ⟨rfl, .bool (if neg then !b else b), ?_, .bool _⟩
  cases neg
  · simp only [Bool.false_eq_true, if_false] at ho ⊢
    have : binOp .eql t (.pointer p) (.pointer none) = (do pure (.bool (← Op.equal t (.pointer p) (.pointer none)))) := by cases p <;> rfl
    simp [execOp, ho, hu, hu', eqGuard_at_pointer, this, heq]
  · simp only [if_true] at ho ⊢
    have : binOp .neq t (.pointer p) (.pointer none) = (do pure (.bool (!(← Op.equal t (.pointer p) (.pointer none))))) := by cases p <;> rfl
    simp [execOp, ho, hu, hu', eqGuard_at_pointer, this, heq]
theorem ok_un {E : Prg} {o : Oper} {op : UnOp} {t : TypeId} {x : Operand} {y : Opd} (ho : o.op = .unOp op t x) (hx : copd x = some y) : OpOk E o (.un op y) := by
  refine OpOk.quiet fun C G st a w d objs' hr hv => ?_
  simp only [rval] at hv
  have r1 := hr.ev hx
  obtain ⟨d', hd, he⟩ := Option.map_eq_some_iff.1 hv
  obtain ⟨rfl, rfl⟩ := Prod.mk.inj he
  refine ⟨rfl, ?_⟩
  generalize hu : a.eval x = u at r1
  unfold unOf at hd
  split at hd
  · rename_i k n e1
    rw [e1] at r1; cases r1
    obtain rfl := sj hd
    exact ⟨.int k (k.wrap (0 - n)), by simp [execOp, ho, hu, Op.unary, Op.intArith], .int _ _⟩
  · rename_i k n e1
    rw [e1] at r1; cases r1
    obtain rfl := sj hd
    exact ⟨_, by simp only [execOp, ho, hu, Op.unary, Op.intBits, Sem.run_bind, Sem.run_pure, Result.andThen_ok], .int _ _⟩
  · rename_i b e1
    rw [e1] at r1; cases r1
    obtain rfl := sj hd
    exact ⟨.bool (!b), by simp [execOp, ho, hu, Op.unary], .bool _⟩
  · cases hd
theorem ok_ext {E : Prg} {o : Oper} {x : Operand} {i : Nat} {y : Opd} (ho : o.op = .extract x i) (hx : copd x = some y) : OpOk E o (.ext y i) := by
  refine OpOk.quiet fun C G st a w d objs' hr hv => ?_
  simp only [rval] at hv
  have r1 := hr.ev hx
  split at hv
  · rename_i cs e1
    rw [e1] at r1
    generalize hu : a.eval x = u at r1
    cases r1 with
    | tup _ vs hs hc =>
      split at hv
      · rename_i d' hd
        simp only [Option.some.injEq, Prod.mk.injEq] at hv
        obtain ⟨rfl, rfl⟩ := hv
        have hi : i < vs.size := by rw [hs]; exact (List.getElem?_eq_some_iff.1 hd).1
        have := hc i d' hd
        rw [Array.getD_eq_getD_getElem?] at this
        simp only [hi, Array.getElem?_eq_getElem, Option.getD_some] at this
        exact ⟨rfl, vs[i], by simp [execOp, ho, hu, Instr.extract, hi], this⟩
      · cases hv
  · cases hv
def tySize (P : Program) (t : TypeId) : Option Nat := (P.info? t).map (·.size)
def tyBytes (P : Program) (t : TypeId) : Option Nat := (P.info? t).map (·.bytes)
def tyAgg (P : Program) (t : TypeId) : Option Bool :=
  match P.underlying t with
  | some (.struct _) => some true
  | some (.array _ _) => some true
  | some _ => some false
  | none => none
def tyZero (P : Program) (t : TypeId) : Option (List DV) := ((P.info? t).bind (·.zero)).bind fun v => dvOfs v.cells.toList
theorem run_sizeOf {P : Program} {t : TypeId} {n : Nat} (h : tySize P t = some n) (w : World) : (sizeOf t).run P w = .ok n w := by
  obtain ⟨i, hi, rfl⟩ := Option.map_eq_some_iff.1 h
  simp [sizeOf, typeInfo, hi]
theorem run_isAgg {P : Program} {t : TypeId} {b : Bool} (h : tyAgg P t = some b) (w : World) : (isAgg t).run P w = .ok b w := by
  unfold tyAgg at h
  split at h <;> first
    | (cases h; done)
    | (rename_i hu; obtain rfl := sj h; simp [isAgg, run_underlying hu]; done)
    | (rename_i d h1 h2 hu
       obtain rfl := sj h
       rename_i d
       simp only [isAgg, Sem.run_bind, run_underlying hu, Result.andThen_ok]
       cases d <;> first | rfl | exact absurd rfl (h1 _) | exact absurd rfl (h2 _ _))
theorem run_zeroValue {P : Program} {t : TypeId} {ds : List DV} (h : tyZero P t = some ds) (w : World) : ∃ v, (zeroValue t).run P w = .ok v w ∧ dvOfs v.cells.toList = some ds := by
  obtain ⟨v, hv, h2⟩ := Option.bind_eq_some_iff.1 h
  obtain ⟨i, hi, h3⟩ := Option.bind_eq_some_iff.1 hv
  exact ⟨v, by simp [zeroValue, typeInfo, hi, h3], h2⟩
theorem load_row {P : Program} {G : Gh} {w : World} {A : Addr} {ag : Bool} {sz j : Nat} {t : TypeId} {row : List DV} {d : DV} (h1 : tyAgg P t = some ag) (h2 : tySize P t = some sz)
    (hA : ∀ (m : Nat) c, row[j + m]? = some c → ∃ v, w.cell? (A.add m) = some v ∧ Rel G c v) (hd : rowAt ag sz row j = some d) :
    ∃ v, (loadVar t A).run P w = .ok v w ∧ Rel G d v := by
  unfold rowAt at hd
  cases ag with
  | true =>
    simp only [if_true] at hd
    split at hd
    · rename_i hle
      obtain rfl := sj hd
      have hget : ∀ m, m < sz → ∃ c, row[j + m]? = some c := fun m hm => ⟨row[j + m], by rw [List.getElem?_eq_getElem]⟩
      have hrun := run_loadCells (P := P) w A sz (fun m => (w.cell? (A.add m)).getD undef) (fun m hm => by
        obtain ⟨c, hc⟩ := hget m hm
        obtain ⟨v, hv, _⟩ := hA m c hc
        rw [hv]; rfl)
      refine ⟨.agg ((List.range sz).map fun m => (w.cell? (A.add m)).getD undef).toArray, ?_, .agg _ _ (by simp; omega) (fun i c hc => ?_)⟩
      · simp [loadVar, run_isAgg h1, run_sizeOf h2, hrun]
      · rw [List.getElem?_take] at hc
        split at hc
        · rename_i hi
          rw [List.getElem?_drop] at hc
          obtain ⟨v, hv, hr⟩ := hA i c hc
          have : (((List.range sz).map fun m => (w.cell? (A.add m)).getD undef).toArray).getD i undef = v := by
            rw [getD_toList _ i v]
            simp [hi, hv]
          rw [this]; exact hr
        · cases hc
    · cases hd
  | false =>
    simp only [Bool.false_eq_true, if_false] at hd
    obtain ⟨v, hv, hr⟩ := hA 0 d (by simpa using hd)
    have hv' : w.cell? A = some v := by simpa [Addr.add] using hv
    exact ⟨v, by simp [loadVar, run_isAgg h1, hv'], hr⟩
theorem Ob.rows_setRow (ob : Ob) (i : Nat) (row0 row : List DV) (h : ob.rows[i]? = some row0) : (ob.setRow i row).rows = ob.rows.set i row := by
  cases ob with
  | map es => simp [Ob.rows] at h
  | box cs =>
    rcases i with _ | i
    · rfl
    · simp [Ob.rows] at h
  | arr sz rows => rfl
theorem rp_cells {G : Gh} {w : World} {row : List DV} {j : Nat} {v : Value} {objs : Objs} (hh : Heap G objs w) (r : Rel G (.rp row j) v) :
    ∃ A, v = .pointer (some A) ∧ A.spot = none ∧ ∀ (m : Nat) c, row[j + m]? = some c → ∃ u, w.cell? (A.add m) = some u ∧ Rel G c u := by
  cases r with
  | rp _ _ b o vals h1 h2 =>
    refine ⟨_, rfl, rfl, fun m c hc => ⟨vals (j + m), ?_, h2 _ c hc⟩⟩
    rw [Addr.add_lit]
    have := (hh.rdv _ _ (h1 _ c hc)).1
    rwa [← Nat.add_assoc] at this
theorem ptr_cells {G : Gh} {w : World} {o i j : Nat} {v : Value} {objs : Objs} {ob : Ob} {row : List DV} (hh : Heap G objs w) (ho : objs[o]? = some (some ob)) (hi : ob.rows[i]? = some row) (r : Rel G (.ptr o i j) v) :
    ∃ p, G.pl o = some p ∧ LiveAt G w p ob ∧ v = .pointer (some (p.cellAt (i * p.sz + j))) ∧ ∀ (m : Nat) c, row[j + m]? = some c → ∃ u, w.cell? ((p.cellAt (i * p.sz + j)).add m) = some u ∧ Rel G c u := by
  obtain ⟨p, hp, hl⟩ := hh.live o ob ho
  cases r with
  | ptr _ _ _ q hq =>
    obtain rfl : q = p := sj (hq.symm.trans hp)
    refine ⟨q, hp, hl, rfl, fun m c hc => ?_⟩
    have hlt := hl.idx hi hc
    obtain ⟨u, hu, _⟩ := hl.there (Ob.cel_of hi) _ hlt
    refine ⟨u, ?_, hl.holds i (j + m) row c u hi hc hu⟩
    rw [cellAt_add, Nat.add_assoc]; exact hu
theorem ok_load {E : Prg} {o : Oper} {t : TypeId} {ag : Bool} {sz : Nat} {x : Operand} {y : Opd} (ho : o.op = .load t x) (h1 : tyAgg E.P t = some ag) (h2 : tySize E.P t = some sz) (hx : copd x = some y) :
    OpOk E o (.load ag sz y) := by
  refine OpOk.quiet fun C G st a w d objs' hr hv => ?_
  simp only [rval] at hv
  have r1 := hr.ev hx
  generalize hu : a.eval x = u at r1
  split at hv
  · rename_i ob i j e1
    rw [e1] at r1
    split at hv
    · rename_i b hb
      split at hv
      · rename_i row hrow
        obtain ⟨d', hd, he⟩ := Option.map_eq_some_iff.1 hv
        obtain ⟨rfl, rfl⟩ := Prod.mk.inj he
        obtain ⟨p, _, _, rfl, hA⟩ := ptr_cells hr.heap hb hrow r1
        obtain ⟨v, hv1, hv2⟩ := load_row h1 h2 hA hd
        exact ⟨rfl, v, by simp [execOp, ho, hu, Instr.loadAt, Instr.sureAddr, hv1], hv2⟩
      · cases hv
    · cases hv
  · rename_i row j e1
    rw [e1] at r1
    obtain ⟨d', hd, he⟩ := Option.map_eq_some_iff.1 hv
    obtain ⟨rfl, rfl⟩ := Prod.mk.inj he
    obtain ⟨A, rfl, _, hA⟩ := rp_cells hr.heap r1
    obtain ⟨v, hv1, hv2⟩ := load_row h1 h2 hA hd
    exact ⟨rfl, v, by simp [execOp, ho, hu, Instr.loadAt, Instr.sureAddr, hv1], hv2⟩
  · cases hv
theorem rowSet_length (row : List DV) (j : Nat) (cs : List DV) (h : j + cs.length ≤ row.length) : (rowSet row j cs).length = row.length := by
  simp [rowSet]; omega
theorem rowSet_get (row : List DV) (j : Nat) (cs : List DV) (h : j + cs.length ≤ row.length) (i : Nat) :
    (rowSet row j cs)[i]? = if i < j then row[i]? else if i < j + cs.length then cs[i - j]? else row[i]? := by
  unfold rowSet
  rw [List.append_assoc]
  split
  · rename_i hi
    rw [List.getElem?_append_left (by simp; omega), List.getElem?_take, if_pos hi]
  · rename_i hi
    rw [List.getElem?_append_right (by simp; omega)]
    have e : (row.take j).length = j := by simp; omega
    rw [e]
    split
    · rename_i h2
      rw [List.getElem?_append_left (by omega)]
    · rename_i h2
      rw [List.getElem?_append_right (by omega), List.getElem?_drop]
      congr 1; omega
theorem ok_store {E : Prg} {o : Oper} {t : TypeId} {sz : Nat} {x1 x2 : Operand} {y1 y2 : Opd} (ho : o.op = .store t x1 x2) (h2 : tySize E.P t = some sz) (hx1 : copd x1 = some y1) (hx2 : copd x2 = some y2) :
    OpOk E o (.store sz y1 y2) := by
  intro C G st a w d objs' hr hv
  simp only [rval] at hv
  have r1 := hr.ev hx1
  have r2 := hr.ev hx2
  generalize hu : a.eval x1 = u at r1
  generalize hu2 : a.eval x2 = u2 at r2
  split at hv
  · rename_i k i j cs e1 e2
    rw [e1] at r1
    split at hv
    · rename_i ob hb
      split at hv
      · rename_i row hrow
        split at hv
        · rename_i hc
          obtain ⟨hlen, hall, hle⟩ := hc
          simp only [Option.some.injEq, Prod.mk.injEq] at hv
          obtain ⟨rfl, rfl⟩ := hv
          obtain ⟨p, hp, hl, rfl, _⟩ := ptr_cells hr.heap hb hrow r1
          obtain ⟨hs, hcs⟩ := r2.cells e2
          have hrl : row.length = p.sz := hl.size row (List.mem_of_getElem? hrow)
          have hin : ∀ m, m < sz → i * p.sz + j + m < p.cap * p.sz := fun m hm => by
            have := hl.idx hrow (j := j + m) (c := row[j + m]) (List.getElem?_eq_getElem (by omega))
            omega
          have hvs : ∀ (m : Nat) v, u2.cells.toList[m]? = some v → v.oneCell' = true := fun m v hm => by
            have hm' : m < cs.length := by rw [← hs]; simpa using (List.getElem?_eq_some_iff.1 hm).1
            have h3 := hcs m cs[m] (List.getElem?_eq_getElem hm')
            rw [getD_toList _ _ _ hm] at h3
            exact h3.oneCell (List.all_eq_true.1 hall _ (List.getElem_mem hm'))
          have hst := run_storeCells_cells (P := E.P) p.block (p.off + (i * p.sz + j)) u2.cells.toList 0 w
            (fun m hm => by
              obtain ⟨v, hv, _⟩ := hl.there (Ob.cel_of hrow) _ (hin m (by simp at hm; omega))
              have : (⟨p.block, p.off + (i * p.sz + j) + 0 + m, none⟩ : Addr) = p.cellAt (i * p.sz + j + m) := by simp [Place.cellAt]; omega
              rw [this, hv]; rfl)
            (fun m hm => by
              obtain ⟨v, _, _, hv⟩ := hl.there (Ob.cel_of hrow) _ (hin m (by simp at hm; omega))
              have : (⟨p.block, p.off + (i * p.sz + j) + 0 + m, none⟩ : Addr) = p.cellAt (i * p.sz + j + m) := by simp [Place.cellAt]; omega
              rw [this, hv])
            (fun v hv => by
              obtain ⟨m, hm⟩ := List.getElem?_of_mem hv
              exact hvs m v hm)
          have hw := Wrote.setCells p.block u2.cells.toList (p.off + (i * p.sz + j)) w
          rw [Nat.add_zero] at hst
          refine ⟨.skip, undef, _, G, ?_, .inr ⟨rfl, rfl⟩, hr.write hb hp hw ?_ ?_, .undef _⟩
          · have hne : ¬ (u2.cells.size ≠ sz) := by omega
            simp only [execOp, ho, hu, hu2, Instr.storeAt, Instr.sureAddr, storeVar, Sem.run_bind, Sem.run_pure, Result.andThen_ok, run_sizeOf h2, hne, if_false]
            simp only [Place.cellAt, hst, Result.andThen_ok, Sem.run_pure]
          · intro x hx
            obtain ⟨hx1, hx2, hx3, hx4⟩ := hx
            simp at hx4
            refine ⟨x.off - p.off, ?_, ?_⟩
            · have := hin (x.off - (p.off + (i * p.sz + j))) (by omega); omega
            · obtain ⟨xb, xo, xs⟩ := x
              simp at hx1 hx2 hx3 hx4 ⊢
              subst hx1 hx2
              simp [Place.cellAt]; omega
          · have hrs := Ob.rows_setRow ob i row (rowSet row j cs) hrow
            have hos : (ob.setRow i (rowSet row j cs)).sz = ob.sz := by
              cases ob with
              | box cs0 =>
                rcases i with _ | i
                · simp [Ob.rows] at hrow; subst hrow
                  exact rowSet_length _ _ _ (by omega)
                · simp [Ob.rows] at hrow
              | arr s rows => rfl
              | map es => simp [Ob.rows] at hrow
            refine ⟨hos ▸ hl.psz, by rw [hrs]; simpa using hl.fits, fun r hrr => ?_, fun _ m hm => ?_, fun i' j' r c v hi' hj' hv' => ?_, fun h0 => hw.mko _ (hl.mko h0), fun es he => by cases ob with | map es => simp [Ob.rows] at hrow | box => cases he | arr => cases he⟩
            · rw [hrs] at hrr
              rcases List.mem_or_eq_of_mem_set hrr with h | h
              · exact hl.size r h
              · subst h; rw [rowSet_length _ _ _ (by omega)]; exact hrl
            · obtain ⟨v, hv, hv1, hv2⟩ := hl.there (Ob.cel_of hrow) m hm
              by_cases hR : i * p.sz + j ≤ m ∧ m < i * p.sz + j + sz
              · have hm' : m - (i * p.sz + j) < u2.cells.toList.length := by simp; omega
                have := World.cell?_setCells_in p.block u2.cells.toList (p.off + (i * p.sz + j)) w (fun q hq => by
                  obtain ⟨v, hv, _⟩ := hl.there (Ob.cel_of hrow) _ (hin q (by simp at hq; omega))
                  have : (⟨p.block, p.off + (i * p.sz + j) + q, none⟩ : Addr) = p.cellAt (i * p.sz + j + q) := by simp [Place.cellAt]; omega
                  rw [this, hv]; rfl) (m - (i * p.sz + j)) hm'
                have e : (⟨p.block, p.off + (i * p.sz + j) + (m - (i * p.sz + j)), none⟩ : Addr) = p.cellAt m := by simp [Place.cellAt]; omega
                rw [e] at this
                exact ⟨_, this, hvs _ _ (List.getElem?_eq_getElem hm'), by rw [hw.frz]; exact hv2⟩
              · refine ⟨v, ?_, hv1, by rw [hw.frz]; exact hv2⟩
                rw [hw.cell]
                · exact hv
                · intro hx
                  obtain ⟨_, _, hx3, hx4⟩ := hx
                  simp [Place.cellAt] at hx3 hx4
                  omega
            · rw [hrs, List.getElem?_set] at hi'
              by_cases hii : i = i'
              · subst hii
                rw [if_pos rfl] at hi'
                split at hi'
                · obtain rfl := sj hi'
                  rw [rowSet_get _ _ _ (by omega)] at hj'
                  by_cases hR : j ≤ j' ∧ j' < j + cs.length
                  · rw [if_neg (by omega), if_pos hR.2] at hj'
                    have hm' : j' - j < u2.cells.toList.length := by simp; omega
                    have := World.cell?_setCells_in p.block u2.cells.toList (p.off + (i * p.sz + j)) w (fun q hq => by
                      obtain ⟨v, hv, _⟩ := hl.there (Ob.cel_of hrow) _ (hin q (by simp at hq; omega))
                      have : (⟨p.block, p.off + (i * p.sz + j) + q, none⟩ : Addr) = p.cellAt (i * p.sz + j + q) := by simp [Place.cellAt]; omega
                      rw [this, hv]; rfl) (j' - j) hm'
                    have e : (⟨p.block, p.off + (i * p.sz + j) + (j' - j), none⟩ : Addr) = p.cellAt (i * p.sz + j') := by simp [Place.cellAt]; omega
                    rw [e, hv'] at this
                    obtain rfl := sj this
                    have h3 := hcs (j' - j) c hj'
                    rwa [getD_toList _ _ _ (List.getElem?_eq_getElem hm')] at h3
                  · have hj2 : row[j']? = some c := by
                      split at hj'
                      · exact hj'
                      · rw [if_neg (by omega)] at hj'; exact hj'
                    rw [hw.cell] at hv'
                    · exact hl.holds i j' row c v hrow hj2 hv'
                    · intro hx
                      obtain ⟨_, _, hx3, hx4⟩ := hx
                      simp [Place.cellAt] at hx3 hx4
                      omega
                · cases hi'
              · rw [if_neg hii] at hi'
                have hlt := hl.idx hi' hj'
                have hj3 : j' < p.sz := by
                  have := hl.size r (List.mem_of_getElem? hi')
                  have := (List.getElem?_eq_some_iff.1 hj').1
                  omega
                rw [hw.cell] at hv'
                · exact hl.holds i' j' r c v hi' hj' hv'
                · intro hx
                  obtain ⟨_, _, hx3, hx4⟩ := hx
                  simp [Place.cellAt] at hx3 hx4
                  rcases Nat.lt_or_gt_of_ne hii with h | h
                  · have : (i + 1) * p.sz ≤ i' * p.sz := Nat.mul_le_mul_right _ h
                    rw [Nat.add_mul] at this
                    omega
                  · have : (i' + 1) * p.sz ≤ i * p.sz := Nat.mul_le_mul_right _ h
                    rw [Nat.add_mul] at this
                    omega
        · cases hv
      · cases hv
    · cases hv
  · cases hv
theorem RelG.newBox {E : Prg} {C : Ctx} {G : Gh} {st : St} {a : Act} {w : World} (h : RelG E C G st a w) (vs : Array Value) (T : TypeId) (cs : List DV)
    (hsz : vs.size = cs.length) (hone : ∀ (i : Nat) v, vs[i]? = some v → v.oneCell' = true) (hrel : ∀ (i : Nat) c, cs[i]? = some c → Rel G c (vs.getD i undef)) :
    ∃ G', RelG E C G' { st with objs := st.objs ++ [some (.box cs)] } a (w.alloc (.cells vs T)) ∧ Rel G' (.ptr st.objs.length 0 0) (.pointer (some ⟨w.heap.size, 0, none⟩)) := by
  refine ⟨_, h.new vs T (0, 0) (.box cs) cs.length 1 (.inl rfl) rfl (by omega) (by simp [Ob.rows]) (by simp [Ob.rows]) hone (fun i j row c v hi hj hv => ?_), ?_⟩
  · rcases i with _ | i
    · simp [Ob.rows] at hi; subst hi
      have := hrel j c hj
      rw [Array.getD_eq_getD_getElem?] at this
      simp at hv
      rwa [hv] at this
    · simp [Ob.rows] at hi
  · have := Rel.ptr (G := G.more st.objs.length ⟨w.heap.size, 0, cs.length, 1⟩) st.objs.length 0 0 ⟨w.heap.size, 0, cs.length, 1⟩ (by simp [Gh.more])
    simpa [Place.cellAt] using this
theorem ok_box {E : Prg} {o : Oper} {t : TypeId} {sz : Nat} {x : Operand} {y : Opd} (ho : o.op = .box t x) (hx : copd x = some y) : OpOk E o (.box sz y) := by
  intro C G st a w d objs' hr hv
  simp only [rval] at hv
  have r1 := hr.ev hx
  generalize hu : a.eval x = u at r1
  split at hv
  · rename_i cs hcs
    split at hv
    · rename_i hc
      simp only [Option.some.injEq, Prod.mk.injEq] at hv
      obtain ⟨rfl, rfl⟩ := hv
      obtain ⟨hs, hrel⟩ := r1.cells hcs
      obtain ⟨G', h1, h2⟩ := hr.newBox u.cells t cs hs (fun i v hi => by
        have hi' : i < cs.length := by rw [← hs]; exact (Array.getElem?_eq_some_iff.1 hi).1
        have h3 := hrel i cs[i] (List.getElem?_eq_getElem hi')
        rw [Array.getD_eq_getD_getElem?, hi] at h3
        exact h3.oneCell (List.all_eq_true.1 hc.2 _ (List.getElem_mem hi'))) hrel
      exact ⟨_, _, _, G', by simp [execOp, ho, hu, Instr.box, newVar, newRow], .inl rfl, h1, h2⟩
    · cases hv
  · cases hv
theorem dvOfs_cells {G : Gh} {v : Value} {zero : List DV} (h : dvOfs v.cells.toList = some zero) :
    v.cells.size = zero.length ∧ (∀ (i : Nat) x, v.cells[i]? = some x → x.oneCell' = true) ∧ ∀ (i : Nat) c, zero[i]? = some c → Rel G c (v.cells.getD i undef) := by
  obtain ⟨h1, h2⟩ := dvOfs_rel (G := G) h
  have hs : v.cells.size = zero.length := by simpa using h1.symm
  refine ⟨hs, fun i x hx => ?_, fun i c hc => ?_⟩
  · have hi : i < zero.length := by rw [← hs]; exact (Array.getElem?_eq_some_iff.1 hx).1
    exact (h2 i zero[i] x (List.getElem?_eq_getElem hi) (by simpa using hx)).2.2
  · have hi : i < v.cells.toList.length := by rw [← h1]; exact (List.getElem?_eq_some_iff.1 hc).1
    have hv := List.getElem?_eq_getElem hi
    rw [getD_toList _ i _ hv]
    exact (h2 i c _ hc hv).1
theorem ok_alloc {E : Prg} {o : Oper} {t : TypeId} {zero : List DV} (ho : o.op = .alloc t) (hz : tyZero E.P t = some zero) : OpOk E o (.alloc zero) := by
  intro C G st a w d objs' hr hv
  simp only [rval, Option.some.injEq, Prod.mk.injEq] at hv
  obtain ⟨rfl, rfl⟩ := hv
  obtain ⟨v, hv1, hv2⟩ := run_zeroValue hz w
  obtain ⟨hs, hone, hrel⟩ := dvOfs_cells (G := G) hv2
  obtain ⟨G', h1, h2⟩ := hr.newBox v.cells t zero hs hone hrel
  exact ⟨_, _, _, G', by simp [execOp, ho, Instr.alloc, hv1, newVar, newRow], .inl rfl, h1, h2⟩
theorem ok_faddr {E : Prg} {o : Oper} {t : TypeId} {f off : Nat} {x : Operand} {y : Opd} {fs : Array Field} {fd : Field} {n : Nat} (ho : o.op = .fieldAddr t x f) (ht : E.P.underlying t = some (.struct fs)) (hf : fs[f]? = some fd)
    (hoff : fd.offset = off) (hsz : tySize E.P fd.type = some n) (hn : n ≠ 0) (hx : copd x = some y) : OpOk E o (.faddr off y) := by
  refine OpOk.quiet fun C G st a w d objs' hr hv => ?_
  simp only [rval] at hv
  have r1 := hr.ev hx
  generalize hu : a.eval x = u at r1
  have key : ∀ A : Addr, (execOp a.eval o).run E.P w = .ok (.value (.pointer (some (A.add off)))) w ∨ u ≠ .pointer (some A) := fun A => by
    by_cases h : u = .pointer (some A)
    · left
      have hn' : (n = 0) = False := by simp [hn]
      simp [execOp, ho, hu, h, Instr.fieldAt, run_underlying ht, hf, Instr.sureAddr, fieldPlace, run_sizeOf hsz, hn', hoff]
    · exact .inr h
  split at hv
  · rename_i k i j e1
    rw [e1] at r1
    simp only [Option.some.injEq, Prod.mk.injEq] at hv
    obtain ⟨rfl, rfl⟩ := hv
    cases r1 with
    | ptr _ _ _ p hp =>
      refine ⟨rfl, _, (key (p.cellAt (i * p.sz + j))).resolve_right (fun h => h rfl), ?_⟩
      rw [cellAt_add, Nat.add_assoc]
      exact .ptr k i (j + off) p hp
  · rename_i row j e1
    rw [e1] at r1
    simp only [Option.some.injEq, Prod.mk.injEq] at hv
    obtain ⟨rfl, rfl⟩ := hv
    cases r1 with
    | rp _ _ b ob vals h1 h2 =>
      refine ⟨rfl, _, (key ⟨b, ob + j, none⟩).resolve_right (fun h => h rfl), ?_⟩
      rw [Addr.add_lit, Nat.add_assoc]
      exact .rp row (j + off) b ob vals h1 h2
  · cases hv
theorem part_row {P : Program} {G : Gh} {w : World} {ag : Bool} {sz off : Nat} {t : TypeId} {cs : List DV} {vs : Array Value} {d : DV} (h1 : tyAgg P t = some ag) (h2 : tySize P t = some sz)
    (hs : vs.size = cs.length) (hrel : ∀ (i : Nat) c, cs[i]? = some c → Rel G c (vs.getD i undef)) (hd : rowAt ag sz cs off = some d) : ∃ v, (part t vs off).run P w = .ok v w ∧ Rel G d v := by
  unfold rowAt at hd
  cases ag with
  | true =>
    simp only [if_true] at hd
    split at hd
    · rename_i hle
      obtain rfl := sj hd
      refine ⟨.agg (vs.extract off (off + sz)), by simp [part, run_isAgg h1, run_sizeOf h2], .agg _ _ (by simp; omega) (fun i c hc => ?_)⟩
      rw [List.getElem?_take] at hc
      split at hc
      · rename_i hi
        rw [List.getElem?_drop] at hc
        have h3 := hrel _ c hc
        rw [Array.getD_eq_getD_getElem?] at h3 ⊢
        rw [Array.getElem?_extract]
        have : i < min (off + sz) vs.size - off := by omega
        rw [if_pos this]; exact h3
      · cases hc
    · cases hd
  | false =>
    simp only [Bool.false_eq_true, if_false] at hd
    have hi : off < vs.size := by rw [hs]; exact (List.getElem?_eq_some_iff.1 hd).1
    have h3 := hrel off d hd
    rw [Array.getD_eq_getD_getElem?, Array.getElem?_eq_getElem hi] at h3
    exact ⟨vs[off], by simp [part, run_isAgg h1, hi], h3⟩
theorem ok_fld {E : Prg} {o : Oper} {t : TypeId} {f off sz : Nat} {ag : Bool} {x : Operand} {y : Opd} {fs : Array Field} {fd : Field} (ho : o.op = .field t x f) (ht : E.P.underlying t = some (.struct fs)) (hf : fs[f]? = some fd)
    (hoff : fd.offset = off) (h1 : tyAgg E.P fd.type = some ag) (h2 : tySize E.P fd.type = some sz) (hx : copd x = some y) : OpOk E o (.fld ag off sz y) := by
  refine OpOk.quiet fun C G st a w d objs' hr hv => ?_
  simp only [rval] at hv
  have r1 := hr.ev hx
  generalize hu : a.eval x = u at r1
  split at hv
  · rename_i cs e1
    rw [e1] at r1
    obtain ⟨d', hd, he⟩ := Option.map_eq_some_iff.1 hv
    obtain ⟨rfl, rfl⟩ := Prod.mk.inj he
    cases r1 with
    | agg _ vs hs hrel =>
      obtain ⟨v, hv1, hv2⟩ := part_row (w := w) h1 h2 hs hrel hd
      subst hoff
      exact ⟨rfl, v, by simp [execOp, ho, hu, Instr.field, run_underlying ht, hf, asAgg, hv1], hv2⟩
  · cases hv
theorem ok_iaddr {E : Prg} {o : Oper} {t e : TypeId} {sz : Nat} {x1 x2 : Operand} {y1 y2 : Opd} (ho : o.op = .indexAddr t x1 x2) (ht : E.P.underlying t = some (.slice e)) (hsz : tySize E.P e = some sz)
    (h1 : copd x1 = some y1) (h2 : copd x2 = some y2) : OpOk E o (.iaddr sz y1 y2) := by
  refine OpOk.quiet fun C G st a w d objs' hr hv => ?_
  simp only [rval] at hv
  have r1 := hr.ev h1
  have r2 := hr.ev h2
  generalize hu : a.eval x1 = u at r1
  generalize hu2 : a.eval x2 = u2 at r2
  have key : ∀ (A : Addr) (k : IntKind) (n : Int) (len cap : Nat), u = .slice (some A) len cap → u2 = .int k n → 0 ≤ n → n < (len : Int) → (execOp a.eval o).run E.P w = .ok (.value (.pointer (some (A.add (n.toNat * sz))))) w := by
    intro A k n len cap hA hn h0 hl
    simp [execOp, ho, hu, hu2, hA, hn, Instr.indexAt, asIntOf, run_underlying ht, h0, hl, run_sizeOf hsz]
  split at hv
  · rename_i s rows kk k n e1 e2
    rw [e1] at r1; rw [e2] at r2
    split at hv
    · rename_i hc
      split at hv
      · rename_i row hrow
        simp only [Option.some.injEq, Prod.mk.injEq] at hv
        obtain ⟨rfl, rfl⟩ := hv
        cases r2
        cases r1 with
        | sl _ _ _ p len cap b off vals hl _ _ hp hrl hrd hrel =>
          have hne : rows ≠ [] := fun h => by subst h; simp at hrow
          obtain rfl := hp hne
          refine ⟨rfl, _, key _ _ n _ _ rfl rfl hc.1 (by rw [hl]; exact hc.2.1), ?_⟩
          rw [Addr.add_lit]
          have h3 := Rel.rp (G := G) row 0 b (off + n.toNat * sz) (fun m => vals n.toNat m) (fun m c hm => by
            have := hrd n.toNat m row c hrow hm
            rw [← Nat.add_assoc, hc.2.2] at this
            exact this) (fun m c hm => hrel n.toNat m row c hrow hm)
          simpa using h3
      · cases hv
    · cases hv
  · rename_i ob off m k n e1 e2
    rw [e1] at r1; rw [e2] at r2
    split at hv
    · rename_i hc
      split at hv
      · rename_i s rows hob
        split at hv
        · rename_i hs
          simp only [Option.some.injEq, Prod.mk.injEq] at hv
          obtain ⟨rfl, rfl⟩ := hv
          obtain ⟨p, hp, hl⟩ := hr.heap.live ob _ hob
          cases r2
          cases r1 with
          | own _ _ _ q A c hq hcap hfit hA =>
            obtain rfl : q = p := sj (hq.symm.trans hp)
            have hsz2 : q.sz = s := hl.psz
            obtain rfl := hA (by omega)
            refine ⟨rfl, _, key _ _ n _ _ rfl rfl hc.1 hc.2, ?_⟩
            rw [cellAt_add]
            have h3 := Rel.ptr (G := G) ob (off + n.toNat) 0 q hp
            have e : off * q.sz + n.toNat * sz = (off + n.toNat) * q.sz + 0 := by rw [Nat.add_mul, show sz = q.sz by omega]; rfl
            rw [e]; exact h3
        · cases hv
      · cases hv
    · cases hv
  · cases hv
theorem ok_iaddrA {E : Prg} {o : Oper} {t e : TypeId} {len sz : Nat} {x1 x2 : Operand} {y1 y2 : Opd} (ho : o.op = .indexAddr t x1 x2) (ht : E.P.underlying t = some (.array len e)) (hsz : tySize E.P e = some sz)
    (h1 : copd x1 = some y1) (h2 : copd x2 = some y2) : OpOk E o (.iaddrA len sz y1 y2) := by
  refine OpOk.quiet fun C G st a w d objs' hr hv => ?_
  simp only [rval] at hv
  have r1 := hr.ev h1
  have r2 := hr.ev h2
  generalize hu : a.eval x1 = u at r1
  generalize hu2 : a.eval x2 = u2 at r2
  have key : ∀ (A : Addr) (k : IntKind) (n : Int), u = .pointer (some A) → u2 = .int k n → 0 ≤ n → n < (len : Int) → (execOp a.eval o).run E.P w = .ok (.value (.pointer (some (A.add (n.toNat * sz))))) w := by
    intro A k n hA hn h0 hl
    simp [execOp, ho, hu, hu2, hA, hn, Instr.indexAt, asIntOf, run_underlying ht, h0, hl, run_sizeOf hsz, Instr.sureAddr]
  split at hv
  · rename_i ob i j k n e1 e2
    rw [e1] at r1; rw [e2] at r2
    split at hv
    · rename_i hc
      simp only [Option.some.injEq, Prod.mk.injEq] at hv
      obtain ⟨rfl, rfl⟩ := hv
      cases r2
      cases r1 with
      | ptr _ _ _ p hp =>
        refine ⟨rfl, _, key _ _ n rfl rfl hc.1 hc.2, ?_⟩
        rw [cellAt_add, Nat.add_assoc]
        exact .ptr ob i _ p hp
    · cases hv
  · rename_i row j k n e1 e2
    rw [e1] at r1; rw [e2] at r2
    split at hv
    · rename_i hc
      simp only [Option.some.injEq, Prod.mk.injEq] at hv
      obtain ⟨rfl, rfl⟩ := hv
      cases r2
      cases r1 with
      | rp _ _ b ob vals h1 h2 =>
        refine ⟨rfl, _, key _ _ n rfl rfl hc.1 hc.2, ?_⟩
        rw [Addr.add_lit, Nat.add_assoc]
        exact .rp row _ b ob vals h1 h2
    · cases hv
  · cases hv
theorem ok_idxS {E : Prg} {o : Oper} {t : TypeId} {x1 x2 : Operand} {y1 y2 : Opd} (ho : o.op = .index t x1 x2) (ht : E.P.underlying t = some .string)
    (h1 : copd x1 = some y1) (h2 : copd x2 = some y2) : OpOk E o (.idxS y1 y2) := by
  refine OpOk.quiet fun C G st a w d objs' hr hv => ?_
  simp only [rval] at hv
  have r1 := hr.ev h1
  have r2 := hr.ev h2
  generalize hu : a.eval x1 = u at r1
  generalize hu2 : a.eval x2 = u2 at r2
  split at hv
  · rename_i s k n e1 e2
    rw [e1] at r1; rw [e2] at r2
    cases r1; cases r2
    split at hv
    · rename_i h0
      split at hv
      · rename_i b hb
        simp only [Option.some.injEq, Prod.mk.injEq] at hv
        obtain ⟨rfl, rfl⟩ := hv
        refine ⟨rfl, .int .u8 b.toNat, ?_, .int _ _⟩
        have hlt : n.toNat < s.length := (List.getElem?_eq_some_iff.1 hb).1
        have hbb : s[n.toNat] = b := (List.getElem?_eq_some_iff.1 hb).2
        have hget : (⟨s.toArray⟩ : ByteArray)[n.toNat]? = some b := by
          rw [getElem?_pos (⟨s.toArray⟩ : ByteArray) n.toNat (by simpa [ByteArray.size] using hlt)]
          show some (s.toArray[n.toNat]'_) = some b
          simp [hbb]
        simp [execOp, ho, hu, hu2, Instr.index, asIntOf, run_underlying ht, h0, hget]
      · cases hv
    · cases hv
  · cases hv
theorem ok_len {E : Prg} {o : Oper} {t e : TypeId} {x : Operand} {y : Opd} {c : Call} (ho : o.op = .call c) (hc : c.callee = .builtin .len) (ha : c.args = #[x]) (hat : c.argTypes = #[t])
    (ht : E.P.underlying t = some (.slice e)) (hx : copd x = some y) : OpOk E o (.len y) := by
  refine OpOk.quiet fun C G st a w d objs' hr hv => ?_
  simp only [rval] at hv
  have r1 := hr.ev hx
  generalize hu : a.eval x = u at r1
  have key : ∀ p (n c : Nat), u = .slice p n c → (execOp a.eval o).run E.P w = .ok (.value (.int .i64 n)) w := fun p n c h => by
    subst h
    simp [execOp, ho, hc, ha, hat, resolve, invoke, builtin, Builtin.len_, run_underlying ht, hu, goInt]
  split at hv
  · rename_i s rows k e1
    rw [e1] at r1
    simp only [Option.some.injEq, Prod.mk.injEq] at hv
    obtain ⟨rfl, rfl⟩ := hv
    cases r1 with
    | sl _ _ _ p len cap _ _ _ hl =>
      subst hl
      exact ⟨rfl, _, key _ _ _ rfl, .int _ _⟩
  · rename_i k off n e1
    rw [e1] at r1
    simp only [Option.some.injEq, Prod.mk.injEq] at hv
    obtain ⟨rfl, rfl⟩ := hv
    cases r1
    exact ⟨rfl, _, key _ _ _ rfl, .int _ _⟩
  · cases hv
theorem ok_lenS {E : Prg} {o : Oper} {t : TypeId} {x : Operand} {y : Opd} {c : Call} (ho : o.op = .call c) (hc : c.callee = .builtin .len) (ha : c.args = #[x]) (hat : c.argTypes = #[t])
    (ht : E.P.underlying t = some .string) (hx : copd x = some y) : OpOk E o (.lenS y) := by
  refine OpOk.quiet fun C G st a w d objs' hr hv => ?_
  simp only [rval] at hv
  have r1 := hr.ev hx
  generalize hu : a.eval x = u at r1
  split at hv
  · rename_i s e1
    rw [e1] at r1
    simp only [Option.some.injEq, Prod.mk.injEq] at hv
    obtain ⟨rfl, rfl⟩ := hv
    cases r1
    refine ⟨rfl, .int .i64 s.length, ?_, .int _ _⟩
    have hs : ((⟨s.toArray⟩ : ByteArray).size : Int) = s.length := by simp [ByteArray.size]
    simp [execOp, ho, hc, ha, hat, resolve, invoke, builtin, Builtin.len_, run_underlying ht, hu, goInt, - ByteArray.size_data]
    exact hs
  · cases hv
def copdO : Option Operand → Option (Option Opd)
  | none => some none
  | some x => (copd x).map some
def NatV (v : Option Value) (dflt n : Nat) : Prop := (v = none ∧ n = dflt) ∨ ∃ k i, v = some (.int k i) ∧ 0 ≤ i ∧ n = i.toNat
theorem natOf_val {E : Prg} {C : Ctx} {G : Gh} {st : St} {a : Act} {w : World} (h : RelG E C G st a w) {x : Option Operand} {y : Option Opd} (hx : copdO x = some y) {dflt n : Nat} (hn : natOf st E dflt y = some n) :
    NatV (x.map a.eval) dflt n := by
  cases x with
  | none =>
    obtain rfl := sj hx
    obtain rfl := sj hn
    exact .inl ⟨rfl, rfl⟩
  | some x =>
    obtain ⟨y', hy, rfl⟩ := Option.map_eq_some_iff.1 hx
    have r := h.ev hy
    unfold natOf at hn
    simp only at hn
    split at hn
    · rename_i k i e1
      rw [e1] at r
      split at hn
      · rename_i h0
        obtain rfl := sj hn
        refine .inr ⟨k, i, ?_, h0, rfl⟩
        generalize hu : a.eval x = u at r
        cases r
        simp [hu]
      · cases hn
    · cases hn
theorem run_sliceBound {P : Program} {w : World} {k : IntKind} {i : Int} {y : Nat} (c : BoundsCode) (h0 : 0 ≤ i) (h : i.toNat ≤ y) : (Instr.sliceBound (.int k i) y c).run P w = .ok i.toNat w := by
  have : 0 ≤ i ∧ i ≤ (y : Int) := ⟨h0, by omega⟩
  simp [Instr.sliceBound, asIntOf, this]
theorem run_sliceBounds {P : Program} {w : World} {isS : Bool} {lo hi : Option Value} {len cap l h : Nat} (h1 : NatV lo 0 l) (h2 : NatV hi len h) (hlh : l ≤ h) (hc : h ≤ cap) :
    (Instr.sliceBounds isS len cap lo hi none).run P w = .ok (l, h, cap) w := by
  rcases h1 with ⟨rfl, rfl⟩ | ⟨k, i, rfl, hi0, rfl⟩ <;> rcases h2 with ⟨rfl, rfl⟩ | ⟨k', i', rfl, hi0', rfl⟩ <;>
    simp_all [Instr.sliceBounds, run_sliceBound]
theorem run_sliceBounds3 {P : Program} {w : World} {isS : Bool} {lo hi mx : Option Value} {len cap l h : Nat} (h1 : NatV lo 0 l) (h2 : NatV hi len h) (h3 : NatV mx 0 h) (hm : mx.isSome = true) (hh : hi.isSome = true) (hlh : l ≤ h) (hc : h ≤ cap) :
    (Instr.sliceBounds isS len cap lo hi mx).run P w = .ok (l, h, h) w := by
  rcases h1 with ⟨rfl, rfl⟩ | ⟨k, i, rfl, hi0, rfl⟩ <;> rcases h2 with ⟨rfl, rfl⟩ | ⟨k', i', rfl, hi0', rfl⟩ <;> rcases h3 with ⟨rfl, h3⟩ | ⟨k'', i'', rfl, hi0'', h3⟩ <;>
    simp_all [Instr.sliceBounds, run_sliceBound]
theorem Rel.slCut {G : Gh} {rows : List (List DV)} {k : SK} {p : Option Addr} {len cap s sz l h : Nat} (r : Rel G (.sl s rows k) (.slice p len cap)) (hlh : l ≤ h) (hh : h ≤ rows.length) (hsz : s = sz ∨ rows = [])
    (m : Nat) (hm : h ≤ m) (hmc : m ≤ cap) (k' : SK) (hk' : k'.ok (if m = l then p else p.map (·.add (l * sz))) (m - l)) :
    Rel G (.sl s ((rows.drop l).take (h - l)) k') (.slice (if m = l then p else p.map (·.add (l * sz))) (h - l) (m - l)) := by
  cases r with
  | sl _ _ _ _ _ _ b o vals hl hk hlc hp hrl hrd hrel =>
    have hget : ∀ (i : Nat) row, ((rows.drop l).take (h - l))[i]? = some row → rows[l + i]? = some row := fun i row hi => by
      rw [List.getElem?_take] at hi
      split at hi
      · rwa [List.getElem?_drop] at hi
      · cases hi
    refine .sl s _ k' _ _ _ b (o + l * s) (fun i j => vals (l + i) j) (by simp; omega) hk' (by omega) (fun hne => ?_) (fun i row hi => hrl _ row (hget i row hi)) (fun i j row c hi hj => ?_) (fun i j row c hi hj => hrel (l + i) j row c (hget i row hi) hj)
    · have h1 : l < h := by
        rcases Nat.lt_or_ge l h with h1 | h1
        · exact h1
        · exact absurd (by simp; omega) hne
      have hrn : rows ≠ [] := fun e => by subst e; simp at hh; omega
      rw [if_neg (by omega), hp hrn, hsz.resolve_right hrn]
      simp [Addr.add_lit]
    · have := hrd (l + i) j row c (hget i row hi) hj
      rw [Nat.add_mul] at this
      rw [← this]
      congr 2
      omega
theorem ok_slice {E : Prg} {o : Oper} {t e : TypeId} {sz : Nat} {x : Operand} {y : Opd} {lo hi mx : Option Operand} {lo' hi' mx' : Option Opd} (ho : o.op = .slice t x lo hi mx) (ht : E.P.underlying t = some (.slice e)) (hsz : tySize E.P e = some sz)
    (hx : copd x = some y) (h1 : copdO lo = some lo') (h2 : copdO hi = some hi') (h3 : copdO mx = some mx') (hmx : mx.isSome = true → hi.isSome = true) : OpOk E o (.slice sz y lo' hi' mx') := by
  refine OpOk.quiet fun C G st a w d objs' hr hv => ?_
  simp only [rval] at hv
  have r1 := hr.ev hx
  generalize hu : a.eval x = u at r1
  have key : ∀ (p : Option Addr) (len cap l h m : Nat), u = .slice p len cap → (Instr.sliceBounds true len cap (lo.map a.eval) (hi.map a.eval) (mx.map a.eval)).run E.P w = .ok (l, h, m) w →
      (execOp a.eval o).run E.P w = .ok (.value (.slice (if m = l then p else p.map (·.add (l * sz))) (h - l) (m - l))) w := by
    intro p len cap l h m hp hb
    subst hp
    simp [execOp, ho, hu, Instr.sliceAt, Instr.slice, run_underlying ht, hb, run_sizeOf hsz]
  split at hv
  · rename_i s rows k e1
    rw [e1] at r1
    split at hv
    · rename_i l h hl hh
      split at hv
      · rename_i hc
        obtain ⟨hlh, hhl, hok⟩ := hc
        have nl := natOf_val hr h1 hl
        have nh := natOf_val hr h2 hh
        obtain ⟨p, len, cap, rfl⟩ : ∃ p len cap, u = .slice p len cap := by cases r1; exact ⟨_, _, _, rfl⟩
        have hlen : len = rows.length ∧ len ≤ cap ∧ k.ok p cap := by cases r1; exact ⟨by assumption, by assumption, by assumption⟩
        obtain ⟨rfl, hlc, hk⟩ := hlen
        split at hv
        · rename_i hm
          simp only [Option.some.injEq, Prod.mk.injEq] at hv
          obtain ⟨rfl, rfl⟩ := hv
          have hmn : mx = none := by
            cases mx with
            | none => rfl
            | some x => obtain ⟨y', _, h5⟩ := Option.map_eq_some_iff.1 h3; cases h5
          subst hmn
          refine ⟨rfl, _, key _ _ _ l h cap rfl (run_sliceBounds nl nh hlh (by omega)), r1.slCut hlh hhl hok cap (by omega) (Nat.le_refl _) k ?_⟩
          cases k <;> simp only [SK.ok] at hk ⊢
          · cases p with
            | none => have := hk rfl; intro _; omega
            | some A => split <;> simp
          · obtain ⟨rfl, rfl⟩ := hk; exact ⟨by simp, by omega⟩
          · cases p with
            | none => simp at hk
            | some A => split <;> simp
          · omega
        · rename_i m0
          split at hv
          · rename_i m hm
            split at hv
            · rename_i hmh
              subst hmh
              simp only [Option.some.injEq, Prod.mk.injEq] at hv
              obtain ⟨rfl, rfl⟩ := hv
              have hms : mx.isSome = true := by
                cases mx with
                | none => cases h3
                | some x => rfl
              have nm := natOf_val hr h3 hm
              refine ⟨rfl, _, key _ _ _ l m m rfl (run_sliceBounds3 nl nh nm (by cases mx <;> simp_all) (by have := hmx hms; cases hi <;> simp_all) hlh (by omega)), r1.slCut hlh hhl hok m (Nat.le_refl _) (by omega) _ ?_⟩
              by_cases hml : m = l
              · rw [if_pos hml, if_pos hml]
                by_cases hkn : k = .nil
                · subst hkn; rw [if_pos rfl]; exact ⟨hk.1, by omega⟩
                · rw [if_neg hkn]; show m - l = 0; omega
              · rw [if_neg hml]
                by_cases hkn : k = .nil
                · subst hkn
                  have := hk.2
                  omega
                · rw [if_neg hkn]
                  cases p with
                  | none =>
                    intro _
                    cases k <;> simp [SK.ok] at hk hkn
                    all_goals omega
                  | some A => simp only [SK.ok]; split <;> simp
            · cases hv
          · cases hv
      · cases hv
    · cases hv
  · rename_i ob off n e1
    rw [e1] at r1
    split at hv
    · rename_i l h hl hh
      split at hv
      · rename_i s rows hob
        split at hv
        · rename_i hc
          obtain ⟨hlh, hhn, hs⟩ := hc
          simp only [Option.some.injEq, Prod.mk.injEq] at hv
          obtain ⟨rfl, rfl⟩ := hv
          have nl := natOf_val hr h1 hl
          have nh := natOf_val hr h2 hh
          have hmn : mx = none := by
            cases mx with
            | none => rfl
            | some x => obtain ⟨y', _, h5⟩ := Option.map_eq_some_iff.1 h3; cases h5
          subst hmn
          obtain ⟨p, hp, hlv⟩ := hr.heap.live ob _ hob
          have hpsz : p.sz = s := hlv.psz
          cases r1 with
          | own _ _ _ q A c hq hcap hfit2 hA =>
            obtain rfl : q = p := sj (hq.symm.trans hp)
            refine ⟨rfl, _, key _ _ _ l h c rfl (run_sliceBounds nl nh hlh (by omega)), .own ob (off + l) (h - l) q _ _ hp (by omega) (by omega) (fun hpos => ?_)⟩
            rw [if_neg (by omega), hA (by omega)]
            simp only [Option.map_some, cellAt_add]
            rw [Nat.add_mul, hpsz, hs]
        · cases hv
      · cases hv
    · rename_i l h m0 hl hh
      split at hv
      · rename_i m hm
        split at hv
        · rename_i hc
          obtain ⟨rfl, rfl, hln⟩ := hc
          simp only [Option.some.injEq, Prod.mk.injEq] at hv
          obtain ⟨rfl, rfl⟩ := hv
          have nl := natOf_val hr h1 hl
          have nh := natOf_val hr h2 hh
          have hms : mx.isSome = true := by
            cases mx with
            | none => cases h3
            | some x => rfl
          have nm := natOf_val hr h3 hm
          cases r1 with
          | own _ _ _ q A c hq hcap hfit2 hA =>
            refine ⟨rfl, _, key _ _ _ _ _ _ rfl (run_sliceBounds3 nl nh nm (by cases mx <;> simp_all) (by have := hmx hms; cases hi <;> simp_all) (Nat.le_refl _) (by omega)), ?_⟩
            rw [Nat.sub_self]
            exact .sl sz [] .zero _ 0 0 0 0 (fun _ _ => undef) rfl rfl (Nat.le_refl _) (fun h => absurd rfl h) (fun i row h => by cases h) (fun i j row c h => by cases h) (fun i j row c h => by cases h)
        · cases hv
      · cases hv
    · cases hv
  · cases hv
theorem ok_sliceS {E : Prg} {o : Oper} {t : TypeId} {x : Operand} {y : Opd} {lo hi : Option Operand} {lo' hi' : Option Opd} (ho : o.op = .slice t x lo hi none) (ht : E.P.underlying t = some .string)
    (hx : copd x = some y) (h1 : copdO lo = some lo') (h2 : copdO hi = some hi') : OpOk E o (.sliceS y lo' hi') := by
  refine OpOk.quiet fun C G st a w d objs' hr hv => ?_
  simp only [rval] at hv
  have r1 := hr.ev hx
  generalize hu : a.eval x = u at r1
  split at hv
  · rename_i s e1
    rw [e1] at r1
    split at hv
    · rename_i l h hl hh
      split at hv
      · rename_i hc
        simp only [Option.some.injEq, Prod.mk.injEq] at hv
        obtain ⟨rfl, rfl⟩ := hv
        cases r1
        have nl := natOf_val hr h1 hl
        have nh := natOf_val hr h2 hh
        have hsz : (⟨s.toArray⟩ : ByteArray).size = s.length := by simp [ByteArray.size]
        have hb := run_sliceBounds (P := E.P) (w := w) (isS := false) nl nh hc.1 hc.2
        refine ⟨rfl, .string ((⟨s.toArray⟩ : ByteArray).extract l h), by simp [execOp, ho, hu, Instr.sliceAt, Instr.slice, run_underlying ht, hsz, hb, - ByteArray.size_data], ?_⟩
        have : ((⟨s.toArray⟩ : ByteArray).extract l h) = ⟨((s.drop l).take (h - l)).toArray⟩ := by
          apply ByteArray.ext
          apply Array.ext'
          simp [ByteArray.data_extract, List.extract_eq_take_drop]
        rw [this]
        exact .str _
      · cases hv
    · cases hv
  · cases hv
def rowsOk (sz : Nat) (rows : List (List DV)) : Prop := ∀ r, r ∈ rows → r.length = sz
structure SrcCells (P : Program) (G : Gh) (w : World) (v : Value) (new : List (List DV)) (sz : Nat) (cs : List Value) : Prop where
  len : cs.length = new.length * sz
  lenOf : ∀ w', (Builtin.lenOf v).run P w' = .ok new.length w'
  run : ∀ n, n ≤ new.length → ∀ w', (∀ a u, w.cell? a = some u → w'.cell? a = some u) → (Builtin.firstCells sz n v).run P w' = .ok (cs.take (n * sz)).toArray w'
  rel : ∀ (i j : Nat) row c, new[i]? = some row → row[j]? = some c → ∃ u, cs[i * sz + j]? = some u ∧ Rel G c u
  one : ∀ u, u ∈ cs → u.oneCell' = true
theorem idx_lt {new : List (List DV)} {sz i j : Nat} {row : List DV} {c : DV} (hok : rowsOk sz new) (hi : new[i]? = some row) (hj : row[j]? = some c) : i * sz + j < new.length * sz := by
  have h1 : i < new.length := (List.getElem?_eq_some_iff.1 hi).1
  have h2 : j < row.length := (List.getElem?_eq_some_iff.1 hj).1
  have h3 := hok row (List.mem_of_getElem? hi)
  have h5 : (i + 1) * sz ≤ new.length * sz := Nat.mul_le_mul_right _ (by omega)
  rw [Nat.add_mul] at h5
  omega
theorem idx_get {new : List (List DV)} {sz m : Nat} (hok : rowsOk sz new) (hm : m < new.length * sz) : ∃ i j row c, m = i * sz + j ∧ i < new.length ∧ new[i]? = some row ∧ row[j]? = some c := by
  have hs : 0 < sz := by
    rcases Nat.eq_zero_or_pos sz with h | h
    · subst h; simp at hm
    · exact h
  have h1 : m / sz < new.length := by rw [Nat.div_lt_iff_lt_mul hs]; exact hm
  have h2 := hok new[m / sz] (List.getElem_mem h1)
  have h3 : m % sz < new[m / sz].length := by rw [h2]; exact Nat.mod_lt _ hs
  exact ⟨m / sz, m % sz, new[m / sz], new[m / sz][m % sz], by have := Nat.div_add_mod m sz; rw [Nat.mul_comm]; omega, h1, List.getElem?_eq_getElem h1, List.getElem?_eq_getElem h3⟩
theorem SrcCells.base {P : Program} {G : Gh} {w : World} {new : List (List DV)} {sz b o : Nat} {p : Option Addr} {len cap : Nat} (hlen : len = new.length) (hok : rowsOk sz new) (hp : new ≠ [] → p = some ⟨b, o, none⟩)
    (h : ∀ (i j : Nat) row c, new[i]? = some row → row[j]? = some c → ∃ u, w.cell? ⟨b, o + (i * sz + j), none⟩ = some u ∧ Rel G c u ∧ u.oneCell' = true) :
    ∃ cs, SrcCells P G w (.slice p len cap) new sz cs := by
  have hall : ∀ m, m < new.length * sz → ∃ u, w.cell? ⟨b, o + m, none⟩ = some u ∧ u.oneCell' = true := fun m hm => by
    obtain ⟨i, j, row, c, rfl, _, hi, hj⟩ := idx_get hok hm
    obtain ⟨u, hu, _, h1⟩ := h i j row c hi hj
    exact ⟨u, hu, h1⟩
  refine ⟨(List.range (new.length * sz)).map (fun m => (w.cell? ⟨b, o + m, none⟩).getD undef), by simp, fun w' => by simp [Builtin.lenOf, hlen], fun n hn w' hw => ?_, fun i j row c hi hj => ?_, fun u hu => ?_⟩
  · have hnm : n * sz ≤ new.length * sz := Nat.mul_le_mul_right _ hn
    cases p with
    | none =>
      have : new = [] := Classical.byContradiction fun hne => by cases hp hne
      subst this
      obtain rfl : n = 0 := by simpa using hn
      simp [Builtin.firstCells]
    | some A =>
      have hl := run_loadCells (P := P) w' A (n * sz) (fun m => (w.cell? ⟨b, o + m, none⟩).getD undef) (fun m hm => by
        have hne : new ≠ [] := fun e => by subst e; simp at hnm; omega
        obtain rfl := sj (hp hne)
        obtain ⟨u, hu, _⟩ := hall m (by omega)
        rw [Addr.add_lit, hw _ _ hu, hu]; rfl)
      simp only [Builtin.firstCells, hl]
      congr 2
      rw [← List.map_take, List.take_range]
      congr 2
      omega
  · obtain ⟨u, hu, hr, _⟩ := h i j row c hi hj
    exact ⟨u, by simp [idx_lt hok hi hj, hu], hr⟩
  · obtain ⟨m, hm, rfl⟩ := List.mem_map.1 hu
    obtain ⟨u, hu, h1⟩ := hall m (by simpa using hm)
    rw [hu]; exact h1
theorem src_cells {E : Prg} {C : Ctx} {G : Gh} {st : St} {a : Act} {w : World} (hr : RelG E C G st a w) {d : DV} {v : Value} (r : Rel G d v) {s2 sz : Nat} {new : List (List DV)} (h : rowsOf st d = some (s2, new)) (hs : s2 = sz ∨ new = []) :
    rowsOk sz new ∧ ∃ cs, SrcCells E.P G w v new sz cs := by
  have hfix : rowsOk s2 new → rowsOk sz new := fun hok row hrow => by
    rcases hs with rfl | rfl
    · exact hok row hrow
    · cases hrow
  unfold rowsOf at h
  split at h
  · rename_i s2 new _
    obtain ⟨rfl, rfl⟩ := Prod.mk.inj (sj h)
    cases r with
    | sl _ _ _ p len cap b o vals hl hk hlc hp hrl hrd hrel =>
      have hok : rowsOk s2 new := fun row hrow => by
        obtain ⟨i, hi⟩ := List.getElem?_of_mem hrow
        exact hrl i row hi
      refine ⟨hfix hok, SrcCells.base hl (hfix hok) hp (fun i j row c hi hj => ?_)⟩
      have h1 := hrd i j row c hi hj
      obtain ⟨h2, h3⟩ := hr.heap.rdv _ _ h1
      rw [← show s2 = sz by rw [← hok row (List.mem_of_getElem? hi), hfix hok row (List.mem_of_getElem? hi)]]
      exact ⟨_, h2, hrel i j row c hi hj, h3⟩
  · rename_i o off n
    split at h
    · rename_i s rows ho
      split at h
      · rename_i hfit
        obtain ⟨rfl, rfl⟩ := Prod.mk.inj (sj h)
        obtain ⟨p, hp, hl⟩ := hr.heap.live o _ ho
        have hpsz : p.sz = s := hl.psz
        have hget : ∀ (i : Nat) row, ((rows.drop off).take n)[i]? = some row → rows[off + i]? = some row := fun i row hi => by
          rw [List.getElem?_take] at hi
          split at hi
          · rwa [List.getElem?_drop] at hi
          · cases hi
        have hok : rowsOk s ((rows.drop off).take n) := fun row hrow => by
          obtain ⟨i, hi⟩ := List.getElem?_of_mem hrow
          rw [← hpsz]; exact hl.size row (List.mem_of_getElem? (hget i row hi))
        refine ⟨hfix hok, ?_⟩
        cases r with
        | own _ _ _ q A c hq hcap hfit2 hA =>
          obtain rfl : q = p := sj (hq.symm.trans hp)
          refine SrcCells.base (b := q.block) (o := q.off + off * q.sz) (by simp; omega) (hfix hok) (fun hne => ?_) (fun i j row c hi hj => ?_)
          · refine hA ?_
            have : n ≠ 0 := fun e => hne (by simp [e])
            omega
          · have h1 := hget i row hi
            have hlt := hl.idx h1 hj
            obtain ⟨u, hu, hone, _⟩ := hl.there trivial _ hlt
            have e : (⟨q.block, q.off + off * q.sz + (i * sz + j), none⟩ : Addr) = q.cellAt ((off + i) * q.sz + j) := by
              rw [show sz = q.sz by rw [← hl.size row (List.mem_of_getElem? h1), hfix hok row (List.mem_of_getElem? hi)]]
              simp only [Place.cellAt, Addr.mk.injEq, true_and, and_true]
              rw [Nat.add_mul]; omega
            exact ⟨u, by rw [e]; exact hu, hl.holds _ j row c u h1 hj hu, hone⟩
      · cases h
    · cases h
  · rename_i s
    obtain ⟨rfl, rfl⟩ := Prod.mk.inj (sj h)
    cases r
    have hok : rowsOk 1 (bytesRows s) := fun row hrow => by
      obtain ⟨x, _, rfl⟩ := List.mem_map.1 hrow
      rfl
    refine ⟨hfix hok, ?_⟩
    have hsz : s ≠ [] → sz = 1 := fun hne => by
      rcases hs with rfl | hs
      · rfl
      · exact absurd (List.map_eq_nil_iff.1 hs) hne
    have hsize : (⟨s.toArray⟩ : ByteArray).size = s.length := by simp [ByteArray.size]
    have hlen2 : (bytesRows s).length = s.length := by simp [bytesRows]
    refine ⟨s.map fun b => .int .u8 b.toNat, ?_, fun w' => by simp [Builtin.lenOf, hsize, hlen2, - ByteArray.size_data], fun n hn w' _ => ?_, fun i j row c hi hj => ?_, fun u hu => ?_⟩
    · by_cases hne : s = []
      · subst hne; simp [bytesRows]
      · rw [hsz hne]; simp [bytesRows]
    · have hx : ((⟨s.toArray⟩ : ByteArray).extract 0 n).data = (s.take n).toArray := by
        apply Array.ext'
        simp [ByteArray.data_extract]
      by_cases hne : s = []
      · subst hne
        obtain rfl : n = 0 := by simpa [bytesRows] using hn
        simp [Builtin.firstCells, hx]
      · simp [Builtin.firstCells, hx, hsz hne, List.map_take]
    · simp only [bytesRows, List.getElem?_map] at hi
      obtain ⟨x, hx, rfl⟩ := Option.map_eq_some_iff.1 hi
      have hne : s ≠ [] := fun e => by subst e; simp at hx
      rw [hsz hne]
      rcases j with _ | j
      · simp at hj; subst hj
        exact ⟨.int .u8 x.toNat, by simp [hx], .int _ _⟩
      · simp at hj
    · obtain ⟨x, _, rfl⟩ := List.mem_map.1 hu
      rfl
  · cases h
theorem cells_zero {z : Array Value} (h : ∀ (i : Nat) x, z[i]? = some x → x.oneCell' = true) (n : Nat) : ∀ u, u ∈ (Builtin.zeroCells z n).toList → u.oneCell' = true := by
  intro u hu
  simp only [Builtin.zeroCells, Array.toList_map, Array.toList_range, List.mem_map, List.mem_range] at hu
  obtain ⟨m, hm, rfl⟩ := hu
  have hz : 0 < z.size := by
    rcases Nat.eq_zero_or_pos z.size with h0 | h0
    · rw [h0] at hm; simp at hm
    · exact h0
  have hlt := Nat.mod_lt m hz
  have : z[m % z.size]! = z[m % z.size] := by simp [hlt]
  rw [this]
  exact h (m % z.size) _ (by simp [hlt])
theorem run_append_in {P : Program} {w : World} {t t2 ty e : TypeId} {sz n sLen sCap : Nat} {p : Option Addr} {x : Value} {news : List Value} (ht : P.underlying t = some (.slice e)) (hsz : tySize P e = some sz)
    (ht2 : (∃ e2, P.underlying t2 = some (.slice e2)) ∨ P.underlying t2 = some .string) (hl : (Builtin.lenOf x).run P w = .ok n w) (hf : (Builtin.firstCells sz n x).run P w = .ok news.toArray w) (hle : sLen + n ≤ sCap) :
    (Builtin.append_ #[t, t2] ty #[.slice p sLen sCap, x]).run P w = (match p with
      | some A => (storeCells (A.add (sLen * sz)) news).run P w
      | none => .ok () w).andThen fun _ w' => .ok (.slice p (sLen + n) sCap) w' := by
  rcases ht2 with ⟨e2, ht2⟩ | ht2 <;> cases p <;> simp [Builtin.append_, run_underlying ht, run_underlying ht2, run_sizeOf hsz, hl, hf, hle]
theorem run_append_out {P : Program} {w : World} {t t2 ty e : TypeId} {i : TypeInfo} {z : Value} {sz n sLen sCap : Nat} {p : Option Addr} {x : Value} {olds news : List Value} (ht : P.underlying t = some (.slice e)) (hi : P.info? e = some i) (hsz : i.size = sz) (hz : i.zero = some z)
    (ht2 : (∃ e2, P.underlying t2 = some (.slice e2)) ∨ P.underlying t2 = some .string) (hl : (Builtin.lenOf x).run P w = .ok n w) (hf : (Builtin.firstCells sz n x).run P w.drew = .ok news.toArray w.drew)
    (hfo : (Builtin.firstCells sz sLen (.slice p sLen sCap)).run P w.drew = .ok olds.toArray w.drew) (hg : sCap < sLen + n) (h63 : ((sLen + n : Nat) : Int) ≤ 9223372036854775807) (hfit : Builtin.nextslicecap (sLen + n) sCap * i.bytes ≤ 281474976710656) :
    (Builtin.append_ #[t, t2] ty #[.slice p sLen sCap, x]).run P w = .ok (.slice (some ⟨w.heap.size, 0, none⟩) (sLen + n) (grownCap w (sLen + n) sCap e))
        (w.drew.alloc (.cells (olds ++ news ++ (Builtin.zeroCells z.cells (grownCap w (sLen + n) sCap e - (sLen + n))).toList).toArray e)) := by
  have hn : ¬ (sLen + n ≤ sCap) := by omega
  have h63' : ¬ (9223372036854775807 < ((sLen : Int) + (n : Int))) := by omega
  have h48' : ¬ (281474976710656 < Builtin.nextslicecap (sLen + n) sCap * i.bytes) := by omega
  subst hsz
  rcases ht2 with ⟨e2, ht2⟩ | ht2
  · simp [Builtin.append_, run_underlying ht, run_underlying ht2, sizeOf, typeInfo, zeroValue, hi, hz, hl, hn, h63', h48', Question.forced, hf, hfo, newRow, grownCap]
    congr 2
    apply Array.ext'
    simp [List.append_assoc]
  · simp [Builtin.append_, run_underlying ht, run_underlying ht2, sizeOf, typeInfo, zeroValue, hi, hz, hl, hn, h63', h48', Question.forced, hf, hfo, newRow, grownCap]
    congr 2
    apply Array.ext'
    simp [List.append_assoc]
theorem RelG.newRows {E : Prg} {C : Ctx} {G : Gh} {st : St} {a : Act} {w : World} (h : RelG E C G st a w) (T : TypeId) (fr : Nat × Nat) (rows : List (List DV)) (sz cap : Nat) (cs rest : List Value) (hfr : fr.1 = fr.2 ∨ cs.length + rest.length ≤ fr.1)
    (hok : rowsOk sz rows) (hlen : cs.length = rows.length * sz) (hrest : rest.length = (cap - rows.length) * sz) (hcap : rows.length ≤ cap) (hone : ∀ u, u ∈ cs → u.oneCell' = true) (hone2 : ∀ u, u ∈ rest → u.oneCell' = true)
    (hrel : ∀ (i j : Nat) row c, rows[i]? = some row → row[j]? = some c → ∃ u, cs[i * sz + j]? = some u ∧ Rel G c u) :
    ∃ G', RelG E C G' { st with objs := st.objs ++ [some (.arr sz rows)] } a (w.alloc (.cells (cs ++ rest).toArray T fr)) ∧ ∀ n, n ≤ cap → Rel G' (.own st.objs.length 0 n) (.slice (some ⟨w.heap.size, 0, none⟩) n cap) := by
  have hmul : rows.length * sz + (cap - rows.length) * sz = cap * sz := by rw [← Nat.add_mul]; congr 1; omega
  refine ⟨_, h.new (cs ++ rest).toArray T fr (.arr sz rows) sz cap (by simpa using hfr) rfl (by simp; omega) hcap hok (fun m v hm => ?_) (fun i j row c v hi hj hv => ?_), fun n hn => ?_⟩
  · simp only [List.getElem?_toArray] at hm
    rcases List.mem_append.1 (List.mem_of_getElem? hm) with h1 | h1
    · exact hone v h1
    · exact hone2 v h1
  · simp only [Ob.rows] at hi
    obtain ⟨u, hu, hr⟩ := hrel i j row c hi hj
    have hlt : i * sz + j < cs.length := (List.getElem?_eq_some_iff.1 hu).1
    simp only [List.getElem?_toArray] at hv
    rw [List.getElem?_append_left hlt, hu] at hv
    obtain rfl := sj hv
    exact hr
  · exact .own st.objs.length 0 n ⟨w.heap.size, 0, sz, cap⟩ _ _ (by simp [Gh.more]) (by simp) (by simp; omega) (fun _ => by simp [Place.cellAt])
theorem nextcap_fits {n m bytes : Nat} (hg : n < m) (h : m * bytes ≤ 140737488355328) : Builtin.nextslicecap m n * bytes ≤ 281474976710656 := growslice_fits hg h
theorem ok_append {E : Prg} {o : Oper} {t t2 e : TypeId} {sz bytes : Nat} {zero : List DV} {x1 x2 : Operand} {y1 y2 : Opd} {c : Call} (ho : o.op = .call c) (hc : c.callee = .builtin .append) (ha : c.args = #[x1, x2]) (hat : c.argTypes = #[t, t2])
    (ht : E.P.underlying t = some (.slice e)) (ht2 : (∃ e2, E.P.underlying t2 = some (.slice e2)) ∨ E.P.underlying t2 = some .string) (hsz : tySize E.P e = some sz) (hby : tyBytes E.P e = some bytes) (hz : tyZero E.P e = some zero) (hzl : zero.length = sz)
    (hx1 : copd x1 = some y1) (hx2 : copd x2 = some y2) : OpOk E o (.append sz bytes y1 y2) := by
  intro C G st a w d objs' hr hv
  simp only [rval] at hv
  have r1 := hr.ev hx1
  have r2 := hr.ev hx2
  generalize hu : a.eval x1 = u at r1
  generalize hu2 : a.eval x2 = u2 at r2
  obtain ⟨i, hi, hisz⟩ := Option.map_eq_some_iff.1 hsz
  obtain ⟨i', hi', hiby⟩ := Option.map_eq_some_iff.1 hby
  obtain rfl : i = i' := sj (hi.symm.trans hi')
  obtain ⟨z, hz1, hz2⟩ := Option.bind_eq_some_iff.1 hz
  have hz1 : i.zero = some z := by simpa [hi] using hz1
  obtain ⟨hzs, hzone, _⟩ := dvOfs_cells (G := G) hz2
  have hex : ∀ r w', (Builtin.append_ #[t, t2] o.type #[u, u2]).run E.P w = .ok r w' → (execOp a.eval o).run E.P w = .ok (.value r) w' := fun r w' h => by
    simp [execOp, ho, hc, ha, hat, resolve, invoke, builtin, hu, hu2, h]
  split at hv
  · rename_i s1 k s2 new e1 e2
    rw [e1] at r1
    split at hv
    · rename_i hcond
      obtain ⟨hk, hss, hb, h63⟩ := hcond
      simp only [Option.some.injEq, Prod.mk.injEq] at hv
      obtain ⟨rfl, rfl⟩ := hv
      obtain ⟨hok, cs, hcs⟩ := src_cells hr r2 e2 hss
      obtain ⟨p, rfl⟩ : ∃ p, u = .slice p 0 0 := by
        cases r1 with
        | sl _ _ _ p len cap _ _ _ hl hkk _ =>
          refine ⟨p, ?_⟩
          rcases hk with rfl | rfl
          · obtain ⟨_, rfl⟩ := hkk; simp at hl; subst hl; rfl
          · simp only [SK.ok] at hkk; subst hkk; simp at hl; subst hl; rfl
      by_cases hn : new.length = 0
      · have hnil : new = [] := List.eq_nil_of_length_eq_zero hn
        subst hnil
        have hcs0 : cs = [] := List.eq_nil_of_length_eq_zero (by simpa using hcs.len)
        subst hcs0
        have hrun := run_append_in (P := E.P) (w := w) (ty := o.type) (p := p) (sLen := 0) (sCap := 0) ht hsz ht2 (hcs.lenOf w) (hcs.run 0 (Nat.le_refl _) w (fun _ _ h => h)) (by simp)
        refine ⟨.value (.slice p 0 0), .slice p 0 0, w, _, hex _ _ ?_, .inl rfl, hr.newEmpty sz, .own st.objs.length 0 0 ⟨0, 0, sz, 0⟩ p 0 (by simp [Gh.more]) (by simp) (by simp) (fun h => by omega)⟩
        rw [hrun]
        cases p <;> simp [storeCells]
      · have hpos : 0 < new.length := Nat.pos_of_ne_zero hn
        have hf := hcs.run new.length (Nat.le_refl _) w.drew (fun _ _ h => h)
        rw [← hcs.len, List.take_length] at hf
        have hrun := run_append_out (P := E.P) (w := w) (ty := o.type) (p := p) (sLen := 0) (sCap := 0) (olds := []) ht hi hisz hz1 ht2 (hcs.lenOf w) hf (by cases p <;> simp [Builtin.firstCells, loadCells, loadCellsFrom]) (by omega) (by omega) (by rw [hiby]; exact nextcap_fits (by omega) (by rw [Nat.zero_add]; exact hb))
        have hgc := grownCap_ge w (0 + new.length) 0 e
        obtain ⟨G', h1, h2⟩ := hr.drew.newRows e (0, 0) new sz (grownCap w (0 + new.length) 0 e) cs (Builtin.zeroCells z.cells (grownCap w (0 + new.length) 0 e - (0 + new.length))).toList (.inl rfl) hok hcs.len
          (by simp [Builtin.zeroCells]; rw [hzs, hzl]) (by omega) hcs.one (cells_zero hzone _) hcs.rel
        refine ⟨_, _, _, G', hex _ _ hrun, .inl rfl, ?_, ?_⟩
        · simpa using h1
        · have := h2 new.length (by omega)
          simpa using this
    · cases hv
  · rename_i ob off n s2 new e1 e2
    rw [e1] at r1
    split at hv
    · rename_i s rows hob
      split at hv
      · rename_i hcond
        obtain ⟨hfit, hs, hss, hb, h63⟩ := hcond
        subst hs
        simp only [Option.some.injEq, Prod.mk.injEq] at hv
        obtain ⟨rfl, rfl⟩ := hv
        obtain ⟨hok, cs, hcs⟩ := src_cells hr r2 e2 hss
        obtain ⟨p, hp, hl⟩ := hr.heap.live ob _ hob
        have hpsz : p.sz = s := hl.psz
        have hfits : rows.length ≤ p.cap := hl.fits
        have hobl : ob < st.objs.length := (List.getElem?_eq_some_iff.1 hob).1
        have r1' := r1
        cases r1 with
        | own _ _ _ q A c hq hcap hfit2 hA =>
          obtain rfl : q = p := sj (hq.symm.trans hp)
          by_cases hroom : n + new.length ≤ c
          · -- in place
            have hf := hcs.run new.length (Nat.le_refl _) w (fun _ _ h => h)
            rw [← hcs.len, List.take_length] at hf
            have hrun := run_append_in (P := E.P) (w := w) (ty := o.type) (p := A) (sLen := n) (sCap := c) ht hsz ht2 (hcs.lenOf w) hf hroom
            have hlast : ∀ G0 : Gh, Rel (G0.more st.objs.length ⟨q.block, q.off + off * q.sz, q.sz, q.cap - off⟩) (.own st.objs.length 0 (n + new.length)) (.slice A (n + new.length) c) := fun G0 =>
              .own st.objs.length 0 (n + new.length) ⟨q.block, q.off + off * q.sz, q.sz, q.cap - off⟩ A c (by simp [Gh.more]) (by simp; omega) (by simp; omega) (fun hpos => by rw [hA hpos]; simp [Place.cellAt])
            by_cases hnew : new.length = 0
            · have hnil : new = [] := List.eq_nil_of_length_eq_zero hnew
              subst hnil
              have hcs0 : cs = [] := List.eq_nil_of_length_eq_zero (by simpa using hcs.len)
              subst hcs0
              have hmv := hr.move hob hp (off := off) (by omega)
              have hrun' : (Builtin.append_ #[t, t2] o.type #[.slice A n c, u2]).run E.P w = .ok (.slice A (n + 0) c) w := by
                simp only [List.length_nil] at hrun
                rw [hrun]; cases A <;> simp [storeCells]
              exact ⟨_, _, w, _, hex _ _ hrun', .inl rfl, by simpa using hmv, hlast G⟩
            · obtain rfl := hA (by omega)
              have hmul : ∀ x y : Nat, (x + y) * s = x * s + y * s := fun x y => Nat.add_mul x y s
              have hcap2 : (rows.length + new.length) * s ≤ q.cap * s := Nat.mul_le_mul_right _ (by omega)
              have hfit' : rows.length * s = off * s + n * s := by rw [← hfit, Nat.add_mul]
              have hin : ∀ m, m < cs.length → rows.length * s + m < q.cap * q.sz := fun m hm => by
                rw [hcs.len] at hm
                rw [Nat.add_mul] at hcap2
                rw [hpsz]; omega
              have haddr : (q.cellAt (off * q.sz)).add (n * s) = ⟨q.block, q.off + rows.length * s, none⟩ := by
                rw [cellAt_add, hpsz, hfit']; rfl
              have hst := run_storeCells_cells (P := E.P) q.block (q.off + rows.length * s) cs 0 w
                (fun m hm => by
                  obtain ⟨v, hv, _⟩ := hl.there trivial _ (hin m hm)
                  have : (⟨q.block, q.off + rows.length * s + 0 + m, none⟩ : Addr) = q.cellAt (rows.length * s + m) := by simp [Place.cellAt]; omega
                  rw [this, hv]; rfl)
                (fun m hm => by
                  obtain ⟨v, _, _, hv⟩ := hl.there trivial _ (hin m hm)
                  have : (⟨q.block, q.off + rows.length * s + 0 + m, none⟩ : Addr) = q.cellAt (rows.length * s + m) := by simp [Place.cellAt]; omega
                  rw [this, hv])
                hcs.one
              have hw := Wrote.setCells q.block cs (q.off + rows.length * s) w
              rw [Nat.add_zero] at hst
              have hins := World.cell?_setCells_in q.block cs (q.off + rows.length * s) w (fun m hm => by
                  obtain ⟨v, hv, _⟩ := hl.there trivial _ (hin m hm)
                  have : (⟨q.block, q.off + rows.length * s + m, none⟩ : Addr) = q.cellAt (rows.length * s + m) := by simp [Place.cellAt]; omega
                  rw [this, hv]; rfl)
              have hins' : ∀ m (hm : m < cs.length), (w.setCells q.block (q.off + rows.length * s) cs).cell? (q.cellAt (rows.length * s + m)) = some cs[m] := fun m hm => by
                have : (⟨q.block, q.off + rows.length * s + m, none⟩ : Addr) = q.cellAt (rows.length * s + m) := by simp [Place.cellAt]; omega
                rw [← this]; exact hins m hm
              have houts : ∀ m, (m < rows.length * s ∨ rows.length * s + cs.length ≤ m) → (w.setCells q.block (q.off + rows.length * s) cs).cell? (q.cellAt m) = w.cell? (q.cellAt m) := fun m hm => by
                refine hw.cell _ (fun hx => ?_)
                obtain ⟨_, _, h1, h2⟩ := hx
                simp [Place.cellAt] at h1 h2
                omega
              have hlive : LiveAt G (w.setCells q.block (q.off + rows.length * s) cs) q (.arr s (rows ++ new)) := by
                refine ⟨hpsz, by simp [Ob.rows]; omega, fun row hrow => ?_, fun _ m hm => ?_, fun i' j' row c' v hi' hj' hv' => ?_, fun h0 => hw.mko _ (hl.mko h0), fun es he => by cases he⟩
                · rcases List.mem_append.1 hrow with h1 | h1
                  · exact hl.size row h1
                  · rw [hpsz]; exact hok row h1
                · obtain ⟨v, hv, hv1, hv2⟩ := hl.there trivial m hm
                  by_cases hR : rows.length * s ≤ m ∧ m < rows.length * s + cs.length
                  · have := hins' (m - rows.length * s) (by omega)
                    rw [show rows.length * s + (m - rows.length * s) = m by omega] at this
                    exact ⟨_, this, hcs.one _ (List.getElem_mem _), by rw [hw.frz]; exact hv2⟩
                  · exact ⟨v, by rw [houts m (by omega)]; exact hv, hv1, by rw [hw.frz]; exact hv2⟩
                · simp only [Ob.rows] at hi'
                  by_cases hlt : i' < rows.length
                  · rw [List.getElem?_append_left hlt] at hi'
                    have hidx := hl.idx hi' hj'
                    have : (i' + 1) * q.sz ≤ rows.length * q.sz := Nat.mul_le_mul_right _ hlt
                    rw [Nat.add_mul] at this
                    have h3 := hl.size row (List.mem_of_getElem? hi')
                    have h4 : j' < row.length := (List.getElem?_eq_some_iff.1 hj').1
                    rw [houts _ (.inl (by rw [← hpsz]; omega))] at hv'
                    exact hl.holds i' j' row c' v hi' hj' hv'
                  · rw [List.getElem?_append_right (by omega)] at hi'
                    obtain ⟨u, hu, hur⟩ := hcs.rel _ j' row c' hi' hj'
                    have hlt2 : (i' - rows.length) * s + j' < cs.length := (List.getElem?_eq_some_iff.1 hu).1
                    have := hins' _ hlt2
                    have e : rows.length * s + ((i' - rows.length) * s + j') = i' * q.sz + j' := by
                      rw [hpsz, ← Nat.add_assoc, ← Nat.add_mul]; congr 2; omega
                    rw [e, hv'] at this
                    have h5 : cs[(i' - rows.length) * s + j'] = u := (List.getElem?_eq_some_iff.1 hu).2
                    rw [h5] at this
                    obtain rfl := sj this
                    exact hur
              have hwr := hr.write hob hp hw (fun x hx => by
                obtain ⟨hx1, hx2, hx3, hx4⟩ := hx
                refine ⟨x.off - q.off, ?_, ?_⟩
                · have := hin (x.off - (q.off + rows.length * s)) (by omega); omega
                · obtain ⟨xb, xo, xs⟩ := x
                  simp at hx1 hx2 hx3 hx4 ⊢
                  subst hx1 hx2
                  simp [Place.cellAt]; omega) hlive
              have hmv := hwr.move (o := ob) (off := off) (sz := s) (rows := rows ++ new) (p := q) (by simp [getElem?_set, hobl]) hp (by omega)
              have hrun' : (Builtin.append_ #[t, t2] o.type #[.slice (some (q.cellAt (off * q.sz))) n c, u2]).run E.P w = .ok (.slice (some (q.cellAt (off * q.sz))) (n + new.length) c) (w.setCells q.block (q.off + rows.length * s) cs) := by
                rw [hrun]; simp only [haddr, hst, Result.andThen_ok]
              refine ⟨_, _, _, _, hex _ _ hrun', .inl rfl, ?_, hlast G⟩
              simp only [List.length_set, List.set_set] at hmv
              rw [List.drop_append_of_le_length (by omega)] at hmv
              exact hmv
          · have hg : c < n + new.length := by omega
            have htk : (rows.drop off).take n = rows.drop off := List.take_of_length_le (by simp; omega)
            obtain ⟨hoko, ocs, hocs⟩ := src_cells hr r1' (s2 := s) (sz := s) (new := rows.drop off) (by simp only [rowsOf, hob]; rw [if_pos (by omega), htk]) (.inl rfl)
            have hlo : (rows.drop off).length = n := by simp; omega
            have hf := hcs.run new.length (Nat.le_refl _) w.drew (fun _ _ h => h)
            rw [← hcs.len, List.take_length] at hf
            have hfo := hocs.run n (by omega) w.drew (fun _ _ h => h)
            rw [show n * s = ocs.length by rw [hocs.len, hlo], List.take_length] at hfo
            have hrun := run_append_out (P := E.P) (w := w) (ty := o.type) ht hi hisz hz1 ht2 (hcs.lenOf w) hf hfo hg (by omega) (by rw [hiby]; exact nextcap_fits hg hb)
            have hgc := grownCap_ge w (n + new.length) c e
            have hk := (hr.kill ob).drew
            obtain ⟨G', h1, h2⟩ := hk.newRows e (0, 0) (rows.drop off ++ new) s (grownCap w (n + new.length) c e) (ocs ++ cs) (Builtin.zeroCells z.cells (grownCap w (n + new.length) c e - (n + new.length))).toList (.inl rfl)
              (fun row hrow => by
                rcases List.mem_append.1 hrow with h | h
                · exact hoko row h
                · exact hok row h)
              (by simp only [List.length_append, hocs.len, hcs.len, Nat.add_mul])
              (by simp only [List.length_append, hlo]; simp [Builtin.zeroCells]; rw [hzs, hzl]) (by simp only [List.length_append, hlo]; omega)
              (fun x hx => by
                rcases List.mem_append.1 hx with h | h
                · exact hocs.one x h
                · exact hcs.one x h)
              (cells_zero hzone _)
              (fun i j row c' hi hj => by
                by_cases hlt : i < (rows.drop off).length
                · rw [List.getElem?_append_left hlt] at hi
                  obtain ⟨x, hx, hxr⟩ := hocs.rel i j row c' hi hj
                  exact ⟨x, by rw [List.getElem?_append_left (List.getElem?_eq_some_iff.1 hx).1]; exact hx, hxr⟩
                · rw [List.getElem?_append_right (by omega)] at hi
                  obtain ⟨x, hx, hxr⟩ := hcs.rel _ j row c' hi hj
                  refine ⟨x, ?_, hxr⟩
                  have e : i * s + j = ocs.length + ((i - (rows.drop off).length) * s + j) := by
                    rw [hocs.len, ← Nat.add_assoc, ← Nat.add_mul]; congr 2; omega
                  rw [e, List.getElem?_append_right (by omega), Nat.add_sub_cancel_left]
                  exact hx)
            refine ⟨_, _, _, G', hex _ _ hrun, .inl rfl, ?_, ?_⟩
            · simpa using h1
            · have := h2 (n + new.length) hgc
              simpa using this
      · cases hv
    · cases hv
  · cases hv
theorem ok_mm {E : Prg} {o : Oper} {isMax : Bool} {x1 x2 : Operand} {y1 y2 : Opd} {c : Call} (ho : o.op = .call c) (hc : c.callee = .builtin (if isMax then .max else .min)) (ha : c.args = #[x1, x2])
    (hx1 : copd x1 = some y1) (hx2 : copd x2 = some y2) : OpOk E o (.mm isMax y1 y2) := by
  refine OpOk.quiet fun C G st a w d objs' hr hv => ?_
  simp only [rval] at hv
  have r1 := hr.ev hx1
  have r2 := hr.ev hx2
  generalize hu : a.eval x1 = u at r1
  generalize hu2 : a.eval x2 = u2 at r2
  split at hv
  · rename_i k n k' m e1 e2
    rw [e1] at r1; rw [e2] at r2
    cases r1; cases r2
    simp only [Option.some.injEq, Prod.mk.injEq] at hv
    obtain ⟨rfl, rfl⟩ := hv
    refine ⟨rfl, _, ?_, .int k _⟩
    cases isMax
    · simp only [Bool.false_eq_true, if_false] at hc ⊢
      have : min n m = if m < n then m else n := by omega
      simp [execOp, ho, hc, ha, resolve, invoke, builtin, Builtin.min_, Builtin.min2, hu, hu2, this]
    · simp only [if_true] at hc ⊢
      have : max n m = if m > n then m else n := by omega
      simp [execOp, ho, hc, ha, resolve, invoke, builtin, Builtin.max_, Builtin.max2, hu, hu2, this]
  · cases hv
theorem rowsBytes_spec : ∀ {rows : List (List DV)} {s : List UInt8}, rowsBytes rows = some s → ∃ ns : List Int, rows = ns.map (fun n => [DV.int .u8 n]) ∧ s = ns.map fun n => UInt8.ofNat n.toNat
  | [], s, h => by
    obtain rfl := sj h
    exact ⟨[], rfl, rfl⟩
  | row :: l, s, h => by
    unfold rowsBytes at h
    split at h
    · cases ‹_ :: _ = []›
    · rename_i n l' e
      obtain ⟨rfl, rfl⟩ := List.cons.inj e
      obtain ⟨s', hs', rfl⟩ := Option.map_eq_some_iff.1 h
      obtain ⟨ns, rfl, rfl⟩ := rowsBytes_spec hs'
      exact ⟨n :: ns, rfl, rfl⟩
    · cases h
theorem ok_b2s {E : Prg} {o : Oper} {src dst e : TypeId} {x : Operand} {y : Opd} (ho : o.op = .convert src dst x) (hs : E.P.underlying src = some (.slice e)) (he : E.P.underlying e = some (.int .u8)) (hd : E.P.underlying dst = some .string)
    (hx : copd x = some y) : OpOk E o (.conv .b2s y) := by
  refine OpOk.quiet fun C G st a w d objs' hr hv => ?_
  simp only [rval] at hv
  have r1 := hr.ev hx
  generalize hu : a.eval x = u at r1
  split at hv
  · cases ‹Cv.b2s = Cv.i2i _›
  · cases hv
  · rename_i d0 hns
    split at hv
    · rename_i s2 rows hrows
      split at hv
      · rename_i hss
        obtain ⟨s, hsb, he2⟩ := Option.map_eq_some_iff.1 hv
        obtain ⟨rfl, rfl⟩ := Prod.mk.inj he2
        obtain ⟨hok, cs, hcs⟩ := src_cells hr r1 hrows hss
        obtain ⟨ns, rfl, rfl⟩ := rowsBytes_spec hsb
        have hcs' : cs = ns.map (Value.int .u8) := by
          apply List.ext_getElem?
          intro i
          by_cases hi : i < ns.length
          · obtain ⟨u', hu', hr'⟩ := hcs.rel i 0 [DV.int .u8 ns[i]] (DV.int .u8 ns[i]) (by simp [hi]) rfl
            cases hr'
            simp only [Nat.mul_one, Nat.add_zero] at hu'
            rw [hu']; simp [hi]
          · have := hcs.len
            simp at this
            rw [List.getElem?_eq_none (by omega), List.getElem?_eq_none (by simp; omega)]
        have hsl : ∃ p len cap, u = .slice p len cap := by
          generalize hg : y.ev E st = dd at r1 hrows hns
          cases r1 with
          | sl => exact ⟨_, _, _, rfl⟩
          | own => exact ⟨_, _, _, rfl⟩
          | str s0 => exact absurd rfl (hns s0)
          | _ => simp [rowsOf] at hrows
        obtain ⟨p, len, cap, rfl⟩ := hsl
        refine ⟨rfl, .string ⟨(ns.map fun n => UInt8.ofNat n.toNat).toArray⟩, ?_, .str _⟩
        have hlen : len = ns.length := by
          have := hcs.lenOf w
          simp [Builtin.lenOf] at this
          exact this
        cases p with
        | none =>
          have h0 := hcs.run ns.length (by simp) w (fun _ _ h => h)
          simp [Builtin.firstCells, hcs'] at h0
          have hnil : ns = [] := by
            cases ns with
            | nil => rfl
            | cons n ns => simp at h0
          subst hnil
          have := run_convert_bytes_nil (P := E.P) w src e hs he len cap dst hd
          simp only [execOp, ho, hu, Sem.run_bind, this, Result.andThen_ok, Sem.run_pure]
          rfl
        | some A =>
          have h0 := hcs.run ns.length (by simp) w (fun _ _ h => h)
          rw [hcs'] at h0
          have h1 : (loadCells A len).run E.P w = .ok (ns.map (Value.int .u8)).toArray w := by
            have : (ns.map (Value.int .u8)).take (ns.length * 1) = ns.map (Value.int .u8) := List.take_of_length_le (by simp)
            rw [this] at h0
            simpa [Builtin.firstCells, hlen] using h0
          have h2 := run_convert_bytes_string (P := E.P) w src dst e (some A) len cap hs he hd
          rw [run_bytesToString w A len cap ns h1, foldl_push_bytes] at h2
          simp only [execOp, ho, hu, Sem.run_bind, h2, Result.andThen_ok, Sem.run_pure]
          congr 3
          apply ByteArray.ext
          simp [ByteArray.empty, ByteArray.emptyWithCapacity]
          rfl
      · cases hv
    · cases hv
  all_goals first | (cases hv; done) | contradiction
theorem ok_i2i {E : Prg} {o : Oper} {src dst : TypeId} {k : IntKind} {x : Operand} {y : Opd} (ho : o.op = .convert src dst x) (hs : (E.P.underlying src).isSome = true) (hd : E.P.underlying dst = some (.int k))
    (hx : copd x = some y) : OpOk E o (.conv (.i2i k) y) := by
  refine OpOk.quiet fun C G st a w d objs' hr hv => ?_
  have r1 := hr.ev hx
  generalize hu : a.eval x = u at r1
  generalize hg : y.ev E st = dd at r1
  cases r1 with
  | int k' n =>
    simp only [rval, hg] at hv
    simp only [Option.some.injEq, Prod.mk.injEq] at hv
    obtain ⟨rfl, rfl⟩ := hv
    refine ⟨rfl, .int k (k.wrap n), ?_, .int _ _⟩
    have hk : E.P.intKind dst = k := by simp [Program.intKind, hd]
    have := run_convert_int (P := E.P) w src dst k' n hs (by rw [hk]; exact hd)
    rw [hk] at this
    simp [execOp, ho, hu, this]
  | _ => simp [rval, hg] at hv
theorem ok_s2b {E : Prg} {o : Oper} {src dst e : TypeId} {u0 : TypeDesc} {x : Operand} {y : Opd} (ho : o.op = .convert src dst x) (hs : E.P.underlying src = some u0) (hd : E.P.underlying dst = some (.slice e)) (he : E.P.underlying e = some (.int .u8))
    (hx : copd x = some y) : OpOk E o (.conv .s2b y) := by
  intro C G st a w d objs' hr hv
  have r1 := hr.ev hx
  generalize hu : a.eval x = u at r1
  generalize hg : y.ev E st = dd at r1
  cases r1 with
  | str s =>
    simp only [rval, hg] at hv
    split at hv
    · rename_i hle
      simp only [Option.some.injEq, Prod.mk.injEq] at hv
      obtain ⟨rfl, rfl⟩ := hv
      have hrun := Lib.run_convert_string_bytes (P := E.P) w src dst e ⟨s.toArray⟩ hs hd he
      have hsize : (⟨s.toArray⟩ : ByteArray).size = s.length := by simp [ByteArray.size]
      have hgc := grownCap_ge w s.length 0 e
      have hcells : Lib.bytesCells w e ⟨s.toArray⟩ = (s.map (fun b => Value.int .u8 b.toNat) ++ List.replicate (grownCap w s.length 0 e - s.length) (Value.int .u8 0)).toArray := by
        apply Array.ext'
        simp [Lib.bytesCells, hsize, - ByteArray.size_data]
      have hlen : (Lib.bytesCells w e ⟨s.toArray⟩).size = grownCap w s.length 0 e := by rw [hcells]; simp; omega
      have hworld : Lib.bytesWorld w e ⟨s.toArray⟩ = w.drew.alloc (.cells (s.map (fun b => Value.int .u8 b.toNat) ++ List.replicate (grownCap w s.length 0 e - s.length) (Value.int .u8 0)).toArray e (grownCap w s.length 0 e, grownCap w s.length 0 e + 1)) := by
        unfold Lib.bytesWorld World.freeze World.alloc
        rw [if_neg (by omega), hlen, hcells]
        congr 1
        apply Array.ext
        · simp
        · intro i h1 h2
          simp only [Array.getElem_modify, Array.getElem_push, World.size_drew]
          simp at h1
          by_cases hi : i < w.heap.size
          · have : ¬ (w.heap.size = i) := by omega
            simp [hi, this]
          · have : w.heap.size = i := by omega
            subst this
            simp
      rw [hworld, hsize] at hrun
      obtain ⟨G', h1, h2⟩ := hr.drew.newRows e (grownCap w s.length 0 e, grownCap w s.length 0 e + 1) (bytesRows s) 1 (grownCap w s.length 0 e) (s.map fun b => .int .u8 b.toNat) (List.replicate (grownCap w s.length 0 e - s.length) (.int .u8 0))
        (.inr (by simp; omega)) (fun row hrow => by obtain ⟨x, _, rfl⟩ := List.mem_map.1 hrow; rfl) (by simp [bytesRows]) (by simp [bytesRows]) (by simp [bytesRows]; omega)
        (fun v hv => by obtain ⟨x, _, rfl⟩ := List.mem_map.1 hv; rfl) (fun v hv => by rw [(List.mem_replicate.1 hv).2]; rfl)
        (fun i j row c hi hj => by
          simp only [bytesRows, List.getElem?_map] at hi
          obtain ⟨b, hb, rfl⟩ := Option.map_eq_some_iff.1 hi
          rcases j with _ | j
          · simp at hj; subst hj
            exact ⟨.int .u8 b.toNat, by simp [hb], .int _ _⟩
          · simp at hj)
      refine ⟨_, _, _, G', by simp only [execOp, ho, hu, Sem.run_bind, hrun, Result.andThen_ok, Sem.run_pure]; rfl, .inl rfl, h1, h2 s.length hgc⟩
    · cases hv
  | _ => simp [rval, hg] at hv
theorem ok_s2s {E : Prg} {o : Oper} {src dst : TypeId} {u0 : TypeDesc} {x : Operand} {y : Opd} (ho : o.op = .convert src dst x) (hs : E.P.underlying src = some u0) (hd : E.P.underlying dst = some .string)
    (hx : copd x = some y) : OpOk E o (.conv .s2s y) := by
  refine OpOk.quiet fun C G st a w d objs' hr hv => ?_
  have r1 := hr.ev hx
  generalize hu : a.eval x = u at r1
  generalize hg : y.ev E st = dd at r1
  cases r1 with
  | str s =>
    simp only [rval, hg] at hv
    simp only [Option.some.injEq, Prod.mk.injEq] at hv
    obtain ⟨rfl, rfl⟩ := hv
    exact ⟨rfl, .string ⟨s.toArray⟩, by cases u0 <;> simp [execOp, ho, hu, convert, run_underlying hs, run_underlying hd], .str s⟩
  | _ => simp [rval, hg] at hv
theorem frozen_mark {w : World} {b : Nat} {c : Array Value} {T : TypeId} {fr : Nat × Nat} (hb : w.heap[b]? = some (.cells c T fr)) (hk : MkOk w b) :
    (∀ x, (w.freeze ⟨b, c.size, none⟩ 1).cell? x = w.cell? x) ∧ (∀ x v, w.cell? x = some v → (w.freeze ⟨b, c.size, none⟩ 1).frozen? x = w.frozen? x) ∧ (∀ b', b' ≠ b → (w.freeze ⟨b, c.size, none⟩ 1).heap[b']? = w.heap[b']?) ∧
    (∀ b', MkOk w b' → MkOk (w.freeze ⟨b, c.size, none⟩ 1) b') ∧ (w.freeze ⟨b, c.size, none⟩ 1).heap.size = w.heap.size := by
  have hlt : b < w.heap.size := (Array.getElem?_eq_some_iff.1 hb).1
  have hk1 := hk c T fr hb
  obtain ⟨lo, hi⟩ := fr
  simp only at hk1
  have hw : (w.freeze ⟨b, c.size, none⟩ 1).heap[b]? = some (.cells c T (if lo == hi then (c.size, c.size + 1) else (min lo c.size, max hi (c.size + 1)))) := by
    unfold World.freeze
    rw [if_neg (by decide)]
    simp only [Array.getElem?_modify, if_true, hb, Option.map_some]
  have ho : ∀ b', b' ≠ b → (w.freeze ⟨b, c.size, none⟩ 1).heap[b']? = w.heap[b']? := fun b' hne => by
    unfold World.freeze
    rw [if_neg (by decide)]
    simp only [Array.getElem?_modify]
    rw [if_neg (fun e => hne e.symm)]
  refine ⟨fun x => ?_, fun x v hx => ?_, ho, fun b' h1 => ?_, ?_⟩
  · unfold World.cell?
    by_cases e : x.block = b
    · rw [e, hw, hb]
    · rw [ho _ e]
  · by_cases e : x.block = b
    · have hx2 : x.spot = none ∧ x.off < c.size := by
        unfold World.cell? at hx
        rw [e, hb] at hx
        simp only at hx
        split at hx
        · cases hx
        · rename_i hs
          refine ⟨by cases h : x.spot with | none => rfl | some y => rw [h] at hs; simp at hs, (Array.getElem?_eq_some_iff.1 hx).1⟩
      unfold World.frozen?
      rw [e, hw, hb]
      by_cases h : lo = hi
      · subst h
        simp
        rw [decide_eq_false (show ¬ c.size ≤ x.off by omega), Bool.false_and]
        by_cases h5 : lo ≤ x.off
        · rw [decide_eq_false (show ¬ x.off < lo by omega), Bool.and_false]
        · rw [decide_eq_false h5, Bool.false_and]
      · simp [h]
        rw [decide_eq_false (show ¬ min lo c.size ≤ x.off by omega), decide_eq_false (show ¬ lo ≤ x.off by omega), Bool.false_and, Bool.false_and]
    · unfold World.frozen?
      rw [ho _ e]
  · by_cases e : b' = b
    · subst e
      intro cs T' fr' h2
      rw [hw] at h2
      obtain ⟨rfl, rfl, rfl⟩ := Obj.cells.injEq .. ▸ sj h2
      by_cases h : lo = hi
      · subst h; simp
      · simp [h]; omega
    · exact h1.of_eq (ho b' e)
  · unfold World.freeze
    rw [if_neg (by decide)]
    simp
theorem ok_lit {E : Prg} {o : Oper} {src dst e : TypeId} {x : Operand} {y : Opd} (ho : o.op = .convert src dst x) (hsd : src = dst) (hd : E.P.underlying dst = some (.slice e)) (he : E.P.underlying e = some (.int .u8))
    (hx : copd x = some y) : OpOk E o (.conv .lit y) := by
  intro C G st a w d objs' hr hv
  subst hsd
  have r1 := hr.ev hx
  generalize hu : a.eval x = u at r1
  generalize hg : y.ev E st = dd at r1
  cases r1 with
  | own k off n pl p c h1 h2 h3 h4 =>
    simp only [rval, hg] at hv
    split at hv
    · rename_i sz rows hob
      split at hv
      · rename_i hc
        simp only [Option.some.injEq, Prod.mk.injEq] at hv
        obtain ⟨rfl, rfl⟩ := hv
        obtain ⟨q, hq, hl⟩ := hr.heap.live k _ hob
        obtain rfl : pl = q := sj (h1.symm.trans hq)
        have hpsz : pl.sz = sz := hl.psz
        have hcap : off + n ≤ pl.cap := h3
        have hc0 : 0 < c := by omega
        have hp := h4 hc0
        have h0 : 0 < pl.cap * pl.sz := Nat.mul_pos (by omega) (by omega)
        obtain ⟨v0, hv0, _⟩ := hl.there trivial 0 h0
        have hblk : ∃ cs T fr, w.heap[pl.block]? = some (.cells cs T fr) := by
          unfold World.cell? at hv0
          split at hv0
          · rename_i cs T fr h; exact ⟨cs, T, fr, h⟩
          · cases hv0
        obtain ⟨cs, T, fr, hb⟩ := hblk
        obtain ⟨f1, f2, f3, f4, f5⟩ := frozen_mark hb (hl.mko h0)
        subst hp
        refine ⟨.value (.slice (some (pl.cellAt (off * pl.sz))) n c), _, w.freeze ⟨pl.block, cs.size, none⟩ 1, G, ?_, .inl rfl, ?_, .own k off n pl _ c h1 h2 h3 h4⟩
        · simp [execOp, ho, hu, convert, run_underlying hd, run_underlying he, markStringish, World.shape?, hb, Place.cellAt]
        · refine ⟨hr.env, hr.num, hr.defs, ⟨hr.heap.pls, fun k' ob' hk' => ?_, hr.heap.sep, fun x v hx => ?_, hr.heap.rds⟩, ⟨?_, ?_, ?_, ?_, ?_, ?_, ?_, hr.frm.mine, hr.frm.rdn, hr.frm.le, fun b' hb' h5 => f4 _ (hr.frm.mko b' hb' h5)⟩, hr.glob⟩
          · obtain ⟨p', hp', hl'⟩ := hr.heap.live k' ob' hk'
            refine ⟨p', hp', hl'.mono (.refl _) (fun _ a c e => (f3 _ (fun he => by rw [he, hb] at e; cases e)).trans e) (fun m _ => f1 _) (fun hx m hm => ?_) (fun _ h5 => f4 _ h5)⟩
            obtain ⟨v, hv, _⟩ := hl'.there hx m hm
            exact f2 _ v hv
          · rw [f1]; exact hr.heap.rdv x v hx
          · rw [← hr.frm.os]; unfold World.freeze; rw [if_neg (by decide)]
          · rw [← hr.frm.tape]; unfold World.freeze; rw [if_neg (by decide)]
          · rw [← hr.frm.output]; unfold World.freeze; rw [if_neg (by decide)]
          · rw [f5]; exact hr.frm.size
          · intro b' hb' hn'
            rw [← hr.frm.blk b' hb' hn']
            refine f3 b' (fun e5 => ?_)
            subst e5
            rcases hr.frm.mine k _ pl 0 hob h1 h0 with h6 | h6
            · omega
            · exact hn' _ h6
          · intro x hx' hn'
            rw [f1]; exact hr.frm.cell x hx' hn'
          · intro x v hx' hn'
            have hxb := World.block_lt_of_cell? _ _ hx'
            rw [f2 x v ((hr.frm.cell x hxb hn').trans hx')]
            exact hr.frm.frz x v hx' hn'
      · cases hv
    · cases hv
  | _ => simp [rval, hg] at hv
theorem ok_mkslice {E : Prg} {o : Oper} {t e : TypeId} {sz bytes : Nat} {zero : List DV} {x1 x2 : Operand} {y1 y2 : Opd} (ho : o.op = .makeSlice t x1 x2) (ht : E.P.underlying t = some (.slice e)) (hsz : tySize E.P e = some sz) (hby : tyBytes E.P e = some bytes) (hz : tyZero E.P e = some zero)
    (hx1 : copd x1 = some y1) (hx2 : copd x2 = some y2) : OpOk E o (.mkslice sz bytes zero y1 y2) := by
  intro C G st a w d objs' hr hv
  have r1 := hr.ev hx1
  have r2 := hr.ev hx2
  generalize hu : a.eval x1 = u at r1
  generalize hu2 : a.eval x2 = u2 at r2
  generalize hg : y1.ev E st = d1 at r1
  generalize hg2 : y2.ev E st = d2 at r2
  simp only [rval, hg, hg2] at hv
  split at hv
  · rename_i k n k' c
    split at hv
    · rename_i hc
      obtain ⟨h0, hnc, hb, h63, hzl⟩ := hc
      simp only [Option.some.injEq, Prod.mk.injEq] at hv
      obtain ⟨rfl, rfl⟩ := hv
      cases r1; cases r2
      obtain ⟨i, hi, hisz⟩ := Option.map_eq_some_iff.1 hsz
      obtain ⟨i', hi', hiby⟩ := Option.map_eq_some_iff.1 hby
      obtain rfl : i = i' := sj (hi.symm.trans hi')
      obtain ⟨z, hz1, hz2⟩ := Option.bind_eq_some_iff.1 hz
      have hz1 : i.zero = some z := by simpa [hi] using hz1
      obtain ⟨hzs, hzone, hzrel⟩ := dvOfs_cells (G := G) hz2
      have hrun := run_make (P := E.P) w t e i z ht hi hz1 k k' n c h0 hnc (by rw [hiby, Int.mul_comm]; omega) (by omega)
      have hcn : n.toNat ≤ c.toNat := by omega
      have hzz : z.cells.size = sz := by rw [hzs, hzl]
      have hget : ∀ m, m < c.toNat * sz → 0 < sz ∧ z.cells[m % z.cells.size]! = z.cells.getD (m % sz) undef := fun m hm => by
        have hpos : 0 < sz := by
          rcases Nat.eq_zero_or_pos sz with h | h
          · subst h; simp at hm
          · exact h
        refine ⟨hpos, ?_⟩
        have hlt : m % sz < z.cells.size := by rw [hzz]; exact Nat.mod_lt _ hpos
        rw [hzz, getElem!_pos z.cells (m % sz) hlt]
        simp [Array.getD_eq_getD_getElem?, hlt]
      have hall : ∀ x, x ∈ (madeCells z.cells (c.toNat * sz)).toList → x.oneCell' = true := fun x hx => by
        simp only [madeCells, Array.toList_map, Array.toList_range, List.mem_map, List.mem_range] at hx
        obtain ⟨m, hm, rfl⟩ := hx
        obtain ⟨hpos, he⟩ := hget m hm
        rw [he]
        have hlt : m % sz < z.cells.size := by rw [hzz]; exact Nat.mod_lt _ hpos
        rw [Array.getD_eq_getD_getElem?, Array.getElem?_eq_getElem hlt]
        exact hzone (m % sz) _ (by simp [hlt])
      have hnsz : n.toNat * sz ≤ c.toNat * sz := Nat.mul_le_mul_right _ hcn
      have hsplit : (madeCells z.cells (c.toNat * sz)) = ((madeCells z.cells (c.toNat * sz)).toList.take (n.toNat * sz) ++ (madeCells z.cells (c.toNat * sz)).toList.drop (n.toNat * sz)).toArray := by
        rw [List.take_append_drop]
      have hml : (madeCells z.cells (c.toNat * sz)).toList.length = c.toNat * sz := by simp [madeCells]
      rw [hisz, hsplit] at hrun
      obtain ⟨G', h1, h2⟩ := hr.newRows e (0, 0) (List.replicate n.toNat zero) sz c.toNat ((madeCells z.cells (c.toNat * sz)).toList.take (n.toNat * sz)) ((madeCells z.cells (c.toNat * sz)).toList.drop (n.toNat * sz)) (.inl rfl) (fun row hrow => by rw [(List.mem_replicate.1 hrow).2, hzl])
        (by rw [List.length_take, hml, List.length_replicate]; exact Nat.min_eq_left hnsz) (by rw [List.length_drop, hml, List.length_replicate, Nat.sub_mul]) (by simpa using hcn)
        (fun x hx => hall x (List.mem_of_mem_take hx)) (fun x hx => hall x (List.mem_of_mem_drop hx))
        (fun i' j row cc hi' hj => by
          rw [List.getElem?_replicate] at hi'
          split at hi'
          · rename_i hlt
            obtain rfl := sj hi'
            have hjl : j < sz := by rw [← hzl]; exact (List.getElem?_eq_some_iff.1 hj).1
            have h5 : (i' + 1) * sz ≤ n.toNat * sz := Nat.mul_le_mul_right _ hlt
            rw [Nat.add_mul] at h5
            have hm : i' * sz + j < c.toNat * sz := by omega
            obtain ⟨hpos, he⟩ := hget _ hm
            refine ⟨z.cells.getD j undef, ?_, hzrel j cc hj⟩
            rw [List.getElem?_take, if_pos (by omega)]
            simp only [madeCells, Array.toList_map, Array.toList_range, List.getElem?_map]
            rw [List.getElem?_range hm]
            simp only [Option.map_some]
            rw [he]
            congr 2
            rw [Nat.mul_comm, Nat.mul_add_mod, Nat.mod_eq_of_lt hjl]
          · cases hi')
      refine ⟨_, _, _, G', by simp only [execOp, ho, hu, hu2, Sem.run_bind, hrun, Result.andThen_ok, Sem.run_pure], .inl rfl, h1, h2 n.toNat hcn⟩
    · cases hv
  · cases hv
theorem seg_list (off : Nat) : ∀ (l : List Value) (k : Nat) (cs : Array Value), ((l.zipIdx k).foldl (fun (cs : Array Value) (x : Value × Nat) => cs.setIfInBounds (off + x.2) x.1) cs).size = cs.size ∧
    ∀ m, ((l.zipIdx k).foldl (fun (cs : Array Value) (x : Value × Nat) => cs.setIfInBounds (off + x.2) x.1) cs)[m]? = if off + k ≤ m ∧ m < off + k + l.length ∧ m < cs.size then l[m - (off + k)]? else cs[m]?
  | [], k, cs => ⟨rfl, fun m => by rw [if_neg (by simp; omega)]; rfl⟩
  | v :: l, k, cs => by
    obtain ⟨h1, h2⟩ := seg_list off l (k + 1) (cs.setIfInBounds (off + k) v)
    refine ⟨by simpa [List.zipIdx_cons] using h1, fun m => ?_⟩
    simp only [List.zipIdx_cons, List.foldl_cons]
    rw [h2]
    simp only [Array.size_setIfInBounds, List.length_cons]
    by_cases hm : off + (k + 1) ≤ m ∧ m < off + (k + 1) + l.length ∧ m < cs.size
    · rw [if_pos hm, if_pos (by omega)]
      rw [show m - (off + k) = (m - (off + (k + 1))) + 1 by omega, List.getElem?_cons_succ]
    · rw [if_neg hm, Array.getElem?_setIfInBounds]
      by_cases he : off + k = m
      · rw [if_pos he]
        by_cases hs : m < cs.size
        · rw [if_pos (by omega), if_pos (by omega), show m - (off + k) = 0 by omega]; rfl
        · rw [if_neg (by omega), if_neg (by omega)]
          exact (Array.getElem?_eq_none (by omega)).symm
      · rw [if_neg he, if_neg (by omega)]
def putSeg (cs : Array Value) (off : Nat) (vs : Array Value) : Array Value := vs.zipIdx.foldl (fun (cs : Array Value) (x : Value × Nat) => cs.setIfInBounds (off + x.2) x.1) cs
theorem putSeg_eq (cs : Array Value) (off : Nat) (vs : Array Value) : putSeg cs off vs = ((vs.toList.zipIdx 0).foldl (fun (cs : Array Value) (x : Value × Nat) => cs.setIfInBounds (off + x.2) x.1) cs) := by
  unfold putSeg
  rw [← Array.foldl_toList, Array.toList_zipIdx]
theorem putSeg_size (cs : Array Value) (off : Nat) (vs : Array Value) : (putSeg cs off vs).size = cs.size := by
  rw [putSeg_eq]; exact (seg_list off vs.toList 0 cs).1
theorem putSeg_get (cs : Array Value) (off : Nat) (vs : Array Value) (h : off + vs.size ≤ cs.size) (m : Nat) : (putSeg cs off vs)[m]? = if off ≤ m ∧ m < off + vs.size then vs[m - off]? else cs[m]? := by
  rw [putSeg_eq, (seg_list off vs.toList 0 cs).2 m]
  simp only [Nat.add_zero, Array.length_toList]
  by_cases hm : off ≤ m ∧ m < off + vs.size
  · rw [if_pos hm, if_pos (by omega), Array.getElem?_toList]
  · rw [if_neg hm, if_neg (by omega)]
theorem fill_cons (place : Nat → Option (Nat × Nat)) (cells : Array Value) (i : Nat) (v : Value) (rest : List (Nat × Value)) (off size : Nat) (hp : place i = some (off, size)) (h1 : v.cells.size = size) (h2 : off + v.cells.size ≤ cells.size) :
    Instr.fill place cells ((i, v) :: rest) = Instr.fill place (putSeg cells off v.cells) rest := by
  have : (decide (v.cells.size ≠ size) || decide (off + v.cells.size > cells.size)) = false := by simp; omega
  rw [Instr.fill]
  simp only [hp, this, Bool.false_eq_true, if_false]
  rfl
def partsOk (place : Nat → Option (Nat × Nat)) : List (Nat × Operand) → List (Nat × Nat × Opd) → Prop
  | [], [] => True
  | (i, x) :: l, (off, sz, y) :: l' => place i = some (off, sz) ∧ copd x = some y ∧ partsOk place l l'
  | _, _ => False
def bstep (E : Prg) (st : St) (acc : Option (List DV)) (x : Nat × Nat × Opd) : Option (List DV) := match acc, (x.2.2.ev E st).cells with
      | some cs, some new => if new.length = x.2.1 ∧ x.1 + new.length ≤ cs.length then some (rowSet cs x.1 new) else none
      | _, _ => none
theorem bstep_none (E : Prg) (st : St) : ∀ l : List (Nat × Nat × Opd), l.foldl (bstep E st) none = none
  | [] => rfl
  | x :: l => by simp only [List.foldl_cons]; rw [show bstep E st none x = none from rfl]; exact bstep_none E st l
theorem fill_build {E : Prg} {C : Ctx} {G : Gh} {st : St} {a : Act} {w : World} (hr : RelG E C G st a w) (place : Nat → Option (Nat × Nat)) : ∀ (parts : List (Nat × Operand)) (parts' : List (Nat × Nat × Opd)) (cur : Array Value) (ds cs : List DV),
    partsOk place parts parts' → cur.size = ds.length → (∀ (i : Nat) c, ds[i]? = some c → Rel G c (cur.getD i undef)) → parts'.foldl (bstep E st) (some ds) = some cs →
    ∃ cur', Instr.fill place cur (parts.map fun x => (x.1, a.eval x.2)) = some cur' ∧ cur'.size = cs.length ∧ ∀ (i : Nat) c, cs[i]? = some c → Rel G c (cur'.getD i undef)
  | [], [], cur, ds, cs, _, hs, hrel, h => by
    obtain rfl := sj h
    exact ⟨cur, rfl, hs, hrel⟩
  | (i, x) :: l, (off, sz, y) :: l', cur, ds, cs, hp, hs, hrel, h => by
    obtain ⟨hp1, hp2, hp3⟩ := hp
    simp only [List.foldl_cons] at h
    cases hc : (y.ev E st).cells with
    | none =>
      rw [show bstep E st (some ds) (off, sz, y) = none by simp [bstep, hc], bstep_none] at h
      cases h
    | some new =>
      by_cases hcond : new.length = sz ∧ off + new.length ≤ ds.length
      · rw [show bstep E st (some ds) (off, sz, y) = some (rowSet ds off new) by simp only [bstep, hc]; rw [if_pos hcond]] at h
        obtain ⟨hvs, hvr⟩ := (hr.ev hp2).cells hc
        have hle : off + (a.eval x).cells.size ≤ cur.size := by omega
        obtain ⟨cur', h1, h2, h3⟩ := fill_build hr place l l' (putSeg cur off (a.eval x).cells) (rowSet ds off new) cs hp3 (by rw [putSeg_size, rowSet_length _ _ _ hcond.2, hs]) (fun m c hm => by
          rw [rowSet_get _ _ _ hcond.2] at hm
          rw [Array.getD_eq_getD_getElem?, putSeg_get _ _ _ hle]
          by_cases hin : off ≤ m ∧ m < off + (a.eval x).cells.size
          · rw [if_pos hin, ← Array.getD_eq_getD_getElem?]
            rw [if_neg (by omega), if_pos (by omega)] at hm
            exact hvr _ c hm
          · rw [if_neg hin, ← Array.getD_eq_getD_getElem?]
            have hm' : ds[m]? = some c := by
              split at hm
              · exact hm
              · rw [if_neg (by omega)] at hm; exact hm
            exact hrel m c hm') h
        refine ⟨cur', ?_, h2, h3⟩
        simp only [List.map_cons]
        rw [fill_cons place cur i _ _ off sz hp1 (by omega) hle]
        exact h1
      · rw [show bstep E st (some ds) (off, sz, y) = none by simp only [bstep, hc]; rw [if_neg hcond], bstep_none] at h
        cases h
  | [], _ :: _, _, _, _, hp, _, _, _ => hp.elim
  | _ :: _, [], _, _, _, hp, _, _, _ => hp.elim
theorem run_places {P : Program} {w : World} : ∀ (l : List Field), (∀ f, f ∈ l → (P.info? f.type).isSome = true) →
    ((l.mapM fun f => do pure (f.offset, ← sizeOf f.type)) : Sem (List (Nat × Nat))).run P w = .ok (l.map fun f => (f.offset, P.cellsOf f.type)) w
  | [], _ => by simp
  | f :: l, h => by
    have ih := run_places (w := w) l (fun x hx => h x (by simp [hx]))
    obtain ⟨i, hi⟩ := Option.isSome_iff_exists.1 (h f (by simp))
    have hs : (sizeOf f.type).run P w = .ok i.size w := by simp [sizeOf, typeInfo, hi]
    have hc : P.cellsOf f.type = i.size := by simp [Program.cellsOf, hi]
    simp only [List.mapM_cons, Sem.run_bind, hs, Result.andThen_ok, Sem.run_pure, ih, List.map_cons, hc]
theorem ok_build {E : Prg} {o : Oper} {t : TypeId} {parts : Array (Nat × Operand)} {parts' : List (Nat × Nat × Opd)} {fs : Array Field} {zero : List DV} (ho : o.op = .build t parts) (ht : E.P.underlying t = some (.struct fs)) (hz : tyZero E.P t = some zero)
    (hall : ∀ f, f ∈ fs.toList → (E.P.info? f.type).isSome = true) (hp : partsOk (fun i => (fs[i]?).map fun f => (f.offset, E.P.cellsOf f.type)) parts.toList parts') : OpOk E o (.build zero parts') := by
  refine OpOk.quiet fun C G st a w d objs' hr hv => ?_
  simp only [rval] at hv
  obtain ⟨cs, hcs, he⟩ := Option.map_eq_some_iff.1 hv
  obtain ⟨rfl, rfl⟩ := Prod.mk.inj he
  obtain ⟨v, hv1, hv2⟩ := run_zeroValue hz w
  obtain ⟨hs, hone, hrel⟩ := dvOfs_cells (G := G) hv2
  have hpl : ((fs.mapM fun f => do pure (f.offset, ← sizeOf f.type)) : Sem (Array (Nat × Nat))).run E.P w = .ok (fs.map fun f => (f.offset, E.P.cellsOf f.type)) w := by
    have := run_places (P := E.P) (w := w) fs.toList hall
    rw [← Array.toArray_toList (xs := fs)]
    rw [List.mapM_toArray]
    simp only [Sem.run_map, this, Result.andThen_ok]
    congr 1
    apply Array.ext'
    simp
  obtain ⟨cur', h1, h2, h3⟩ := fill_build hr (fun i => (fs.map fun f => (f.offset, E.P.cellsOf f.type))[i]?) parts.toList parts' v.cells zero cs (by simpa using hp) hs hrel hcs
  refine ⟨rfl, .agg cur', ?_, .agg cs cur' h2 h3⟩
  have hm : (parts.map fun x => (x.1, a.eval x.2)).toList = parts.toList.map fun x => (x.1, a.eval x.2) := by simp
  have h1' : Instr.fill (fun i => (fs.map fun f => (f.offset, E.P.cellsOf f.type))[i]?) v.cells (parts.map fun x => (x.1, a.eval x.2)).toList = some cur' := by rw [hm]; exact h1
  simp only [execOp, ho, Instr.build, Sem.run_bind, hv1, Result.andThen_ok, run_underlying ht, hpl, Sem.run_pure]
  rw [h1']
  rfl
theorem ok_buildA {E : Prg} {o : Oper} {t e : TypeId} {n sz : Nat} {parts : Array (Nat × Operand)} {parts' : List (Nat × Nat × Opd)} {zero : List DV} (ho : o.op = .build t parts) (ht : E.P.underlying t = some (.array n e)) (hz : tyZero E.P t = some zero)
    (hsz : tySize E.P e = some sz) (hp : partsOk (fun i => some (i * sz, sz)) parts.toList parts') : OpOk E o (.build zero parts') := by
  refine OpOk.quiet fun C G st a w d objs' hr hv => ?_
  simp only [rval] at hv
  obtain ⟨cs, hcs, he⟩ := Option.map_eq_some_iff.1 hv
  obtain ⟨rfl, rfl⟩ := Prod.mk.inj he
  obtain ⟨v, hv1, hv2⟩ := run_zeroValue hz w
  obtain ⟨hs, hone, hrel⟩ := dvOfs_cells (G := G) hv2
  obtain ⟨cur', h1, h2, h3⟩ := fill_build hr (fun i => some (i * sz, sz)) parts.toList parts' v.cells zero cs hp hs hrel hcs
  refine ⟨rfl, .agg cur', ?_, .agg cs cur' h2 h3⟩
  have hm : (parts.map fun x => (x.1, a.eval x.2)).toList = parts.toList.map fun x => (x.1, a.eval x.2) := by simp
  have h1' : Instr.fill (fun i => some (i * sz, sz)) v.cells (parts.map fun x => (x.1, a.eval x.2)).toList = some cur' := by rw [hm]; exact h1
  simp only [execOp, ho, Instr.build, Sem.run_bind, hv1, Result.andThen_ok, run_underlying ht, run_sizeOf hsz, Sem.run_pure]
  rw [h1']
  rfl
def mstep (E : Prg) (st : St) (sz : Nat) (acc : Option (List (List DV))) (x : Nat × Opd) : Option (List (List DV)) := match acc, (x.2.ev E st).cells with
      | some rows, some new => if new.length = sz ∧ x.1 < rows.length ∧ new.all DV.one = true then some (rows.set x.1 new) else none
      | _, _ => none
theorem mstep_none (E : Prg) (st : St) (sz : Nat) : ∀ l : List (Nat × Opd), l.foldl (mstep E st sz) none = none
  | [] => rfl
  | x :: l => by simp only [List.foldl_cons]; rw [show mstep E st sz none x = none from rfl]; exact mstep_none E st sz l
def partsOk2 : List (Nat × Operand) → List (Nat × Opd) → Prop
  | [], [] => True
  | (i, x) :: l, (j, y) :: l' => i = j ∧ copd x = some y ∧ partsOk2 l l'
  | _, _ => False
structure RowsIn (G : Gh) (cur : Array Value) (rows : List (List DV)) (sz : Nat) : Prop where
  size : cur.size = rows.length * sz
  ok : rowsOk sz rows
  one : ∀ (m : Nat) v, cur[m]? = some v → v.oneCell' = true
  rel : ∀ (i j : Nat) row c, rows[i]? = some row → row[j]? = some c → Rel G c (cur.getD (i * sz + j) undef)
theorem fill_mkrow {E : Prg} {C : Ctx} {G : Gh} {st : St} {a : Act} {w : World} (hr : RelG E C G st a w) (sz : Nat) : ∀ (parts : List (Nat × Operand)) (parts' : List (Nat × Opd)) (cur : Array Value) (rows rows' : List (List DV)),
    partsOk2 parts parts' → RowsIn G cur rows sz → parts'.foldl (mstep E st sz) (some rows) = some rows' →
    ∃ cur', Instr.fill (fun i => some (i * sz, sz)) cur (parts.map fun x => (x.1, a.eval x.2)) = some cur' ∧ RowsIn G cur' rows' sz ∧ rows'.length = rows.length
  | [], [], cur, rows, rows', _, hin, h => by
    obtain rfl := sj h
    exact ⟨cur, rfl, hin, rfl⟩
  | (i, x) :: l, (j, y) :: l', cur, rows, rows', hp, hin, h => by
    obtain ⟨rfl, hp2, hp3⟩ := hp
    simp only [List.foldl_cons] at h
    cases hc : (y.ev E st).cells with
    | none =>
      rw [show mstep E st sz (some rows) (i, y) = none by simp [mstep, hc], mstep_none] at h
      cases h
    | some new =>
      by_cases hcond : new.length = sz ∧ i < rows.length ∧ new.all DV.one = true
      · rw [show mstep E st sz (some rows) (i, y) = some (rows.set i new) by simp only [mstep, hc]; rw [if_pos hcond]] at h
        obtain ⟨hvs, hvr⟩ := (hr.ev hp2).cells hc
        have h5 : (i + 1) * sz ≤ rows.length * sz := Nat.mul_le_mul_right _ hcond.2.1
        rw [Nat.add_mul] at h5
        have hsz := hin.size
        have hle : i * sz + (a.eval x).cells.size ≤ cur.size := by omega
        obtain ⟨cur', h1, h2, h3⟩ := fill_mkrow hr sz l l' (putSeg cur (i * sz) (a.eval x).cells) (rows.set i new) rows' hp3 ⟨by rw [putSeg_size, List.length_set]; exact hin.size, fun row hrow => by
            rcases List.mem_or_eq_of_mem_set hrow with h | h
            · exact hin.ok row h
            · subst h; exact hcond.1, fun m v hm => by
            rw [putSeg_get _ _ _ hle] at hm
            split at hm
            · rename_i hmm
              have hlt : m - i * sz < new.length := by omega
              have h6 := hvr (m - i * sz) new[m - i * sz] (List.getElem?_eq_getElem hlt)
              rw [Array.getD_eq_getD_getElem?, hm] at h6
              exact h6.oneCell (List.all_eq_true.1 hcond.2.2 _ (List.getElem_mem hlt))
            · exact hin.one m v hm, fun i' j' row c hi' hj' => by
            rw [Array.getD_eq_getD_getElem?, putSeg_get _ _ _ hle]
            rw [List.getElem?_set] at hi'
            by_cases he : i = i'
            · subst he
              rw [if_pos rfl, if_pos hcond.2.1] at hi'
              obtain rfl := sj hi'
              have hlt : j' < new.length := (List.getElem?_eq_some_iff.1 hj').1
              rw [if_pos (by omega), Nat.add_sub_cancel_left, ← Array.getD_eq_getD_getElem?]
              exact hvr j' c hj'
            · rw [if_neg he] at hi'
              have hlt : j' < row.length := (List.getElem?_eq_some_iff.1 hj').1
              have h7 := hin.ok row (List.mem_of_getElem? hi')
              have hno : ¬ (i * sz ≤ i' * sz + j' ∧ i' * sz + j' < i * sz + (a.eval x).cells.size) := by
                rcases Nat.lt_or_gt_of_ne he with h8 | h8
                · have : (i + 1) * sz ≤ i' * sz := Nat.mul_le_mul_right _ h8
                  rw [Nat.add_mul] at this
                  omega
                · have : (i' + 1) * sz ≤ i * sz := Nat.mul_le_mul_right _ h8
                  rw [Nat.add_mul] at this
                  omega
              rw [if_neg hno, ← Array.getD_eq_getD_getElem?]
              exact hin.rel i' j' row c hi' hj'⟩ h
        refine ⟨cur', ?_, h2, by rw [h3, List.length_set]⟩
        simp only [List.map_cons]
        rw [fill_cons _ cur i _ _ (i * sz) sz rfl (by omega) hle]
        exact h1
      · rw [show mstep E st sz (some rows) (i, y) = none by simp only [mstep, hc]; rw [if_neg hcond], mstep_none] at h
        cases h
  | [], _ :: _, _, _, _, hp, _, _ => hp.elim
  | _ :: _, [], _, _, _, hp, _, _ => hp.elim
theorem ok_mkrow {E : Prg} {o : Oper} {t e : TypeId} {len sz : Nat} {parts : Array (Nat × Operand)} {parts' : List (Nat × Opd)} {zero : List DV} (ho : o.op = .buildSlice t len parts) (ht : E.P.underlying t = some (.slice e)) (hsz : tySize E.P e = some sz) (hz : tyZero E.P e = some zero)
    (hzl : zero.length = sz) (hmax : len * sz ≤ 16777216) (hp : partsOk2 parts.toList parts') : OpOk E o (.mkrow sz zero len parts') := by
  intro C G st a w d objs' hr hv
  simp only [rval] at hv
  obtain ⟨rows', hcs, he⟩ := Option.map_eq_some_iff.1 hv
  obtain ⟨rfl, rfl⟩ := Prod.mk.inj he
  obtain ⟨v, hv1, hv2⟩ := run_zeroValue hz w
  obtain ⟨hs, hone, hrel⟩ := dvOfs_cells (G := G) hv2
  have hzz : v.cells.size = sz := by rw [hs, hzl]
  obtain ⟨z0, hz0⟩ : ∃ z0 : Array Value, z0 = if len * sz = 0 then #[] else v.cells := ⟨_, rfl⟩
  have hz1 : len * sz ≠ 0 → z0 = v.cells := fun h => by rw [hz0, if_neg h]
  have hget : ∀ m, m < len * sz → 0 < sz ∧ z0[m % z0.size]! = v.cells.getD (m % sz) undef := fun m hm => by
    have hne : len * sz ≠ 0 := by omega
    have hpos : 0 < sz := by
      rcases Nat.eq_zero_or_pos sz with h | h
      · subst h; simp at hm
      · exact h
    refine ⟨hpos, ?_⟩
    rw [hz1 hne]
    have hlt : m % sz < v.cells.size := by rw [hzz]; exact Nat.mod_lt _ hpos
    rw [hzz, getElem!_pos v.cells (m % sz) hlt]
    simp [Array.getD_eq_getD_getElem?, hlt]
  have hin : RowsIn G ((Array.range (len * sz)).map (z0[· % z0.size]!)) (List.replicate len zero) sz := by
    refine ⟨by simp, fun row hrow => by rw [(List.mem_replicate.1 hrow).2, hzl], fun m x hm => ?_, fun i j row c hi hj => ?_⟩
    · have hlt : m < len * sz := by simpa using (Array.getElem?_eq_some_iff.1 hm).1
      obtain ⟨hpos, he⟩ := hget m hlt
      rw [Array.getElem?_map, Array.getElem?_range, if_pos hlt] at hm
      simp only [Option.map_some, Option.some.injEq] at hm
      subst hm
      rw [he]
      have hlt2 : m % sz < v.cells.size := by rw [hzz]; exact Nat.mod_lt _ hpos
      rw [Array.getD_eq_getD_getElem?, Array.getElem?_eq_getElem hlt2]
      exact hone (m % sz) _ (by simp [hlt2])
    · rw [List.getElem?_replicate] at hi
      split at hi
      · rename_i hlt
        obtain rfl := sj hi
        have hjl : j < sz := by rw [← hzl]; exact (List.getElem?_eq_some_iff.1 hj).1
        have h5 : (i + 1) * sz ≤ len * sz := Nat.mul_le_mul_right _ hlt
        rw [Nat.add_mul] at h5
        have hm : i * sz + j < len * sz := by omega
        obtain ⟨hpos, he⟩ := hget _ hm
        rw [Array.getD_eq_getD_getElem?, Array.getElem?_map, Array.getElem?_range, if_pos hm]
        simp only [Option.map_some, Option.getD_some]
        rw [he, show (i * sz + j) % sz = j by rw [Nat.mul_comm, Nat.mul_add_mod, Nat.mod_eq_of_lt hjl]]
        exact hrel j c hj
      · cases hi
  obtain ⟨cur', h1, h2, h3⟩ := fill_mkrow hr sz parts.toList parts' _ _ rows' hp hin hcs
  have hm : (parts.map fun x => (x.1, a.eval x.2)).toList = parts.toList.map fun x => (x.1, a.eval x.2) := by simp
  rw [← hm] at h1
  have hlen : rows'.length = len := by simpa using h3
  obtain ⟨G', g1, g2⟩ := hr.newRows e (0, 0) rows' sz len cur'.toList [] (.inl rfl) h2.ok (by simpa using h2.size) (by simp [hlen]) (by omega)
    (fun x hx => by
      obtain ⟨m, hmm⟩ := List.getElem?_of_mem hx
      exact h2.one m x (by simpa using hmm)) (by simp) (fun i j row c hi hj => by
      have hlt := idx_lt h2.ok hi hj
      have hr' := h2.rel i j row c hi hj
      rw [← h2.size] at hlt
      rw [Array.getD_eq_getD_getElem?, Array.getElem?_eq_getElem hlt] at hr'
      exact ⟨cur'[i * sz + j], by simp [hlt], hr'⟩)
  simp only [List.append_nil, Array.toArray_toList] at g1
  have hno : ¬ (16777216 < len * sz) := by omega
  refine ⟨_, _, _, G', ?_, .inl rfl, g1, g2 len (Nat.le_refl _)⟩
  have hfin : (Instr.buildSlice t len (parts.map fun x => (x.1, a.eval x.2))).run E.P w = .ok (.slice (some ⟨w.heap.size, 0, none⟩) len len) (w.alloc (.cells cur' e)) := by
    simp only [Instr.buildSlice, Sem.run_bind, run_underlying ht, Result.andThen_ok, run_sizeOf hsz]
    rw [if_neg (by simpa using hno)]
    by_cases h0 : len * sz = 0
    · rw [if_pos h0] at hz0 ⊢
      subst hz0
      simp only [Sem.run_bind, Sem.run_pure, Result.andThen_ok, h1, newRow, run_newObj]
      rfl
    · rw [if_neg h0] at hz0 ⊢
      subst hz0
      simp only [Sem.run_bind, Sem.run_pure, Result.andThen_ok, hv1, h1, newRow, run_newObj]
      rfl
  simp only [execOp, ho, Sem.run_bind, hfin, Result.andThen_ok, Sem.run_pure]
theorem splice_get {α : Type} (rows new : List α) (off k i : Nat) (h : off + k ≤ rows.length) (hk : k ≤ new.length) :
    (rows.take off ++ new.take k ++ rows.drop (off + k))[i]? = if i < off then rows[i]? else if i < off + k then new[i - off]? else rows[i]? := by
  have h1 : (rows.take off).length = off := by rw [List.length_take]; omega
  have h2 : (new.take k).length = k := by rw [List.length_take]; omega
  by_cases c1 : i < off
  · rw [if_pos c1, List.append_assoc, List.getElem?_append_left (by omega), List.getElem?_take_of_lt c1]
  · rw [if_neg c1]
    by_cases c2 : i < off + k
    · rw [if_pos c2, List.getElem?_append_left (by simp; omega), List.getElem?_append_right (by omega), h1, List.getElem?_take_of_lt (by omega)]
    · rw [if_neg c2, List.getElem?_append_right (by simp; omega), List.length_append, h1, h2, List.getElem?_drop]
      congr 1; omega
theorem run_copy_ab {P : Program} {w : World} {t t2 ty e : TypeId} {sz n sLen dLen dCap : Nat} {p : Option Addr} {x : Value} {news : List Value} (ht : P.underlying t = some (.slice e)) (hsz : tySize P e = some sz)
    (hl : (Builtin.lenOf x).run P w = .ok sLen w) (hn : n = Nat.min sLen dLen) (hf : (Builtin.firstCells sz n x).run P w = .ok news.toArray w) :
    (Builtin.copy_ #[t, t2] ty #[.slice p dLen dCap, x]).run P w = (match p with
      | some A => (storeCells A news).run P w
      | none => .ok () w).andThen fun _ w' => .ok (goInt n) w' := by
  subst hn
  cases p <;> simp [Builtin.copy_, run_underlying ht, run_sizeOf hsz, hl, hf]
theorem ok_copy {E : Prg} {o : Oper} {c : Call} {t t2 e : TypeId} {sz : Nat} {x1 x2 : Operand} {y1 y2 : Opd} (ho : o.op = .call c) (hc : c.callee = .builtin .copy) (hargs : c.args = #[x1, x2]) (hty : c.argTypes = #[t, t2]) (ht' : E.P.underlying t = some (.slice e))
    (hsz : tySize E.P e = some sz) (h1 : copd x1 = some y1) (h2 : copd x2 = some y2) : OpOk E o (.copy sz y1 y2) := by
  intro C G st a w d objs' hr hv
  simp only [rval] at hv
  have r1 := hr.ev h1
  have r2 := hr.ev h2
  generalize hu : a.eval x1 = u at r1
  generalize hu2 : a.eval x2 = u2 at r2
  have hex : ∀ v w', (Builtin.copy_ #[t, t2] o.type #[u, u2]).run E.P w = .ok v w' → (execOp a.eval o).run E.P w = .ok (.value v) w' := fun v w' h => by
    simp [execOp, ho, resolve, hc, hargs, hty, hu, hu2, invoke, builtin, h]
  split at hv
  rotate_left
  · cases hv
  rename_i ob off n s2 new e1 e2
  rw [e1] at r1
  split at hv
  rotate_left
  · cases hv
  rename_i s rows hob
  split at hv
  rotate_left
  · cases hv
  rename_i hcond
  obtain ⟨hfit, hs, hss⟩ := hcond
  subst hs
  simp only [Option.some.injEq, Prod.mk.injEq] at hv
  obtain ⟨rfl, rfl⟩ := hv
  obtain ⟨hok, cs, hcs⟩ := src_cells hr r2 e2 hss
  obtain ⟨p, hp, hl⟩ := hr.heap.live ob _ hob
  have hpsz : p.sz = s := hl.psz
  have hfits : rows.length ≤ p.cap := hl.fits
  have hobl : ob < st.objs.length := (List.getElem?_eq_some_iff.1 hob).1
  generalize hk : min new.length n = k
  have hkn : k ≤ new.length := by omega
  have hkn2 : off + k ≤ rows.length := by omega
  cases r1 with
  | own _ _ _ q A c2 hq hcap hfit2 hA =>
    obtain rfl : q = p := sj (hq.symm.trans hp)
    have hf := hcs.run k hkn w (fun _ _ h => h)
    have hrun := run_copy_ab (P := E.P) (w := w) (t2 := t2) (ty := o.type) (p := A) (dLen := n) (dCap := c2) ht' hsz (hcs.lenOf w) (n := k) hk.symm hf
    have hint : ∀ G0 : Gh, Rel G0 (.int .i64 (k : Nat)) (goInt k) := fun G0 => .int _ _
    by_cases hk0 : k = 0
    · subst hk0
      have hst0 : st.objs.set ob (some (.arr s (rows.take off ++ new.take 0 ++ rows.drop (off + 0)))) = st.objs := by
        simp only [List.take_zero, List.append_nil, Nat.add_zero, List.take_append_drop]
        apply List.ext_getElem?
        intro i
        rw [getElem?_set]
        split
        · rename_i h; subst h; first | (rw [if_pos hobl, hob]; done) | exact hob.symm
        · rfl
      refine ⟨_, _, w, G, hex _ w (by rw [hrun]; cases A <;> simp [storeCells]), .inl rfl, ?_, hint G⟩
      simp only [hst0]
      exact hr
    · have hn0 : 0 < n := by omega
      obtain rfl := hA (by omega)
      have hcl : (cs.take (k * s)).length = k * s := by
        rw [List.length_take, hcs.len]
        have : k * s ≤ new.length * s := Nat.mul_le_mul_right _ hkn
        omega
      have hcap2 : (off + k) * s ≤ q.cap * s := Nat.mul_le_mul_right _ (by omega)
      rw [Nat.add_mul] at hcap2
      have hin : ∀ m, m < (cs.take (k * s)).length → off * s + m < q.cap * q.sz := fun m hm => by
        rw [hcl] at hm; rw [hpsz]; omega
      have hone : ∀ u, u ∈ cs.take (k * s) → u.oneCell' = true := fun u h => hcs.one u (List.mem_of_mem_take h)
      have hst := run_storeCells_cells (P := E.P) q.block (q.off + off * s) (cs.take (k * s)) 0 w
        (fun m hm => by
          obtain ⟨v, hv, _⟩ := hl.there trivial _ (hin m hm)
          have : (⟨q.block, q.off + off * s + 0 + m, none⟩ : Addr) = q.cellAt (off * s + m) := by simp [Place.cellAt]; omega
          rw [this, hv]; rfl)
        (fun m hm => by
          obtain ⟨v, _, _, hv⟩ := hl.there trivial _ (hin m hm)
          have : (⟨q.block, q.off + off * s + 0 + m, none⟩ : Addr) = q.cellAt (off * s + m) := by simp [Place.cellAt]; omega
          rw [this, hv]) hone
      have hw := Wrote.setCells q.block (cs.take (k * s)) (q.off + off * s) w
      rw [Nat.add_zero] at hst
      have hins := World.cell?_setCells_in q.block (cs.take (k * s)) (q.off + off * s) w (fun m hm => by
          obtain ⟨v, hv, _⟩ := hl.there trivial _ (hin m hm)
          have : (⟨q.block, q.off + off * s + m, none⟩ : Addr) = q.cellAt (off * s + m) := by simp [Place.cellAt]; omega
          rw [this, hv]; rfl)
      have hins' : ∀ m (hm : m < (cs.take (k * s)).length), (w.setCells q.block (q.off + off * s) (cs.take (k * s))).cell? (q.cellAt (off * s + m)) = some (cs.take (k * s))[m] := fun m hm => by
        have : (⟨q.block, q.off + off * s + m, none⟩ : Addr) = q.cellAt (off * s + m) := by simp [Place.cellAt]; omega
        rw [← this]; exact hins m hm
      have houts : ∀ m, (m < off * s ∨ off * s + k * s ≤ m) → (w.setCells q.block (q.off + off * s) (cs.take (k * s))).cell? (q.cellAt m) = w.cell? (q.cellAt m) := fun m hm => by
        refine hw.cell _ (fun hx => ?_)
        obtain ⟨_, _, h1, h2⟩ := hx
        simp only [hcl] at h2
        simp [Place.cellAt] at h1 h2
        omega
      have hlive : LiveAt G (w.setCells q.block (q.off + off * s) (cs.take (k * s))) q (.arr s (rows.take off ++ new.take k ++ rows.drop (off + k))) := by
        refine ⟨hpsz, by simp [Ob.rows]; omega, fun row hrow => ?_, fun _ m hm => ?_, fun i' j' row c' v hi' hj' hv' => ?_, fun h0 => hw.mko _ (hl.mko h0), fun es he => by cases he⟩
        · obtain ⟨i, hi⟩ := List.getElem?_of_mem hrow
          simp only [Ob.rows] at hi
          rw [splice_get _ _ _ _ _ hkn2 hkn] at hi
          split at hi
          · exact hl.size row (List.mem_of_getElem? hi)
          · split at hi
            · rw [hpsz]; exact hok row (List.mem_of_getElem? hi)
            · exact hl.size row (List.mem_of_getElem? hi)
        · obtain ⟨v, hv, hv1, hv2⟩ := hl.there trivial m hm
          by_cases hR : off * s ≤ m ∧ m < off * s + k * s
          · have := hins' (m - off * s) (by omega)
            rw [show off * s + (m - off * s) = m by omega] at this
            exact ⟨_, this, hone _ (List.getElem_mem _), by rw [hw.frz]; exact hv2⟩
          · exact ⟨v, by rw [houts m (by omega)]; exact hv, hv1, by rw [hw.frz]; exact hv2⟩
        · simp only [Ob.rows] at hi'
          rw [splice_get _ _ _ _ _ hkn2 hkn] at hi'
          have old : rows[i']? = some row → (i' < off ∨ off + k ≤ i') → Rel G c' v := fun hi2 hlt => by
            have h3 := hl.size row (List.mem_of_getElem? hi2)
            have h4 : j' < row.length := (List.getElem?_eq_some_iff.1 hj').1
            have hcase : i' * q.sz + j' < off * s ∨ off * s + k * s ≤ i' * q.sz + j' := by
              rw [hpsz] at h3 ⊢
              rcases hlt with h5 | h5
              · left
                have : (i' + 1) * s ≤ off * s := Nat.mul_le_mul_right _ h5
                rw [Nat.add_mul] at this; omega
              · right
                have : (off + k) * s ≤ i' * s := Nat.mul_le_mul_right _ h5
                rw [Nat.add_mul] at this; omega
            rw [houts _ hcase] at hv'
            exact hl.holds i' j' row c' v hi2 hj' hv'
          by_cases c1 : i' < off
          · rw [if_pos c1] at hi'; exact old hi' (.inl c1)
          · rw [if_neg c1] at hi'
            by_cases c2' : i' < off + k
            · rw [if_pos c2'] at hi'
              obtain ⟨u, hu, hur⟩ := hcs.rel _ j' row c' hi' hj'
              have h3 := hok row (List.mem_of_getElem? hi')
              have h4 : j' < row.length := (List.getElem?_eq_some_iff.1 hj').1
              have h6 : (i' - off + 1) * s ≤ k * s := Nat.mul_le_mul_right _ (by omega)
              rw [Nat.add_mul] at h6
              have hlt2 : (i' - off) * s + j' < (cs.take (k * s)).length := by rw [hcl]; omega
              have := hins' _ hlt2
              have e : off * s + ((i' - off) * s + j') = i' * q.sz + j' := by
                rw [hpsz, ← Nat.add_assoc, ← Nat.add_mul]; congr 2; omega
              rw [e, hv'] at this
              have h5 : (cs.take (k * s))[(i' - off) * s + j'] = u := by
                rw [List.getElem_take]; exact (List.getElem?_eq_some_iff.1 hu).2
              rw [h5] at this
              obtain rfl := sj this
              exact hur
            · rw [if_neg c2'] at hi'; exact old hi' (.inr (by omega))
      have hwr := hr.write hob hp hw (fun x hx => by
        obtain ⟨hx1, hx2, hx3, hx4⟩ := hx
        rw [hcl] at hx4
        refine ⟨x.off - q.off, ?_, ?_⟩
        · have := hin (x.off - (q.off + off * s)) (by rw [hcl]; omega); omega
        · obtain ⟨xb, xo, xs⟩ := x
          simp at hx1 hx2 hx3 hx4 ⊢
          subst hx1 hx2
          simp [Place.cellAt]; omega) hlive
      have hbase : (q.cellAt (off * q.sz)) = ⟨q.block, q.off + off * s, none⟩ := by rw [hpsz]; rfl
      refine ⟨_, _, _, G, hex _ (w.setCells q.block (q.off + off * s) (cs.take (k * s))) (by rw [hrun]; simp only [hbase, hst, Result.andThen_ok]), .inl rfl, hwr, hint G⟩
theorem ok_mkIfc {E : Prg} {o : Oper} {t : TypeId} {x : Operand} {y : Opd} {k : TypeDesc} (ho : o.op = .makeInterface t x) (ht : E.P.underlying t = some k) (hk : ∀ ms, k ≠ .interface ms) (hx : copd x = some y) : OpOk E o (.mkIfc t y) := by
  refine OpOk.quiet fun C G st a w d objs' hr hv => ?_
  simp only [rval] at hv
  have r1 := hr.ev hx
  generalize hu : a.eval x = u at r1
  have hrun : (execOp a.eval o).run E.P w = .ok (.value (.iface t u)) w := by
    cases k <;> first | exact absurd rfl (hk _) | simp [execOp, ho, hu, Instr.makeInterface, run_underlying ht]
  split at hv
  · rename_i cs e1
    obtain ⟨rfl, rfl⟩ := Prod.mk.inj (sj hv)
    rw [e1] at r1
    cases r1 with
    | agg _ vs h1 h2 => exact ⟨rfl, _, hrun, .ifa t cs vs h1 h2⟩
  · obtain ⟨rfl, rfl⟩ := Prod.mk.inj (sj hv)
    exact ⟨rfl, _, hrun, .ifc t _ u r1⟩
theorem ok_asrt {E : Prg} {o : Oper} {xt t : TypeId} {x : Operand} {y : Opd} {k : TypeDesc} (ho : o.op = .typeAssert x xt t false) (ht : E.P.underlying t = some k) (hk : ∀ ms, k ≠ .interface ms) (hx : copd x = some y) : OpOk E o (.asrt t y) := by
  refine OpOk.quiet fun C G st a w d objs' hr hv => ?_
  simp only [rval] at hv
  have r1 := hr.ev hx
  generalize hu : a.eval x = u at r1
  have hrun : ∀ v, u = .iface t v → (execOp a.eval o).run E.P w = .ok (.value v) w := fun v h => by
    subst h
    cases k <;> first | exact absurd rfl (hk _) | simp [execOp, ho, hu, Instr.typeAssert, run_underlying ht]
  split at hv
  · rename_i t' d' e1
    split at hv
    · rename_i htt
      subst htt
      obtain ⟨rfl, rfl⟩ := Prod.mk.inj (sj hv)
      rw [e1] at r1
      cases r1 with
      | ifc _ _ v h1 => exact ⟨rfl, _, hrun v rfl, h1⟩
    · cases hv
  · rename_i t' cs e1
    split at hv
    · rename_i htt
      subst htt
      obtain ⟨rfl, rfl⟩ := Prod.mk.inj (sj hv)
      rw [e1] at r1
      cases r1 with
      | ifa _ _ vs h1 h2 => exact ⟨rfl, _, hrun _ rfl, .agg cs vs h1 h2⟩
    · cases hv
  · cases hv
def goKinds (P : Program) : List Field → Nat → Option (List CK)
  | [], _ => some []
  | f :: fs, off => if f.name ≠ "_" ∧ f.offset = off then (match P.underlying f.type with
    | some (.int _) => (goKinds P fs (off + 1)).map (.i :: ·)
    | some .bool => (goKinds P fs (off + 1)).map (.b :: ·)
    | _ => none) else none
def flatKinds (P : Program) (t : TypeId) : Option (List CK) := match P.underlying t with
  | some (.struct fs) => if P.stoodInHeld t = false ∧ P.eqGuardType P.depth t = false then goKinds P fs.toList 0 else none
  | _ => none
theorem rel_at {G : Gh} {xs : Array Value} {off : Nat} {d : DV} {v : Value} (h : Rel G d (xs.getD off undef)) (hv : ∀ u, Rel G d u → u = v) (hn : v ≠ undef) : xs[off]? = some v := by
  have := hv _ h
  rw [Array.getD_eq_getD_getElem?] at this
  cases hx : xs[off]? with
  | none => rw [hx] at this; exact absurd this.symm hn
  | some u => rw [hx] at this; simp at this; rw [this]
theorem eqFields_flat {P : Program} {G : Gh} {w : World} (d : Nat) (xs ys : Array Value) : ∀ (fs : List Field) (off : Nat) (ks : List CK) (cs ds : List DV) (r : Bool), goKinds P fs off = some ks → eqCells ks cs ds = some r →
    (∀ (i : Nat) c, cs[i]? = some c → Rel G c (xs.getD (off + i) undef)) → (∀ (i : Nat) c, ds[i]? = some c → Rel G c (ys.getD (off + i) undef)) → (Op.eqFields (d + 1) xs ys fs).run P w = .ok r w := by
  intro fs
  induction fs with
  | nil =>
    intro off ks cs ds r hk he _ _
    obtain rfl := sj hk
    match cs, ds, he with
    | [], [], he => obtain rfl := sj he; simp [Op.eqFields]
  | cons f fs ih =>
    intro off ks cs ds r hk he hc hd
    simp only [goKinds] at hk
    split at hk
    rotate_left
    · cases hk
    rename_i hn
    obtain ⟨hn, ho⟩ := hn
    split at hk
    · rename_i kk hu
      obtain ⟨ks', hk', rfl⟩ := Option.map_eq_some_iff.1 hk
      match cs, ds, he with
      | .int k a :: cs, .int k' b :: ds, he =>
        simp only [eqCells] at he
        split at he
        rotate_left
        · cases he
        rename_i hkk
        subst hkk
        obtain ⟨r', hr', rfl⟩ := Option.map_eq_some_iff.1 he
        have ha := rel_at (hc 0 _ rfl) (v := .int k a) (fun u hu => by cases hu; rfl) (by simp [undef])
        have hb := rel_at (hd 0 _ rfl) (v := .int k b) (fun u hu => by cases hu; rfl) (by simp [undef])
        have hp : P.plainKey f.type = true := by unfold Program.plainKey; rw [hu]
        have p1 := run_part_plain (w := w) hp ha
        have p2 := run_part_plain (w := w) hp hb
        have p3 := run_equalIn_int (P := P) w d f.type k kk a b hu
        have hrec := ih (off + 1) ks' cs ds r' hk' hr' (fun i c h => by have := hc (i + 1) c (by simpa using h); rwa [show off + 1 + i = off + (i + 1) by omega]) (fun i c h => by have := hd (i + 1) c (by simpa using h); rwa [show off + 1 + i = off + (i + 1) by omega])
        subst ho
        simp only [Op.eqFields, hn, ne_eq, not_false_eq_true, if_true, Sem.run_bind, Nat.add_zero] at p1 p2 ⊢
        simp only [p1, p2, p3, Result.andThen_ok]
        by_cases hab : a = b
        · subst hab; simp [hrec]
        · simp [hab]
    · rename_i hu
      obtain ⟨ks', hk', rfl⟩ := Option.map_eq_some_iff.1 hk
      match cs, ds, he with
      | .bool a :: cs, .bool b :: ds, he =>
        simp only [eqCells] at he
        obtain ⟨r', hr', rfl⟩ := Option.map_eq_some_iff.1 he
        have ha := rel_at (hc 0 _ rfl) (v := .bool a) (fun u hu => by cases hu; rfl) (by simp [undef])
        have hb := rel_at (hd 0 _ rfl) (v := .bool b) (fun u hu => by cases hu; rfl) (by simp [undef])
        have hp : P.plainKey f.type = true := by unfold Program.plainKey; rw [hu]
        have p1 := run_part_plain (w := w) hp ha
        have p2 := run_part_plain (w := w) hp hb
        have p3 := run_equalIn_bool (P := P) w d f.type a b hu
        have hrec := ih (off + 1) ks' cs ds r' hk' hr' (fun i c h => by have := hc (i + 1) c (by simpa using h); rwa [show off + 1 + i = off + (i + 1) by omega]) (fun i c h => by have := hd (i + 1) c (by simpa using h); rwa [show off + 1 + i = off + (i + 1) by omega])
        subst ho
        simp only [Op.eqFields, hn, ne_eq, not_false_eq_true, if_true, Sem.run_bind, Nat.add_zero] at p1 p2 ⊢
        simp only [p1, p2, p3, Result.andThen_ok]
        by_cases hab : a = b
        · subst hab; simp [hrec]
        · simp [hab]
    · cases hk
theorem ok_eqS {E : Prg} {o : Oper} {neg : Bool} {t t' : TypeId} {ks : List CK} {x1 x2 : Operand} {y1 y2 : Opd} (ho : o.op = .binOp (if neg then .neq else .eql) t x1 x2 t') (ht : flatKinds E.P t = some ks)
    (h1 : copd x1 = some y1) (h2 : copd x2 = some y2) : OpOk E o (.eqS neg ks y1 y2) := by
  refine OpOk.quiet fun C G st a w d objs' hr hv => ?_
  simp only [rval] at hv
  have r1 := hr.ev h1
  have r2 := hr.ev h2
  split at hv
  · rename_i cs ds e1 e2
    rw [e1] at r1; rw [e2] at r2
    generalize hu : a.eval x1 = u at r1
    generalize hu' : a.eval x2 = u' at r2
    cases r1 with
    | agg _ xs hx1 hx2 =>
      cases r2 with
      | agg _ ys hy1 hy2 =>
        obtain ⟨b, hb, he⟩ := Option.map_eq_some_iff.1 hv
        obtain ⟨rfl, rfl⟩ := Prod.mk.inj he
        unfold flatKinds at ht
        split at ht
        · rename_i fs hfs
          split at ht
          · rename_i hc
            have hF : E.P.fieldsOf t = fs := by simp [Program.fieldsOf, hfs]
            have heq : (Op.equal t (.agg xs) (.agg ys)).run E.P w = .ok b w := by
              have := run_equalIn_struct (P := E.P) w 9999 t xs ys (by rw [hF]; exact hfs) hc.1
              exact this.trans (by rw [hF]; exact eqFields_flat 9998 xs ys fs.toList 0 ks cs ds b ht hb (fun i c h => by rw [Nat.zero_add]; exact hx2 i c h) (fun i c h => by rw [Nat.zero_add]; exact hy2 i c h))
            have hg : ∀ op, (eqGuard op t x1 x2 (.agg xs) (.agg ys)).run E.P w = .ok () w := fun op => run_eqGuard_agg w op t x1 x2 xs ys hc.2
            refine ⟨rfl, .bool (if neg then !b else b), ?_, .bool _⟩
            cases neg
            · simp only [Bool.false_eq_true, if_false] at ho ⊢
              have : binOp .eql t (.agg xs) (.agg ys) = (do pure (.bool (← Op.equal t (.agg xs) (.agg ys)))) := rfl
              simp [execOp, ho, hu, hu', hg, this, heq]
            · simp only [if_true] at ho ⊢
              have : binOp .neq t (.agg xs) (.agg ys) = (do pure (.bool (!(← Op.equal t (.agg xs) (.agg ys))))) := rfl
              simp [execOp, ho, hu, hu', hg, this, heq]
          · cases ht
        · cases ht
  · cases hv
section
open Go.RowKit Go.MapKept
theorem beq_bytes (a b : List UInt8) : ((⟨a.toArray⟩ : ByteArray) == ⟨b.toArray⟩) = (a == b) := by
  rw [Bool.eq_iff_iff, bytes_beq]
  simp
def keyT (P : Program) (t : TypeId) : Option (Option IntKind) :=
  match P.underlying t with
  | some .string => some none
  | some (.int k) => some (some k)
  | _ => none
def keyD : Option IntKind → TypeDesc
  | none => .string
  | some k => .int k
theorem keyD_or (kd : Option IntKind) : keyD kd = .string ∨ ∃ k, keyD kd = .int k := by
  cases kd with
  | none => exact .inl rfl
  | some k => exact .inr ⟨k, rfl⟩
theorem keyT_eq {P : Program} {t : TypeId} {kd : Option IntKind} (h : keyT P t = some kd) : P.underlying t = some (keyD kd) := by
  unfold keyT at h
  split at h
  · rename_i hu; obtain rfl := sj h; exact hu
  · rename_i k hu; obtain rfl := sj h; exact hu
  · cases h
theorem keyIs_now {G : Gh} {kd : Option IntKind} {k : DV} {u : Value} (h : keyIs kd k = true) (r : Rel G k u) : (Instr.sameNow (keyD kd) u u).isSome = true := by
  unfold keyIs at h
  split at h
  · cases r; rfl
  · cases r; simp [keyD, Instr.sameNow]
  · cases h
theorem keq_eq {x y : DV} (h : keq x y = some true) : x = y := by
  unfold keq at h
  split at h
  · simpa using h
  · split at h
    · rename_i e; subst e; simpa using h
    · cases h
  · cases h
theorem keyIs_bits {G : Gh} {kd : Option IntKind} {k : DV} {u v : Value} (h : keyIs kd k = true) (r : Rel G k u) (r2 : Rel G k v) : Instr.sameBits 10000 v u = true := by
  unfold keyIs at h
  split at h
  · cases r; cases r2; simp [Instr.sameBits, beq_bytes]
  · cases r; cases r2; simp [Instr.sameBits]
  · cases h
theorem run_check {P : Program} {w : World} {kt : TypeId} {kd : Option IntKind} {v : Value} (h : keyT P kt = some kd) (e : Bool) : (Instr.checkKey e 10000 kt v).run P w = .ok () w := by
  have hu := keyT_eq h
  have hd := keyD_or kd
  generalize keyD kd = d at *
  show (Instr.checkKey e (9999 + 1) kt v).run P w = _
  unfold Instr.checkKey
  simp only [Sem.run_bind, run_underlying hu, Result.andThen]
  rcases hd with rfl | ⟨k, rfl⟩ <;> rfl
theorem keq_now {G : Gh} {d : TypeDesc} (hd : d = .string ∨ ∃ k, d = .int k) {x y : DV} {u v : Value} {b : Bool} (hx : Rel G x u) (hy : Rel G y v) (h : keq x y = some b) (hu : (Instr.sameNow d u u).isSome = true) : Instr.sameNow d u v = some b := by
  unfold keq at h
  split at h
  · obtain rfl := sj h
    cases hx; cases hy
    rcases hd with rfl | ⟨k, rfl⟩
    · simp only [Instr.sameNow, beq_bytes]
    · simp [Instr.sameNow] at hu
  · split at h
    · rename_i k a k' b' e
      subst e
      obtain rfl := sj h
      cases hx; cases hy
      rcases hd with rfl | ⟨k, rfl⟩
      · simp [Instr.sameNow] at hu
      · simp [Instr.sameNow]
    · cases h
  · cases h
def EntsAt (G : Gh) (l : List MapEntry) (i : Nat) (es : List (DV × DV)) : Prop := l.length = es.length ∧ ∀ (j : Nat) k d, es[j]? = some (k, d) → ∃ e, l[j]? = some e ∧ e.born = i + j ∧ Rel G k e.key ∧ Rel G d e.val
theorem EntsAt.cons {G : Gh} {l : List MapEntry} {i : Nat} {k d : DV} {es : List (DV × DV)} (h : EntsAt G l i ((k, d) :: es)) : ∃ e l', l = e :: l' ∧ e.born = i ∧ Rel G k e.key ∧ Rel G d e.val ∧ EntsAt G l' (i + 1) es := by
  obtain ⟨h1, h2⟩ := h
  cases l with
  | nil => simp at h1
  | cons e l' =>
    obtain ⟨e', g1, g2, g3, g4⟩ := h2 0 k d rfl
    obtain rfl : e = e' := by simpa using g1
    refine ⟨e, l', rfl, by simpa using g2, g3, g4, by simpa using h1, fun j k' d' hj => ?_⟩
    obtain ⟨e'', a1, a2, a3, a4⟩ := h2 (j + 1) k' d' (by simpa using hj)
    exact ⟨e'', by simpa using a1, by omega, a3, a4⟩
theorem find_now {G : Gh} {d : TypeDesc} (hd : d = .string ∨ ∃ k, d = .int k) {k : DV} {u : Value} (hx : Rel G k u) (hu : (Instr.sameNow d u u).isSome = true) :
    ∀ {es : List (DV × DV)} {l : List MapEntry} {i n : Nat} {r : Option DV}, EntsAt G l i es → mfind k es = some r →
      (r = none ∧ Instr.findNow d u l n = some none) ∨ ∃ x j e, r = some x ∧ Instr.findNow d u l n = some (some (n + j, e.val)) ∧ l[j]? = some e ∧ Rel G x e.val
  | [], l, i, n, r, h, hr => by
    obtain rfl := sj hr
    obtain rfl : l = [] := List.length_eq_zero_iff.1 h.1
    exact .inl ⟨rfl, rfl⟩
  | (k', x) :: es, l, i, n, r, h, hr => by
    obtain ⟨e, l', rfl, _, g3, g4, h'⟩ := h.cons
    simp only [mfind] at hr
    split at hr
    · rename_i hk
      obtain rfl := sj hr
      exact .inr ⟨x, 0, e, rfl, by simp [Instr.findNow, keq_now hd hx g3 hk hu], rfl, g4⟩
    · rename_i hk
      rcases find_now hd hx hu (n := n + 1) h' hr with ⟨rfl, h2⟩ | ⟨y, j, e', rfl, h2, h3, h4⟩
      · exact .inl ⟨rfl, by simp [Instr.findNow, keq_now hd hx g3 hk hu, h2]⟩
      · exact .inr ⟨y, j + 1, e', rfl, by simp [Instr.findNow, keq_now hd hx g3 hk hu, h2]; omega, by simpa using h3, h4⟩
    · cases hr
theorem ins_now {G : Gh} {d : TypeDesc} (hd : d = .string ∨ ∃ k, d = .int k) {k x : DV} {u v : Value} (hx : Rel G k u) (hv : Rel G x v) (hu : (Instr.sameNow d u u).isSome = true) :
    ∀ {es es' : List (DV × DV)} {l : List MapEntry} {i n : Nat}, EntsAt G l i es → mins k x es = some es' →
      (Instr.findNow d u l n = some none ∧ EntsAt G (l ++ [{ key := u, val := v, born := i + l.length }]) i es') ∨ ∃ j e, Instr.findNow d u l n = some (some (n + j, e.val)) ∧ l[j]? = some e ∧ Rel G k e.key ∧ EntsAt G (l.set j { e with key := u, val := v }) i es'
  | [], es', l, i, n, h, hr => by
    obtain rfl := sj hr
    obtain rfl : l = [] := List.length_eq_zero_iff.1 h.1
    refine .inl ⟨rfl, rfl, fun j k' d' hj => ?_⟩
    rcases j with _ | j
    · obtain ⟨rfl, rfl⟩ := Prod.mk.inj (sj hj)
      exact ⟨_, rfl, rfl, hx, hv⟩
    · simp at hj
  | (k', y) :: es, es', l, i, n, h, hr => by
    obtain ⟨e, l', rfl, hb, g3, g4, h'⟩ := h.cons
    simp only [mins] at hr
    split at hr
    · rename_i hk
      obtain rfl := sj hr
      have hs := keq_now hd hx g3 hk hu
      refine .inr ⟨0, e, by simp [Instr.findNow, hs], rfl, ?_, by simp; exact h'.1, fun j k2 d2 hj => ?_⟩
      · rw [keq_eq hk]; exact g3
      · rcases j with _ | j
        · obtain ⟨rfl, rfl⟩ := Prod.mk.inj (sj hj)
          exact ⟨_, rfl, by simpa using hb, hx, hv⟩
        · obtain ⟨e2, a1, a2, a3, a4⟩ := h'.2 j k2 d2 (by simpa using hj)
          exact ⟨e2, by simpa using a1, by omega, a3, a4⟩
    · rename_i hk
      obtain ⟨es2, h2, rfl⟩ := Option.map_eq_some_iff.1 hr
      have hs := keq_now hd hx g3 hk hu
      have hcons : ∀ {l2 : List MapEntry}, EntsAt G l2 (i + 1) es2 → EntsAt G (e :: l2) i ((k', y) :: es2) := fun {l2} h5 => by
        refine ⟨by simp [h5.1], fun j k2 d2 hj => ?_⟩
        rcases j with _ | j
        · obtain ⟨rfl, rfl⟩ := Prod.mk.inj (sj hj)
          exact ⟨e, rfl, by simpa using hb, g3, g4⟩
        · obtain ⟨e2, a1, a2, a3, a4⟩ := h5.2 j k2 d2 (by simpa using hj)
          exact ⟨e2, by simpa using a1, by omega, a3, a4⟩
      rcases ins_now hd hx hv hu (n := n + 1) h' h2 with ⟨h3, h4⟩ | ⟨j, e', h3, h4, h5, h6⟩
      · refine .inl ⟨by simp [Instr.findNow, hs, h3], ?_⟩
        have := hcons h4
        rw [show i + 1 + l'.length = i + (e :: l').length by simp; omega] at this
        exact this
      · exact .inr ⟨j + 1, e', by simp [Instr.findNow, hs, h3]; omega, by simpa using h4, h5, hcons h6⟩
    · cases hr
theorem MapAt.ents' {G : Gh} {w : World} {p : Place} {es : List (DV × DV)} (h : MapAt G w p es) : ∃ a : Array MapEntry, w.heap[p.block]? = some (.map a a.size) ∧ EntsAt G a.toList 0 es := by
  obtain ⟨a, h1, h2, h3⟩ := h.ents
  refine ⟨a, h1, by simpa using h2, fun j k d hj => ?_⟩
  obtain ⟨e, g1, g2, g3, g4⟩ := h3 j k d hj
  exact ⟨e, by rw [Array.getElem?_toList]; exact g1, by omega, g3, g4⟩
theorem MapAt.mk' {G : Gh} {w : World} {p : Place} {es : List (DV × DV)} (h1 : p.off = 0) (h2 : p.cap = 1) {a : Array MapEntry} (h3 : w.heap[p.block]? = some (.map a a.size)) (h4 : EntsAt G a.toList 0 es) : MapAt G w p es := by
  refine ⟨h1, h2, a, h3, by simpa using h4.1, fun i k d hi => ?_⟩
  obtain ⟨e, g1, g2, g3, g4⟩ := h4.2 i k d hi
  exact ⟨e, by rw [Array.getElem?_toList] at g1; exact g1, by omega, g3, g4⟩
theorem mgetV_rel {G : Gh} {ok : Bool} {z : DV} : ∀ {r : Option DV} {v : Value}, Rel G (r.getD z) v → Rel G (mgetV ok z r) (if ok then .tuple #[v, .bool r.isSome] else v) := by
  intro r v h
  unfold mgetV
  cases ok with
  | false => exact h
  | true =>
    refine .tup _ _ rfl fun i c hc => ?_
    rcases i with _ | _ | i
    · obtain rfl := sj hc; exact h
    · obtain rfl := sj hc; exact .bool _
    · simp at hc
def setMapW (w : World) (b : Nat) (a : Array MapEntry) : World := { w with heap := w.heap.setIfInBounds b (.map a a.size) }
theorem setMap_wrote {w : World} {b : Nat} {a0 a : Array MapEntry} {c : Nat} (hb : w.heap[b]? = some (.map a0 c)) : Wrote w (setMapW w b a) (fun x => x = ⟨b, 0, none⟩) := by
  have hlt : b < w.heap.size := (Array.getElem?_eq_some_iff.1 hb).1
  have hself : (setMapW w b a).heap[b]? = some (.map a a.size) := by simp [setMapW, hlt]
  have hne : ∀ b', b' ≠ b → (setMapW w b a).heap[b']? = w.heap[b']? := fun b' h => by simp [setMapW, Ne.symm h]
  refine ⟨rfl, rfl, rfl, by simp [setMapW], fun b' h => hne b' fun e => h 0 (by rw [e]), fun x _ => ?_, fun x => ?_, fun b' h => ?_⟩
  · unfold World.cell?
    by_cases e : x.block = b
    · rw [e, hself, hb]
    · rw [hne _ e]
  · unfold World.frozen?
    by_cases e : x.block = b
    · rw [e, hself, hb]
    · rw [hne _ e]
  · by_cases e : b' = b
    · subst e; intro cs T fr h1; rw [hself] at h1; cases h1
    · exact h.of_eq (hne _ e)
theorem RelG.setMap {E : Prg} {C : Ctx} {G : Gh} {st : St} {a : Act} {w : World} (h : RelG E C G st a w) {o : Nat} {es es' : List (DV × DV)} {p : Place} {ar : Array MapEntry} (ho : st.objs[o]? = some (some (.map es))) (hp : G.pl o = some p) (hl : LiveAt G w p (.map es)) (he : EntsAt G ar.toList 0 es') :
    RelG E C G { st with objs := st.objs.set o (some (.map es')) } a (setMapW w p.block ar) := by
  have hm := hl.mp es rfl
  obtain ⟨a0, h1, _⟩ := hm.ents
  have hw := setMap_wrote (a := ar) h1
  have hsz : p.sz = 1 := hl.psz
  refine h.write ho hp hw (fun x hx => ⟨0, by rw [hm.cap, hsz]; decide, by rw [hx]; simp [Place.cellAt, hm.off]⟩) ⟨hl.psz, hl.fits, fun row hr => by simp [Ob.rows] at hr, fun hx => hx.elim, fun i j row c v hi => by simp [Ob.rows] at hi, fun h0 => hw.mko _ (hl.mko h0), fun es2 e2 => ?_⟩
  cases e2
  have hlt : p.block < w.heap.size := (Array.getElem?_eq_some_iff.1 h1).1
  exact MapAt.mk' hm.off hm.cap (by simp [setMapW, hlt]) he
theorem RelG.newMap {E : Prg} {C : Ctx} {G : Gh} {st : St} {a : Act} {w : World} (h : RelG E C G st a w) : RelG E C (G.more st.objs.length ⟨w.heap.size, 0, 1, 1⟩) { st with objs := st.objs ++ [some (.map [])] } a (w.alloc (.map #[] 0)) := by
  refine h.newO (.map #[] 0) (.map []) 1 1 ⟨rfl, by simp [Ob.rows], fun row hr => by simp [Ob.rows] at hr, fun hx => hx.elim, fun i j row c v hi => by simp [Ob.rows] at hi, fun _ cs T fr h1 => ?_, fun es2 e2 => ?_⟩
  · simp [World.alloc, -World.alloc_eq] at h1
  · cases e2
    exact MapAt.mk' rfl rfl (a := #[]) (by simp [World.alloc, -World.alloc_eq]) ⟨rfl, fun j k d hj => by simp at hj⟩
theorem ok_mget {E : Prg} {o : Oper} {t kt et : TypeId} {m k : Operand} {ok : Bool} {ym yk : Opd} {kd : Option IntKind} {z : DV} (ho : o.op = .lookup t m k ok) (ht : E.P.underlying t = some (.map kt et)) (hk : keyT E.P kt = some kd)
    (hz : ∀ G w, ∃ v, (zeroValue et).run E.P w = .ok v w ∧ Rel G z v) (hm : copd m = some ym) (hx : copd k = some yk) : OpOk E o (.mget kd ok z ym yk) := by
  refine OpOk.quiet fun C G st a w d objs' hr hv => ?_
  simp only [rval] at hv
  have r1 := hr.ev hm
  have r2 := hr.ev hx
  generalize hu : a.eval m = u at r1
  generalize hu2 : a.eval k = u2 at r2
  split at hv
  · rename_i ob e1
    rw [e1] at r1
    split at hv
    · rename_i es hob
      split at hv
      · rename_i hki
        obtain ⟨r, hf, he⟩ := Option.map_eq_some_iff.1 hv
        obtain ⟨rfl, rfl⟩ := Prod.mk.inj he
        obtain ⟨p, hp, hl⟩ := hr.heap.live ob _ hob
        cases r1 with
        | mp _ q hq =>
          obtain rfl : q = p := sj (hq.symm.trans hp)
          obtain ⟨ar, h1, h2⟩ := (hl.mp es rfl).ents'
          obtain ⟨zv, hzv, hzr⟩ := hz G w
          have hfind := fun {x} (h : Instr.findNow (keyD kd) u2 ar.toList 0 = some x) => run_findKey (P := E.P) (w := w) (keyT_eq hk) h
          rcases find_now (keyD_or kd) r2 (keyIs_now hki r2) (n := 0) h2 hf with ⟨rfl, h3⟩ | ⟨x, j, e, rfl, h3, h4, h5⟩
          · refine ⟨rfl, if ok then .tuple #[zv, .bool false] else zv, ?_, ?_⟩
            · simp only [execOp, ho, hu, hu2, Instr.lookup, Sem.run_bind, run_underlying ht, Result.andThen_ok, MapKept.run_getObj_map h1, run_check hk, hfind h3, hzv, Sem.run_pure]
            · exact mgetV_rel hzr
          · refine ⟨rfl, if ok then .tuple #[e.val, .bool true] else e.val, ?_, ?_⟩
            · simp only [execOp, ho, hu, hu2, Instr.lookup, Sem.run_bind, run_underlying ht, Result.andThen_ok, MapKept.run_getObj_map h1, run_check hk, hfind h3, Sem.run_pure]
            · exact mgetV_rel (r := some x) h5
      · cases hv
    · cases hv
  · cases hv
theorem ok_mkmap {E : Prg} {o : Oper} {t : TypeId} (ho : o.op = .makeMap t none) : OpOk E o .mkmap := by
  intro C G st a w d objs' hr hv
  simp only [rval] at hv
  obtain ⟨rfl, rfl⟩ := Prod.mk.inj (sj hv)
  refine ⟨.value (.map (some w.heap.size)), _, w.alloc (.map #[] 0), _, by simp [execOp, ho, run_makeMap], .inl rfl, hr.newMap, ?_⟩
  exact .mp _ ⟨w.heap.size, 0, 1, 1⟩ (if_pos rfl)
theorem ok_mset {E : Prg} {o : Oper} {t kt et : TypeId} {m k x : Operand} {ym yk yx : Opd} {kd : Option IntKind} (ho : o.op = .mapUpdate t m k x ∨ o.op = .insert t m k x) (ht : E.P.underlying t = some (.map kt et)) (hk : keyT E.P kt = some kd)
    (hm : copd m = some ym) (hx : copd k = some yk) (hy : copd x = some yx) : OpOk E o (.mset kd ym yk yx) := by
  intro C G st a w d objs' hr hv
  simp only [rval] at hv
  have r1 := hr.ev hm
  have r2 := hr.ev hx
  have r3 := hr.ev hy
  generalize hu : a.eval m = u at r1
  generalize hu2 : a.eval k = u2 at r2
  generalize hu3 : a.eval x = u3 at r3
  split at hv
  · rename_i ob e1
    rw [e1] at r1
    split at hv
    · rename_i es hob
      split at hv
      · rename_i hki
        obtain ⟨es', hf, he⟩ := Option.map_eq_some_iff.1 hv
        obtain ⟨rfl, rfl⟩ := Prod.mk.inj he
        obtain ⟨p, hp, hl⟩ := hr.heap.live ob _ hob
        cases r1 with
        | mp _ q hq =>
          obtain rfl : q = p := sj (hq.symm.trans hp)
          have hma := hl.mp es rfl
          obtain ⟨ar, h1, h2⟩ := hma.ents'
          have hfind := fun {x} (h : Instr.findNow (keyD kd) u2 ar.toList 0 = some x) => run_findKey (P := E.P) (w := w) (keyT_eq hk) h
          have hrun : ∀ a2 : Array MapEntry, (Instr.mapUpdate t (.map (some q.block)) u2 u3).run E.P w = .ok () (setMapW w q.block a2) → (execOp a.eval o).run E.P w = .ok .skip (setMapW w q.block a2) := fun a2 h => by
            rcases ho with ho | ho <;> simp [execOp, ho, hu, hu2, hu3, h]
          rcases ins_now (keyD_or kd) r2 r3 (keyIs_now hki r2) (n := 0) h2 hf with ⟨h3, h4⟩ | ⟨j, e, h3, h4, h5, h6⟩
          · refine ⟨.skip, undef, _, G, hrun (ar.push { key := u2, val := u3, born := ar.size }) ?_, .inr ⟨rfl, rfl⟩, hr.setMap hob hp hl ?_, .undef _⟩
            · simp only [Instr.mapUpdate, Sem.run_bind, run_underlying ht, Result.andThen_ok, MapKept.run_getObj_map h1, run_check hk, hfind h3, MapKept.run_setObj_map _ h1, setMapW]
              simp
            · rw [Array.toList_push]; simpa using h4
          · refine ⟨.skip, undef, _, G, hrun (ar.modify j fun e => { e with key := u2, val := u3 }) ?_, .inr ⟨rfl, rfl⟩, hr.setMap hob hp hl ?_, .undef _⟩
            · have hj : ar[j]? = some e := by rw [← Array.getElem?_toList]; exact h4
              have hks : ∀ w, (Instr.keyThatStays e.key u2).run E.P w = .ok u2 w := fun w => by simp [Instr.keyThatStays, keyIs_bits hki r2 h5]
              simp only [Instr.mapUpdate, Sem.run_bind, run_underlying ht, Result.andThen_ok, MapKept.run_getObj_map h1, run_check hk, hfind h3, Nat.zero_add, hj, Option.map_some, Option.getD_some, hks, MapKept.run_setObj_map _ h1, setMapW]
              simp
            · have : (ar.modify j fun e => { e with key := u2, val := u3 }).toList = ar.toList.set j { e with key := u2, val := u3 } := by
                refine List.ext_getElem? fun i => ?_
                rw [Array.getElem?_toList, Array.getElem?_modify, List.getElem?_set, Array.getElem?_toList]
                split
                · rename_i hij
                  subst hij
                  rw [Array.getElem?_toList] at h4
                  rw [h4, if_pos (by simpa using (Array.getElem?_eq_some_iff.1 h4).1)]; rfl
                · rfl
              rw [this]; exact h6
      · cases hv
    · cases hv
  · cases hv
def zeroDV (P : Program) (t : TypeId) : Option DV := ((P.info? t).bind (·.zero)).bind dvOf
theorem run_zeroDV {P : Program} {t : TypeId} {z : DV} (h : zeroDV P t = some z) (G : Gh) (w : World) : ∃ v, (zeroValue t).run P w = .ok v w ∧ Rel G z v := by
  obtain ⟨v, hv, h2⟩ := Option.bind_eq_some_iff.1 h
  obtain ⟨i, hi, h3⟩ := Option.bind_eq_some_iff.1 hv
  exact ⟨v, by simp [zeroValue, typeInfo, hi, h3], dvOf_rel h2⟩
def umap (P : Program) (t : TypeId) : Option (TypeId × TypeId) := match P.underlying t with | some (.map k e) => some (k, e) | _ => none
theorem umap_eq {P : Program} {t k e : TypeId} (h : umap P t = some (k, e)) : P.underlying t = some (.map k e) := by
  unfold umap at h; split at h
  · rename_i he; obtain ⟨rfl, rfl⟩ := Prod.mk.inj (sj h); exact he
  · cases h
end
end Go.Proofs.YtdimdjcnkmkbjaaDoor
