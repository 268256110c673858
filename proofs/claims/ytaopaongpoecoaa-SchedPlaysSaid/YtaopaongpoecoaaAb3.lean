/- Operations with sizes and offsets told, what they do to abstract states, and how they come of the program's operations. -/
import Derived.Test.YtaopaongpoecoaaAb2
set_option linter.unusedVariables false
set_option linter.unusedSimpArgs false
namespace Go.Proofs.Ytaopaongpoecoaa
open Go.RowKit

inductive Opd where
  | t (n : Nat)
  | c (d : DV)
  | g (n : Nat)
  deriving Inhabited

def Opd.ev (E : Prg) (st : St) : Opd → DV
  | .t n => st.get n
  | .c d => d
  | .g n => match E.GT n with
    | some row => .rp row 0
    | none => .undef

/-- The conversions. -/
inductive Cv where
  | i2i (k : IntKind)
  | b2s | s2b | s2s | lit
  deriving DecidableEq, Inhabited

/-- The kinds of a struct's cells that may be compared. -/
inductive CK where
  | i | b
  deriving DecidableEq, Inhabited

inductive ROp where
  | mov (x : Opd)
  | pick (c a b : Opd)
  | box (sz : Nat) (x : Opd)
  | alloc (zero : List DV)
  | build (zero : List DV) (parts : List (Nat × Nat × Opd))
  | mkrow (sz : Nat) (zero : List DV) (len : Nat) (parts : List (Nat × Opd))
  | load (ag : Bool) (sz : Nat) (x : Opd)
  | store (sz : Nat) (p x : Opd)
  | nilck (x : Opd)
  | bin (op : BinOp) (x y : Opd)
  | eqB (neg : Bool) (x y : Opd)
  | eqNil (neg : Bool) (x y : Opd)
  | eqP (neg : Bool) (x y : Opd)
  | eqS (neg : Bool) (ks : List CK) (x y : Opd)
  | un (op : UnOp) (x : Opd)
  | conv (k : Cv) (x : Opd)
  | slice (sz : Nat) (x : Opd) (lo hi mx : Option Opd)
  | sliceS (x : Opd) (lo hi : Option Opd)
  | faddr (off : Nat) (x : Opd)
  | fld (ag : Bool) (off sz : Nat) (x : Opd)
  | iaddr (sz : Nat) (x i : Opd)
  | iaddrA (len sz : Nat) (x i : Opd)
  | idxS (x i : Opd)
  | ext (x : Opd) (i : Nat)
  | len (x : Opd)
  | lenS (x : Opd)
  | append (sz bytes : Nat) (x y : Opd)
  | copy (sz : Nat) (x y : Opd)
  | mm (isMax : Bool) (x y : Opd)
  | mkslice (sz bytes : Nat) (zero : List DV) (n c : Opd)
  | call (f : Nat) (l : List Opd)
  | calld (y : Opd) (l : List Opd)
  | mkfn (f : FuncId) (l : List Opd)
  | mkIfc (t : TypeId) (x : Opd)
  | asrt (t : TypeId) (x : Opd)
  | inv (x : Opd) (name : String) (l : List Opd)
  deriving Inhabited

/-- The cells of a value that may be a variable's. -/
def DV.one : DV → Bool
  | .int .. | .bool .. | .str .. | .sl .. | .own .. | .ptr .. | .rp .. => true
  | .lit v => v.oneCell'
  | _ => false
def DV.cells : DV → Option (List DV)
  | .agg cs => some cs
  | d => if d.one then some [d] else none

def rowAt (ag : Bool) (sz : Nat) (row : List DV) (j : Nat) : Option DV :=
  if ag then (if j + sz ≤ row.length then some (.agg ((row.drop j).take sz)) else none) else row[j]?
/-- A row with cells written into it. -/
def rowSet (row : List DV) (j : Nat) (cs : List DV) : List DV := row.take j ++ cs ++ row.drop (j + cs.length)
def Ob.setRow (ob : Ob) (i : Nat) (row : List DV) : Ob :=
  match ob with
  | .box _ => .box row
  | .arr sz rows => .arr sz (rows.set i row)

def shiftOf (op : BinOp) (k : IntKind) (a b : Int) : Option DV :=
  match op with
  | .shl => if b < 0 then none else some (.int k (k.wrap (a * 2 ^ (min b.toNat k.bits))))
  | .shr => if b < 0 then none else some (.int k (a.fdiv (2 ^ (min b.toNat k.bits))))
  | _ => none
def binOf (op : BinOp) (k : IntKind) (a b : Int) : Option DV :=
  match op with
  | .add => some (.int k (k.wrap (a + b)))
  | .sub => some (.int k (k.wrap (a - b)))
  | .mul => some (.int k (k.wrap (a * b)))
  | .quo => if b = 0 then none else some (.int k (k.wrap (a.tdiv b)))
  | .rem => if b = 0 then none else some (.int k (a.tmod b))
  | .and => some (.int k (k.wrap (BitVec.ofInt k.bits a &&& BitVec.ofInt k.bits b).toNat))
  | .or => some (.int k (k.wrap (BitVec.ofInt k.bits a ||| BitVec.ofInt k.bits b).toNat))
  | .xor => some (.int k (k.wrap (BitVec.ofInt k.bits a ^^^ BitVec.ofInt k.bits b).toNat))
  | .andNot => some (.int k (k.wrap (BitVec.ofInt k.bits a &&& ~~~ BitVec.ofInt k.bits b).toNat))
  | .eql => some (.bool (decide (a = b)))
  | .neq => some (.bool (!decide (a = b)))
  | .lss => some (.bool (decide (a < b)))
  | .leq => some (.bool (decide (a ≤ b)))
  | .gtr => some (.bool (decide (b < a)))
  | .geq => some (.bool (decide (b ≤ a)))
  | _ => none
def strOf (op : BinOp) (a b : List UInt8) : Option DV :=
  match op with
  | .add => if a.length + b.length ≤ 4611686018427387904 then some (.str (a ++ b)) else none
  | .eql => some (.bool (a == b))
  | .neq => some (.bool (!(a == b)))
  | .lss => some (.bool (Op.bytesLess a b))
  | .leq => some (.bool (Op.bytesLess a b || a == b))
  | .gtr => some (.bool (!(Op.bytesLess a b || a == b)))
  | .geq => some (.bool (!Op.bytesLess a b))
  | _ => none
def unOf (op : UnOp) (x : DV) : Option DV :=
  match op, x with
  | .neg, .int k n => some (.int k (k.wrap (0 - n)))
  | .xor, .int k n => some (.int k (k.wrap (BitVec.ofInt k.bits (if k.signed then -1 else k.max) ^^^ BitVec.ofInt k.bits n).toNat))
  | .not, .bool b => some (.bool (!b))
  | _, _ => none

/-- The bytes of rows that are bytes. -/
def rowsBytes : List (List DV) → Option (List UInt8)
  | [] => some []
  | [.int .u8 n] :: l => (rowsBytes l).map (UInt8.ofNat n.toNat :: ·)
  | _ :: _ => none
def bytesRows (l : List UInt8) : List (List DV) := l.map fun b => [.int .u8 b.toNat]

/-- The rows of a slice (of a string, as bytes), and how many cells each has. -/
def rowsOf (st : St) : DV → Option (Nat × List (List DV))
  | .sl sz rows _ => some (sz, rows)
  | .own o off n => match st.objs[o]? with
    | some (some (.arr sz rows)) => if off + n ≤ rows.length then some (sz, (rows.drop off).take n) else none
    | _ => none
  | .str s => some (1, bytesRows s)
  | _ => none

def natOf (st : St) (E : Prg) (dflt : Nat) : Option Opd → Option Nat
  | none => some dflt
  | some x => match x.ev E st with
    | .int _ n => if 0 ≤ n then some n.toNat else none
    | _ => none

def eqCells : List CK → List DV → List DV → Option Bool
  | [], [], [] => some true
  | .i :: ks, .int k a :: x, .int k' b :: y => if k = k' then (eqCells ks x y).map (decide (a = b) && ·) else none
  | .b :: ks, .bool a :: x, .bool b :: y => (eqCells ks x y).map (decide (a = b) && ·)
  | _, _, _ => none

def SK.cut (k : SK) (zero : Bool) : SK := if zero then (if k = .nil then .nil else .zero) else (if k = .zero then .zero else k)

/-- Is a pointer nil? (That it's compared with nil.) -/
def nilP : DV → DV → Option Bool
  | .ptr .., .lit (.pointer none) => some false
  | .rp .., .lit (.pointer none) => some false
  | .lit (.pointer none), .lit (.pointer none) => some true
  | _, _ => none
/-- What an operation comes to: a value, and the objects behind it. -/
def rval (E : Prg) (st : St) : ROp → Option (DV × Objs)
  | .mov x => some (x.ev E st, st.objs)
  | .pick c a b => match c.ev E st with
    | .bool t => some (if t then a.ev E st else b.ev E st, st.objs)
    | _ => none
  | .box sz x => match (x.ev E st).cells with
    | some cs => if cs.length = sz ∧ cs.all DV.one = true then some (.ptr st.objs.length 0 0, st.objs ++ [some (.box cs)]) else none
    | none => none
  | .alloc zero => some (.ptr st.objs.length 0 0, st.objs ++ [some (.box zero)])
  | .build zero parts => (parts.foldl (fun (acc : Option (List DV)) x => match acc, (x.2.2.ev E st).cells with
      | some cs, some new => if new.length = x.2.1 ∧ x.1 + new.length ≤ cs.length then some (rowSet cs x.1 new) else none
      | _, _ => none) (some zero)).map fun cs => (.agg cs, st.objs)
  | .mkrow sz zero len parts => (parts.foldl (fun (acc : Option (List (List DV))) x => match acc, (x.2.ev E st).cells with
      | some rows, some new => if new.length = sz ∧ x.1 < rows.length ∧ new.all DV.one = true then some (rows.set x.1 new) else none
      | _, _ => none) (some (List.replicate len zero))).map fun rows => (.own st.objs.length 0 len, st.objs ++ [some (.arr sz rows)])
  | .load ag sz x => match x.ev E st with
    | .ptr o i j => match st.objs[o]? with
      | some (some ob) => match ob.rows[i]? with
        | some row => (rowAt ag sz row j).map (·, st.objs)
        | none => none
      | _ => none
    | .rp row j => (rowAt ag sz row j).map (·, st.objs)
    | _ => none
  | .store sz p x => match p.ev E st, (x.ev E st).cells with
    | .ptr o i j, some cs => match st.objs[o]? with
      | some (some ob) => match ob.rows[i]? with
        | some row => if cs.length = sz ∧ cs.all DV.one = true ∧ j + sz ≤ row.length then some (.undef, st.objs.set o (some (ob.setRow i (rowSet row j cs)))) else none
        | none => none
      | _ => none
    | _, _ => none
  | .nilck x => match x.ev E st with
    | .ptr o i j => some (.ptr o i j, st.objs)
    | .rp row j => some (.rp row j, st.objs)
    | _ => none
  | .bin op x y => match x.ev E st, y.ev E st with
    | .int k a, .int k' b => (match op with
      | .shl => shiftOf .shl k a b
      | .shr => shiftOf .shr k a b
      | op => if k = k' then binOf op k a b else none).map (·, st.objs)
    | .str a, .str b => (strOf op a b).map (·, st.objs)
    | _, _ => none
  | .eqB neg x y => match x.ev E st, y.ev E st with
    | .bool a, .bool b => some (.bool (if neg then !decide (a = b) else decide (a = b)), st.objs)
    | _, _ => none
  | .eqNil neg x y => match x.ev E st, y.ev E st with
    | .sl _ _ k, .sl _ _ .nil => (match k with
      | .nil => some true
      | .nonnil => some false
      | _ => none).map fun b => (.bool (if neg then !b else b), st.objs)
    | _, _ => none
  | .eqP neg x y => (nilP (x.ev E st) (y.ev E st)).map fun b => (.bool (if neg then !b else b), st.objs)
  | .eqS neg ks x y => match x.ev E st, y.ev E st with
    | .agg a, .agg b => (eqCells ks a b).map fun e => (.bool (if neg then !e else e), st.objs)
    | _, _ => none
  | .un op x => (unOf op (x.ev E st)).map (·, st.objs)
  | .conv k x => match k, x.ev E st with
    | .i2i k, .int _ n => some (.int k (k.wrap n), st.objs)
    | .b2s, .str _ => none
    | .b2s, d => match rowsOf st d with
      | some (sz, rows) => if sz = 1 ∨ rows = [] then (rowsBytes rows).map fun s => (.str s, st.objs) else none
      | none => none
    | .s2b, .str s => if s.length ≤ 4611686018427387904 then some (.own st.objs.length 0 s.length, st.objs ++ [some (.arr 1 (bytesRows s))]) else none
    | .s2s, .str s => some (.str s, st.objs)
    | .lit, .own o off n => match st.objs[o]? with
      | some (some (.arr sz rows)) => if 0 < n ∧ 0 < sz ∧ off + n ≤ rows.length then some (.own o off n, st.objs) else none
      | _ => none
    | _, _ => none
  | .slice sz x lo hi mx => match x.ev E st with
    | .sl s rows k => match natOf st E 0 lo, natOf st E rows.length hi with
      | some l, some h => if l ≤ h ∧ h ≤ rows.length ∧ (s = sz ∨ rows = []) then (match mx with
        | none => some (.sl s ((rows.drop l).take (h - l)) k, st.objs)
        | some m => match natOf st E 0 (some m) with
          | some m => if m = h then some (.sl s ((rows.drop l).take (h - l)) (if m = l then (if k = .nil then .nil else .zero) else (if k = .nil then .nil else .any)), st.objs) else none
          | none => none) else none
      | _, _ => none
    | .own o off n => match natOf st E 0 lo, natOf st E n hi, mx with
      | some l, some h, none => (match st.objs[o]? with
        | some (some (.arr s rows)) => if l ≤ h ∧ h ≤ n ∧ s = sz then some (.own o (off + l) (h - l), st.objs) else none
        | _ => none)
      | _, _, _ => none
    | _ => none
  | .sliceS x lo hi => match x.ev E st with
    | .str s => match natOf st E 0 lo, natOf st E s.length hi with
      | some l, some h => if l ≤ h ∧ h ≤ s.length then some (.str ((s.drop l).take (h - l)), st.objs) else none
      | _, _ => none
    | _ => none
  | .faddr off x => match x.ev E st with
    | .ptr o i j => some (.ptr o i (j + off), st.objs)
    | .rp row j => some (.rp row (j + off), st.objs)
    | _ => none
  | .fld ag off sz x => match x.ev E st with
    | .agg cs => (rowAt ag sz cs off).map (·, st.objs)
    | _ => none
  | .iaddr sz x i => match x.ev E st, i.ev E st with
    | .sl s rows _, .int _ n => if 0 ≤ n ∧ n < (rows.length : Int) ∧ s = sz then (match rows[n.toNat]? with
        | some row => some (.rp row 0, st.objs)
        | none => none) else none
    | .own o off m, .int _ n => if 0 ≤ n ∧ n < (m : Int) then (match st.objs[o]? with
        | some (some (.arr s _)) => if s = sz then some (.ptr o (off + n.toNat) 0, st.objs) else none
        | _ => none) else none
    | _, _ => none
  | .iaddrA len sz x i => match x.ev E st, i.ev E st with
    | .ptr o r j, .int _ n => if 0 ≤ n ∧ n < (len : Int) then some (.ptr o r (j + n.toNat * sz), st.objs) else none
    | .rp row j, .int _ n => if 0 ≤ n ∧ n < (len : Int) then some (.rp row (j + n.toNat * sz), st.objs) else none
    | _, _ => none
  | .idxS x i => match x.ev E st, i.ev E st with
    | .str s, .int _ n => if 0 ≤ n then (match s[n.toNat]? with
        | some b => some (.int .u8 b.toNat, st.objs)
        | none => none) else none
    | _, _ => none
  | .ext x i => match x.ev E st with
    | .tup cs => match cs[i]? with
      | some d => some (d, st.objs)
      | none => none
    | _ => none
  | .len x => match x.ev E st with
    | .sl _ rows _ => some (.int .i64 rows.length, st.objs)
    | .own _ _ n => some (.int .i64 n, st.objs)
    | _ => none
  | .lenS x => match x.ev E st with
    | .str s => some (.int .i64 s.length, st.objs)
    | _ => none
  | .append sz bytes x y => match x.ev E st, rowsOf st (y.ev E st) with
    | .sl _ [] k, some (s2, new) => if (k = .nil ∨ k = .zero) ∧ (s2 = sz ∨ new = []) ∧ new.length * bytes ≤ 140737488355328 ∧ new.length ≤ 4611686018427387904 then
        some (.own st.objs.length 0 new.length, st.objs ++ [some (.arr sz new)]) else none
    | .own o off n, some (s2, new) => match st.objs[o]? with
      | some (some (.arr s rows)) => if off + n = rows.length ∧ s = sz ∧ (s2 = sz ∨ new = []) ∧ (n + new.length) * bytes ≤ 140737488355328 ∧ n + new.length ≤ 4611686018427387904 then
          some (.own st.objs.length 0 (n + new.length), st.objs.set o none ++ [some (.arr sz (rows.drop off ++ new))]) else none
      | _ => none
    | _, _ => none
  | .copy sz x y => match x.ev E st, rowsOf st (y.ev E st) with
    | .own o off n, some (s2, new) => match st.objs[o]? with
      | some (some (.arr s rows)) => if off + n ≤ rows.length ∧ s = sz ∧ (s2 = sz ∨ new = []) then
          some (.int .i64 (min new.length n : Nat), st.objs.set o (some (.arr sz (rows.take off ++ new.take (min new.length n) ++ rows.drop (off + min new.length n))))) else none
      | _ => none
    | _, _ => none
  | .mm isMax x y => match x.ev E st, y.ev E st with
    | .int k a, .int _ b => some (.int k (if isMax then max a b else min a b), st.objs)
    | _, _ => none
  | .mkslice sz bytes zero n c => match n.ev E st, c.ev E st with
    | .int _ n, .int _ c => if 0 ≤ n ∧ n ≤ c ∧ c * bytes ≤ 140737488355328 ∧ c ≤ 4611686018427387904 ∧ zero.length = sz then
        some (.own st.objs.length 0 n.toNat, st.objs ++ [some (.arr sz (List.replicate n.toNat zero))]) else none
    | _, _ => none
  | .call .. => none
  | .calld .. => none
  | .inv .. => none
  | .mkfn f l => some (.wrap (.clo f) (l.map (Opd.ev E st)), st.objs)
  | .mkIfc t x => match x.ev E st with
    | .agg cs => some (.wrap (.ifa t) cs, st.objs)
    | d => some (.wrap (.ifc t) [d], st.objs)
  | .asrt t x => match x.ev E st with
    | .wrap (.ifc t') [d] => if t' = t then some (d, st.objs) else none
    | .wrap (.ifa t') cs => if t' = t then some (.agg cs, st.objs) else none
    | _ => none

end Go.Proofs.Ytaopaongpoecoaa
