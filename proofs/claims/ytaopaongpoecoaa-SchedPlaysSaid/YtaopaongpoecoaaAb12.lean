/- Code with its sizes told; what it does to abstract states (wp); that the program does just that. -/
import Derived.Test.YtaopaongpoecoaaAb11
set_option linter.unusedVariables false
set_option linter.unusedSimpArgs false
namespace Go.Proofs.Ytaopaongpoecoaa
open Go.RowKit

structure ROper where
  dst : Option Nat
  op : ROp
  guard : Option (Nat × Bool)
  fz : Bool

/-- The orders of a region's operations: which are alike, which are to be shown each. -/
inductive OT where
  | done
  | fin (o : ROper)
  | op (o : ROper) (k : OT)
  | take (o : ROper) (ps : List Opd) (k : OT)
  | alt (a b : OT)

inductive RC where
  | skip
  | reg (ops : List ROper) (lo : Nat) (keep : List Nat)
  | regD (t : OT) (lo : Nat) (keep : List Nat)
  | seq (a b : RC)
  | cond (c : Opd) (t e : RC)
  | blk (id : Nat) (b : RC)
  | loop (b : RC)
  | ext (id : Nat)
  | ret

/-! ### Out of the program's operations -/

def cParts (P : Program) (fs : Array Field) : List (Nat × Operand) → Option (List (Nat × Nat × Opd))
  | [] => some []
  | (i, x) :: l => match fs[i]?, copd x, cParts P fs l with
    | some f, some y, some l' => some ((f.offset, P.cellsOf f.type, y) :: l')
    | _, _, _ => none
def cParts2 : List (Nat × Operand) → Option (List (Nat × Opd))
  | [] => some []
  | (i, x) :: l => match copd x, cParts2 l with
    | some y, some l' => some ((i, y) :: l')
    | _, _ => none
def cArgs : List Operand → Option (List Opd)
  | [] => some []
  | x :: l => match copd x, cArgs l with
    | some y, some l' => some (y :: l')
    | _, _ => none
theorem cArgs_rel {E : Prg} {C : Ctx} {G : Gh} {st : St} {a : Act} {w : World} (hr : RelG E C G st a w) : ∀ {l : List Operand} {l' : List Opd}, cArgs l = some l' → l.length = l'.length ∧ ∀ (i : Nat) d, (l'.map (Opd.ev E st))[i]? = some d → Rel G d ((l.map a.eval).toArray.getD i undef)
  | [], l', h => by
    obtain rfl := Option.some.inj h
    exact ⟨rfl, by simp⟩
  | x :: l, l', h => by
    simp only [cArgs] at h
    split at h
    · rename_i y l2 h1 h2
      obtain rfl := Option.some.inj h
      obtain ⟨h3, h4⟩ := cArgs_rel hr h2
      refine ⟨by simp [h3], fun i d hd => ?_⟩
      rcases i with _ | i
      · simp at hd; subst hd
        rw [getD_toList _ 0 (a.eval x) (by simp)]
        exact hr.ev h1
      · have hd' : (l2.map (Opd.ev E st))[i]? = some d := by simpa using hd
        have := h4 i d hd'
        have hi : i < l.length := by rw [h3]; simpa using (List.getElem?_eq_some_iff.1 hd').1
        rw [getD_toList _ i (a.eval l[i]) (by simp [hi])] at this
        rw [getD_toList _ (i + 1) (a.eval l[i]) (by simp [hi])]
        exact this
    · cases h
def uslice (P : Program) (t : TypeId) : Option TypeId := match P.underlying t with | some (.slice e) => some e | _ => none
def isSlice (P : Program) (t : TypeId) : Bool := (uslice P t).isSome
def isStr (P : Program) (t : TypeId) : Bool := match P.underlying t with | some .string => true | _ => false
def isBool (P : Program) (t : TypeId) : Bool := match P.underlying t with | some .bool => true | _ => false
def isU8 (P : Program) (t : TypeId) : Bool := match P.underlying t with | some (.int .u8) => true | _ => false
def intOfT (P : Program) (t : TypeId) : Option IntKind := match P.underlying t with | some (.int k) => some k | _ => none
def ustruct (P : Program) (t : TypeId) : Option (Array Field) := match P.underlying t with | some (.struct fs) => some fs | _ => none
def uarray (P : Program) (t : TypeId) : Option (Nat × TypeId) := match P.underlying t with | some (.array n e) => some (n, e) | _ => none

def compBin (P : Program) (op : BinOp) (t : TypeId) (y1 y2 : Opd) : Option ROp :=
  match P.underlying t with
  | some (.int _) | some .string => some (.bin op y1 y2)
  | some .bool => (match op with | .eql => some (.eqB false y1 y2) | .neq => some (.eqB true y1 y2) | _ => none)
  | some (.slice _) => (match op with | .eql => some (.eqNil false y1 y2) | .neq => some (.eqNil true y1 y2) | _ => none)
  | some (.pointer _) => (match op with | .eql => some (.eqP false y1 y2) | .neq => some (.eqP true y1 y2) | _ => none)
  | some (.struct _) => (match flatKinds P t with
    | some ks => (match op with | .eql => some (.eqS false ks y1 y2) | .neq => some (.eqS true ks y1 y2) | _ => none)
    | none => none)
  | _ => none

def compConv (P : Program) (s d : TypeId) (y : Opd) : Option ROp :=
  match P.underlying s, P.underlying d with
  | some (.int _), some (.int k) => some (.conv (.i2i k) y)
  | some (.slice e), some .string => if isU8 P e then some (.conv .b2s y) else none
  | some .string, some (.slice e) => if isU8 P e then some (.conv .s2b y) else none
  | some .string, some .string => some (.conv .s2s y)
  | some (.slice _), some (.slice e) => if s = d ∧ isU8 P e then some (.conv .lit y) else none
  | _, _ => none

def isConc (P : Program) (t : TypeId) : Bool := match P.underlying t with
  | some (.interface _) => false
  | some _ => true
  | none => false
theorem isConc_ok {P : Program} {t : TypeId} (h : isConc P t = true) : ∃ k, P.underlying t = some k ∧ ∀ ms, k ≠ .interface ms := by
  unfold isConc at h
  split at h
  · cases h
  · rename_i k hn hk; exact ⟨k, hk, fun ms e => hn ms e⟩
  · cases h
def hasBody (P : Program) (f : FuncId) : Bool := match P.funcs[f]? with
  | some fn => fn.body.isSome && !(fn.name == "runtime.NumGoroutine")
  | none => false
def ROp.isCall : ROp → Bool
  | .call .. => true
  | .calld .. => true
  | .inv .. => true
  | _ => false

def compCall (P : Program) (c : Call) : Option ROp :=
  match c.callee with
  | .value (.func f) => if hasBody P f then (cArgs c.args.toList).map (.call f) else none
  | .value (.tmp t) => (cArgs c.args.toList).map (.calld (.t t))
  | .invoke x name => (match copd x with
    | some y => (cArgs c.args.toList).map (.inv y name)
    | none => none)
  | .builtin .len => (match c.args.toList, c.argTypes.toList with
    | [x], [t] => (match copd x with
      | some y => if isSlice P t then some (.len y) else if isStr P t then some (.lenS y) else none
      | none => none)
    | _, _ => none)
  | .builtin .append => (match c.args.toList, c.argTypes.toList with
    | [x1, x2], [t, t2] => (match copd x1, copd x2, uslice P t with
      | some y1, some y2, some e => (match tySize P e, tyBytes P e, tyZero P e with
        | some sz, some by_, some z => if z.length = sz ∧ (isSlice P t2 = true ∨ isStr P t2 = true) then some (.append sz by_ y1 y2) else none
        | _, _, _ => none)
      | _, _, _ => none)
    | _, _ => none)
  | .builtin .copy => (match c.args.toList, c.argTypes.toList with
    | [x1, x2], [t, t2] => (match copd x1, copd x2, uslice P t with
      | some y1, some y2, some e => (tySize P e).map fun sz => .copy sz y1 y2
      | _, _, _ => none)
    | _, _ => none)
  | .builtin .min => (match c.args.toList with
    | [x1, x2] => (match copd x1, copd x2 with
      | some y1, some y2 => some (.mm false y1 y2)
      | _, _ => none)
    | _ => none)
  | .builtin .max => (match c.args.toList with
    | [x1, x2] => (match copd x1, copd x2 with
      | some y1, some y2 => some (.mm true y1 y2)
      | _, _ => none)
    | _ => none)
  | _ => none

def compOp (P : Program) (o : Op) : Option ROp :=
  match o with
  | .move x => (copd x).map .mov
  | .assign x => (copd x).map .mov
  | .pick c a b => (match copd c, copd a, copd b with
    | some c, some a, some b => some (.pick c a b)
    | _, _, _ => none)
  | .alloc t => (tyZero P t).map .alloc
  | .box t x => (match tySize P t, copd x with
    | some sz, some y => some (.box sz y)
    | _, _ => none)
  | .build t parts => (match ustruct P t, tyZero P t with
    | some fs, some z => if fs.toList.all (fun f => (P.info? f.type).isSome) then (cParts P fs parts.toList).map (.build z) else none
    | _, _ => none)
  | .buildSlice t len parts => (match uslice P t with
    | some e => (match tySize P e, tyZero P e, cParts2 parts.toList with
      | some sz, some z, some ps => if z.length = sz ∧ len * sz ≤ 16777216 then some (.mkrow sz z len ps) else none
      | _, _, _ => none)
    | none => none)
  | .load t x => (match tyAgg P t, tySize P t, copd x with
    | some ag, some sz, some y => some (.load ag sz y)
    | _, _, _ => none)
  | .store t p x => (match tySize P t, copd p, copd x with
    | some sz, some y1, some y2 => some (.store sz y1 y2)
    | _, _, _ => none)
  | .nilCheck x => (copd x).map .nilck
  | .binOp op t x y _ => (match copd x, copd y with
    | some y1, some y2 => compBin P op t y1 y2
    | _, _ => none)
  | .unOp op _ x => (copd x).map (.un op)
  | .convert s d x => (match copd x with
    | some y => compConv P s d y
    | none => none)
  | .slice t x lo hi mx => (match copd x, copdO lo, copdO hi, copdO mx with
    | some y, some lo', some hi', some mx' => (match uslice P t with
      | some e => (match tySize P e with
        | some sz => if mx.isSome = true → hi.isSome = true then some (.slice sz y lo' hi' mx') else none
        | none => none)
      | none => if isStr P t = true ∧ mx.isNone = true then some (.sliceS y lo' hi') else none)
    | _, _, _, _ => none)
  | .fieldAddr t x f => (match ustruct P t, copd x with
    | some fs, some y => (match fs[f]? with
      | some fd => (match tySize P fd.type with
        | some n => if n = 0 then none else some (.faddr fd.offset y)
        | none => none)
      | none => none)
    | _, _ => none)
  | .field t x f => (match ustruct P t, copd x with
    | some fs, some y => (match fs[f]? with
      | some fd => (match tyAgg P fd.type, tySize P fd.type with
        | some ag, some n => some (.fld ag fd.offset n y)
        | _, _ => none)
      | none => none)
    | _, _ => none)
  | .indexAddr t x i => (match copd x, copd i with
    | some y1, some y2 => (match uslice P t with
      | some e => (tySize P e).map fun sz => .iaddr sz y1 y2
      | none => (match uarray P t with
        | some (len, e) => (tySize P e).map fun sz => .iaddrA len sz y1 y2
        | none => none))
    | _, _ => none)
  | .index t x i => (match copd x, copd i with
    | some y1, some y2 => if isStr P t then some (.idxS y1 y2) else none
    | _, _ => none)
  | .extract x i => (copd x).map fun y => .ext y i
  | .makeSlice t n c => (match copd n, copd c, uslice P t with
    | some y1, some y2, some e => (match tySize P e, tyBytes P e, tyZero P e with
      | some sz, some b, some z => some (.mkslice sz b z y1 y2)
      | _, _, _ => none)
    | _, _, _ => none)
  | .call c => compCall P c
  | .makeFunc (.func f) first captured => if first.size = 0 then (cArgs captured.toList).map (.mkfn f) else none
  | .makeInterface t x => if isConc P t then (copd x).map (.mkIfc t) else none
  | .typeAssert x _ t false => if isConc P t then (copd x).map (.asrt t) else none
  | _ => none

def dstOk (n : Nat) : Option Nat → Bool
  | some t => decide (t < n)
  | none => true
def compOper (P : Program) (n : Nat) (fz : List Nat) (ops : Array Oper) (o : Oper) : Option ROper :=
  match compOp P o.op with
  | some r => if dstOk n o.dst = true then
      (match o.guard with
      | none => some ⟨o.dst, r, none, (match o.dst with | some t => fz.contains t | none => false)⟩
      | some (j, want) => (match (ops[j]?).bind (·.dst) with
        | some t => some ⟨o.dst, r, some (t, want), (match o.dst with | some t => fz.contains t | none => false)⟩
        | none => none)) else none
  | none => none
def compOps (P : Program) (n : Nat) (fz : List Nat) (ops : Array Oper) : List Oper → Option (List ROper)
  | [] => some []
  | o :: l => match compOper P n fz ops o, compOps P n fz ops l with
    | some r, some l' => some (r :: l')
    | _, _ => none

/-! ### Which operations may be taken ahead -/
def Opd.tm : Opd → List Nat
  | .t n => [n]
  | _ => []
def optOpd : Option Opd → List Opd
  | some x => [x]
  | none => []
def ROp.opds : ROp → List Opd
  | .mov x | .box _ x | .load _ _ x | .nilck x | .un _ x | .conv _ x | .faddr _ x | .fld _ _ _ x | .ext x _ | .len x | .lenS x => [x]
  | .pick c a b => [c, a, b]
  | .alloc _ => []
  | .build _ parts => parts.map (·.2.2)
  | .mkrow _ _ _ parts => parts.map (·.2)
  | .store _ p x => [p, x]
  | .bin _ x y | .eqB _ x y | .eqNil _ x y | .eqP _ x y | .eqS _ _ x y | .iaddr _ x y | .iaddrA _ _ x y | .idxS x y | .append _ _ x y | .copy _ x y | .mm _ x y => [x, y]
  | .slice _ x lo hi mx => x :: (optOpd lo ++ optOpd hi ++ optOpd mx)
  | .sliceS x lo hi => x :: (optOpd lo ++ optOpd hi)
  | .mkslice _ _ _ n c => [n, c]
  | .call _ l => l
  | .calld y l => y :: l
  | .mkfn _ l => l
  | .mkIfc _ x | .asrt _ x => [x]
  | .inv x _ l => x :: l
def ROp.tms (op : ROp) : List Nat := op.opds.flatMap Opd.tm
/-- It turns no objects and makes none. -/
def ROp.quiet : ROp → Bool
  | .box .. | .alloc .. | .mkrow .. | .store .. | .append .. | .copy .. | .mkslice .. | .call .. | .calld .. | .inv .. | .conv .s2b _ | .conv .lit _ => false
  | _ => true
/-- It reads no objects. -/
def ROp.blind : ROp → Bool
  | .mov _ | .pick .. | .nilck _ | .bin .. | .eqB .. | .eqNil .. | .eqP .. | .eqS .. | .un .. | .build .. | .conv (.i2i _) _ | .conv .s2s _ | .sliceS .. | .faddr .. | .fld .. | .iaddrA .. | .idxS .. | .ext .. | .len _ | .lenS _ | .mm .. | .mkfn .. | .mkIfc .. | .asrt .. => true
  | _ => false
/-- Which object it writes. -/
def ROp.wr : ROp → List Opd
  | .store _ p _ => [p]
  | .append _ _ x _ => [x]
  | .copy _ x _ => [x]
  | _ => []
def ROper.looks (o : ROper) : List Nat := o.op.tms ++ (match o.guard with | some (t, _) => [t] | none => [])
def ROper.sets (o : ROper) : List Nat := match o.dst with | some d => [d] | none => []
def listApart (a b : List Nat) : Bool := a.all fun x => !b.contains x
/-- Neither looks at what the other sets, nor do they set the same. -/
def apartR (x y : ROper) : Bool := listApart x.sets (y.looks ++ y.sets) && listApart y.sets x.looks

/-- The operations that may come ahead of the i-th though it's ready. -/
def rivals (ops : Array Oper) (rl : List ROper) (listed : Array Bool) (i : Nat) : List ROper :=
  ((List.range ops.size).filter fun j => j != i && !listed.getD j true && !(match ops[j]? with
    | some o => o.after.any fun e => Region.binds .any e && e.on == i
    | none => true)).filterMap (rl[·]?)
/-- May it be taken first? Then: of which objects it must be clear. -/
def takeable (ops : Array Oper) (rl : List ROper) (listed : Array Bool) (i : Nat) : Option (ROper × List Opd) :=
  match rl[i]? with
  | some r =>
    let rv := rivals ops rl listed i
    if r.op.quiet && !r.fz && rv.all (fun y => apartR r y && !y.fz) then
      (if r.op.blind then some (r, []) else
        let ps := rv.flatMap fun y => y.op.wr
        if ps.all (fun p => rv.all fun y => listApart p.tm y.sets) then some (r, ps) else none)
    else none
  | none => none

def firstSome {α β : Type} (f : α → Option β) : List α → Option (α × β)
  | [] => none
  | x :: l => match f x with
    | some y => some (x, y)
    | none => firstSome f l
def altAll (g : Nat → Option OT) : List Nat → Option OT
  | [] => none
  | [i] => g i
  | i :: l => match g i, altAll g l with
    | some a, some b => some (.alt a b)
    | _, _ => none
/-- Which operations come ahead of the i-th. -/
def depsOf (ops : Array Oper) (i : Nat) : List Nat :=
  match ops[i]? with
  | some o => (o.after.toList.filter fun e => Region.binds .any e).map (·.on)
  | none => []
def addNew : List Nat → List Nat → List Nat
  | [], S => S
  | x :: l, S => if S.contains x then addNew l S else addNew l (x :: S)
def aheadOf (ops : Array Oper) : Nat → List Nat → List Nat
  | 0, S => S
  | n + 1, S => aheadOf ops n (addNew (S.flatMap (depsOf ops)) S)
/-- Does it come behind all others, in each order? -/
def endOk (ops : Array Oper) (e : Nat) : Bool := (List.range ops.size).all fun i => i == e || (aheadOf ops ops.size (depsOf ops e)).contains i
/-- The call that ends a region, in each order. -/
def endOf (ops : Array Oper) (rl : List ROper) : Option Nat :=
  match rl[ops.size - 1]? with
  | some r => if r.op.isCall && endOk ops (ops.size - 1) then some (ops.size - 1) else none
  | none => none
def compD (ops : Array Oper) (rl : List ROper) (en : Option Nat) : Nat → Array Bool → Option OT
  | 0, listed => match Region.ready .any ops listed with
    | [] => some .done
    | _ => none
  | fuel + 1, listed => match Region.ready .any ops listed with
    | [] => some .done
    | rs => match firstSome (takeable ops rl listed) rs with
      | some (i, r, ps) => (compD ops rl en fuel (listed.setIfInBounds i true)).map (.take r ps)
      | none => altAll (fun i => match rl[i]? with
        | some r => if en = some i then (match compD ops rl en fuel (listed.setIfInBounds i true) with
          | some .done => some (.fin r)
          | _ => none) else (compD ops rl en fuel (listed.setIfInBounds i true)).map (.op r)
        | none => none) rs

/-- What is kept of the temporaries behind a region; which are let go of as objects of one's own. -/
structure Ann where
  id : Nat
  lo : Nat
  keep : List Nat
  fz : List Nat
def annOf (ann : List Ann) (id : Nat) : Ann := (ann.find? fun a => a.id == id).getD ⟨id, 1000000, [], []⟩

def comp (P : Program) (n : Nat) (ann : List Ann) : Code → Option RC
  | .skip => some .skip
  | .region id ops draw => match compOps P n (annOf ann id).fz ops ops.toList with
    | some l => if draw then (if P.follows .mixedOrders = true then (compD ops l (endOf ops l) ops.size (Array.replicate ops.size false)).map fun t => .regD t (annOf ann id).lo (annOf ann id).keep else none)
      else some (.reg l (annOf ann id).lo (annOf ann id).keep)
    | none => none
  | .seq a b => match comp P n ann a, comp P n ann b with
    | some a', some b' => some (.seq a' b')
    | _, _ => none
  | .cond c a b => match copd c, comp P n ann a, comp P n ann b with
    | some y, some a', some b' => some (.cond y a' b')
    | _, _, _ => none
  | .block id b => (comp P n ann b).map (.blk id)
  | .loop b => (comp P n ann b).map .loop
  | .exit id => some (.ext id)
  | .ret => some .ret
  | _ => none

theorem compOper_inv {P : Program} {n : Nat} {fz : List Nat} {ops : Array Oper} {o : Oper} {r : ROper} (h : compOper P n fz ops o = some r) :
    compOp P o.op = some r.op ∧ r.dst = o.dst ∧ dstOk n o.dst = true ∧ ((r.guard = none ∧ o.guard = none) ∨ ∃ j t want, r.guard = some (t, want) ∧ o.guard = some (j, want) ∧ (ops[j]?).bind (·.dst) = some t) := by
  unfold compOper at h
  cases hop : compOp P o.op with
  | none => rw [hop] at h; cases h
  | some rop =>
    rw [hop] at h
    simp only at h
    by_cases hd : dstOk n o.dst = true
    · rw [if_pos hd] at h
      cases hg : o.guard with
      | none => rw [hg] at h; obtain rfl := Option.some.inj h; exact ⟨rfl, rfl, hd, .inl ⟨rfl, rfl⟩⟩
      | some x =>
        obtain ⟨j, want⟩ := x
        rw [hg] at h
        simp only at h
        cases hj : (ops[j]?).bind (·.dst) with
        | none => rw [hj] at h; cases h
        | some t => rw [hj] at h; obtain rfl := Option.some.inj h; exact ⟨rfl, rfl, hd, .inr ⟨j, t, want, rfl, rfl, hj⟩⟩
    · rw [if_neg hd] at h; cases h
theorem dstOk_lt {n : Nat} {d : Option Nat} (h : dstOk n d = true) : ∀ t, d = some t → t < n := fun t e => by subst e; exact of_decide_eq_true h
theorem compOps_get {P : Program} {n : Nat} {fz : List Nat} {ops : Array Oper} : ∀ {l : List Oper} {rl : List ROper}, compOps P n fz ops l = some rl → rl.length = l.length ∧ ∀ (i : Nat) o r, l[i]? = some o → rl[i]? = some r → compOper P n fz ops o = some r
  | [], rl, h => by obtain rfl := Option.some.inj h; simp
  | o :: l, rl, h => by
    simp only [compOps] at h
    split at h
    · rename_i r l' h1 h2
      obtain rfl := Option.some.inj h
      obtain ⟨h3, h4⟩ := compOps_get h2
      refine ⟨by simp [h3], fun i o' r' ho hr => ?_⟩
      rcases i with _ | i
      · simp at ho hr; subst ho hr; exact h1
      · exact h4 i o' r' (by simpa using ho) (by simpa using hr)
    · cases h

/-! ### Each operation's proof, chosen by what it is -/
theorem uslice_eq {P : Program} {t e : TypeId} (h : uslice P t = some e) : P.underlying t = some (.slice e) := by
  unfold uslice at h; split at h
  · rename_i e' he; obtain rfl := Option.some.inj h; exact he
  · cases h
theorem ustruct_eq {P : Program} {t : TypeId} {fs : Array Field} (h : ustruct P t = some fs) : P.underlying t = some (.struct fs) := by
  unfold ustruct at h; split at h
  · rename_i e' he; obtain rfl := Option.some.inj h; exact he
  · cases h
theorem uarray_eq {P : Program} {t e : TypeId} {n : Nat} (h : uarray P t = some (n, e)) : P.underlying t = some (.array n e) := by
  unfold uarray at h; split at h
  · rename_i he; obtain ⟨rfl, rfl⟩ := Prod.mk.inj (Option.some.inj h); exact he
  · cases h
theorem isStr_eq {P : Program} {t : TypeId} (h : isStr P t = true) : P.underlying t = some .string := by
  unfold isStr at h; split at h
  · assumption
  · cases h
theorem isU8_eq {P : Program} {t : TypeId} (h : isU8 P t = true) : P.underlying t = some (.int .u8) := by
  unfold isU8 at h; split at h
  · assumption
  · cases h
theorem isSlice_eq {P : Program} {t : TypeId} (h : isSlice P t = true) : ∃ e, P.underlying t = some (.slice e) := by
  obtain ⟨e, he⟩ := Option.isSome_iff_exists.1 h
  exact ⟨e, uslice_eq he⟩

theorem cParts_ok {P : Program} {fs : Array Field} : ∀ {l : List (Nat × Operand)} {l' : List (Nat × Nat × Opd)}, cParts P fs l = some l' → partsOk (fun i => (fs[i]?).map fun f => (f.offset, P.cellsOf f.type)) l l'
  | [], l', h => by obtain rfl := Option.some.inj h; trivial
  | (i, x) :: l, l', h => by
    simp only [cParts] at h
    split at h
    · rename_i f y l2 h1 h2 h3
      obtain rfl := Option.some.inj h
      exact ⟨by simp [h1], h2, cParts_ok h3⟩
    · cases h
theorem cParts2_ok : ∀ {l : List (Nat × Operand)} {l' : List (Nat × Opd)}, cParts2 l = some l' → partsOk2 l l'
  | [], l', h => by obtain rfl := Option.some.inj h; trivial
  | (i, x) :: l, l', h => by
    simp only [cParts2] at h
    split at h
    · rename_i y l2 h2 h3
      obtain rfl := Option.some.inj h
      exact ⟨rfl, h2, cParts2_ok h3⟩
    · cases h

theorem arr_of_toList {α : Type} {a : Array α} {l : List α} (h : a.toList = l) : a = l.toArray := by
  rw [← h]

theorem ok_mkfn {E : Prg} {o : Oper} {f : FuncId} {captured : Array Operand} {l : List Opd} (ho : o.op = .makeFunc (.func f) #[] captured) (hl : cArgs captured.toList = some l) : OpOk E o (.mkfn f l) := by
  refine OpOk.quiet fun C G st a w d objs' hr hv => ?_
  simp only [rval] at hv
  obtain ⟨rfl, rfl⟩ := Prod.mk.inj (Option.some.inj hv)
  obtain ⟨h1, h2⟩ := cArgs_rel hr hl
  refine ⟨rfl, .func (.func f) #[] (captured.map a.eval), by simp [execOp, ho, Instr.makeFunc], .clo f _ _ (by simp; simpa using h1) ?_⟩
  have : captured.map a.eval = (captured.toList.map a.eval).toArray := by apply Array.ext'; simp
  rw [this]; exact h2
theorem compCall_ok {E : Prg} {o : Oper} {c : Call} {r : ROp} (ho : o.op = .call c) (h : compCall E.P c = some r) : (∃ f l, r = .call f l ∧ c.callee = .value (.func f) ∧ cArgs c.args.toList = some l ∧ hasBody E.P f = true) ∨ (∃ t l, r = .calld (.t t) l ∧ c.callee = .value (.tmp t) ∧ cArgs c.args.toList = some l) ∨ (OpOk E o r ∧ r.isCall = false) ∨ (∃ x y name l, r = .inv y name l ∧ c.callee = .invoke x name ∧ copd x = some y ∧ cArgs c.args.toList = some l) := by
  unfold compCall at h
  split at h
  · rename_i f hc
    split at h
    · rename_i hb
      obtain ⟨l, hl, rfl⟩ := Option.map_eq_some_iff.1 h
      exact .inl ⟨f, l, rfl, hc, hl, hb⟩
    · cases h
  · rename_i t hc
    obtain ⟨l, hl, rfl⟩ := Option.map_eq_some_iff.1 h
    exact .inr (.inl ⟨t, l, rfl, hc, hl⟩)
  · rename_i x name hc
    split at h
    · rename_i y hy
      obtain ⟨l, hl, rfl⟩ := Option.map_eq_some_iff.1 h
      exact .inr (.inr (.inr ⟨x, y, name, l, rfl, hc, hy, hl⟩))
    · cases h
  · rename_i hc
    split at h
    · rename_i x t hx ht
      split at h
      · rename_i y hy
        split at h
        · rename_i hs
          obtain rfl := Option.some.inj h
          obtain ⟨e, he⟩ := isSlice_eq hs
          exact .inr (.inr (.inl ⟨ok_len ho hc (arr_of_toList hx) (arr_of_toList ht) he hy, rfl⟩))
        · split at h
          · rename_i hs
            obtain rfl := Option.some.inj h
            exact .inr (.inr (.inl ⟨ok_lenS ho hc (arr_of_toList hx) (arr_of_toList ht) (isStr_eq hs) hy, rfl⟩))
          · cases h
      · cases h
    · cases h
  · rename_i hc
    split at h
    · rename_i x1 x2 t t2 hx ht
      split at h
      · rename_i y1 y2 e h1 h2 he
        split at h
        · rename_i sz by_ z hsz hby hz
          split at h
          · rename_i hcond
            obtain rfl := Option.some.inj h
            exact .inr (.inr (.inl ⟨ok_append ho hc (arr_of_toList hx) (arr_of_toList ht) (uslice_eq he) (hcond.2.imp isSlice_eq isStr_eq) hsz hby hz hcond.1 h1 h2, rfl⟩))
          · cases h
        · cases h
      · cases h
    · cases h
  · rename_i hc
    split at h
    · rename_i x1 x2 t t2 hx ht
      split at h
      · rename_i y1 y2 e h1 h2 he
        obtain ⟨sz, hsz, rfl⟩ := Option.map_eq_some_iff.1 h
        exact .inr (.inr (.inl ⟨ok_copy ho hc (arr_of_toList hx) (arr_of_toList ht) (uslice_eq he) hsz h1 h2, rfl⟩))
      · cases h
    · cases h
  · rename_i hc
    split at h
    · rename_i x1 x2 hx
      split at h
      · rename_i y1 y2 h1 h2
        obtain rfl := Option.some.inj h
        exact .inr (.inr (.inl ⟨ok_mm (isMax := false) ho hc (arr_of_toList hx) h1 h2, rfl⟩))
      · cases h
    · cases h
  · rename_i hc
    split at h
    · rename_i x1 x2 hx
      split at h
      · rename_i y1 y2 h1 h2
        obtain rfl := Option.some.inj h
        exact .inr (.inr (.inl ⟨ok_mm (isMax := true) ho hc (arr_of_toList hx) h1 h2, rfl⟩))
      · cases h
    · cases h
  · cases h

theorem compOp_ok {E : Prg} {o : Oper} {r : ROp} (h : compOp E.P o.op = some r) : (∃ c f l, o.op = .call c ∧ r = .call f l ∧ c.callee = .value (.func f) ∧ cArgs c.args.toList = some l ∧ hasBody E.P f = true) ∨ (∃ c t l, o.op = .call c ∧ r = .calld (.t t) l ∧ c.callee = .value (.tmp t) ∧ cArgs c.args.toList = some l) ∨ (OpOk E o r ∧ r.isCall = false) ∨ (∃ c x y name l, o.op = .call c ∧ r = .inv y name l ∧ c.callee = .invoke x name ∧ copd x = some y ∧ cArgs c.args.toList = some l) := by
  generalize hop : o.op = op at h
  unfold compOp at h
  split at h
  · obtain ⟨y, hy, rfl⟩ := Option.map_eq_some_iff.1 h
    exact .inr (.inr (.inl ⟨ok_mov (.inl hop) hy, rfl⟩))
  · obtain ⟨y, hy, rfl⟩ := Option.map_eq_some_iff.1 h
    exact .inr (.inr (.inl ⟨ok_mov (.inr hop) hy, rfl⟩))
  · split at h
    · obtain rfl := Option.some.inj h
      exact .inr (.inr (.inl ⟨ok_pick hop ‹_› ‹_› ‹_›, rfl⟩))
    · cases h
  · obtain ⟨z, hz, rfl⟩ := Option.map_eq_some_iff.1 h
    exact .inr (.inr (.inl ⟨ok_alloc hop hz, rfl⟩))
  · split at h
    · obtain rfl := Option.some.inj h
      exact .inr (.inr (.inl ⟨ok_box hop ‹_›, rfl⟩))
    · cases h
  · split at h
    · rename_i fs z hfs hz
      split at h
      · rename_i hall
        obtain ⟨ps, hps, rfl⟩ := Option.map_eq_some_iff.1 h
        exact .inr (.inr (.inl ⟨ok_build hop (ustruct_eq hfs) hz (fun f hf => List.all_eq_true.1 hall f hf) (cParts_ok hps), rfl⟩))
      · cases h
    · cases h
  · split at h
    · rename_i e he
      split at h
      · rename_i sz z ps hsz hz hps
        split at h
        · rename_i hc
          obtain rfl := Option.some.inj h
          exact .inr (.inr (.inl ⟨ok_mkrow hop (uslice_eq he) hsz hz hc.1 hc.2 (cParts2_ok hps), rfl⟩))
        · cases h
      · cases h
    · cases h
  · split at h
    · obtain rfl := Option.some.inj h
      exact .inr (.inr (.inl ⟨ok_load hop ‹_› ‹_› ‹_›, rfl⟩))
    · cases h
  · split at h
    · obtain rfl := Option.some.inj h
      exact .inr (.inr (.inl ⟨ok_store hop ‹_› ‹_› ‹_›, rfl⟩))
    · cases h
  · obtain ⟨y, hy, rfl⟩ := Option.map_eq_some_iff.1 h
    exact .inr (.inr (.inl ⟨ok_nilck hop hy, rfl⟩))
  · split at h
    · rename_i y1 y2 h1 h2
      unfold compBin at h
      split at h
      · obtain rfl := Option.some.inj h; exact .inr (.inr (.inl ⟨ok_bin hop h1 h2, rfl⟩))
      · obtain rfl := Option.some.inj h; exact .inr (.inr (.inl ⟨ok_bin hop h1 h2, rfl⟩))
      · rename_i hb
        split at h
        · obtain rfl := Option.some.inj h; exact .inr (.inr (.inl ⟨ok_eqB (neg := false) hop hb h1 h2, rfl⟩))
        · obtain rfl := Option.some.inj h; exact .inr (.inr (.inl ⟨ok_eqB (neg := true) hop hb h1 h2, rfl⟩))
        · cases h
      · rename_i hb
        split at h
        · obtain rfl := Option.some.inj h; exact .inr (.inr (.inl ⟨ok_eqNil (neg := false) hop hb h1 h2, rfl⟩))
        · obtain rfl := Option.some.inj h; exact .inr (.inr (.inl ⟨ok_eqNil (neg := true) hop hb h1 h2, rfl⟩))
        · cases h
      · rename_i hb
        split at h
        · obtain rfl := Option.some.inj h; exact .inr (.inr (.inl ⟨ok_eqP (neg := false) hop hb h1 h2, rfl⟩))
        · obtain rfl := Option.some.inj h; exact .inr (.inr (.inl ⟨ok_eqP (neg := true) hop hb h1 h2, rfl⟩))
        · cases h
      · rename_i hb
        split at h
        · rename_i ks hks
          split at h
          · obtain rfl := Option.some.inj h; exact .inr (.inr (.inl ⟨ok_eqS (neg := false) hop hks h1 h2, rfl⟩))
          · obtain rfl := Option.some.inj h; exact .inr (.inr (.inl ⟨ok_eqS (neg := true) hop hks h1 h2, rfl⟩))
          · cases h
        · cases h
      · cases h
    · cases h
  · obtain ⟨y, hy, rfl⟩ := Option.map_eq_some_iff.1 h
    exact .inr (.inr (.inl ⟨ok_un hop hy, rfl⟩))
  · split at h
    · rename_i y hy
      unfold compConv at h
      split at h
      · rename_i h1 h2
        obtain rfl := Option.some.inj h; exact .inr (.inr (.inl ⟨ok_i2i hop (by simp [h1]) h2 hy, rfl⟩))
      · rename_i h1 h2
        split at h
        · obtain rfl := Option.some.inj h; exact .inr (.inr (.inl ⟨ok_b2s hop h1 (isU8_eq ‹_›) h2 hy, rfl⟩))
        · cases h
      · rename_i h1 h2
        split at h
        · obtain rfl := Option.some.inj h; exact .inr (.inr (.inl ⟨ok_s2b hop h1 h2 (isU8_eq ‹_›) hy, rfl⟩))
        · cases h
      · rename_i h1 h2
        obtain rfl := Option.some.inj h; exact .inr (.inr (.inl ⟨ok_s2s hop h1 h2 hy, rfl⟩))
      · rename_i h1 h2
        split at h
        · rename_i hc
          obtain rfl := Option.some.inj h; exact .inr (.inr (.inl ⟨ok_lit hop hc.1 h2 (isU8_eq hc.2) hy, rfl⟩))
        · cases h
      · cases h
    · cases h
  · split at h
    · rename_i y lo' hi' mx' h1 h2 h3 h4
      split at h
      · rename_i e he
        split at h
        · rename_i sz hsz
          split at h
          · rename_i hc
            obtain rfl := Option.some.inj h
            exact .inr (.inr (.inl ⟨ok_slice hop (uslice_eq he) hsz h1 h2 h3 h4 hc, rfl⟩))
          · cases h
        · cases h
      · split at h
        · rename_i hc
          obtain rfl := Option.some.inj h
          obtain ⟨hs, hm⟩ := hc
          have := Option.isNone_iff_eq_none.1 hm
          subst this
          exact .inr (.inr (.inl ⟨ok_sliceS hop (isStr_eq hs) h1 h2 h3, rfl⟩))
        · cases h
    · cases h
  · split at h
    · rename_i fs y hfs hy
      split at h
      · rename_i fd hfd
        split at h
        · rename_i n hn
          split at h
          · cases h
          · rename_i hn0
            obtain rfl := Option.some.inj h
            exact .inr (.inr (.inl ⟨ok_faddr hop (ustruct_eq hfs) hfd rfl hn hn0 hy, rfl⟩))
        · cases h
      · cases h
    · cases h
  · split at h
    · rename_i fs y hfs hy
      split at h
      · rename_i fd hfd
        split at h
        · obtain rfl := Option.some.inj h
          exact .inr (.inr (.inl ⟨ok_fld hop (ustruct_eq hfs) hfd rfl ‹_› ‹_› hy, rfl⟩))
        · cases h
      · cases h
    · cases h
  · split at h
    · rename_i y1 y2 h1 h2
      split at h
      · rename_i e he
        obtain ⟨sz, hsz, rfl⟩ := Option.map_eq_some_iff.1 h
        exact .inr (.inr (.inl ⟨ok_iaddr hop (uslice_eq he) hsz h1 h2, rfl⟩))
      · split at h
        · rename_i len e he
          obtain ⟨sz, hsz, rfl⟩ := Option.map_eq_some_iff.1 h
          exact .inr (.inr (.inl ⟨ok_iaddrA hop (uarray_eq he) hsz h1 h2, rfl⟩))
        · cases h
    · cases h
  · split at h
    · rename_i y1 y2 h1 h2
      split at h
      · obtain rfl := Option.some.inj h
        exact .inr (.inr (.inl ⟨ok_idxS hop (isStr_eq ‹_›) h1 h2, rfl⟩))
      · cases h
    · cases h
  · obtain ⟨y, hy, rfl⟩ := Option.map_eq_some_iff.1 h
    exact .inr (.inr (.inl ⟨ok_ext hop hy, rfl⟩))
  · split at h
    · rename_i y1 y2 e h1 h2 he
      split at h
      · obtain rfl := Option.some.inj h
        exact .inr (.inr (.inl ⟨ok_mkslice hop (uslice_eq he) ‹_› ‹_› ‹_› h1 h2, rfl⟩))
      · cases h
    · cases h
  · rename_i c
    rcases compCall_ok hop h with ⟨f, l, h1, h2, h3⟩ | ⟨t, l, h1, h2, h3⟩ | h1 | ⟨x, y, name, l, h1, h2, h3⟩
    · exact .inl ⟨c, f, l, rfl, h1, h2, h3⟩
    · exact .inr (.inl ⟨c, t, l, rfl, h1, h2, h3⟩)
    · exact .inr (.inr (.inl h1))
    · exact .inr (.inr (.inr ⟨c, x, y, name, l, rfl, h1, h2, h3⟩))
  · rename_i f first captured
    split at h
    · rename_i hf
      obtain ⟨l, hl, rfl⟩ := Option.map_eq_some_iff.1 h
      have hf0 : first = #[] := Array.eq_empty_of_size_eq_zero hf
      subst hf0
      exact .inr (.inr (.inl ⟨ok_mkfn hop hl, rfl⟩))
    · cases h
  · split at h
    · rename_i hc
      obtain ⟨k, hk1, hk2⟩ := isConc_ok hc
      obtain ⟨y, hy, rfl⟩ := Option.map_eq_some_iff.1 h
      exact .inr (.inr (.inl ⟨ok_mkIfc hop hk1 hk2 hy, rfl⟩))
    · cases h
  · split at h
    · rename_i hc
      obtain ⟨k, hk1, hk2⟩ := isConc_ok hc
      obtain ⟨y, hy, rfl⟩ := Option.map_eq_some_iff.1 h
      exact .inr (.inr (.inl ⟨ok_asrt hop hk1 hk2 hy, rfl⟩))
    · cases h
  · cases h

end Go.Proofs.Ytaopaongpoecoaa
