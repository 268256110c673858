/- What simp is to know, to unfold what is to be shown of code from the front. -/
import Derived.Test.YtaopaongpoecoaaAb17
set_option linter.unusedVariables false
set_option linter.unusedSimpArgs false
namespace Go.Proofs.Ytaopaongpoecoaa
open Go.RowKit

@[congr] theorem opsWp_congr {E : Prg} {F : FTab} {l : List ROper} {K : St → Prop} {st : St} {st' : Unit → St} (h : ∀ u, st = st' u) : opsWp E F l K st = opsWp E F l K (st' ()) := by rw [← h ()]
@[congr] theorem OT.wp_congr {E : Prg} {F : FTab} {t : OT} {K : St → Prop} {st : St} {st' : Unit → St} (h : ∀ u, st = st' u) : t.wp E F K st = t.wp E F K (st' ()) := by rw [← h ()]
@[congr] theorem RC.wp_congr {E : Prg} {F : FTab} {n : Nat} {c : RC} {Q : Exit → St → Prop} {st : St} {st' : Unit → St} (h : ∀ u, st = st' u) : c.wp E F n Q st = c.wp E F n Q (st' ()) := by rw [← h ()]

theorem nrfl {α : Sort _} (a : α) : a = a := of_eq_true (eq_self a)

def bindB (d : DV) (f : Bool → Prop) [Tg f] (_ : True := trivial) : Prop :=
  match (generalizing := false) d with
  | .bool b => f b
  | _ => False
theorem bindB_bool (b : Bool) (f : Bool → Prop) : bindB (.bool b) f = f b := nrfl _

theorem bindG_bool (b : Bool) (f : Bool → Prop) (g : Prop) : bindG (.bool b) f g = f b := nrfl _
theorem bindG_no (f : Bool → Prop) (g : Prop) : bindG .no f g = g := by simp [bindG, DV.no, boolV, Go.undef]

def nx (st : St) (p : DV × Objs) (z : Bool) (dst : Option Nat) : St := (({ st with objs := p.2 } : St).put dst p.1).fzd z dst
theorem nx_f (env : List (Nat × DV)) (objs : Objs) (d : DV) (o : Objs) (t : Nat) : nx ⟨env, objs⟩ (d, o) false (some t) = ⟨St.ins t d env, o⟩ := nrfl _
theorem nx_n (env : List (Nat × DV)) (objs : Objs) (d : DV) (o : Objs) (z : Bool) : nx ⟨env, objs⟩ (d, o) z none = ⟨env, o⟩ := by cases z <;> rfl
theorem nx_t (env : List (Nat × DV)) (objs : Objs) (d : DV) (o : Objs) (t : Nat) : nx ⟨env, objs⟩ (d, o) true (some t) = St.freezes (ownIds (St.look t (St.ins t d env))) ⟨St.ins t d env, o⟩ := nrfl _

/-- A state is unfolded ahead of what is to be shown of it. -/
def goSt (st : St) (k : St → Prop) [Tg k] (_ : True := trivial) : Prop := k st
theorem goSt_eq (st : St) (k : St → Prop) : goSt st k = k st := nrfl _

section
variable (E : Prg) (F : FTab) (n : Nat) (K : St → Prop) (Q : Exit → St → Prop) (st : St) (l : List ROper) (dst : Option Nat) (op : ROp) (z : Bool) (f : Nat) (args : List Opd) (t : Nat) (w : Bool)

/-- One operation, what comes behind it. -/
def stV (E : Prg) (F : FTab) (dr : Bool) (op : ROp) (dst : Option Nat) (z : Bool) (st : St) (k : St → Prop) [Tg k] [Tg op] (_ : True := trivial) : Prop := opWp E F dr ⟨dst, op, none, z⟩ k st
theorem stV_op (dr : Bool) (h : op.isCall = false) : stV E F dr op dst z st K = bindO (rvl E st op) fun p => goSt (nx st p z dst) K := by
  unfold stV opWp
  cases op <;> first | rfl | cases h
theorem stV_call (dr : Bool) : stV E F dr (.call f args) dst z st K = callV E (F f (args.map (Opd.ev E st))) dr f (args.map (Opd.ev E st)) st.objs fun d T' => goSt (nx st (d, T') z dst) K := nrfl _
theorem stV_calld (dr : Bool) (y : Opd) : stV E F dr (.calld y args) dst z st K = calldV E F dr (Opd.ev E st y) (args.map (Opd.ev E st)) st.objs fun d T' => goSt (nx st (d, T') z dst) K := nrfl _
theorem calldV_lit (T : Objs) (L : DV → Objs → Prop) (as : List DV) : calldV E F false (.lit (.func (.func f) #[] #[])) as T L = (hasBody E.P f = true ∧ callV E (F f as) false f as T L) := by simp [calldV]
theorem opsWp_nil : opsWp E F [] K st = K st := nrfl _
theorem opsWp_cons : opsWp E F (⟨dst, op, none, z⟩ :: l) K st = stV E F false op dst z st (opsWp E F l K) := nrfl _
theorem opsWp_guard : opsWp E F (⟨dst, op, some (t, w), z⟩ :: l) K st = bindG (st.get t) (fun b => cnd (b == w) (goSt (st.know t w) fun st => stV E F false op dst z st (opsWp E F l K)) (goSt ((st.know t (!w)).put dst .no) (opsWp E F l K))) (goSt (st.put dst .no) (opsWp E F l K)) := nrfl _

theorem ot_done : OT.done.wp E F K st = K st := nrfl _
theorem ot_alt (a b : OT) : (OT.alt a b).wp E F K st = (a.wp E F K st ∧ b.wp E F K st) := nrfl _
theorem ot_op (k : OT) : (OT.op ⟨dst, op, none, z⟩ k).wp E F K st = stV E F true op dst z st (k.wp E F K) := nrfl _
theorem ot_guard (k : OT) : (OT.op ⟨dst, op, some (t, w), z⟩ k).wp E F K st = bindG (st.get t) (fun b => cnd (b == w) (goSt (st.know t w) fun st => stV E F true op dst z st (k.wp E F K)) (goSt ((st.know t (!w)).put dst .no) (k.wp E F K))) (goSt (st.put dst .no) (k.wp E F K)) := nrfl _
theorem ot_take (p : Opd) (ps : List Opd) (o : ROper) (k : OT) : (OT.take o (p :: ps) k).wp E F K st = (clearOf E st o.op p ∧ (OT.take o ps k).wp E F K st) := by
  simp only [OT.wp, List.forall_mem_cons, and_assoc]
theorem ot_take0 (o : ROper) (k : OT) : (OT.take o [] k).wp E F K st = (OT.op o k).wp E F K st := by simp [OT.wp]

theorem rc_skip : RC.skip.wp E F n Q st = Q .normal st := nrfl _
theorem rc_reg (lo : Nat) (keep : List Nat) : (RC.reg l lo keep).wp E F n Q st = opsWp E F l (fun st' => goSt (st'.cut lo keep) (Q .normal)) st := nrfl _
theorem rc_regD (x : OT) (lo : Nat) (keep : List Nat) : (RC.regD x lo keep).wp E F n Q st = x.wp E F (fun st' => goSt (st'.cut lo keep) (Q .normal)) st := nrfl _
theorem rc_seq (a b : RC) : (RC.seq a b).wp E F n Q st = a.wp E F n (thenQ (b.wp E F n Q) Q) st := nrfl _
theorem rc_cond (c : Opd) (a b : RC) : (RC.cond c a b).wp E F n Q st = bindB (c.ev E st) fun v => cnd v (goSt (st.knows c true) (a.wp E F n Q)) (goSt (st.knows c false) (b.wp E F n Q)) := by
  simp only [RC.wp]
  cases c.ev E st <;> rfl
theorem rc_blk (id : Nat) (b : RC) : (RC.blk id b).wp E F n Q st = b.wp E F n (inBlk id Q) st := nrfl _
theorem rc_loop (b : RC) : (RC.loop b).wp E F n Q st = LoopWp E n b Q st := nrfl _
theorem rc_ext (id : Nat) : (RC.ext id).wp E F n Q st = Q (.exit id) st := nrfl _
theorem rc_ret : RC.ret.wp E F n Q st = Q .ret st := nrfl _

theorem thenQ_n : thenQ K Q .normal st = K st := nrfl _
theorem thenQ_r : thenQ K Q .ret st = Q .ret st := nrfl _
theorem thenQ_e (i : Nat) : thenQ K Q (.exit i) st = Q (.exit i) st := nrfl _
theorem inBlk_n (i : Nat) : inBlk i Q .normal st = Q .normal st := nrfl _
theorem inBlk_r (i : Nat) : inBlk i Q .ret st = Q .ret st := nrfl _
theorem inBlk_e (i j : Nat) : inBlk i Q (.exit j) st = if j = i then Q .normal st else Q (.exit j) st := nrfl _
theorem finQ_n (rs : List Res) (R : DV → Objs → Prop) : finQ rs R .normal st = bindO (resOf st rs) fun d => R d st.objs := by
  simp only [finQ]
  cases resOf st rs <;> rfl
theorem finQ_r (rs : List Res) (R : DV → Objs → Prop) : finQ rs R .ret st = bindO (resOf st rs) fun d => R d st.objs := by
  simp only [finQ]
  cases resOf st rs <;> rfl
@[congr] theorem finQ_congr {rs : List Res} {R : DV → Objs → Prop} {e : Exit} {st : St} {st' : Unit → St} (h : ∀ u, st = st' u) : finQ rs R e st = finQ rs R e (st' ()) := by rw [← h ()]
theorem resOf_1 (r : Res) : resOf st [r] = r.ev st := by
  unfold resOf
  simp only [ress]
  cases r.ev st <;> rfl
theorem resOf_2 (r s : Res) : resOf st [r, s] = (r.ev st).bind fun a => (s.ev st).map fun b => .tup [a, b] := by
  unfold resOf
  simp only [ress]
  cases r.ev st <;> cases s.ev st <;> rfl
theorem resOf_3 (r s q : Res) : resOf st [r, s, q] = (r.ev st).bind fun a => (s.ev st).bind fun b => (q.ev st).map fun c => .tup [a, b, c] := by
  unfold resOf
  simp only [ress]
  cases r.ev st <;> cases s.ev st <;> cases q.ev st <;> rfl
theorem resT (i : Nat) : Res.ev st (.t i) = some (st.get i) := nrfl _
theorem resC (i : Nat) (ag : Bool) (sz : Nat) : Res.ev st (.c i ag sz) = (rvl E st (.load ag sz (.t i))).map (·.1) := by
  simp only [Res.ev, rvl, Opd.ev]
  cases st.get i <;> try rfl
  · dsimp only
    rename_i o r j
    generalize st.objs[o]? = x
    rcases x with _ | _ | ob <;> try rfl
    simp only [Option.bind]
    generalize ob.rows[r]? = y
    cases y with
    | none => rfl
    | some row => simp only; cases rowAt ag sz row j <;> rfl
  · dsimp only
    rename_i row j
    cases rowAt ag sz row j <;> rfl

theorem callV_h (x : HSpec) (l : List DV) (T : Objs) (k : DV → Objs → Prop) : callV E (some (.h x)) false f l T k = (x.pre T ∧ k (x.res T).1 (x.res T).2) := by simp [callV, FS.h, HSpec.toP]
theorem callV_p (x : PSpec) (l : List DV) (T : Objs) (k : DV → Objs → Prop) : callV E (some (.p x)) false f l T k = x.wp T k := by simp [callV]
theorem app_p (g : List DV → Option PSpec) (a : List DV) : Ent.app (.p g) a = (g a).map .p := nrfl _
theorem spec_wp (rf : RFn) (args : List DV) (T : Objs) (K : DV → Objs → Prop) : (rf.spec E F args).wp T K = rf.code.wp E F rf.n (finQ rf.res fun d T' => T.length ≤ T'.length ∧ K d T') ⟨initEnv 0 args, T⟩ := nrfl _
theorem app_o (g : List DV → Option FSpec) (a : List DV) : Ent.app (.o g) a = (g a).map .o := nrfl _
theorem app_h (g : List DV → Option HSpec) (a : List DV) : Ent.app (.h g) a = (g a).map .h := nrfl _
theorem callV_some (x : FSpec) (dr : Bool) (l : List DV) (T : Objs) (k : DV → Objs → Prop) : callV E (some (.o x)) dr f l T k = (x.pre ∧ k (x.res T.length).1 (T ++ (x.res T.length).2)) := nrfl _
theorem ev_t (i : Nat) : Opd.ev E st (.t i) = st.get i := nrfl _
theorem ev_c (d : DV) : Opd.ev E st (.c d) = d := nrfl _
theorem get_mk (env : List (Nat × DV)) (objs : Objs) (i : Nat) : St.get ⟨env, objs⟩ i = St.look i env := nrfl _
theorem put_some (env : List (Nat × DV)) (objs : Objs) (i : Nat) (d : DV) : St.put ⟨env, objs⟩ (some i) d = ⟨St.ins i d env, objs⟩ := nrfl _
theorem put_none (d : DV) : St.put st none d = st := nrfl _
theorem know_mk (env : List (Nat × DV)) (objs : Objs) (i : Nat) (b : Bool) : St.know i b ⟨env, objs⟩ = ⟨St.rep i (.bool b) env, objs⟩ := nrfl _
theorem knows_t (i : Nat) (b : Bool) : st.knows (.t i) b = st.know i b := nrfl _
theorem knows_c (d : DV) (b : Bool) : st.knows (.c d) b = st := nrfl _
def memN (k : Nat) : List Nat → Bool
  | [] => false
  | a :: l => if a = k then true else memN k l
theorem memN_eq (k : Nat) : ∀ l : List Nat, memN k l = l.contains k
  | [] => rfl
  | a :: l => by
    simp only [memN, memN_eq k l, List.contains_cons]
    by_cases h : a = k
    · simp [h]
    · rw [if_neg h, beq_false_of_ne (fun e => h e.symm), Bool.false_or]
def cutE (keep : List Nat) : List (Nat × DV) → List (Nat × DV)
  | [] => []
  | (k, d) :: l => if memN k keep = true then (k, d) :: cutE keep l else cutE keep l
theorem cut_mk (keep : List Nat) (env : List (Nat × DV)) (objs : Objs) : St.cut 0 keep ⟨env, objs⟩ = ⟨cutE keep env, objs⟩ := by
  unfold St.cut
  congr 1
  induction env with
  | nil => rfl
  | cons x l ih =>
    obtain ⟨k, d⟩ := x
    simp only [List.filter_cons, cutE, memN_eq, Nat.not_lt_zero, decide_false, Bool.false_or] at ih ⊢
    rw [ih]

theorem rvl_mov (x : Opd) : rvl E st (.mov x) = some (x.ev E st, st.objs) := nrfl _
theorem rvl_pick (c a b : Opd) : rvl E st (.pick c a b) = match c.ev E st with
    | .bool t => some (if t then a.ev E st else b.ev E st, st.objs)
    | _ => none := nrfl _
theorem rvl_box (sz : Nat) (x : Opd) : rvl E st (.box sz x) = (x.ev E st).cells.bind fun cs => if cs.length = sz ∧ cs.all DV.one = true then some (.ptr st.objs.length 0 0, st.objs ++ [some (.box cs)]) else none := by
  simp only [rvl, rval]
  cases (x.ev E st).cells <;> rfl
theorem rvl_alloc (zero : List DV) : rvl E st (.alloc zero) = some (.ptr st.objs.length 0 0, st.objs ++ [some (.box zero)]) := nrfl _
def buildV (E : Prg) (st : St) : List (Nat × Nat × Opd) → List DV → Option (List DV)
  | [], cs => some cs
  | x :: l, cs => (x.2.2.ev E st).cells.bind fun new => if new.length = x.2.1 ∧ x.1 + new.length ≤ cs.length then buildV E st l (rowSet cs x.1 new) else none
theorem rvl_build (zero : List DV) (parts : List (Nat × Nat × Opd)) : rvl E st (.build zero parts) = (buildV E st parts zero).map fun cs => (.agg cs, st.objs) := by
  simp only [rvl, rval]
  congr 1
  have hn : ∀ l : List (Nat × Nat × Opd), l.foldl (fun (acc : Option (List DV)) x => match acc, (x.2.2.ev E st).cells with
      | some cs, some new => if new.length = x.2.1 ∧ x.1 + new.length ≤ cs.length then some (rowSet cs x.1 new) else none
      | _, _ => none) none = none := fun l => by
    induction l with
    | nil => rfl
    | cons x l ih => exact ih
  induction parts generalizing zero with
  | nil => rfl
  | cons x l ih =>
    simp only [List.foldl_cons, buildV]
    cases (x.2.2.ev E st).cells with
    | none => exact hn l
    | some new =>
      simp only [Option.bind]
      split
      · exact ih _
      · exact hn l
def mkrowV (E : Prg) (st : St) (sz : Nat) : List (Nat × Opd) → List (List DV) → Option (List (List DV))
  | [], rows => some rows
  | x :: l, rows => (x.2.ev E st).cells.bind fun new => if new.length = sz ∧ x.1 < rows.length ∧ new.all DV.one = true then mkrowV E st sz l (rows.set x.1 new) else none
theorem rvl_mkrow (sz : Nat) (zero : List DV) (len : Nat) (parts : List (Nat × Opd)) : rvl E st (.mkrow sz zero len parts) = (mkrowV E st sz parts (List.replicate len zero)).map fun rows => (.own st.objs.length 0 len, st.objs ++ [some (.arr sz rows)]) := by
  simp only [rvl, rval]
  congr 1
  have hn : ∀ l : List (Nat × Opd), l.foldl (fun (acc : Option (List (List DV))) x => match acc, (x.2.ev E st).cells with
      | some rows, some new => if new.length = sz ∧ x.1 < rows.length ∧ new.all DV.one = true then some (rows.set x.1 new) else none
      | _, _ => none) none = none := fun l => by
    induction l with
    | nil => rfl
    | cons x l ih => exact ih
  generalize List.replicate len zero = rows
  induction parts generalizing rows with
  | nil => rfl
  | cons x l ih =>
    simp only [List.foldl_cons, mkrowV]
    cases (x.2.ev E st).cells with
    | none => exact hn l
    | some new =>
      simp only [Option.bind]
      split
      · exact ih _
      · exact hn l
theorem rvl_load (ag : Bool) (sz : Nat) (x : Opd) : rvl E st (.load ag sz x) = match x.ev E st with
    | .ptr o i j => (st.objs[o]?).bind fun x => x.bind fun ob => (ob.rows[i]?).bind fun row => (rowAt ag sz row j).map (·, st.objs)
    | .rp row j => (rowAt ag sz row j).map (·, st.objs)
    | _ => none := nrfl _
theorem rvl_store (sz : Nat) (p x : Opd) : rvl E st (.store sz p x) = match p.ev E st with
    | .ptr o i j => ((x.ev E st).cells).bind fun cs => (st.objs[o]?).bind fun x => x.bind fun ob => (ob.rows[i]?).bind fun row =>
      if cs.length = sz ∧ cs.all DV.one = true ∧ j + sz ≤ row.length then some (.undef, st.objs.set o (some (ob.setRow i (rowSet row j cs)))) else none
    | _ => none := nrfl _
theorem rvl_nilck (x : Opd) : rvl E st (.nilck x) = match x.ev E st with
    | .ptr o i j => some (.ptr o i j, st.objs)
    | .rp row j => some (.rp row j, st.objs)
    | _ => none := nrfl _
def binV (op : BinOp) : DV → DV → Option DV
  | .int k a, .int k' b => match op with
    | .shl => shiftOf .shl k a b
    | .shr => shiftOf .shr k a b
    | op => if k = k' then binOf op k a b else none
  | .str a, .str b => strOf op a b
  | _, _ => none
theorem rvl_bin (op : BinOp) (x y : Opd) : rvl E st (.bin op x y) = (binV op (x.ev E st) (y.ev E st)).map (·, st.objs) := by
  simp only [rvl, rval]
  cases x.ev E st <;> cases y.ev E st <;> rfl
theorem rvl_eqB (neg : Bool) (x y : Opd) : rvl E st (.eqB neg x y) = match x.ev E st, y.ev E st with
    | .bool a, .bool b => some (.bool (if neg then !decide (a = b) else decide (a = b)), st.objs)
    | _, _ => none := nrfl _
def nilV : SK → Option Bool
  | .nil => some true
  | .nonnil => some false
  | _ => none
theorem rvl_eqNil (neg : Bool) (x y : Opd) : rvl E st (.eqNil neg x y) = match x.ev E st, y.ev E st with
    | .sl _ _ k, .sl _ _ .nil => (nilV k).map fun b => (.bool (if neg then !b else b), st.objs)
    | _, _ => none := by
  simp only [rvl, rval]
  cases x.ev E st <;> cases y.ev E st <;> try rfl
theorem rvl_un (op : UnOp) (x : Opd) : rvl E st (.un op x) = (unOf op (x.ev E st)).map (·, st.objs) := nrfl _
theorem rvl_i2i (k : IntKind) (x : Opd) : rvl E st (.conv (.i2i k) x) = match x.ev E st with
    | .int _ n => some (.int k (k.wrap n), st.objs)
    | _ => none := by
  simp only [rvl, rval]
  cases x.ev E st <;> rfl
theorem rvl_b2s (x : Opd) : rvl E st (.conv .b2s x) = match x.ev E st with
    | .str _ => none
    | d => (rowsOf st d).bind fun y => if y.1 = 1 ∨ y.2 = [] then (rowsBytes y.2).map fun s => (.str s, st.objs) else none := nrfl _
theorem rvl_s2b (x : Opd) : rvl E st (.conv .s2b x) = match x.ev E st with
    | .str s => if s.length ≤ 4611686018427387904 then some (.own st.objs.length 0 s.length, st.objs ++ [some (.arr 1 (bytesRows s))]) else none
    | _ => none := by
  simp only [rvl, rval]
  cases x.ev E st <;> rfl
theorem rvl_lit (x : Opd) : rvl E st (.conv .lit x) = match x.ev E st with
    | .own o off n => (st.objs[o]?).bind fun x => x.bind fun ob => match ob with
      | .arr sz rows => if 0 < n ∧ 0 < sz ∧ off + n ≤ rows.length then some (.own o off n, st.objs) else none
      | _ => none
    | _ => none := by
  simp only [rvl, rval]
  cases x.ev E st <;> try rfl
  rename_i o off n
  simp only
  cases st.objs[o]? with
  | none => rfl
  | some x =>
    cases x with
    | none => rfl
    | some ob => cases ob <;> rfl
theorem rvl_s2s (x : Opd) : rvl E st (.conv .s2s x) = match x.ev E st with
    | .str s => some (.str s, st.objs)
    | _ => none := by
  simp only [rvl, rval]
  cases x.ev E st <;> rfl
theorem rvl_slice (sz : Nat) (x : Opd) (lo hi mx : Option Opd) : rvl E st (.slice sz x lo hi mx) = match x.ev E st with
    | .sl s rows k => (natO st E 0 lo).bind fun l => (natO st E rows.length hi).bind fun h => if l ≤ h ∧ h ≤ rows.length ∧ (s = sz ∨ rows = []) then (match mx with
        | none => some (.sl s ((rows.drop l).take (h - l)) k, st.objs)
        | some m => (natO st E 0 (some m)).bind fun m => if m = h then some (.sl s ((rows.drop l).take (h - l)) (if m = l then (if k = .nil then .nil else .zero) else (if k = .nil then .nil else .any)), st.objs) else none) else none
    | .own o off n => match mx with
      | none => (natO st E 0 lo).bind fun l => (natO st E n hi).bind fun h => (st.objs[o]?).bind fun x => x.bind fun ob => match ob with
        | .arr s rows => if l ≤ h ∧ h ≤ n ∧ s = sz then some (.own o (off + l) (h - l), st.objs) else none
        | _ => none
      | some _ => none
    | _ => none := nrfl _
theorem natO_none (d : Nat) : natO st E d none = some d := nrfl _
theorem natO_some (d : Nat) (x : Opd) : natO st E d (some x) = match x.ev E st with
    | .int _ n => if 0 ≤ n then some n.toNat else none
    | _ => none := nrfl _
theorem rvl_sliceS (x : Opd) (lo hi : Option Opd) : rvl E st (.sliceS x lo hi) = match x.ev E st with
    | .str s => (natO st E 0 lo).bind fun l => (natO st E s.length hi).bind fun h => if l ≤ h ∧ h ≤ s.length then some (.str ((s.drop l).take (h - l)), st.objs) else none
    | _ => none := nrfl _
theorem rvl_faddr (off : Nat) (x : Opd) : rvl E st (.faddr off x) = match x.ev E st with
    | .ptr o i j => some (.ptr o i (j + off), st.objs)
    | .rp row j => some (.rp row (j + off), st.objs)
    | _ => none := nrfl _
theorem rvl_fld (ag : Bool) (off sz : Nat) (x : Opd) : rvl E st (.fld ag off sz x) = match x.ev E st with
    | .agg cs => (rowAt ag sz cs off).map (·, st.objs)
    | _ => none := nrfl _
theorem rvl_iaddr (sz : Nat) (x i : Opd) : rvl E st (.iaddr sz x i) = match x.ev E st, i.ev E st with
    | .sl s rows _, .int _ n => if 0 ≤ n ∧ n < (rows.length : Int) ∧ s = sz then (rows[n.toNat]?).map fun row => (.rp row 0, st.objs) else none
    | .own o off m, .int _ n => if 0 ≤ n ∧ n < (m : Int) then (st.objs[o]?).bind fun x => x.bind fun ob => match ob with
        | .arr s _ => if s = sz then some (.ptr o (off + n.toNat) 0, st.objs) else none
        | _ => none
      else none
    | _, _ => none := nrfl _
theorem rvl_iaddrA (len sz : Nat) (x i : Opd) : rvl E st (.iaddrA len sz x i) = match x.ev E st, i.ev E st with
    | .ptr o r j, .int _ n => if 0 ≤ n ∧ n < (len : Int) then some (.ptr o r (j + n.toNat * sz), st.objs) else none
    | .rp row j, .int _ n => if 0 ≤ n ∧ n < (len : Int) then some (.rp row (j + n.toNat * sz), st.objs) else none
    | _, _ => none := nrfl _
theorem rvl_idxS (x i : Opd) : rvl E st (.idxS x i) = match x.ev E st, i.ev E st with
    | .str s, .int _ n => if 0 ≤ n then (s[n.toNat]?).map fun b => (.int .u8 b.toNat, st.objs) else none
    | _, _ => none := nrfl _
theorem rvl_ext (x : Opd) (i : Nat) : rvl E st (.ext x i) = match x.ev E st with
    | .tup cs => (cs[i]?).map fun d => (d, st.objs)
    | _ => none := by
  simp only [rvl, rval]
  cases x.ev E st <;> try rfl
  dsimp only
  rename_i cs
  cases cs[i]? <;> rfl
theorem rvl_len (x : Opd) : rvl E st (.len x) = match x.ev E st with
    | .sl _ rows _ => some (.int .i64 rows.length, st.objs)
    | .own _ _ n => some (.int .i64 n, st.objs)
    | _ => none := nrfl _
theorem rvl_lenS (x : Opd) : rvl E st (.lenS x) = match x.ev E st with
    | .str s => some (.int .i64 s.length, st.objs)
    | _ => none := nrfl _
theorem rvl_append (sz bytes : Nat) (x y : Opd) : rvl E st (.append sz bytes x y) = match x.ev E st with
    | .sl _ [] k => (rowsOf st (y.ev E st)).bind fun a => if (k = .nil ∨ k = .zero) ∧ (a.1 = sz ∨ a.2 = []) ∧ a.2.length * bytes ≤ 140737488355328 ∧ a.2.length ≤ 4611686018427387904 then
        some (.own st.objs.length 0 a.2.length, st.objs ++ [some (.arr sz a.2)]) else none
    | .own o off n => (rowsOf st (y.ev E st)).bind fun a => (st.objs[o]?).bind fun x => x.bind fun ob => match ob with
      | .arr s rows => if off + n = rows.length ∧ s = sz ∧ (a.1 = sz ∨ a.2 = []) ∧ (n + a.2.length) * bytes ≤ 140737488355328 ∧ n + a.2.length ≤ 4611686018427387904 then
          some (.own st.objs.length 0 (n + a.2.length), st.objs.set o none ++ [some (.arr sz (rows.drop off ++ a.2))]) else none
      | _ => none
    | _ => none := nrfl _
theorem rvl_mm (isMax : Bool) (x y : Opd) : rvl E st (.mm isMax x y) = match x.ev E st, y.ev E st with
    | .int k a, .int _ b => some (.int k (if isMax then max a b else min a b), st.objs)
    | _, _ => none := nrfl _
theorem rvl_mkslice (sz bytes : Nat) (zero : List DV) (a b : Opd) : rvl E st (.mkslice sz bytes zero a b) = match a.ev E st, b.ev E st with
    | .int _ n, .int _ c => if 0 ≤ n ∧ n ≤ c ∧ c * bytes ≤ 140737488355328 ∧ c ≤ 4611686018427387904 ∧ zero.length = sz then
        some (.own st.objs.length 0 n.toNat, st.objs ++ [some (.arr sz (List.replicate n.toNat zero))]) else none
    | _, _ => none := nrfl _
theorem rowsOf_sl (sz : Nat) (rows : List (List DV)) (k : SK) : rowsOf st (.sl sz rows k) = some (sz, rows) := nrfl _
theorem rowsOf_own (o off m : Nat) : rowsOf st (.own o off m) = (st.objs[o]?).bind fun x => x.bind fun ob => match ob with
    | .arr sz rows => if off + m ≤ rows.length then some (sz, (rows.drop off).take m) else none
    | _ => none := by
  simp only [rowsOf]
  generalize st.objs[o]? = x
  rcases x with _ | _ | ob <;> try rfl
  cases ob <;> rfl
theorem rowsOf_str (s : List UInt8) : rowsOf st (.str s) = some (1, bytesRows s) := nrfl _
theorem stV_mov (dr : Bool) (x : Opd) : stV E F dr (.mov x) dst z st K = bindO (rvl E st (.mov x)) fun p => goSt (nx st p z dst) K := stV_op E F K st dst (.mov x) z dr rfl
theorem stV_pick (dr : Bool) (c a b : Opd) : stV E F dr (.pick c a b) dst z st K = bindO (rvl E st (.pick c a b)) fun p => goSt (nx st p z dst) K := stV_op E F K st dst (.pick c a b) z dr rfl
theorem stV_box (dr : Bool) (sz : Nat) (x : Opd) : stV E F dr (.box sz x) dst z st K = bindO (rvl E st (.box sz x)) fun p => goSt (nx st p z dst) K := stV_op E F K st dst (.box sz x) z dr rfl
theorem stV_alloc (dr : Bool) (zero : List DV) : stV E F dr (.alloc zero) dst z st K = bindO (rvl E st (.alloc zero)) fun p => goSt (nx st p z dst) K := stV_op E F K st dst (.alloc zero) z dr rfl
theorem stV_build (dr : Bool) (zero : List DV) (parts : List (Nat × Nat × Opd)) : stV E F dr (.build zero parts) dst z st K = bindO (rvl E st (.build zero parts)) fun p => goSt (nx st p z dst) K := stV_op E F K st dst (.build zero parts) z dr rfl
theorem stV_mkrow (dr : Bool) (sz : Nat) (zero : List DV) (len : Nat) (parts : List (Nat × Opd)) : stV E F dr (.mkrow sz zero len parts) dst z st K = bindO (rvl E st (.mkrow sz zero len parts)) fun p => goSt (nx st p z dst) K := stV_op E F K st dst (.mkrow sz zero len parts) z dr rfl
theorem stV_load (dr : Bool) (ag : Bool) (sz : Nat) (x : Opd) : stV E F dr (.load ag sz x) dst z st K = bindO (rvl E st (.load ag sz x)) fun p => goSt (nx st p z dst) K := stV_op E F K st dst (.load ag sz x) z dr rfl
theorem stV_store (dr : Bool) (sz : Nat) (p x : Opd) : stV E F dr (.store sz p x) dst z st K = bindO (rvl E st (.store sz p x)) fun p => goSt (nx st p z dst) K := stV_op E F K st dst (.store sz p x) z dr rfl
theorem stV_nilck (dr : Bool) (x : Opd) : stV E F dr (.nilck x) dst z st K = bindO (rvl E st (.nilck x)) fun p => goSt (nx st p z dst) K := stV_op E F K st dst (.nilck x) z dr rfl
theorem stV_bin (dr : Bool) (op : BinOp) (x y : Opd) : stV E F dr (.bin op x y) dst z st K = bindO (rvl E st (.bin op x y)) fun p => goSt (nx st p z dst) K := stV_op E F K st dst (.bin op x y) z dr rfl
theorem stV_eqB (dr : Bool) (neg : Bool) (x y : Opd) : stV E F dr (.eqB neg x y) dst z st K = bindO (rvl E st (.eqB neg x y)) fun p => goSt (nx st p z dst) K := stV_op E F K st dst (.eqB neg x y) z dr rfl
theorem stV_eqNil (dr : Bool) (neg : Bool) (x y : Opd) : stV E F dr (.eqNil neg x y) dst z st K = bindO (rvl E st (.eqNil neg x y)) fun p => goSt (nx st p z dst) K := stV_op E F K st dst (.eqNil neg x y) z dr rfl
theorem stV_un (dr : Bool) (op : UnOp) (x : Opd) : stV E F dr (.un op x) dst z st K = bindO (rvl E st (.un op x)) fun p => goSt (nx st p z dst) K := stV_op E F K st dst (.un op x) z dr rfl
theorem stV_i2i (dr : Bool) (k : IntKind) (x : Opd) : stV E F dr (.conv (.i2i k) x) dst z st K = bindO (rvl E st (.conv (.i2i k) x)) fun p => goSt (nx st p z dst) K := stV_op E F K st dst (.conv (.i2i k) x) z dr rfl
theorem stV_b2s (dr : Bool) (x : Opd) : stV E F dr (.conv .b2s x) dst z st K = bindO (rvl E st (.conv .b2s x)) fun p => goSt (nx st p z dst) K := stV_op E F K st dst (.conv .b2s x) z dr rfl
theorem stV_s2b (dr : Bool) (x : Opd) : stV E F dr (.conv .s2b x) dst z st K = bindO (rvl E st (.conv .s2b x)) fun p => goSt (nx st p z dst) K := stV_op E F K st dst (.conv .s2b x) z dr rfl
theorem stV_lit (dr : Bool) (x : Opd) : stV E F dr (.conv .lit x) dst z st K = bindO (rvl E st (.conv .lit x)) fun p => goSt (nx st p z dst) K := stV_op E F K st dst (.conv .lit x) z dr rfl
theorem stV_s2s (dr : Bool) (x : Opd) : stV E F dr (.conv .s2s x) dst z st K = bindO (rvl E st (.conv .s2s x)) fun p => goSt (nx st p z dst) K := stV_op E F K st dst (.conv .s2s x) z dr rfl
theorem stV_slice (dr : Bool) (sz : Nat) (x : Opd) (lo hi mx : Option Opd) : stV E F dr (.slice sz x lo hi mx) dst z st K = bindO (rvl E st (.slice sz x lo hi mx)) fun p => goSt (nx st p z dst) K := stV_op E F K st dst (.slice sz x lo hi mx) z dr rfl
theorem stV_sliceS (dr : Bool) (x : Opd) (lo hi : Option Opd) : stV E F dr (.sliceS x lo hi) dst z st K = bindO (rvl E st (.sliceS x lo hi)) fun p => goSt (nx st p z dst) K := stV_op E F K st dst (.sliceS x lo hi) z dr rfl
theorem stV_faddr (dr : Bool) (off : Nat) (x : Opd) : stV E F dr (.faddr off x) dst z st K = bindO (rvl E st (.faddr off x)) fun p => goSt (nx st p z dst) K := stV_op E F K st dst (.faddr off x) z dr rfl
theorem stV_fld (dr : Bool) (ag : Bool) (off sz : Nat) (x : Opd) : stV E F dr (.fld ag off sz x) dst z st K = bindO (rvl E st (.fld ag off sz x)) fun p => goSt (nx st p z dst) K := stV_op E F K st dst (.fld ag off sz x) z dr rfl
theorem stV_iaddr (dr : Bool) (sz : Nat) (x i : Opd) : stV E F dr (.iaddr sz x i) dst z st K = bindO (rvl E st (.iaddr sz x i)) fun p => goSt (nx st p z dst) K := stV_op E F K st dst (.iaddr sz x i) z dr rfl
theorem stV_iaddrA (dr : Bool) (len sz : Nat) (x i : Opd) : stV E F dr (.iaddrA len sz x i) dst z st K = bindO (rvl E st (.iaddrA len sz x i)) fun p => goSt (nx st p z dst) K := stV_op E F K st dst (.iaddrA len sz x i) z dr rfl
theorem stV_idxS (dr : Bool) (x i : Opd) : stV E F dr (.idxS x i) dst z st K = bindO (rvl E st (.idxS x i)) fun p => goSt (nx st p z dst) K := stV_op E F K st dst (.idxS x i) z dr rfl
theorem stV_ext (dr : Bool) (x : Opd) (i : Nat) : stV E F dr (.ext x i) dst z st K = bindO (rvl E st (.ext x i)) fun p => goSt (nx st p z dst) K := stV_op E F K st dst (.ext x i) z dr rfl
theorem stV_len (dr : Bool) (x : Opd) : stV E F dr (.len x) dst z st K = bindO (rvl E st (.len x)) fun p => goSt (nx st p z dst) K := stV_op E F K st dst (.len x) z dr rfl
theorem stV_lenS (dr : Bool) (x : Opd) : stV E F dr (.lenS x) dst z st K = bindO (rvl E st (.lenS x)) fun p => goSt (nx st p z dst) K := stV_op E F K st dst (.lenS x) z dr rfl
theorem stV_append (dr : Bool) (sz bytes : Nat) (x y : Opd) : stV E F dr (.append sz bytes x y) dst z st K = bindO (rvl E st (.append sz bytes x y)) fun p => goSt (nx st p z dst) K := stV_op E F K st dst (.append sz bytes x y) z dr rfl
theorem stV_mm (dr : Bool) (isMax : Bool) (x y : Opd) : stV E F dr (.mm isMax x y) dst z st K = bindO (rvl E st (.mm isMax x y)) fun p => goSt (nx st p z dst) K := stV_op E F K st dst (.mm isMax x y) z dr rfl
theorem stV_mkslice (dr : Bool) (sz bytes : Nat) (zero : List DV) (a b : Opd) : stV E F dr (.mkslice sz bytes zero a b) dst z st K = bindO (rvl E st (.mkslice sz bytes zero a b)) fun p => goSt (nx st p z dst) K := stV_op E F K st dst (.mkslice sz bytes zero a b) z dr rfl
end
def ownL (cs : List DV) : List Nat := cs.filterMap fun
    | .own o _ _ => some o
    | _ => none
def frzO (x : Option (Option Ob)) (o : Nat) (env : List (Nat × DV)) (objs : Objs) : St :=
  match x with
  | some (some (.arr sz rows)) => ⟨env.map (fun x => (x.1, x.2.frzT o sz rows)), (objs.set o none).map (Option.map (Ob.frz o sz rows))⟩
  | _ => ⟨env, objs⟩
theorem freeze_mk (o : Nat) (env : List (Nat × DV)) (objs : Objs) : St.freeze o ⟨env, objs⟩ = frzO objs[o]? o env objs := nrfl _
theorem frzO_arr (sz : Nat) (rows : List (List DV)) (o : Nat) (env : List (Nat × DV)) (objs : Objs) : frzO (some (some (.arr sz rows))) o env objs = ⟨env.map (fun x => (x.1, x.2.frzT o sz rows)), (objs.set o none).map (Option.map (Ob.frz o sz rows))⟩ := nrfl _
theorem initEnv_nil (k : Nat) : initEnv k [] = [] := nrfl _
theorem initEnv_cons (k : Nat) (d : DV) (l : List DV) : initEnv k (d :: l) = (k, d) :: initEnv (k + 1) l := nrfl _
theorem look_nil (t : Nat) : St.look t [] = .undef := nrfl _
theorem look_cons (t k : Nat) (d : DV) (l : List (Nat × DV)) : St.look t ((k, d) :: l) = if k = t then d else St.look t l := nrfl _
theorem ins_nil (t : Nat) (d : DV) : St.ins t d [] = [(t, d)] := nrfl _
theorem ins_cons (t k : Nat) (d x : DV) (l : List (Nat × DV)) : St.ins t d ((k, x) :: l) = if t < k then (t, d) :: (k, x) :: l else if k = t then (t, d) :: l else (k, x) :: St.ins t d l := nrfl _
theorem rep_nil (t : Nat) (d : DV) : St.rep t d [] = [] := nrfl _
theorem rep_cons (t k : Nat) (d x : DV) (l : List (Nat × DV)) : St.rep t d ((k, x) :: l) = if k = t then (t, d) :: l else (k, x) :: St.rep t d l := nrfl _
theorem memN_nil (k : Nat) : memN k [] = false := nrfl _
theorem memN_cons (k a : Nat) (l : List Nat) : memN k (a :: l) = if a = k then true else memN k l := nrfl _
theorem cutE_nil (keep : List Nat) : cutE keep [] = [] := nrfl _
theorem cutE_cons (keep : List Nat) (k : Nat) (d : DV) (l : List (Nat × DV)) : cutE keep ((k, d) :: l) = if memN k keep = true then (k, d) :: cutE keep l else cutE keep l := nrfl _
theorem buildV_nil (E : Prg) (st : St) (cs : List DV) : buildV E st [] cs = some cs := nrfl _
theorem buildV_cons (E : Prg) (st : St) (x : Nat × Nat × Opd) (l : List (Nat × Nat × Opd)) (cs : List DV) : buildV E st (x :: l) cs = (x.2.2.ev E st).cells.bind fun new => if new.length = x.2.1 ∧ x.1 + new.length ≤ cs.length then buildV E st l (rowSet cs x.1 new) else none := nrfl _
theorem mkrowV_nil (E : Prg) (st : St) (sz : Nat) (cs : List (List DV)) : mkrowV E st sz [] cs = some cs := nrfl _
theorem mkrowV_cons (E : Prg) (st : St) (sz : Nat) (x : Nat × Opd) (l : List (Nat × Opd)) (rows : List (List DV)) : mkrowV E st sz (x :: l) rows = (x.2.ev E st).cells.bind fun new => if new.length = sz ∧ x.1 < rows.length ∧ new.all DV.one = true then mkrowV E st sz l (rows.set x.1 new) else none := nrfl _
theorem binV_add (k : IntKind) (a b : Int) : binV .add (.int k a) (.int k b) = some (.int k (k.wrap (a + b))) := if_pos rfl
theorem binV_sub (k : IntKind) (a b : Int) : binV .sub (.int k a) (.int k b) = some (.int k (k.wrap (a - b))) := if_pos rfl
theorem binV_mul (k : IntKind) (a b : Int) : binV .mul (.int k a) (.int k b) = some (.int k (k.wrap (a * b))) := if_pos rfl
theorem binV_quo (k : IntKind) (a b : Int) : binV .quo (.int k a) (.int k b) = if b = 0 then none else some (.int k (k.wrap (a.tdiv b))) := if_pos rfl
theorem binV_rem (k : IntKind) (a b : Int) : binV .rem (.int k a) (.int k b) = if b = 0 then none else some (.int k (a.tmod b)) := if_pos rfl
theorem binV_and (k : IntKind) (a b : Int) : binV .and (.int k a) (.int k b) = some (.int k (k.wrap (BitVec.ofInt k.bits a &&& BitVec.ofInt k.bits b).toNat)) := if_pos rfl
theorem binV_or (k : IntKind) (a b : Int) : binV .or (.int k a) (.int k b) = some (.int k (k.wrap (BitVec.ofInt k.bits a ||| BitVec.ofInt k.bits b).toNat)) := if_pos rfl
theorem binV_xor (k : IntKind) (a b : Int) : binV .xor (.int k a) (.int k b) = some (.int k (k.wrap (BitVec.ofInt k.bits a ^^^ BitVec.ofInt k.bits b).toNat)) := if_pos rfl
theorem binV_andNot (k : IntKind) (a b : Int) : binV .andNot (.int k a) (.int k b) = some (.int k (k.wrap (BitVec.ofInt k.bits a &&& ~~~ BitVec.ofInt k.bits b).toNat)) := if_pos rfl
theorem binV_eql (k : IntKind) (a b : Int) : binV .eql (.int k a) (.int k b) = some (.bool (decide (a = b))) := if_pos rfl
theorem binV_neq (k : IntKind) (a b : Int) : binV .neq (.int k a) (.int k b) = some (.bool (!decide (a = b))) := if_pos rfl
theorem binV_lss (k : IntKind) (a b : Int) : binV .lss (.int k a) (.int k b) = some (.bool (decide (a < b))) := if_pos rfl
theorem binV_leq (k : IntKind) (a b : Int) : binV .leq (.int k a) (.int k b) = some (.bool (decide (a ≤ b))) := if_pos rfl
theorem binV_gtr (k : IntKind) (a b : Int) : binV .gtr (.int k a) (.int k b) = some (.bool (decide (b < a))) := if_pos rfl
theorem binV_geq (k : IntKind) (a b : Int) : binV .geq (.int k a) (.int k b) = some (.bool (decide (b ≤ a))) := if_pos rfl
theorem binV_shl (k k2 : IntKind) (a b : Int) : binV .shl (.int k a) (.int k2 b) = if b < 0 then none else some (.int k (k.wrap (a * 2 ^ (min b.toNat k.bits)))) := nrfl _
theorem binV_shr (k k2 : IntKind) (a b : Int) : binV .shr (.int k a) (.int k2 b) = if b < 0 then none else some (.int k (a.fdiv (2 ^ (min b.toNat k.bits)))) := nrfl _
theorem binS_add (a b : List UInt8) : binV .add (.str a) (.str b) = if a.length + b.length ≤ 4611686018427387904 then some (.str (a ++ b)) else none := nrfl _
theorem binS_eql (a b : List UInt8) : binV .eql (.str a) (.str b) = some (.bool (a == b)) := nrfl _
theorem binS_neq (a b : List UInt8) : binV .neq (.str a) (.str b) = some (.bool (!(a == b))) := nrfl _
theorem binS_lss (a b : List UInt8) : binV .lss (.str a) (.str b) = some (.bool (Op.bytesLess a b)) := nrfl _
theorem binS_leq (a b : List UInt8) : binV .leq (.str a) (.str b) = some (.bool (Op.bytesLess a b || a == b)) := nrfl _
theorem binS_gtr (a b : List UInt8) : binV .gtr (.str a) (.str b) = some (.bool (!(Op.bytesLess a b || a == b))) := nrfl _
theorem binS_geq (a b : List UInt8) : binV .geq (.str a) (.str b) = some (.bool (!Op.bytesLess a b)) := nrfl _
theorem unOf_neg (k : IntKind) (n : Int) : unOf .neg (.int k n) = some (.int k (k.wrap (0 - n))) := nrfl _
theorem unOf_xor (k : IntKind) (n : Int) : unOf .xor (.int k n) = some (.int k (k.wrap (BitVec.ofInt k.bits (if k.signed then -1 else k.max) ^^^ BitVec.ofInt k.bits n).toNat)) := nrfl _
theorem unOf_not (b : Bool) : unOf .not (.bool b) = some (.bool (!b)) := nrfl _
theorem nilV_nil  : nilV .nil = some true := nrfl _
theorem nilV_nonnil  : nilV .nonnil = some false := nrfl _
theorem nilV_any  : nilV .any = none := nrfl _
theorem nilV_zero  : nilV .zero = none := nrfl _
theorem cells_int (k : IntKind) (n : Int) : DV.cells (.int k n) = some [.int k n] := nrfl _
theorem one_int (k : IntKind) (n : Int) : DV.one (.int k n) = true := nrfl _
theorem cells_bool (b : Bool) : DV.cells (.bool b) = some [.bool b] := nrfl _
theorem one_bool (b : Bool) : DV.one (.bool b) = true := nrfl _
theorem cells_str (s : List UInt8) : DV.cells (.str s) = some [.str s] := nrfl _
theorem one_str (s : List UInt8) : DV.one (.str s) = true := nrfl _
theorem cells_sl (sz : Nat) (rows : List (List DV)) (k : SK) : DV.cells (.sl sz rows k) = some [.sl sz rows k] := nrfl _
theorem one_sl (sz : Nat) (rows : List (List DV)) (k : SK) : DV.one (.sl sz rows k) = true := nrfl _
theorem cells_own (o off n : Nat) : DV.cells (.own o off n) = some [.own o off n] := nrfl _
theorem one_own (o off n : Nat) : DV.one (.own o off n) = true := nrfl _
theorem cells_ptr (o i j : Nat) : DV.cells (.ptr o i j) = some [.ptr o i j] := nrfl _
theorem one_ptr (o i j : Nat) : DV.one (.ptr o i j) = true := nrfl _
theorem cells_rp (row : List DV) (j : Nat) : DV.cells (.rp row j) = some [.rp row j] := nrfl _
theorem one_rp (row : List DV) (j : Nat) : DV.one (.rp row j) = true := nrfl _
theorem cells_agg (cs : List DV) : DV.cells (.agg cs) = some cs := nrfl _
theorem rowAt_f (sz : Nat) (row : List DV) (j : Nat) : rowAt false sz row j = row[j]? := nrfl _
theorem rowAt_t (sz : Nat) (row : List DV) (j : Nat) : rowAt true sz row j = if j + sz ≤ row.length then some (.agg ((row.drop j).take sz)) else none := nrfl _
theorem rowSet_eq (row : List DV) (j : Nat) (cs : List DV) : rowSet row j cs = row.take j ++ cs ++ row.drop (j + cs.length) := nrfl _
theorem rows_box (cs : List DV) : Ob.rows (.box cs) = [cs] := nrfl _
theorem rows_arr (sz : Nat) (rows : List (List DV)) : Ob.rows (.arr sz rows) = rows := nrfl _
theorem setRow_box (cs : List DV) (i : Nat) (row : List DV) : Ob.setRow (.box cs) i row = .box row := nrfl _
theorem setRow_arr (sz : Nat) (rows : List (List DV)) (i : Nat) (row : List DV) : Ob.setRow (.arr sz rows) i row = .arr sz (rows.set i row) := nrfl _
theorem freezes_nil (st : St) : St.freezes [] st = st := nrfl _
theorem freezes_cons (o : Nat) (l : List Nat) (st : St) : St.freezes (o :: l) st = St.freezes l (st.freeze o) := nrfl _
theorem ownIds_own (o off n : Nat) : ownIds (.own o off n) = [o] := nrfl _
theorem ownIds_sl (sz : Nat) (rows : List (List DV)) (k : SK) : ownIds (.sl sz rows k) = [] := nrfl _
theorem ownIds_agg (cs : List DV) : ownIds (.agg cs) = ownL cs := nrfl _
theorem ownL_nil  : ownL [] = [] := nrfl _
theorem ownL_int (k : IntKind) (n : Int) (l : List DV) : ownL (.int k n :: l) = ownL l := nrfl _
theorem frz0_int (o sz : Nat) (rows : List (List DV)) (k : IntKind) (n : Int) : DV.frz0 o sz rows (.int k n) = .int k n := nrfl _
theorem frzT_int (o sz : Nat) (rows : List (List DV)) (k : IntKind) (n : Int) : DV.frzT o sz rows (.int k n) = .int k n := nrfl _
theorem ownL_bool (b : Bool) (l : List DV) : ownL (.bool b :: l) = ownL l := nrfl _
theorem frz0_bool (o sz : Nat) (rows : List (List DV)) (b : Bool) : DV.frz0 o sz rows (.bool b) = .bool b := nrfl _
theorem frzT_bool (o sz : Nat) (rows : List (List DV)) (b : Bool) : DV.frzT o sz rows (.bool b) = .bool b := nrfl _
theorem ownL_str (s : List UInt8) (l : List DV) : ownL (.str s :: l) = ownL l := nrfl _
theorem frz0_str (o sz : Nat) (rows : List (List DV)) (s : List UInt8) : DV.frz0 o sz rows (.str s) = .str s := nrfl _
theorem frzT_str (o sz : Nat) (rows : List (List DV)) (s : List UInt8) : DV.frzT o sz rows (.str s) = .str s := nrfl _
theorem ownL_sl (sz : Nat) (rows : List (List DV)) (k : SK) (l : List DV) : ownL (.sl sz rows k :: l) = ownL l := nrfl _
theorem frz0_sl (o sz : Nat) (rows : List (List DV)) (sz2 : Nat) (rows2 : List (List DV)) (k : SK) : DV.frz0 o sz rows (.sl sz2 rows2 k) = .sl sz2 rows2 k := nrfl _
theorem frzT_sl (o sz : Nat) (rows : List (List DV)) (sz2 : Nat) (rows2 : List (List DV)) (k : SK) : DV.frzT o sz rows (.sl sz2 rows2 k) = .sl sz2 rows2 k := nrfl _
theorem ownL_ptr (o i j : Nat) (l : List DV) : ownL (.ptr o i j :: l) = ownL l := nrfl _
theorem frz0_ptr (o sz : Nat) (rows : List (List DV)) (o2 i j : Nat) : DV.frz0 o sz rows (.ptr o2 i j) = .ptr o2 i j := nrfl _
theorem frzT_ptr (o sz : Nat) (rows : List (List DV)) (o2 i j : Nat) : DV.frzT o sz rows (.ptr o2 i j) = .ptr o2 i j := nrfl _
theorem ownL_rp (row : List DV) (j : Nat) (l : List DV) : ownL (.rp row j :: l) = ownL l := nrfl _
theorem frz0_rp (o sz : Nat) (rows : List (List DV)) (row : List DV) (j : Nat) : DV.frz0 o sz rows (.rp row j) = .rp row j := nrfl _
theorem frzT_rp (o sz : Nat) (rows : List (List DV)) (row : List DV) (j : Nat) : DV.frzT o sz rows (.rp row j) = .rp row j := nrfl _
theorem ownL_own (o off n : Nat) (l : List DV) : ownL (.own o off n :: l) = o :: ownL l := nrfl _
theorem frz0_own (o sz : Nat) (rows : List (List DV)) (o2 off n : Nat) : DV.frz0 o sz rows (.own o2 off n) = if o2 = o ∧ off + n ≤ rows.length then .sl sz ((rows.drop off).take n) .any else .own o2 off n := nrfl _
theorem frzT_own (o sz : Nat) (rows : List (List DV)) (o2 off n : Nat) : DV.frzT o sz rows (.own o2 off n) = if o2 = o ∧ off + n ≤ rows.length then .sl sz ((rows.drop off).take n) .any else .own o2 off n := nrfl _
theorem frzT_undef (o sz : Nat) (rows : List (List DV)) : DV.frzT o sz rows .undef = .undef := nrfl _
theorem frzT_agg (o sz : Nat) (rows : List (List DV)) (cs : List DV) : DV.frzT o sz rows (.agg cs) = .agg (cs.map (DV.frz0 o sz rows)) := nrfl _
theorem frzT_tup (o sz : Nat) (rows : List (List DV)) (cs : List DV) : DV.frzT o sz rows (.tup cs) = .tup (cs.map (DV.frzA o sz rows)) := nrfl _
theorem obfrz_box (o sz : Nat) (rows : List (List DV)) (cs : List DV) : Ob.frz o sz rows (.box cs) = .box (cs.map (DV.frz0 o sz rows)) := nrfl _
theorem obfrz_arr (o sz : Nat) (rows : List (List DV)) (s : Nat) (r : List (List DV)) : Ob.frz o sz rows (.arr s r) = .arr s r := nrfl _

end Go.Proofs.Ytaopaongpoecoaa
