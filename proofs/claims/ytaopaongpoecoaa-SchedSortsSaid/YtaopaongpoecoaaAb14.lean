/- What code does to abstract states; the program does just that. -/
import Derived.Test.YtaopaongpoecoaaAb13
set_option linter.unusedVariables false
set_option linter.unusedSimpArgs false
namespace Go.Proofs.Ytaopaongpoecoaa
open Go.RowKit

/-- A call, as its caller sees it. -/
def CallK (E : Prg) (f : Nat) (vals : List DV) (T : Objs) (K : DV → Objs → Prop) : Prop :=
  ∃ T1 R, T1.length = T.length ∧ (∀ (k : Nat) (ob : Ob), T1[k]? = some (some ob) → T[k]? = some (some ob)) ∧ GCalls E f vals T1 R ∧
    ∀ r T1', R r T1' → T1.length ≤ T1'.length → ∃ T', Merged T T1 T1' T' ∧ K r T'

theorem CallK.pure {E : Prg} {f : Nat} {vals : List DV} {T : Objs} {K : DV → Objs → Prop} {R : Nat → DV → Objs → Prop} (h : PCalls E f vals R) (hK : ∀ r os, R T.length r os → K r (T ++ os)) : CallK E f vals T K :=
  ⟨_, _, by simp, fun k ob hk => (getElem?_rep hk).elim, h T.length, fun r T1' ⟨os, hT, hR⟩ _ => ⟨T ++ os, by subst hT; exact Merged.pure _ _, hK r os hR⟩⟩

/-- A call that is handed all there is. -/
theorem CallK.all {E : Prg} {f : Nat} {vals : List DV} {T : Objs} {K : DV → Objs → Prop} (h : GCalls E f vals T K) : CallK E f vals T K :=
  ⟨T, K, rfl, fun _ _ h => h, h, fun r T1' hr _ => ⟨T1', Merged.all, hr⟩⟩
/-- A call that is handed one object (by a pointer): what it makes of it. -/
def MCalls (E : Prg) (f : Nat) (args : Nat → List DV) (ob : Ob) (R : Nat → Nat → DV → Option Ob → Objs → Prop) : Prop :=
  ∀ n k, k < n → GCalls E f (args k) ((List.replicate n none).set k (some ob)) fun r T' => ∃ x os, T' = (List.replicate n none).set k x ++ os ∧ R n k r x os

theorem CallK.one {E : Prg} {f : Nat} {args : Nat → List DV} {T : Objs} {K : DV → Objs → Prop} {ob : Ob} {R : Nat → Nat → DV → Option Ob → Objs → Prop} (h : MCalls E f args ob R) (k : Nat) (hk : T[k]? = some (some ob))
    (hK : ∀ r x os, R T.length k r x os → K r (T.set k x ++ os)) : CallK E f (args k) T K := by
  have hlt : k < T.length := (List.getElem?_eq_some_iff.1 hk).1
  refine ⟨_, _, by simp, fun j o hj => ?_, h T.length k hlt, fun r T1' ⟨x, os, hT, hR⟩ _ => ⟨T.set k x ++ os, by subst hT; exact Merged.one _ _ _ _ _ hk, hK r x os hR⟩⟩
  rw [getElem?_set] at hj
  by_cases e : k = j
  · subst e
    rw [if_pos rfl, if_pos (by simpa using hlt)] at hj
    rw [hk]; simpa using hj
  · rw [if_neg e] at hj; exact (getElem?_rep hj).elim
theorem CallK.mono {E : Prg} {f : Nat} {vals : List DV} {T : Objs} {K K' : DV → Objs → Prop} (h : CallK E f vals T K) (hk : ∀ d T', K d T' → K' d T') : CallK E f vals T K' := by
  obtain ⟨T1, R, h1, h2, h3, h4⟩ := h
  exact ⟨T1, R, h1, h2, h3, fun r T1' hR hl => let ⟨T', hm, hK⟩ := h4 r T1' hR hl; ⟨T', hm, hk _ _ hK⟩⟩

/-- What is known of functions that take nothing over: of which arguments, and what they come to (n: how many objects there are ahead). -/
structure FSpec where
  pre : Prop
  res : Nat → DV × Objs
/-- What is known of functions that are handed objects: of which tables, what they come to and which table is behind them. -/
structure HSpec where
  pre : Objs → Prop
  res : Objs → DV × Objs
/-- What is to be shown of a call, of any table, for what is to hold behind it. -/
structure PSpec where
  wp : Objs → (DV → Objs → Prop) → Prop
  mono : ∀ T K K', wp T K → (∀ d T', K d T' → K' d T') → wp T K'
def HSpec.toP (s : HSpec) : PSpec := ⟨fun T K => s.pre T ∧ K (s.res T).1 (s.res T).2, fun T K K' h hk => ⟨h.1, hk _ _ h.2⟩⟩
inductive FS where
  | o (s : FSpec)
  | p (s : PSpec)
def FS.h (s : HSpec) : FS := .p s.toP
abbrev FTab := Nat → List DV → Option FS
def HOk (E : Prg) (f : Nat) (args : List DV) (s : HSpec) : Prop := ∀ (T : Objs) (K : DV → Objs → Prop), s.pre T → K (s.res T).1 (s.res T).2 → CallK E f args T K
def FOk (E : Prg) (F : FTab) : Prop := (∀ f args s, F f args = some (.o s) → s.pre → PCalls E f args fun n r os => r = (s.res n).1 ∧ os = (s.res n).2) ∧ ∀ f args s, F f args = some (.p s) → ∀ (T : Objs) (K : DV → Objs → Prop), s.wp T K → CallK E f args T K
def callV (E : Prg) (x : Option FS) (dr : Bool) (f : Nat) (args : List DV) (T : Objs) (K : DV → Objs → Prop) [Tg K] (_ : True := trivial) : Prop :=
  match (generalizing := false) x with
  | some (.o s) => s.pre ∧ K (s.res T.length).1 (T ++ (s.res T.length).2)
  | some (.p s) => if dr = true then False else s.wp T K
  | none => if dr = true then False else CallK E f args T K
def DV.id : DV → Option Nat
  | .own o _ _ => some o
  | .ptr o _ _ => some o
  | _ => none

def ownIds : DV → List Nat
  | .own o _ _ => [o]
  | .agg cs => cs.filterMap fun
    | .own o _ _ => some o
    | _ => none
  | _ => []
def St.freezes : List Nat → St → St
  | [], st => st
  | o :: l, st => St.freezes l (st.freeze o)
/-- What an operation put is let go of, as an object of one's own, where that is told. -/
def St.fzd (z : Bool) (dst : Option Nat) (st : St) : St :=
  match z, dst with
  | true, some t => st.freezes (ownIds (st.get t))
  | _, _ => st
def St.rep (t : Nat) (d : DV) : List (Nat × DV) → List (Nat × DV)
  | [] => []
  | (k, x) :: l => if k = t then (t, d) :: l else (k, x) :: St.rep t d l
/-- It's known what a temporary holds. -/
def St.know (t : Nat) (b : Bool) (st : St) : St := { st with env := St.rep t (.bool b) st.env }
def St.knows (c : Opd) (b : Bool) (st : St) : St :=
  match c with
  | .t n => st.know n b
  | _ => st

/-- A call of a func that a value is: one that captures nothing, or its captures behind the arguments. Where operations are drawn: none. -/
def calldV (E : Prg) (F : FTab) (dr : Bool) (d : DV) (args : List DV) (T : Objs) (K : DV → Objs → Prop) [Tg K] (_ : True := trivial) : Prop :=
  match (generalizing := false) dr, d with
  | false, .lit (.func (.func f) a b) => a.size = 0 ∧ b.size = 0 ∧ hasBody E.P f = true ∧ callV E (F f args) false f args T K
  | false, .wrap (.clo f) cs => hasBody E.P f = true ∧ callV E (F f (args ++ cs)) false f (args ++ cs) T K
  | _, _ => False
theorem calldV_drawn {E : Prg} {F : FTab} {d : DV} {args : List DV} {T : Objs} {K : DV → Objs → Prop} (h : calldV E F true d args T K) : False := by simp [calldV] at h

/-- A type's method by its name: the function, and whether it takes what the receiver points to (of which size, a struct or not). -/
def methRow (P : Program) (t : TypeId) (name : String) : Option (FuncId × Option (Bool × Nat)) :=
  match P.info? t with
  | none => none
  | some inf => match inf.methods.find? (·.name == name) with
    | none => none
    | some m => if m.path.size = 0 then (match m.func with
      | none => none
      | some (f, pr) => (match P.underlying t with
        | none => none
        | some (.pointer e) => if pr = true then some (f, none) else (match tyAgg P e, tySize P e with
          | some ag, some sz => some (f, some (ag, sz))
          | _, _ => none)
        | some _ => if pr = true then none else some (f, none))) else none
def invRecv (T : Objs) (way : Option (Bool × Nat)) (d : DV) : Option DV :=
  match way with
  | none => some d
  | some (ag, sz) => (match d with
    | .ptr o i j => (match T[o]? with
      | some (some ob) => (match ob.rows[i]? with
        | some row => rowAt ag sz row j
        | none => none)
      | _ => none)
    | .rp row j => rowAt ag sz row j
    | _ => none)
def invRow (T : Objs) (d : DV) : Option (FuncId × Option (Bool × Nat)) → Option (FuncId × DV)
  | some (f, way) => (invRecv T way d).map fun x => (f, x)
  | none => none
/-- Which function an interface's method is, and what it takes as its receiver. -/
def invOf (E : Prg) (T : Objs) (d : DV) (name : String) : Option (FuncId × DV) :=
  match d with
  | .wrap (.ifc t) [x] => invRow T x (methRow E.P t name)
  | .wrap (.ifa t) cs => invRow T (.agg cs) (methRow E.P t name)
  | _ => none
def invV (E : Prg) (F : FTab) (dr : Bool) (r : Option (FuncId × DV)) (args : List DV) (T : Objs) (K : DV → Objs → Prop) [Tg K] (_ : True := trivial) : Prop :=
  match (generalizing := false) dr, r with
  | false, some (f, d) => hasBody E.P f = true ∧ callV E (F f (d :: args)) false f (d :: args) T K
  | _, _ => False
theorem invV_drawn {E : Prg} {F : FTab} {r : Option (FuncId × DV)} {args : List DV} {T : Objs} {K : DV → Objs → Prop} (h : invV E F true r args T K) : False := by simp [invV] at h

/-- One operation. -/
def opWp (E : Prg) (F : FTab) (dr : Bool) (o : ROper) (K : St → Prop) (st : St) : Prop :=
  match o.op with
  | .call f l => callV E (F f (l.map (Opd.ev E st))) dr f (l.map (Opd.ev E st)) st.objs fun d T' => K ((({ st with objs := T' } : St).put o.dst d).fzd o.fz o.dst)
  | .calld y l => calldV E F dr (Opd.ev E st y) (l.map (Opd.ev E st)) st.objs fun d T' => K ((({ st with objs := T' } : St).put o.dst d).fzd o.fz o.dst)
  | .inv y name l => invV E F dr (invOf E st.objs (Opd.ev E st y) name) (l.map (Opd.ev E st)) st.objs fun d T' => K ((({ st with objs := T' } : St).put o.dst d).fzd o.fz o.dst)
  | op => bindO (rvl E st op) fun p => K ((({ st with objs := p.2 } : St).put o.dst p.1).fzd o.fz o.dst)

def boolV : Value → Bool
  | .bool _ => true
  | _ => false
/-- What stands where an operation wasn't wanted. -/
def DV.no : DV := .lit Go.undef
/-- What is to be shown of a guard's value: it is told, or it wasn't wanted itself. -/
def bindG (d : DV) (f : Bool → Prop) (g : Prop) [Tg f] [Tg g] (_ : True := trivial) : Prop :=
  match (generalizing := false) d with
  | .bool b => f b
  | .lit v => boolV v = false ∧ g
  | _ => False
def stepWp (E : Prg) (F : FTab) (dr : Bool) (o : ROper) (K : St → Prop) (st : St) : Prop :=
  match o.guard with
  | none => opWp E F dr o K st
  | some (t, want) => bindG (st.get t) (fun b => cnd (b == want) (opWp E F dr o K (st.know t want)) (K ((st.know t (!want)).put o.dst .no))) (K (st.put o.dst .no))

def opsWp (E : Prg) (F : FTab) : List ROper → (St → Prop) → St → Prop
  | [], K, st => K st
  | o :: l, K, st => stepWp E F false o (opsWp E F l K) st

/-- An operation reads no object that another writes. -/
def clearOf (E : Prg) (st : St) (op : ROp) (p : Opd) : Prop := ∀ x ∈ op.opds, ∀ o, DV.id (x.ev E st) = some o → DV.id (p.ev E st) ≠ some o

def OT.wp (E : Prg) (F : FTab) : OT → (St → Prop) → St → Prop
  | .done, K, st => K st
  | .fin o, K, st => stepWp E F false o K st
  | .op o k, K, st => stepWp E F true o (k.wp E F K) st
  | .take o ps k, K, st => (∀ p ∈ ps, clearOf E st o.op p) ∧ stepWp E F true o (k.wp E F K) st
  | .alt a b, K, st => a.wp E F K st ∧ b.wp E F K st

def St.cut (lo : Nat) (keep : List Nat) (st : St) : St := { st with env := st.env.filter fun x => x.1 < lo || keep.contains x.1 }

def thenQ (K : St → Prop) (Q : Exit → St → Prop) : Exit → St → Prop
  | .normal, st => K st
  | e, st => Q e st
def inBlk (id : Nat) (Q : Exit → St → Prop) : Exit → St → Prop
  | .exit id', st => if id' = id then Q .normal st else Q (.exit id') st
  | e, st => Q e st

/-- The code does what Q says of it, from each frame and world that the state tells of. -/
def AWp (E : Prg) (n : Nat) (c : Code) (Q : Exit → St → Prop) (st : St) : Prop :=
  ∀ C a w, C.n = n → RelSt E C st a w → c.wp E.P (fun e a' w' => ∃ st', Q e st' ∧ RelSt E C st' a' w') a w

def LoopWp (E : Prg) (n : Nat) (b : RC) (Q : Exit → St → Prop) (st : St) [Tg Q] [Tg b] (_ : True := trivial) : Prop := ∀ c ann, comp E.P n ann c = some b → AWp E n (.loop c) Q st

def RC.wp (E : Prg) (F : FTab) (n : Nat) : RC → (Exit → St → Prop) → St → Prop
  | .skip, Q, st => Q .normal st
  | .reg ops lo keep, Q, st => opsWp E F ops (fun st' => Q .normal (st'.cut lo keep)) st
  | .regD t lo keep, Q, st => t.wp E F (fun st' => Q .normal (st'.cut lo keep)) st
  | .seq a b, Q, st => a.wp E F n (thenQ (b.wp E F n Q) Q) st
  | .cond c t e, Q, st => match c.ev E st with
    | .bool b => cnd b (t.wp E F n Q (st.knows c true)) (e.wp E F n Q (st.knows c false))
    | _ => False
  | .blk id b, Q, st => b.wp E F n (inBlk id Q) st
  | .loop b, Q, st => LoopWp E n b Q st
  | .ext id, Q, st => Q (.exit id) st
  | .ret, Q, st => Q .ret st

theorem St.rep_self (t : Nat) (d : DV) : ∀ l : List (Nat × DV), St.look t l = d → St.rep t d l = l
  | [], _ => rfl
  | (k, x) :: l, h => by
    simp only [St.look] at h
    simp only [St.rep]
    by_cases e : k = t
    · rw [if_pos e] at h ⊢; subst e h; rfl
    · rw [if_neg e] at h ⊢; rw [St.rep_self t d l h]
theorem St.know_self {st : St} {t : Nat} {b : Bool} (h : st.get t = .bool b) : st.know t b = st := by
  unfold St.know
  rw [St.rep_self t _ st.env h]
theorem St.knows_self {E : Prg} {st : St} {c : Opd} {b : Bool} (h : c.ev E st = .bool b) : st.knows c b = st := by
  cases c with
  | t n => exact St.know_self h
  | _ => rfl

theorem St.look_filter (p : Nat → Bool) (t : Nat) : ∀ l : List (Nat × DV), St.look t (l.filter fun x => p x.1) = if p t then St.look t l else .undef
  | [] => by simp [St.look]
  | (k, d) :: l => by
    have ih := St.look_filter p t l
    simp only [List.filter_cons]
    by_cases hp : p k = true
    · simp only [hp, if_true, St.look]
      by_cases he : k = t
      · subst he; simp [hp]
      · simp [he, ih]
    · simp only [hp, if_false, St.look]
      by_cases he : k = t
      · subst he
        rw [if_pos rfl]
        simp only [Bool.false_eq_true, if_false, ih, hp]
      · rw [if_neg he]
        exact ih

/-- Less is known. -/
theorem RelG.less {E : Prg} {C : Ctx} {G : Gh} {st st' : St} {a : Act} {w : World} (h : RelG E C G st a w) (he : ∀ t, st'.get t = .undef ∨ st'.get t = st.get t) (hl : st'.objs.length = st.objs.length)
    (ho : ∀ (k : Nat) (ob : Ob), st'.objs[k]? = some (some ob) → st.objs[k]? = some (some ob)) : RelG E C G st' a w :=
  ⟨fun t => by
    rcases he t with h1 | h1
    · rw [h1]; exact .undef _
    · rw [h1]; exact h.env t, h.num, h.defs, h.heap.sub hl ho,
   ⟨h.frm.os, h.frm.tape, h.frm.output, h.frm.size, h.frm.blk, h.frm.cell, h.frm.frz, fun k r q m hk => h.frm.mine k r q m (ho k r hk), h.frm.rdn, h.frm.le, h.frm.mko⟩, h.glob⟩

theorem RelSt.cut {E : Prg} {C : Ctx} {st : St} {a : Act} {w : World} (h : RelSt E C st a w) (lo : Nat) (keep : List Nat) : RelSt E C (st.cut lo keep) a w := by
  obtain ⟨G, h⟩ := h
  refine ⟨G, h.less (fun t => ?_) rfl (fun k ob hk => hk)⟩
  simp only [St.get, St.cut]
  rw [St.look_filter (fun k => decide (k < lo) || keep.contains k)]
  split
  · exact .inr rfl
  · exact .inl rfl

theorem RelSt.freezes {E : Prg} {C : Ctx} {a : Act} {w : World} : ∀ (L : List Nat) {st : St}, RelSt E C st a w → RelSt E C (st.freezes L) a w
  | [], _, h => h
  | o :: L, st, h => by
    obtain ⟨G, h⟩ := h
    exact RelSt.freezes L (h.freeze o)

theorem RelSt.fzd {E : Prg} {C : Ctx} {st : St} {a : Act} {w : World} (h : RelSt E C st a w) (z : Bool) (dst : Option Nat) : RelSt E C (st.fzd z dst) a w := by
  unfold St.fzd
  split
  · exact h.freezes _
  · exact h

/-- A function that is entered. -/
theorem enter_sound {E : Prg} {F : FTab} (hF : FOk E F) {dr : Bool} {o : Oper} {f : Nat} {args : List DV} {vals : Array Value} {C : Ctx} {st : St} {G : Gh} {a : Act} {w : World} {K : St → Prop} {z : Bool} (hd : ∀ t, o.dst = some t → t < C.n) (hG : RelG E C G st a w)
    (hal : vals.size = args.length) (hrel : ∀ (i : Nat) d, args[i]? = some d → Rel G d (vals.getD i undef)) (hrun : (execOp a.eval o).run E.P w = .ok (.enter f vals) w)
    (h : callV E (F f args) dr f args st.objs fun d T' => K ((({ st with objs := T' } : St).put o.dst d).fzd z o.dst))
    {next : Act → World → Prop} {Q : Exit → Act → World → Prop} (hnext : ∀ st' a' w', K st' → RelSt E C st' a' w' → next a' w') : o.wp E.P a w next Q := by
  have h' : CallK E f args st.objs fun d T' => K ((({ st with objs := T' } : St).put o.dst d).fzd z o.dst) := by
    simp only [callV] at h
    split at h
    · rename_i s hs
      refine CallK.pure (hF.1 f _ s hs h.1) fun d os ⟨h1, h2⟩ => ?_
      subst h1 h2
      exact h.2
    · rename_i s hs
      split at h
      · exact h.elim
      · exact hF.2 f _ s hs _ _ h
    · split at h
      · exact h.elim
      · exact h
  obtain ⟨T1, R, hl1, hs1, hg, hK⟩ := h'
  have hcalls := hg G w vals hG.glob (hG.heap.sub hl1 hs1) hal hrel
  unfold Oper.wp
  rw [hrun, Oper.upon_enter]
  refine hcalls.mono fun e w' ⟨v, rr, T1', G', he, hR, hlen, hrel', hh, hf⟩ => ?_
  subst he
  obtain ⟨T', hm, hk⟩ := hK rr T1' hR hlen
  exact hnext _ _ _ hk (RelSt.fzd ⟨G', (hG.called hm hh hf (by omega)).put hd hrel'⟩ _ _)

theorem run_callFunc_body {P : Program} {f : Nat} {vals : Array Value} {w : World} (hb : hasBody P f = true) : (callFunc f vals).run P w = .ok (.enter f vals) w := by
  unfold hasBody at hb
  cases hf : P.funcs[f]? with
  | none => rw [hf] at hb; cases hb
  | some fn =>
    rw [hf] at hb
    simp only [Bool.and_eq_true, Bool.not_eq_true'] at hb
    have h4 : fn.body ≠ none := fun e => by simp [e] at hb
    have h3 : ¬ fn.name = "runtime.NumGoroutine" := by simpa using hb.2
    simp [callFunc, hf, h3, h4]
theorem depth_pos (P : Program) : ∃ n, P.types.size + Made.depth = n + 1 := by
  have h : 0 < Made.depth := by decide
  exact ⟨P.types.size + Made.depth - 1, by omega⟩
theorem wrapNilChk_some (xt : TypeId) (A : Addr) (a b : ByteArray) : Builtin.ssaWrapNilChk_ #[xt] xt #[.pointer (some A), .string a, .string b] = pure (.pointer (some A)) := rfl

theorem run_method {P : Program} {G : Gh} {T : Objs} {w : World} (hh : Heap G T w) {t : TypeId} {name : String} {f : FuncId} {way : Option (Bool × Nat)} {x d : DV} {v : Value} (hm : methRow P t name = some (f, way)) (hx : invRecv T way x = some d) (hr : Rel G x v) :
    ∃ u, (method (P.types.size + Made.depth) t v name).run P w = .ok (f, u) w ∧ Rel G d u := by
  obtain ⟨n, hn⟩ := depth_pos P
  rw [hn]
  unfold methRow at hm
  split at hm
  · cases hm
  rename_i inf hinf
  split at hm
  · cases hm
  rename_i m hfind
  split at hm
  rotate_left
  · cases hm
  rename_i hpath
  have hp : m.path = #[] := Array.eq_empty_of_size_eq_zero hpath
  split at hm
  · cases hm
  rename_i f' pr hfunc
  have hti : (typeInfo t).run P w = .ok inf w := by simp [typeInfo, hinf]
  split at hm
  · cases hm
  · rename_i e hu
    split at hm
    · rename_i hpr
      subst hpr
      obtain ⟨rfl, rfl⟩ := Prod.mk.inj (Option.some.inj hm)
      obtain rfl := Option.some.inj hx
      exact ⟨v, by simp [method, hti, hfind, hp, follow, hfunc, receiverAt, run_underlying hu, Go.Place.get], hr⟩
    · rename_i hpr
      have hpr : pr = false := by simpa using hpr
      subst hpr
      split at hm
      rotate_left
      · cases hm
      rename_i ag sz hag hsz
      obtain ⟨rfl, rfl⟩ := Prod.mk.inj (Option.some.inj hm)
      have fin : ∀ A u, v = .pointer (some A) → (loadVar e A).run P w = .ok u w → (method (n + 1) t v name).run P w = .ok (f', u) w := fun A u hv hl => by
        subst hv
        simp [method, hti, hfind, hp, follow, hfunc, receiverAt, run_underlying hu, Go.Place.get, strVal, wrapNilChk_some, asAddr, hl]
      simp only [invRecv] at hx
      split at hx
      · rename_i o i j
        split at hx
        · rename_i ob hob
          split at hx
          · rename_i row hrow
            obtain ⟨p, _, _, rfl, hA⟩ := ptr_cells hh hob hrow hr
            obtain ⟨u, hu1, hu2⟩ := load_row hag hsz hA hx
            exact ⟨u, fin _ u rfl hu1, hu2⟩
          · cases hx
        · cases hx
      · rename_i row j
        obtain ⟨A, rfl, _, hA⟩ := rp_cells hh hr
        obtain ⟨u, hu1, hu2⟩ := load_row hag hsz hA hx
        exact ⟨u, fin _ u rfl hu1, hu2⟩
      · cases hx
  · rename_i k hk hu
    split at hm
    · cases hm
    · rename_i hpr
      have hpr : pr = false := by simpa using hpr
      subst hpr
      obtain ⟨rfl, rfl⟩ := Prod.mk.inj (Option.some.inj hm)
      obtain rfl := Option.some.inj hx
      refine ⟨v, ?_, hr⟩
      cases k <;> first | exact (hk _ rfl).elim | simp [method, hti, hfind, hp, follow, hfunc, receiverAt, run_underlying hu, Go.Place.get]

theorem run_invOf {E : Prg} {G : Gh} {T : Objs} {w : World} (hh : Heap G T w) {name : String} {f : FuncId} {y d : DV} {v : Value} (h : invOf E T y name = some (f, d)) (hr : Rel G y v) (hb : hasBody E.P f = true) (args : Array Value) :
    ∃ u, (callMethod v name args).run E.P w = .ok (.enter f (#[u] ++ args)) w ∧ Rel G d u := by
  have fin : ∀ t x x' way, methRow E.P t name = some (f, way) → invRecv T way x' = some d → v = .iface t x → Rel G x' x → ∃ u, (callMethod v name args).run E.P w = .ok (.enter f (#[u] ++ args)) w ∧ Rel G d u := fun t x x' way hm hx hv hrx => by
    subst hv
    obtain ⟨u, h1, h2⟩ := run_method hh hm hx hrx
    exact ⟨u, by simp [callMethod, h1, run_callFunc_body hb], h2⟩
  have row : ∀ t x', invRow T x' (methRow E.P t name) = some (f, d) → ∃ way, methRow E.P t name = some (f, way) ∧ invRecv T way x' = some d := fun t x' h => by
    cases hm : methRow E.P t name with
    | none => rw [hm] at h; cases h
    | some p =>
      obtain ⟨f', way⟩ := p
      rw [hm] at h
      simp only [invRow] at h
      obtain ⟨d', h1, h2⟩ := Option.map_eq_some_iff.1 h
      obtain ⟨rfl, rfl⟩ := Prod.mk.inj h2
      exact ⟨way, rfl, h1⟩
  unfold invOf at h
  split at h
  · rename_i t x
    obtain ⟨way, h1, h2⟩ := row t _ h
    cases hr with
    | ifc _ _ u hu => exact fin t u _ way h1 h2 rfl hu
  · rename_i t cs
    obtain ⟨way, h1, h2⟩ := row t _ h
    cases hr with
    | ifa _ _ vs hs hv => exact fin t _ _ way h1 h2 rfl (.agg cs vs hs hv)
  · cases h

/-- An operation that is carried out. -/
theorem opWp_sound {E : Prg} {F : FTab} (hF : FOk E F) {dr : Bool} {n : Nat} {fz : List Nat} {ops : Array Oper} {o : Oper} {r : ROper} (hc : compOper E.P n fz ops o = some r) {C : Ctx} (hn : C.n = n) {st : St} {a : Act} {w : World} {K : St → Prop} (hr : RelSt E C st a w) (h : opWp E F dr r K st)
    {next : Act → World → Prop} {Q : Exit → Act → World → Prop} (hnext : ∀ st' a' w', K st' → RelSt E C st' a' w' → next a' w') : o.wp E.P a w next Q := by
  obtain ⟨hop, hrd, hdst, _⟩ := compOper_inv hc
  have hd : ∀ t, o.dst = some t → t < C.n := fun t ht => by rw [hn]; exact dstOk_lt hdst t ht
  generalize hrop : r.op = rop at hop
  unfold opWp at h
  rw [hrop, hrd] at h
  have harr : ∀ c : Call, c.args.map a.eval = (c.args.toList.map a.eval).toArray := fun c => by apply Array.ext'; simp
  rcases compOp_ok hop with ⟨c, f, l, ho, rfl, hcal, hargs, hb⟩ | ⟨c, t, l, ho, rfl, hcal, hargs⟩ | ⟨hok, hnc⟩ | ⟨c, x, y, name, l, ho, rfl, hcal, hy, hargs⟩
  · obtain ⟨G, hG⟩ := hr
    obtain ⟨hal, hrel⟩ := cArgs_rel hG hargs
    exact enter_sound hF hd hG (vals := c.args.map a.eval) (by simp; simpa using hal) (by rw [harr]; exact hrel) (by
      simp [execOp, ho, resolve, hcal, Act.eval, Deferred.ofValue, invoke, run_callFunc_body hb]) h hnext
  · obtain ⟨G, hG⟩ := hr
    obtain ⟨hal, hrel⟩ := cArgs_rel hG hargs
    have hev := hG.ev (x := .tmp t) rfl
    simp only [calldV] at h
    split at h
    · rename_i f a0 b0 hy
      obtain ⟨ha0, hb0, hb, h⟩ := h
      have hla : a0 = #[] := Array.eq_empty_of_size_eq_zero ha0
      have hlb : b0 = #[] := Array.eq_empty_of_size_eq_zero hb0
      subst hla hlb
      have hev' : a.eval (.tmp t) = .func (.func f) #[] #[] := by
        rw [hy] at hev
        generalize a.eval (.tmp t) = v at hev ⊢
        cases hev
        rfl
      exact enter_sound hF hd hG (vals := c.args.map a.eval) (by simp; simpa using hal) (by rw [harr]; exact hrel) (by
        simp [execOp, ho, resolve, hcal, hev', Deferred.ofValue, invoke, run_callFunc_body hb]) h hnext
    · rename_i f cs hy
      obtain ⟨hb, h⟩ := h
      rw [hy] at hev
      generalize hu : a.eval (.tmp t) = v at hev
      cases hev with
      | clo _ _ vs hs hv =>
        refine enter_sound hF hd hG (vals := c.args.map a.eval ++ vs) (by simp [hs]; simpa using hal) (fun i d hi => ?_) (by
          simp [execOp, ho, resolve, hcal, hu, Deferred.ofValue, invoke, run_callFunc_body hb]) h hnext
        have hsz : (c.args.map a.eval).size = l.length := by simp; simpa using hal
        rw [Array.getD_eq_getD_getElem?]
        by_cases hlt : i < l.length
        · rw [List.getElem?_append_left (by simpa using hlt)] at hi
          rw [Array.getElem?_append_left (by omega), ← Array.getD_eq_getD_getElem?, harr]
          exact hrel i d hi
        · rw [List.getElem?_append_right (by simp; omega)] at hi
          rw [Array.getElem?_append_right (by omega), ← Array.getD_eq_getD_getElem?, hsz]
          simp only [List.length_map] at hi
          exact hv _ d hi
    · exact h.elim
  · have h' : bindO (rvl E st rop) fun p => K ((({ st with objs := p.2 } : St).put o.dst p.1).fzd r.fz o.dst) := by
      cases rop <;> first | exact h | cases hnc
    rw [rvl_eq] at h'
    cases hv : rval E st rop with
    | none => rw [hv] at h'; exact h'.elim
    | some x =>
      obtain ⟨d, objs'⟩ := x
      rw [hv] at h'
      obtain ⟨G, hG⟩ := hr
      obtain ⟨nx, v, w', G', h1, h2, h3, h4⟩ := hok C G st a w d objs' hG hv
      unfold Oper.wp
      rw [h1]
      rcases h2 with rfl | ⟨rfl, rfl⟩
      · exact hnext _ _ _ h' (RelSt.fzd ⟨G', h3.put hd h4⟩ _ _)
      · exact hnext _ _ _ h' (RelSt.fzd ⟨G', h3.put hd h4⟩ _ _)
  · obtain ⟨G, hG⟩ := hr
    obtain ⟨hal, hrel⟩ := cArgs_rel hG hargs
    simp only [invV] at h
    split at h
    rotate_left
    · exact h.elim
    rename_i f d hio
    obtain ⟨hb, h⟩ := h
    obtain ⟨u, h1, h2⟩ := run_invOf hG.heap hio (hG.ev hy) hb (c.args.map a.eval)
    refine enter_sound hF hd hG (vals := #[u] ++ c.args.map a.eval) (by simp; simpa [Nat.add_comm] using hal) (fun i d' hi => ?_) ?_ h hnext
    · rcases i with _ | i
      · simp at hi; subst hi
        rw [Array.getD_eq_getD_getElem?, Array.getElem?_append_left (by simp)]
        exact h2
      · have := hrel i d' (by simpa using hi)
        rw [Array.getD_eq_getD_getElem?, Array.getElem?_append_right (by simp)]
        simp only [List.size_toArray, List.length_cons, List.length_nil, Nat.zero_add, Nat.add_sub_cancel]
        rw [← Array.getD_eq_getD_getElem?, harr]
        exact this
    · have e : (#[a.eval x] ++ c.args.map a.eval).extract 1 (#[a.eval x] ++ c.args.map a.eval).size = c.args.map a.eval := by
        apply Array.ext'; simp [List.take_of_length_le]
      have e0 : (#[a.eval x] ++ c.args.map a.eval)[0]? = some (a.eval x) := by
        rw [Array.getElem?_append_left (by simp)]
        rfl
      simp only [execOp, ho, resolve, hcal, Sem.run_bind, Sem.run_pure, Result.andThen_ok, invoke, e, e0]
      exact h1

theorem yielded_of {E : Prg} {C : Ctx} {G : Gh} {st : St} {a : Act} {w : World} (hr : RelG E C G st a w) {ops : Array Oper} {j t : Nat} {b : Bool} (hj : (ops[j]?).bind (·.dst) = some t) (hb : st.get t = .bool b) : yielded ops a.tmps j = some b := by
  have r := hr.env t
  rw [hb] at r
  unfold yielded
  rw [hj]
  generalize hu : a.tmps.getD t undef = u at r
  cases r
  rw [Array.getD_eq_getD_getElem?] at hu
  cases hx : a.tmps[t]? with
  | none => rw [hx] at hu; simp [undef] at hu
  | some x => rw [hx] at hu; simp at hu; subst hu; simp [hx]

theorem yielded_not {E : Prg} {C : Ctx} {G : Gh} {st : St} {a : Act} {w : World} (hr : RelG E C G st a w) {ops : Array Oper} {j t : Nat} {v : Value} (hj : (ops[j]?).bind (·.dst) = some t) (hb : st.get t = .lit v) (hv : boolV v = false) : yielded ops a.tmps j = none := by
  have r := hr.env t
  rw [hb] at r
  unfold yielded
  rw [hj]
  generalize hu : a.tmps.getD t undef = u at r
  cases r
  rw [Array.getD_eq_getD_getElem?] at hu
  cases hx : a.tmps[t]? with
  | none => simp [hx]
  | some x =>
    rw [hx] at hu
    simp at hu
    subst hu
    simp only [Option.bind_some, hx]
    cases x <;> first | rfl | cases hv

theorem stepWp_sound {E : Prg} {F : FTab} (hF : FOk E F) {dr : Bool} {n : Nat} {fz : List Nat} {ops : Array Oper} {o : Oper} {r : ROper} (hc : compOper E.P n fz ops o = some r) {C : Ctx} (hn : C.n = n) {st : St} {a : Act} {w : World} {K : St → Prop} (hr : RelSt E C st a w) (h : stepWp E F dr r K st)
    {next : Act → World → Prop} {Q : Exit → Act → World → Prop} (hnext : ∀ st' a' w', K st' → RelSt E C st' a' w' → next a' w') :
    if Region.wanted o (yielded ops a.tmps) then o.wp E.P a w next Q ∨ (o.asks E.P a w ∧ LetsOut Q) else next (a.put o.dst undef) w := by
  obtain ⟨_, hrd, hdst0, hguard⟩ := compOper_inv hc
  have hdst : ∀ t, o.dst = some t → t < C.n := fun t ht => by rw [hn]; exact dstOk_lt hdst0 t ht
  unfold stepWp at h
  rcases hguard with ⟨hg1, hg2⟩ | ⟨j, t, want, hg1, hg2, hj⟩
  · rw [hg1] at h
    rw [if_pos (by simp [Region.wanted, hg2])]
    exact .inl (opWp_sound hF hc hn hr h hnext)
  · rw [hg1] at h
    simp only [bindG] at h
    split at h
    · rename_i b hb
      obtain ⟨G, hG⟩ := hr
      have hy := yielded_of hG hj hb
      unfold cnd at h
      by_cases hw : b = want
      · subst hw
        rw [if_pos (by simp), St.know_self hb] at h
        rw [if_pos (by simp [Region.wanted, hg2, hy])]
        exact .inl (opWp_sound hF hc hn ⟨G, hG⟩ h hnext)
      · have hbw : b = !want := by cases b <;> cases want <;> simp_all
        rw [if_neg (by simpa using hw), St.know_self (by rw [hb, hbw])] at h
        rw [if_neg (by simp [Region.wanted, hg2, hy, hw])]
        refine hnext _ _ _ h ⟨G, ?_⟩
        rw [hrd]
        exact hG.put hdst (.lit _)
    · rename_i v hb
      obtain ⟨G, hG⟩ := hr
      have hy := yielded_not hG hj hb h.1
      rw [if_neg (by simp [Region.wanted, hg2, hy])]
      refine hnext _ _ _ h.2 ⟨G, ?_⟩
      rw [hrd]
      exact hG.put hdst (.lit _)
    · exact h.elim

theorem opsWp_sound {E : Prg} {F : FTab} (hF : FOk E F) {n : Nat} {fz : List Nat} {ops : Array Oper} : ∀ (l : List Oper) (rl : List ROper), compOps E.P n fz ops l = some rl → ∀ {C : Ctx}, C.n = n → ∀ {st : St} {a : Act} {w : World} {K : St → Prop}, RelSt E C st a w → opsWp E F rl K st →
    ∀ {Q : Exit → Act → World → Prop}, (∀ st' a' w', K st' → RelSt E C st' a' w' → Q .normal a' w') → wpList E.P ops Q l a w
  | [], rl, hc, C, hn, st, a, w, K, hr, h, Q, hQ => by
    obtain rfl := Option.some.inj hc
    exact hQ st a w h hr
  | o :: l, rl, hc, C, hn, st, a, w, K, hr, h, Q, hQ => by
    simp only [compOps] at hc
    cases h1 : compOper E.P n fz ops o with
    | none => rw [h1] at hc; cases hc
    | some r =>
      cases h2 : compOps E.P n fz ops l with
      | none => rw [h1, h2] at hc; cases hc
      | some l' =>
        rw [h1, h2] at hc
        obtain rfl := Option.some.inj hc
        simp only [opsWp] at h
        unfold wpList
        exact stepWp_sound hF h1 hn hr h fun st' a' w' hk hr' => opsWp_sound hF l l' h2 hn hr' hk hQ

end Go.Proofs.Ytaopaongpoecoaa
