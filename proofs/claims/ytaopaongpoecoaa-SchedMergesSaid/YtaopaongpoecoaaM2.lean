/- Texts Ab14, Ab15, Ab16, Ab17, Ab18, Ab19, Ab20, Ab21, Ab22, Ab23, Ab24, Ab25, Ab26, Ab27, Ab28 in one. -/
import Derived.Test.YtaopaongpoecoaaM1
import Derived.IntWalk
import Derived.ChangeSlices
import Derived.OpenShut
import Derived.Deep.DeepHandedRow
import Derived.Lib.LaidTab
section
/- What code does to abstract states; the program does just that. -/
set_option linter.unusedVariables false
set_option linter.unusedSimpArgs false
namespace Go.Proofs.Ytaopaongpoecoaa
open Go.RowKit

/-- A call, as its caller sees it. -/
def CallK (E : Prg) (f : Nat) (vals : List DV) (T : Objs) (K : DV → Objs → Prop) : Prop :=
  ∃ T1 R, T1.length = T.length ∧ (∀ (k : Nat) (ob : Ob), T1[k]? = some (some ob) → T[k]? = some (some ob)) ∧ GCalls E f vals T1 R ∧
    ∀ r T1', R r T1' → T1.length ≤ T1'.length → ∃ T', Merged T T1 T1' T' ∧ K r T'

theorem CallK.pure {E : Prg} {f : Nat} {vals : List DV} {T : Objs} {K : DV → Objs → Prop} {R : Nat → DV → Objs → Prop} (h : PCalls E f vals R) (hK : ∀ r os, R T.length r os → K r (T ++ os)) : CallK E f vals T K :=
  ⟨_, _, by simp, fun k ob hk => (getElem?_rep hk).elim, h T.length, fun r T1' ⟨os, hT, hR⟩ _ => ⟨T ++ os, by subst hT; exact Merged.pure _ _, hK r os hR⟩⟩

/-- A call that is handed all there is. -/
theorem CallK.all {E : Prg} {f : Nat} {vals : List DV} {T : Objs} {K : DV → Objs → Prop} (h : GCalls E f vals T K) : CallK E f vals T K :=
  ⟨T, K, rfl, fun _ _ h => h, h, fun r T1' hr _ => ⟨T1', Merged.all, hr⟩⟩
/-- A call that is handed one object (by a pointer): what it makes of it. -/
def MCalls (E : Prg) (f : Nat) (args : Nat → List DV) (ob : Ob) (R : Nat → Nat → DV → Option Ob → Objs → Prop) : Prop :=
  ∀ n k, k < n → GCalls E f (args k) ((List.replicate n none).set k (some ob)) fun r T' => ∃ x os, T' = (List.replicate n none).set k x ++ os ∧ R n k r x os

theorem CallK.one {E : Prg} {f : Nat} {args : Nat → List DV} {T : Objs} {K : DV → Objs → Prop} {ob : Ob} {R : Nat → Nat → DV → Option Ob → Objs → Prop} (h : MCalls E f args ob R) (k : Nat) (hk : T[k]? = some (some ob))
    (hK : ∀ r x os, R T.length k r x os → K r (T.set k x ++ os)) : CallK E f (args k) T K := by
  have hlt : k < T.length := (List.getElem?_eq_some_iff.1 hk).1
  refine ⟨_, _, by simp, fun j o hj => ?_, h T.length k hlt, fun r T1' ⟨x, os, hT, hR⟩ _ => ⟨T.set k x ++ os, by subst hT; exact Merged.one _ _ _ _ _ hk, hK r x os hR⟩⟩
  rw [getElem?_set] at hj
  by_cases e : k = j
  · subst e
    rw [if_pos rfl, if_pos (by simpa using hlt)] at hj
    rw [hk]; simpa using hj
  · rw [if_neg e] at hj; exact (getElem?_rep hj).elim
theorem CallK.mono {E : Prg} {f : Nat} {vals : List DV} {T : Objs} {K K' : DV → Objs → Prop} (h : CallK E f vals T K) (hk : ∀ d T', K d T' → K' d T') : CallK E f vals T K' := by
  obtain ⟨T1, R, h1, h2, h3, h4⟩ := h
  exact ⟨T1, R, h1, h2, h3, fun r T1' hR hl => let ⟨T', hm, hK⟩ := h4 r T1' hR hl; ⟨T', hm, hk _ _ hK⟩⟩

/-- What is known of functions that take nothing over: of which arguments, and what they come to (n: how many objects there are ahead). -/
structure FSpec where
  pre : Prop
  res : Nat → DV × Objs
/-- What is known of functions that are handed objects: of which tables, what they come to and which table is behind them. -/
structure HSpec where
  pre : Objs → Prop
  res : Objs → DV × Objs
/-- What is to be shown of a call, of any table, for what is to hold behind it. -/
structure PSpec where
  wp : Objs → (DV → Objs → Prop) → Prop
  mono : ∀ T K K', wp T K → (∀ d T', K d T' → K' d T') → wp T K'
def HSpec.toP (s : HSpec) : PSpec := ⟨fun T K => s.pre T ∧ K (s.res T).1 (s.res T).2, fun T K K' h hk => ⟨h.1, hk _ _ h.2⟩⟩
inductive FS where
  | o (s : FSpec)
  | p (s : PSpec)
def FS.h (s : HSpec) : FS := .p s.toP
abbrev FTab := Nat → List DV → Option FS
def HOk (E : Prg) (f : Nat) (args : List DV) (s : HSpec) : Prop := ∀ (T : Objs) (K : DV → Objs → Prop), s.pre T → K (s.res T).1 (s.res T).2 → CallK E f args T K
def FOk (E : Prg) (F : FTab) : Prop := (∀ f args s, F f args = some (.o s) → s.pre → PCalls E f args fun n r os => r = (s.res n).1 ∧ os = (s.res n).2) ∧ ∀ f args s, F f args = some (.p s) → ∀ (T : Objs) (K : DV → Objs → Prop), s.wp T K → CallK E f args T K
def callV (E : Prg) (x : Option FS) (dr : Bool) (f : Nat) (args : List DV) (T : Objs) (K : DV → Objs → Prop) [Tg K] (_ : True := trivial) : Prop :=
  match (generalizing := false) x with
  | some (.o s) => s.pre ∧ K (s.res T.length).1 (T ++ (s.res T.length).2)
  | some (.p s) => if dr = true then False else s.wp T K
  | none => if dr = true then False else CallK E f args T K
def DV.id : DV → Option Nat
  | .own o _ _ => some o
  | .ptr o _ _ => some o
  | _ => none

def ownIds : DV → List Nat
  | .own o _ _ => [o]
  | .agg cs => cs.filterMap fun
    | .own o _ _ => some o
    | _ => none
  | _ => []
def St.freezes : List Nat → St → St
  | [], st => st
  | o :: l, st => St.freezes l (st.freeze o)
/-- What an operation put is let go of, as an object of one's own, where that is told. -/
def St.fzd (z : Bool) (dst : Option Nat) (st : St) : St :=
  match z, dst with
  | true, some t => st.freezes (ownIds (st.get t))
  | _, _ => st
def St.rep (t : Nat) (d : DV) : List (Nat × DV) → List (Nat × DV)
  | [] => []
  | (k, x) :: l => if k = t then (t, d) :: l else (k, x) :: St.rep t d l
/-- It's known what a temporary holds. -/
def St.know (t : Nat) (b : Bool) (st : St) : St := { st with env := St.rep t (.bool b) st.env }
def St.knows (c : Opd) (b : Bool) (st : St) : St :=
  match c with
  | .t n => st.know n b
  | _ => st

/-- A call of a func that a value is: one that captures nothing, or its captures behind the arguments. Where operations are drawn: none. -/
def calldV (E : Prg) (F : FTab) (dr : Bool) (d : DV) (args : List DV) (T : Objs) (K : DV → Objs → Prop) [Tg K] (_ : True := trivial) : Prop :=
  match (generalizing := false) dr, d with
  | false, .lit (.func (.func f) a b) => a.size = 0 ∧ b.size = 0 ∧ hasBody E.P f = true ∧ callV E (F f args) false f args T K
  | false, .wrap (.clo f) cs => hasBody E.P f = true ∧ callV E (F f (args ++ cs)) false f (args ++ cs) T K
  | _, _ => False
theorem calldV_drawn {E : Prg} {F : FTab} {d : DV} {args : List DV} {T : Objs} {K : DV → Objs → Prop} (h : calldV E F true d args T K) : False := by simp [calldV] at h

/-- A type's method by its name: the function, and whether it takes what the receiver points to (of which size, a struct or not). -/
def methRow (P : Program) (t : TypeId) (name : String) : Option (FuncId × Option (Bool × Nat)) :=
  match P.info? t with
  | none => none
  | some inf => match inf.methods.find? (·.name == name) with
    | none => none
    | some m => if m.path.size = 0 then (match m.func with
      | none => none
      | some (f, pr) => (match P.underlying t with
        | none => none
        | some (.pointer e) => if pr = true then some (f, none) else (match tyAgg P e, tySize P e with
          | some ag, some sz => some (f, some (ag, sz))
          | _, _ => none)
        | some _ => if pr = true then none else some (f, none))) else none
def invRecv (T : Objs) (way : Option (Bool × Nat)) (d : DV) : Option DV :=
  match way with
  | none => some d
  | some (ag, sz) => (match d with
    | .ptr o i j => (match T[o]? with
      | some (some ob) => (match ob.rows[i]? with
        | some row => rowAt ag sz row j
        | none => none)
      | _ => none)
    | .rp row j => rowAt ag sz row j
    | _ => none)
def invRow (T : Objs) (d : DV) : Option (FuncId × Option (Bool × Nat)) → Option (FuncId × DV)
  | some (f, way) => (invRecv T way d).map fun x => (f, x)
  | none => none
/-- Which function an interface's method is, and what it takes as its receiver. -/
def invOf (E : Prg) (T : Objs) (d : DV) (name : String) : Option (FuncId × DV) :=
  match d with
  | .wrap (.ifc t) [x] => invRow T x (methRow E.P t name)
  | .wrap (.ifa t) cs => invRow T (.agg cs) (methRow E.P t name)
  | _ => none
def invV (E : Prg) (F : FTab) (dr : Bool) (r : Option (FuncId × DV)) (args : List DV) (T : Objs) (K : DV → Objs → Prop) [Tg K] (_ : True := trivial) : Prop :=
  match (generalizing := false) dr, r with
  | false, some (f, d) => hasBody E.P f = true ∧ callV E (F f (d :: args)) false f (d :: args) T K
  | _, _ => False
theorem invV_drawn {E : Prg} {F : FTab} {r : Option (FuncId × DV)} {args : List DV} {T : Objs} {K : DV → Objs → Prop} (h : invV E F true r args T K) : False := by simp [invV] at h

/-- One operation. -/
def opWp (E : Prg) (F : FTab) (dr : Bool) (o : ROper) (K : St → Prop) (st : St) : Prop :=
  match o.op with
  | .call f l => callV E (F f (l.map (Opd.ev E st))) dr f (l.map (Opd.ev E st)) st.objs fun d T' => K ((({ st with objs := T' } : St).put o.dst d).fzd o.fz o.dst)
  | .calld y l => calldV E F dr (Opd.ev E st y) (l.map (Opd.ev E st)) st.objs fun d T' => K ((({ st with objs := T' } : St).put o.dst d).fzd o.fz o.dst)
  | .inv y name l => invV E F dr (invOf E st.objs (Opd.ev E st y) name) (l.map (Opd.ev E st)) st.objs fun d T' => K ((({ st with objs := T' } : St).put o.dst d).fzd o.fz o.dst)
  | op => bindO (rvl E st op) fun p => K ((({ st with objs := p.2 } : St).put o.dst p.1).fzd o.fz o.dst)

def boolV : Value → Bool
  | .bool _ => true
  | _ => false
/-- What stands where an operation wasn't wanted. -/
def DV.no : DV := .lit Go.undef
/-- What is to be shown of a guard's value: it is told, or it wasn't wanted itself. -/
def bindG (d : DV) (f : Bool → Prop) (g : Prop) [Tg f] [Tg g] (_ : True := trivial) : Prop :=
  match (generalizing := false) d with
  | .bool b => f b
  | .lit v => boolV v = false ∧ g
  | _ => False
def stepWp (E : Prg) (F : FTab) (dr : Bool) (o : ROper) (K : St → Prop) (st : St) : Prop :=
  match o.guard with
  | none => opWp E F dr o K st
  | some (t, want) => bindG (st.get t) (fun b => cnd (b == want) (opWp E F dr o K (st.know t want)) (K ((st.know t (!want)).put o.dst .no))) (K (st.put o.dst .no))

def opsWp (E : Prg) (F : FTab) : List ROper → (St → Prop) → St → Prop
  | [], K, st => K st
  | o :: l, K, st => stepWp E F false o (opsWp E F l K) st

/-- An operation reads no object that another writes. -/
def clearOf (E : Prg) (st : St) (op : ROp) (p : Opd) : Prop := ∀ x ∈ op.opds, ∀ o, DV.id (x.ev E st) = some o → DV.id (p.ev E st) ≠ some o

def OT.wp (E : Prg) (F : FTab) : OT → (St → Prop) → St → Prop
  | .done, K, st => K st
  | .fin o, K, st => stepWp E F false o K st
  | .op o k, K, st => stepWp E F true o (k.wp E F K) st
  | .take o ps k, K, st => (∀ p ∈ ps, clearOf E st o.op p) ∧ stepWp E F true o (k.wp E F K) st
  | .alt a b, K, st => a.wp E F K st ∧ b.wp E F K st

def St.cut (lo : Nat) (keep : List Nat) (st : St) : St := { st with env := st.env.filter fun x => x.1 < lo || keep.contains x.1 }

def thenQ (K : St → Prop) (Q : Exit → St → Prop) : Exit → St → Prop
  | .normal, st => K st
  | e, st => Q e st
def inBlk (id : Nat) (Q : Exit → St → Prop) : Exit → St → Prop
  | .exit id', st => if id' = id then Q .normal st else Q (.exit id') st
  | e, st => Q e st

/-- The code does what Q says of it, from each frame and world that the state tells of. -/
def AWp (E : Prg) (n : Nat) (c : Code) (Q : Exit → St → Prop) (st : St) : Prop :=
  ∀ C a w, C.n = n → RelSt E C st a w → c.wp E.P (fun e a' w' => ∃ st', Q e st' ∧ RelSt E C st' a' w') a w

def LoopWp (E : Prg) (n : Nat) (b : RC) (Q : Exit → St → Prop) (st : St) [Tg Q] [Tg b] (_ : True := trivial) : Prop := ∀ c ann, comp E.P n ann c = some b → AWp E n (.loop c) Q st

def RC.wp (E : Prg) (F : FTab) (n : Nat) : RC → (Exit → St → Prop) → St → Prop
  | .skip, Q, st => Q .normal st
  | .reg ops lo keep, Q, st => opsWp E F ops (fun st' => Q .normal (st'.cut lo keep)) st
  | .regD t lo keep, Q, st => t.wp E F (fun st' => Q .normal (st'.cut lo keep)) st
  | .seq a b, Q, st => a.wp E F n (thenQ (b.wp E F n Q) Q) st
  | .cond c t e, Q, st => match c.ev E st with
    | .bool b => cnd b (t.wp E F n Q (st.knows c true)) (e.wp E F n Q (st.knows c false))
    | _ => False
  | .blk id b, Q, st => b.wp E F n (inBlk id Q) st
  | .loop b, Q, st => LoopWp E n b Q st
  | .ext id, Q, st => Q (.exit id) st
  | .ret, Q, st => Q .ret st

theorem St.rep_self (t : Nat) (d : DV) : ∀ l : List (Nat × DV), St.look t l = d → St.rep t d l = l
  | [], _ => rfl
  | (k, x) :: l, h => by
    simp only [St.look] at h
    simp only [St.rep]
    by_cases e : k = t
    · rw [if_pos e] at h ⊢; subst e h; rfl
    · rw [if_neg e] at h ⊢; rw [St.rep_self t d l h]
theorem St.know_self {st : St} {t : Nat} {b : Bool} (h : st.get t = .bool b) : st.know t b = st := by
  unfold St.know
  rw [St.rep_self t _ st.env h]
theorem St.knows_self {E : Prg} {st : St} {c : Opd} {b : Bool} (h : c.ev E st = .bool b) : st.knows c b = st := by
  cases c with
  | t n => exact St.know_self h
  | _ => rfl

theorem St.look_filter (p : Nat → Bool) (t : Nat) : ∀ l : List (Nat × DV), St.look t (l.filter fun x => p x.1) = if p t then St.look t l else .undef
  | [] => by simp [St.look]
  | (k, d) :: l => by
    have ih := St.look_filter p t l
    simp only [List.filter_cons]
    by_cases hp : p k = true
    · simp only [hp, if_true, St.look]
      by_cases he : k = t
      · subst he; simp [hp]
      · simp [he, ih]
    · simp only [hp, if_false, St.look]
      by_cases he : k = t
      · subst he
        rw [if_pos rfl]
        simp only [Bool.false_eq_true, if_false, ih, hp]
      · rw [if_neg he]
        exact ih

/-- Less is known. -/
theorem RelG.less {E : Prg} {C : Ctx} {G : Gh} {st st' : St} {a : Act} {w : World} (h : RelG E C G st a w) (he : ∀ t, st'.get t = .undef ∨ st'.get t = st.get t) (hl : st'.objs.length = st.objs.length)
    (ho : ∀ (k : Nat) (ob : Ob), st'.objs[k]? = some (some ob) → st.objs[k]? = some (some ob)) : RelG E C G st' a w :=
  ⟨fun t => by
    rcases he t with h1 | h1
    · rw [h1]; exact .undef _
    · rw [h1]; exact h.env t, h.num, h.defs, h.heap.sub hl ho,
   ⟨h.frm.os, h.frm.tape, h.frm.output, h.frm.size, h.frm.blk, h.frm.cell, h.frm.frz, fun k r q m hk => h.frm.mine k r q m (ho k r hk), h.frm.rdn, h.frm.le, h.frm.mko⟩, h.glob⟩

theorem RelSt.cut {E : Prg} {C : Ctx} {st : St} {a : Act} {w : World} (h : RelSt E C st a w) (lo : Nat) (keep : List Nat) : RelSt E C (st.cut lo keep) a w := by
  obtain ⟨G, h⟩ := h
  refine ⟨G, h.less (fun t => ?_) rfl (fun k ob hk => hk)⟩
  simp only [St.get, St.cut]
  rw [St.look_filter (fun k => decide (k < lo) || keep.contains k)]
  split
  · exact .inr rfl
  · exact .inl rfl

theorem RelSt.freezes {E : Prg} {C : Ctx} {a : Act} {w : World} : ∀ (L : List Nat) {st : St}, RelSt E C st a w → RelSt E C (st.freezes L) a w
  | [], _, h => h
  | o :: L, st, h => by
    obtain ⟨G, h⟩ := h
    exact RelSt.freezes L (h.freeze o)

theorem RelSt.fzd {E : Prg} {C : Ctx} {st : St} {a : Act} {w : World} (h : RelSt E C st a w) (z : Bool) (dst : Option Nat) : RelSt E C (st.fzd z dst) a w := by
  unfold St.fzd
  split
  · exact h.freezes _
  · exact h

/-- A function that is entered. -/
theorem enter_sound {E : Prg} {F : FTab} (hF : FOk E F) {dr : Bool} {o : Oper} {f : Nat} {args : List DV} {vals : Array Value} {C : Ctx} {st : St} {G : Gh} {a : Act} {w : World} {K : St → Prop} {z : Bool} (hd : ∀ t, o.dst = some t → t < C.n) (hG : RelG E C G st a w)
    (hal : vals.size = args.length) (hrel : ∀ (i : Nat) d, args[i]? = some d → Rel G d (vals.getD i undef)) (hrun : (execOp a.eval o).run E.P w = .ok (.enter f vals) w)
    (h : callV E (F f args) dr f args st.objs fun d T' => K ((({ st with objs := T' } : St).put o.dst d).fzd z o.dst))
    {next : Act → World → Prop} {Q : Exit → Act → World → Prop} (hnext : ∀ st' a' w', K st' → RelSt E C st' a' w' → next a' w') : o.wp E.P a w next Q := by
  have h' : CallK E f args st.objs fun d T' => K ((({ st with objs := T' } : St).put o.dst d).fzd z o.dst) := by
    simp only [callV] at h
    split at h
    · rename_i s hs
      refine CallK.pure (hF.1 f _ s hs h.1) fun d os ⟨h1, h2⟩ => ?_
      subst h1 h2
      exact h.2
    · rename_i s hs
      split at h
      · exact h.elim
      · exact hF.2 f _ s hs _ _ h
    · split at h
      · exact h.elim
      · exact h
  obtain ⟨T1, R, hl1, hs1, hg, hK⟩ := h'
  have hcalls := hg G w vals hG.glob (hG.heap.sub hl1 hs1) hal hrel
  unfold Oper.wp
  rw [hrun, Oper.upon_enter]
  refine hcalls.mono fun e w' ⟨v, rr, T1', G', he, hR, hlen, hrel', hh, hf⟩ => ?_
  subst he
  obtain ⟨T', hm, hk⟩ := hK rr T1' hR hlen
  exact hnext _ _ _ hk (RelSt.fzd ⟨G', (hG.called hm hh hf (by omega)).put hd hrel'⟩ _ _)

theorem run_callFunc_body {P : Program} {f : Nat} {vals : Array Value} {w : World} (hb : hasBody P f = true) : (callFunc f vals).run P w = .ok (.enter f vals) w := by
  unfold hasBody at hb
  cases hf : P.funcs[f]? with
  | none => rw [hf] at hb; cases hb
  | some fn =>
    rw [hf] at hb
    simp only [Bool.and_eq_true, Bool.not_eq_true'] at hb
    have h4 : fn.body ≠ none := fun e => by simp [e] at hb
    have h3 : ¬ fn.name = "runtime.NumGoroutine" := by simpa using hb.2
    simp [callFunc, hf, h3, h4]
theorem depth_pos (P : Program) : ∃ n, P.types.size + Made.depth = n + 1 := by
  have h : 0 < Made.depth := by decide
  exact ⟨P.types.size + Made.depth - 1, by omega⟩
theorem wrapNilChk_some (xt : TypeId) (A : Addr) (a b : ByteArray) : Builtin.ssaWrapNilChk_ #[xt] xt #[.pointer (some A), .string a, .string b] = pure (.pointer (some A)) := rfl

theorem run_method {P : Program} {G : Gh} {T : Objs} {w : World} (hh : Heap G T w) {t : TypeId} {name : String} {f : FuncId} {way : Option (Bool × Nat)} {x d : DV} {v : Value} (hm : methRow P t name = some (f, way)) (hx : invRecv T way x = some d) (hr : Rel G x v) :
    ∃ u, (method (P.types.size + Made.depth) t v name).run P w = .ok (f, u) w ∧ Rel G d u := by
  obtain ⟨n, hn⟩ := depth_pos P
  rw [hn]
  unfold methRow at hm
  split at hm
  · cases hm
  rename_i inf hinf
  split at hm
  · cases hm
  rename_i m hfind
  split at hm
  rotate_left
  · cases hm
  rename_i hpath
  have hp : m.path = #[] := Array.eq_empty_of_size_eq_zero hpath
  split at hm
  · cases hm
  rename_i f' pr hfunc
  have hti : (typeInfo t).run P w = .ok inf w := by simp [typeInfo, hinf]
  split at hm
  · cases hm
  · rename_i e hu
    split at hm
    · rename_i hpr
      subst hpr
      obtain ⟨rfl, rfl⟩ := Prod.mk.inj (Option.some.inj hm)
      obtain rfl := Option.some.inj hx
      exact ⟨v, by simp [method, hti, hfind, hp, follow, hfunc, receiverAt, run_underlying hu, Go.Place.get], hr⟩
    · rename_i hpr
      have hpr : pr = false := by simpa using hpr
      subst hpr
      split at hm
      rotate_left
      · cases hm
      rename_i ag sz hag hsz
      obtain ⟨rfl, rfl⟩ := Prod.mk.inj (Option.some.inj hm)
      have fin : ∀ A u, v = .pointer (some A) → (loadVar e A).run P w = .ok u w → (method (n + 1) t v name).run P w = .ok (f', u) w := fun A u hv hl => by
        subst hv
        simp [method, hti, hfind, hp, follow, hfunc, receiverAt, run_underlying hu, Go.Place.get, strVal, wrapNilChk_some, asAddr, hl]
      simp only [invRecv] at hx
      split at hx
      · rename_i o i j
        split at hx
        · rename_i ob hob
          split at hx
          · rename_i row hrow
            obtain ⟨p, _, _, rfl, hA⟩ := ptr_cells hh hob hrow hr
            obtain ⟨u, hu1, hu2⟩ := load_row hag hsz hA hx
            exact ⟨u, fin _ u rfl hu1, hu2⟩
          · cases hx
        · cases hx
      · rename_i row j
        obtain ⟨A, rfl, _, hA⟩ := rp_cells hh hr
        obtain ⟨u, hu1, hu2⟩ := load_row hag hsz hA hx
        exact ⟨u, fin _ u rfl hu1, hu2⟩
      · cases hx
  · rename_i k hk hu
    split at hm
    · cases hm
    · rename_i hpr
      have hpr : pr = false := by simpa using hpr
      subst hpr
      obtain ⟨rfl, rfl⟩ := Prod.mk.inj (Option.some.inj hm)
      obtain rfl := Option.some.inj hx
      refine ⟨v, ?_, hr⟩
      cases k <;> first | exact (hk _ rfl).elim | simp [method, hti, hfind, hp, follow, hfunc, receiverAt, run_underlying hu, Go.Place.get]

theorem run_invOf {E : Prg} {G : Gh} {T : Objs} {w : World} (hh : Heap G T w) {name : String} {f : FuncId} {y d : DV} {v : Value} (h : invOf E T y name = some (f, d)) (hr : Rel G y v) (hb : hasBody E.P f = true) (args : Array Value) :
    ∃ u, (callMethod v name args).run E.P w = .ok (.enter f (#[u] ++ args)) w ∧ Rel G d u := by
  have fin : ∀ t x x' way, methRow E.P t name = some (f, way) → invRecv T way x' = some d → v = .iface t x → Rel G x' x → ∃ u, (callMethod v name args).run E.P w = .ok (.enter f (#[u] ++ args)) w ∧ Rel G d u := fun t x x' way hm hx hv hrx => by
    subst hv
    obtain ⟨u, h1, h2⟩ := run_method hh hm hx hrx
    exact ⟨u, by simp [callMethod, h1, run_callFunc_body hb], h2⟩
  have row : ∀ t x', invRow T x' (methRow E.P t name) = some (f, d) → ∃ way, methRow E.P t name = some (f, way) ∧ invRecv T way x' = some d := fun t x' h => by
    cases hm : methRow E.P t name with
    | none => rw [hm] at h; cases h
    | some p =>
      obtain ⟨f', way⟩ := p
      rw [hm] at h
      simp only [invRow] at h
      obtain ⟨d', h1, h2⟩ := Option.map_eq_some_iff.1 h
      obtain ⟨rfl, rfl⟩ := Prod.mk.inj h2
      exact ⟨way, rfl, h1⟩
  unfold invOf at h
  split at h
  · rename_i t x
    obtain ⟨way, h1, h2⟩ := row t _ h
    cases hr with
    | ifc _ _ u hu => exact fin t u _ way h1 h2 rfl hu
  · rename_i t cs
    obtain ⟨way, h1, h2⟩ := row t _ h
    cases hr with
    | ifa _ _ vs hs hv => exact fin t _ _ way h1 h2 rfl (.agg cs vs hs hv)
  · cases h

/-- An operation that is carried out. -/
theorem opWp_sound {E : Prg} {F : FTab} (hF : FOk E F) {dr : Bool} {n : Nat} {fz : List Nat} {ops : Array Oper} {o : Oper} {r : ROper} (hc : compOper E.P n fz ops o = some r) {C : Ctx} (hn : C.n = n) {st : St} {a : Act} {w : World} {K : St → Prop} (hr : RelSt E C st a w) (h : opWp E F dr r K st)
    {next : Act → World → Prop} {Q : Exit → Act → World → Prop} (hnext : ∀ st' a' w', K st' → RelSt E C st' a' w' → next a' w') : o.wp E.P a w next Q := by
  obtain ⟨hop, hrd, hdst, _⟩ := compOper_inv hc
  have hd : ∀ t, o.dst = some t → t < C.n := fun t ht => by rw [hn]; exact dstOk_lt hdst t ht
  generalize hrop : r.op = rop at hop
  unfold opWp at h
  rw [hrop, hrd] at h
  have harr : ∀ c : Call, c.args.map a.eval = (c.args.toList.map a.eval).toArray := fun c => by apply Array.ext'; simp
  rcases compOp_ok hop with ⟨c, f, l, ho, rfl, hcal, hargs, hb⟩ | ⟨c, t, l, ho, rfl, hcal, hargs⟩ | ⟨hok, hnc⟩ | ⟨c, x, y, name, l, ho, rfl, hcal, hy, hargs⟩
  · obtain ⟨G, hG⟩ := hr
    obtain ⟨hal, hrel⟩ := cArgs_rel hG hargs
    exact enter_sound hF hd hG (vals := c.args.map a.eval) (by simp; simpa using hal) (by rw [harr]; exact hrel) (by
      simp [execOp, ho, resolve, hcal, Act.eval, Deferred.ofValue, invoke, run_callFunc_body hb]) h hnext
  · obtain ⟨G, hG⟩ := hr
    obtain ⟨hal, hrel⟩ := cArgs_rel hG hargs
    have hev := hG.ev (x := .tmp t) rfl
    simp only [calldV] at h
    split at h
    · rename_i f a0 b0 hy
      obtain ⟨ha0, hb0, hb, h⟩ := h
      have hla : a0 = #[] := Array.eq_empty_of_size_eq_zero ha0
      have hlb : b0 = #[] := Array.eq_empty_of_size_eq_zero hb0
      subst hla hlb
      have hev' : a.eval (.tmp t) = .func (.func f) #[] #[] := by
        rw [hy] at hev
        generalize a.eval (.tmp t) = v at hev ⊢
        cases hev
        rfl
      exact enter_sound hF hd hG (vals := c.args.map a.eval) (by simp; simpa using hal) (by rw [harr]; exact hrel) (by
        simp [execOp, ho, resolve, hcal, hev', Deferred.ofValue, invoke, run_callFunc_body hb]) h hnext
    · rename_i f cs hy
      obtain ⟨hb, h⟩ := h
      rw [hy] at hev
      generalize hu : a.eval (.tmp t) = v at hev
      cases hev with
      | clo _ _ vs hs hv =>
        refine enter_sound hF hd hG (vals := c.args.map a.eval ++ vs) (by simp [hs]; simpa using hal) (fun i d hi => ?_) (by
          simp [execOp, ho, resolve, hcal, hu, Deferred.ofValue, invoke, run_callFunc_body hb]) h hnext
        have hsz : (c.args.map a.eval).size = l.length := by simp; simpa using hal
        rw [Array.getD_eq_getD_getElem?]
        by_cases hlt : i < l.length
        · rw [List.getElem?_append_left (by simpa using hlt)] at hi
          rw [Array.getElem?_append_left (by omega), ← Array.getD_eq_getD_getElem?, harr]
          exact hrel i d hi
        · rw [List.getElem?_append_right (by simp; omega)] at hi
          rw [Array.getElem?_append_right (by omega), ← Array.getD_eq_getD_getElem?, hsz]
          simp only [List.length_map] at hi
          exact hv _ d hi
    · exact h.elim
  · have h' : bindO (rvl E st rop) fun p => K ((({ st with objs := p.2 } : St).put o.dst p.1).fzd r.fz o.dst) := by
      cases rop <;> first | exact h | cases hnc
    rw [rvl_eq] at h'
    cases hv : rval E st rop with
    | none => rw [hv] at h'; exact h'.elim
    | some x =>
      obtain ⟨d, objs'⟩ := x
      rw [hv] at h'
      obtain ⟨G, hG⟩ := hr
      obtain ⟨nx, v, w', G', h1, h2, h3, h4⟩ := hok C G st a w d objs' hG hv
      unfold Oper.wp
      rw [h1]
      rcases h2 with rfl | ⟨rfl, rfl⟩
      · exact hnext _ _ _ h' (RelSt.fzd ⟨G', h3.put hd h4⟩ _ _)
      · exact hnext _ _ _ h' (RelSt.fzd ⟨G', h3.put hd h4⟩ _ _)
  · obtain ⟨G, hG⟩ := hr
    obtain ⟨hal, hrel⟩ := cArgs_rel hG hargs
    simp only [invV] at h
    split at h
    rotate_left
    · exact h.elim
    rename_i f d hio
    obtain ⟨hb, h⟩ := h
    obtain ⟨u, h1, h2⟩ := run_invOf hG.heap hio (hG.ev hy) hb (c.args.map a.eval)
    refine enter_sound hF hd hG (vals := #[u] ++ c.args.map a.eval) (by simp; simpa [Nat.add_comm] using hal) (fun i d' hi => ?_) ?_ h hnext
    · rcases i with _ | i
      · simp at hi; subst hi
        rw [Array.getD_eq_getD_getElem?, Array.getElem?_append_left (by simp)]
        exact h2
      · have := hrel i d' (by simpa using hi)
        rw [Array.getD_eq_getD_getElem?, Array.getElem?_append_right (by simp)]
        simp only [List.size_toArray, List.length_cons, List.length_nil, Nat.zero_add, Nat.add_sub_cancel]
        rw [← Array.getD_eq_getD_getElem?, harr]
        exact this
    · have e : (#[a.eval x] ++ c.args.map a.eval).extract 1 (#[a.eval x] ++ c.args.map a.eval).size = c.args.map a.eval := by
        apply Array.ext'; simp [List.take_of_length_le]
      have e0 : (#[a.eval x] ++ c.args.map a.eval)[0]? = some (a.eval x) := by
        rw [Array.getElem?_append_left (by simp)]
        rfl
      simp only [execOp, ho, resolve, hcal, Sem.run_bind, Sem.run_pure, Result.andThen_ok, invoke, e, e0]
      exact h1

theorem yielded_of {E : Prg} {C : Ctx} {G : Gh} {st : St} {a : Act} {w : World} (hr : RelG E C G st a w) {ops : Array Oper} {j t : Nat} {b : Bool} (hj : (ops[j]?).bind (·.dst) = some t) (hb : st.get t = .bool b) : yielded ops a.tmps j = some b := by
  have r := hr.env t
  rw [hb] at r
  unfold yielded
  rw [hj]
  generalize hu : a.tmps.getD t undef = u at r
  cases r
  rw [Array.getD_eq_getD_getElem?] at hu
  cases hx : a.tmps[t]? with
  | none => rw [hx] at hu; simp [undef] at hu
  | some x => rw [hx] at hu; simp at hu; subst hu; simp [hx]

theorem yielded_not {E : Prg} {C : Ctx} {G : Gh} {st : St} {a : Act} {w : World} (hr : RelG E C G st a w) {ops : Array Oper} {j t : Nat} {v : Value} (hj : (ops[j]?).bind (·.dst) = some t) (hb : st.get t = .lit v) (hv : boolV v = false) : yielded ops a.tmps j = none := by
  have r := hr.env t
  rw [hb] at r
  unfold yielded
  rw [hj]
  generalize hu : a.tmps.getD t undef = u at r
  cases r
  rw [Array.getD_eq_getD_getElem?] at hu
  cases hx : a.tmps[t]? with
  | none => simp [hx]
  | some x =>
    rw [hx] at hu
    simp at hu
    subst hu
    simp only [Option.bind_some, hx]
    cases x <;> first | rfl | cases hv

theorem stepWp_sound {E : Prg} {F : FTab} (hF : FOk E F) {dr : Bool} {n : Nat} {fz : List Nat} {ops : Array Oper} {o : Oper} {r : ROper} (hc : compOper E.P n fz ops o = some r) {C : Ctx} (hn : C.n = n) {st : St} {a : Act} {w : World} {K : St → Prop} (hr : RelSt E C st a w) (h : stepWp E F dr r K st)
    {next : Act → World → Prop} {Q : Exit → Act → World → Prop} (hnext : ∀ st' a' w', K st' → RelSt E C st' a' w' → next a' w') :
    if Region.wanted o (yielded ops a.tmps) then o.wp E.P a w next Q ∨ (o.asks E.P a w ∧ LetsOut Q) else next (a.put o.dst undef) w := by
  obtain ⟨_, hrd, hdst0, hguard⟩ := compOper_inv hc
  have hdst : ∀ t, o.dst = some t → t < C.n := fun t ht => by rw [hn]; exact dstOk_lt hdst0 t ht
  unfold stepWp at h
  rcases hguard with ⟨hg1, hg2⟩ | ⟨j, t, want, hg1, hg2, hj⟩
  · rw [hg1] at h
    rw [if_pos (by simp [Region.wanted, hg2])]
    exact .inl (opWp_sound hF hc hn hr h hnext)
  · rw [hg1] at h
    simp only [bindG] at h
    split at h
    · rename_i b hb
      obtain ⟨G, hG⟩ := hr
      have hy := yielded_of hG hj hb
      unfold cnd at h
      by_cases hw : b = want
      · subst hw
        rw [if_pos (by simp), St.know_self hb] at h
        rw [if_pos (by simp [Region.wanted, hg2, hy])]
        exact .inl (opWp_sound hF hc hn ⟨G, hG⟩ h hnext)
      · have hbw : b = !want := by cases b <;> cases want <;> simp_all
        rw [if_neg (by simpa using hw), St.know_self (by rw [hb, hbw])] at h
        rw [if_neg (by simp [Region.wanted, hg2, hy, hw])]
        refine hnext _ _ _ h ⟨G, ?_⟩
        rw [hrd]
        exact hG.put hdst (.lit _)
    · rename_i v hb
      obtain ⟨G, hG⟩ := hr
      have hy := yielded_not hG hj hb h.1
      rw [if_neg (by simp [Region.wanted, hg2, hy])]
      refine hnext _ _ _ h.2 ⟨G, ?_⟩
      rw [hrd]
      exact hG.put hdst (.lit _)
    · exact h.elim

theorem opsWp_sound {E : Prg} {F : FTab} (hF : FOk E F) {n : Nat} {fz : List Nat} {ops : Array Oper} : ∀ (l : List Oper) (rl : List ROper), compOps E.P n fz ops l = some rl → ∀ {C : Ctx}, C.n = n → ∀ {st : St} {a : Act} {w : World} {K : St → Prop}, RelSt E C st a w → opsWp E F rl K st →
    ∀ {Q : Exit → Act → World → Prop}, (∀ st' a' w', K st' → RelSt E C st' a' w' → Q .normal a' w') → wpList E.P ops Q l a w
  | [], rl, hc, C, hn, st, a, w, K, hr, h, Q, hQ => by
    obtain rfl := Option.some.inj hc
    exact hQ st a w h hr
  | o :: l, rl, hc, C, hn, st, a, w, K, hr, h, Q, hQ => by
    simp only [compOps] at hc
    cases h1 : compOper E.P n fz ops o with
    | none => rw [h1] at hc; cases hc
    | some r =>
      cases h2 : compOps E.P n fz ops l with
      | none => rw [h1, h2] at hc; cases hc
      | some l' =>
        rw [h1, h2] at hc
        obtain rfl := Option.some.inj hc
        simp only [opsWp] at h
        unfold wpList
        exact stepWp_sound hF h1 hn hr h fun st' a' w' hk hr' => opsWp_sound hF l l' h2 hn hr' hk hQ

end Go.Proofs.Ytaopaongpoecoaa
end
section
/- Regions whose order is drawn: what is shown of one order holds of all. -/
set_option linter.unusedVariables false
set_option linter.unusedSimpArgs false
namespace Go.Proofs.Ytaopaongpoecoaa
open Go.RowKit

theorem St.ins_lt {t k : Nat} (d y : DV) (l : List (Nat × DV)) (h : t < k) : St.ins t d ((k, y) :: l) = (t, d) :: (k, y) :: l := by simp only [St.ins, if_pos h]
theorem St.ins_eq {t k : Nat} (d y : DV) (l : List (Nat × DV)) (h : t = k) : St.ins t d ((k, y) :: l) = (t, d) :: l := by subst h; simp [St.ins]
theorem St.ins_gt {t k : Nat} (d y : DV) (l : List (Nat × DV)) (h : k < t) : St.ins t d ((k, y) :: l) = (k, y) :: St.ins t d l := by simp only [St.ins, if_neg (show ¬ t < k by omega), if_neg (show ¬ k = t by omega)]
theorem St.ins_comm (t u : Nat) (d x : DV) (h : t ≠ u) : ∀ l : List (Nat × DV), St.ins t d (St.ins u x l) = St.ins u x (St.ins t d l)
  | [] => by
    simp only [St.ins]
    by_cases h1 : t < u
    · rw [if_pos h1, if_neg (by omega), if_neg (by omega)]
    · rw [if_neg h1, if_neg (by omega), if_pos (by omega)]
  | (k, y) :: l => by
    have ih := St.ins_comm t u d x h l
    rcases Nat.lt_trichotomy t k with a | a | a <;> rcases Nat.lt_trichotomy u k with b | b | b <;> rcases Nat.lt_trichotomy t u with c | c | c <;>
      first
        | omega
        | (repeat (first
            | rw [ih]
            | (rw [St.ins_lt (h := (by omega : t < u))]) | (rw [St.ins_lt (h := (by omega : u < t))])
            | (rw [St.ins_lt (h := (by omega : t < k))]) | (rw [St.ins_lt (h := (by omega : u < k))])
            | (rw [St.ins_eq (h := (by omega : t = k))]) | (rw [St.ins_eq (h := (by omega : u = k))])
            | (rw [St.ins_gt (h := (by omega : u < t))]) | (rw [St.ins_gt (h := (by omega : t < u))])
            | (rw [St.ins_gt (h := (by omega : k < t))]) | (rw [St.ins_gt (h := (by omega : k < u))])))

theorem St.put_comm (st : St) (a b : Option Nat) (d x : DV) (h : ∀ t, a = some t → b ≠ some t) : (st.put a d).put b x = (st.put b x).put a d := by
  cases a with
  | none => rfl
  | some t => cases b with
    | none => rfl
    | some u =>
      have : t ≠ u := fun e => h t rfl (by rw [e])
      simp only [St.put]
      rw [St.ins_comm u t x d (fun e => this e.symm)]

theorem callV_mono {E : Prg} {x : Option FS} {dr : Bool} {f : Nat} {args : List DV} {T : Objs} {K K' : DV → Objs → Prop} (h : callV E x dr f args T K) (hk : ∀ d T', K d T' → K' d T') : callV E x dr f args T K' := by
  unfold callV at h ⊢
  split at h
  · exact ⟨h.1, hk _ _ h.2⟩
  · split at h
    · exact h.elim
    · rename_i s hd; rw [if_neg hd]; exact s.mono _ _ _ h hk
  · split at h
    · exact h.elim
    · rename_i hd; rw [if_neg hd]; exact h.mono hk
theorem bindO_mono {α : Type} {x : Option α} {f g : α → Prop} (h : bindO x f) (hk : ∀ a, f a → g a) : bindO x g := by
  cases x with
  | none => exact h.elim
  | some y => exact hk y h
theorem calldV_mono {E : Prg} {F : FTab} {dr : Bool} {d : DV} {args : List DV} {T : Objs} {K K' : DV → Objs → Prop} (h : calldV E F dr d args T K) (hk : ∀ d T, K d T → K' d T) : calldV E F dr d args T K' := by
  unfold calldV at h ⊢
  split at h
  · exact ⟨h.1, h.2.1, h.2.2.1, callV_mono h.2.2.2 hk⟩
  · exact ⟨h.1, callV_mono h.2 hk⟩
  · exact h.elim
theorem invV_mono {E : Prg} {F : FTab} {dr : Bool} {r : Option (FuncId × DV)} {args : List DV} {T : Objs} {K K' : DV → Objs → Prop} (h : invV E F dr r args T K) (hk : ∀ d T, K d T → K' d T) : invV E F dr r args T K' := by
  unfold invV at h ⊢
  split at h
  · exact ⟨h.1, callV_mono h.2 hk⟩
  · exact h.elim
theorem opWp_mono {E : Prg} {F : FTab} {dr : Bool} {o : ROper} {K K' : St → Prop} {st : St} (h : opWp E F dr o K st) (hk : ∀ st, K st → K' st) : opWp E F dr o K' st := by
  unfold opWp at h ⊢
  split at h
  · exact callV_mono h fun d T' hh => hk _ hh
  · exact calldV_mono h fun d T' hh => hk _ hh
  · exact invV_mono h fun d T' hh => hk _ hh
  · exact bindO_mono h fun p hh => hk _ hh
theorem stepWp_mono {E : Prg} {F : FTab} {dr : Bool} {o : ROper} {K K' : St → Prop} {st : St} (h : stepWp E F dr o K st) (hk : ∀ st, K st → K' st) : stepWp E F dr o K' st := by
  unfold stepWp at h ⊢
  split at h
  · exact opWp_mono h hk
  · simp only [bindG] at h ⊢
    split at h
    · unfold cnd at h ⊢
      split at h
      · rename_i hb; rw [if_pos hb]; exact opWp_mono h hk
      · rename_i hb; rw [if_neg hb]; exact hk _ h
    · exact ⟨h.1, hk _ h.2⟩
    · exact h.elim
theorem opsWp_mono {E : Prg} {F : FTab} : ∀ (l : List ROper) {K K' : St → Prop} {st : St}, opsWp E F l K st → (∀ st, K st → K' st) → opsWp E F l K' st
  | [], K, K', st, h, hk => hk _ h
  | o :: l, K, K', st, h, hk => stepWp_mono h fun st hh => opsWp_mono l hh hk
theorem OT.wp_mono {E : Prg} {F : FTab} : ∀ (t : OT) {K K' : St → Prop} {st : St}, t.wp E F K st → (∀ st, K st → K' st) → t.wp E F K' st
  | .done, K, K', st, h, hk => hk _ h
  | .fin o, K, K', st, h, hk => stepWp_mono h hk
  | .op o k, K, K', st, h, hk => stepWp_mono h fun st hh => OT.wp_mono k hh hk
  | .take o ps k, K, K', st, h, hk => ⟨h.1, stepWp_mono h.2 fun st hh => OT.wp_mono k hh hk⟩
  | .alt a b, K, K', st, h, hk => ⟨OT.wp_mono a h.1 hk, OT.wp_mono b h.2 hk⟩

/-- Two states in which an operation's operands are the same. -/
def EvEq (E : Prg) (op : ROp) (st st' : St) : Prop := ∀ x ∈ op.opds, x.ev E st' = x.ev E st

theorem ev_put {E : Prg} {st : St} {x : Opd} {dst : Option Nat} {d : DV} (h : ∀ t, dst = some t → t ∉ x.tm) : x.ev E (st.put dst d) = x.ev E st := by
  cases dst with
  | none => rfl
  | some t => cases x with
    | t n =>
      simp only [Opd.ev, St.get_put]
      rw [if_neg (fun e => h t rfl (by subst e; simp [Opd.tm]))]
    | c d => rfl
    | g n => rfl
theorem ev_objs {E : Prg} {st : St} {x : Opd} (o : Objs) : x.ev E { st with objs := o } = x.ev E st := by cases x <;> rfl
theorem listApart_spec {a b : List Nat} (h : listApart a b = true) {x : Nat} (hx : x ∈ a) : x ∉ b := by
  have := List.all_eq_true.1 h x hx
  simpa using this

theorem natOf_congr {E : Prg} {st st' : St} {n : Nat} : ∀ {x : Option Opd}, (∀ y ∈ optOpd x, y.ev E st' = y.ev E st) → natOf st' E n x = natOf st E n x
  | none, _ => rfl
  | some y, h => by simp only [natOf, h y (by simp [optOpd])]
theorem foldl_congr' {α β : Type} {f g : β → α → β} : ∀ (l : List α) (b : β), (∀ x ∈ l, ∀ b, f b x = g b x) → l.foldl f b = l.foldl g b
  | [], _, _ => rfl
  | x :: l, b, h => by
    simp only [List.foldl_cons]
    rw [h x (by simp) b]
    exact foldl_congr' l _ fun y hy => h y (by simp [hy])

/-- A quiet operation comes to the same, if its operands and the objects that they name are the same. -/
theorem rval_stay {E : Prg} {op : ROp} {st st' : St} (hq : op.quiet = true) (he : EvEq E op st st')
    (ho : op.blind = false → ∀ x ∈ op.opds, ∀ k z, (x.ev E st).id = some k → st.objs[k]? = some z → st'.objs[k]? = some z) {d : DV} {o : Objs} (h : rval E st op = some (d, o)) :
    rval E st' op = some (d, st'.objs) ∧ o = st.objs := by
  have rows : op.blind = false → ∀ x ∈ op.opds, ∀ r, rowsOf st (x.ev E st) = some r → rowsOf st' (x.ev E st) = some r := by
    intro hb x hx r hr
    have := ho hb x hx
    cases hv : x.ev E st <;> rw [hv] at hr this <;> try exact hr
    rename_i k off n
    simp only [rowsOf] at hr ⊢
    split at hr
    · rename_i sz rows hk
      rw [this k _ rfl hk]
      exact hr
    · cases hr
  cases op <;> first | cases hq | skip
  case mov x =>
    simp only [rval] at h ⊢
    obtain ⟨rfl, rfl⟩ := Prod.mk.inj (Option.some.inj h)
    rw [he x (by simp [ROp.opds])]; exact ⟨rfl, rfl⟩
  case pick c a b =>
    simp only [rval] at h ⊢
    rw [he c (by simp [ROp.opds]), he a (by simp [ROp.opds]), he b (by simp [ROp.opds])]
    split at h
    · obtain ⟨rfl, rfl⟩ := Prod.mk.inj (Option.some.inj h); exact ⟨rfl, rfl⟩
    · cases h
  case build zero parts =>
    simp only [rval] at h ⊢
    obtain ⟨y, hy, h2⟩ := Option.map_eq_some_iff.1 h
    obtain ⟨rfl, rfl⟩ := Prod.mk.inj h2
    exact ⟨Option.map_eq_some_iff.2 ⟨y, (foldl_congr' _ _ fun x hx b => by
      have : x.2.2.ev E st' = x.2.2.ev E st := he x.2.2 (by simp only [ROp.opds, List.mem_map]; exact ⟨x, hx, rfl⟩)
      rw [this]).trans hy, rfl⟩, rfl⟩
  case load ag sz x =>
    simp only [rval] at h ⊢
    rw [he x (by simp [ROp.opds])]
    have := ho rfl x (by simp [ROp.opds])
    split at h
    · rename_i k i j hx
      rw [hx] at this
      split at h
      · rename_i ob hk
        rw [this k _ rfl hk]
        split at h
        · rename_i row hrow
          simp only [hrow]
          obtain ⟨y, hy, h2⟩ := Option.map_eq_some_iff.1 h
          obtain ⟨rfl, rfl⟩ := Prod.mk.inj h2
          exact ⟨by rw [hy]; rfl, rfl⟩
        · cases h
      · cases h
    · rename_i row j hx
      obtain ⟨y, hy, h2⟩ := Option.map_eq_some_iff.1 h
      obtain ⟨rfl, rfl⟩ := Prod.mk.inj h2
      exact ⟨by simp only [hy, Option.map], rfl⟩
    · cases h
  case nilck x =>
    simp only [rval] at h ⊢
    rw [he x (by simp [ROp.opds])]
    split at h <;> first | (obtain ⟨rfl, rfl⟩ := Prod.mk.inj (Option.some.inj h); exact ⟨rfl, rfl⟩) | cases h
  case bin op x y =>
    simp only [rval] at h ⊢
    rw [he x (by simp [ROp.opds]), he y (by simp [ROp.opds])]
    split at h
    · rename_i k a k' b h1 h2
      obtain ⟨z, hz, h2⟩ := Option.map_eq_some_iff.1 h
      obtain ⟨rfl, rfl⟩ := Prod.mk.inj h2
      exact ⟨by rw [hz]; rfl, rfl⟩
    · obtain ⟨z, hz, h2⟩ := Option.map_eq_some_iff.1 h
      obtain ⟨rfl, rfl⟩ := Prod.mk.inj h2
      exact ⟨by rw [hz]; rfl, rfl⟩
    · cases h
  case eqB neg x y =>
    simp only [rval] at h ⊢
    rw [he x (by simp [ROp.opds]), he y (by simp [ROp.opds])]
    split at h
    · obtain ⟨rfl, rfl⟩ := Prod.mk.inj (Option.some.inj h); exact ⟨rfl, rfl⟩
    · cases h
  case eqNil neg x y =>
    simp only [rval] at h ⊢
    rw [he x (by simp [ROp.opds]), he y (by simp [ROp.opds])]
    split at h
    · obtain ⟨z, hz, h2⟩ := Option.map_eq_some_iff.1 h
      obtain ⟨rfl, rfl⟩ := Prod.mk.inj h2
      exact ⟨by rw [hz]; rfl, rfl⟩
    · cases h
  case eqP neg x y =>
    simp only [rval] at h ⊢
    rw [he x (by simp [ROp.opds]), he y (by simp [ROp.opds])]
    obtain ⟨z, hz, h2⟩ := Option.map_eq_some_iff.1 h
    obtain ⟨rfl, rfl⟩ := Prod.mk.inj h2
    exact ⟨by rw [hz]; rfl, rfl⟩
  case eqS neg ks x y =>
    simp only [rval] at h ⊢
    rw [he x (by simp [ROp.opds]), he y (by simp [ROp.opds])]
    split at h
    · obtain ⟨z, hz, h2⟩ := Option.map_eq_some_iff.1 h
      obtain ⟨rfl, rfl⟩ := Prod.mk.inj h2
      exact ⟨by rw [hz]; rfl, rfl⟩
    · cases h
  case un op x =>
    simp only [rval] at h ⊢
    rw [he x (by simp [ROp.opds])]
    obtain ⟨z, hz, h2⟩ := Option.map_eq_some_iff.1 h
    obtain ⟨rfl, rfl⟩ := Prod.mk.inj h2
    exact ⟨by rw [hz]; rfl, rfl⟩
  case conv k x =>
    simp only [rval] at h ⊢
    rw [he x (by simp [ROp.opds])]
    split at h
    · obtain ⟨rfl, rfl⟩ := Prod.mk.inj (Option.some.inj h); exact ⟨rfl, rfl⟩
    · cases h
    · split at h
      · rename_i sz rws hrows
        rw [rows rfl x (by simp [ROp.opds]) _ hrows]
        simp only
        split at h
        · rename_i hc
          rw [if_pos hc]
          obtain ⟨z, hz, h2⟩ := Option.map_eq_some_iff.1 h
          obtain ⟨rfl, rfl⟩ := Prod.mk.inj h2
          exact ⟨by rw [hz]; rfl, rfl⟩
        · cases h
      · cases h
    · cases hq
    · obtain ⟨rfl, rfl⟩ := Prod.mk.inj (Option.some.inj h); exact ⟨rfl, rfl⟩
    · cases hq
    · cases h
  case slice sz x lo hi mx =>
    simp only [rval] at h ⊢
    rw [he x (by simp [ROp.opds])]
    have hlo : ∀ n, natOf st' E n lo = natOf st E n lo := fun n => natOf_congr fun y hy => he y (by simp [ROp.opds, hy])
    have hhi : ∀ n, natOf st' E n hi = natOf st E n hi := fun n => natOf_congr fun y hy => he y (by simp [ROp.opds, hy])
    have hmx : ∀ n, natOf st' E n mx = natOf st E n mx := fun n => natOf_congr fun y hy => he y (by simp [ROp.opds, hy])
    have := ho rfl x (by simp [ROp.opds])
    simp only [hlo, hhi]
    split at h
    · split at h
      · split at h
        · rename_i hc
          rw [if_pos hc]
          split at h
          · obtain ⟨rfl, rfl⟩ := Prod.mk.inj (Option.some.inj h); exact ⟨rfl, rfl⟩
          · rename_i m
            simp only [hmx]
            split at h
            · split at h
              · rename_i hm; rw [if_pos hm]; obtain ⟨rfl, rfl⟩ := Prod.mk.inj (Option.some.inj h); exact ⟨rfl, rfl⟩
              · cases h
            · cases h
        · cases h
      · cases h
    · rename_i k off n hx
      rw [hx] at this
      split at h
      · split at h
        · rename_i s rows hk
          rw [this k _ rfl hk]
          simp only
          split at h
          · rename_i hc; rw [if_pos hc]; obtain ⟨rfl, rfl⟩ := Prod.mk.inj (Option.some.inj h); exact ⟨rfl, rfl⟩
          · cases h
        · cases h
      · cases h
    · cases h
  case sliceS x lo hi =>
    simp only [rval] at h ⊢
    rw [he x (by simp [ROp.opds])]
    have hlo : ∀ n, natOf st' E n lo = natOf st E n lo := fun n => natOf_congr fun y hy => he y (by simp [ROp.opds, hy])
    have hhi : ∀ n, natOf st' E n hi = natOf st E n hi := fun n => natOf_congr fun y hy => he y (by simp [ROp.opds, hy])
    simp only [hlo, hhi]
    split at h
    · split at h
      · split at h
        · rename_i hc; rw [if_pos hc]; obtain ⟨rfl, rfl⟩ := Prod.mk.inj (Option.some.inj h); exact ⟨rfl, rfl⟩
        · cases h
      · cases h
    · cases h
  case faddr off x =>
    simp only [rval] at h ⊢
    rw [he x (by simp [ROp.opds])]
    split at h <;> first | (obtain ⟨rfl, rfl⟩ := Prod.mk.inj (Option.some.inj h); exact ⟨rfl, rfl⟩) | cases h
  case fld ag off sz x =>
    simp only [rval] at h ⊢
    rw [he x (by simp [ROp.opds])]
    split at h
    · obtain ⟨z, hz, h2⟩ := Option.map_eq_some_iff.1 h
      obtain ⟨rfl, rfl⟩ := Prod.mk.inj h2
      exact ⟨by simp only [hz, Option.map], rfl⟩
    · cases h
  case iaddr sz x i =>
    simp only [rval] at h ⊢
    rw [he x (by simp [ROp.opds]), he i (by simp [ROp.opds])]
    have := ho rfl x (by simp [ROp.opds])
    split at h
    · split at h
      · rename_i hc
        rw [if_pos hc]
        split at h
        · obtain ⟨rfl, rfl⟩ := Prod.mk.inj (Option.some.inj h); exact ⟨rfl, rfl⟩
        · cases h
      · cases h
    · rename_i k off m k' n hx hi
      rw [hx] at this
      split at h
      · rename_i hc
        rw [if_pos hc]
        split at h
        · rename_i s rows hk
          rw [this k _ rfl hk]
          simp only
          split at h
          · rename_i hs; rw [if_pos hs]; obtain ⟨rfl, rfl⟩ := Prod.mk.inj (Option.some.inj h); exact ⟨rfl, rfl⟩
          · cases h
        · cases h
      · cases h
    · cases h
  case iaddrA len sz x i =>
    simp only [rval] at h ⊢
    rw [he x (by simp [ROp.opds]), he i (by simp [ROp.opds])]
    split at h <;> first | cases h | skip
    all_goals
      split at h
      · rename_i hc; rw [if_pos hc]; obtain ⟨rfl, rfl⟩ := Prod.mk.inj (Option.some.inj h); exact ⟨rfl, rfl⟩
      · cases h
  case idxS x i =>
    simp only [rval] at h ⊢
    rw [he x (by simp [ROp.opds]), he i (by simp [ROp.opds])]
    split at h
    · split at h
      · rename_i hc
        rw [if_pos hc]
        split at h
        · obtain ⟨rfl, rfl⟩ := Prod.mk.inj (Option.some.inj h); exact ⟨rfl, rfl⟩
        · cases h
      · cases h
    · cases h
  case ext x i =>
    simp only [rval] at h ⊢
    rw [he x (by simp [ROp.opds])]
    split at h
    · split at h
      · obtain ⟨rfl, rfl⟩ := Prod.mk.inj (Option.some.inj h); exact ⟨rfl, rfl⟩
      · cases h
    · cases h
  case len x =>
    simp only [rval] at h ⊢
    rw [he x (by simp [ROp.opds])]
    split at h <;> first | (obtain ⟨rfl, rfl⟩ := Prod.mk.inj (Option.some.inj h); exact ⟨rfl, rfl⟩) | cases h
  case lenS x =>
    simp only [rval] at h ⊢
    rw [he x (by simp [ROp.opds])]
    split at h <;> first | (obtain ⟨rfl, rfl⟩ := Prod.mk.inj (Option.some.inj h); exact ⟨rfl, rfl⟩) | cases h
  case mm isMax x y =>
    simp only [rval] at h ⊢
    rw [he x (by simp [ROp.opds]), he y (by simp [ROp.opds])]
    split at h
    · obtain ⟨rfl, rfl⟩ := Prod.mk.inj (Option.some.inj h); exact ⟨rfl, rfl⟩
    · cases h
  case mkfn f l =>
    simp only [rval] at h ⊢
    have hl : l.map (Opd.ev E st') = l.map (Opd.ev E st) := List.map_congr_left fun x hx => he x (by simpa [ROp.opds] using hx)
    rw [hl]
    obtain ⟨rfl, rfl⟩ := Prod.mk.inj (Option.some.inj h); exact ⟨rfl, rfl⟩
  case mkIfc t x =>
    simp only [rval] at h ⊢
    rw [he x (by simp [ROp.opds])]
    split at h <;> (obtain ⟨rfl, rfl⟩ := Prod.mk.inj (Option.some.inj h); exact ⟨rfl, rfl⟩)
  case asrt t x =>
    simp only [rval] at h ⊢
    rw [he x (by simp [ROp.opds])]
    split at h
    · split at h
      · rename_i hc; rw [if_pos hc]; obtain ⟨rfl, rfl⟩ := Prod.mk.inj (Option.some.inj h); exact ⟨rfl, rfl⟩
      · cases h
    · split at h
      · rename_i hc; rw [if_pos hc]; obtain ⟨rfl, rfl⟩ := Prod.mk.inj (Option.some.inj h); exact ⟨rfl, rfl⟩
      · cases h
    · cases h

theorem rowsOf_objs {st st' : St} (h : st'.objs = st.objs) (d : DV) : rowsOf st' d = rowsOf st d := by cases d <;> simp only [rowsOf, h]

/-- An operation comes to the same, if its operands and the objects are the same. -/
theorem rval_env {E : Prg} {op : ROp} {st st' : St} (he : EvEq E op st st') (ho : st'.objs = st.objs) {p : DV × Objs} (h : rval E st op = some p) : rval E st' op = some p := by
  by_cases hq : op.quiet = true
  · obtain ⟨d, o⟩ := p
    obtain ⟨h1, h2⟩ := rval_stay hq he (fun _ x hx k z hk hz => by rw [ho]; exact hz) h
    rw [h1, h2, ho]
  · cases op <;> first | exact absurd rfl hq | skip
    case box sz x => simp only [rval] at h ⊢; rw [he x (by simp [ROp.opds]), ho]; exact h
    case alloc zero => simp only [rval] at h ⊢; rw [ho]; exact h
    case mkrow sz zero len parts =>
      simp only [rval] at h ⊢
      obtain ⟨y, hy, h2⟩ := Option.map_eq_some_iff.1 h
      rw [ho]
      exact Option.map_eq_some_iff.2 ⟨y, (foldl_congr' _ _ fun x hx b => by
        have : x.2.ev E st' = x.2.ev E st := he x.2 (by simp only [ROp.opds, List.mem_map]; exact ⟨x, hx, rfl⟩)
        rw [this]).trans hy, h2⟩
    case store sz q x => simp only [rval] at h ⊢; rw [he q (by simp [ROp.opds]), he x (by simp [ROp.opds]), ho]; exact h
    case append sz by_ x y => simp only [rval] at h ⊢; rw [he x (by simp [ROp.opds]), he y (by simp [ROp.opds]), ho, rowsOf_objs ho]; exact h
    case copy sz x y => simp only [rval] at h ⊢; rw [he x (by simp [ROp.opds]), he y (by simp [ROp.opds]), ho, rowsOf_objs ho]; exact h
    case mkslice sz by_ zero n c => simp only [rval] at h ⊢; rw [he n (by simp [ROp.opds]), he c (by simp [ROp.opds]), ho]; exact h
    case conv k x => simp only [rval] at h ⊢; rw [he x (by simp [ROp.opds]), ho]; simp only [rowsOf_objs ho]; exact h
    case call f l => cases h
    case calld y l => cases h
    case inv x name l => cases h

/-- What an operation leaves as it was. -/
theorem rval_eff {E : Prg} {op : ROp} {st : St} {d : DV} {o : Objs} (h : rval E st op = some (d, o)) {k : Nat} {z : Option Ob} (hz : st.objs[k]? = some z) (hk : ∀ p ∈ op.wr, (p.ev E st).id ≠ some k) : o[k]? = some z := by
  have hlt : k < st.objs.length := (List.getElem?_eq_some_iff.1 hz).1
  by_cases hq : op.quiet = true
  · obtain ⟨_, h2⟩ := rval_stay (st' := st) hq (fun _ _ => rfl) (fun _ x hx k z hk hz => hz) h
    rw [h2]; exact hz
  · cases op <;> first | exact absurd rfl hq | skip
    case box sz x =>
      simp only [rval] at h
      split at h
      · split at h
        · obtain ⟨rfl, rfl⟩ := Prod.mk.inj (Option.some.inj h); rw [List.getElem?_append_left hlt]; exact hz
        · cases h
      · cases h
    case alloc zero => simp only [rval] at h; obtain ⟨rfl, rfl⟩ := Prod.mk.inj (Option.some.inj h); rw [List.getElem?_append_left hlt]; exact hz
    case mkrow sz zero len parts =>
      simp only [rval] at h
      obtain ⟨y, hy, h2⟩ := Option.map_eq_some_iff.1 h
      obtain ⟨rfl, rfl⟩ := Prod.mk.inj h2
      rw [List.getElem?_append_left hlt]; exact hz
    case store sz q x =>
      simp only [rval] at h
      have := hk q (by simp [ROp.wr])
      split at h
      · rename_i o' i j cs hq' hx
        rw [hq'] at this
        split at h
        · split at h
          · split at h
            · obtain ⟨rfl, rfl⟩ := Prod.mk.inj (Option.some.inj h)
              rw [List.getElem?_set_ne (fun e => this (by rw [e]; rfl))]; exact hz
            · cases h
          · cases h
        · cases h
      · cases h
    case append sz by_ x y =>
      simp only [rval] at h
      have := hk x (by simp [ROp.wr])
      split at h
      · split at h
        · obtain ⟨rfl, rfl⟩ := Prod.mk.inj (Option.some.inj h); rw [List.getElem?_append_left hlt]; exact hz
        · cases h
      · rename_i o' off n s2 new hx hy
        rw [hx] at this
        split at h
        · split at h
          · obtain ⟨rfl, rfl⟩ := Prod.mk.inj (Option.some.inj h)
            rw [List.getElem?_append_left (by simpa using hlt), List.getElem?_set_ne (fun e => this (by rw [e]; rfl))]; exact hz
          · cases h
        · cases h
      · cases h
    case copy sz x y =>
      simp only [rval] at h
      have := hk x (by simp [ROp.wr])
      split at h
      · rename_i o' off n s2 new hx hy
        rw [hx] at this
        split at h
        · split at h
          · obtain ⟨rfl, rfl⟩ := Prod.mk.inj (Option.some.inj h)
            rw [List.getElem?_set_ne (fun e => this (by rw [e]; rfl))]; exact hz
          · cases h
        · cases h
      · cases h
    case mkslice sz by_ zero n c =>
      simp only [rval] at h
      split at h
      · split at h
        · obtain ⟨rfl, rfl⟩ := Prod.mk.inj (Option.some.inj h); rw [List.getElem?_append_left hlt]; exact hz
        · cases h
      · cases h
    case conv k x =>
      simp only [rval] at h
      split at h
      · obtain ⟨rfl, rfl⟩ := Prod.mk.inj (Option.some.inj h); exact hz
      · cases h
      · split at h
        · split at h
          · obtain ⟨z', hz', h2⟩ := Option.map_eq_some_iff.1 h
            obtain ⟨rfl, rfl⟩ := Prod.mk.inj h2
            exact hz
          · cases h
        · cases h
      · split at h
        · obtain ⟨rfl, rfl⟩ := Prod.mk.inj (Option.some.inj h); rw [List.getElem?_append_left hlt]; exact hz
        · cases h
      · obtain ⟨rfl, rfl⟩ := Prod.mk.inj (Option.some.inj h); exact hz
      · split at h
        · split at h
          · obtain ⟨rfl, rfl⟩ := Prod.mk.inj (Option.some.inj h); exact hz
          · cases h
        · cases h
      · cases h
    case call f l => cases h
    case calld y l => cases h
    case inv x name l => cases h

end Go.Proofs.Ytaopaongpoecoaa
end
section
/- Regions whose order is drawn: one order for all. -/
set_option linter.unusedVariables false
set_option linter.unusedSimpArgs false
namespace Go.Proofs.Ytaopaongpoecoaa
open Go.RowKit

theorem St.fzd_false (dst : Option Nat) (st : St) : st.fzd false dst = st := by cases dst <;> rfl
theorem St.put_objs (st : St) (a : Option Nat) (d : DV) (o : Objs) : ({ (st.put a d) with objs := o } : St) = ({ st with objs := o } : St).put a d := by cases a <;> rfl
theorem St.objs_put (st : St) (a : Option Nat) (d : DV) : (st.put a d).objs = st.objs := by cases a <;> rfl
theorem get_put_ne {st : St} {dst : Option Nat} {d : DV} {t : Nat} (h : ∀ u, dst = some u → u ≠ t) : (st.put dst d).get t = st.get t := by
  cases dst with
  | none => rfl
  | some u => rw [St.get_put, if_neg (h u rfl)]

/-- The operation comes to this value, now and whenever. -/
structure Stay (E : Prg) (r : ROper) (ps : List Opd) (d : DV) (st : St) : Prop where
  run : match r.guard with
    | none => rval E st r.op = some (d, st.objs)
    | some (t, want) => (∃ b, st.get t = .bool b ∧ (b = want → rval E st r.op = some (d, st.objs)) ∧ (b ≠ want → d = .no)) ∨ ((∃ v, st.get t = .lit v ∧ boolV v = false) ∧ d = .no)
  clr : r.op.blind = true ∨ ∀ p ∈ ps, clearOf E st r.op p

theorem quiet_notCall {r : ROp} (h : r.quiet = true) : r.isCall = false := by cases r <;> first | rfl | cases h

theorem opWp_rval {E : Prg} {F : FTab} {dr : Bool} {r : ROper} {K : St → Prop} {st : St} (hn : r.op.isCall = false) :
    opWp E F dr r K st ↔ bindO (rval E st r.op) fun p => K ((({ st with objs := p.2 } : St).put r.dst p.1).fzd r.fz r.dst) := by
  unfold opWp
  rw [← rvl_eq]
  generalize r.op = op at hn ⊢
  cases op <;> first | exact Iff.rfl | cases hn

theorem Stay.of {E : Prg} {F : FTab} {dr : Bool} {r : ROper} {ps : List Opd} {K : St → Prop} {st : St} (hq : r.op.quiet = true) (hz : r.fz = false) (hc : r.op.blind = true ∨ ∀ p ∈ ps, clearOf E st r.op p) (h : stepWp E F dr r K st) :
    ∃ d, Stay E r ps d st ∧ K (st.put r.dst d) := by
  have run : opWp E F dr r K st → ∃ d, rval E st r.op = some (d, st.objs) ∧ K (st.put r.dst d) := by
    intro h
    rw [opWp_rval (quiet_notCall hq)] at h
    cases hv : rval E st r.op with
    | none => rw [hv] at h; exact h.elim
    | some p =>
      obtain ⟨d, o⟩ := p
      obtain ⟨_, rfl⟩ := rval_stay (st' := st) hq (fun _ _ => rfl) (fun _ x hx k z hk hz => hz) hv
      rw [hv, hz] at h
      simp only [bindO, St.fzd_false] at h
      exact ⟨d, rfl, h⟩
  unfold stepWp at h
  cases hg : r.guard with
  | none =>
    rw [hg] at h
    obtain ⟨d, h1, h2⟩ := run h
    exact ⟨d, ⟨by rw [hg]; exact h1, hc⟩, h2⟩
  | some x =>
    obtain ⟨t, want⟩ := x
    rw [hg] at h
    simp only [bindG] at h
    split at h
    · rename_i b hb
      unfold cnd at h
      by_cases hw : b = want
      · rw [if_pos (by simpa using hw), ← hw, St.know_self hb] at h
        obtain ⟨d, h1, h2⟩ := run h
        exact ⟨d, ⟨by rw [hg]; exact .inl ⟨b, hb, fun _ => h1, fun h => absurd hw h⟩, hc⟩, h2⟩
      · have hbw : b = !want := by cases b <;> cases want <;> simp_all
        rw [if_neg (by simpa using hw), ← hbw, St.know_self hb] at h
        exact ⟨.no, ⟨by rw [hg]; exact .inl ⟨b, hb, fun h => absurd h hw, fun _ => rfl⟩, hc⟩, h⟩
    · rename_i v hb
      exact ⟨.no, ⟨by rw [hg]; exact .inr ⟨⟨v, hb, h.1⟩, rfl⟩, hc⟩, h.2⟩
    · exact h.elim

theorem Stay.step {E : Prg} {F : FTab} {dr : Bool} {r : ROper} {ps : List Opd} {K : St → Prop} {st : St} {d : DV} (hq : r.op.quiet = true) (hz : r.fz = false) (hs : Stay E r ps d st) (h : K (st.put r.dst d)) : stepWp E F dr r K st := by
  have run : rval E st r.op = some (d, st.objs) → opWp E F dr r K st := fun hv => by
    rw [opWp_rval (quiet_notCall hq), hv, hz]
    simp only [bindO, St.fzd_false]
    exact h
  have h1 := hs.run
  unfold stepWp
  cases hg : r.guard with
  | none => rw [hg] at h1; exact run h1
  | some x =>
    obtain ⟨t, want⟩ := x
    rw [hg] at h1
    rcases h1 with ⟨b, hb, h2, h3⟩ | ⟨⟨v, hb, hv⟩, h3⟩
    · simp only [hb, bindG]
      unfold cnd
      by_cases hw : b = want
      · rw [if_pos (by simpa using hw), ← hw, St.know_self hb]; exact run (h2 hw)
      · have hbw : b = !want := by cases b <;> cases want <;> simp_all
        rw [if_neg (by simpa using hw), ← hbw, St.know_self hb, ← h3 hw]
        exact h
    · simp only [hb, bindG]
      exact ⟨hv, by rw [← h3]; exact h⟩

/-- It stays so behind any step that sets nothing of what it looks at and writes nothing that it reads. -/
theorem Stay.keep {E : Prg} {r : ROper} {ps : List Opd} {st : St} {d : DV} (hq : r.op.quiet = true) (hs : Stay E r ps d st) {dst : Option Nat} {x : DV} {o : Objs} (hset : ∀ t, dst = some t → t ∉ r.looks) (hps : r.op.blind = true ∨ ∀ p ∈ ps, ∀ t, dst = some t → t ∉ p.tm)
    (ho : r.op.blind = false → ∀ y ∈ r.op.opds, ∀ k z, (y.ev E st).id = some k → st.objs[k]? = some z → o[k]? = some z) : Stay E r ps d (({ st with objs := o } : St).put dst x) := by
  have hev : EvEq E r.op st (({ st with objs := o } : St).put dst x) := fun y hy => by
    rw [ev_put, ev_objs]
    intro t ht hm
    exact hset t ht (by simp only [ROper.looks, ROp.tms, List.mem_append, List.mem_flatMap]; exact .inl ⟨y, hy, hm⟩)
  have hrun : rval E st r.op = some (d, st.objs) → rval E (({ st with objs := o } : St).put dst x) r.op = some (d, (({ st with objs := o } : St).put dst x).objs) := fun hv =>
    (rval_stay hq hev (fun hb y hy k z hk hz => by rw [St.objs_put]; exact ho hb y hy k z hk hz) hv).1
  refine ⟨?_, ?_⟩
  · have h1 := hs.run
    cases hg : r.guard with
    | none => rw [hg] at h1; exact hrun h1
    | some q =>
      obtain ⟨t, want⟩ := q
      rw [hg] at h1
      have hgt : (({ st with objs := o } : St).put dst x).get t = st.get t := get_put_ne (st := { st with objs := o }) (fun u hu e => hset u hu (by subst e; simp [ROper.looks, hg]))
      rcases h1 with ⟨b, hb, h2, h3⟩ | ⟨⟨v, hb, hv⟩, h3⟩
      · exact .inl ⟨b, hgt.trans hb, fun h => hrun (h2 h), h3⟩
      · exact .inr ⟨⟨v, hgt.trans hb, hv⟩, h3⟩
  · rcases hs.clr with hb | hc
    · exact .inl hb
    · rcases hps with hb | hps
      · exact .inl hb
      · refine .inr fun p hp => ?_
        intro y hy k hk
        rw [hev y hy] at hk
        rw [ev_put (fun t ht => hps p hp t ht), ev_objs]
        exact hc p hp y hy k hk

/-- What the tables of rivals told. -/
structure Rival (r : ROper) (ps : List Opd) (y : ROper) : Prop where
  apart : apartR r y = true
  fz : y.fz = false
  wr : r.op.blind = true ∨ (∀ p ∈ y.op.wr, p ∈ ps) ∧ ∀ p ∈ ps, listApart p.tm y.sets = true

theorem stepWp_put {E : Prg} {F : FTab} {r y : ROper} {ps : List Opd} {st : St} {d : DV} {K : St → Prop} (hq : r.op.quiet = true) (hy : Rival r ps y) (hs : Stay E r ps d st) (h : stepWp E F true y K (st.put r.dst d)) :
    stepWp E F true y (fun st' => Stay E r ps d st' ∧ K (st'.put r.dst d)) st := by
  have ha := hy.apart
  simp only [apartR, Bool.and_eq_true] at ha
  obtain ⟨ha1, ha2⟩ := ha
  have hry : ∀ t, r.dst = some t → t ∉ y.looks ∧ ∀ u, y.dst = some u → t ≠ u := fun t ht => by
    have := listApart_spec ha1 (x := t) (by simp [ROper.sets, ht])
    simp only [List.mem_append, not_or] at this
    exact ⟨this.1, fun u hu e => this.2 (by subst e; simp [ROper.sets, hu])⟩
  have hyr : ∀ t, y.dst = some t → t ∉ r.looks := fun t ht => listApart_spec ha2 (x := t) (by simp [ROper.sets, ht])
  have hyp : r.op.blind = true ∨ ∀ p ∈ ps, ∀ t, y.dst = some t → t ∉ p.tm := hy.wr.imp id fun h p hp t ht hm => listApart_spec (h.2 p hp) hm (by simp [ROper.sets, ht])
  have hev : ∀ x ∈ y.op.opds, x.ev E (st.put r.dst d) = x.ev E st := fun x hx => ev_put fun t ht hm => (hry t ht).1 (by simp only [ROper.looks, ROp.tms, List.mem_append, List.mem_flatMap]; exact .inl ⟨x, hx, hm⟩)
  have hcomm : ∀ (st : St) (u : DV), (st.put r.dst d).put y.dst u = (st.put y.dst u).put r.dst d := fun st u => St.put_comm st _ _ _ _ fun t ht hu => (hry t ht).2 t hu rfl
  have op : ∀ {K : St → Prop}, opWp E F true y K (st.put r.dst d) → opWp E F true y (fun st' => Stay E r ps d st' ∧ K (st'.put r.dst d)) st := by
    intro K h
    by_cases hc : ∃ f l, y.op = .call f l
    · obtain ⟨f, l, hop⟩ := hc
      unfold opWp at h ⊢
      rw [hop] at h ⊢
      simp only at h ⊢
      have hl : l.map (Opd.ev E (st.put r.dst d)) = l.map (Opd.ev E st) := List.map_congr_left fun x hx => hev x (by rw [hop]; exact hx)
      rw [hl, St.objs_put] at h
      unfold callV at h ⊢
      split at h
      · rename_i s hs'
        simp only [hy.fz, St.fzd_false, St.put_objs] at h ⊢
        rw [hcomm] at h
        exact ⟨h.1, hs.keep hq hyr hyp (fun hb x hx k z hk hz => by rw [List.getElem?_append_left (List.getElem?_eq_some_iff.1 hz).1]; exact hz), h.2⟩
      · exact h.elim
      · exact h.elim
    · by_cases hcd : ∃ q l, y.op = .calld q l
      · obtain ⟨q, l, hop⟩ := hcd
        unfold opWp at h
        rw [hop] at h
        exact (calldV_drawn h).elim
      by_cases hci : ∃ q nm l, y.op = .inv q nm l
      · obtain ⟨q, nm, l, hop⟩ := hci
        unfold opWp at h
        rw [hop] at h
        exact (invV_drawn h).elim
      have hn : y.op.isCall = false := by
        cases hy2 : y.op <;> first | rfl | exact (hcd ⟨_, _, hy2⟩).elim | exact (hc ⟨_, _, hy2⟩).elim | exact (hcd ⟨_, _, rfl⟩).elim | exact (hc ⟨_, _, rfl⟩).elim | exact (hci ⟨_, _, _, hy2⟩).elim | exact (hci ⟨_, _, _, rfl⟩).elim
      rw [opWp_rval hn] at h ⊢
      cases hv : rval E (st.put r.dst d) y.op with
      | none => rw [hv] at h; exact h.elim
      | some p =>
        have hv2 := rval_env (st' := st) (fun x hx => (hev x hx).symm) (St.objs_put st r.dst d).symm hv
        rw [hv] at h
        rw [hv2]
        obtain ⟨u, o⟩ := p
        simp only [bindO, hy.fz, St.fzd_false, St.put_objs] at h ⊢
        rw [hcomm] at h
        refine ⟨hs.keep hq hyr hyp (fun hb x hx k z hk hz => rval_eff hv2 hz fun p hp e => ?_), h⟩
        rcases hy.wr with hb' | ⟨hw, _⟩
        · rw [hb] at hb'; cases hb'
        · rcases hs.clr with hb' | hclr
          · rw [hb] at hb'; cases hb'
          · exact hclr p (hw p hp) x hx k hk e
  unfold stepWp at h ⊢
  cases hg : y.guard with
  | none => rw [hg] at h; exact op h
  | some q =>
    obtain ⟨t, want⟩ := q
    rw [hg] at h
    simp only at h ⊢
    have hgt : (st.put r.dst d).get t = st.get t := get_put_ne fun u hu e => (hry u hu).1 (by subst e; simp [ROper.looks, hg])
    simp only [bindG] at h ⊢
    cases hb : st.get t <;> rw [hgt, hb] at h <;> first | exact h.elim | skip
    · rename_i b
      simp only at h ⊢
      unfold cnd at h ⊢
      by_cases hw : b = want
      · rw [if_pos (by simpa using hw), ← hw, St.know_self (by rw [hgt, hb])] at h
        rw [if_pos (by simpa using hw), ← hw, St.know_self hb]
        exact op h
      · have hbw : b = !want := by cases b <;> cases want <;> simp_all
        rw [if_neg (by simpa using hw), ← hbw, St.know_self (by rw [hgt, hb]), hcomm] at h
        rw [if_neg (by simpa using hw), ← hbw, St.know_self hb]
        exact ⟨hs.keep hq hyr hyp (o := st.objs) (fun hb x hx k z hk hz => hz), h⟩
    · simp only at h ⊢
      rw [hcomm] at h
      exact ⟨h.1, hs.keep hq hyr hyp (o := st.objs) (fun hb x hx k z hk hz => hz), h.2⟩

/-- Whichever of the operations that are ready comes next. -/
def anyA (E : Prg) (F : FTab) (ops : Array Oper) (rl : List ROper) (en : Option Nat) : Nat → Array Bool → (St → Prop) → St → Prop
  | 0, listed, K, st => Region.ready .any ops listed = [] ∧ K st
  | fuel + 1, listed, K, st => (Region.ready .any ops listed = [] → K st) ∧
    ∀ i ∈ Region.ready .any ops listed, ∀ r, rl[i]? = some r → stepWp E F (!decide (en = some i)) r (anyA E F ops rl en fuel (listed.setIfInBounds i true) K) st

theorem anyA_sound {E : Prg} {F : FTab} (hF : FOk E F) {n : Nat} {fz : List Nat} {ops : Array Oper} {rl : List ROper} {en : Option Nat} (hc : compOps E.P n fz ops ops.toList = some rl) {C : Ctx} (hn : C.n = n) {K : St → Prop} {Q : Exit → Act → World → Prop}
    (hQ : ∀ st' a' w', K st' → RelSt E C st' a' w' → Q .normal a' w') : ∀ (fuel : Nat) (listed : Array Bool) (st : St) (a : Act) (w : World), RelSt E C st a w → anyA E F ops rl en fuel listed K st → wpAny E.P .any ops Q fuel listed a w
  | 0, listed, st, a, w, hr, h => ⟨h.1, hQ _ _ _ h.2 hr⟩
  | fuel + 1, listed, st, a, w, hr, h => by
    refine ⟨fun h0 => hQ _ _ _ (h.1 h0) hr, fun i hi => ?_⟩
    obtain ⟨hun, o, ho, _⟩ := mem_ready.1 hi
    obtain ⟨hlen, hget⟩ := compOps_get hc
    have hlt : i < rl.length := by rw [hlen]; simpa using (Array.getElem?_eq_some_iff.1 ho).1
    have hr2 := List.getElem?_eq_getElem hlt
    have hco := hget i o _ (by rw [Array.getElem?_toList]; exact ho) hr2
    unfold wpOp
    rw [ho]
    exact stepWp_sound hF hco hn hr (h.2 i hi _ hr2) fun st' a' w' hk hr' => anyA_sound hF hc hn hQ fuel _ st' a' w' hr' hk

/-- Whatever is listed, so is what comes ahead of it. -/
def Closed (ops : Array Oper) (listed : Array Bool) : Prop := ∀ j, listed.getD j false = true → ∀ k ∈ depsOf ops j, listed.getD k false = true
theorem mem_depsOf {ops : Array Oper} {j k : Nat} (h : k ∈ depsOf ops j) : ∃ o e, ops[j]? = some o ∧ e ∈ o.after ∧ Region.binds .any e = true ∧ e.on = k := by
  unfold depsOf at h
  split at h
  · rename_i o ho
    obtain ⟨e, he, hk⟩ := List.mem_map.1 h
    obtain ⟨h1, h2⟩ := List.mem_filter.1 he
    exact ⟨o, e, ho, by simpa using h1, h2, hk⟩
  · cases h
theorem getD_true {l : Array Bool} {k : Nat} (h : l.getD k true = false) : l.getD k false = false := by
  rcases Nat.lt_or_ge k l.size with h' | h'
  · simp [h'] at h ⊢; exact h
  · simp [Array.getElem?_eq_none h'] at h
theorem ready_deps {ops : Array Oper} {listed : Array Bool} {j : Nat} (h : j ∈ Region.ready .any ops listed) : ∀ k ∈ depsOf ops j, listed.getD k false = true := fun k hk => by
  obtain ⟨o, e, ho, he, hb, rfl⟩ := mem_depsOf hk
  obtain ⟨_, o', ho', hall⟩ := mem_ready.1 h
  obtain rfl := Option.some.inj (ho.symm.trans ho')
  exact hall e he hb
theorem getD_set_or {l : Array Bool} {i k : Nat} : (l.setIfInBounds i true).getD k false = true ↔ l.getD k false = true ∨ (k = i ∧ i < l.size) := by
  rcases Nat.lt_or_ge k l.size with h' | h'
  · by_cases e : k = i
    · subst e; simp [h']
    · have e' : ¬ i = k := fun h => e h.symm
      simp [h', Array.getElem_setIfInBounds, e, e']
  · simp [h', Nat.not_lt.2 h']
    intro h; omega
theorem Closed.step {ops : Array Oper} {listed : Array Bool} {j : Nat} (hc : Closed ops listed) (h : j ∈ Region.ready .any ops listed) : Closed ops (listed.setIfInBounds j true) := fun i hi k hk => by
  rw [getD_set_or] at hi ⊢
  rcases hi with hi | ⟨rfl, _⟩
  · exact .inl (hc i hi k hk)
  · exact .inl (ready_deps h k hk)
theorem mem_addNew {x : Nat} : ∀ {l S : List Nat}, x ∈ addNew l S → x ∈ l ∨ x ∈ S
  | [], S, h => .inr h
  | y :: l, S, h => by
    simp only [addNew] at h
    split at h
    · rcases mem_addNew h with h1 | h1
      · exact .inl (List.mem_cons_of_mem _ h1)
      · exact .inr h1
    · rcases mem_addNew h with h1 | h1
      · exact .inl (List.mem_cons_of_mem _ h1)
      · rcases List.mem_cons.1 h1 with rfl | h1
        · exact .inl (by simp)
        · exact .inr h1
theorem aheadOf_listed {ops : Array Oper} {listed : Array Bool} (hc : Closed ops listed) : ∀ (n : Nat) (S : List Nat), (∀ k ∈ S, listed.getD k false = true) → ∀ k ∈ aheadOf ops n S, listed.getD k false = true
  | 0, S, h, k, hk => h k hk
  | n + 1, S, h, k, hk => aheadOf_listed hc n _ (fun i hi => by
    rcases mem_addNew hi with h1 | h1
    · obtain ⟨j, hj, hij⟩ := List.mem_flatMap.1 h1
      exact hc j (h j hj) i hij
    · exact h i h1) k hk
theorem endOk_all {ops : Array Oper} {listed : Array Bool} {e i : Nat} (he : endOk ops e = true) (hc : Closed ops listed) (hr : e ∈ Region.ready .any ops listed) (hi : i < ops.size) (hne : i ≠ e) : listed.getD i false = true := by
  unfold endOk at he
  have := List.all_eq_true.1 he i (List.mem_range.2 hi)
  simp only [Bool.or_eq_true, beq_iff_eq, hne, false_or] at this
  exact aheadOf_listed hc _ _ (ready_deps hr) i (by simpa using this)
theorem endOf_ok {ops : Array Oper} {rl : List ROper} {e : Nat} (h : endOf ops rl = some e) : endOk ops e = true := by
  unfold endOf at h
  split at h
  · split at h
    · rename_i hc
      obtain rfl := Option.some.inj h
      simp only [Bool.and_eq_true] at hc
      exact hc.2
    · cases h
  · cases h
theorem Closed.none (ops : Array Oper) (n : Nat) : Closed ops (Array.replicate n false) := fun j hj => by
  rcases Nat.lt_or_ge j n with h' | h'
  · simp [h'] at hj
  · simp [Nat.not_lt.2 h'] at hj

theorem testBit_maskOf {acc : List Nat} {i : Nat} : ∀ {l : List Nat} {m : Nat}, (maskOf acc l m).testBit i = true → m.testBit i = true ∨ ∃ k ∈ l, k = i ∨ (acc.getD k 0).testBit i = true
  | [], m, h => .inl h
  | k :: l, m, h => by
    rcases testBit_maskOf (l := l) h with h1 | ⟨k', h1, h2⟩
    · rw [Nat.testBit_or, Nat.testBit_or, Bool.or_eq_true, Bool.or_eq_true] at h1
      rcases h1 with (h1 | h1) | h1
      · exact .inl h1
      · refine .inr ⟨k, by simp, .inl ?_⟩
        rw [Nat.one_shiftLeft, Nat.testBit_two_pow] at h1
        simpa using h1
      · exact .inr ⟨k, by simp, .inr h1⟩
    · exact .inr ⟨k', List.mem_cons_of_mem _ h1, h2⟩
theorem ancs_len (ops : Array Oper) : ∀ n, (ancs ops n).length = n
  | 0 => rfl
  | n + 1 => by simp [ancs, ancs_len ops n]
theorem ancs_listed {ops : Array Oper} {listed : Array Bool} (hc : Closed ops listed) {i : Nat} : ∀ (n j : Nat), ((ancs ops n).getD j 0).testBit i = true → (∀ k ∈ depsOf ops j, listed.getD k false = true) → listed.getD i false = true
  | 0, j, h, _ => by simp [ancs] at h
  | n + 1, j, h, hd => by
    rw [ancs] at h
    rcases Nat.lt_or_ge j n with h1 | h1
    · rw [List.getD_eq_getElem?_getD, List.getElem?_append_left (by rw [ancs_len]; exact h1), ← List.getD_eq_getElem?_getD] at h
      exact ancs_listed hc n j h hd
    · rw [List.getD_eq_getElem?_getD, List.getElem?_append_right (by rw [ancs_len]; exact h1), ancs_len] at h
      rcases Nat.eq_or_lt_of_le h1 with h2 | h2
      · subst h2
        simp at h
        rcases testBit_maskOf h with h3 | ⟨k, h3, h4⟩
        · simp at h3
        · rcases h4 with rfl | h4
          · exact hd _ h3
          · exact ancs_listed hc n k h4 (hc k (hd k h3))
      · have : j - n ≠ 0 := by omega
        obtain ⟨m, hm⟩ := Nat.exists_eq_succ_of_ne_zero this
        rw [hm] at h
        simp at h
theorem mem_rivals {ops : Array Oper} {anc : List Nat} {rl : List ROper} {listed : Array Bool} {i j : Nat} {o : Oper} {y : ROper} (hj : ops[j]? = some o) (hy : rl[j]? = some y) (hne : j ≠ i) (hun : listed.getD j true = false)
    (hno : (anc.getD j 0).testBit i = false) : y ∈ rivals ops anc rl listed i := by
  unfold rivals
  refine List.mem_filterMap.2 ⟨j, List.mem_filter.2 ⟨List.mem_range.2 (Array.getElem?_eq_some_iff.1 hj).1, ?_⟩, hy⟩
  simp only [hun, hno, Bool.not_false, Bool.and_true, bne_iff_ne, ne_eq, hne, not_false_eq_true]

/-- What may be taken first is taken first. -/
theorem anyA_first {E : Prg} {F : FTab} {ops : Array Oper} {rl : List ROper} {en : Option Nat} (hen : ∀ e, en = some e → endOk ops e = true) {i : Nat} {r : ROper} {ps : List Opd} {d : DV} {K : St → Prop} (hr : rl[i]? = some r) (hq : r.op.quiet = true) (hz : r.fz = false) (N : Nat) :
    ∀ (fuel : Nat) (listed : Array Bool) (st : St), Closed ops listed →
      (∀ j o y, ops[j]? = some o → rl[j]? = some y → j ≠ i → listed.getD j true = false → ((ancs ops N).getD j 0).testBit i = false → Rival r ps y) →
      i ∈ Region.ready .any ops listed → Stay E r ps d st →
      anyA E F ops rl en fuel (listed.setIfInBounds i true) K (st.put r.dst d) → anyA E F ops rl en (fuel + 1) listed K st := by
  intro fuel
  induction fuel with
  | zero =>
    intro listed st hcl _ hi hs H
    refine ⟨fun h => (by rw [h] at hi; cases hi), fun j hj y hy => ?_⟩
    by_cases hji : j = i
    · subst hji
      obtain rfl := Option.some.inj (hr.symm.trans hy)
      exact hs.step hq hz H
    · have := ready_mono hj hji
      rw [H.1] at this
      cases this
  | succ fuel ih =>
    intro listed st hcl hfree hi hs H
    refine ⟨fun h => (by rw [h] at hi; cases hi), fun j hj y hy => ?_⟩
    by_cases hji : j = i
    · subst hji
      obtain rfl := Option.some.inj (hr.symm.trans hy)
      exact hs.step hq hz H
    · have h1 := H.2 j (ready_mono hj hji) y hy
      obtain ⟨hjun, oj, hoj, hall⟩ := mem_ready.1 hj
      have hnot : ((ancs ops N).getD j 0).testBit i = false := by
        cases hb : ((ancs ops N).getD j 0).testBit i with
        | false => rfl
        | true =>
          have h1 := ancs_listed hcl N j hb (ready_deps hj)
          have h0 := (mem_ready.1 hi).1
          rw [getD_true h0] at h1
          cases h1
      have hdr : (!decide (en = some j)) = true := by
        simp only [Bool.not_eq_true', decide_eq_false_iff_not]
        intro he
        obtain ⟨hiun, oi, hoi, _⟩ := mem_ready.1 hi
        have := endOk_all (hen j he) hcl hj (Array.getElem?_eq_some_iff.1 hoi).1 (Ne.symm hji)
        rw [getD_true hiun] at this
        cases this
      rw [hdr] at h1 ⊢
      have h2 := stepWp_put hq (hfree j oj y hoj hy hji hjun hnot) hs h1
      have hfree' : ∀ k o z, ops[k]? = some o → rl[k]? = some z → k ≠ i → (listed.setIfInBounds j true).getD k true = false →
          ((ancs ops N).getD k 0).testBit i = false → Rival r ps z := fun k o z hk hz hki hun hno => by
        refine hfree k o z hk hz hki ?_ hno
        by_cases hjk : j = k
        · subst hjk; exact hjun
        · rw [getD_set_ne true hjk] at hun; exact hun
      refine stepWp_mono h2 fun st' h3 => ih (listed.setIfInBounds j true) st' (hcl.step hj) hfree' (ready_mono hi (Ne.symm hji)) h3.1 ?_
      rw [Array.setIfInBounds_comm _ _ hji]
      exact h3.2

theorem takeable_spec {ops : Array Oper} {anc : List Nat} {rl : List ROper} {listed : Array Bool} {i : Nat} {r : ROper} {ps : List Opd} (h : takeable ops anc rl listed i = some (r, ps)) : rl[i]? = some r ∧ r.op.quiet = true ∧ r.fz = false ∧
    ∀ y ∈ rivals ops anc rl listed i, Rival r ps y := by
  unfold takeable at h
  split at h
  · rename_i r' hr'
    simp only at h
    split at h
    · rename_i hc
      simp only [Bool.and_eq_true, Bool.not_eq_true', List.all_eq_true] at hc
      obtain ⟨⟨h1, h2⟩, h3⟩ := hc
      split at h
      · rename_i hb
        obtain ⟨rfl, rfl⟩ := Prod.mk.inj (Option.some.inj h)
        exact ⟨hr', h1, h2, fun y hy => ⟨(h3 y hy).1, (h3 y hy).2, .inl hb⟩⟩
      · split at h
        · rename_i hp
          obtain ⟨rfl, rfl⟩ := Prod.mk.inj (Option.some.inj h)
          simp only [List.all_eq_true] at hp
          exact ⟨hr', h1, h2, fun y hy => ⟨(h3 y hy).1, (h3 y hy).2, .inr ⟨fun p hp' => List.mem_flatMap.2 ⟨y, hy, hp'⟩, fun p hp' => hp p hp' y hy⟩⟩⟩
        · cases h
    · cases h
  · cases h

theorem firstSome_spec {α β : Type} {f : α → Option β} : ∀ {l : List α} {x : α} {y : β}, firstSome f l = some (x, y) → x ∈ l ∧ f x = some y
  | [], x, y, h => by cases h
  | a :: l, x, y, h => by
    simp only [firstSome] at h
    split at h
    · rename_i z hz
      obtain ⟨rfl, rfl⟩ := Prod.mk.inj (Option.some.inj h)
      exact ⟨by simp, hz⟩
    · obtain ⟨h1, h2⟩ := firstSome_spec h
      exact ⟨by simp [h1], h2⟩

theorem altAll_spec {E : Prg} {F : FTab} {g : Nat → Option OT} {K : St → Prop} {st : St} : ∀ {l : List Nat} {t : OT}, altAll g l = some t → t.wp E F K st → ∀ i ∈ l, ∃ t', g i = some t' ∧ t'.wp E F K st
  | [], t, h, _ => by cases h
  | [i], t, h, hw => by
    simp only [altAll] at h
    intro j hj
    simp at hj; subst hj
    exact ⟨t, h, hw⟩
  | i :: k :: l, t, h, hw => by
    simp only [altAll] at h
    split at h
    · rename_i a b ha hb
      obtain rfl := Option.some.inj h
      intro j hj
      rcases List.mem_cons.1 hj with rfl | hj
      · exact ⟨a, ha, hw.1⟩
      · exact altAll_spec (l := k :: l) hb hw.2 j hj
    · cases h

theorem compD_sound {E : Prg} {F : FTab} {ops : Array Oper} {rl : List ROper} {en : Option Nat} (hen : ∀ e, en = some e → endOk ops e = true) {K : St → Prop} : ∀ (fuel : Nat) (listed : Array Bool) (t : OT) (st : St), Closed ops listed → compD ops (ancs ops ops.size) rl en fuel listed = some t → t.wp E F K st → anyA E F ops rl en fuel listed K st
  | 0, listed, t, st, hcl, hc, h => by
    simp only [compD] at hc
    split at hc
    · rename_i h0
      obtain rfl := Option.some.inj hc
      exact ⟨h0, h⟩
    · cases hc
  | fuel + 1, listed, t, st, hcl, hc, h => by
    simp only [compD] at hc
    split at hc
    · rename_i h0
      obtain rfl := Option.some.inj hc
      exact ⟨fun _ => h, fun i hi => by rw [h0] at hi; cases hi⟩
    · rename_i hne
      split at hc
      · rename_i i r ps hfs
        obtain ⟨hi, htk⟩ := firstSome_spec hfs
        obtain ⟨hr, hq, hz, hrv⟩ := takeable_spec htk
        obtain ⟨t', ht', rfl⟩ := Option.map_eq_some_iff.1 hc
        obtain ⟨hclr, hst⟩ := h
        obtain ⟨d, hs, hk⟩ := Stay.of hq hz (.inr hclr) hst
        exact anyA_first hen hr hq hz ops.size fuel listed st hcl (fun j o y hj hy hne hun hno => hrv y (mem_rivals hj hy hne hun hno)) hi hs (compD_sound hen fuel _ t' _ (hcl.step hi) ht' hk)
      · refine ⟨fun h0 => (hne h0).elim, fun i hi r hr => ?_⟩
        obtain ⟨t', ht', hw⟩ := altAll_spec hc h i hi
        rw [hr] at ht'
        simp only at ht'
        split at ht'
        · rename_i he
          split at ht'
          · rename_i hd
            obtain rfl := Option.some.inj ht'
            rw [decide_eq_true he]
            exact stepWp_mono hw fun st' hh => compD_sound hen fuel _ .done st' (hcl.step hi) hd hh
          · cases ht'
        · rename_i he
          obtain ⟨t2, ht2, rfl⟩ := Option.map_eq_some_iff.1 ht'
          rw [decide_eq_false he]
          exact stepWp_mono hw fun st' hh => compD_sound hen fuel _ t2 st' (hcl.step hi) ht2 hh

end Go.Proofs.Ytaopaongpoecoaa
end
section
/- The program does what its code does to abstract states: code, loops, functions. -/
set_option linter.unusedVariables false
set_option linter.unusedSimpArgs false
namespace Go.Proofs.Ytaopaongpoecoaa
open Go.RowKit

theorem AWp.mono {E : Prg} {n : Nat} {c : Code} {Q Q' : Exit → St → Prop} {st : St} (h : AWp E n c Q st) (hQ : ∀ e st, Q e st → Q' e st) : AWp E n c Q' st :=
  fun C a w hn hr => Code.wp_mono (fun e a' w' ⟨st', h1, h2⟩ => ⟨st', hQ _ _ h1, h2⟩) (h C a w hn hr)

theorem RC.sound {E : Prg} {F : FTab} (hF : FOk E F) {n : Nat} : ∀ (c : Code) (ann : List Ann) (rc : RC) (Q : Exit → St → Prop) (st : St), comp E.P n ann c = some rc → rc.wp E F n Q st → AWp E n c Q st
  | .skip, ann, rc, Q, st, hc, h => by
    obtain rfl := Option.some.inj hc
    exact fun C a w hn hr => wp_skip ⟨st, h, hr⟩
  | .region id ops draw, ann, rc, Q, st, hc, h => by
    simp only [comp] at hc
    cases hl : compOps E.P n (annOf ann id).fz ops ops.toList with
    | none => rw [hl] at hc; cases hc
    | some l =>
      rw [hl] at hc
      simp only at hc
      cases draw with
      | true =>
        simp only [if_true] at hc
        split at hc
        · rename_i hm
          obtain ⟨t, ht, rfl⟩ := Option.map_eq_some_iff.1 hc
          intro C a w hn hr
          refine wp_region_any hm (anyA_sound hF hl hn (K := fun st' => Q .normal (st'.cut (annOf ann id).lo (annOf ann id).keep)) (fun st' a' w' hk hr' => ⟨_, hk, hr'.cut _ _⟩) _ _ st a _ ?_ (compD_sound (fun _ h => endOf_ok h) _ _ t st (Closed.none _ _) ht h))
          obtain ⟨G, hG⟩ := hr
          exact ⟨G, hG.drew⟩
        · cases hc
      | false =>
        simp only [Bool.false_eq_true, if_false] at hc
        obtain rfl := Option.some.inj hc
        intro C a w hn hr
        exact wp_region_list (opsWp_sound hF _ _ hl hn hr h fun st' a' w' hk hr' => ⟨_, hk, hr'.cut _ _⟩)
  | .seq x y, ann, rc, Q, st, hc, h => by
    simp only [comp] at hc
    cases hx : comp E.P n ann x with
    | none => rw [hx] at hc; cases hc
    | some x' =>
      cases hy : comp E.P n ann y with
      | none => rw [hx, hy] at hc; cases hc
      | some y' =>
        rw [hx, hy] at hc
        obtain rfl := Option.some.inj hc
        intro C a w hn hr
        refine wp_seq (Code.wp_mono ?_ (RC.sound hF x ann x' _ st hx h C a w hn hr))
        rintro e a' w' ⟨st', h1, h2⟩
        cases e with
        | normal => exact RC.sound hF y ann y' Q st' hy h1 C a' w' hn h2
        | _ => exact ⟨st', h1, h2⟩
  | .cond c x y, ann, rc, Q, st, hc, h => by
    simp only [comp] at hc
    cases hcc : copd c with
    | none => rw [hcc] at hc; cases hc
    | some c' =>
      cases hx : comp E.P n ann x with
      | none => rw [hcc, hx] at hc; cases hc
      | some x' =>
        cases hy : comp E.P n ann y with
        | none => rw [hcc, hx, hy] at hc; cases hc
        | some y' =>
          rw [hcc, hx, hy] at hc
          obtain rfl := Option.some.inj hc
          intro C a w hn hr
          simp only [RC.wp] at h
          split at h
          · rename_i b hb
            obtain ⟨G, hG⟩ := hr
            have r := hG.ev hcc
            rw [hb] at r
            generalize hu : a.eval c = u at r
            cases r
            unfold cnd at h
            cases b with
            | true => rw [if_pos rfl, St.knows_self hb] at h; exact wp_cond_true hu (RC.sound hF x ann x' Q st hx h C a w hn ⟨G, hG⟩)
            | false => rw [if_neg (by simp), St.knows_self hb] at h; exact wp_cond_false hu (RC.sound hF y ann y' Q st hy h C a w hn ⟨G, hG⟩)
          · exact h.elim
  | .block id b, ann, rc, Q, st, hc, h => by
    simp only [comp] at hc
    obtain ⟨b', hb, rfl⟩ := Option.map_eq_some_iff.1 hc
    intro C a w hn hr
    refine wp_block (Code.wp_mono ?_ (RC.sound hF b ann b' _ st hb h C a w hn hr))
    rintro e a' w' ⟨st', h1, h2⟩
    cases e with
    | exit id' =>
      simp only [inBlk] at h1
      simp only [Exit.inBlock]
      by_cases hid : id' = id
      · rw [if_pos hid] at h1 ⊢; exact ⟨st', h1, h2⟩
      · rw [if_neg hid] at h1 ⊢; exact ⟨st', h1, h2⟩
    | _ => exact ⟨st', h1, h2⟩
  | .loop b, ann, rc, Q, st, hc, h => by
    simp only [comp] at hc
    obtain ⟨b', hb, rfl⟩ := Option.map_eq_some_iff.1 hc
    exact h b ann hb
  | .exit id, ann, rc, Q, st, hc, h => by
    obtain rfl := Option.some.inj hc
    exact fun C a w hn hr => wp_exit ⟨st, h, hr⟩
  | .ret, ann, rc, Q, st, hc, h => by
    obtain rfl := Option.some.inj hc
    exact fun C a w hn hr => wp_ret ⟨st, h, hr⟩
  | .rangeFunc .., ann, rc, Q, st, hc, h => by cases hc
  | .scope .., ann, rc, Q, st, hc, h => by cases hc
  | .label .., ann, rc, Q, st, hc, h => by cases hc
  | .goto .., ann, rc, Q, st, hc, h => by cases hc
  | .refuse .., ann, rc, Q, st, hc, h => by cases hc

theorem RC.wp_mono {E : Prg} {F : FTab} {n : Nat} : ∀ (c : RC) {Q Q' : Exit → St → Prop} {st : St}, c.wp E F n Q st → (∀ e st, Q e st → Q' e st) → c.wp E F n Q' st
  | .skip, Q, Q', st, h, hq => hq _ _ h
  | .reg ops lo keep, Q, Q', st, h, hq => opsWp_mono ops h fun st hh => hq _ _ hh
  | .regD t lo keep, Q, Q', st, h, hq => OT.wp_mono t h fun st hh => hq _ _ hh
  | .seq a b, Q, Q', st, h, hq => RC.wp_mono a h fun e st hh => by
    cases e with
    | normal => exact RC.wp_mono b hh hq
    | _ => exact hq _ _ hh
  | .cond c a b, Q, Q', st, h, hq => by
    simp only [RC.wp] at h ⊢
    split at h
    · unfold cnd at h ⊢
      split at h
      · rename_i hb; rw [if_pos hb]; exact RC.wp_mono a h hq
      · rename_i hb; rw [if_neg hb]; exact RC.wp_mono b h hq
    · exact h.elim
  | .blk id b, Q, Q', st, h, hq => RC.wp_mono b h fun e st hh => by
    cases e with
    | exit id' =>
      simp only [inBlk] at hh ⊢
      split at hh
      · rename_i hb; rw [if_pos hb]; exact hq _ _ hh
      · rename_i hb; rw [if_neg hb]; exact hq _ _ hh
    | _ => exact hq _ _ hh
  | .loop b, Q, Q', st, h, hq => fun c ann hc => (h c ann hc).mono hq
  | .ext id, Q, Q', st, h, hq => hq _ _ h
  | .ret, Q, Q', st, h, hq => hq _ _ h

/-! ### Loops -/
def envWk (e e' : List (Nat × DV)) : Prop := ∀ x, x ∈ e' → x.2 = .undef ∨ wkT (St.look x.1 e) x.2
def objsWk : Objs → Objs → Prop
  | [], [] => True
  | a :: l, b :: l' => (b = none ∨ a = b) ∧ objsWk l l'
  | _, _ => False
/-- The second state tells no more than the first. -/
def St.wk (s s' : St) : Prop := envWk s.env s'.env ∧ objsWk s.objs s'.objs

theorem look_mem (t : Nat) : ∀ l : List (Nat × DV), St.look t l = .undef ∨ (t, St.look t l) ∈ l
  | [] => .inl rfl
  | (k, d) :: l => by
    simp only [St.look]
    by_cases h : k = t
    · subst h; simp
    · rw [if_neg h]
      rcases look_mem t l with h1 | h1
      · exact .inl h1
      · exact .inr (List.mem_cons_of_mem _ h1)
theorem objsWk_len : ∀ {a b : Objs}, objsWk a b → b.length = a.length ∧ ∀ (k : Nat) (ob : Ob), b[k]? = some (some ob) → a[k]? = some (some ob)
  | [], [], _ => ⟨rfl, fun _ _ h => h⟩
  | a :: l, b :: l', ⟨h1, h2⟩ => by
    obtain ⟨h3, h4⟩ := objsWk_len h2
    refine ⟨by simp [h3], fun k ob hk => ?_⟩
    rcases k with _ | k
    · simp at hk ⊢
      rcases h1 with h1 | h1
      · rw [h1] at hk; cases hk
      · rw [h1]; exact hk
    · simpa using h4 k ob (by simpa using hk)
  | [], _ :: _, h => h.elim
  | _ :: _, [], h => h.elim
theorem objsWk_refl : ∀ a : Objs, objsWk a a
  | [] => trivial
  | _ :: l => ⟨.inr rfl, objsWk_refl l⟩
theorem RelSt.wk {E : Prg} {C : Ctx} {st st' : St} {a : Act} {w : World} (h : RelSt E C st a w) (hw : st.wk st') : RelSt E C st' a w := by
  obtain ⟨G, h⟩ := h
  obtain ⟨h1, h2⟩ := hw
  obtain ⟨h3, h4⟩ := objsWk_len h2
  refine ⟨G, fun t => ?_, h.num, h.defs, h.heap.sub h3 h4,
   ⟨h.frm.os, h.frm.tape, h.frm.output, h.frm.size, h.frm.blk, h.frm.cell, h.frm.frz, fun k r q m hk => h.frm.mine k r q m (h4 k r hk), h.frm.rdn, h.frm.le, h.frm.mko⟩, h.glob⟩
  show Rel G (St.look t st'.env) _
  rcases look_mem t st'.env with h5 | h5
  · rw [h5]; exact .undef _
  · rcases h1 _ h5 with h6 | h6
    · simp only at h6; rw [h6]; exact .undef _
    · exact wkT_rel h6 (h.env t)

theorem exists_least (p : Nat → Prop) : ∀ n, p n → ∃ m, p m ∧ ∀ k, p k → m ≤ k := by
  intro n
  induction n using Nat.strongRecOn with
  | _ n ih =>
    intro hn
    by_cases h : ∃ k, k < n ∧ p k
    · obtain ⟨k, hk, hp⟩ := h
      exact ih k hk hp
    · exact ⟨n, hn, fun k hk => by
        rcases Nat.lt_or_ge k n with h1 | h1
        · exact absurd ⟨k, h1, hk⟩ h
        · exact h1⟩

/-- A loop, by what holds at each round's head and a measure. -/
theorem LoopWp.inv {E : Prg} {F : FTab} (hF : FOk E F) {n : Nat} {b : RC} {Q : Exit → St → Prop} {st : St} {σ : Type} (S : σ → St) (I : σ → Prop) (μ : σ → Nat) (s0 : σ) (h0 : I s0) (hw : st.wk (S s0))
    (round : ∀ s, I s → b.wp E F n (fun e st' => match e with
      | .normal => ∃ s', st'.wk (S s') ∧ I s' ∧ μ s' < μ s
      | e => Q e st') (S s)) : LoopWp E n b Q st := by
  intro c ann hc C a w hn hr
  let J : Act → World → Nat → Prop := fun a w m => ∃ s, I s ∧ RelSt E C (S s) a w ∧ μ s = m
  have hex : ∀ a w, (∃ m, J a w m) → ∃ m, J a w m ∧ ∀ k, J a w k → m ≤ k := fun a w ⟨m, hm⟩ => exists_least _ m hm
  open Classical in
  let f : Act → World → Nat := fun a w => if h : ∃ m, J a w m then Classical.choose (hex a w h) else 0
  have hf : ∀ a w, (∃ m, J a w m) → J a w (f a w) ∧ ∀ k, J a w k → f a w ≤ k := fun a w h => by
    simp only [f, dif_pos h]
    exact Classical.choose_spec (hex a w h)
  refine wp_loop (fun a w => ∃ m, J a w m) f ⟨μ s0, s0, h0, hr.wk hw, rfl⟩ (fun a w hJ => ?_)
  obtain ⟨⟨s, hI, hrs, hm⟩, hmin⟩ := hf a w hJ
  refine Code.wp_mono ?_ (RC.sound hF c ann b _ (S s) hc (round s hI) C a w hn hrs)
  rintro e a' w' ⟨st', h1, h2⟩
  cases e with
  | normal =>
    obtain ⟨s', hw', hI', hlt⟩ := h1
    have hJ' : J a' w' (μ s') := ⟨s', hI', h2.wk hw', rfl⟩
    refine ⟨⟨_, hJ'⟩, ?_⟩
    have := (hf a' w' ⟨_, hJ'⟩).2 _ hJ'
    omega
  | _ => exact ⟨st', h1, h2⟩

/-! ### A function -/
def initEnv : Nat → List DV → List (Nat × DV)
  | _, [] => []
  | k, d :: l => (k, d) :: initEnv (k + 1) l

theorem look_init (t : Nat) : ∀ (k : Nat) (l : List DV), St.look t (initEnv k l) = if k ≤ t then (l[t - k]?).getD .undef else .undef
  | k, [] => by simp [initEnv, St.look]
  | k, d :: l => by
    simp only [initEnv, St.look, look_init t (k + 1) l]
    by_cases h : k = t
    · subst h; simp
    · rw [if_neg h]
      by_cases h2 : k ≤ t
      · rw [if_pos h2, if_pos (by omega), show t - k = (t - (k + 1)) + 1 by omega, List.getElem?_cons_succ]
      · rw [if_neg h2, if_neg (by omega)]

def finQ (rs : List Res) (R : DV → Objs → Prop) : Exit → St → Prop
  | .normal, st => match resOf st rs with
    | some d => R d st.objs
    | none => False
  | .ret, st => match resOf st rs with
    | some d => R d st.objs
    | none => False
  | _, _ => False

def cRes (P : Program) : List ResultVar → Option (List Res)
  | [] => some []
  | .tmp t :: l => (cRes P l).map (.t t :: ·)
  | .cell t ty :: l => match tyAgg P ty, tySize P ty, cRes P l with
    | some ag, some sz, some l' => some (.c t ag sz :: l')
    | _, _, _ => none
theorem cRes_ok {P : Program} : ∀ {l : List ResultVar} {l' : List Res}, cRes P l = some l' → resOk P l l'
  | [], l', h => by obtain rfl := Option.some.inj h; trivial
  | .tmp t :: l, l', h => by
    obtain ⟨l2, h2, rfl⟩ := Option.map_eq_some_iff.1 h
    exact ⟨rfl, cRes_ok h2⟩
  | .cell t ty :: l, l', h => by
    simp only [cRes] at h
    split at h
    · rename_i ag sz l2 h1 h2 h3
      obtain rfl := Option.some.inj h
      exact ⟨rfl, h1, h2, cRes_ok h3⟩
    · cases h

/-- A function's code and results, sizes told. -/
structure RFn where
  np : Nat
  n : Nat
  code : RC
  res : List Res
def compFn (P : Program) (ann : List Ann) (f : FuncId) : Option RFn :=
  match P.funcs[f]? with
  | some fn => (match fn.body with
    | some c => (match comp P fn.ntmps ann c, cRes P fn.results.toList with
      | some rc, some rs => some ⟨fn.params.size, fn.ntmps, rc, rs⟩
      | _, _ => none)
    | none => none)
  | none => none

theorem Frm.start {E : Prg} {G : Gh} {T : Objs} {w : World} (hh : Heap G T w) (n : Nat) : Frm ⟨w, G, cellsOf G T, n⟩ G T w :=
  ⟨rfl, rfl, rfl, Nat.le_refl _, fun _ _ _ => rfl, fun _ _ _ => rfl, fun _ _ _ _ => rfl, fun k ob p m h1 h2 h3 => .inr ⟨k, ob, p, m, h1, h2, h3, rfl⟩, fun _ _ h => .inl h, .refl _, fun _ _ h => h⟩

theorem Frm.ctx {w0 : World} {G0 : Gh} {W : Addr → Prop} {n m : Nat} {G : Gh} {T : Objs} {w : World} (h : Frm ⟨w0, G0, W, n⟩ G T w) : Frm ⟨w0, G0, W, m⟩ G T w :=
  ⟨h.os, h.tape, h.output, h.size, h.blk, h.cell, h.frz, h.mine, h.rdn, h.le, h.mko⟩

/-- A function does what its code does. -/
theorem GCalls.of_fn {E : Prg} {F : FTab} (hF : FOk E F) {f : Nat} {ann : List Ann} {rf : RFn} {args : List DV} {T : Objs} {R : DV → Objs → Prop} (hc : compFn E.P ann f = some rf) (hargs : args.length ≤ rf.n)
    (h : rf.code.wp E F rf.n (finQ rf.res fun d T' => T.length ≤ T'.length ∧ R d T') ⟨initEnv 0 args, T⟩) : GCalls E f args T R := by
  unfold compFn at hc
  cases hf : E.P.funcs[f]? with
  | none => rw [hf] at hc; cases hc
  | some fn =>
    rw [hf] at hc
    simp only at hc
    cases hb : fn.body with
    | none => rw [hb] at hc; cases hc
    | some c =>
      rw [hb] at hc
      simp only at hc
      cases h1 : comp E.P fn.ntmps ann c with
      | none => rw [h1] at hc; cases hc
      | some rc =>
        cases h2 : cRes E.P fn.results.toList with
        | none => rw [h1, h2] at hc; cases hc
        | some rs =>
          rw [h1, h2] at hc
          obtain rfl := Option.some.inj hc
          intro G w vs hglob hh hvs hrel
          refine calls_of_wp hf hb ?_
          have hsize : (vs ++ Array.replicate (fn.ntmps - vs.size) undef).size = fn.ntmps := by simp; simp at hargs; omega
          have hr : RelSt E ⟨w, G, cellsOf G T, fn.ntmps⟩ ⟨initEnv 0 args, T⟩ { tmps := vs ++ Array.replicate (fn.ntmps - vs.size) undef, defers := [] } w := by
            refine ⟨G, ⟨fun t => ?_, hsize, rfl, hh, Frm.start (E := E) hh _, hglob⟩⟩
            show Rel G (St.look t (initEnv 0 args)) _
            rw [look_init]
            simp only [Nat.zero_le, if_true, Nat.sub_zero]
            cases ht : args[t]? with
            | none => exact .undef _
            | some d =>
              have hlt : t < vs.size := by rw [hvs]; exact (List.getElem?_eq_some_iff.1 ht).1
              have := hrel t d ht
              rw [Array.getD_eq_getD_getElem?] at this ⊢
              rw [Array.getElem?_append_left hlt]
              exact this
          refine Code.wp_mono ?_ (RC.sound hF c ann rc _ _ h1 h ⟨w, G, cellsOf G T, fn.ntmps⟩ _ w rfl hr)
          rintro e a' w' ⟨st', h3, G', hG'⟩
          have fin : (match resOf st' rs with
              | some d => T.length ≤ st'.objs.length ∧ R d st'.objs
              | none => False) → a'.defers = [] ∧ ∃ v, (results fn a'.tmps).run E.P w' = .ok v w' ∧ (∃ v' r T' G'', Ending.returned v = .returned v' ∧ R r T' ∧ T.length ≤ T'.length ∧ Rel G'' r v' ∧ Heap G'' T' w' ∧ Frm ⟨w, G, cellsOf G T, 0⟩ G'' T' w') := by
            intro h3
            cases hres : resOf st' rs with
            | none => rw [hres] at h3; exact h3.elim
            | some d =>
              rw [hres] at h3
              obtain ⟨v, hv1, hv2⟩ := resOf_run hG' (cRes_ok h2) hres
              exact ⟨hG'.defs, v, hv1, v, d, st'.objs, G', rfl, h3.2, h3.1, hv2, hG'.heap, hG'.frm.ctx⟩
          cases e with
          | normal => exact fin h3
          | ret => exact fin h3
          | _ => exact h3.elim

/-- A call in line: the callee's code, over the caller's table. -/
theorem CallK.of_fn {E : Prg} {F : FTab} (hF : FOk E F) {f : Nat} {ann : List Ann} {rf : RFn} {args : List DV} {T : Objs} {K : DV → Objs → Prop} (hc : compFn E.P ann f = some rf) (hargs : args.length ≤ rf.n)
    (h : rf.code.wp E F rf.n (finQ rf.res fun d T' => T.length ≤ T'.length ∧ K d T') ⟨initEnv 0 args, T⟩) : CallK E f args T K := CallK.all (GCalls.of_fn hF hc hargs h)
theorem finQ_mono {rs : List Res} {R R' : DV → Objs → Prop} (h : ∀ d T, R d T → R' d T) (e : Exit) (st : St) (hq : finQ rs R e st) : finQ rs R' e st := by
  have key : ∀ st : St, (match resOf st rs with
      | some d => R d st.objs
      | none => False) → (match resOf st rs with
      | some d => R' d st.objs
      | none => False) := fun st hh => by
    cases hres : resOf st rs with
    | none => rw [hres] at hh; exact hh
    | some d => rw [hres] at hh; exact h _ _ hh
  cases e with
  | normal => exact key st hq
  | ret => exact key st hq
  | _ => exact hq
/-- What is known of a function is its code. -/
def RFn.spec (E : Prg) (F : FTab) (rf : RFn) (args : List DV) : PSpec :=
  ⟨fun T K => rf.code.wp E F rf.n (finQ rf.res fun d T' => T.length ≤ T'.length ∧ K d T') ⟨initEnv 0 args, T⟩, fun T K K' h hk => RC.wp_mono _ h fun e st hq => finQ_mono (fun d T' hh => ⟨hh.1, hk _ _ hh.2⟩) e st hq⟩
theorem PCalls.of_fn {E : Prg} {F : FTab} (hF : FOk E F) {f : Nat} {ann : List Ann} {rf : RFn} {args : List DV} {R : Nat → DV → Objs → Prop} (hc : compFn E.P ann f = some rf) (hargs : args.length ≤ rf.n)
    (h : ∀ n, rf.code.wp E F rf.n (finQ rf.res fun d T' => ∃ os, T' = List.replicate n none ++ os ∧ R n d os) ⟨initEnv 0 args, List.replicate n none⟩) : PCalls E f args R := by
  intro n
  refine GCalls.of_fn hF hc hargs (RC.wp_mono _ (h n) fun e st hh => ?_)
  have key : ∀ st : St, (match resOf st rf.res with
      | some d => ∃ os, st.objs = List.replicate n none ++ os ∧ R n d os
      | none => False) → (match resOf st rf.res with
      | some d => (List.replicate n (none : Option Ob)).length ≤ st.objs.length ∧ ∃ os, st.objs = List.replicate n none ++ os ∧ R n d os
      | none => False) := fun st hh => by
    cases hres : resOf st rf.res with
    | none => rw [hres] at hh; exact hh
    | some d =>
      rw [hres] at hh
      obtain ⟨os, ho, hR⟩ := hh
      exact ⟨by rw [ho]; simp, os, ho, hR⟩
  cases e with
  | normal => exact key st hh
  | ret => exact key st hh
  | _ => exact hh

theorem PCalls.mono {E : Prg} {f : Nat} {args : List DV} {R R' : Nat → DV → Objs → Prop} (h : PCalls E f args R) (hR : ∀ n r os, R n r os → R' n r os) : PCalls E f args R' :=
  fun n => (h n).mono fun r T' ⟨os, h1, h2⟩ => ⟨os, h1, hR _ _ _ h2⟩

/-- A table of functions' laws, one by one. -/
inductive Ent where
  | o (g : List DV → Option FSpec)
  | h (g : List DV → Option HSpec)
  | p (g : List DV → Option PSpec)
def Ent.app : Ent → List DV → Option FS
  | .o g, a => (g a).map .o
  | .h g, a => (g a).map .h
  | .p g, a => (g a).map .p
instance : Coe (List DV → Option FSpec) Ent := ⟨.o⟩
instance : Coe (List DV → Option HSpec) Ent := ⟨.h⟩
instance : Coe (List DV → Option PSpec) Ent := ⟨.p⟩
abbrev FL := List (Nat × Ent)
def tab (l : FL) : FTab := fun f args => match l.lookup f with
  | some g => g.app args
  | none => none
theorem FOk.nil {E : Prg} : FOk E (tab []) := ⟨fun f args s h => (by cases h), fun f args s h => (by cases h)⟩
theorem tab_eq (f : Nat) (g : Ent) (l : FL) (k : Nat) (args : List DV) : tab ((f, g) :: l) k args = if k = f then g.app args else tab l k args := by
  unfold tab
  simp only [List.lookup]
  by_cases e : k = f
  · subst e; simp
  · rw [beq_false_of_ne e, if_neg e]
theorem FOk.cons {E : Prg} {f : Nat} {g : List DV → Option FSpec} {l : FL} (hl : FOk E (tab l)) (h : ∀ args s, g args = some s → s.pre → PCalls E f args fun n r os => r = (s.res n).1 ∧ os = (s.res n).2) : FOk E (tab ((f, .o g) :: l)) := by
  refine ⟨fun k args s hs hp => ?_, fun k args s hs => ?_⟩
  · rw [tab_eq] at hs
    split at hs
    · rename_i e
      subst e
      simp only [Ent.app, Option.map_eq_some_iff] at hs
      obtain ⟨s', h1, h2⟩ := hs
      obtain rfl := FS.o.inj h2
      exact h args s' h1 hp
    · exact hl.1 k args s hs hp
  · rw [tab_eq] at hs
    split at hs
    · simp only [Ent.app, Option.map_eq_some_iff] at hs
      obtain ⟨s', _, h2⟩ := hs
      cases h2
    · exact hl.2 k args s hs
theorem FOk.consH {E : Prg} {f : Nat} {g : List DV → Option HSpec} {l : FL} (hl : FOk E (tab l)) (h : ∀ args s, g args = some s → HOk E f args s) : FOk E (tab ((f, .h g) :: l)) := by
  refine ⟨fun k args s hs hp => ?_, fun k args s hs T K hp => ?_⟩
  · rw [tab_eq] at hs
    split at hs
    · simp only [Ent.app, Option.map_eq_some_iff] at hs
      obtain ⟨s', _, h2⟩ := hs
      cases h2
    · exact hl.1 k args s hs hp
  · rw [tab_eq] at hs
    split at hs
    · rename_i e
      subst e
      simp only [Ent.app, Option.map_eq_some_iff] at hs
      obtain ⟨s', h1, h2⟩ := hs
      obtain rfl := FS.p.inj h2
      exact h args s' h1 T K hp.1 hp.2
    · exact hl.2 k args s hs T K hp
theorem FOk.consP {E : Prg} {f : Nat} {g : List DV → Option PSpec} {l : FL} (hl : FOk E (tab l)) (h : ∀ args s, g args = some s → ∀ (T : Objs) (K : DV → Objs → Prop), s.wp T K → CallK E f args T K) : FOk E (tab ((f, .p g) :: l)) := by
  refine ⟨fun k args s hs hp => ?_, fun k args s hs T K hp => ?_⟩
  · rw [tab_eq] at hs
    split at hs
    · simp only [Ent.app, Option.map_eq_some_iff] at hs
      obtain ⟨s', _, h2⟩ := hs
      cases h2
    · exact hl.1 k args s hs hp
  · rw [tab_eq] at hs
    split at hs
    · rename_i e
      subst e
      simp only [Ent.app, Option.map_eq_some_iff] at hs
      obtain ⟨s', h1, h2⟩ := hs
      obtain rfl := FS.p.inj h2
      exact h args s' h1 T K hp
    · exact hl.2 k args s hs T K hp

/-- One by one, told by its code. -/
theorem FSpec.of_fn {E : Prg} {F : FTab} (hF : FOk E F) {f : Nat} {ann : List Ann} {rf : RFn} {args : List DV} {s : FSpec} (hc : compFn E.P ann f = some rf) (hargs : args.length ≤ rf.n)
    (h : ∀ n, rf.code.wp E F rf.n (finQ rf.res fun d T' => d = (s.res n).1 ∧ T' = List.replicate n none ++ (s.res n).2) ⟨initEnv 0 args, List.replicate n none⟩) : PCalls E f args fun n r os => r = (s.res n).1 ∧ os = (s.res n).2 :=
  PCalls.of_fn hF hc hargs fun n => RC.wp_mono _ (h n) fun e st hh => by
    have key : ∀ st : St, (match resOf st rf.res with
        | some d => d = (s.res n).1 ∧ st.objs = List.replicate n none ++ (s.res n).2
        | none => False) → (match resOf st rf.res with
        | some d => ∃ os, st.objs = List.replicate n none ++ os ∧ d = (s.res n).1 ∧ os = (s.res n).2
        | none => False) := fun st hh => by
      cases hres : resOf st rf.res with
      | none => rw [hres] at hh; exact hh
      | some d => rw [hres] at hh; exact ⟨_, hh.2, hh.1, rfl⟩
    cases e with
    | normal => exact key st hh
    | ret => exact key st hh
    | _ => exact hh

end Go.Proofs.Ytaopaongpoecoaa
end
section
/- What simp is to know, to unfold what is to be shown of code from the front. -/
set_option linter.unusedVariables false
set_option linter.unusedSimpArgs false
namespace Go.Proofs.Ytaopaongpoecoaa
open Go.RowKit

@[congr] theorem opsWp_congr {E : Prg} {F : FTab} {l : List ROper} {K : St → Prop} {st : St} {st' : Unit → St} (h : ∀ u, st = st' u) : opsWp E F l K st = opsWp E F l K (st' ()) := by rw [← h ()]
@[congr] theorem OT.wp_congr {E : Prg} {F : FTab} {t : OT} {K : St → Prop} {st : St} {st' : Unit → St} (h : ∀ u, st = st' u) : t.wp E F K st = t.wp E F K (st' ()) := by rw [← h ()]
@[congr] theorem RC.wp_congr {E : Prg} {F : FTab} {n : Nat} {c : RC} {Q : Exit → St → Prop} {st : St} {st' : Unit → St} (h : ∀ u, st = st' u) : c.wp E F n Q st = c.wp E F n Q (st' ()) := by rw [← h ()]

theorem nrfl {α : Sort _} (a : α) : a = a := of_eq_true (eq_self a)

def bindB (d : DV) (f : Bool → Prop) [Tg f] (_ : True := trivial) : Prop :=
  match (generalizing := false) d with
  | .bool b => f b
  | _ => False
theorem bindB_bool (b : Bool) (f : Bool → Prop) : bindB (.bool b) f = f b := nrfl _

theorem bindG_bool (b : Bool) (f : Bool → Prop) (g : Prop) : bindG (.bool b) f g = f b := nrfl _
theorem bindG_no (f : Bool → Prop) (g : Prop) : bindG .no f g = g := by simp [bindG, DV.no, boolV, Go.undef]

def nx (st : St) (p : DV × Objs) (z : Bool) (dst : Option Nat) : St := (({ st with objs := p.2 } : St).put dst p.1).fzd z dst
theorem nx_f (env : List (Nat × DV)) (objs : Objs) (d : DV) (o : Objs) (t : Nat) : nx ⟨env, objs⟩ (d, o) false (some t) = ⟨St.ins t d env, o⟩ := nrfl _
theorem nx_n (env : List (Nat × DV)) (objs : Objs) (d : DV) (o : Objs) (z : Bool) : nx ⟨env, objs⟩ (d, o) z none = ⟨env, o⟩ := by cases z <;> rfl
theorem nx_t (env : List (Nat × DV)) (objs : Objs) (d : DV) (o : Objs) (t : Nat) : nx ⟨env, objs⟩ (d, o) true (some t) = St.freezes (ownIds (St.look t (St.ins t d env))) ⟨St.ins t d env, o⟩ := nrfl _

/-- A state is unfolded ahead of what is to be shown of it. -/
def goSt (st : St) (k : St → Prop) [Tg k] (_ : True := trivial) : Prop := k st
theorem goSt_eq (st : St) (k : St → Prop) : goSt st k = k st := nrfl _

section
variable (E : Prg) (F : FTab) (n : Nat) (K : St → Prop) (Q : Exit → St → Prop) (st : St) (l : List ROper) (dst : Option Nat) (op : ROp) (z : Bool) (f : Nat) (args : List Opd) (t : Nat) (w : Bool)

/-- One operation, what comes behind it. -/
def stV (E : Prg) (F : FTab) (dr : Bool) (op : ROp) (dst : Option Nat) (z : Bool) (st : St) (k : St → Prop) [Tg k] [Tg op] (_ : True := trivial) : Prop := opWp E F dr ⟨dst, op, none, z⟩ k st
theorem stV_op (dr : Bool) (h : op.isCall = false) : stV E F dr op dst z st K = bindO (rvl E st op) fun p => goSt (nx st p z dst) K := by
  unfold stV opWp
  cases op <;> first | rfl | cases h
theorem stV_call (dr : Bool) : stV E F dr (.call f args) dst z st K = callV E (F f (args.map (Opd.ev E st))) dr f (args.map (Opd.ev E st)) st.objs fun d T' => goSt (nx st (d, T') z dst) K := nrfl _
theorem stV_calld (dr : Bool) (y : Opd) : stV E F dr (.calld y args) dst z st K = calldV E F dr (Opd.ev E st y) (args.map (Opd.ev E st)) st.objs fun d T' => goSt (nx st (d, T') z dst) K := nrfl _
theorem calldV_lit (T : Objs) (L : DV → Objs → Prop) (as : List DV) : calldV E F false (.lit (.func (.func f) #[] #[])) as T L = (hasBody E.P f = true ∧ callV E (F f as) false f as T L) := by simp [calldV]
theorem opsWp_nil : opsWp E F [] K st = K st := nrfl _
theorem opsWp_cons : opsWp E F (⟨dst, op, none, z⟩ :: l) K st = stV E F false op dst z st (opsWp E F l K) := nrfl _
theorem opsWp_guard : opsWp E F (⟨dst, op, some (t, w), z⟩ :: l) K st = bindG (st.get t) (fun b => cnd (b == w) (goSt (st.know t w) fun st => stV E F false op dst z st (opsWp E F l K)) (goSt ((st.know t (!w)).put dst .no) (opsWp E F l K))) (goSt (st.put dst .no) (opsWp E F l K)) := nrfl _

theorem ot_done : OT.done.wp E F K st = K st := nrfl _
theorem ot_alt (a b : OT) : (OT.alt a b).wp E F K st = (a.wp E F K st ∧ b.wp E F K st) := nrfl _
theorem ot_op (k : OT) : (OT.op ⟨dst, op, none, z⟩ k).wp E F K st = stV E F true op dst z st (k.wp E F K) := nrfl _
theorem ot_guard (k : OT) : (OT.op ⟨dst, op, some (t, w), z⟩ k).wp E F K st = bindG (st.get t) (fun b => cnd (b == w) (goSt (st.know t w) fun st => stV E F true op dst z st (k.wp E F K)) (goSt ((st.know t (!w)).put dst .no) (k.wp E F K))) (goSt (st.put dst .no) (k.wp E F K)) := nrfl _
theorem ot_take (p : Opd) (ps : List Opd) (o : ROper) (k : OT) : (OT.take o (p :: ps) k).wp E F K st = (clearOf E st o.op p ∧ (OT.take o ps k).wp E F K st) := by
  simp only [OT.wp, List.forall_mem_cons, and_assoc]
theorem ot_take0 (o : ROper) (k : OT) : (OT.take o [] k).wp E F K st = (OT.op o k).wp E F K st := by simp [OT.wp]

theorem rc_skip : RC.skip.wp E F n Q st = Q .normal st := nrfl _
theorem rc_reg (lo : Nat) (keep : List Nat) : (RC.reg l lo keep).wp E F n Q st = opsWp E F l (fun st' => goSt (st'.cut lo keep) (Q .normal)) st := nrfl _
theorem rc_regD (x : OT) (lo : Nat) (keep : List Nat) : (RC.regD x lo keep).wp E F n Q st = x.wp E F (fun st' => goSt (st'.cut lo keep) (Q .normal)) st := nrfl _
theorem rc_seq (a b : RC) : (RC.seq a b).wp E F n Q st = a.wp E F n (thenQ (b.wp E F n Q) Q) st := nrfl _
theorem rc_cond (c : Opd) (a b : RC) : (RC.cond c a b).wp E F n Q st = bindB (c.ev E st) fun v => cnd v (goSt (st.knows c true) (a.wp E F n Q)) (goSt (st.knows c false) (b.wp E F n Q)) := by
  simp only [RC.wp]
  cases c.ev E st <;> rfl
theorem rc_blk (id : Nat) (b : RC) : (RC.blk id b).wp E F n Q st = b.wp E F n (inBlk id Q) st := nrfl _
theorem rc_loop (b : RC) : (RC.loop b).wp E F n Q st = LoopWp E n b Q st := nrfl _
theorem rc_ext (id : Nat) : (RC.ext id).wp E F n Q st = Q (.exit id) st := nrfl _
theorem rc_ret : RC.ret.wp E F n Q st = Q .ret st := nrfl _

theorem thenQ_n : thenQ K Q .normal st = K st := nrfl _
theorem thenQ_r : thenQ K Q .ret st = Q .ret st := nrfl _
theorem thenQ_e (i : Nat) : thenQ K Q (.exit i) st = Q (.exit i) st := nrfl _
theorem inBlk_n (i : Nat) : inBlk i Q .normal st = Q .normal st := nrfl _
theorem inBlk_r (i : Nat) : inBlk i Q .ret st = Q .ret st := nrfl _
theorem inBlk_e (i j : Nat) : inBlk i Q (.exit j) st = if j = i then Q .normal st else Q (.exit j) st := nrfl _
theorem finQ_n (rs : List Res) (R : DV → Objs → Prop) : finQ rs R .normal st = bindO (resOf st rs) fun d => R d st.objs := by
  simp only [finQ]
  cases resOf st rs <;> rfl
theorem finQ_r (rs : List Res) (R : DV → Objs → Prop) : finQ rs R .ret st = bindO (resOf st rs) fun d => R d st.objs := by
  simp only [finQ]
  cases resOf st rs <;> rfl
@[congr] theorem finQ_congr {rs : List Res} {R : DV → Objs → Prop} {e : Exit} {st : St} {st' : Unit → St} (h : ∀ u, st = st' u) : finQ rs R e st = finQ rs R e (st' ()) := by rw [← h ()]
theorem resOf_1 (r : Res) : resOf st [r] = r.ev st := by
  unfold resOf
  simp only [ress]
  cases r.ev st <;> rfl
theorem resOf_2 (r s : Res) : resOf st [r, s] = (r.ev st).bind fun a => (s.ev st).map fun b => .tup [a, b] := by
  unfold resOf
  simp only [ress]
  cases r.ev st <;> cases s.ev st <;> rfl
theorem resOf_3 (r s q : Res) : resOf st [r, s, q] = (r.ev st).bind fun a => (s.ev st).bind fun b => (q.ev st).map fun c => .tup [a, b, c] := by
  unfold resOf
  simp only [ress]
  cases r.ev st <;> cases s.ev st <;> cases q.ev st <;> rfl
theorem resT (i : Nat) : Res.ev st (.t i) = some (st.get i) := nrfl _
theorem resC (i : Nat) (ag : Bool) (sz : Nat) : Res.ev st (.c i ag sz) = (rvl E st (.load ag sz (.t i))).map (·.1) := by
  simp only [Res.ev, rvl, Opd.ev]
  cases st.get i <;> try rfl
  · dsimp only
    rename_i o r j
    generalize st.objs[o]? = x
    rcases x with _ | _ | ob <;> try rfl
    simp only [Option.bind]
    generalize ob.rows[r]? = y
    cases y with
    | none => rfl
    | some row => simp only; cases rowAt ag sz row j <;> rfl
  · dsimp only
    rename_i row j
    cases rowAt ag sz row j <;> rfl

theorem callV_h (x : HSpec) (l : List DV) (T : Objs) (k : DV → Objs → Prop) : callV E (some (.h x)) false f l T k = (x.pre T ∧ k (x.res T).1 (x.res T).2) := by simp [callV, FS.h, HSpec.toP]
theorem callV_p (x : PSpec) (l : List DV) (T : Objs) (k : DV → Objs → Prop) : callV E (some (.p x)) false f l T k = x.wp T k := by simp [callV]
theorem app_p (g : List DV → Option PSpec) (a : List DV) : Ent.app (.p g) a = (g a).map .p := nrfl _
theorem spec_wp (rf : RFn) (args : List DV) (T : Objs) (K : DV → Objs → Prop) : (rf.spec E F args).wp T K = rf.code.wp E F rf.n (finQ rf.res fun d T' => T.length ≤ T'.length ∧ K d T') ⟨initEnv 0 args, T⟩ := nrfl _
theorem app_o (g : List DV → Option FSpec) (a : List DV) : Ent.app (.o g) a = (g a).map .o := nrfl _
theorem app_h (g : List DV → Option HSpec) (a : List DV) : Ent.app (.h g) a = (g a).map .h := nrfl _
theorem callV_some (x : FSpec) (dr : Bool) (l : List DV) (T : Objs) (k : DV → Objs → Prop) : callV E (some (.o x)) dr f l T k = (x.pre ∧ k (x.res T.length).1 (T ++ (x.res T.length).2)) := nrfl _
theorem ev_t (i : Nat) : Opd.ev E st (.t i) = st.get i := nrfl _
theorem ev_c (d : DV) : Opd.ev E st (.c d) = d := nrfl _
theorem get_mk (env : List (Nat × DV)) (objs : Objs) (i : Nat) : St.get ⟨env, objs⟩ i = St.look i env := nrfl _
theorem put_some (env : List (Nat × DV)) (objs : Objs) (i : Nat) (d : DV) : St.put ⟨env, objs⟩ (some i) d = ⟨St.ins i d env, objs⟩ := nrfl _
theorem put_none (d : DV) : St.put st none d = st := nrfl _
theorem know_mk (env : List (Nat × DV)) (objs : Objs) (i : Nat) (b : Bool) : St.know i b ⟨env, objs⟩ = ⟨St.rep i (.bool b) env, objs⟩ := nrfl _
theorem knows_t (i : Nat) (b : Bool) : st.knows (.t i) b = st.know i b := nrfl _
theorem knows_c (d : DV) (b : Bool) : st.knows (.c d) b = st := nrfl _
def memN (k : Nat) : List Nat → Bool
  | [] => false
  | a :: l => if a = k then true else memN k l
theorem memN_eq (k : Nat) : ∀ l : List Nat, memN k l = l.contains k
  | [] => rfl
  | a :: l => by
    simp only [memN, memN_eq k l, List.contains_cons]
    by_cases h : a = k
    · simp [h]
    · rw [if_neg h, beq_false_of_ne (fun e => h e.symm), Bool.false_or]
def cutE (keep : List Nat) : List (Nat × DV) → List (Nat × DV)
  | [] => []
  | (k, d) :: l => if memN k keep = true then (k, d) :: cutE keep l else cutE keep l
theorem cut_mk (keep : List Nat) (env : List (Nat × DV)) (objs : Objs) : St.cut 0 keep ⟨env, objs⟩ = ⟨cutE keep env, objs⟩ := by
  unfold St.cut
  congr 1
  induction env with
  | nil => rfl
  | cons x l ih =>
    obtain ⟨k, d⟩ := x
    simp only [List.filter_cons, cutE, memN_eq, Nat.not_lt_zero, decide_false, Bool.false_or] at ih ⊢
    rw [ih]

theorem rvl_mov (x : Opd) : rvl E st (.mov x) = some (x.ev E st, st.objs) := nrfl _
theorem rvl_pick (c a b : Opd) : rvl E st (.pick c a b) = match c.ev E st with
    | .bool t => some (if t then a.ev E st else b.ev E st, st.objs)
    | _ => none := nrfl _
theorem rvl_box (sz : Nat) (x : Opd) : rvl E st (.box sz x) = (x.ev E st).cells.bind fun cs => if cs.length = sz ∧ cs.all DV.one = true then some (.ptr st.objs.length 0 0, st.objs ++ [some (.box cs)]) else none := by
  simp only [rvl, rval]
  cases (x.ev E st).cells <;> rfl
theorem rvl_alloc (zero : List DV) : rvl E st (.alloc zero) = some (.ptr st.objs.length 0 0, st.objs ++ [some (.box zero)]) := nrfl _
def buildV (E : Prg) (st : St) : List (Nat × Nat × Opd) → List DV → Option (List DV)
  | [], cs => some cs
  | x :: l, cs => (x.2.2.ev E st).cells.bind fun new => if new.length = x.2.1 ∧ x.1 + new.length ≤ cs.length then buildV E st l (rowSet cs x.1 new) else none
theorem rvl_build (zero : List DV) (parts : List (Nat × Nat × Opd)) : rvl E st (.build zero parts) = (buildV E st parts zero).map fun cs => (.agg cs, st.objs) := by
  simp only [rvl, rval]
  congr 1
  have hn : ∀ l : List (Nat × Nat × Opd), l.foldl (fun (acc : Option (List DV)) x => match acc, (x.2.2.ev E st).cells with
      | some cs, some new => if new.length = x.2.1 ∧ x.1 + new.length ≤ cs.length then some (rowSet cs x.1 new) else none
      | _, _ => none) none = none := fun l => by
    induction l with
    | nil => rfl
    | cons x l ih => exact ih
  induction parts generalizing zero with
  | nil => rfl
  | cons x l ih =>
    simp only [List.foldl_cons, buildV]
    cases (x.2.2.ev E st).cells with
    | none => exact hn l
    | some new =>
      simp only [Option.bind]
      split
      · exact ih _
      · exact hn l
def mkrowV (E : Prg) (st : St) (sz : Nat) : List (Nat × Opd) → List (List DV) → Option (List (List DV))
  | [], rows => some rows
  | x :: l, rows => (x.2.ev E st).cells.bind fun new => if new.length = sz ∧ x.1 < rows.length ∧ new.all DV.one = true then mkrowV E st sz l (rows.set x.1 new) else none
theorem rvl_mkrow (sz : Nat) (zero : List DV) (len : Nat) (parts : List (Nat × Opd)) : rvl E st (.mkrow sz zero len parts) = (mkrowV E st sz parts (List.replicate len zero)).map fun rows => (.own st.objs.length 0 len, st.objs ++ [some (.arr sz rows)]) := by
  simp only [rvl, rval]
  congr 1
  have hn : ∀ l : List (Nat × Opd), l.foldl (fun (acc : Option (List (List DV))) x => match acc, (x.2.ev E st).cells with
      | some rows, some new => if new.length = sz ∧ x.1 < rows.length ∧ new.all DV.one = true then some (rows.set x.1 new) else none
      | _, _ => none) none = none := fun l => by
    induction l with
    | nil => rfl
    | cons x l ih => exact ih
  generalize List.replicate len zero = rows
  induction parts generalizing rows with
  | nil => rfl
  | cons x l ih =>
    simp only [List.foldl_cons, mkrowV]
    cases (x.2.ev E st).cells with
    | none => exact hn l
    | some new =>
      simp only [Option.bind]
      split
      · exact ih _
      · exact hn l
theorem rvl_load (ag : Bool) (sz : Nat) (x : Opd) : rvl E st (.load ag sz x) = match x.ev E st with
    | .ptr o i j => (st.objs[o]?).bind fun x => x.bind fun ob => (ob.rows[i]?).bind fun row => (rowAt ag sz row j).map (·, st.objs)
    | .rp row j => (rowAt ag sz row j).map (·, st.objs)
    | _ => none := nrfl _
theorem rvl_store (sz : Nat) (p x : Opd) : rvl E st (.store sz p x) = match p.ev E st with
    | .ptr o i j => ((x.ev E st).cells).bind fun cs => (st.objs[o]?).bind fun x => x.bind fun ob => (ob.rows[i]?).bind fun row =>
      if cs.length = sz ∧ cs.all DV.one = true ∧ j + sz ≤ row.length then some (.undef, st.objs.set o (some (ob.setRow i (rowSet row j cs)))) else none
    | _ => none := nrfl _
theorem rvl_nilck (x : Opd) : rvl E st (.nilck x) = match x.ev E st with
    | .ptr o i j => some (.ptr o i j, st.objs)
    | .rp row j => some (.rp row j, st.objs)
    | _ => none := nrfl _
def binV (op : BinOp) : DV → DV → Option DV
  | .int k a, .int k' b => match op with
    | .shl => shiftOf .shl k a b
    | .shr => shiftOf .shr k a b
    | op => if k = k' then binOf op k a b else none
  | .str a, .str b => strOf op a b
  | _, _ => none
theorem rvl_bin (op : BinOp) (x y : Opd) : rvl E st (.bin op x y) = (binV op (x.ev E st) (y.ev E st)).map (·, st.objs) := by
  simp only [rvl, rval]
  cases x.ev E st <;> cases y.ev E st <;> rfl
theorem rvl_eqB (neg : Bool) (x y : Opd) : rvl E st (.eqB neg x y) = match x.ev E st, y.ev E st with
    | .bool a, .bool b => some (.bool (if neg then !decide (a = b) else decide (a = b)), st.objs)
    | _, _ => none := nrfl _
def nilV : SK → Option Bool
  | .nil => some true
  | .nonnil => some false
  | _ => none
theorem rvl_eqNil (neg : Bool) (x y : Opd) : rvl E st (.eqNil neg x y) = match x.ev E st, y.ev E st with
    | .sl _ _ k, .sl _ _ .nil => (nilV k).map fun b => (.bool (if neg then !b else b), st.objs)
    | _, _ => none := by
  simp only [rvl, rval]
  cases x.ev E st <;> cases y.ev E st <;> try rfl
theorem rvl_un (op : UnOp) (x : Opd) : rvl E st (.un op x) = (unOf op (x.ev E st)).map (·, st.objs) := nrfl _
theorem rvl_i2i (k : IntKind) (x : Opd) : rvl E st (.conv (.i2i k) x) = match x.ev E st with
    | .int _ n => some (.int k (k.wrap n), st.objs)
    | _ => none := by
  simp only [rvl, rval]
  cases x.ev E st <;> rfl
theorem rvl_b2s (x : Opd) : rvl E st (.conv .b2s x) = match x.ev E st with
    | .str _ => none
    | d => (rowsOf st d).bind fun y => if y.1 = 1 ∨ y.2 = [] then (rowsBytes y.2).map fun s => (.str s, st.objs) else none := nrfl _
theorem rvl_s2b (x : Opd) : rvl E st (.conv .s2b x) = match x.ev E st with
    | .str s => if s.length ≤ 4611686018427387904 then some (.own st.objs.length 0 s.length, st.objs ++ [some (.arr 1 (bytesRows s))]) else none
    | _ => none := by
  simp only [rvl, rval]
  cases x.ev E st <;> rfl
theorem rvl_lit (x : Opd) : rvl E st (.conv .lit x) = match x.ev E st with
    | .own o off n => (st.objs[o]?).bind fun x => x.bind fun ob => match ob with
      | .arr sz rows => if 0 < n ∧ 0 < sz ∧ off + n ≤ rows.length then some (.own o off n, st.objs) else none
      | _ => none
    | _ => none := by
  simp only [rvl, rval]
  cases x.ev E st <;> try rfl
  rename_i o off n
  simp only
  cases st.objs[o]? with
  | none => rfl
  | some x =>
    cases x with
    | none => rfl
    | some ob => cases ob <;> rfl
theorem rvl_s2s (x : Opd) : rvl E st (.conv .s2s x) = match x.ev E st with
    | .str s => some (.str s, st.objs)
    | _ => none := by
  simp only [rvl, rval]
  cases x.ev E st <;> rfl
theorem rvl_slice (sz : Nat) (x : Opd) (lo hi mx : Option Opd) : rvl E st (.slice sz x lo hi mx) = match x.ev E st with
    | .sl s rows k => (natO st E 0 lo).bind fun l => (natO st E rows.length hi).bind fun h => if l ≤ h ∧ h ≤ rows.length ∧ (s = sz ∨ rows = []) then (match mx with
        | none => some (.sl s ((rows.drop l).take (h - l)) k, st.objs)
        | some m => (natO st E 0 (some m)).bind fun m => if m = h then some (.sl s ((rows.drop l).take (h - l)) (if m = l then (if k = .nil then .nil else .zero) else (if k = .nil then .nil else .any)), st.objs) else none) else none
    | .own o off n => match mx with
      | none => (natO st E 0 lo).bind fun l => (natO st E n hi).bind fun h => (st.objs[o]?).bind fun x => x.bind fun ob => match ob with
        | .arr s rows => if l ≤ h ∧ h ≤ n ∧ s = sz then some (.own o (off + l) (h - l), st.objs) else none
        | _ => none
      | some _ => none
    | _ => none := nrfl _
theorem natO_none (d : Nat) : natO st E d none = some d := nrfl _
theorem natO_some (d : Nat) (x : Opd) : natO st E d (some x) = match x.ev E st with
    | .int _ n => if 0 ≤ n then some n.toNat else none
    | _ => none := nrfl _
theorem rvl_sliceS (x : Opd) (lo hi : Option Opd) : rvl E st (.sliceS x lo hi) = match x.ev E st with
    | .str s => (natO st E 0 lo).bind fun l => (natO st E s.length hi).bind fun h => if l ≤ h ∧ h ≤ s.length then some (.str ((s.drop l).take (h - l)), st.objs) else none
    | _ => none := nrfl _
theorem rvl_faddr (off : Nat) (x : Opd) : rvl E st (.faddr off x) = match x.ev E st with
    | .ptr o i j => some (.ptr o i (j + off), st.objs)
    | .rp row j => some (.rp row (j + off), st.objs)
    | _ => none := nrfl _
theorem rvl_fld (ag : Bool) (off sz : Nat) (x : Opd) : rvl E st (.fld ag off sz x) = match x.ev E st with
    | .agg cs => (rowAt ag sz cs off).map (·, st.objs)
    | _ => none := nrfl _
theorem rvl_iaddr (sz : Nat) (x i : Opd) : rvl E st (.iaddr sz x i) = match x.ev E st, i.ev E st with
    | .sl s rows _, .int _ n => if 0 ≤ n ∧ n < (rows.length : Int) ∧ s = sz then (rows[n.toNat]?).map fun row => (.rp row 0, st.objs) else none
    | .own o off m, .int _ n => if 0 ≤ n ∧ n < (m : Int) then (st.objs[o]?).bind fun x => x.bind fun ob => match ob with
        | .arr s _ => if s = sz then some (.ptr o (off + n.toNat) 0, st.objs) else none
        | _ => none
      else none
    | _, _ => none := nrfl _
theorem rvl_iaddrA (len sz : Nat) (x i : Opd) : rvl E st (.iaddrA len sz x i) = match x.ev E st, i.ev E st with
    | .ptr o r j, .int _ n => if 0 ≤ n ∧ n < (len : Int) then some (.ptr o r (j + n.toNat * sz), st.objs) else none
    | .rp row j, .int _ n => if 0 ≤ n ∧ n < (len : Int) then some (.rp row (j + n.toNat * sz), st.objs) else none
    | _, _ => none := nrfl _
theorem rvl_idxS (x i : Opd) : rvl E st (.idxS x i) = match x.ev E st, i.ev E st with
    | .str s, .int _ n => if 0 ≤ n then (s[n.toNat]?).map fun b => (.int .u8 b.toNat, st.objs) else none
    | _, _ => none := nrfl _
theorem rvl_ext (x : Opd) (i : Nat) : rvl E st (.ext x i) = match x.ev E st with
    | .tup cs => (cs[i]?).map fun d => (d, st.objs)
    | _ => none := by
  simp only [rvl, rval]
  cases x.ev E st <;> try rfl
  dsimp only
  rename_i cs
  cases cs[i]? <;> rfl
theorem rvl_len (x : Opd) : rvl E st (.len x) = match x.ev E st with
    | .sl _ rows _ => some (.int .i64 rows.length, st.objs)
    | .own _ _ n => some (.int .i64 n, st.objs)
    | _ => none := nrfl _
theorem rvl_lenS (x : Opd) : rvl E st (.lenS x) = match x.ev E st with
    | .str s => some (.int .i64 s.length, st.objs)
    | _ => none := nrfl _
theorem rvl_append (sz bytes : Nat) (x y : Opd) : rvl E st (.append sz bytes x y) = match x.ev E st with
    | .sl _ [] k => (rowsOf st (y.ev E st)).bind fun a => if (k = .nil ∨ k = .zero) ∧ (a.1 = sz ∨ a.2 = []) ∧ a.2.length * bytes ≤ 140737488355328 ∧ a.2.length ≤ 4611686018427387904 then
        some (.own st.objs.length 0 a.2.length, st.objs ++ [some (.arr sz a.2)]) else none
    | .own o off n => (rowsOf st (y.ev E st)).bind fun a => (st.objs[o]?).bind fun x => x.bind fun ob => match ob with
      | .arr s rows => if off + n = rows.length ∧ s = sz ∧ (a.1 = sz ∨ a.2 = []) ∧ (n + a.2.length) * bytes ≤ 140737488355328 ∧ n + a.2.length ≤ 4611686018427387904 then
          some (.own st.objs.length 0 (n + a.2.length), st.objs.set o none ++ [some (.arr sz (rows.drop off ++ a.2))]) else none
      | _ => none
    | _ => none := nrfl _
theorem rvl_mm (isMax : Bool) (x y : Opd) : rvl E st (.mm isMax x y) = match x.ev E st, y.ev E st with
    | .int k a, .int _ b => some (.int k (if isMax then max a b else min a b), st.objs)
    | _, _ => none := nrfl _
theorem rvl_mkslice (sz bytes : Nat) (zero : List DV) (a b : Opd) : rvl E st (.mkslice sz bytes zero a b) = match a.ev E st, b.ev E st with
    | .int _ n, .int _ c => if 0 ≤ n ∧ n ≤ c ∧ c * bytes ≤ 140737488355328 ∧ c ≤ 4611686018427387904 ∧ zero.length = sz then
        some (.own st.objs.length 0 n.toNat, st.objs ++ [some (.arr sz (List.replicate n.toNat zero))]) else none
    | _, _ => none := nrfl _
theorem rowsOf_sl (sz : Nat) (rows : List (List DV)) (k : SK) : rowsOf st (.sl sz rows k) = some (sz, rows) := nrfl _
theorem rowsOf_own (o off m : Nat) : rowsOf st (.own o off m) = (st.objs[o]?).bind fun x => x.bind fun ob => match ob with
    | .arr sz rows => if off + m ≤ rows.length then some (sz, (rows.drop off).take m) else none
    | _ => none := by
  simp only [rowsOf]
  generalize st.objs[o]? = x
  rcases x with _ | _ | ob <;> try rfl
  cases ob <;> rfl
theorem rowsOf_str (s : List UInt8) : rowsOf st (.str s) = some (1, bytesRows s) := nrfl _
theorem stV_mov (dr : Bool) (x : Opd) : stV E F dr (.mov x) dst z st K = bindO (rvl E st (.mov x)) fun p => goSt (nx st p z dst) K := stV_op E F K st dst (.mov x) z dr rfl
theorem stV_pick (dr : Bool) (c a b : Opd) : stV E F dr (.pick c a b) dst z st K = bindO (rvl E st (.pick c a b)) fun p => goSt (nx st p z dst) K := stV_op E F K st dst (.pick c a b) z dr rfl
theorem stV_box (dr : Bool) (sz : Nat) (x : Opd) : stV E F dr (.box sz x) dst z st K = bindO (rvl E st (.box sz x)) fun p => goSt (nx st p z dst) K := stV_op E F K st dst (.box sz x) z dr rfl
theorem stV_alloc (dr : Bool) (zero : List DV) : stV E F dr (.alloc zero) dst z st K = bindO (rvl E st (.alloc zero)) fun p => goSt (nx st p z dst) K := stV_op E F K st dst (.alloc zero) z dr rfl
theorem stV_build (dr : Bool) (zero : List DV) (parts : List (Nat × Nat × Opd)) : stV E F dr (.build zero parts) dst z st K = bindO (rvl E st (.build zero parts)) fun p => goSt (nx st p z dst) K := stV_op E F K st dst (.build zero parts) z dr rfl
theorem stV_mkrow (dr : Bool) (sz : Nat) (zero : List DV) (len : Nat) (parts : List (Nat × Opd)) : stV E F dr (.mkrow sz zero len parts) dst z st K = bindO (rvl E st (.mkrow sz zero len parts)) fun p => goSt (nx st p z dst) K := stV_op E F K st dst (.mkrow sz zero len parts) z dr rfl
theorem stV_load (dr : Bool) (ag : Bool) (sz : Nat) (x : Opd) : stV E F dr (.load ag sz x) dst z st K = bindO (rvl E st (.load ag sz x)) fun p => goSt (nx st p z dst) K := stV_op E F K st dst (.load ag sz x) z dr rfl
theorem stV_store (dr : Bool) (sz : Nat) (p x : Opd) : stV E F dr (.store sz p x) dst z st K = bindO (rvl E st (.store sz p x)) fun p => goSt (nx st p z dst) K := stV_op E F K st dst (.store sz p x) z dr rfl
theorem stV_nilck (dr : Bool) (x : Opd) : stV E F dr (.nilck x) dst z st K = bindO (rvl E st (.nilck x)) fun p => goSt (nx st p z dst) K := stV_op E F K st dst (.nilck x) z dr rfl
theorem stV_bin (dr : Bool) (op : BinOp) (x y : Opd) : stV E F dr (.bin op x y) dst z st K = bindO (rvl E st (.bin op x y)) fun p => goSt (nx st p z dst) K := stV_op E F K st dst (.bin op x y) z dr rfl
theorem stV_eqB (dr : Bool) (neg : Bool) (x y : Opd) : stV E F dr (.eqB neg x y) dst z st K = bindO (rvl E st (.eqB neg x y)) fun p => goSt (nx st p z dst) K := stV_op E F K st dst (.eqB neg x y) z dr rfl
theorem stV_eqNil (dr : Bool) (neg : Bool) (x y : Opd) : stV E F dr (.eqNil neg x y) dst z st K = bindO (rvl E st (.eqNil neg x y)) fun p => goSt (nx st p z dst) K := stV_op E F K st dst (.eqNil neg x y) z dr rfl
theorem stV_un (dr : Bool) (op : UnOp) (x : Opd) : stV E F dr (.un op x) dst z st K = bindO (rvl E st (.un op x)) fun p => goSt (nx st p z dst) K := stV_op E F K st dst (.un op x) z dr rfl
theorem stV_i2i (dr : Bool) (k : IntKind) (x : Opd) : stV E F dr (.conv (.i2i k) x) dst z st K = bindO (rvl E st (.conv (.i2i k) x)) fun p => goSt (nx st p z dst) K := stV_op E F K st dst (.conv (.i2i k) x) z dr rfl
theorem stV_b2s (dr : Bool) (x : Opd) : stV E F dr (.conv .b2s x) dst z st K = bindO (rvl E st (.conv .b2s x)) fun p => goSt (nx st p z dst) K := stV_op E F K st dst (.conv .b2s x) z dr rfl
theorem stV_s2b (dr : Bool) (x : Opd) : stV E F dr (.conv .s2b x) dst z st K = bindO (rvl E st (.conv .s2b x)) fun p => goSt (nx st p z dst) K := stV_op E F K st dst (.conv .s2b x) z dr rfl
theorem stV_lit (dr : Bool) (x : Opd) : stV E F dr (.conv .lit x) dst z st K = bindO (rvl E st (.conv .lit x)) fun p => goSt (nx st p z dst) K := stV_op E F K st dst (.conv .lit x) z dr rfl
theorem stV_s2s (dr : Bool) (x : Opd) : stV E F dr (.conv .s2s x) dst z st K = bindO (rvl E st (.conv .s2s x)) fun p => goSt (nx st p z dst) K := stV_op E F K st dst (.conv .s2s x) z dr rfl
theorem stV_slice (dr : Bool) (sz : Nat) (x : Opd) (lo hi mx : Option Opd) : stV E F dr (.slice sz x lo hi mx) dst z st K = bindO (rvl E st (.slice sz x lo hi mx)) fun p => goSt (nx st p z dst) K := stV_op E F K st dst (.slice sz x lo hi mx) z dr rfl
theorem stV_sliceS (dr : Bool) (x : Opd) (lo hi : Option Opd) : stV E F dr (.sliceS x lo hi) dst z st K = bindO (rvl E st (.sliceS x lo hi)) fun p => goSt (nx st p z dst) K := stV_op E F K st dst (.sliceS x lo hi) z dr rfl
theorem stV_faddr (dr : Bool) (off : Nat) (x : Opd) : stV E F dr (.faddr off x) dst z st K = bindO (rvl E st (.faddr off x)) fun p => goSt (nx st p z dst) K := stV_op E F K st dst (.faddr off x) z dr rfl
theorem stV_fld (dr : Bool) (ag : Bool) (off sz : Nat) (x : Opd) : stV E F dr (.fld ag off sz x) dst z st K = bindO (rvl E st (.fld ag off sz x)) fun p => goSt (nx st p z dst) K := stV_op E F K st dst (.fld ag off sz x) z dr rfl
theorem stV_iaddr (dr : Bool) (sz : Nat) (x i : Opd) : stV E F dr (.iaddr sz x i) dst z st K = bindO (rvl E st (.iaddr sz x i)) fun p => goSt (nx st p z dst) K := stV_op E F K st dst (.iaddr sz x i) z dr rfl
theorem stV_iaddrA (dr : Bool) (len sz : Nat) (x i : Opd) : stV E F dr (.iaddrA len sz x i) dst z st K = bindO (rvl E st (.iaddrA len sz x i)) fun p => goSt (nx st p z dst) K := stV_op E F K st dst (.iaddrA len sz x i) z dr rfl
theorem stV_idxS (dr : Bool) (x i : Opd) : stV E F dr (.idxS x i) dst z st K = bindO (rvl E st (.idxS x i)) fun p => goSt (nx st p z dst) K := stV_op E F K st dst (.idxS x i) z dr rfl
theorem stV_ext (dr : Bool) (x : Opd) (i : Nat) : stV E F dr (.ext x i) dst z st K = bindO (rvl E st (.ext x i)) fun p => goSt (nx st p z dst) K := stV_op E F K st dst (.ext x i) z dr rfl
theorem stV_len (dr : Bool) (x : Opd) : stV E F dr (.len x) dst z st K = bindO (rvl E st (.len x)) fun p => goSt (nx st p z dst) K := stV_op E F K st dst (.len x) z dr rfl
theorem stV_lenS (dr : Bool) (x : Opd) : stV E F dr (.lenS x) dst z st K = bindO (rvl E st (.lenS x)) fun p => goSt (nx st p z dst) K := stV_op E F K st dst (.lenS x) z dr rfl
theorem stV_append (dr : Bool) (sz bytes : Nat) (x y : Opd) : stV E F dr (.append sz bytes x y) dst z st K = bindO (rvl E st (.append sz bytes x y)) fun p => goSt (nx st p z dst) K := stV_op E F K st dst (.append sz bytes x y) z dr rfl
theorem stV_mm (dr : Bool) (isMax : Bool) (x y : Opd) : stV E F dr (.mm isMax x y) dst z st K = bindO (rvl E st (.mm isMax x y)) fun p => goSt (nx st p z dst) K := stV_op E F K st dst (.mm isMax x y) z dr rfl
theorem stV_mkslice (dr : Bool) (sz bytes : Nat) (zero : List DV) (a b : Opd) : stV E F dr (.mkslice sz bytes zero a b) dst z st K = bindO (rvl E st (.mkslice sz bytes zero a b)) fun p => goSt (nx st p z dst) K := stV_op E F K st dst (.mkslice sz bytes zero a b) z dr rfl
end
def ownL (cs : List DV) : List Nat := cs.filterMap fun
    | .own o _ _ => some o
    | _ => none
def frzO (x : Option (Option Ob)) (o : Nat) (env : List (Nat × DV)) (objs : Objs) : St :=
  match x with
  | some (some (.arr sz rows)) => if o + 1 = objs.length then ⟨env.map (fun x => (x.1, x.2.frzT o sz rows)), objs.set o none⟩ else ⟨env.map (fun x => (x.1, x.2.frzT o sz rows)), (objs.set o none).map (Option.map (Ob.frz o sz rows))⟩
  | _ => ⟨env, objs⟩
theorem freeze_mk (o : Nat) (env : List (Nat × DV)) (objs : Objs) : St.freeze o ⟨env, objs⟩ = frzO objs[o]? o env objs := nrfl _
theorem frzO_arr (sz : Nat) (rows : List (List DV)) (o : Nat) (env : List (Nat × DV)) (objs : Objs) : frzO (some (some (.arr sz rows))) o env objs = if o + 1 = objs.length then ⟨env.map (fun x => (x.1, x.2.frzT o sz rows)), objs.set o none⟩ else ⟨env.map (fun x => (x.1, x.2.frzT o sz rows)), (objs.set o none).map (Option.map (Ob.frz o sz rows))⟩ := nrfl _
theorem initEnv_nil (k : Nat) : initEnv k [] = [] := nrfl _
theorem initEnv_cons (k : Nat) (d : DV) (l : List DV) : initEnv k (d :: l) = (k, d) :: initEnv (k + 1) l := nrfl _
theorem look_nil (t : Nat) : St.look t [] = .undef := nrfl _
theorem look_cons (t k : Nat) (d : DV) (l : List (Nat × DV)) : St.look t ((k, d) :: l) = if k = t then d else St.look t l := nrfl _
theorem ins_nil (t : Nat) (d : DV) : St.ins t d [] = [(t, d)] := nrfl _
theorem ins_cons (t k : Nat) (d x : DV) (l : List (Nat × DV)) : St.ins t d ((k, x) :: l) = if t < k then (t, d) :: (k, x) :: l else if k = t then (t, d) :: l else (k, x) :: St.ins t d l := nrfl _
theorem rep_nil (t : Nat) (d : DV) : St.rep t d [] = [] := nrfl _
theorem rep_cons (t k : Nat) (d x : DV) (l : List (Nat × DV)) : St.rep t d ((k, x) :: l) = if k = t then (t, d) :: l else (k, x) :: St.rep t d l := nrfl _
theorem memN_nil (k : Nat) : memN k [] = false := nrfl _
theorem memN_cons (k a : Nat) (l : List Nat) : memN k (a :: l) = if a = k then true else memN k l := nrfl _
theorem cutE_nil (keep : List Nat) : cutE keep [] = [] := nrfl _
theorem cutE_cons (keep : List Nat) (k : Nat) (d : DV) (l : List (Nat × DV)) : cutE keep ((k, d) :: l) = if memN k keep = true then (k, d) :: cutE keep l else cutE keep l := nrfl _
theorem buildV_nil (E : Prg) (st : St) (cs : List DV) : buildV E st [] cs = some cs := nrfl _
theorem buildV_cons (E : Prg) (st : St) (x : Nat × Nat × Opd) (l : List (Nat × Nat × Opd)) (cs : List DV) : buildV E st (x :: l) cs = (x.2.2.ev E st).cells.bind fun new => if new.length = x.2.1 ∧ x.1 + new.length ≤ cs.length then buildV E st l (rowSet cs x.1 new) else none := nrfl _
theorem mkrowV_nil (E : Prg) (st : St) (sz : Nat) (cs : List (List DV)) : mkrowV E st sz [] cs = some cs := nrfl _
theorem mkrowV_cons (E : Prg) (st : St) (sz : Nat) (x : Nat × Opd) (l : List (Nat × Opd)) (rows : List (List DV)) : mkrowV E st sz (x :: l) rows = (x.2.ev E st).cells.bind fun new => if new.length = sz ∧ x.1 < rows.length ∧ new.all DV.one = true then mkrowV E st sz l (rows.set x.1 new) else none := nrfl _
theorem binV_add (k : IntKind) (a b : Int) : binV .add (.int k a) (.int k b) = some (.int k (k.wrap (a + b))) := if_pos rfl
theorem binV_sub (k : IntKind) (a b : Int) : binV .sub (.int k a) (.int k b) = some (.int k (k.wrap (a - b))) := if_pos rfl
theorem binV_mul (k : IntKind) (a b : Int) : binV .mul (.int k a) (.int k b) = some (.int k (k.wrap (a * b))) := if_pos rfl
theorem binV_quo (k : IntKind) (a b : Int) : binV .quo (.int k a) (.int k b) = if b = 0 then none else some (.int k (k.wrap (a.tdiv b))) := if_pos rfl
theorem binV_rem (k : IntKind) (a b : Int) : binV .rem (.int k a) (.int k b) = if b = 0 then none else some (.int k (a.tmod b)) := if_pos rfl
theorem binV_and (k : IntKind) (a b : Int) : binV .and (.int k a) (.int k b) = some (.int k (k.wrap (BitVec.ofInt k.bits a &&& BitVec.ofInt k.bits b).toNat)) := if_pos rfl
theorem binV_or (k : IntKind) (a b : Int) : binV .or (.int k a) (.int k b) = some (.int k (k.wrap (BitVec.ofInt k.bits a ||| BitVec.ofInt k.bits b).toNat)) := if_pos rfl
theorem binV_xor (k : IntKind) (a b : Int) : binV .xor (.int k a) (.int k b) = some (.int k (k.wrap (BitVec.ofInt k.bits a ^^^ BitVec.ofInt k.bits b).toNat)) := if_pos rfl
theorem binV_andNot (k : IntKind) (a b : Int) : binV .andNot (.int k a) (.int k b) = some (.int k (k.wrap (BitVec.ofInt k.bits a &&& ~~~ BitVec.ofInt k.bits b).toNat)) := if_pos rfl
theorem binV_eql (k : IntKind) (a b : Int) : binV .eql (.int k a) (.int k b) = some (.bool (decide (a = b))) := if_pos rfl
theorem binV_neq (k : IntKind) (a b : Int) : binV .neq (.int k a) (.int k b) = some (.bool (!decide (a = b))) := if_pos rfl
theorem binV_lss (k : IntKind) (a b : Int) : binV .lss (.int k a) (.int k b) = some (.bool (decide (a < b))) := if_pos rfl
theorem binV_leq (k : IntKind) (a b : Int) : binV .leq (.int k a) (.int k b) = some (.bool (decide (a ≤ b))) := if_pos rfl
theorem binV_gtr (k : IntKind) (a b : Int) : binV .gtr (.int k a) (.int k b) = some (.bool (decide (b < a))) := if_pos rfl
theorem binV_geq (k : IntKind) (a b : Int) : binV .geq (.int k a) (.int k b) = some (.bool (decide (b ≤ a))) := if_pos rfl
theorem binV_shl (k k2 : IntKind) (a b : Int) : binV .shl (.int k a) (.int k2 b) = if b < 0 then none else some (.int k (k.wrap (a * 2 ^ (min b.toNat k.bits)))) := nrfl _
theorem binV_shr (k k2 : IntKind) (a b : Int) : binV .shr (.int k a) (.int k2 b) = if b < 0 then none else some (.int k (a.fdiv (2 ^ (min b.toNat k.bits)))) := nrfl _
theorem binS_add (a b : List UInt8) : binV .add (.str a) (.str b) = if a.length + b.length ≤ 4611686018427387904 then some (.str (a ++ b)) else none := nrfl _
theorem binS_eql (a b : List UInt8) : binV .eql (.str a) (.str b) = some (.bool (a == b)) := nrfl _
theorem binS_neq (a b : List UInt8) : binV .neq (.str a) (.str b) = some (.bool (!(a == b))) := nrfl _
theorem binS_lss (a b : List UInt8) : binV .lss (.str a) (.str b) = some (.bool (Op.bytesLess a b)) := nrfl _
theorem binS_leq (a b : List UInt8) : binV .leq (.str a) (.str b) = some (.bool (Op.bytesLess a b || a == b)) := nrfl _
theorem binS_gtr (a b : List UInt8) : binV .gtr (.str a) (.str b) = some (.bool (!(Op.bytesLess a b || a == b))) := nrfl _
theorem binS_geq (a b : List UInt8) : binV .geq (.str a) (.str b) = some (.bool (!Op.bytesLess a b)) := nrfl _
theorem unOf_neg (k : IntKind) (n : Int) : unOf .neg (.int k n) = some (.int k (k.wrap (0 - n))) := nrfl _
theorem unOf_xor (k : IntKind) (n : Int) : unOf .xor (.int k n) = some (.int k (k.wrap (BitVec.ofInt k.bits (if k.signed then -1 else k.max) ^^^ BitVec.ofInt k.bits n).toNat)) := nrfl _
theorem unOf_not (b : Bool) : unOf .not (.bool b) = some (.bool (!b)) := nrfl _
theorem nilV_nil  : nilV .nil = some true := nrfl _
theorem nilV_nonnil  : nilV .nonnil = some false := nrfl _
theorem nilV_any  : nilV .any = none := nrfl _
theorem nilV_zero  : nilV .zero = none := nrfl _
theorem cells_int (k : IntKind) (n : Int) : DV.cells (.int k n) = some [.int k n] := nrfl _
theorem one_int (k : IntKind) (n : Int) : DV.one (.int k n) = true := nrfl _
theorem cells_bool (b : Bool) : DV.cells (.bool b) = some [.bool b] := nrfl _
theorem one_bool (b : Bool) : DV.one (.bool b) = true := nrfl _
theorem cells_str (s : List UInt8) : DV.cells (.str s) = some [.str s] := nrfl _
theorem one_str (s : List UInt8) : DV.one (.str s) = true := nrfl _
theorem cells_sl (sz : Nat) (rows : List (List DV)) (k : SK) : DV.cells (.sl sz rows k) = some [.sl sz rows k] := nrfl _
theorem one_sl (sz : Nat) (rows : List (List DV)) (k : SK) : DV.one (.sl sz rows k) = true := nrfl _
theorem cells_own (o off n : Nat) : DV.cells (.own o off n) = some [.own o off n] := nrfl _
theorem one_own (o off n : Nat) : DV.one (.own o off n) = true := nrfl _
theorem cells_ptr (o i j : Nat) : DV.cells (.ptr o i j) = some [.ptr o i j] := nrfl _
theorem one_ptr (o i j : Nat) : DV.one (.ptr o i j) = true := nrfl _
theorem cells_rp (row : List DV) (j : Nat) : DV.cells (.rp row j) = some [.rp row j] := nrfl _
theorem one_rp (row : List DV) (j : Nat) : DV.one (.rp row j) = true := nrfl _
theorem cells_agg (cs : List DV) : DV.cells (.agg cs) = some cs := nrfl _
theorem rowAt_f (sz : Nat) (row : List DV) (j : Nat) : rowAt false sz row j = row[j]? := nrfl _
theorem rowAt_t (sz : Nat) (row : List DV) (j : Nat) : rowAt true sz row j = if j + sz ≤ row.length then some (.agg ((row.drop j).take sz)) else none := nrfl _
theorem rowSet_eq (row : List DV) (j : Nat) (cs : List DV) : rowSet row j cs = row.take j ++ cs ++ row.drop (j + cs.length) := nrfl _
theorem rows_box (cs : List DV) : Ob.rows (.box cs) = [cs] := nrfl _
theorem rows_arr (sz : Nat) (rows : List (List DV)) : Ob.rows (.arr sz rows) = rows := nrfl _
theorem setRow_box (cs : List DV) (i : Nat) (row : List DV) : Ob.setRow (.box cs) i row = .box row := nrfl _
theorem setRow_arr (sz : Nat) (rows : List (List DV)) (i : Nat) (row : List DV) : Ob.setRow (.arr sz rows) i row = .arr sz (rows.set i row) := nrfl _
theorem freezes_nil (st : St) : St.freezes [] st = st := nrfl _
theorem freezes_cons (o : Nat) (l : List Nat) (st : St) : St.freezes (o :: l) st = St.freezes l (st.freeze o) := nrfl _
theorem ownIds_own (o off n : Nat) : ownIds (.own o off n) = [o] := nrfl _
theorem ownIds_sl (sz : Nat) (rows : List (List DV)) (k : SK) : ownIds (.sl sz rows k) = [] := nrfl _
theorem ownIds_agg (cs : List DV) : ownIds (.agg cs) = ownL cs := nrfl _
theorem ownL_nil  : ownL [] = [] := nrfl _
theorem ownL_int (k : IntKind) (n : Int) (l : List DV) : ownL (.int k n :: l) = ownL l := nrfl _
theorem frz0_int (o sz : Nat) (rows : List (List DV)) (k : IntKind) (n : Int) : DV.frz0 o sz rows (.int k n) = .int k n := nrfl _
theorem frzT_int (o sz : Nat) (rows : List (List DV)) (k : IntKind) (n : Int) : DV.frzT o sz rows (.int k n) = .int k n := nrfl _
theorem ownL_bool (b : Bool) (l : List DV) : ownL (.bool b :: l) = ownL l := nrfl _
theorem frz0_bool (o sz : Nat) (rows : List (List DV)) (b : Bool) : DV.frz0 o sz rows (.bool b) = .bool b := nrfl _
theorem frzT_bool (o sz : Nat) (rows : List (List DV)) (b : Bool) : DV.frzT o sz rows (.bool b) = .bool b := nrfl _
theorem ownL_str (s : List UInt8) (l : List DV) : ownL (.str s :: l) = ownL l := nrfl _
theorem frz0_str (o sz : Nat) (rows : List (List DV)) (s : List UInt8) : DV.frz0 o sz rows (.str s) = .str s := nrfl _
theorem frzT_str (o sz : Nat) (rows : List (List DV)) (s : List UInt8) : DV.frzT o sz rows (.str s) = .str s := nrfl _
theorem ownL_sl (sz : Nat) (rows : List (List DV)) (k : SK) (l : List DV) : ownL (.sl sz rows k :: l) = ownL l := nrfl _
theorem frz0_sl (o sz : Nat) (rows : List (List DV)) (sz2 : Nat) (rows2 : List (List DV)) (k : SK) : DV.frz0 o sz rows (.sl sz2 rows2 k) = .sl sz2 rows2 k := nrfl _
theorem frzT_sl (o sz : Nat) (rows : List (List DV)) (sz2 : Nat) (rows2 : List (List DV)) (k : SK) : DV.frzT o sz rows (.sl sz2 rows2 k) = .sl sz2 rows2 k := nrfl _
theorem ownL_ptr (o i j : Nat) (l : List DV) : ownL (.ptr o i j :: l) = ownL l := nrfl _
theorem frz0_ptr (o sz : Nat) (rows : List (List DV)) (o2 i j : Nat) : DV.frz0 o sz rows (.ptr o2 i j) = .ptr o2 i j := nrfl _
theorem frzT_ptr (o sz : Nat) (rows : List (List DV)) (o2 i j : Nat) : DV.frzT o sz rows (.ptr o2 i j) = .ptr o2 i j := nrfl _
theorem ownL_rp (row : List DV) (j : Nat) (l : List DV) : ownL (.rp row j :: l) = ownL l := nrfl _
theorem frz0_rp (o sz : Nat) (rows : List (List DV)) (row : List DV) (j : Nat) : DV.frz0 o sz rows (.rp row j) = .rp row j := nrfl _
theorem frzT_rp (o sz : Nat) (rows : List (List DV)) (row : List DV) (j : Nat) : DV.frzT o sz rows (.rp row j) = .rp row j := nrfl _
theorem ownL_own (o off n : Nat) (l : List DV) : ownL (.own o off n :: l) = o :: ownL l := nrfl _
theorem frz0_own (o sz : Nat) (rows : List (List DV)) (o2 off n : Nat) : DV.frz0 o sz rows (.own o2 off n) = if o2 = o ∧ off + n ≤ rows.length then .sl sz ((rows.drop off).take n) .any else .own o2 off n := nrfl _
theorem frzT_own (o sz : Nat) (rows : List (List DV)) (o2 off n : Nat) : DV.frzT o sz rows (.own o2 off n) = if o2 = o ∧ off + n ≤ rows.length then .sl sz ((rows.drop off).take n) .any else .own o2 off n := nrfl _
theorem frzT_undef (o sz : Nat) (rows : List (List DV)) : DV.frzT o sz rows .undef = .undef := nrfl _
theorem frzT_agg (o sz : Nat) (rows : List (List DV)) (cs : List DV) : DV.frzT o sz rows (.agg cs) = .agg (cs.map (DV.frz0 o sz rows)) := nrfl _
theorem frzT_tup (o sz : Nat) (rows : List (List DV)) (cs : List DV) : DV.frzT o sz rows (.tup cs) = .tup (cs.map (DV.frzA o sz rows)) := nrfl _
theorem obfrz_box (o sz : Nat) (rows : List (List DV)) (cs : List DV) : Ob.frz o sz rows (.box cs) = .box (cs.map (DV.frz0 o sz rows)) := nrfl _
theorem obfrz_arr (o sz : Nat) (rows : List (List DV)) (s : Nat) (r : List (List DV)) : Ob.frz o sz rows (.arr s r) = .arr s r := nrfl _

end Go.Proofs.Ytaopaongpoecoaa
end
section
/- Results by their own names: what a function made is numbered by its result. -/
set_option linter.unusedVariables false
set_option linter.unusedSimpArgs false
namespace Go.Proofs.Ytaopaongpoecoaa
open Go.RowKit

/-- It names no objects: it stands to a value as long as what is only read stays so. -/
def Cl (d : DV) : Prop := ∀ (G G' : Gh) (v : Value), (∀ a x, G.rd a = some x → G'.rd a = some x) → Rel G d v → Rel G' d v

theorem Cl.int (k : IntKind) (n : Int) : Cl (.int k n) := fun G G' v _ h => by cases h; exact .int k n
theorem Cl.bool (b : Bool) : Cl (.bool b) := fun G G' v _ h => by cases h; exact .bool b
theorem Cl.str (s : List UInt8) : Cl (.str s) := fun G G' v _ h => by cases h; exact .str s
theorem Cl.undef : Cl .undef := fun G G' v _ h => by cases h; exact .undef v
theorem Cl.lit (v : Value) : Cl (.lit v) := fun G G' u _ h => by cases h; exact .lit v
theorem Cl.sl (sz : Nat) (rows : List (List DV)) (k : SK) (h : ∀ row ∈ rows, ∀ c ∈ row, Cl c) : Cl (.sl sz rows k) := fun G G' v hle r => by
  cases r with
  | sl sz rows k p len cap b o vals h1 h2 h3 h4 h5 h6 h7 =>
    exact .sl sz rows k p len cap b o vals h1 h2 h3 h4 h5 (fun i j row c a b => hle _ _ (h6 i j row c a b)) fun i j row c hr hc => h row (List.mem_of_getElem? hr) c (List.mem_of_getElem? hc) G G' _ hle (h7 i j row c hr hc)
theorem Cl.agg (cs : List DV) (h : ∀ c ∈ cs, Cl c) : Cl (.agg cs) := fun G G' v hle r => by
  cases r with
  | agg cs vs h1 h2 => exact .agg cs vs h1 fun i c hc => h c (List.mem_of_getElem? hc) G G' _ hle (h2 i c hc)
theorem Cl.rp (row : List DV) (j : Nat) (h : ∀ c ∈ row, Cl c) : Cl (.rp row j) := fun G G' v hle r => by
  cases r with
  | rp row j b o vals h1 h2 => exact .rp row j b o vals (fun m c hc => hle _ _ (h1 m c hc)) fun m c hc => h c (List.mem_of_getElem? hc) G G' _ hle (h2 m c hc)

/-- The first value with its objects' names turned, the second one: by f. -/
inductive Ren (f : Nat → Option Nat) : DV → DV → Prop where
  | cl (d : DV) : Cl d → Ren f d d
  | own (o o' off n : Nat) : f o = some o' → Ren f (.own o off n) (.own o' off n)
  | ptr (o o' i j : Nat) : f o = some o' → Ren f (.ptr o i j) (.ptr o' i j)
  | agg (cs ds : List DV) : cs.length = ds.length → (∀ (i : Nat) c d, cs[i]? = some c → ds[i]? = some d → Ren f c d) → Ren f (.agg cs) (.agg ds)
  | tup (cs ds : List DV) : cs.length = ds.length → (∀ (i : Nat) c d, cs[i]? = some c → ds[i]? = some d → Ren f c d) → Ren f (.tup cs) (.tup ds)
  | wrap (w : WK) (cs ds : List DV) : cs.length = ds.length → (∀ (i : Nat) c d, cs[i]? = some c → ds[i]? = some d → Ren f c d) → Ren f (.wrap w cs) (.wrap w ds)

theorem Ren.rel {f : Nat → Option Nat} {G G' : Gh} (hle : ∀ a x, G.rd a = some x → G'.rd a = some x) (hpl : ∀ o o' p, f o = some o' → G.pl o = some p → G'.pl o' = some p) {d d' : DV} (h : Ren f d d') : ∀ {v : Value}, Rel G d v → Rel G' d' v := by
  induction h with
  | cl d hc => exact fun r => hc G G' _ hle r
  | own o o' off n hf =>
    intro v r
    cases r with
    | own o off n pl p c h1 h2 h3 h4 => exact .own o' off n pl p c (hpl o o' pl hf h1) h2 h3 h4
  | ptr o o' i j hf =>
    intro v r
    cases r with
    | ptr o i j pl h1 => exact .ptr o' i j pl (hpl o o' pl hf h1)
  | agg cs ds hl _ ih =>
    intro v r
    cases r with
    | agg cs vs h1 h2 =>
      refine .agg ds vs (by rw [h1, hl]) fun i d hd => ?_
      have hi : i < cs.length := by rw [hl]; exact (List.getElem?_eq_some_iff.1 hd).1
      exact ih i cs[i] d (List.getElem?_eq_getElem hi) hd (h2 i cs[i] (List.getElem?_eq_getElem hi))
  | tup cs ds hl _ ih =>
    intro v r
    cases r with
    | tup cs vs h1 h2 =>
      refine .tup ds vs (by rw [h1, hl]) fun i d hd => ?_
      have hi : i < cs.length := by rw [hl]; exact (List.getElem?_eq_some_iff.1 hd).1
      exact ih i cs[i] d (List.getElem?_eq_getElem hi) hd (h2 i cs[i] (List.getElem?_eq_getElem hi))
  | wrap w cs ds hl _ ih =>
    intro v r
    cases r with
    | ifc t d v h1 =>
      match ds, hl with
      | [d2], _ => exact .ifc t d2 v (ih 0 d d2 rfl rfl h1)
    | ifa t cs vs h1 h2 =>
      refine .ifa t ds vs (by rw [h1, hl]) fun i d hd => ?_
      have hi : i < cs.length := by rw [hl]; exact (List.getElem?_eq_some_iff.1 hd).1
      exact ih i cs[i] d (List.getElem?_eq_getElem hi) hd (h2 i cs[i] (List.getElem?_eq_getElem hi))
    | clo g cs vs h1 h2 =>
      refine .clo g ds vs (by rw [h1, hl]) fun i d hd => ?_
      have hi : i < cs.length := by rw [hl]; exact (List.getElem?_eq_some_iff.1 hd).1
      exact ih i cs[i] d (List.getElem?_eq_getElem hi) hd (h2 i cs[i] (List.getElem?_eq_getElem hi))

def RenOb (f : Nat → Option Nat) (a b : Ob) : Prop :=
  a.sz = b.sz ∧ a.rows.length = b.rows.length ∧ ∀ (i : Nat) ra rb, a.rows[i]? = some ra → b.rows[i]? = some rb → ra.length = rb.length ∧ ∀ (j : Nat) c d, ra[j]? = some c → rb[j]? = some d → Ren f c d

/-- What a function comes to, told by other names: f tells the new names of what is new. -/
def Canon (n : Nat) (f : Nat → Option Nat) (d : DV) (T : Objs) (d' : DV) (os : Objs) : Prop :=
  Ren f d d' ∧ (∀ (k : Nat) ob', os[k]? = some (some ob') → ∃ o ob, f o = some (n + k) ∧ T[o]? = some (some ob) ∧ RenOb f ob ob') ∧
    (∀ a b x, f a = some x → f b = some x → a = b) ∧ (∀ a x, f a = some x → n ≤ a ∧ n ≤ x ∧ x < n + os.length)

theorem GCalls.canon {E : Prg} {f : Nat} {args : List DV} {n : Nat} {R R' : DV → Objs → Prop} (h : GCalls E f args (List.replicate n none) R)
    (hR : ∀ r T', R r T' → ∃ g r' os, Canon n g r T' r' os ∧ R' r' (List.replicate n none ++ os)) : GCalls E f args (List.replicate n none) R' := by
  intro G w vs h1 h2 h3 h4
  refine Calls.mono (h G w vs h1 h2 h3 h4) fun e w' ⟨v, r, T', G', a, hr, hl, hrel, hh, hf⟩ => ?_
  obtain ⟨g, r', os, ⟨c1, c2, c3, c4⟩, hR'⟩ := hR r T' hr
  open Classical in
  let G2 : Gh := { rd := G'.rd, pl := fun x => if x < n then G.pl x else if hx : ∃ o, g o = some x then G'.pl (Classical.choose hx) else none }
  have hpl : ∀ o o' p, g o = some o' → G'.pl o = some p → G2.pl o' = some p := fun o o' p ho hp => by
    have h5 := (c4 o o' ho).2.1
    show (if o' < n then G.pl o' else if hx : ∃ o, g o = some o' then G'.pl (Classical.choose hx) else none) = some p
    rw [if_neg (by omega), dif_pos ⟨o, ho⟩]
    have := Classical.choose_spec (⟨o, ho⟩ : ∃ o, g o = some o')
    rw [c3 _ _ _ this ho]; exact hp
  have hpl2 : ∀ x p, G2.pl x = some p → (x < n ∧ G.pl x = some p) ∨ (n ≤ x ∧ x < n + os.length ∧ ∃ o, g o = some x ∧ G'.pl o = some p) := fun x p hx => by
    change (if x < n then G.pl x else if hx : ∃ o, g o = some x then G'.pl (Classical.choose hx) else none) = some p at hx
    by_cases hlt : x < n
    · rw [if_pos hlt] at hx; exact .inl ⟨hlt, hx⟩
    · rw [if_neg hlt] at hx
      by_cases he : ∃ o, g o = some x
      · rw [dif_pos he] at hx
        have hs := Classical.choose_spec he
        exact .inr ⟨by omega, (c4 _ _ hs).2.2, _, hs, hx⟩
      · rw [dif_neg he] at hx; cases hx
  have hT : ∀ (k : Nat) ob, (List.replicate n (none : Option Ob) ++ os)[k]? = some (some ob) → n ≤ k ∧ os[k - n]? = some (some ob) := fun k ob hk => by
    by_cases hlt : k < n
    · rw [List.getElem?_append_left (by simpa using hlt)] at hk; exact (getElem?_rep hk).elim
    · rw [List.getElem?_append_right (by simpa using hlt)] at hk
      exact ⟨by omega, by simpa using hk⟩
  have hob : ∀ (k : Nat) ob', (List.replicate n (none : Option Ob) ++ os)[k]? = some (some ob') → ∃ o ob, g o = some k ∧ T'[o]? = some (some ob) ∧ RenOb g ob ob' := fun k ob' hk => by
    obtain ⟨h5, h6⟩ := hT k ob' hk
    obtain ⟨o, ob, h7, h8, h9⟩ := c2 _ _ h6
    rw [show n + (k - n) = k by omega] at h7
    exact ⟨o, ob, h7, h8, h9⟩
  have hlive : ∀ (k : Nat) ob' p, (List.replicate n (none : Option Ob) ++ os)[k]? = some (some ob') → G2.pl k = some p → ∃ o ob, g o = some k ∧ T'[o]? = some (some ob) ∧ RenOb g ob ob' ∧ G'.pl o = some p := fun k ob' p hk hp => by
    obtain ⟨o, ob, h5, h6, h7⟩ := hob k ob' hk
    obtain ⟨q, hq, _⟩ := hh.live o ob h6
    rw [hpl o k q h5 hq] at hp
    obtain rfl := Option.some.inj hp
    exact ⟨o, ob, h5, h6, h7, hq⟩
  refine ⟨v, r', _, G2, a, hR', by simp, c1.rel (G := G') (G' := G2) (fun _ _ h => h) hpl hrel, ⟨?_, ?_, ?_, hh.rdv, ?_⟩, ⟨hf.os, hf.tape, hf.output, hf.size, hf.blk, hf.cell, hf.frz, ?_, hf.rdn, ⟨hf.le.rd, ?_⟩, hf.mko⟩⟩
  · intro k p hp
    rcases hpl2 k p hp with ⟨h5, _⟩ | ⟨_, h5, _⟩ <;> simp <;> omega
  · intro k ob' hk
    obtain ⟨o, ob, h5, h6, h7⟩ := hob k ob' hk
    obtain ⟨q, hq, hl⟩ := hh.live o ob h6
    refine ⟨q, hpl o k q h5 hq, ⟨hl.psz.trans h7.1, h7.2.1 ▸ hl.fits, fun row hrow => ?_, hl.there, fun i j row c v hi hj hv => ?_, hl.mko⟩⟩
    · obtain ⟨i, hi, he⟩ := List.getElem_of_mem hrow
      have hi2 : i < ob.rows.length := by rw [h7.2.1]; exact hi
      rw [← (h7.2.2 i ob.rows[i] row (List.getElem?_eq_getElem hi2) (by rw [List.getElem?_eq_getElem hi, he])).1]
      exact hl.size _ (List.getElem_mem hi2)
    · have hi2 : i < ob.rows.length := by rw [h7.2.1]; exact (List.getElem?_eq_some_iff.1 hi).1
      obtain ⟨h8, h9⟩ := h7.2.2 i ob.rows[i] row (List.getElem?_eq_getElem hi2) hi
      have hj2 : j < ob.rows[i].length := by rw [h8]; exact (List.getElem?_eq_some_iff.1 hj).1
      exact (h9 j _ c (List.getElem?_eq_getElem hj2) hj).rel (G := G') (G' := G2) (fun _ _ h => h) hpl (hl.holds i j ob.rows[i] ob.rows[i][j] v (List.getElem?_eq_getElem hi2) (List.getElem?_eq_getElem hj2) hv)
  · intro k k' x x' p p' m m' hk hk' hne hp hp' hm hm' e
    obtain ⟨o, ob, h5, h6, h7, h8⟩ := hlive k x p hk hp
    obtain ⟨o', ob', h5', h6', h7', h8'⟩ := hlive k' x' p' hk' hp'
    refine hh.sep o o' ob ob' p p' m m' h6 h6' (fun e2 => ?_) h8 h8' hm hm' e
    subst e2
    exact hne (Option.some.inj (h5.symm.trans h5'))
  · intro k x p m hk hp hm
    obtain ⟨o, ob, h5, h6, h7, h8⟩ := hlive k x p hk hp
    exact hh.rds o ob p m h6 h8 hm
  · intro k x p m hk hp hm
    obtain ⟨o, ob, h5, h6, h7, h8⟩ := hlive k x p hk hp
    exact hf.mine o ob p m h6 h8 hm
  · intro k p hp
    have hk := h2.pls k p hp
    simp at hk
    show (if k < n then G.pl k else _) = some p
    rw [if_pos hk]; exact hp

end Go.Proofs.Ytaopaongpoecoaa
end
section
/- Results by their own names, so that simp unfolds them; tables behind dead objects; rows of numbers. -/
set_option linter.unusedVariables false
set_option linter.unusedSimpArgs false
namespace Go.Proofs.Ytaopaongpoecoaa
open Go.RowKit

def ClRows (rows : List (List DV)) : Prop := ∀ row ∈ rows, ∀ c ∈ row, Cl c
def ids0 : DV → List Nat
  | .own o _ _ => [o]
  | .ptr o _ _ => [o]
  | _ => []
def idsA : DV → List Nat
  | .agg cs => cs.flatMap ids0
  | .wrap _ cs => cs.flatMap ids0
  | d => ids0 d
def idsT : DV → List Nat
  | .tup cs => cs.flatMap idsA
  | d => idsA d
def pos (o : Nat) : List Nat → Nat
  | [] => 0
  | a :: l => if a = o then 0 else pos o l + 1
def can0 (n : Nat) (ids : List Nat) : DV → DV
  | .own o off m => .own (n + pos o ids) off m
  | .ptr o i j => .ptr (n + pos o ids) i j
  | d => d
def canA (n : Nat) (ids : List Nat) : DV → DV
  | .agg cs => .agg (cs.map (can0 n ids))
  | .wrap w cs => .wrap w (cs.map (can0 n ids))
  | d => can0 n ids d
def canT (n : Nat) (ids : List Nat) : DV → DV
  | .tup cs => .tup (cs.map (canA n ids))
  | d => canA n ids d
def cl0 : DV → Prop
  | .int .. | .bool .. | .str .. | .own .. | .ptr .. | .undef | .lit _ => True
  | .sl _ rows _ => ClRows rows
  | d => Cl d
def clA : DV → Prop
  | .agg cs => ∀ c ∈ cs, cl0 c
  | .wrap _ cs => ∀ c ∈ cs, cl0 c
  | d => cl0 d
def clT : DV → Prop
  | .tup cs => ∀ c ∈ cs, clA c
  | d => clA d
def clOb : Ob → Prop
  | .box cs => ∀ c ∈ cs, Cl c
  | .arr _ rows => ClRows rows

def goIds (n : Nat) (T : Objs) : List Nat → (Objs → Prop) → Prop
  | [], k => k []
  | i :: l, k => n ≤ i ∧ bindO T[i]? fun x => bindO x fun ob => clOb ob ∧ goIds n T l fun os => k (some ob :: os)
/-- What a function comes to, told by its own names. -/
def retV (n : Nat) (d : DV) (T : Objs) (K : DV → Objs → Prop) : Prop := (idsT d).Nodup ∧ clT d ∧ goIds n T (idsT d) fun os => K (canT n (idsT d) d) os

def pick1 (n : Nat) (ids : List Nat) (x : Nat) : Option Nat := if x ∈ ids then some (n + pos x ids) else none
theorem pos_lt {o : Nat} : ∀ {l : List Nat}, o ∈ l → pos o l < l.length
  | a :: l, h => by
    simp only [pos]
    by_cases e : a = o
    · simp [e]
    · rw [if_neg e]
      have : o ∈ l := by simpa [Ne.symm (show a ≠ o from e), fun h : o = a => e h.symm] using h
      have := pos_lt this
      simp; omega
theorem pos_get {o : Nat} : ∀ {l : List Nat}, o ∈ l → l[pos o l]? = some o
  | a :: l, h => by
    simp only [pos]
    by_cases e : a = o
    · simp [e]
    · rw [if_neg e]
      have : o ∈ l := by
        rcases List.mem_cons.1 h with h | h
        · exact absurd h.symm e
        · exact h
      simpa using pos_get this
theorem ren0 {n : Nat} {ids : List Nat} {d : DV} (h : ∀ o ∈ ids0 d, o ∈ ids) (hc : cl0 d) : Ren (pick1 n ids) d (can0 n ids d) := by
  cases d with
  | own o off m => exact .own _ _ _ _ (if_pos (h o (by simp [ids0])))
  | ptr o i j => exact .ptr _ _ _ _ (if_pos (h o (by simp [ids0])))
  | int k n => exact .cl _ (Cl.int k n)
  | bool b => exact .cl _ (Cl.bool b)
  | str s => exact .cl _ (Cl.str s)
  | undef => exact .cl _ Cl.undef
  | lit v => exact .cl _ (Cl.lit v)
  | sl sz rows k => exact .cl _ (Cl.sl sz rows k hc)
  | agg cs => exact .cl _ hc
  | tup cs => exact .cl _ hc
  | rp row j => exact .cl _ hc
  | wrap w cs => exact .cl _ hc
theorem renA {n : Nat} {ids : List Nat} {d : DV} (h : ∀ o ∈ idsA d, o ∈ ids) (hc : clA d) : Ren (pick1 n ids) d (canA n ids d) := by
  cases d with
  | agg cs =>
    refine .agg _ _ (by simp) fun i c d hc' hd => ?_
    rw [List.getElem?_map, hc'] at hd
    obtain rfl := Option.some.inj hd
    have hm := List.mem_of_getElem? hc'
    exact ren0 (fun o ho => h o (List.mem_flatMap.2 ⟨c, hm, ho⟩)) (hc c hm)
  | wrap w cs =>
    refine .wrap _ _ _ (by simp) fun i c d hc' hd => ?_
    rw [List.getElem?_map, hc'] at hd
    obtain rfl := Option.some.inj hd
    have hm := List.mem_of_getElem? hc'
    exact ren0 (fun o ho => h o (List.mem_flatMap.2 ⟨c, hm, ho⟩)) (hc c hm)
  | _ => exact ren0 h hc
theorem renT {n : Nat} {ids : List Nat} {d : DV} (h : ∀ o ∈ idsT d, o ∈ ids) (hc : clT d) : Ren (pick1 n ids) d (canT n ids d) := by
  cases d with
  | tup cs =>
    refine .tup _ _ (by simp) fun i c d hc' hd => ?_
    rw [List.getElem?_map, hc'] at hd
    obtain rfl := Option.some.inj hd
    have hm := List.mem_of_getElem? hc'
    exact renA (fun o ho => h o (List.mem_flatMap.2 ⟨c, hm, ho⟩)) (hc c hm)
  | _ => exact renA h hc
theorem renOb {f : Nat → Option Nat} {ob : Ob} (h : clOb ob) : RenOb f ob ob := by
  refine ⟨rfl, rfl, fun i ra rb ha hb => ?_⟩
  rw [ha] at hb
  obtain rfl := Option.some.inj hb
  refine ⟨rfl, fun j c d hc hd => ?_⟩
  rw [hc] at hd
  obtain rfl := Option.some.inj hd
  have h1 := List.mem_of_getElem? ha
  have h2 := List.mem_of_getElem? hc
  cases ob with
  | box cs =>
    simp only [Ob.rows, List.mem_singleton] at h1
    subst h1
    exact .cl _ (h c h2)
  | arr sz rows => exact .cl _ (h ra h1 c h2)

theorem goIds_spec {n : Nat} {T : Objs} : ∀ {ids : List Nat} {K : Objs → Prop}, goIds n T ids K → ∃ os, K os ∧ os.length = ids.length ∧ (∀ o ∈ ids, n ≤ o) ∧ ∀ (k : Nat) (ob' : Ob), os[k]? = some (some ob') → ∃ o, ids[k]? = some o ∧ T[o]? = some (some ob') ∧ clOb ob'
  | [], K, h => ⟨[], h, rfl, by simp, by simp⟩
  | i :: l, K, h => by
    obtain ⟨h1, h2⟩ := h
    cases hT : T[i]? with
    | none => rw [hT] at h2; exact h2.elim
    | some x => cases x with
      | none => rw [hT] at h2; exact h2.elim
      | some ob =>
        rw [hT] at h2
        obtain ⟨h3, h4⟩ := h2
        obtain ⟨os, h5, h6, h7, h8⟩ := goIds_spec h4
        refine ⟨some ob :: os, h5, by simp [h6], by simpa using ⟨h1, h7⟩, fun k ob' hk => ?_⟩
        rcases k with _ | k
        · simp at hk; subst hk; exact ⟨i, rfl, hT, h3⟩
        · simpa using h8 k ob' (by simpa using hk)

theorem retV_spec {n : Nat} {d : DV} {T : Objs} {K : DV → Objs → Prop} (h : retV n d T K) : ∃ g r' os, Canon n g d T r' os ∧ K r' os := by
  obtain ⟨hn, hc, hg⟩ := h
  obtain ⟨os, h1, h2, h3, h4⟩ := goIds_spec hg
  refine ⟨pick1 n (idsT d), _, os, ⟨renT (fun _ h => h) hc, fun k ob' hk => ?_, fun a b x ha hb => ?_, fun a x ha => ?_⟩, h1⟩
  · obtain ⟨o, h5, h6, h7⟩ := h4 k ob' hk
    have hm := List.mem_of_getElem? h5
    refine ⟨o, ob', ?_, h6, renOb h7⟩
    show (if o ∈ idsT d then some (n + pos o (idsT d)) else none) = some (n + k)
    rw [if_pos hm]
    have h8 := pos_get hm
    have : pos o (idsT d) = k := (List.getElem?_inj (pos_lt hm) hn).1 (h8.trans h5.symm)
    rw [this]
  · unfold pick1 at ha hb
    by_cases hma : a ∈ idsT d
    case neg => rw [if_neg hma] at ha; cases ha
    by_cases hmb : b ∈ idsT d
    case neg => rw [if_neg hmb] at hb; cases hb
    rw [if_pos hma] at ha
    rw [if_pos hmb] at hb
    have e : n + pos a (idsT d) = n + pos b (idsT d) := (Option.some.inj ha).trans (Option.some.inj hb).symm
    have h8 := pos_get hma
    have h9 := pos_get hmb
    rw [show pos a (idsT d) = pos b (idsT d) by omega, h9] at h8
    exact (Option.some.inj h8).symm
  · unfold pick1 at ha
    split at ha
    · rename_i hm
      have := pos_lt hm
      obtain rfl := Option.some.inj ha
      exact ⟨h3 a hm, by omega, by omega⟩
    · cases ha

/-- A function's law, told by its code; what it makes is numbered by its result. -/
theorem FSpec.by_fn {E : Prg} {F : FTab} (hF : FOk E F) {f : Nat} {ann : List Ann} {rf : RFn} {args : List DV} {s : FSpec} (hc : compFn E.P ann f = some rf) (hargs : args.length ≤ rf.n)
    (h : ∀ n, rf.code.wp E F rf.n (finQ rf.res fun d T' => n ≤ T'.length ∧ retV n d T' fun d' os => d' = (s.res n).1 ∧ os = (s.res n).2) ⟨initEnv 0 args, List.replicate n none⟩) : PCalls E f args fun n r os => r = (s.res n).1 ∧ os = (s.res n).2 := by
  intro n
  have h1 : GCalls E f args (List.replicate n none) fun r T' => retV n r T' fun d' os => d' = (s.res n).1 ∧ os = (s.res n).2 := by
    refine GCalls.of_fn hF hc hargs (RC.wp_mono _ (h n) fun e st hh => ?_)
    have key : ∀ st : St, (match resOf st rf.res with
        | some d => n ≤ st.objs.length ∧ retV n d st.objs fun d' os => d' = (s.res n).1 ∧ os = (s.res n).2
        | none => False) → (match resOf st rf.res with
        | some d => (List.replicate n (none : Option Ob)).length ≤ st.objs.length ∧ retV n d st.objs fun d' os => d' = (s.res n).1 ∧ os = (s.res n).2
        | none => False) := fun st hh => by
      cases hres : resOf st rf.res with
      | none => rw [hres] at hh; exact hh
      | some d => rw [hres] at hh; exact ⟨by simpa using hh.1, hh.2⟩
    cases e with
    | normal => exact key st hh
    | ret => exact key st hh
    | _ => exact hh
  exact (h1.canon fun r T' hr => by
    obtain ⟨g, r', os, hg, hK⟩ := retV_spec hr
    exact ⟨g, r', os, hg, os, rfl, hK⟩)

theorem RO_len (n : Nat) (l : Objs) : (List.replicate n none ++ l).length = n + l.length := by simp
theorem RO_get (n k : Nat) (l : Objs) : (List.replicate n none ++ l)[n + k]? = l[k]? := by
  rw [List.getElem?_append_right (by simp)]
  simp
theorem RO_get0 (n : Nat) (l : Objs) : (List.replicate n none ++ l)[n]? = l[0]? := RO_get n 0 l
theorem RO_set (n k : Nat) (l : Objs) (x : Option Ob) : (List.replicate n none ++ l).set (n + k) x = List.replicate n none ++ l.set k x := by
  rw [List.set_append_right _ _ (by simp)]
  simp
theorem RO_set0 (n : Nat) (l : Objs) (x : Option Ob) : (List.replicate n none ++ l).set n x = List.replicate n none ++ l.set 0 x := RO_set n 0 l x

/-- Rows of one number each. -/
def intRows (k : IntKind) (l : List Int) : List (List DV) := l.map fun n => [.int k n]
theorem intRows_length (k : IntKind) (l : List Int) : (intRows k l).length = l.length := by simp [intRows]
theorem intRows_get (k : IntKind) (l : List Int) (i : Nat) : (intRows k l)[i]? = (l[i]?).map fun n => [.int k n] := by simp [intRows]
theorem intRows_append (k : IntKind) (a b : List Int) : intRows k a ++ intRows k b = intRows k (a ++ b) := by simp [intRows]
theorem intRows_nil (k : IntKind) : intRows k [] = [] := rfl
theorem intRows_one (k : IntKind) (n : Int) : [[DV.int k n]] = intRows k [n] := rfl
theorem intRows_take (k : IntKind) (l : List Int) (n : Nat) : (intRows k l).take n = intRows k (l.take n) := by simp [intRows]
theorem intRows_drop (k : IntKind) (l : List Int) (n : Nat) : (intRows k l).drop n = intRows k (l.drop n) := by simp [intRows]
theorem intRows_set (k : IntKind) (l : List Int) (i : Nat) (n : Int) : (intRows k l).set i [.int k n] = intRows k (l.set i n) := by simp [intRows, List.map_set]
theorem intRows_eq_nil (k : IntKind) (l : List Int) : (intRows k l = []) = (l = []) := by simp [intRows]
theorem ClRows_int (k : IntKind) (l : List Int) : ClRows (intRows k l) := fun row hr c hc => by
  simp only [intRows, List.mem_map] at hr
  obtain ⟨n, _, rfl⟩ := hr
  simp only [List.mem_singleton] at hc
  subst hc
  exact Cl.int k n
theorem ClRows_nil : ClRows [] := fun row h => by cases h
theorem rowsBytes_int (l : List Int) : rowsBytes (intRows .u8 l) = some (l.map fun n => UInt8.ofNat n.toNat) := by
  induction l with
  | nil => rfl
  | cons a l ih =>
    show rowsBytes ([.int .u8 a] :: intRows .u8 l) = _
    simp only [rowsBytes, ih, Option.map, List.map_cons]

/-- The numbers of rows. -/
def ints (rows : List (List DV)) : List Int := rows.map fun
  | [.int _ n] => n
  | _ => 0
theorem ints_intRows (k : IntKind) (l : List Int) : ints (intRows k l) = l := by
  simp only [ints, intRows, List.map_map]
  exact List.map_id'' (fun _ => rfl) l

/-- Not too many, each within its kind's bounds. -/
def inK (k : IntKind) (l : List Int) : Prop := l.length ≤ 4611686018427387904 ∧ ∀ n ∈ l, k.min ≤ n ∧ n ≤ k.max
theorem inK_nil (k : IntKind) : inK k [] := ⟨by simp, by simp⟩
theorem inK.u8 {l : List Int} (h : inK .u8 l) {n : Int} (hn : n ∈ l) : 0 ≤ n ∧ n ≤ 255 := by
  have := h.2 n hn
  simpa [IntKind.min, IntKind.max, IntKind.signed, IntKind.bits] using this
theorem inK.i32 {l : List Int} (h : inK .i32 l) {n : Int} (hn : n ∈ l) : -2147483648 ≤ n ∧ n ≤ 2147483647 := by
  have := h.2 n hn
  simpa [IntKind.min, IntKind.max, IntKind.signed, IntKind.bits] using this
theorem inK.i64 {l : List Int} (h : inK .i64 l) {n : Int} (hn : n ∈ l) : -9223372036854775808 ≤ n ∧ n ≤ 9223372036854775807 := by
  have := h.2 n hn
  simpa [IntKind.min, IntKind.max, IntKind.signed, IntKind.bits] using this
theorem inK_u8 {l : List Int} (h : l.length ≤ 4611686018427387904) (hn : ∀ n ∈ l, 0 ≤ n ∧ n ≤ 255) : inK .u8 l := ⟨h, by simpa [IntKind.min, IntKind.max, IntKind.signed, IntKind.bits] using hn⟩
theorem inK_i32 {l : List Int} (h : l.length ≤ 4611686018427387904) (hn : ∀ n ∈ l, -2147483648 ≤ n ∧ n ≤ 2147483647) : inK .i32 l := ⟨h, by simpa [IntKind.min, IntKind.max, IntKind.signed, IntKind.bits] using hn⟩
theorem inK_i64 {l : List Int} (h : l.length ≤ 4611686018427387904) (hn : ∀ n ∈ l, -9223372036854775808 ≤ n ∧ n ≤ 9223372036854775807) : inK .i64 l := ⟨h, by simpa [IntKind.min, IntKind.max, IntKind.signed, IntKind.bits] using hn⟩
theorem inK.take {k : IntKind} {l : List Int} (h : inK k l) (n : Nat) : inK k (l.take n) := ⟨Nat.le_trans (by simp; omega) h.1, fun x hx => h.2 x (List.mem_of_mem_take hx)⟩
theorem inK.drop {k : IntKind} {l : List Int} (h : inK k l) (n : Nat) : inK k (l.drop n) := ⟨Nat.le_trans (by simp) h.1, fun x hx => h.2 x (List.mem_of_mem_drop hx)⟩
theorem inK.append {k : IntKind} {a b : List Int} (ha : inK k a) (hb : inK k b) (h : a.length + b.length ≤ 4611686018427387904) : inK k (a ++ b) := ⟨by simpa using h, fun x hx => (List.mem_append.1 hx).elim (ha.2 x) (hb.2 x)⟩

/-- A slice of numbers that is only read. -/
def isInts (k : IntKind) : DV → Prop
  | .sl sz rows _ => rows = intRows k (ints rows) ∧ (sz = 1 ∨ rows = []) ∧ inK k (ints rows)
  | _ => False
def intsD : DV → List Int
  | .sl _ rows _ => ints rows
  | _ => []
theorem isInts_sl (k : IntKind) (l : List Int) (s : SK) : isInts k (.sl 1 (intRows k l) s) = inK k l := by simp [isInts, ints_intRows]
theorem isInts_nil (k : IntKind) (sz : Nat) (s : SK) : isInts k (.sl sz [] s) = True := by simp [isInts, ints, intRows, inK]
theorem intsD_sl (k : IntKind) (sz : Nat) (l : List Int) (s : SK) : intsD (.sl sz (intRows k l) s) = l := ints_intRows k l
theorem intsD_nil (sz : Nat) (s : SK) : intsD (.sl sz [] s) = [] := rfl
theorem isInts_inv {k : IntKind} {d : DV} (h : isInts k d) : ∃ sz s, d = .sl sz (intRows k (intsD d)) s ∧ (sz = 1 ∨ intsD d = []) ∧ inK k (intsD d) := by
  cases d with
  | sl sz rows s =>
    obtain ⟨h1, h2, h3⟩ := h
    refine ⟨sz, s, ?_, h2.imp id fun h => (by subst h; rfl), h3⟩
    show DV.sl sz rows s = .sl sz (intRows k (ints rows)) s
    rw [← h1]
  | _ => exact h.elim

theorem wI64 {n : Int} (h1 : -9223372036854775808 ≤ n) (h2 : n ≤ 9223372036854775807) : IntKind.i64.wrap n = n := by rw [IntKind.wrap_i64]; omega
theorem wI32 {n : Int} (h1 : -2147483648 ≤ n) (h2 : n ≤ 2147483647) : IntKind.i32.wrap n = n := by rw [IntKind.wrap_i32]; omega
theorem wU8 {n : Int} (h1 : 0 ≤ n) (h2 : n ≤ 255) : IntKind.u8.wrap n = n := by rw [IntKind.wrap_u8]; omega
theorem wU32 {n : Int} (h1 : 0 ≤ n) (h2 : n ≤ 4294967295) : IntKind.u32.wrap n = n := by rw [IntKind.wrap_u32]; omega

end Go.Proofs.Ytaopaongpoecoaa
end
section
/- Simp's lemmas for results, weaker states. (Printed by wip/tools/gen21.py.) -/
set_option linter.unusedVariables false
set_option linter.unusedSimpArgs false
namespace Go.Proofs.Ytaopaongpoecoaa
open Go.RowKit

def allP (p : DV → Prop) : List DV → Prop
  | [] => True
  | c :: l => p c ∧ allP p l
theorem allP_eq (p : DV → Prop) : ∀ l : List DV, allP p l = ∀ c ∈ l, p c
  | [] => by simp [allP]
  | c :: l => by simp [allP, allP_eq p l]
def notIn (a : Nat) : List Nat → Prop
  | [] => True
  | b :: l => ¬ a = b ∧ notIn a l
theorem notIn_eq (a : Nat) : ∀ l : List Nat, notIn a l = (a ∉ l)
  | [] => by simp [notIn]
  | b :: l => by simp [notIn, notIn_eq a l]
def ndup : List Nat → Prop
  | [] => True
  | a :: l => notIn a l ∧ ndup l
theorem ndup_eq : ∀ l : List Nat, ndup l = l.Nodup
  | [] => by simp [ndup]
  | a :: l => by simp [ndup, ndup_eq l, notIn_eq]
theorem ids0_int (k : IntKind) (v : Int) : ids0 (.int k v) = [] := nrfl _
theorem idsA_int (k : IntKind) (v : Int) : idsA (.int k v) = [] := nrfl _
theorem idsT_int (k : IntKind) (v : Int) : idsT (.int k v) = [] := nrfl _
theorem can0_int (n : Nat) (ids : List Nat) (k : IntKind) (v : Int) : can0 n ids (.int k v) = .int k v := nrfl _
theorem canA_int (n : Nat) (ids : List Nat) (k : IntKind) (v : Int) : canA n ids (.int k v) = .int k v := nrfl _
theorem canT_int (n : Nat) (ids : List Nat) (k : IntKind) (v : Int) : canT n ids (.int k v) = .int k v := nrfl _
theorem cl0_int (k : IntKind) (v : Int) : cl0 (.int k v) = True := nrfl _
theorem clA_int (k : IntKind) (v : Int) : clA (.int k v) = True := nrfl _
theorem clT_int (k : IntKind) (v : Int) : clT (.int k v) = True := nrfl _
theorem ids0_bool (b : Bool) : ids0 (.bool b) = [] := nrfl _
theorem idsA_bool (b : Bool) : idsA (.bool b) = [] := nrfl _
theorem idsT_bool (b : Bool) : idsT (.bool b) = [] := nrfl _
theorem can0_bool (n : Nat) (ids : List Nat) (b : Bool) : can0 n ids (.bool b) = .bool b := nrfl _
theorem canA_bool (n : Nat) (ids : List Nat) (b : Bool) : canA n ids (.bool b) = .bool b := nrfl _
theorem canT_bool (n : Nat) (ids : List Nat) (b : Bool) : canT n ids (.bool b) = .bool b := nrfl _
theorem cl0_bool (b : Bool) : cl0 (.bool b) = True := nrfl _
theorem clA_bool (b : Bool) : clA (.bool b) = True := nrfl _
theorem clT_bool (b : Bool) : clT (.bool b) = True := nrfl _
theorem ids0_str (s : List UInt8) : ids0 (.str s) = [] := nrfl _
theorem idsA_str (s : List UInt8) : idsA (.str s) = [] := nrfl _
theorem idsT_str (s : List UInt8) : idsT (.str s) = [] := nrfl _
theorem can0_str (n : Nat) (ids : List Nat) (s : List UInt8) : can0 n ids (.str s) = .str s := nrfl _
theorem canA_str (n : Nat) (ids : List Nat) (s : List UInt8) : canA n ids (.str s) = .str s := nrfl _
theorem canT_str (n : Nat) (ids : List Nat) (s : List UInt8) : canT n ids (.str s) = .str s := nrfl _
theorem cl0_str (s : List UInt8) : cl0 (.str s) = True := nrfl _
theorem clA_str (s : List UInt8) : clA (.str s) = True := nrfl _
theorem clT_str (s : List UInt8) : clT (.str s) = True := nrfl _
theorem ids0_sl (sz : Nat) (rows : List (List DV)) (k : SK) : ids0 (.sl sz rows k) = [] := nrfl _
theorem idsA_sl (sz : Nat) (rows : List (List DV)) (k : SK) : idsA (.sl sz rows k) = [] := nrfl _
theorem idsT_sl (sz : Nat) (rows : List (List DV)) (k : SK) : idsT (.sl sz rows k) = [] := nrfl _
theorem can0_sl (n : Nat) (ids : List Nat) (sz : Nat) (rows : List (List DV)) (k : SK) : can0 n ids (.sl sz rows k) = .sl sz rows k := nrfl _
theorem canA_sl (n : Nat) (ids : List Nat) (sz : Nat) (rows : List (List DV)) (k : SK) : canA n ids (.sl sz rows k) = .sl sz rows k := nrfl _
theorem canT_sl (n : Nat) (ids : List Nat) (sz : Nat) (rows : List (List DV)) (k : SK) : canT n ids (.sl sz rows k) = .sl sz rows k := nrfl _
theorem cl0_sl (sz : Nat) (rows : List (List DV)) (k : SK) : cl0 (.sl sz rows k) = ClRows rows := nrfl _
theorem clA_sl (sz : Nat) (rows : List (List DV)) (k : SK) : clA (.sl sz rows k) = ClRows rows := nrfl _
theorem clT_sl (sz : Nat) (rows : List (List DV)) (k : SK) : clT (.sl sz rows k) = ClRows rows := nrfl _
theorem ids0_own (o off m : Nat) : ids0 (.own o off m) = [o] := nrfl _
theorem idsA_own (o off m : Nat) : idsA (.own o off m) = [o] := nrfl _
theorem idsT_own (o off m : Nat) : idsT (.own o off m) = [o] := nrfl _
theorem can0_own (n : Nat) (ids : List Nat) (o off m : Nat) : can0 n ids (.own o off m) = .own (n + pos o ids) off m := nrfl _
theorem canA_own (n : Nat) (ids : List Nat) (o off m : Nat) : canA n ids (.own o off m) = .own (n + pos o ids) off m := nrfl _
theorem canT_own (n : Nat) (ids : List Nat) (o off m : Nat) : canT n ids (.own o off m) = .own (n + pos o ids) off m := nrfl _
theorem cl0_own (o off m : Nat) : cl0 (.own o off m) = True := nrfl _
theorem clA_own (o off m : Nat) : clA (.own o off m) = True := nrfl _
theorem clT_own (o off m : Nat) : clT (.own o off m) = True := nrfl _
theorem ids0_ptr (o i j : Nat) : ids0 (.ptr o i j) = [o] := nrfl _
theorem idsA_ptr (o i j : Nat) : idsA (.ptr o i j) = [o] := nrfl _
theorem idsT_ptr (o i j : Nat) : idsT (.ptr o i j) = [o] := nrfl _
theorem can0_ptr (n : Nat) (ids : List Nat) (o i j : Nat) : can0 n ids (.ptr o i j) = .ptr (n + pos o ids) i j := nrfl _
theorem canA_ptr (n : Nat) (ids : List Nat) (o i j : Nat) : canA n ids (.ptr o i j) = .ptr (n + pos o ids) i j := nrfl _
theorem canT_ptr (n : Nat) (ids : List Nat) (o i j : Nat) : canT n ids (.ptr o i j) = .ptr (n + pos o ids) i j := nrfl _
theorem cl0_ptr (o i j : Nat) : cl0 (.ptr o i j) = True := nrfl _
theorem clA_ptr (o i j : Nat) : clA (.ptr o i j) = True := nrfl _
theorem clT_ptr (o i j : Nat) : clT (.ptr o i j) = True := nrfl _
theorem idsA_agg (cs : List DV) : idsA (.agg cs) = cs.flatMap ids0 := nrfl _
theorem idsT_agg (cs : List DV) : idsT (.agg cs) = cs.flatMap ids0 := nrfl _
theorem idsT_tup (cs : List DV) : idsT (.tup cs) = cs.flatMap idsA := nrfl _
theorem canA_agg (n : Nat) (ids : List Nat) (cs : List DV) : canA n ids (.agg cs) = .agg (cs.map (can0 n ids)) := nrfl _
theorem canT_agg (n : Nat) (ids : List Nat) (cs : List DV) : canT n ids (.agg cs) = .agg (cs.map (can0 n ids)) := nrfl _
theorem canT_tup (n : Nat) (ids : List Nat) (cs : List DV) : canT n ids (.tup cs) = .tup (cs.map (canA n ids)) := nrfl _
theorem clA_agg (cs : List DV) : clA (.agg cs) = allP cl0 cs := by simp [clA, allP_eq]
theorem clT_agg (cs : List DV) : clT (.agg cs) = allP cl0 cs := by simp [clT, clA, allP_eq]
theorem clT_tup (cs : List DV) : clT (.tup cs) = allP clA cs := by simp [clT, allP_eq]
theorem pos_nil (o : Nat) : pos o [] = 0 := nrfl _
theorem pos_cons (o a : Nat) (l : List Nat) : pos o (a :: l) = if a = o then 0 else pos o l + 1 := nrfl _
theorem clOb_arr (sz : Nat) (rows : List (List DV)) : clOb (.arr sz rows) = ClRows rows := nrfl _
theorem clOb_box (cs : List DV) : clOb (.box cs) = allP Cl cs := by simp [clOb, allP_eq]
theorem allP_nil (p : DV → Prop) : allP p [] = True := nrfl _
theorem allP_cons (p : DV → Prop) (c : DV) (l : List DV) : allP p (c :: l) = (p c ∧ allP p l) := nrfl _
theorem ndup_nil  : ndup [] = True := nrfl _
theorem ndup_cons (a : Nat) (l : List Nat) : ndup (a :: l) = (notIn a l ∧ ndup l) := nrfl _
theorem notIn_nil (a : Nat) : notIn a [] = True := nrfl _
theorem notIn_cons (a b : Nat) (l : List Nat) : notIn a (b :: l) = (¬ a = b ∧ notIn a l) := nrfl _
theorem goIds_nil (n : Nat) (T : Objs) (k : Objs → Prop) : goIds n T [] k = k [] := nrfl _
theorem goIds_cons (n : Nat) (T : Objs) (i : Nat) (l : List Nat) (k : Objs → Prop) : goIds n T (i :: l) k = (n ≤ i ∧ bindO T[i]? fun x => bindO x fun ob => clOb ob ∧ goIds n T l fun os => k (some ob :: os)) := nrfl _
theorem retV_eq (n : Nat) (d : DV) (T : Objs) (K : DV → Objs → Prop) : retV n d T K = (ndup (idsT d) ∧ clT d ∧ goIds n T (idsT d) fun os => K (canT n (idsT d) d) os) := by simp [retV, ndup_eq]
theorem ClRows_cons (row : List DV) (l : List (List DV)) : ClRows (row :: l) = (allP Cl row ∧ ClRows l) := by simp [ClRows, allP_eq]
theorem ClRows_nil_eq  : ClRows [] = True := eq_true ClRows_nil
theorem ClRows_int_eq (k : IntKind) (l : List Int) : ClRows (intRows k l) = True := eq_true (ClRows_int k l)
theorem ClRows_one_eq (k : IntKind) (v : Int) : ClRows [[.int k v]] = True := eq_true (ClRows_int k [v])
theorem Cl_int_eq (k : IntKind) (v : Int) : Cl (.int k v) = True := eq_true (Cl.int k v)
theorem Cl_bool_eq (b : Bool) : Cl (.bool b) = True := eq_true (Cl.bool b)
theorem Cl_str_eq (s : List UInt8) : Cl (.str s) = True := eq_true (Cl.str s)
theorem wk_mk (e e2 : List (Nat × DV)) (o o2 : Objs) : St.wk ⟨e, o⟩ ⟨e2, o2⟩ = (envWk e e2 ∧ objsWk o o2) := nrfl _
theorem envWk_nil (e : List (Nat × DV)) : envWk e [] = True := by simp [envWk]
theorem envWk_cons {e : List (Nat × DV)} {t : Nat} {d : DV} {l : List (Nat × DV)} : envWk e ((t, d) :: l) = ((d = .undef ∨ wkT (St.look t e) d) ∧ envWk e l) := by
  simp [envWk]
theorem forall_nil_eq {α : Type} (p : α → Prop) : (∀ c ∈ ([] : List α), p c) = True := by simp
theorem bindO_getI (l : List Int) (n : Nat) (f : Int → Prop) : bindO l[n]? f = (n < l.length ∧ f (l.getD n 0)) := by
  by_cases h : n < l.length
  · simp [List.getElem?_eq_getElem h, bindO, h]
  · simp [List.getElem?_eq_none (Nat.le_of_not_lt h), bindO, h]
theorem bindO_getU (l : List UInt8) (n : Nat) (f : UInt8 → Prop) : bindO l[n]? f = (n < l.length ∧ f (l.getD n 0)) := by
  by_cases h : n < l.length
  · simp [List.getElem?_eq_getElem h, bindO, h]
  · simp [List.getElem?_eq_none (Nat.le_of_not_lt h), bindO, h]
theorem objsWk_self (o : Objs) : objsWk o o = True := eq_true (objsWk_refl o)
theorem objsWk_nil : objsWk [] [] = True := nrfl _
theorem objsWk_none (a : Option Ob) (l m : Objs) : objsWk (a :: l) (none :: m) = objsWk l m := by simp [objsWk]
theorem objsWk_some (a b : Ob) (l m : Objs) : objsWk (some a :: l) (some b :: m) = (a = b ∧ objsWk l m) := by simp [objsWk]
theorem objsWk_app {a b : Objs} (c : Objs) (h : objsWk a b) : objsWk (c ++ a) (c ++ b) := by
  induction c with
  | nil => exact h
  | cons x c ih => exact ⟨.inr rfl, ih⟩
theorem objsWk_dead : ∀ (l : Objs), objsWk l (List.replicate l.length none)
  | [] => trivial
  | _ :: l => ⟨.inl rfl, objsWk_dead l⟩
theorem objsWk_app2 : ∀ {a b c d : Objs}, objsWk a b → objsWk c d → objsWk (a ++ c) (b ++ d)
  | [], [], c, d, _, h => h
  | _ :: a, _ :: b, c, d, h, h2 => ⟨h.1, objsWk_app2 h.2 h2⟩
  | [], _ :: _, _, _, h, _ => h.elim
  | _ :: _, [], _, _, h, _ => h.elim
/-- Behind dead ones: some more are dead. -/
theorem objsWk_RO {n m : Nat} {l a b : Objs} (h : objsWk a b) (hm : m = l.length) : objsWk (List.replicate n none ++ (l ++ a)) (List.replicate (n + m) none ++ b) := by
  subst hm
  rw [← List.replicate_append_replicate, List.append_assoc]
  exact objsWk_app _ (objsWk_app2 (objsWk_dead l) h)

end Go.Proofs.Ytaopaongpoecoaa
end
section
/- Bits of numbers, as arithmetic. -/
set_option linter.unusedVariables false
set_option linter.unusedSimpArgs false
namespace Go.Proofs.Ytaopaongpoecoaa
open Go.RowKit

theorem ofInt_toNat (w : Nat) (a : Int) : (((BitVec.ofInt w a).toNat : Nat) : Int) = a % (2 ^ w : Int) := by
  rw [BitVec.toNat_ofInt, Int.toNat_of_nonneg (Int.emod_nonneg _ (by exact_mod_cast Nat.ne_of_gt (Nat.two_pow_pos w)))]
  simp
theorem ofInt_mask (w m : Nat) (h : m ≤ w) : (BitVec.ofInt w (2 ^ m - 1)).toNat = 2 ^ m - 1 := by
  have h2 : (2 : Nat) ^ m ≤ 2 ^ w := Nat.pow_le_pow_right (by omega) h
  have h3 := Nat.two_pow_pos m
  have h4 := ofInt_toNat w (2 ^ m - 1)
  have h6 : (1 : Int) ≤ 2 ^ m := by exact_mod_cast h3
  have h7 : (2 : Int) ^ m ≤ 2 ^ w := by exact_mod_cast h2
  rw [Int.emod_eq_of_lt (by omega) (by omega)] at h4
  have : ((2 ^ m - 1 : Nat) : Int) = 2 ^ m - 1 := by rw [Int.natCast_sub h3]; simp
  omega
theorem andMask (w m : Nat) (a : Int) (h : m ≤ w) : (((BitVec.ofInt w a &&& BitVec.ofInt w (2 ^ m - 1)).toNat : Nat) : Int) = a % (2 ^ m : Int) := by
  rw [BitVec.toNat_and, ofInt_mask w m h, Nat.and_two_pow_sub_one_eq_mod]
  have h2 := ofInt_toNat w a
  rw [Int.natCast_emod, h2]
  simp only [Int.natCast_pow, Int.cast_ofNat_Int]
  exact Int.emod_emod_of_dvd a (by exact_mod_cast Nat.pow_dvd_pow 2 h)
theorem wrap_small (k : IntKind) (m : Nat) (x : Int) (h : m < k.bits) : k.wrap (x % (2 ^ m : Int)) = x % (2 ^ m : Int) := by
  have h0 : (0 : Int) < 2 ^ m := by exact_mod_cast Nat.two_pow_pos m
  have h1 := Int.emod_nonneg x (Int.ne_of_gt h0)
  have h2 := Int.emod_lt_of_pos x h0
  have h3 : (2 : Int) ^ m ≤ 2 ^ (k.bits - 1) := by exact_mod_cast Nat.pow_le_pow_right (by omega) (by omega)
  have h4 : (2 : Int) ^ (k.bits - 1) ≤ 2 ^ k.bits := by exact_mod_cast Nat.pow_le_pow_right (by omega) (by omega)
  unfold IntKind.wrap
  simp only
  rw [Int.emod_eq_of_lt h1 (by omega)]
  rw [if_neg]
  simp
  intro _
  omega
/-- A number's last bits. -/
theorem and_mask (k : IntKind) (m : Nat) (a : Int) (h : m < k.bits) : k.wrap ((BitVec.ofInt k.bits a &&& BitVec.ofInt k.bits (2 ^ m - 1)).toNat : Nat) = a % (2 ^ m : Int) := by
  rw [andMask k.bits m a (Nat.le_of_lt h), wrap_small k m a h]
theorem and7_u8 (a : Int) : IntKind.u8.wrap ((BitVec.ofInt IntKind.u8.bits a &&& BitVec.ofInt IntKind.u8.bits 7).toNat : Nat) = a % 8 := and_mask .u8 3 a (by decide)
theorem and15_u8 (a : Int) : IntKind.u8.wrap ((BitVec.ofInt IntKind.u8.bits a &&& BitVec.ofInt IntKind.u8.bits 15).toNat : Nat) = a % 16 := and_mask .u8 4 a (by decide)
theorem and31_u8 (a : Int) : IntKind.u8.wrap ((BitVec.ofInt IntKind.u8.bits a &&& BitVec.ofInt IntKind.u8.bits 31).toNat : Nat) = a % 32 := and_mask .u8 5 a (by decide)
theorem and63_u8 (a : Int) : IntKind.u8.wrap ((BitVec.ofInt IntKind.u8.bits a &&& BitVec.ofInt IntKind.u8.bits 63).toNat : Nat) = a % 64 := and_mask .u8 6 a (by decide)
theorem and127_u8 (a : Int) : IntKind.u8.wrap ((BitVec.ofInt IntKind.u8.bits a &&& BitVec.ofInt IntKind.u8.bits 127).toNat : Nat) = a % 128 := and_mask .u8 7 a (by decide)
/-- Bits side by side. -/
theorem or_add (w m : Nat) (x y : Int) (hx : x % 2 ^ m = 0) (h0 : 0 ≤ x) (hy : 0 ≤ y) (hy2 : y < 2 ^ m) (hw : x + y < 2 ^ w) : (((BitVec.ofInt w x ||| BitVec.ofInt w y).toNat : Nat) : Int) = x + y := by
  have h1 := ofInt_toNat w x
  have h2 := ofInt_toNat w y
  rw [Int.emod_eq_of_lt h0 (by omega)] at h1
  rw [Int.emod_eq_of_lt hy (by omega)] at h2
  rw [BitVec.toNat_or]
  generalize (BitVec.ofInt w x).toNat = a at h1 ⊢
  generalize (BitVec.ofInt w y).toNat = b at h2 ⊢
  subst h1 h2
  have hb : b < 2 ^ m := by exact_mod_cast hy2
  have ha : a % 2 ^ m = 0 := by exact_mod_cast hx
  have : a = 2 ^ m * (a / 2 ^ m) := by
    have := Nat.div_add_mod a (2 ^ m)
    omega
  rw [this, ← Nat.two_pow_add_eq_or_of_lt hb]
  simp
theorem or_i32 (m : Nat) (x y : Int) (hx : x % 2 ^ m = 0) (h0 : 0 ≤ x) (hy : 0 ≤ y) (hy2 : y < 2 ^ m) (hw : x + y ≤ 2147483647) : IntKind.i32.wrap ((BitVec.ofInt IntKind.i32.bits x ||| BitVec.ofInt IntKind.i32.bits y).toNat : Nat) = x + y := by
  rw [or_add IntKind.i32.bits m x y hx h0 hy hy2 (by simp only [IntKind.bits]; omega), wI32 (by omega) (by omega)]
theorem or_u8 (m : Nat) (x y : Int) (hx : x % 2 ^ m = 0) (h0 : 0 ≤ x) (hy : 0 ≤ y) (hy2 : y < 2 ^ m) (hw : x + y ≤ 255) : IntKind.u8.wrap ((BitVec.ofInt IntKind.u8.bits x ||| BitVec.ofInt IntKind.u8.bits y).toNat : Nat) = x + y := by
  rw [or_add IntKind.u8.bits m x y hx h0 hy hy2 (by simp only [IntKind.bits]; omega), wU8 (by omega) (by omega)]
theorem and192_u8 (a : Int) : IntKind.u8.wrap ((BitVec.ofInt IntKind.u8.bits a &&& BitVec.ofInt IntKind.u8.bits 192).toNat : Nat) = a % 256 / 64 * 64 := by
  have h1 := ofInt_toNat 8 a
  have key : ∀ b : Fin 256, (b.val &&& 192) = b.val / 64 * 64 := by decide +kernel
  rw [BitVec.toNat_and]
  have h2 : (BitVec.ofInt IntKind.u8.bits 192).toNat = 192 := by decide
  rw [h2]
  change (((BitVec.ofInt IntKind.u8.bits a).toNat : Nat) : Int) = a % 256 at h1
  have h3 : (BitVec.ofInt IntKind.u8.bits a).toNat < 256 := (BitVec.ofInt IntKind.u8.bits a).isLt
  generalize (BitVec.ofInt IntKind.u8.bits a).toNat = b at h1 h3 ⊢
  have h4 := key ⟨b, h3⟩
  simp only at h4
  rw [h4, wU8] <;> omega
theorem shl_i32_6 (a : Int) : IntKind.i32.wrap (a * 2 ^ min (6 : Int).toNat IntKind.i32.bits) = IntKind.i32.wrap (a * 64) := rfl

end Go.Proofs.Ytaopaongpoecoaa
end
section
/- Results told with less; arguments of which it isn't known whether they are nil. -/
set_option linter.unusedVariables false
set_option linter.unusedSimpArgs false
namespace Go.Proofs.Ytaopaongpoecoaa
open Go.RowKit

theorem PCalls.weaken {E : Prg} {f : Nat} {args : List DV} {R R2 : Nat → DV → Objs → Prop} (h : PCalls E f args R) (hR : ∀ n r os, R n r os → ∃ r2, wkT r r2 ∧ R2 n r2 os) : PCalls E f args R2 := by
  intro n G w vs h1 h2 h3 h4
  refine Calls.mono (h n G w vs h1 h2 h3 h4) fun e w' ⟨v, r, T', G', a, ⟨os, ho, hr⟩, hl, hrel, hh, hf⟩ => ?_
  obtain ⟨r2, hw, hr2⟩ := hR n r os hr
  exact ⟨v, r2, T', G', a, ⟨os, ho, hr2⟩, hl, wkT_rel hw hrel, hh, hf⟩

/-- An argument of which less is known. -/
theorem PCalls.args {E : Prg} {f : Nat} {args args2 : List DV} {R : Nat → DV → Objs → Prop} (h : PCalls E f args R) (hl : args2.length = args.length) (hw : ∀ (G : Gh) (i : Nat) d2 v, args2[i]? = some d2 → Rel G d2 v → ∃ d, args[i]? = some d ∧ Rel G d v) : PCalls E f args2 R := by
  intro n G w vs h1 h2 h3 h4
  refine h n G w vs h1 h2 (h3.trans hl) fun i d hd => ?_
  have hi : i < args2.length := by rw [hl]; exact (List.getElem?_eq_some_iff.1 hd).1
  obtain ⟨d', hd', hr⟩ := hw G i args2[i] _ (List.getElem?_eq_getElem hi) (h4 i _ (List.getElem?_eq_getElem hi))
  rw [hd] at hd'
  obtain rfl := Option.some.inj hd'
  exact hr

/-- A slice is nil or it isn't. -/
theorem Rel.any_split {G : Gh} {sz : Nat} {rows : List (List DV)} {k : SK} {v : Value} (h : Rel G (.sl sz rows k) v) : (rows = [] ∧ Rel G (.sl sz rows .nil) v) ∨ Rel G (.sl sz rows .nonnil) v := by
  cases h with
  | sl sz rows k p len cap b o vals a1 a2 a3 a4 a5 a6 a7 =>
    cases p with
    | none =>
      have hr : rows = [] := by
        by_cases hr : rows = []
        · exact hr
        · cases a4 hr
      have hc : cap = 0 := by
        cases k with
        | any => exact a2 rfl
        | nil => exact a2.2
        | nonnil => cases a2
        | zero => exact a2
      exact .inl ⟨hr, .sl sz rows .nil none len cap b o vals a1 ⟨rfl, hc⟩ a3 a4 a5 a6 a7⟩
    | some x => exact .inr (.sl sz rows .nonnil _ len cap b o vals a1 rfl a3 a4 a5 a6 a7)

/-- What is shown of a nil slice and of one that isn't holds of any. -/
theorem PCalls.any_arg {E : Prg} {f : Nat} {i : Nat} {args : List DV} {sz : Nat} {rows : List (List DV)} {k : SK} {R : Nat → DV → Objs → Prop} (hi : args[i]? = some (.sl sz rows k)) (h1 : rows = [] → PCalls E f (args.set i (.sl sz rows .nil)) R) (h2 : PCalls E f (args.set i (.sl sz rows .nonnil)) R) : PCalls E f args R := by
  intro n G w vs g1 g2 g3 g4
  have hlt : i < args.length := (List.getElem?_eq_some_iff.1 hi).1
  have rest : ∀ x, Rel G x (vs.getD i undef) → ∀ (j : Nat) d, (args.set i x)[j]? = some d → Rel G d (vs.getD j undef) := fun x hx j d hd => by
    by_cases e : i = j
    · subst e
      rw [List.getElem?_set_self hlt] at hd
      obtain rfl := Option.some.inj hd
      exact hx
    · rw [List.getElem?_set_ne e] at hd
      exact g4 j d hd
  rcases (g4 i _ hi).any_split with ⟨hr, h⟩ | h
  · exact h1 hr n G w vs g1 g2 (by simpa using g3) (rest _ h)
  · exact h2 n G w vs g1 g2 (by simpa using g3) (rest _ h)

/-- A function's law, told by its code; what it makes is numbered by its result, which may be told with less. -/
theorem PCalls.by_fn {E : Prg} {F : FTab} (hF : FOk E F) {f : Nat} {ann : List Ann} {rf : RFn} {args : List DV} {res : Nat → DV × Objs} (hc : compFn E.P ann f = some rf) (hargs : args.length ≤ rf.n)
    (h : ∀ n, rf.code.wp E F rf.n (finQ rf.res fun d T' => n ≤ T'.length ∧ retV n d T' fun d' os => wkT d' (res n).1 ∧ os = (res n).2) ⟨initEnv 0 args, List.replicate n none⟩) : PCalls E f args fun n r os => r = (res n).1 ∧ os = (res n).2 := by
  have h1 : PCalls E f args fun n r os => wkT r (res n).1 ∧ os = (res n).2 := by
    intro n
    have h1 : GCalls E f args (List.replicate n none) fun r T' => retV n r T' fun d' os => wkT d' (res n).1 ∧ os = (res n).2 := by
      refine GCalls.of_fn hF hc hargs (RC.wp_mono _ (h n) fun e st hh => ?_)
      have key : ∀ st : St, (match resOf st rf.res with
          | some d => n ≤ st.objs.length ∧ retV n d st.objs fun d' os => wkT d' (res n).1 ∧ os = (res n).2
          | none => False) → (match resOf st rf.res with
          | some d => (List.replicate n (none : Option Ob)).length ≤ st.objs.length ∧ retV n d st.objs fun d' os => wkT d' (res n).1 ∧ os = (res n).2
          | none => False) := fun st hh => by
        cases hres : resOf st rf.res with
        | none => rw [hres] at hh; exact hh
        | some d => rw [hres] at hh; exact ⟨by simpa using hh.1, hh.2⟩
      cases e with
      | normal => exact key st hh
      | ret => exact key st hh
      | _ => exact hh
    exact (h1.canon fun r T' hr => by
      obtain ⟨g, r', os, hg, hK⟩ := retV_spec hr
      exact ⟨g, r', os, hg, os, rfl, hK⟩)
  exact h1.weaken fun n r os ⟨h1, h2⟩ => ⟨_, h1, rfl, h2⟩

theorem intRows_fold1 (k : IntKind) (a : Int) : [[DV.int k a]] = intRows k [a] := nrfl _
theorem intRows_foldc (k : IntKind) (a : Int) (l : List Int) : [DV.int k a] :: intRows k l = intRows k (a :: l) := nrfl _
theorem wkT_tup (a b : List DV) : wkT (.tup a) (.tup b) = wkL wkA a b := nrfl _
theorem wkT_agg (a b : List DV) : wkT (.agg a) (.agg b) = wkL wk0 a b := nrfl _
theorem wkA_agg (a b : List DV) : wkA (.agg a) (.agg b) = wkL wk0 a b := nrfl _
theorem wkL_nil (p : DV → DV → Prop) : wkL p [] [] = True := nrfl _
theorem wkL_cons (p : DV → DV → Prop) (x y : DV) (a b : List DV) : wkL p (x :: a) (y :: b) = (p x y ∧ wkL p a b) := nrfl _
theorem wkT_sl (sz : Nat) (rows : List (List DV)) (k : SK) (sz2 : Nat) (rows2 : List (List DV)) (k2 : SK) : wkT (.sl sz rows k) (.sl sz2 rows2 k2) = (rows = rows2 ∧ (k2 = .any ∨ k = k2) ∧ (sz = sz2 ∨ rows = [])) := nrfl _
theorem wkA_sl (sz : Nat) (rows : List (List DV)) (k : SK) (sz2 : Nat) (rows2 : List (List DV)) (k2 : SK) : wkA (.sl sz rows k) (.sl sz2 rows2 k2) = (rows = rows2 ∧ (k2 = .any ∨ k = k2) ∧ (sz = sz2 ∨ rows = [])) := nrfl _
theorem wk0_sl (sz : Nat) (rows : List (List DV)) (k : SK) (sz2 : Nat) (rows2 : List (List DV)) (k2 : SK) : wk0 (.sl sz rows k) (.sl sz2 rows2 k2) = (rows = rows2 ∧ (k2 = .any ∨ k = k2) ∧ (sz = sz2 ∨ rows = [])) := nrfl _
theorem wkT_int (k : IntKind) (n : Int) (d : DV) : wkT (.int k n) d = (DV.int k n = d) := nrfl _
theorem wkA_int (k : IntKind) (n : Int) (d : DV) : wkA (.int k n) d = (DV.int k n = d) := nrfl _
theorem wk0_int (k : IntKind) (n : Int) (d : DV) : wk0 (.int k n) d = (DV.int k n = d) := nrfl _
theorem wkT_bool (b : Bool) (d : DV) : wkT (.bool b) d = (DV.bool b = d) := nrfl _
theorem wkA_bool (b : Bool) (d : DV) : wkA (.bool b) d = (DV.bool b = d) := nrfl _
theorem wk0_bool (b : Bool) (d : DV) : wk0 (.bool b) d = (DV.bool b = d) := nrfl _
theorem wkT_str (s : List UInt8) (d : DV) : wkT (.str s) d = (DV.str s = d) := nrfl _
theorem wkA_str (s : List UInt8) (d : DV) : wkA (.str s) d = (DV.str s = d) := nrfl _
theorem wk0_str (s : List UInt8) (d : DV) : wk0 (.str s) d = (DV.str s = d) := nrfl _
theorem wkT_own (o off n : Nat) (d : DV) : wkT (.own o off n) d = (DV.own o off n = d) := nrfl _
theorem wkA_own (o off n : Nat) (d : DV) : wkA (.own o off n) d = (DV.own o off n = d) := nrfl _
theorem wk0_own (o off n : Nat) (d : DV) : wk0 (.own o off n) d = (DV.own o off n = d) := nrfl _
theorem wkT_ptr (o i j : Nat) (d : DV) : wkT (.ptr o i j) d = (DV.ptr o i j = d) := nrfl _
theorem wkA_ptr (o i j : Nat) (d : DV) : wkA (.ptr o i j) d = (DV.ptr o i j = d) := nrfl _

end Go.Proofs.Ytaopaongpoecoaa
end
section
/- From what an argument reads as to abstract values; the same reading behind the call; a law's contract. -/
set_option linter.unusedVariables false
set_option linter.unusedSimpArgs false
namespace Go.Proofs.Ytaopaongpoecoaa
open Go.RowKit Go.ChangeShapes Go.WideShapes
/-- What a cell may hold. -/
inductive CS where
  | int (k : IntKind)
  | bool
  | str
  | sl (row : List CS)
/-- A struct's fields, one behind another. -/
def shFs (P : Program) (sh : TypeId → Option (List CS)) : List Field → Nat → Option (List CS)
  | [], _ => some []
  | f :: fs, off => match sh f.type with
    | some l => if f.offset = off ∧ P.cellsOf f.type = l.length then (shFs P sh fs (off + l.length)).map (l ++ ·) else none
    | none => none
def shOf (P : Program) : Nat → TypeId → Option (List CS)
  | 0, _ => none
  | n + 1, t => match P.underlying t with
    | some .bool => some [.bool]
    | some (.int k) => some [.int k]
    | some .string => some [.str]
    | some (.slice e) => match shOf P n e with
      | some row => if row.length = P.cellsOf e ∧ 0 < row.length then some [.sl row] else none
      | none => none
    | some (.struct fs) => match shFs P (shOf P n) fs.toList 0 with
      | some l => if l.length = P.cellsOf t then some l else none
      | none => none
    | _ => none
/-- An abstract value of a shape. -/
inductive Conf : CS → DV → Prop where
  | int (k : IntKind) (n : Int) : k.min ≤ n → n ≤ k.max → Conf (.int k) (.int k n)
  | bool (b : Bool) : Conf .bool (.bool b)
  | str (s : List UInt8) : s.length ≤ 9223372036854775807 → Conf .str (.str s)
  | sl (row : List CS) (rows : List (List DV)) : rows.length ≤ 9223372036854775807 → (∀ r ∈ rows, r.length = row.length) →
      (∀ r ∈ rows, ∀ (i : Nat) c d, row[i]? = some c → r[i]? = some d → Conf c d) → Conf (.sl row) (.sl row.length rows .any)
/-- All of memory, to be read. -/
def Gh.all (w : World) : Gh := { rd := fun a => match w.cell? a with | some v => if v.oneCell' = true then some v else none | none => none, pl := fun _ => none }
theorem Gh.all_rd {w : World} {a : Addr} {v : Value} (h : w.cell? a = some v) (h1 : v.oneCell' = true) : (Gh.all w).rd a = some v := by simp [Gh.all, h, h1]
theorem Gh.all_heap (w : World) : Heap (Gh.all w) [] w where
  pls := fun k p h => by simp [Gh.all] at h
  live := fun k ob h => by simp at h
  sep := fun k k' rows rows' p p' m m' h => by simp at h
  rdv := fun a v h => by
    simp only [Gh.all] at h
    split at h
    · rename_i x hx
      split at h
      · rename_i h1; obtain rfl := Option.some.inj h; exact ⟨hx, h1⟩
      · cases h
    · cases h
  rds := fun k rows p m h => by simp at h
section
variable {H : Type} {enc : TypeId × Value → H} {P : Program} {w : World}
theorem addr_add_add (a : Addr) (m n : Nat) : (a.add m).add n = a.add (m + n) := by
  simp only [Addr.add]
  by_cases hm : m = 0
  · subst hm; simp
  · by_cases hn : n = 0
    · subst hn; simp
    · simp [hm, hn, Nat.add_assoc]
theorem addr_add_plain {a : Addr} (h : a.spot = none) (n : Nat) : a.add n = ⟨a.block, a.off + n, none⟩ := by
  cases a
  simp at h
  subst h
  simp only [Addr.add]
  split
  · rename_i h; subst h; rfl
  · rfl
def RelCs (w : World) (l : List CS) (cs : List Value) : Prop :=
  cs.length = l.length ∧ ∃ ds : List DV, ds.length = l.length ∧ ∀ (i : Nat) c d v, l[i]? = some c → ds[i]? = some d → cs[i]? = some v → Conf c d ∧ Rel (Gh.all w) d v ∧ v.oneCell' = true
theorem RelCs.one {c : CS} {v : Value} {d : DV} (h : Conf c d) (h2 : Rel (Gh.all w) d v) (h3 : v.oneCell' = true) : RelCs w [c] [v] := by
  refine ⟨rfl, [d], rfl, fun i c' d' v' hc hd hv => ?_⟩
  rcases i with _ | i
  · simp at hc hd hv; subst hc hd hv; exact ⟨h, h2, h3⟩
  · simp at hc
theorem RelCs.append {l l' : List CS} {cs cs' : List Value} (h : RelCs w l cs) (h' : RelCs w l' cs') : RelCs w (l ++ l') (cs ++ cs') := by
  obtain ⟨h1, ds, h2, h3⟩ := h
  obtain ⟨h1', ds', h2', h3'⟩ := h'
  refine ⟨by simp [h1, h1'], ds ++ ds', by simp [h2, h2'], fun i c d v hc hd hv => ?_⟩
  by_cases hi : i < l.length
  · rw [List.getElem?_append_left (by omega)] at hc hd hv
    exact h3 i c d v hc hd hv
  · rw [List.getElem?_append_right (by omega)] at hc hd hv
    rw [h2] at hd; rw [h1] at hv
    exact h3' _ c d v hc hd hv
theorem shFs_rel {sh : TypeId → Option (List CS)} {base m : Nat} {held : Bool} {spare : Nat → Bool}
    (ih : ∀ t l, sh t = some l → ∀ cs x, DataW.trod enc P w base spare held m t cs = some x → RelCs w l cs) : ∀ (fs : List Field) (off : Nat) (l : List CS) (cs : List Value), shFs P sh fs off = some l → cs.length = off + l.length →
    (∀ f ∈ fs, ∃ x, DataW.trod enc P w base spare held m f.type ((cs.drop f.offset).take (P.cellsOf f.type)) = some x) → RelCs w l (cs.drop off)
  | [], off, l, cs, h, hl, hx => by
    obtain rfl := Option.some.inj h
    have : cs.drop off = [] := List.drop_eq_nil_of_le (by simp at hl; omega)
    rw [this]
    exact ⟨rfl, [], rfl, fun i c d v hc => by simp at hc⟩
  | f :: fs, off, l, cs, h, hl, hx => by
    simp only [shFs] at h
    split at h
    · rename_i lf hlf
      split at h
      · rename_i hc
        cases hr : shFs P sh fs (off + lf.length) with
        | none => rw [hr] at h; cases h
        | some lr =>
          rw [hr] at h
          obtain rfl := Option.some.inj h
          obtain ⟨x, hx1⟩ := hx f (by simp)
          rw [hc.1, hc.2] at hx1
          have h1 := ih _ _ hlf _ _ hx1
          have h2 := shFs_rel ih fs (off + lf.length) lr cs hr (by simp at hl; omega) fun f hf => hx f (by simp [hf])
          have : cs.drop off = (cs.drop off).take lf.length ++ cs.drop (off + lf.length) := by rw [← List.drop_drop, List.take_append_drop]
          rw [this]
          exact h1.append h2
      · cases h
    · cases h
theorem trod_rel {base : Nat} {held : Bool} {spare : Nat → Bool} : ∀ (n : Nat) (t : TypeId) (l : List CS), shOf P n t = some l → ∀ (fuel : Nat) (cs : List Value) (x : DataW H × List MemPlace),
    DataW.trod enc P w base spare held fuel t cs = some x → RelCs w l cs
  | 0, t, l, h, _, _, _, _ => by cases h
  | n + 1, t, l, h, fuel, cs, x, hx => by
    simp only [shOf] at h
    split at h
    · rename_i ht; obtain rfl := Option.some.inj h
      obtain ⟨b, rfl, rfl⟩ := DataW.trod_bool ht hx
      exact .one (.bool b) (.bool b) rfl
    · rename_i k ht; obtain rfl := Option.some.inj h
      obtain ⟨n, rfl, rfl, hw⟩ := DataW.trod_int ht hx
      have : k.min ≤ n ∧ n ≤ k.max := by simpa [Lit.wf] using hw
      exact .one (.int k n this.1 this.2) (.int k n) rfl
    · rename_i ht; obtain rfl := Option.some.inj h
      obtain ⟨s, rfl, rfl, hw⟩ := DataW.trod_string ht hx
      have e : s = ⟨s.data.toList.toArray⟩ := by cases s; rfl
      refine .one (d := .str s.data.toList) (.str _ (by have : s.size = s.data.toList.length := by cases s; rfl
                                                        rw [← this]; have h2 : maxLen = 9223372036854775807 := by decide
                                                        omega)) ?_ rfl
      rw [e]; exact .str _
    · rename_i e ht
      split at h
      · rename_i row hrow
        split at h
        · rename_i hc
          obtain rfl := Option.some.inj h
          rcases DataW.trod_slice ht hx with ⟨rfl, rfl⟩ | ⟨a, len, cap, elems, rest, m, _, rfl, rfl, hb, hl, hm, hlen, hel, _, _⟩
          · refine .one (d := .sl row.length [] .any) (.sl row [] (by simp) (by simp) (by simp)) ?_ rfl
            exact .sl _ _ _ _ _ _ 0 0 (fun _ _ => Go.undef) rfl (fun _ => rfl) (Nat.le_refl _) (by simp) (by simp) (by simp) (by simp)
          · have key : ∀ i, ∃ cs' : List Value, ∃ ds : List DV, i < len → ds.length = row.length ∧ cs'.length = row.length ∧ (∀ j, j < row.length → w.cell? (a.add (i * row.length + j)) = cs'[j]?) ∧
                ∀ (j : Nat) c d v, row[j]? = some c → ds[j]? = some d → cs'[j]? = some v → Conf c d ∧ Rel (Gh.all w) d v ∧ v.oneCell' = true := by
              intro i
              by_cases hi : i < len
              · have h1 := hel i hi
                rw [List.getElem?_eq_getElem (by omega), Option.bind_eq_some_iff] at h1
                obtain ⟨cs', h2, h3⟩ := h1
                obtain ⟨h4, ds, h5, h6⟩ := trod_rel n e row hrow m cs' _ h3
                obtain ⟨_, h7, h8⟩ := World.cells?_some h2
                refine ⟨cs', ds, fun _ => ⟨h5, h4, fun j hj => ?_, h6⟩⟩
                have := h8 j (by omega)
                rw [← hc.1] at this
                rw [← this]
                rw [addr_add_add]
              · exact ⟨[], [], fun h => absurd h hi⟩
            have key2 := Classical.axiomOfChoice key
            obtain ⟨cf, key2⟩ := key2
            have key3 := Classical.axiomOfChoice key2
            obtain ⟨df, key3⟩ := key3
            have hmax : maxLen = 9223372036854775807 := by decide
            have hspot : 0 < len → a.spot = none := fun h0 => by
              obtain ⟨k1, k2, k3, _⟩ := key3 0 h0
              have := k3 0 hc.2
              rw [List.getElem?_eq_getElem (by omega)] at this
              simp only [Nat.zero_mul, Nat.add_zero] at this
              rw [Addr.add, if_pos rfl] at this
              unfold World.cell? at this
              split at this
              · split at this
                · cases this
                · rename_i hs
                  cases hsp : a.spot with
                  | none => rfl
                  | some s => rw [hsp] at hs; simp at hs
              · cases this
            have hrow? : ∀ (i : Nat) (r : List DV), ((List.range len).map df)[i]? = some r → i < len ∧ r = df i := fun i r hr => by
              simp only [List.getElem?_map, Option.map_eq_some_iff] at hr
              obtain ⟨i', hi', rfl⟩ := hr
              have := List.getElem?_range (n := len) (i := i)
              by_cases hi : i < len
              · rw [List.getElem?_range hi] at hi'; obtain rfl := Option.some.inj hi'; exact ⟨hi, rfl⟩
              · rw [List.getElem?_eq_none (by simp; omega)] at hi'; cases hi'
            refine .one (d := .sl row.length ((List.range len).map df) .any) (.sl row _ (by rw [List.length_map, List.length_range]; exact Nat.le_trans hl (hmax ▸ hm)) ?_ ?_) ?_ rfl
            · intro r hr
              obtain ⟨i, hi⟩ := List.getElem?_of_mem hr
              obtain ⟨hi2, rfl⟩ := hrow? i r hi
              exact (key3 i hi2).1
            · intro r hr j c d h1 h2
              obtain ⟨i, hi⟩ := List.getElem?_of_mem hr
              obtain ⟨hi2, rfl⟩ := hrow? i r hi
              obtain ⟨k1, k2, k3, k4⟩ := key3 i hi2
              have hj : j < row.length := (List.getElem?_eq_some_iff.1 h1).1
              exact (k4 j c d _ h1 h2 (List.getElem?_eq_getElem (by omega))).1
            · refine .sl _ _ _ _ _ _ a.block a.off (fun i j => (cf i).getD j Go.undef) (by simp) (fun h => by cases h) hl ?_ ?_ ?_ ?_
              · intro hne
                have h0 : 0 < len := by
                  rcases Nat.eq_zero_or_pos len with h0 | h0
                  · subst h0; simp at hne
                  · exact h0
                have := hspot h0
                cases a; simp at this; subst this; rfl
              · intro i r hi
                obtain ⟨hi2, rfl⟩ := hrow? i r hi
                exact (key3 i hi2).1
              · intro i j r c hi hj
                obtain ⟨hi2, rfl⟩ := hrow? i r hi
                obtain ⟨k1, k2, k3, k4⟩ := key3 i hi2
                have hj' : j < row.length := by have := (List.getElem?_eq_some_iff.1 hj).1; omega
                have h1 := k3 j hj'
                have h2 : (cf i)[j]? = some ((cf i).getD j Go.undef) := by rw [List.getD_eq_getElem?_getD, List.getElem?_eq_getElem (by omega)]; rfl
                have hs := hspot (by omega)
                rw [h2] at h1
                have h3 : a.add (i * row.length + j) = ⟨a.block, a.off + (i * row.length + j), none⟩ := addr_add_plain hs _
                rw [h3] at h1
                exact Gh.all_rd h1 (k4 j _ c _ (List.getElem?_eq_getElem hj') hj h2).2.2
              · intro i j r c hi hj
                obtain ⟨hi2, rfl⟩ := hrow? i r hi
                obtain ⟨k1, k2, k3, k4⟩ := key3 i hi2
                have hj' : j < row.length := by have := (List.getElem?_eq_some_iff.1 hj).1; omega
                have h2 : (cf i)[j]? = some ((cf i).getD j Go.undef) := by rw [List.getD_eq_getElem?_getD, List.getElem?_eq_getElem (by omega)]; rfl
                exact (k4 j _ c _ (List.getElem?_eq_getElem hj') hj h2).2.1
        · cases h
      · cases h
    · rename_i fs ht
      split at h
      · rename_i l' hl'
        split at h
        · rename_i hc
          obtain rfl := Option.some.inj h
          obtain ⟨xs, m, rfl, rfl, h1, h2, h3⟩ := DataW.trod_struct ht hx
          have := shFs_rel (enc := enc) (P := P) (w := w) (base := base) (held := held) (spare := spare) (m := m) (fun t l h cs x => trod_rel n t l h m cs x) fs.toList 0 l' cs hl' (by omega) fun f hf => by
            obtain ⟨i, hi⟩ := List.getElem?_of_mem hf
            have hi' : fs[i]? = some f := by simpa using hi
            have := h3 i f hi'
            have hlt : i < xs.length := by have := (Array.getElem?_eq_some_iff.1 hi').1; omega
            rw [List.getElem?_eq_getElem hlt] at this
            exact ⟨_, this⟩
          simpa using this
        · cases h
      · cases h
    · cases h
end
end Go.Proofs.Ytaopaongpoecoaa
end
section
/- A law's arguments as abstract values; the same reading behind the call; a law's contract. -/
set_option linter.unusedVariables false
set_option linter.unusedSimpArgs false
namespace Go.Proofs.Ytaopaongpoecoaa
open Go.RowKit Go.ChangeShapes Go.WideShapes
def isStruct (P : Program) (t : TypeId) : Bool := match P.underlying t with | some (.struct _) => true | _ => false
/-- An argument's shape: one value or a struct's cells. -/
def asOf (P : Program) (t : TypeId) : Option (Bool × List CS) := (shOf P 8 t).map fun l => (isStruct P t, l)
def ConfA : Bool × List CS → DV → Prop
  | (false, l), d => ∃ c, l = [c] ∧ Conf c d
  | (true, l), d => ∃ ds, d = .agg ds ∧ ds.length = l.length ∧ ∀ (i : Nat) c x, l[i]? = some c → ds[i]? = some x → Conf c x
def asAll (P : Program) : List TypeId → Option (List (Bool × List CS))
  | [] => some []
  | t :: ts => match asOf P t, asAll P ts with
    | some a, some l => some (a :: l)
    | _, _ => none
def ConfL : List (Bool × List CS) → List DV → Prop
  | [], [] => True
  | a :: l, d :: ds => ConfA a d ∧ ConfL l ds
  | _, _ => False
theorem ConfL.nil {ds : List DV} (h : ConfL [] ds) : ds = [] := by
  cases ds with
  | nil => rfl
  | cons => exact h.elim
theorem ConfL.cons {a : Bool × List CS} {l : List (Bool × List CS)} {ds : List DV} (h : ConfL (a :: l) ds) : ∃ d r, ds = d :: r ∧ ConfA a d ∧ ConfL l r := by
  cases ds with
  | nil => exact h.elim
  | cons d r => exact ⟨d, r, rfl, h.1, h.2⟩
section
variable {H : Type} {enc : TypeId × Value → H} {P : Program} {w : World}
theorem okWide_cells {r : Reach} {b0 : Nat} {t : TypeId} {v : Value} {l : List CS} (h : Value.okWide P w r b0 t v) (hs : shOf P 8 t = some l) (hn : isStruct P t = false) : v.cells.toList = [v] := by
  unfold isStruct at hn
  have key : ∀ cs, v ≠ .agg cs := by
    intro cs e
    subst e
    rw [shOf] at hs
    unfold Value.okWide Cell.okWide Cell.ok at h
    split at hs <;> rename_i ht <;> first | (rw [ht] at h; exact h.elim) | (rw [ht] at hn; cases hn) | cases hs
  cases v <;> first | rfl | exact absurd rfl (key _)
theorem okWide_agg {r : Reach} {b0 : Nat} {t : TypeId} {v : Value} (h : Value.okWide P w r b0 t v) (hn : isStruct P t = true) : ∃ cs, v = .agg cs := by
  unfold isStruct at hn
  split at hn
  · rename_i ht
    unfold Value.okWide at h
    rw [ht] at h
    obtain ⟨cs, h, _⟩ := h
    exact ⟨cs, h⟩
  · cases hn
theorem arg_rel {r : Reach} {b0 base : Nat} {spare : Nat → Bool} {held : Bool} {t : TypeId} {v : Value} {d : DataW H} {ps : List MemPlace} {a : Bool × List CS} (ha : asOf P t = some a) (hv : Value.okWide P w r b0 t v)
    (hd : DataW.Trod enc P w base spare held t v d ps) : ∃ x, ConfA a x ∧ Rel (Gh.all w) x v := by
  unfold asOf at ha
  cases hl : shOf P 8 t with
  | none => rw [hl] at ha; cases ha
  | some l =>
    rw [hl] at ha
    obtain rfl := Option.some.inj ha
    obtain ⟨fuel, hf⟩ := hd
    obtain ⟨h1, ds, h2, h3⟩ := trod_rel 8 t l hl fuel _ _ hf
    cases hn : isStruct P t with
    | false =>
      rw [okWide_cells hv hl hn] at h1 h3
      match l, h1 with
      | [c], _ =>
        match ds, h2 with
        | [x], _ =>
          obtain ⟨k1, k2, _⟩ := h3 0 c x v rfl rfl rfl
          exact ⟨x, ⟨c, rfl, k1⟩, k2⟩
    | true =>
      obtain ⟨cs, rfl⟩ := okWide_agg hv hn
      simp only [Value.cells] at h1 h3
      refine ⟨.agg ds, ⟨ds, rfl, h2, fun i c x hc hx => ?_⟩, .agg ds cs (by simpa using h1.trans h2.symm) fun i c hc => ?_⟩
      · have hi : i < cs.toList.length := by have := (List.getElem?_eq_some_iff.1 hc).1; omega
        exact (h3 i c x _ hc hx (List.getElem?_eq_getElem hi)).1
      · have hi : i < ds.length := (List.getElem?_eq_some_iff.1 hc).1
        have hi2 : i < cs.toList.length := by omega
        have hi3 : i < cs.size := by simpa using hi2
        have := (h3 i _ c _ (List.getElem?_eq_getElem (by omega)) hc (List.getElem?_eq_getElem hi2)).2.1
        simpa [Array.getD, hi3] using this
theorem args_rel {base b0 : Nat} {spare : Nat → Bool} {held : Bool} {r : Reach} : ∀ {ts : List TypeId} {vs : List Value} {ds : List (DataW H)} {ps : List MemPlace} {l : List (Bool × List CS)}, asAll P ts = some l →
    (∀ (j : Nat) t v, ts[j]? = some t → vs[j]? = some v → Value.okWide P w r b0 t v) → DataW.TrodAll enc P w base spare held ts vs ds ps →
    ∃ dv : List DV, ConfL l dv ∧ dv.length = vs.length ∧ ∀ (i : Nat) d, dv[i]? = some d → Rel (Gh.all w) d (vs.getD i Go.undef)
  | [], [], [], ps, l, hl, hv, h => by
    obtain rfl := Option.some.inj hl
    exact ⟨[], trivial, rfl, by simp⟩
  | t :: ts, v :: vs, d :: ds, ps, l, hl, hv, ⟨p, q, h1, h2, h3⟩ => by
    simp only [asAll] at hl
    split at hl
    · rename_i a l' ha hl'
      obtain rfl := Option.some.inj hl
      obtain ⟨x, hx, hr⟩ := arg_rel ha (hv 0 t v rfl rfl) h1
      obtain ⟨dv, k1, k2, k3⟩ := args_rel hl' (fun j t v ht hv' => hv (j + 1) t v (by simpa using ht) (by simpa using hv')) h2
      refine ⟨x :: dv, ⟨hx, k1⟩, by simp [k2], fun i d hd => ?_⟩
      rcases i with _ | i
      · simp at hd; subst hd; simpa using hr
      · have := k3 i d (by simpa using hd)
        simpa using this
    · cases hl
/-! ### Behind the call -/
theorem cells?_again {w' : World} {a : Addr} {n : Nat} {cs : List Value} (hb : ∀ b : Nat, b < w.heap.size → w'.heap[b]? = w.heap[b]?) (h : w.cells? 0 a n = some cs) : w'.cells? 0 a n = some cs := by
  rw [← h]
  have hl := (World.cells?_some h).2
  unfold World.cells?
  simp only [Nat.zero_le, if_true]
  have : ∀ i, i < n → w'.cell? (a.add i) = w.cell? (a.add i) := fun i hi => by
    have h1 := hl.2 i hi
    rw [List.getElem?_eq_getElem (by omega)] at h1
    have h2 : (a.add i).block < w.heap.size := by
      unfold World.cell? at h1
      split at h1
      · rename_i h2
        exact (Array.getElem?_eq_some_iff.1 h2).1
      · cases h1
    unfold World.cell?
    rw [hb _ h2]
  have key : ∀ l : List Nat, (∀ i ∈ l, i < n) → l.mapM (fun i => w'.cell? (a.add i)) = l.mapM (fun i => w.cell? (a.add i)) := by
    intro l
    induction l with
    | nil => intro _; rfl
    | cons x l ih => intro hx; rw [List.mapM_cons, List.mapM_cons, this x (hx x (by simp)), ih fun i hi => hx i (by simp [hi])]
  exact key _ fun i hi => by simpa using hi
theorem mapM_eq_of {α β : Type} {f g : α → Option β} : ∀ {l : List α} {r : List β}, l.mapM f = some r → (∀ (i : Nat) x y, l[i]? = some x → r[i]? = some y → f x = some y → g x = some y) → l.mapM g = some r
  | [], r, h, _ => h
  | x :: l, r, h, hg => by
    rw [List.mapM_cons] at h ⊢
    cases hx : f x with
    | none => rw [hx] at h; cases h
    | some y =>
      cases hl : l.mapM f with
      | none => rw [hx, hl] at h; cases h
      | some ys =>
        rw [hx, hl] at h
        obtain rfl := Option.some.inj h
        rw [hg 0 x y rfl rfl hx, mapM_eq_of hl fun i x y h1 h2 => hg (i + 1) x y (by simpa using h1) (by simpa using h2)]
        rfl
theorem trod_again {w' : World} {sp : Nat → Bool} (hb : ∀ b : Nat, b < w.heap.size → w'.heap[b]? = w.heap[b]?) : ∀ (n : Nat) (t : TypeId) (l : List CS), shOf P n t = some l → ∀ (fuel : Nat) (cs : List Value) (x : DataW H × List MemPlace),
    DataW.trod enc P w 0 (fun _ => true) true fuel t cs = some x → (∀ p ∈ x.2, sp p.block = true) → DataW.trod enc P w' 0 sp true fuel t cs = some x
  | 0, t, l, h, _, _, _, _ => by cases h
  | n + 1, t, l, h, fuel, cs, x, hx => by
    intro hsp
    cases fuel with
    | zero => simp [DataW.trod] at hx
    | succ m =>
      simp only [shOf] at h
      split at h
      · rename_i ht
        obtain ⟨b, rfl, rfl⟩ := DataW.trod_bool ht hx
        simp [DataW.trod, ht]
      · rename_i k ht
        obtain ⟨b, rfl, rfl, hw⟩ := DataW.trod_int ht hx
        simp [DataW.trod, ht, hw]
      · rename_i ht
        obtain ⟨b, rfl, rfl, hw⟩ := DataW.trod_string ht hx
        simp [DataW.trod, ht, hw]
      · rename_i e ht
        split at h
        · rename_i row hrow
          split at h
          · rename_i hc
            unfold DataW.trod at hx ⊢
            rw [ht] at hx ⊢
            split at hx
            all_goals (rename_i hA; first | cases hA | skip)
            all_goals first
              | exact hx
              | cases hx
              | skip
            rename_i a len cap
            simp only [if_true] at hx
            split at hx
            · rename_i hcond
              rw [if_pos hcond]
              cases he : (List.range len).mapM fun i => (w.cells? 0 (a.add (i * P.cellsOf e)) (P.cellsOf e)).bind (DataW.trod enc P w 0 (fun _ => true) true m e) with
              | none => rw [he] at hx; cases hx
              | some elems =>
                rw [he] at hx
                simp only [Option.bind_some] at hx
                cases hr : (List.range (cap - len)).mapM fun j => (w.cells? 0 (a.add ((len + j) * P.cellsOf e)) (P.cellsOf e)).bind (DataW.trod enc P w 0 (fun _ => true) true m e) with
                | none => rw [hr] at hx; cases hx
                | some rest =>
                  rw [hr] at hx
                  obtain rfl := Option.some.inj hx
                  have hel : elems.length = len := by simpa using mapM_some_length he
                  have hrl : rest.length = cap - len := by simpa using mapM_some_length hr
                  have step : ∀ (k : Nat) (y : DataW H × List MemPlace), (∀ p ∈ y.2, sp p.block = true) → (w.cells? 0 (a.add (k * P.cellsOf e)) (P.cellsOf e)).bind (DataW.trod enc P w 0 (fun _ => true) true m e) = some y →
                      (w'.cells? 0 (a.add (k * P.cellsOf e)) (P.cellsOf e)).bind (DataW.trod enc P w' 0 sp true m e) = some y := by
                    intro k y hy h1
                    rw [Option.bind_eq_some_iff] at h1
                    obtain ⟨cs', h2, h3⟩ := h1
                    rw [cells?_again hb h2, Option.bind_some]
                    exact trod_again hb n e row hrow m cs' y h3 hy
                  have hmem : ∀ y ∈ elems ++ rest, ∀ p ∈ y.2, sp p.block = true := fun y hy p hp => hsp p (by
                    simp only [List.mem_append]
                    exact Or.inr (List.mem_flatMap.2 ⟨y, hy, hp⟩))
                  rw [mapM_eq_of he fun i k y h1 h2 h3 => step k y (hmem y (List.mem_append_left _ (List.mem_of_getElem? h2))) h3, Option.bind_some]
                  have hr2 := mapM_eq_of hr fun i k y h1 h2 h3 => step (len + k) y (hmem y (List.mem_append_right _ (List.mem_of_getElem? h2))) h3
                  by_cases hz : cap - len = 0
                  · have hrn : rest = [] := List.eq_nil_of_length_eq_zero (by omega)
                    subst hrn
                    rw [hz]
                    split <;> rfl
                  · have hsa : sp a.block = true := by
                      have : MemPlace.cell a.block (a.off + 0) ∈ MemPlace.row a ((elems.length + rest.length) * P.cellsOf e) := by
                        unfold MemPlace.row
                        refine List.mem_map.2 ⟨0, ?_, rfl⟩
                        rw [List.mem_range]
                        exact Nat.mul_pos (by omega) (by omega)
                      exact hsp (.cell a.block (a.off + 0)) (by simp only [List.mem_append]; exact Or.inl this)
                    rw [if_pos hsa, hr2]
                    rfl
            · cases hx
          · cases h
        · cases h
      · rename_i fs ht
        split at h
        · rename_i l' hl'
          split at h
          · rename_i hc
            unfold DataW.trod at hx ⊢
            rw [ht] at hx ⊢
            split at hx
            all_goals (rename_i hA; first | cases hA | skip)
            all_goals first
              | cases hx
              | (exfalso; simp_all; done)
              | skip
            rename_i cs _ _
            split at hx
            · rename_i hcl
              rw [if_pos hcl]
              cases he : fs.toList.mapM fun f => DataW.trod enc P w 0 (fun _ => true) true m f.type ((cs.drop f.offset).take (P.cellsOf f.type)) with
              | none => rw [he] at hx; cases hx
              | some xs =>
                rw [he] at hx
                obtain rfl := Option.some.inj hx
                have hfs : ∀ (L : List Field) (off : Nat) (r : List CS), shFs P (shOf P n) L off = some r → ∀ f ∈ L, ∃ lf, shOf P n f.type = some lf := by
                  intro L
                  induction L with
                  | nil => intro _ _ _ f hf; cases hf
                  | cons g L ih =>
                    intro off r h f hf
                    simp only [shFs] at h
                    split at h
                    · rename_i lf hlf
                      split at h
                      · cases hr : shFs P (shOf P n) L (off + lf.length) with
                        | none => rw [hr] at h; cases h
                        | some lr =>
                          rcases List.mem_cons.1 hf with rfl | hf
                          · exact ⟨_, hlf⟩
                          · exact ih _ _ hr f hf
                      · cases h
                    · cases h
                rw [mapM_eq_of he fun i f y h1 h2 h3 => by
                  obtain ⟨lf, hlf⟩ := hfs _ _ _ hl' f (List.mem_of_getElem? h1)
                  exact trod_again hb n f.type lf hlf m _ y h3 fun p hp => hsp p (List.mem_flatMap.2 ⟨y, List.mem_of_getElem? h2, hp⟩)]
                rfl
            · cases hx
          · cases h
        · cases h
      · cases h
theorem trodAll_again {w' : World} {sp : Nat → Bool} (hb : ∀ b : Nat, b < w.heap.size → w'.heap[b]? = w.heap[b]?) : ∀ {ts : List TypeId} {vs : List Value} {ds : List (DataW H)} {ps : List MemPlace} {l : List (Bool × List CS)}, asAll P ts = some l →
    DataW.TrodAll enc P w 0 (fun _ => true) true ts vs ds ps → (∀ p ∈ ps, sp p.block = true) → DataW.TrodAll enc P w' 0 sp true ts vs ds ps
  | [], [], [], ps, l, hl, h, _ => h
  | t :: ts, v :: vs, d :: ds, ps, l, hl, ⟨p, q, ⟨f, h1⟩, h2, h3⟩, hs => by
    subst h3
    simp only [asAll] at hl
    split at hl
    · rename_i a l' ha hl'
      unfold asOf at ha
      cases hl8 : shOf P 8 t with
      | none => rw [hl8] at ha; cases ha
      | some lt =>
        exact ⟨p, q, ⟨f, trod_again hb 8 t lt hl8 f _ _ h1 fun x hx => hs x (List.mem_append_left _ hx)⟩, trodAll_again hb hl' h2 fun x hx => hs x (List.mem_append_right _ hx), rfl⟩
    · cases hl
end
end Go.Proofs.Ytaopaongpoecoaa
end
section
/- What listed package-level variables hold; a law's contract. -/
set_option linter.unusedVariables false
set_option linter.unusedSimpArgs false
namespace Go.Proofs.Ytaopaongpoecoaa
open Go.RowKit Go.ChangeShapes Go.WideShapes
/-! ### Tables of numbers -/
def flat {H : Type} : Nat → DataW H → List Value
  | n + 1, .lit (.int k z) => [.int k z]
  | n + 1, .lit (.bool b) => [.bool b]
  | n + 1, .agg l => l.flatMap (flat n)
  | _, _ => []
def flatFs (P : Program) (ok : TypeId → Bool) : List Field → Nat → Option Nat
  | [], off => some off
  | f :: fs, off => if ok f.type = true ∧ f.offset = off then flatFs P ok fs (off + P.cellsOf f.type) else none
def flatT (P : Program) : Nat → TypeId → Bool
  | 0, _ => false
  | n + 1, t => match P.underlying t with
    | some (.int _) => true
    | some .bool => true
    | some (.array k e) => flatT P n e && decide (P.cellsOf t = k * P.cellsOf e)
    | some (.struct fs) => flatFs P (flatT P n) fs.toList 0 == some (P.cellsOf t)
    | _ => false
section
variable {H : Type} {enc : TypeId × Value → H} {P : Program} {w : World} {base : Nat} {spare : Nat → Bool} {held : Bool}
theorem pieces {α : Type} (sz : Nat) : ∀ (k : Nat) (cs : List α), cs.length = k * sz → cs = (List.range k).flatMap fun i => (cs.drop (i * sz)).take sz
  | 0, cs, h => by
    have : cs = [] := List.eq_nil_of_length_eq_zero (by simpa using h)
    subst this; rfl
  | k + 1, cs, h => by
    rw [List.range_succ_eq_map, List.flatMap_cons, List.flatMap_map]
    have h1 := pieces sz k (cs.drop sz) (by rw [List.length_drop, h, Nat.succ_mul]; omega)
    simp only [List.drop_drop] at h1
    have h2 : ∀ i, sz + i * sz = (i + 1) * sz := fun i => by rw [Nat.succ_mul]; omega
    simp only [h2] at h1
    simp only [Nat.zero_mul, List.drop_zero]
    conv => lhs; rw [← List.take_append_drop sz cs, h1]
theorem flatMap_congr_idx {α β γ : Type} {f : α → List γ} {g : β → List γ} : ∀ {l : List α} {m : List β}, l.length = m.length → (∀ (i : Nat) a b, l[i]? = some a → m[i]? = some b → f a = g b) → l.flatMap f = m.flatMap g
  | [], [], _, _ => rfl
  | a :: l, b :: m, h, hg => by
    rw [List.flatMap_cons, List.flatMap_cons, hg 0 a b rfl rfl, flatMap_congr_idx (by simpa using h) fun i a b h1 h2 => hg (i + 1) a b (by simpa using h1) (by simpa using h2)]
theorem flatFs_eq {ok : TypeId → Bool} {m : Nat} {cs : List Value} : ∀ (fs : List Field) (off e : Nat), flatFs P ok fs off = some e → e = cs.length → off ≤ cs.length ∧ cs.drop off = fs.flatMap fun f => (cs.drop f.offset).take (P.cellsOf f.type)
  | [], off, e, h, he => by
    obtain rfl := Option.some.inj h
    refine ⟨by omega, ?_⟩
    rw [he]; simp
  | f :: fs, off, e, h, he => by
    simp only [flatFs] at h
    split at h
    · rename_i hc
      obtain ⟨h1, h2⟩ := flatFs_eq (m := m) (cs := cs) fs _ _ h he
      refine ⟨by omega, ?_⟩
      rw [List.flatMap_cons, ← h2, hc.2, ← List.drop_drop, List.take_append_drop]
    · cases h
theorem trod_flat : ∀ (n : Nat) (t : TypeId), flatT P n t = true → ∀ (fuel : Nat) (cs : List Value) (x : DataW H × List MemPlace), DataW.trod enc P w base spare held fuel t cs = some x → cs = flat n x.1
  | 0, t, h, _, _, _, _ => by cases h
  | n + 1, t, h, fuel, cs, x, hx => by
    simp only [flatT] at h
    split at h
    · rename_i k ht
      obtain ⟨z, rfl, rfl, _⟩ := DataW.trod_int ht hx
      rfl
    · rename_i ht
      obtain ⟨z, rfl, rfl⟩ := DataW.trod_bool ht hx
      rfl
    · rename_i k e ht
      simp only [Bool.and_eq_true, decide_eq_true_eq] at h
      obtain ⟨xs, m, rfl, rfl, h1, h2, h3⟩ := DataW.trod_array ht hx
      simp only [flat, List.flatMap_map]
      conv => lhs; rw [pieces (P.cellsOf e) k cs (by rw [h1, h.2])]
      refine flatMap_congr_idx (by simp [h2]) fun i a b ha hb => ?_
      have hi : i < k := by have := (List.getElem?_eq_some_iff.1 ha).1; simpa using this
      rw [List.getElem?_range hi] at ha
      obtain rfl := Option.some.inj ha
      exact trod_flat n e h.1 m _ _ ((h3 i hi).trans hb)
    · rename_i fs ht
      obtain ⟨xs, m, rfl, rfl, h1, h2, h3⟩ := DataW.trod_struct ht hx
      simp only [flat, List.flatMap_map]
      have h4 := (flatFs_eq (m := 0) (cs := cs) fs.toList 0 (P.cellsOf t) (by simpa using h) h1.symm).2
      rw [List.drop_zero] at h4
      conv => lhs; rw [h4]
      have hok : ∀ (L : List Field) (off e : Nat), flatFs P (flatT P n) L off = some e → ∀ f ∈ L, flatT P n f.type = true := by
        intro L
        induction L with
        | nil => intro _ _ _ f hf; cases hf
        | cons g L ih =>
          intro off e h f hf
          simp only [flatFs] at h
          split at h
          · rename_i hc
            rcases List.mem_cons.1 hf with rfl | hf
            · exact hc.1
            · exact ih _ _ h f hf
          · cases h
      refine flatMap_congr_idx (by simp [h2]) fun i a b ha hb => ?_
      have ha' : fs[i]? = some a := by simpa using ha
      exact trod_flat n a.type (hok _ _ _ (by simpa using h) a (List.mem_of_getElem? ha)) m _ _ ((h3 i a ha').trans hb)
    · cases h
theorem laid_cells {laid : List (String × DataW Unit)} (h : laidMetH P laid w) (hn : laid.all (fun x => x.2.handleName?.isNone) = true) {name : String} {d : DataW Unit} (hm : (name, d) ∈ laid) {g : Nat} {t : TypeId} {n : Nat}
    (hg : P.globalNamed name = some g) (hty : (P.globals[g]?).map (·.type) = some t) (hf : flatT P n t = true) : ∀ i, w.cell? ⟨g, i, none⟩ = (flat n d)[i]? := by
  have h0 : laidMet P laid w := by
    unfold laidMetH at h
    have : laid.filter (fun x => x.2.handleName?.isSome) = [] := by
      rw [List.filter_eq_nil_iff]
      intro x hx
      have := List.all_eq_true.1 hn x hx
      simp at this
      simp [this]
    rw [this] at h
    exact h
  obtain ⟨ps, h1, h2⟩ := h0
  clear h hn h2
  induction laid generalizing ps with
  | nil => cases hm
  | cons x r ih =>
    obtain ⟨n0, d0⟩ := x
    obtain ⟨g', t', cs, fuel, p, q, hg', hty', hvar, hd, hr, _⟩ := h1
    rcases List.mem_cons.1 hm with e | hm
    · obtain ⟨rfl, rfl⟩ := Prod.mk.injEq .. ▸ e
      obtain rfl := Option.some.inj (hg.symm.trans hg')
      obtain rfl := Option.some.inj (hty.symm.trans hty')
      intro i
      rw [World.var?_cell hg hvar i, ← trod_flat n t hf fuel _ _ hd]
      simp
    · exact ih hm q hr
/-- A table's cells as a row that is read. -/
theorem rp_of_cells {g : Nat} {row : List DV} {vs : List Value} (h : ∀ i, w.cell? ⟨g, i, none⟩ = vs[i]?) (hl : row.length = vs.length) (hr : ∀ (i : Nat) d v, row[i]? = some d → vs[i]? = some v → Rel (Gh.all w) d v ∧ v.oneCell' = true) :
    Rel (Gh.all w) (.rp row 0) (.pointer (some ⟨g, 0, none⟩)) := by
  have := Rel.rp (G := Gh.all w) row 0 g 0 (fun m => vs.getD m Go.undef) (fun m c hm => ?_) (fun m c hm => ?_)
  · exact this
  · have hi : m < vs.length := by have := (List.getElem?_eq_some_iff.1 hm).1; omega
    have h1 : vs[m]? = some (vs.getD m Go.undef) := by rw [List.getD_eq_getElem?_getD, List.getElem?_eq_getElem hi]; rfl
    rw [Nat.zero_add]
    exact Gh.all_rd ((h m).trans h1) (hr m c _ hm h1).2
  · have hi : m < vs.length := by have := (List.getElem?_eq_some_iff.1 hm).1; omega
    have h1 : vs[m]? = some (vs.getD m Go.undef) := by rw [List.getD_eq_getElem?_getD, List.getElem?_eq_getElem hi]; rfl
    exact (hr m c _ hm h1).1
/-! ### A law's contract -/
theorem trodAll_len : ∀ {ts : List TypeId} {vs : List Value} {ds : List (DataW H)} {ps : List MemPlace}, DataW.TrodAll enc P w base spare held ts vs ds ps → ds.length = ts.length
  | [], [], [], _, _ => rfl
  | _ :: _, _ :: _, _ :: _, _, ⟨_, _, _, h, _⟩ => by simp [trodAll_len h]
theorem law_contract {E : Prg} {f : FuncId} {fn : Func} {s : ChangeSpec} {tb : TypeId} {k : Nat} {l : List (Bool × List CS)} {apart fresh handsOn : Bool} (hres : fn.resultTypes = #[tb]) (hb : E.P.underlying tb = some .bool)
    (hs : ∀ ds : List (DataW H), ds.length = k → s.fn H ds = { results := [.lit (.bool true)], args := ds }) (hsv : s.vars = []) (hk : fn.params.size = k) (hsh : asAll E.P fn.params.toList = some l)
    (hG : GlobOk E (Gh.all w)) (hlaw : ∀ dv, ConfL l dv → PCalls E f dv fun _ r _ => r = .bool true) {b0 : Nat} {args : Array Value} {ds gs : List (DataW H)} {before : List MemPlace}
    (hval : ∀ (j : Nat) t v, fn.params[j]? = some t → args[j]? = some v → Value.okWide E.P w .any b0 t v) (hW : DataW.Whole enc E.P fn.params.toList s.vars apart w args.toList ds gs before) :
    Calls E.P f args w fun e W' => ∃ v, e = .returned v ∧ s.post enc E.P fn apart fresh handsOn false w args v W' := by
  have hW' := hW
  obtain ⟨p, q, hA, hV, rfl, hfz, hnd⟩ := hW
  obtain ⟨dv, hc, hl, hrel⟩ := args_rel hsh (fun j t v ht hv => hval j t v (by simpa using ht) (by simpa using hv)) hA
  rw [hsv] at hV
  obtain ⟨rfl, rfl⟩ : gs = [] ∧ q = [] := by
    cases gs with
    | nil => exact ⟨rfl, hV⟩
    | cons => exact hV.elim
  have hdl : ds.length = k := by rw [trodAll_len hA]; simpa using hk
  have h := hlaw dv hc 0 (Gh.all w) w args hG (Gh.all_heap w) (by simpa using hl.symm) (fun i d hd => by
    have := hrel i d hd
    simpa [Array.getD_eq_getD_getElem?, List.getD_eq_getElem?_getD] using this)
  refine h.mono fun e W' ⟨v, r, T', G', he, ⟨os, _, hr⟩, _, hrv, hheap, hfrm⟩ => ?_
  subst he hr
  have hno : ∀ a, ¬ cellsOf (Gh.all w) (List.replicate 0 none) a := fun a ⟨k, ob, p, m, h1, _⟩ => by simp at h1
  have hblk : ∀ b : Nat, b < w.heap.size → W'.heap[b]? = w.heap[b]? := fun b hb => hfrm.blk b hb fun o => hno _
  have hv : v = .bool true := by cases hrv; rfl
  subst hv
  refine ⟨_, rfl, ?_⟩
  rw [List.append_nil] at hfz hnd hW'
  have hsfn := hs ds hdl
  have hlt : ∀ x ∈ p, x.block < w.heap.size := hW'.lt
  have hres' : ∀ (b : Nat) (sp : Nat → Bool) (hd : Bool), DataW.TrodAll enc E.P W' b sp hd fn.resultTypes.toList ((Value.bool true).resultList fn.resultTypes.size) [.lit (.bool true)] [] := fun b sp hd => by
    rw [hres]
    exact trodAll_cons_mk (shut_bool hb _) trodAll_mk0
  refine ⟨ds, [], p, [], p, [], hW', ?_, ?_, ?_, ⟨hfrm.os, hfrm.output, fun i hi => ?_⟩, fun h => by cases h⟩
  · rw [List.append_nil, hsfn]; exact hres' _ _ _
  · rw [List.append_nil, hsfn]; exact trodAll_again hblk hsh hA fun x hx => by simpa using hlt x hx
  · rw [List.append_nil, hsfn, hsv]; rfl
  · rw [hblk i hi]
    split
    · rename_i h1 h2; rw [h1] at h2; obtain ⟨rfl, rfl, rfl⟩ := Obj.cells.injEq .. ▸ Option.some.inj h2; exact ⟨rfl, rfl, rfl, fun _ _ => rfl⟩
    · rename_i h1 h2; rw [h1] at h2; obtain ⟨rfl, rfl⟩ := Obj.map.injEq .. ▸ Option.some.inj h2; exact Or.inr ⟨rfl, rfl⟩
    · rfl
end
end Go.Proofs.Ytaopaongpoecoaa
end
section
/- Loops whose objects are named anew at each round's head; a nil slice as an object of one's own. -/
set_option linter.unusedVariables false
set_option linter.unusedSimpArgs false
namespace Go.Proofs.Ytaopaongpoecoaa
open Go.RowKit
def addId (a : Nat) : List Nat → List Nat
  | [] => [a]
  | b :: l => if a = b then b :: l else b :: addId a l
def addIds : List Nat → List Nat → List Nat
  | [], acc => acc
  | a :: l, acc => addIds l (addId a acc)
def idsE : List (Nat × DV) → List Nat → List Nat
  | [], acc => acc
  | (_, d) :: l, acc => idsE l (addIds (idsT d) acc)
def canE (m : Nat) (ids : List Nat) : List (Nat × DV) → List (Nat × DV)
  | [] => []
  | (t, d) :: l => (t, canT m ids d) :: canE m ids l
/-- The objects that boxes name. -/
def boxIds : Option (Option Ob) → List Nat → List Nat
  | some (some (.box cs)), acc => addIds (cs.flatMap ids0) acc
  | _, acc => acc
def closeB (T : Objs) : List Nat → List Nat → List Nat
  | [], acc => acc
  | i :: l, acc => closeB T l (boxIds T[i]? acc)
def canOb (m : Nat) (ids : List Nat) : Ob → Ob
  | .box cs => .box (cs.map (can0 m ids))
  | ob => ob
def inL (a : Nat) : List Nat → Prop
  | [] => False
  | b :: l => a = b ∨ inL a l
theorem inL_mem {a : Nat} : ∀ {l : List Nat}, inL a l → a ∈ l
  | b :: l, h => by
    rcases h with rfl | h
    · simp
    · exact List.mem_cons_of_mem _ (inL_mem h)
def allIn (all : List Nat) : List Nat → Prop
  | [] => True
  | a :: l => inL a all ∧ allIn all l
theorem allIn_mem {all : List Nat} : ∀ {l : List Nat}, allIn all l → ∀ a ∈ l, a ∈ all
  | b :: l, h, a, ha => by
    rcases List.mem_cons.1 ha with rfl | ha
    · exact inL_mem h.1
    · exact allIn_mem h.2 a ha
def obIds : Ob → List Nat
  | .box cs => cs.flatMap ids0
  | _ => []
def canGo (T : Objs) (all : List Nat) : List Nat → (Objs → Prop) → Prop
  | [], k => k []
  | i :: l, k => bindO T[i]? fun x => bindO x fun ob => allIn all (obIds ob) ∧ canGo T all l fun os => k (some (canOb T.length all ob) :: os)
def canI (T : Objs) (ids : List Nat) (e : List (Nat × DV)) (K : Nat → St → Prop) : Prop := canGo T ids ids fun os => K T.length ⟨canE T.length ids e, List.replicate T.length none ++ os⟩
/-- A state with its objects named anew: in the order of its temporaries, then those that their boxes name. -/
def canS (st : St) (K : Nat → St → Prop) : Prop := canI st.objs (closeB st.objs (idsE st.env []) (idsE st.env [])) st.env K
theorem mem_addId {a x : Nat} : ∀ {l : List Nat}, x ∈ addId a l ↔ x = a ∨ x ∈ l
  | [] => by simp [addId]
  | b :: l => by
    simp only [addId]
    split
    · rename_i h; subst h; simp
    · rw [List.mem_cons, mem_addId (l := l), List.mem_cons]; grind
theorem nodup_addId {a : Nat} : ∀ {l : List Nat}, l.Nodup → (addId a l).Nodup
  | [], _ => by simp [addId]
  | b :: l, h => by
    simp only [addId]
    split
    · exact h
    · rename_i hab
      have h2 := List.nodup_cons.1 h
      refine List.nodup_cons.2 ⟨fun hm => ?_, nodup_addId h2.2⟩
      rcases mem_addId.1 hm with e | e
      · exact hab e.symm
      · exact h2.1 e
theorem mem_addIds {x : Nat} : ∀ {l acc : List Nat}, x ∈ addIds l acc ↔ x ∈ l ∨ x ∈ acc
  | [], acc => by simp [addIds]
  | a :: l, acc => by
    simp only [addIds]
    rw [mem_addIds (l := l), mem_addId, List.mem_cons]; grind
theorem nodup_addIds : ∀ {l acc : List Nat}, acc.Nodup → (addIds l acc).Nodup
  | [], acc, h => h
  | a :: l, acc, h => nodup_addIds (l := l) (nodup_addId h)
theorem mem_idsE {x : Nat} : ∀ {e : List (Nat × DV)} {acc : List Nat}, x ∈ idsE e acc ↔ (∃ y ∈ e, x ∈ idsT y.2) ∨ x ∈ acc
  | [], acc => by simp [idsE]
  | (t, d) :: e, acc => by
    simp only [idsE]
    rw [mem_idsE (e := e), mem_addIds]
    simp only [List.mem_cons]
    grind
theorem nodup_idsE : ∀ {e : List (Nat × DV)} {acc : List Nat}, acc.Nodup → (idsE e acc).Nodup
  | [], acc, h => h
  | (t, d) :: e, acc, h => nodup_idsE (e := e) (nodup_addIds h)
theorem mem_boxIds {x : Nat} {o : Option (Option Ob)} {acc : List Nat} (h : x ∈ acc) : x ∈ boxIds o acc := by
  unfold boxIds
  split
  · exact mem_addIds.2 (.inr h)
  · exact h
theorem nodup_boxIds {o : Option (Option Ob)} {acc : List Nat} (h : acc.Nodup) : (boxIds o acc).Nodup := by
  unfold boxIds
  split
  · exact nodup_addIds h
  · exact h
theorem mem_closeB {T : Objs} {x : Nat} : ∀ {l acc : List Nat}, x ∈ acc → x ∈ closeB T l acc
  | [], acc, h => h
  | i :: l, acc, h => mem_closeB (l := l) (mem_boxIds h)
theorem nodup_closeB {T : Objs} : ∀ {l acc : List Nat}, acc.Nodup → (closeB T l acc).Nodup
  | [], acc, h => h
  | i :: l, acc, h => nodup_closeB (l := l) (nodup_boxIds h)
theorem nodup_idx {a : Nat} : ∀ {l : List Nat} {i j : Nat}, l.Nodup → l[i]? = some a → l[j]? = some a → i = j
  | [], i, j, _, h, _ => by simp at h
  | b :: l, i, j, hn, h1, h2 => by
    have hn2 := List.nodup_cons.1 hn
    rcases i with _ | i <;> rcases j with _ | j
    · rfl
    · simp at h1 h2; subst h1; exact absurd (List.mem_of_getElem? h2) hn2.1
    · simp at h1 h2; subst h2; exact absurd (List.mem_of_getElem? h1) hn2.1
    · have := nodup_idx hn2.2 (i := i) (j := j) (by simpa using h1) (by simpa using h2)
      omega
theorem canGo_spec {T : Objs} {all : List Nat} : ∀ {ids : List Nat} {K : Objs → Prop}, canGo T all ids K → ∃ os, K os ∧ os.length = ids.length ∧ ∀ (k : Nat) (ob' : Ob), os[k]? = some (some ob') → ∃ o ob, ids[k]? = some o ∧ T[o]? = some (some ob) ∧ ob' = canOb T.length all ob ∧ allIn all (obIds ob)
  | [], K, h => ⟨[], h, rfl, by simp⟩
  | i :: l, K, h => by
    simp only [canGo] at h
    cases h1 : T[i]? with
    | none => rw [h1] at h; exact h.elim
    | some x =>
      rw [h1] at h
      cases x with
      | none => exact h.elim
      | some ob =>
        obtain ⟨h0, h⟩ := h
        obtain ⟨os, h2, h3, h4⟩ := canGo_spec h
        refine ⟨some (canOb T.length all ob) :: os, h2, by simp [h3], fun k ob' hk => ?_⟩
        rcases k with _ | k
        · simp at hk; subst hk; exact ⟨i, ob, rfl, h1, rfl, h0⟩
        · exact h4 k ob' (by simpa using hk)
section
variable {G G' : Gh} {m : Nat} {ids : List Nat} (hle : G.le G') (hpl : ∀ o p, o ∈ ids → G.pl o = some p → G'.pl (m + pos o ids) = some p)
include hle hpl
theorem can0_rel {d : DV} {v : Value} (h : ∀ o ∈ ids0 d, o ∈ ids) (r : Rel G d v) : Rel G' (can0 m ids d) v := by
  cases r with
  | own o off n pl p c h1 h2 h3 h4 => exact .own _ off n pl p c (hpl o pl (h o (by simp [ids0])) h1) h2 h3 h4
  | ptr o i j pl h1 => exact .ptr _ i j pl (hpl o pl (h o (by simp [ids0])) h1)
  | undef v => exact (Rel.undef v).mono hle
  | int k n => exact .int k n
  | bool b => exact .bool b
  | str s => exact .str s
  | lit v => exact .lit v
  | agg cs vs h1 h2 => exact (Rel.agg cs vs h1 h2).mono hle
  | tup cs vs h1 h2 => exact (Rel.tup cs vs h1 h2).mono hle
  | sl sz rows k p len cap b o vals h1 h2 h3 h4 h5 h6 h7 => exact (Rel.sl sz rows k p len cap b o vals h1 h2 h3 h4 h5 h6 h7).mono hle
  | rp row j b o vals h1 h2 => exact (Rel.rp row j b o vals h1 h2).mono hle
  | ifc t d v h1 => exact (Rel.ifc t d v h1).mono hle
  | ifa t cs vs h1 h2 => exact (Rel.ifa t cs vs h1 h2).mono hle
  | clo g cs vs h1 h2 => exact (Rel.clo g cs vs h1 h2).mono hle
theorem canA_rel {d : DV} {v : Value} (h : ∀ o ∈ idsA d, o ∈ ids) (r : Rel G d v) : Rel G' (canA m ids d) v := by
  cases r with
  | agg cs vs h1 h2 =>
    refine .agg _ vs (by simpa using h1) fun i c hc => ?_
    rw [List.getElem?_map, Option.map_eq_some_iff] at hc
    obtain ⟨c0, h3, rfl⟩ := hc
    exact can0_rel hle hpl (fun o ho => h o (List.mem_flatMap.2 ⟨c0, List.mem_of_getElem? h3, ho⟩)) (h2 i c0 h3)
  | own o off n pl p c h1 h2 h3 h4 => exact can0_rel (d := .own o off n) hle hpl h (.own o off n pl p c h1 h2 h3 h4)
  | ptr o i j pl h1 => exact can0_rel (d := .ptr o i j) hle hpl h (.ptr o i j pl h1)
  | undef v => exact can0_rel (d := .undef) hle hpl h (.undef v)
  | int k n => exact .int k n
  | bool b => exact .bool b
  | str s => exact .str s
  | lit v => exact .lit v
  | tup cs vs h1 h2 => exact (Rel.tup cs vs h1 h2).mono hle
  | sl sz rows k p len cap b o vals h1 h2 h3 h4 h5 h6 h7 => exact (Rel.sl sz rows k p len cap b o vals h1 h2 h3 h4 h5 h6 h7).mono hle
  | rp row j b o vals h1 h2 => exact (Rel.rp row j b o vals h1 h2).mono hle
  | ifc t d v h1 => exact .ifc t _ v (can0_rel hle hpl (fun o ho => h o (by simpa [idsA] using ho)) h1)
  | ifa t cs vs h1 h2 =>
    refine .ifa t _ vs (by simpa using h1) fun i c hc => ?_
    rw [List.getElem?_map, Option.map_eq_some_iff] at hc
    obtain ⟨c0, h3, rfl⟩ := hc
    exact can0_rel hle hpl (fun o ho => h o (List.mem_flatMap.2 ⟨c0, List.mem_of_getElem? h3, ho⟩)) (h2 i c0 h3)
  | clo g cs vs h1 h2 =>
    refine .clo g _ vs (by simpa using h1) fun i c hc => ?_
    rw [List.getElem?_map, Option.map_eq_some_iff] at hc
    obtain ⟨c0, h3, rfl⟩ := hc
    exact can0_rel hle hpl (fun o ho => h o (List.mem_flatMap.2 ⟨c0, List.mem_of_getElem? h3, ho⟩)) (h2 i c0 h3)
theorem canT_rel {d : DV} {v : Value} (h : ∀ o ∈ idsT d, o ∈ ids) (r : Rel G d v) : Rel G' (canT m ids d) v := by
  cases r with
  | tup cs vs h1 h2 =>
    refine .tup _ vs (by simpa using h1) fun i c hc => ?_
    rw [List.getElem?_map, Option.map_eq_some_iff] at hc
    obtain ⟨c0, h3, rfl⟩ := hc
    exact canA_rel hle hpl (fun o ho => h o (List.mem_flatMap.2 ⟨c0, List.mem_of_getElem? h3, ho⟩)) (h2 i c0 h3)
  | agg cs vs h1 h2 => exact canA_rel (d := .agg cs) hle hpl h (.agg cs vs h1 h2)
  | own o off n pl p c h1 h2 h3 h4 => exact can0_rel (d := .own o off n) hle hpl h (.own o off n pl p c h1 h2 h3 h4)
  | ptr o i j pl h1 => exact can0_rel (d := .ptr o i j) hle hpl h (.ptr o i j pl h1)
  | undef v => exact can0_rel (d := .undef) hle hpl h (.undef v)
  | int k n => exact .int k n
  | bool b => exact .bool b
  | str s => exact .str s
  | lit v => exact .lit v
  | sl sz rows k p len cap b o vals h1 h2 h3 h4 h5 h6 h7 => exact (Rel.sl sz rows k p len cap b o vals h1 h2 h3 h4 h5 h6 h7).mono hle
  | rp row j b o vals h1 h2 => exact (Rel.rp row j b o vals h1 h2).mono hle
  | ifc t d v h1 => exact canA_rel (d := .wrap (.ifc t) [d]) hle hpl h (.ifc t d v h1)
  | ifa t cs vs h1 h2 => exact canA_rel (d := .wrap (.ifa t) cs) hle hpl h (.ifa t cs vs h1 h2)
  | clo g cs vs h1 h2 => exact canA_rel (d := .wrap (.clo g) cs) hle hpl h (.clo g cs vs h1 h2)
end
theorem canE_eq (m : Nat) (ids : List Nat) : ∀ e : List (Nat × DV), canE m ids e = e.map fun x => (x.1, canT m ids x.2)
  | [] => rfl
  | (t, d) :: l => by simp [canE, canE_eq m ids l]
theorem canOb_live {G G' : Gh} {m : Nat} {ids : List Nat} {w : World} {p : Place} {ob : Ob} (hle : G.le G') (hpl : ∀ o p, o ∈ ids → G.pl o = some p → G'.pl (m + pos o ids) = some p)
    (hb : ∀ cs, ob = .box cs → ∀ c ∈ cs, ∀ o ∈ ids0 c, o ∈ ids) (hl : LiveAt G w p ob) : LiveAt G' w p (canOb m ids ob) := by
  cases ob with
  | arr sz rows => exact hl.mono hle (fun _ _ => rfl) (fun _ _ => rfl) (fun _ h => h)
  | box cs =>
    refine ⟨by have := hl.psz; simpa [canOb, Ob.sz] using this, by have := hl.fits; simpa [canOb, Ob.rows] using this, fun row hrow => ?_, hl.there, fun i j row c v hi hj hv => ?_, hl.mko⟩
    · have := hl.size cs (by simp [Ob.rows])
      simp [Ob.rows, canOb] at hrow
      subst hrow
      simpa using this
    · simp only [Ob.rows, canOb] at hi
      rcases i with _ | i
      · simp at hi
        subst hi
        rw [List.getElem?_map, Option.map_eq_some_iff] at hj
        obtain ⟨c0, h1, rfl⟩ := hj
        exact can0_rel hle hpl (hb cs rfl c0 (List.mem_of_getElem? h1)) (hl.holds 0 j cs c0 v rfl h1 hv)
      · simp at hi
theorem canS_sound {E : Prg} {C : Ctx} {st : St} {a : Act} {w : World} {K : Nat → St → Prop} (h : RelSt E C st a w) (hk : canS st K) : ∃ st', K st.objs.length st' ∧ RelSt E C st' a w := by
  obtain ⟨G, hr⟩ := h
  obtain ⟨os, hK, hlen, hos⟩ := canGo_spec hk
  refine ⟨_, hK, ?_⟩
  have hnd : (closeB st.objs (idsE st.env []) (idsE st.env [])).Nodup := nodup_closeB (nodup_idsE List.nodup_nil)
  have hsub : ∀ x, x ∈ idsE st.env [] → x ∈ closeB st.objs (idsE st.env []) (idsE st.env []) := fun x hx => mem_closeB hx
  have hold : ∀ t, ∀ o ∈ idsT (St.look t st.env), o ∈ idsE st.env [] := fun t o ho => by
    rcases look_mem t st.env with h1 | h1
    · rw [h1] at ho; simp [idsT, idsA, ids0] at ho
    · exact mem_idsE.2 (.inl ⟨_, h1, ho⟩)
  generalize hids : closeB st.objs (idsE st.env []) (idsE st.env []) = ids at *
  let G' : Gh := { rd := G.rd, pl := fun x => if x < st.objs.length then G.pl x else match ids[x - st.objs.length]? with | some o => G.pl o | none => none }
  have hle : G.le G' := ⟨fun _ _ h => h, fun k p h => by
    have := hr.heap.pls k p h
    simp only [G']
    rw [if_pos this]; exact h⟩
  have hpl : ∀ o p, o ∈ ids → G.pl o = some p → G'.pl (st.objs.length + pos o ids) = some p := fun o p ho hp => by
    simp only [G']
    rw [if_neg (by omega), Nat.add_sub_cancel_left, pos_get ho]
    exact hp
  have hnew : ∀ (k : Nat) (ob' : Ob), (List.replicate st.objs.length none ++ os)[k]? = some (some ob') → st.objs.length ≤ k ∧ ∃ o ob, ids[k - st.objs.length]? = some o ∧ st.objs[o]? = some (some ob) ∧ ob' = canOb st.objs.length ids ob ∧ allIn ids (obIds ob) ∧ G'.pl k = G.pl o := fun k ob' h => by
    by_cases hk : k < st.objs.length
    · rw [List.getElem?_append_left (by simpa using hk), List.getElem?_replicate, if_pos hk] at h
      cases h
    · rw [List.getElem?_append_right (by simpa using hk)] at h
      simp only [List.length_replicate] at h
      obtain ⟨o, ob, h1, h2, h3, h4⟩ := hos _ _ h
      refine ⟨by omega, o, ob, h1, h2, h3, h4, ?_⟩
      simp only [G']
      rw [if_neg hk, h1]
  refine ⟨G', ⟨fun t => ?_, hr.num, hr.defs, ⟨fun k p hp => ?_, fun k ob hob => ?_, ?_, hr.heap.rdv, ?_⟩, ?_, fun g row hg => (hr.glob g row hg).mono hle⟩⟩
  · show Rel G' (St.look t (canE st.objs.length ids st.env)) _
    rw [canE_eq, St.look_map (canT st.objs.length ids) rfl]
    exact canT_rel hle hpl (fun o ho => hsub _ (hold t o ho)) (hr.env t)
  · simp only [G'] at hp
    simp only [List.length_append, List.length_replicate, hlen]
    split at hp
    · omega
    · split at hp
      · rename_i o ho
        have := (List.getElem?_eq_some_iff.1 ho).1
        omega
      · cases hp
  · obtain ⟨_, o, ob0, _, h2, rfl, h3, h4⟩ := hnew k ob hob
    obtain ⟨p, hp, hl⟩ := hr.heap.live o ob0 h2
    refine ⟨p, h4.trans hp, canOb_live hle hpl (fun cs e c hc x hx => ?_) hl⟩
    subst e
    exact allIn_mem h3 x (List.mem_flatMap.2 ⟨c, hc, hx⟩)
  · intro k k' r r' p p' i i' h1 h2 hne hp hp' hi hi'
    obtain ⟨k1, o, ob0, k2, k3, _, _, k4⟩ := hnew k r h1
    obtain ⟨l1, o', ob0', l2, l3, _, _, l4⟩ := hnew k' r' h2
    refine hr.heap.sep o o' ob0 ob0' p p' i i' k3 l3 (fun e => ?_) (k4.symm.trans hp) (l4.symm.trans hp') hi hi'
    subst e
    have := nodup_idx hnd k2 l2
    omega
  · intro k r p i hk hp hi
    obtain ⟨_, o, ob0, _, h2, _, _, h3⟩ := hnew k r hk
    exact hr.heap.rds o ob0 p i h2 (h3.symm.trans hp) hi
  · refine ⟨hr.frm.os, hr.frm.tape, hr.frm.output, hr.frm.size, hr.frm.blk, hr.frm.cell, hr.frm.frz, fun k r p i hk hp hi => ?_, hr.frm.rdn, hr.frm.le.trans hle, hr.frm.mko⟩
    obtain ⟨_, o, ob0, _, h2, _, _, h3⟩ := hnew k r hk
    exact hr.frm.mine o ob0 p i h2 (h3.symm.trans hp) hi
/-- A loop, by what holds at each round's head and a measure; objects are named anew. -/
theorem LoopWp.invR {E : Prg} {F : FTab} (hF : FOk E F) {n : Nat} {b : RC} {Q : Exit → St → Prop} {st : St} {σ : Type} (S : Nat → σ → St) (I : σ → Prop) (μ : σ → Nat) (n0 : Nat) (s0 : σ) (h0 : I s0)
    (hw : n0 ≤ st.objs.length ∧ canS st fun m st' => st'.wk (S m s0))
    (round : ∀ m s, n0 ≤ m → I s → b.wp E F n (fun e st' => match e with
      | .normal => n0 ≤ st'.objs.length ∧ canS st' fun m st'' => ∃ s', st''.wk (S m s') ∧ I s' ∧ μ s' < μ s
      | e => Q e st') (S m s)) : LoopWp E n b Q st := by
  intro c ann hc C a w hn hr
  let J : Act → World → Nat → Prop := fun a w k => ∃ m s, n0 ≤ m ∧ I s ∧ RelSt E C (S m s) a w ∧ μ s = k
  have hex : ∀ a w, (∃ m, J a w m) → ∃ m, J a w m ∧ ∀ k, J a w k → m ≤ k := fun a w ⟨m, hm⟩ => exists_least _ m hm
  open Classical in
  let f : Act → World → Nat := fun a w => if h : ∃ m, J a w m then Classical.choose (hex a w h) else 0
  have hf : ∀ a w, (∃ m, J a w m) → J a w (f a w) ∧ ∀ k, J a w k → f a w ≤ k := fun a w h => by
    simp only [f, dif_pos h]
    exact Classical.choose_spec (hex a w h)
  have hstart : ∃ m, J a w m := by
    obtain ⟨st', h1, h2⟩ := canS_sound hr hw.2
    exact ⟨μ s0, st.objs.length, s0, hw.1, h0, h2.wk h1, rfl⟩
  refine wp_loop (fun a w => ∃ m, J a w m) f hstart (fun a w hJ => ?_)
  obtain ⟨⟨m, s, hm0, hI, hrs, hm⟩, hmin⟩ := hf a w hJ
  refine Code.wp_mono ?_ (RC.sound hF c ann b _ (S m s) hc (round m s hm0 hI) C a w hn hrs)
  rintro e a' w' ⟨st', h1, h2⟩
  cases e with
  | normal =>
    obtain ⟨st'', ⟨s', hw', hI', hlt⟩, h3⟩ := canS_sound h2 h1.2
    have hJ' : J a' w' (μ s') := ⟨_, s', h1.1, hI', h3.wk hw', rfl⟩
    refine ⟨⟨_, hJ'⟩, ?_⟩
    have := (hf a' w' ⟨_, hJ'⟩).2 _ hJ'
    omega
  | _ => exact ⟨st', h1, h2⟩
/-- A nil slice is an object of one's own without a cell. -/
theorem LoopWp.own {E : Prg} {n : Nat} {b : RC} {Q : Exit → St → Prop} {st : St} (t sz : Nat) {s : Nat} {k : SK} (h : st.get t = .sl s [] k) (hk : k = .nil ∨ k = .zero)
    (h2 : LoopWp E n b Q ⟨St.rep t (.own st.objs.length 0 0) st.env, st.objs ++ [some (.arr sz [])]⟩) : LoopWp E n b Q st := by
  intro c ann hc C a w hn ⟨G, hr⟩
  have hr2 := hr.newEmpty sz
  refine h2 c ann hc C a w hn ⟨G.more st.objs.length ⟨0, 0, sz, 0⟩, ⟨fun u => ?_, hr2.num, hr2.defs, hr2.heap, hr2.frm, hr2.glob⟩⟩
  by_cases e : u = t
  · subst e
    have h3 : Rel (G.more st.objs.length ⟨0, 0, sz, 0⟩) (st.get u) _ := hr2.env u
    rw [h] at h3
    have h4 : St.look u (St.rep u (.own st.objs.length 0 0) st.env) = .own st.objs.length 0 0 ∨ St.look u (St.rep u (.own st.objs.length 0 0) st.env) = .undef := by
      clear h h2 hr hr2 h3
      induction st.env with
      | nil => exact .inr rfl
      | cons x l ih =>
        obtain ⟨k, d⟩ := x
        simp only [St.rep]
        split
        · rename_i e; simp [St.look]
        · rename_i e; simp only [St.look]; rw [if_neg e]; exact ih
    show Rel _ (St.look u (St.rep u (.own st.objs.length 0 0) st.env)) _
    rcases h4 with h4 | h4
    · rw [h4]
      generalize a.tmps.getD u Go.undef = v at h3
      cases h3 with
      | sl _ _ _ p len cap b' o vals h5 h6 h7 h8 _ _ _ =>
        have hl : len = 0 := by simpa using h5
        subst hl
        have hc0 : cap = 0 := by
          rcases hk with rfl | rfl
          · exact h6.2
          · exact h6
        subst hc0
        exact .own _ 0 0 ⟨0, 0, sz, 0⟩ p 0 (by simp [Gh.more]) rfl (Nat.le_refl _) (fun h => by omega)
    · rw [h4]; exact .undef _
  · have h3 : St.look u (St.rep t (.own st.objs.length 0 0) st.env) = St.look u st.env := by
      clear h h2 hr hr2
      induction st.env with
      | nil => rfl
      | cons x l ih =>
        obtain ⟨k, d⟩ := x
        simp only [St.rep]
        split
        · rename_i e2; subst e2; simp only [St.look]; rw [if_neg (fun h => e h.symm), if_neg (fun h => e h.symm)]
        · simp only [St.look]; rw [ih]
    show Rel _ (St.look u (St.rep t (.own st.objs.length 0 0) st.env)) _
    rw [h3]
    exact hr2.env u
theorem objsWk_pre (n : Nat) (a b : Objs) : objsWk (List.replicate n none ++ a) (List.replicate n none ++ b) = objsWk a b := by
  induction n with
  | zero => rfl
  | succ n ih => simp only [List.replicate_succ, List.cons_append, objsWk_none, ih]
theorem addId_nil (a : Nat) : addId a [] = [a] := nrfl _
theorem addId_cons (a b : Nat) (l : List Nat) : addId a (b :: l) = if a = b then b :: l else b :: addId a l := nrfl _
theorem addIds_nil (acc : List Nat) : addIds [] acc = acc := nrfl _
theorem addIds_cons (a : Nat) (l acc : List Nat) : addIds (a :: l) acc = addIds l (addId a acc) := nrfl _
theorem idsE_nil (acc : List Nat) : idsE [] acc = acc := nrfl _
theorem idsE_cons (t : Nat) (d : DV) (l : List (Nat × DV)) (acc : List Nat) : idsE ((t, d) :: l) acc = idsE l (addIds (idsT d) acc) := nrfl _
theorem canE_nil (m : Nat) (ids : List Nat) : canE m ids [] = [] := nrfl _
theorem canE_cons (m : Nat) (ids : List Nat) (t : Nat) (d : DV) (l : List (Nat × DV)) : canE m ids ((t, d) :: l) = (t, canT m ids d) :: canE m ids l := nrfl _
theorem canGo_nil (T : Objs) (all : List Nat) (k : Objs → Prop) : canGo T all [] k = k [] := nrfl _
theorem closeB_nil (T : Objs) (acc : List Nat) : closeB T [] acc = acc := nrfl _
theorem closeB_cons (T : Objs) (i : Nat) (l acc : List Nat) : closeB T (i :: l) acc = closeB T l (boxIds T[i]? acc) := nrfl _
theorem boxIds_box (cs : List DV) (acc : List Nat) : boxIds (some (some (.box cs))) acc = addIds (cs.flatMap ids0) acc := nrfl _
theorem boxIds_arr (sz : Nat) (rows : List (List DV)) (acc : List Nat) : boxIds (some (some (.arr sz rows))) acc = acc := nrfl _
theorem boxIds_none (acc : List Nat) : boxIds (some none) acc = acc := nrfl _
theorem canOb_box (m : Nat) (ids : List Nat) (cs : List DV) : canOb m ids (.box cs) = .box (cs.map (can0 m ids)) := nrfl _
theorem canOb_arr (m : Nat) (ids : List Nat) (sz : Nat) (rows : List (List DV)) : canOb m ids (.arr sz rows) = .arr sz rows := nrfl _
theorem canGo_cons (T : Objs) (all : List Nat) (i : Nat) (l : List Nat) (k : Objs → Prop) : canGo T all (i :: l) k = (bindO T[i]? fun x => bindO x fun ob => allIn all (obIds ob) ∧ canGo T all l fun os => k (some (canOb T.length all ob) :: os)) := nrfl _
theorem inL_nil (a : Nat) : inL a [] = False := nrfl _
theorem inL_cons (a b : Nat) (l : List Nat) : inL a (b :: l) = (a = b ∨ inL a l) := nrfl _
theorem allIn_nil (all : List Nat) : allIn all [] = True := nrfl _
theorem allIn_cons (all : List Nat) (a : Nat) (l : List Nat) : allIn all (a :: l) = (inL a all ∧ allIn all l) := nrfl _
theorem obIds_box (cs : List DV) : obIds (.box cs) = cs.flatMap ids0 := nrfl _
theorem obIds_arr (sz : Nat) (rows : List (List DV)) : obIds (.arr sz rows) = [] := nrfl _
theorem canI_eq (T : Objs) (ids : List Nat) (e : List (Nat × DV)) (K : Nat → St → Prop) : canI T ids e K = canGo T ids ids fun os => K T.length ⟨canE T.length ids e, List.replicate T.length none ++ os⟩ := nrfl _
theorem canS_mk (e : List (Nat × DV)) (T : Objs) (K : Nat → St → Prop) : canS ⟨e, T⟩ K = canI T (closeB T (idsE e []) (idsE e [])) e K := nrfl _
theorem idsT_rp (row : List DV) (j : Nat) : idsT (.rp row j) = [] := nrfl _
theorem idsT_undef : idsT .undef = [] := nrfl _
theorem canT_rp (m : Nat) (ids : List Nat) (row : List DV) (j : Nat) : canT m ids (.rp row j) = .rp row j := nrfl _
end Go.Proofs.Ytaopaongpoecoaa
end
section
/- All of simp's own lemmas under two names. -/
set_option linter.unusedVariables false
namespace Go.Proofs.Ytaopaongpoecoaa
open Go.RowKit
theorem frzA_int (o sz : Nat) (rows : List (List DV)) (k : IntKind) (n : Int) : DV.frzA o sz rows (.int k n) = .int k n := nrfl _
theorem frzA_bool (o sz : Nat) (rows : List (List DV)) (b : Bool) : DV.frzA o sz rows (.bool b) = .bool b := nrfl _
theorem frzA_str (o sz : Nat) (rows : List (List DV)) (s : List UInt8) : DV.frzA o sz rows (.str s) = .str s := nrfl _
theorem frzA_sl (o sz : Nat) (rows : List (List DV)) (s : Nat) (r : List (List DV)) (k : SK) : DV.frzA o sz rows (.sl s r k) = .sl s r k := nrfl _
theorem frzA_own (o sz : Nat) (rows : List (List DV)) (o' off n : Nat) : DV.frzA o sz rows (.own o' off n) = DV.frz0 o sz rows (.own o' off n) := nrfl _
theorem frzA_ptr (o sz : Nat) (rows : List (List DV)) (o' i j : Nat) : DV.frzA o sz rows (.ptr o' i j) = .ptr o' i j := nrfl _
theorem frzA_rp (o sz : Nat) (rows : List (List DV)) (r : List DV) (j : Nat) : DV.frzA o sz rows (.rp r j) = .rp r j := nrfl _
theorem frzA_undef (o sz : Nat) (rows : List (List DV)) : DV.frzA o sz rows .undef = .undef := nrfl _
theorem frzA_agg (o sz : Nat) (rows : List (List DV)) (cs : List DV) : DV.frzA o sz rows (.agg cs) = .agg (cs.map (DV.frz0 o sz rows)) := nrfl _
theorem vcA7 : type_of% (
  And.intro @closeB_nil <| And.intro @closeB_cons <| And.intro @boxIds_box <| And.intro @boxIds_arr <| And.intro @boxIds_none <| And.intro @canOb_box <| And.intro @canOb_arr <| And.intro @inL_nil <| And.intro @inL_cons <| And.intro @allIn_nil <| And.intro @allIn_cons <| And.intro @obIds_box <| And.intro @obIds_arr <| And.intro @app_o <| And.intro @app_h <| And.intro @frzA_int <| And.intro @frzA_bool <| And.intro @frzA_str <| And.intro @frzA_sl <| And.intro @frzA_own <| And.intro @frzA_ptr <| And.intro @frzA_rp <| And.intro @frzA_undef <| @frzA_agg) :=
  And.intro @closeB_nil <| And.intro @closeB_cons <| And.intro @boxIds_box <| And.intro @boxIds_arr <| And.intro @boxIds_none <| And.intro @canOb_box <| And.intro @canOb_arr <| And.intro @inL_nil <| And.intro @inL_cons <| And.intro @allIn_nil <| And.intro @allIn_cons <| And.intro @obIds_box <| And.intro @obIds_arr <| And.intro @app_o <| And.intro @app_h <| And.intro @frzA_int <| And.intro @frzA_bool <| And.intro @frzA_str <| And.intro @frzA_sl <| And.intro @frzA_own <| And.intro @frzA_ptr <| And.intro @frzA_rp <| And.intro @frzA_undef <| @frzA_agg
theorem vcA1 : type_of% (
  And.intro @resOf_1 <| And.intro @resOf_2 <| And.intro @resOf_3 <| And.intro @resT <| And.intro @resC <| And.intro @ev_t <| And.intro @ev_c <| And.intro @get_mk <| And.intro @put_some <| And.intro @put_none <| And.intro @know_mk <|
  And.intro @knows_t <| And.intro @knows_c <| And.intro @cut_mk <| And.intro @nx_f <| And.intro @nx_n <| And.intro @nx_t <| And.intro @cnd_dec <| And.intro @cnd_not <| And.intro @rvl_mov <| And.intro @rvl_pick <| And.intro @rvl_box <|
  And.intro @rvl_alloc <| And.intro @rvl_build <| And.intro @rvl_mkrow <| And.intro @rvl_load <| And.intro @rvl_store <| And.intro @rvl_nilck <| And.intro @rvl_bin <| And.intro @rvl_eqB <| And.intro @rvl_eqNil <| And.intro @rvl_un <|
  And.intro @rvl_i2i <| And.intro @rvl_b2s <| And.intro @rvl_s2b <| And.intro @rvl_s2s <| And.intro @rvl_lit <| And.intro @rvl_slice <| And.intro @natO_none <| And.intro @natO_some <| And.intro @rvl_sliceS <| And.intro @rvl_faddr <|
  And.intro @rvl_fld <| And.intro @rvl_iaddr <| And.intro @rvl_iaddrA <| And.intro @rvl_idxS <| And.intro @rvl_ext <| And.intro @rvl_len <| And.intro @rvl_lenS <| And.intro @rvl_append <| And.intro @rvl_mm <| And.intro @rvl_mkslice <|
  And.intro @rowsOf_sl <| And.intro @rowsOf_own <| And.intro @rowsOf_str <| And.intro @goSt_eq <| And.intro @freeze_mk <| And.intro @frzO_arr <| And.intro @initEnv_nil <| @initEnv_cons) :=
  And.intro @resOf_1 <| And.intro @resOf_2 <| And.intro @resOf_3 <| And.intro @resT <| And.intro @resC <| And.intro @ev_t <| And.intro @ev_c <| And.intro @get_mk <| And.intro @put_some <| And.intro @put_none <| And.intro @know_mk <|
  And.intro @knows_t <| And.intro @knows_c <| And.intro @cut_mk <| And.intro @nx_f <| And.intro @nx_n <| And.intro @nx_t <| And.intro @cnd_dec <| And.intro @cnd_not <| And.intro @rvl_mov <| And.intro @rvl_pick <| And.intro @rvl_box <|
  And.intro @rvl_alloc <| And.intro @rvl_build <| And.intro @rvl_mkrow <| And.intro @rvl_load <| And.intro @rvl_store <| And.intro @rvl_nilck <| And.intro @rvl_bin <| And.intro @rvl_eqB <| And.intro @rvl_eqNil <| And.intro @rvl_un <|
  And.intro @rvl_i2i <| And.intro @rvl_b2s <| And.intro @rvl_s2b <| And.intro @rvl_s2s <| And.intro @rvl_lit <| And.intro @rvl_slice <| And.intro @natO_none <| And.intro @natO_some <| And.intro @rvl_sliceS <| And.intro @rvl_faddr <|
  And.intro @rvl_fld <| And.intro @rvl_iaddr <| And.intro @rvl_iaddrA <| And.intro @rvl_idxS <| And.intro @rvl_ext <| And.intro @rvl_len <| And.intro @rvl_lenS <| And.intro @rvl_append <| And.intro @rvl_mm <| And.intro @rvl_mkslice <|
  And.intro @rowsOf_sl <| And.intro @rowsOf_own <| And.intro @rowsOf_str <| And.intro @goSt_eq <| And.intro @freeze_mk <| And.intro @frzO_arr <| And.intro @initEnv_nil <| @initEnv_cons
theorem vcA2 : type_of% (
  And.intro @look_nil <| And.intro @look_cons <| And.intro @ins_nil <| And.intro @ins_cons <| And.intro @rep_nil <| And.intro @rep_cons <| And.intro @memN_nil <| And.intro @memN_cons <| And.intro @cutE_nil <| And.intro @cutE_cons <|
  And.intro @buildV_nil <| And.intro @buildV_cons <| And.intro @mkrowV_nil <| And.intro @mkrowV_cons <| And.intro @binV_add <| And.intro @binV_sub <| And.intro @binV_mul <| And.intro @binV_quo <| And.intro @binV_rem <|
  And.intro @binV_and <| And.intro @binV_or <| And.intro @binV_xor <| And.intro @binV_andNot <| And.intro @binV_eql <| And.intro @binV_neq <| And.intro @binV_lss <| And.intro @binV_leq <| And.intro @binV_gtr <| And.intro @binV_geq <|
  And.intro @binV_shl <| And.intro @binV_shr <| And.intro @binS_add <| And.intro @binS_eql <| And.intro @binS_neq <| And.intro @binS_lss <| And.intro @binS_leq <| And.intro @binS_gtr <| And.intro @binS_geq <| And.intro @unOf_neg <|
  And.intro @unOf_xor <| And.intro @unOf_not <| And.intro @nilV_nil <| And.intro @nilV_nonnil <| And.intro @nilV_any <| And.intro @nilV_zero <| And.intro @cells_int <| And.intro @one_int <| And.intro @cells_bool <| And.intro @one_bool <|
  And.intro @cells_str <| And.intro @one_str <| And.intro @cells_sl <| And.intro @one_sl <| And.intro @cells_own <| And.intro @one_own <| And.intro @cells_ptr <| And.intro @one_ptr <| And.intro @cells_rp <| And.intro @one_rp <| @cells_agg) :=
  And.intro @look_nil <| And.intro @look_cons <| And.intro @ins_nil <| And.intro @ins_cons <| And.intro @rep_nil <| And.intro @rep_cons <| And.intro @memN_nil <| And.intro @memN_cons <| And.intro @cutE_nil <| And.intro @cutE_cons <|
  And.intro @buildV_nil <| And.intro @buildV_cons <| And.intro @mkrowV_nil <| And.intro @mkrowV_cons <| And.intro @binV_add <| And.intro @binV_sub <| And.intro @binV_mul <| And.intro @binV_quo <| And.intro @binV_rem <|
  And.intro @binV_and <| And.intro @binV_or <| And.intro @binV_xor <| And.intro @binV_andNot <| And.intro @binV_eql <| And.intro @binV_neq <| And.intro @binV_lss <| And.intro @binV_leq <| And.intro @binV_gtr <| And.intro @binV_geq <|
  And.intro @binV_shl <| And.intro @binV_shr <| And.intro @binS_add <| And.intro @binS_eql <| And.intro @binS_neq <| And.intro @binS_lss <| And.intro @binS_leq <| And.intro @binS_gtr <| And.intro @binS_geq <| And.intro @unOf_neg <|
  And.intro @unOf_xor <| And.intro @unOf_not <| And.intro @nilV_nil <| And.intro @nilV_nonnil <| And.intro @nilV_any <| And.intro @nilV_zero <| And.intro @cells_int <| And.intro @one_int <| And.intro @cells_bool <| And.intro @one_bool <|
  And.intro @cells_str <| And.intro @one_str <| And.intro @cells_sl <| And.intro @one_sl <| And.intro @cells_own <| And.intro @one_own <| And.intro @cells_ptr <| And.intro @one_ptr <| And.intro @cells_rp <| And.intro @one_rp <| @cells_agg
theorem vcA3 : type_of% (
  And.intro @rowAt_f <| And.intro @rowAt_t <| And.intro @rowSet_eq <| And.intro @rows_box <| And.intro @rows_arr <| And.intro @setRow_box <| And.intro @setRow_arr <| And.intro @freezes_nil <| And.intro @freezes_cons <|
  And.intro @ownIds_own <| And.intro @ownIds_sl <| And.intro @ownIds_agg <| And.intro @ownL_nil <| And.intro @ownL_int <| And.intro @frz0_int <| And.intro @frzT_int <| And.intro @ownL_bool <| And.intro @frz0_bool <| And.intro @frzT_bool <|
  And.intro @ownL_str <| And.intro @frz0_str <| And.intro @frzT_str <| And.intro @ownL_sl <| And.intro @frz0_sl <| And.intro @frzT_sl <| And.intro @ownL_ptr <| And.intro @frz0_ptr <| And.intro @frzT_ptr <| And.intro @ownL_rp <|
  And.intro @frz0_rp <| And.intro @frzT_rp <| And.intro @ownL_own <| And.intro @frz0_own <| And.intro @frzT_own <| And.intro @frzT_undef <| And.intro @frzT_agg <| And.intro @frzT_tup <| And.intro @obfrz_box <| And.intro @obfrz_arr <|
  And.intro @ids0_int <| And.intro @idsA_int <| And.intro @idsT_int <| And.intro @can0_int <| And.intro @canA_int <| And.intro @canT_int <| And.intro @cl0_int <| And.intro @clA_int <| And.intro @clT_int <| And.intro @ids0_bool <|
  And.intro @idsA_bool <| And.intro @idsT_bool <| And.intro @can0_bool <| And.intro @canA_bool <| And.intro @canT_bool <| And.intro @cl0_bool <| And.intro @clA_bool <| And.intro @clT_bool <| And.intro @ids0_str <| And.intro @idsA_str <|
  @idsT_str) :=
  And.intro @rowAt_f <| And.intro @rowAt_t <| And.intro @rowSet_eq <| And.intro @rows_box <| And.intro @rows_arr <| And.intro @setRow_box <| And.intro @setRow_arr <| And.intro @freezes_nil <| And.intro @freezes_cons <|
  And.intro @ownIds_own <| And.intro @ownIds_sl <| And.intro @ownIds_agg <| And.intro @ownL_nil <| And.intro @ownL_int <| And.intro @frz0_int <| And.intro @frzT_int <| And.intro @ownL_bool <| And.intro @frz0_bool <| And.intro @frzT_bool <|
  And.intro @ownL_str <| And.intro @frz0_str <| And.intro @frzT_str <| And.intro @ownL_sl <| And.intro @frz0_sl <| And.intro @frzT_sl <| And.intro @ownL_ptr <| And.intro @frz0_ptr <| And.intro @frzT_ptr <| And.intro @ownL_rp <|
  And.intro @frz0_rp <| And.intro @frzT_rp <| And.intro @ownL_own <| And.intro @frz0_own <| And.intro @frzT_own <| And.intro @frzT_undef <| And.intro @frzT_agg <| And.intro @frzT_tup <| And.intro @obfrz_box <| And.intro @obfrz_arr <|
  And.intro @ids0_int <| And.intro @idsA_int <| And.intro @idsT_int <| And.intro @can0_int <| And.intro @canA_int <| And.intro @canT_int <| And.intro @cl0_int <| And.intro @clA_int <| And.intro @clT_int <| And.intro @ids0_bool <|
  And.intro @idsA_bool <| And.intro @idsT_bool <| And.intro @can0_bool <| And.intro @canA_bool <| And.intro @canT_bool <| And.intro @cl0_bool <| And.intro @clA_bool <| And.intro @clT_bool <| And.intro @ids0_str <| And.intro @idsA_str <|
  @idsT_str
theorem vcA4 : type_of% (
  And.intro @can0_str <| And.intro @canA_str <| And.intro @canT_str <| And.intro @cl0_str <| And.intro @clA_str <| And.intro @clT_str <| And.intro @ids0_sl <| And.intro @idsA_sl <| And.intro @idsT_sl <| And.intro @can0_sl <|
  And.intro @canA_sl <| And.intro @canT_sl <| And.intro @cl0_sl <| And.intro @clA_sl <| And.intro @clT_sl <| And.intro @ids0_own <| And.intro @idsA_own <| And.intro @idsT_own <| And.intro @can0_own <| And.intro @canA_own <|
  And.intro @canT_own <| And.intro @cl0_own <| And.intro @clA_own <| And.intro @clT_own <| And.intro @ids0_ptr <| And.intro @idsA_ptr <| And.intro @idsT_ptr <| And.intro @can0_ptr <| And.intro @canA_ptr <| And.intro @canT_ptr <|
  And.intro @cl0_ptr <| And.intro @clA_ptr <| And.intro @clT_ptr <| And.intro @idsA_agg <| And.intro @idsT_agg <| And.intro @idsT_tup <| And.intro @canA_agg <| And.intro @canT_agg <| And.intro @canT_tup <| And.intro @clA_agg <|
  And.intro @clT_agg <| And.intro @clT_tup <| And.intro @pos_nil <| And.intro @pos_cons <| And.intro @clOb_arr <| And.intro @clOb_box <| And.intro @goIds_nil <| And.intro @goIds_cons <| And.intro @retV_eq <| And.intro @ClRows_nil_eq <|
  And.intro @ClRows_int_eq <| And.intro @ClRows_one_eq <| And.intro @Cl_int_eq <| And.intro @Cl_bool_eq <| And.intro @Cl_str_eq <| And.intro @wk_mk <| And.intro @envWk_nil <| And.intro @envWk_cons <| And.intro @objsWk_self <| @objsWk_nil) :=
  And.intro @can0_str <| And.intro @canA_str <| And.intro @canT_str <| And.intro @cl0_str <| And.intro @clA_str <| And.intro @clT_str <| And.intro @ids0_sl <| And.intro @idsA_sl <| And.intro @idsT_sl <| And.intro @can0_sl <|
  And.intro @canA_sl <| And.intro @canT_sl <| And.intro @cl0_sl <| And.intro @clA_sl <| And.intro @clT_sl <| And.intro @ids0_own <| And.intro @idsA_own <| And.intro @idsT_own <| And.intro @can0_own <| And.intro @canA_own <|
  And.intro @canT_own <| And.intro @cl0_own <| And.intro @clA_own <| And.intro @clT_own <| And.intro @ids0_ptr <| And.intro @idsA_ptr <| And.intro @idsT_ptr <| And.intro @can0_ptr <| And.intro @canA_ptr <| And.intro @canT_ptr <|
  And.intro @cl0_ptr <| And.intro @clA_ptr <| And.intro @clT_ptr <| And.intro @idsA_agg <| And.intro @idsT_agg <| And.intro @idsT_tup <| And.intro @canA_agg <| And.intro @canT_agg <| And.intro @canT_tup <| And.intro @clA_agg <|
  And.intro @clT_agg <| And.intro @clT_tup <| And.intro @pos_nil <| And.intro @pos_cons <| And.intro @clOb_arr <| And.intro @clOb_box <| And.intro @goIds_nil <| And.intro @goIds_cons <| And.intro @retV_eq <| And.intro @ClRows_nil_eq <|
  And.intro @ClRows_int_eq <| And.intro @ClRows_one_eq <| And.intro @Cl_int_eq <| And.intro @Cl_bool_eq <| And.intro @Cl_str_eq <| And.intro @wk_mk <| And.intro @envWk_nil <| And.intro @envWk_cons <| And.intro @objsWk_self <| @objsWk_nil
theorem vcA5 : type_of% (
  And.intro @objsWk_none <| And.intro @objsWk_some <| And.intro @RO_len <| And.intro @RO_get <| And.intro @RO_get0 <| And.intro @RO_set <| And.intro @RO_set0 <| And.intro @intRows_length <| And.intro @intRows_get <|
  And.intro @intRows_append <| And.intro @intRows_nil <| And.intro @intRows_take <| And.intro @intRows_drop <| And.intro @rowsBytes_int <| And.intro @isInts_sl <| And.intro @isInts_nil <| And.intro @intsD_sl <| And.intro @intsD_nil <|
  And.intro @allP_nil <| And.intro @allP_cons <| And.intro @ndup_nil <| And.intro @ndup_cons <| And.intro @notIn_nil <| And.intro @notIn_cons <| And.intro @ClRows_cons <| And.intro @wkT_tup <| And.intro @wkT_agg <| And.intro @wkA_agg <|
  And.intro @wkL_nil <| And.intro @wkL_cons <| And.intro @wkT_sl <| And.intro @wkA_sl <| And.intro @wk0_sl <| And.intro @wkT_int <| And.intro @wkA_int <| And.intro @wk0_int <| And.intro @wkT_bool <| And.intro @wkA_bool <|
  And.intro @wk0_bool <| And.intro @wkT_str <| And.intro @wkA_str <| And.intro @wk0_str <| And.intro @wkT_own <| And.intro @wkA_own <| And.intro @wk0_own <| And.intro @wkT_ptr <| And.intro @wkA_ptr <| And.intro @intRows_fold1 <|
  And.intro @intRows_foldc <| And.intro @intRows_set <| And.intro @addId_nil <| And.intro @addId_cons <| And.intro @addIds_nil <| And.intro @addIds_cons <| And.intro @idsE_nil <| And.intro @idsE_cons <| And.intro @canE_nil <|
  And.intro @canE_cons <| And.intro @canI_eq <| @canS_mk) :=
  And.intro @objsWk_none <| And.intro @objsWk_some <| And.intro @RO_len <| And.intro @RO_get <| And.intro @RO_get0 <| And.intro @RO_set <| And.intro @RO_set0 <| And.intro @intRows_length <| And.intro @intRows_get <|
  And.intro @intRows_append <| And.intro @intRows_nil <| And.intro @intRows_take <| And.intro @intRows_drop <| And.intro @rowsBytes_int <| And.intro @isInts_sl <| And.intro @isInts_nil <| And.intro @intsD_sl <| And.intro @intsD_nil <|
  And.intro @allP_nil <| And.intro @allP_cons <| And.intro @ndup_nil <| And.intro @ndup_cons <| And.intro @notIn_nil <| And.intro @notIn_cons <| And.intro @ClRows_cons <| And.intro @wkT_tup <| And.intro @wkT_agg <| And.intro @wkA_agg <|
  And.intro @wkL_nil <| And.intro @wkL_cons <| And.intro @wkT_sl <| And.intro @wkA_sl <| And.intro @wk0_sl <| And.intro @wkT_int <| And.intro @wkA_int <| And.intro @wk0_int <| And.intro @wkT_bool <| And.intro @wkA_bool <|
  And.intro @wk0_bool <| And.intro @wkT_str <| And.intro @wkA_str <| And.intro @wk0_str <| And.intro @wkT_own <| And.intro @wkA_own <| And.intro @wk0_own <| And.intro @wkT_ptr <| And.intro @wkA_ptr <| And.intro @intRows_fold1 <|
  And.intro @intRows_foldc <| And.intro @intRows_set <| And.intro @addId_nil <| And.intro @addId_cons <| And.intro @addIds_nil <| And.intro @addIds_cons <| And.intro @idsE_nil <| And.intro @idsE_cons <| And.intro @canE_nil <|
  And.intro @canE_cons <| And.intro @canI_eq <| @canS_mk
theorem vcA6 : type_of% (
  And.intro @idsT_rp <| And.intro @idsT_undef <| And.intro @canT_rp <| @objsWk_pre) :=
  And.intro @idsT_rp <| And.intro @idsT_undef <| And.intro @canT_rp <| @objsWk_pre
theorem vcP1 : type_of% (
  And.intro @opsWp_nil <| And.intro @opsWp_cons <| And.intro @stV_build <| And.intro @stV_mkrow <| And.intro @stV_call <| And.intro @stV_mov <| And.intro @stV_pick <| And.intro @stV_box <| And.intro @stV_alloc <| And.intro @stV_load <|
  And.intro @stV_store <| And.intro @stV_nilck <| And.intro @stV_bin <| And.intro @stV_eqB <| And.intro @stV_eqNil <| And.intro @stV_un <| And.intro @stV_i2i <| And.intro @stV_b2s <| And.intro @stV_s2b <| And.intro @stV_s2s <|
  And.intro @stV_lit <| And.intro @stV_slice <| And.intro @stV_sliceS <| And.intro @stV_faddr <| And.intro @stV_fld <| And.intro @stV_iaddr <| And.intro @stV_iaddrA <| And.intro @stV_idxS <| And.intro @stV_ext <| And.intro @stV_len <|
  And.intro @stV_lenS <| And.intro @stV_append <| And.intro @stV_mm <| And.intro @stV_mkslice <| And.intro @opsWp_guard <| And.intro @ot_done <| And.intro @ot_alt <| And.intro @ot_op <| And.intro @ot_guard <| And.intro @ot_take <|
  And.intro @ot_take0 <| And.intro @rc_skip <| And.intro @rc_reg <| And.intro @rc_regD <| And.intro @rc_seq <| And.intro @rc_cond <| And.intro @rc_blk <| And.intro @rc_loop <| And.intro @rc_ext <| And.intro @rc_ret <| And.intro @thenQ_n <|
  And.intro @thenQ_r <| And.intro @thenQ_e <| And.intro @inBlk_n <| And.intro @inBlk_r <| And.intro @inBlk_e <| And.intro @finQ_n <| And.intro @finQ_r <| And.intro @bindB_bool <| @bindO_some) :=
  And.intro @opsWp_nil <| And.intro @opsWp_cons <| And.intro @stV_build <| And.intro @stV_mkrow <| And.intro @stV_call <| And.intro @stV_mov <| And.intro @stV_pick <| And.intro @stV_box <| And.intro @stV_alloc <| And.intro @stV_load <|
  And.intro @stV_store <| And.intro @stV_nilck <| And.intro @stV_bin <| And.intro @stV_eqB <| And.intro @stV_eqNil <| And.intro @stV_un <| And.intro @stV_i2i <| And.intro @stV_b2s <| And.intro @stV_s2b <| And.intro @stV_s2s <|
  And.intro @stV_lit <| And.intro @stV_slice <| And.intro @stV_sliceS <| And.intro @stV_faddr <| And.intro @stV_fld <| And.intro @stV_iaddr <| And.intro @stV_iaddrA <| And.intro @stV_idxS <| And.intro @stV_ext <| And.intro @stV_len <|
  And.intro @stV_lenS <| And.intro @stV_append <| And.intro @stV_mm <| And.intro @stV_mkslice <| And.intro @opsWp_guard <| And.intro @ot_done <| And.intro @ot_alt <| And.intro @ot_op <| And.intro @ot_guard <| And.intro @ot_take <|
  And.intro @ot_take0 <| And.intro @rc_skip <| And.intro @rc_reg <| And.intro @rc_regD <| And.intro @rc_seq <| And.intro @rc_cond <| And.intro @rc_blk <| And.intro @rc_loop <| And.intro @rc_ext <| And.intro @rc_ret <| And.intro @thenQ_n <|
  And.intro @thenQ_r <| And.intro @thenQ_e <| And.intro @inBlk_n <| And.intro @inBlk_r <| And.intro @inBlk_e <| And.intro @finQ_n <| And.intro @finQ_r <| And.intro @bindB_bool <| @bindO_some
theorem vcP2 : type_of% (
  And.intro @bindO_none <| And.intro @bindO_map <| And.intro @bindO_bind <| And.intro @bindO_ite <| And.intro @cnd_true <| And.intro @cnd_false <| And.intro @callV_some <| And.intro @callV_h <| And.intro @bindG_bool <| And.intro @bindG_no <|
  And.intro @bindO_getI <| And.intro @bindO_getU <| And.intro @canGo_nil <| @canGo_cons) :=
  And.intro @bindO_none <| And.intro @bindO_map <| And.intro @bindO_bind <| And.intro @bindO_ite <| And.intro @cnd_true <| And.intro @cnd_false <| And.intro @callV_some <| And.intro @callV_h <| And.intro @bindG_bool <| And.intro @bindG_no <|
  And.intro @bindO_getI <| And.intro @bindO_getU <| And.intro @canGo_nil <| @canGo_cons
end Go.Proofs.Ytaopaongpoecoaa
end
