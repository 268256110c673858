/- What code does to abstract states; the program does just that. -/
import Derived.Test.YteemmpghpdaloaaDoorAb13
set_option linter.unusedVariables false
set_option linter.unusedSimpArgs false
namespace Go.Proofs.YteemmpghpdaloaaDoor
open Go.RowKit

/-- A call, as its caller sees it. -/
def CallK (E : Prg) (f : Nat) (vals : List DV) (T : Objs) (K : DV → Objs → Prop) : Prop :=
  ∃ T1 R, T1.length = T.length ∧ (∀ (k : Nat) (ob : Ob), T1[k]? = some (some ob) → T[k]? = some (some ob)) ∧ GCalls E f vals T1 R ∧
    ∀ r T1', R r T1' → T1.length ≤ T1'.length → ∃ T', Merged T T1 T1' T' ∧ K r T'

theorem CallK.pure {E : Prg} {f : Nat} {vals : List DV} {T : Objs} {K : DV → Objs → Prop} {R : Nat → DV → Objs → Prop} (h : PCalls E f vals R) (hK : ∀ r os, R T.length r os → K r (T ++ os)) : CallK E f vals T K :=
  ⟨_, _, by simp, fun k ob hk => (getElem?_rep hk).elim, h T.length, fun r T1' ⟨os, hT, hR⟩ _ => ⟨T ++ os, by subst hT; exact Merged.pure _ _, hK r os hR⟩⟩

/-- A call that is handed one object (by a pointer): what it makes of it. -/
def MCalls (E : Prg) (f : Nat) (args : Nat → List DV) (ob : Ob) (R : Nat → Nat → DV → Option Ob → Objs → Prop) : Prop :=
  ∀ n k, k < n → GCalls E f (args k) ((List.replicate n none).set k (some ob)) fun r T' => ∃ x os, T' = (List.replicate n none).set k x ++ os ∧ R n k r x os

theorem CallK.one {E : Prg} {f : Nat} {args : Nat → List DV} {T : Objs} {K : DV → Objs → Prop} {ob : Ob} {R : Nat → Nat → DV → Option Ob → Objs → Prop} (h : MCalls E f args ob R) (k : Nat) (hk : T[k]? = some (some ob))
    (hK : ∀ r x os, R T.length k r x os → K r (T.set k x ++ os)) : CallK E f (args k) T K := by
  have hlt : k < T.length := (List.getElem?_eq_some_iff.1 hk).1
  refine ⟨_, _, by simp, fun j o hj => ?_, h T.length k hlt, fun r T1' ⟨x, os, hT, hR⟩ _ => ⟨T.set k x ++ os, by subst hT; exact Merged.one _ _ _ _ _ hk, hK r x os hR⟩⟩
  rw [getElem?_set] at hj
  by_cases e : k = j
  · subst e
    rw [if_pos rfl, if_pos (by simpa using hlt)] at hj
    rw [hk]; simpa using hj
  · rw [if_neg e] at hj; exact (getElem?_rep hj).elim
theorem CallK.mono {E : Prg} {f : Nat} {vals : List DV} {T : Objs} {K K' : DV → Objs → Prop} (h : CallK E f vals T K) (hk : ∀ d T', K d T' → K' d T') : CallK E f vals T K' := by
  obtain ⟨T1, R, h1, h2, h3, h4⟩ := h
  exact ⟨T1, R, h1, h2, h3, fun r T1' hR hl => let ⟨T', hm, hK⟩ := h4 r T1' hR hl; ⟨T', hm, hk _ _ hK⟩⟩

/-- What is known of functions that take nothing over: of which arguments, and what they come to (n: how many objects there are ahead). -/
structure FSpec where
  pre : Prop
  res : Nat → DV × Objs
abbrev FTab := Nat → List DV → Option FSpec
def FOk (E : Prg) (F : FTab) : Prop := ∀ f args s, F f args = some s → s.pre → PCalls E f args fun n r os => r = (s.res n).1 ∧ os = (s.res n).2

def callV (E : Prg) (x : Option FSpec) (dr : Bool) (f : Nat) (args : List DV) (T : Objs) (K : DV → Objs → Prop) : Prop :=
  match x with
  | some s => s.pre ∧ K (s.res T.length).1 (T ++ (s.res T.length).2)
  | none => if dr = true then False else CallK E f args T K

def DV.id : DV → Option Nat
  | .own o _ _ => some o
  | .ptr o _ _ => some o
  | _ => none

def ownIds : DV → List Nat
  | .own o _ _ => [o]
  | .agg cs => cs.filterMap fun
    | .own o _ _ => some o
    | _ => none
  | _ => []
def St.freezes : List Nat → St → St
  | [], st => st
  | o :: l, st => St.freezes l (st.freeze o)
/-- What an operation put is let go of, as an object of one's own, where that is told. -/
def St.fzd (z : Bool) (dst : Option Nat) (st : St) : St :=
  match z, dst with
  | true, some t => st.freezes (ownIds (st.get t))
  | _, _ => st
def St.rep (t : Nat) (d : DV) : List (Nat × DV) → List (Nat × DV)
  | [] => []
  | (k, x) :: l => if k = t then (t, d) :: l else (k, x) :: St.rep t d l
/-- It's known what a temporary holds. -/
def St.know (t : Nat) (b : Bool) (st : St) : St := { st with env := St.rep t (.bool b) st.env }
def St.knows (c : Opd) (b : Bool) (st : St) : St :=
  match c with
  | .t n => st.know n b
  | _ => st

/-- One operation. -/
def opWp (E : Prg) (F : FTab) (dr : Bool) (o : ROper) (K : St → Prop) (st : St) : Prop :=
  match o.op with
  | .call f l => callV E (F f (l.map (Opd.ev E st))) dr f (l.map (Opd.ev E st)) st.objs fun d T' => K ((({ st with objs := T' } : St).put o.dst d).fzd o.fz o.dst)
  | op => bindO (rvl E st op) fun p => K ((({ st with objs := p.2 } : St).put o.dst p.1).fzd o.fz o.dst)

def boolV : Value → Bool
  | .bool _ => true
  | _ => false
/-- What stands where an operation wasn't wanted. -/
def DV.no : DV := .lit Go.undef
/-- What is to be shown of a guard's value: it is told, or it wasn't wanted itself. -/
def bindG (d : DV) (f : Bool → Prop) (g : Prop) : Prop :=
  match d with
  | .bool b => f b
  | .lit v => boolV v = false ∧ g
  | _ => False
def stepWp (E : Prg) (F : FTab) (dr : Bool) (o : ROper) (K : St → Prop) (st : St) : Prop :=
  match o.guard with
  | none => opWp E F dr o K st
  | some (t, want) => bindG (st.get t) (fun b => cnd (b == want) (opWp E F dr o K (st.know t want)) (K ((st.know t (!want)).put o.dst .no))) (K (st.put o.dst .no))

def opsWp (E : Prg) (F : FTab) : List ROper → (St → Prop) → St → Prop
  | [], K, st => K st
  | o :: l, K, st => stepWp E F false o (opsWp E F l K) st

/-- An operation reads no object that another writes. -/
def clearOf (E : Prg) (st : St) (op : ROp) (p : Opd) : Prop := ∀ x ∈ op.opds, ∀ o, DV.id (x.ev E st) = some o → DV.id (p.ev E st) ≠ some o

def OT.wp (E : Prg) (F : FTab) : OT → (St → Prop) → St → Prop
  | .done, K, st => K st
  | .op o k, K, st => stepWp E F true o (k.wp E F K) st
  | .take o ps k, K, st => (∀ p ∈ ps, clearOf E st o.op p) ∧ stepWp E F true o (k.wp E F K) st
  | .alt a b, K, st => a.wp E F K st ∧ b.wp E F K st

def St.cut (lo : Nat) (keep : List Nat) (st : St) : St := { st with env := st.env.filter fun x => x.1 < lo || keep.contains x.1 }

def thenQ (K : St → Prop) (Q : Exit → St → Prop) : Exit → St → Prop
  | .normal, st => K st
  | e, st => Q e st
def inBlk (id : Nat) (Q : Exit → St → Prop) : Exit → St → Prop
  | .exit id', st => if id' = id then Q .normal st else Q (.exit id') st
  | e, st => Q e st

/-- The code does what Q says of it, from each frame and world that the state tells of. -/
def AWp (E : Prg) (n : Nat) (c : Code) (Q : Exit → St → Prop) (st : St) : Prop :=
  ∀ C a w, C.n = n → RelSt E C st a w → c.wp E.P (fun e a' w' => ∃ st', Q e st' ∧ RelSt E C st' a' w') a w

def LoopWp (E : Prg) (n : Nat) (b : RC) (Q : Exit → St → Prop) (st : St) : Prop := ∀ c ann, comp E.P n ann c = some b → AWp E n (.loop c) Q st

def RC.wp (E : Prg) (F : FTab) (n : Nat) : RC → (Exit → St → Prop) → St → Prop
  | .skip, Q, st => Q .normal st
  | .reg ops lo keep, Q, st => opsWp E F ops (fun st' => Q .normal (st'.cut lo keep)) st
  | .regD t lo keep, Q, st => t.wp E F (fun st' => Q .normal (st'.cut lo keep)) st
  | .seq a b, Q, st => a.wp E F n (thenQ (b.wp E F n Q) Q) st
  | .cond c t e, Q, st => match c.ev E st with
    | .bool b => cnd b (t.wp E F n Q (st.knows c true)) (e.wp E F n Q (st.knows c false))
    | _ => False
  | .blk id b, Q, st => b.wp E F n (inBlk id Q) st
  | .loop b, Q, st => LoopWp E n b Q st
  | .ext id, Q, st => Q (.exit id) st
  | .ret, Q, st => Q .ret st

theorem St.rep_self (t : Nat) (d : DV) : ∀ l : List (Nat × DV), St.look t l = d → St.rep t d l = l
  | [], _ => rfl
  | (k, x) :: l, h => by
    simp only [St.look] at h
    simp only [St.rep]
    by_cases e : k = t
    · rw [if_pos e] at h ⊢; subst e h; rfl
    · rw [if_neg e] at h ⊢; rw [St.rep_self t d l h]
theorem St.know_self {st : St} {t : Nat} {b : Bool} (h : st.get t = .bool b) : st.know t b = st := by
  unfold St.know
  rw [St.rep_self t _ st.env h]
theorem St.knows_self {E : Prg} {st : St} {c : Opd} {b : Bool} (h : c.ev E st = .bool b) : st.knows c b = st := by
  cases c with
  | t n => exact St.know_self h
  | _ => rfl

theorem St.look_filter (p : Nat → Bool) (t : Nat) : ∀ l : List (Nat × DV), St.look t (l.filter fun x => p x.1) = if p t then St.look t l else .undef
  | [] => by simp [St.look]
  | (k, d) :: l => by
    have ih := St.look_filter p t l
    simp only [List.filter_cons]
    by_cases hp : p k = true
    · simp only [hp, if_true, St.look]
      by_cases he : k = t
      · subst he; simp [hp]
      · simp [he, ih]
    · simp only [hp, if_false, St.look]
      by_cases he : k = t
      · subst he
        rw [if_pos rfl]
        simp only [Bool.false_eq_true, if_false, ih, hp]
      · rw [if_neg he]
        exact ih

/-- Less is known. -/
theorem RelG.less {E : Prg} {C : Ctx} {G : Gh} {st st' : St} {a : Act} {w : World} (h : RelG E C G st a w) (he : ∀ t, st'.get t = .undef ∨ st'.get t = st.get t) (hl : st'.objs.length = st.objs.length)
    (ho : ∀ (k : Nat) (ob : Ob), st'.objs[k]? = some (some ob) → st.objs[k]? = some (some ob)) : RelG E C G st' a w :=
  ⟨fun t => by
    rcases he t with h1 | h1
    · rw [h1]; exact .undef _
    · rw [h1]; exact h.env t, h.num, h.defs, h.heap.sub hl ho,
   ⟨h.frm.os, h.frm.tape, h.frm.output, h.frm.size, h.frm.blk, h.frm.cell, h.frm.frz, fun k r q m hk => h.frm.mine k r q m (ho k r hk), h.frm.rdn, h.frm.le, h.frm.mko⟩, h.glob⟩

theorem RelSt.cut {E : Prg} {C : Ctx} {st : St} {a : Act} {w : World} (h : RelSt E C st a w) (lo : Nat) (keep : List Nat) : RelSt E C (st.cut lo keep) a w := by
  obtain ⟨G, h⟩ := h
  refine ⟨G, h.less (fun t => ?_) rfl (fun k ob hk => hk)⟩
  simp only [St.get, St.cut]
  rw [St.look_filter (fun k => decide (k < lo) || keep.contains k)]
  split
  · exact .inr rfl
  · exact .inl rfl

theorem RelSt.freezes {E : Prg} {C : Ctx} {a : Act} {w : World} : ∀ (L : List Nat) {st : St}, RelSt E C st a w → RelSt E C (st.freezes L) a w
  | [], _, h => h
  | o :: L, st, h => by
    obtain ⟨G, h⟩ := h
    exact RelSt.freezes L (h.freeze o)

theorem cArgs_rel {E : Prg} {C : Ctx} {G : Gh} {st : St} {a : Act} {w : World} (hr : RelG E C G st a w) : ∀ {l : List Operand} {l' : List Opd}, cArgs l = some l' → l.length = l'.length ∧ ∀ (i : Nat) d, (l'.map (Opd.ev E st))[i]? = some d → Rel G d ((l.map a.eval).toArray.getD i undef)
  | [], l', h => by
    obtain rfl := Option.some.inj h
    exact ⟨rfl, by simp⟩
  | x :: l, l', h => by
    simp only [cArgs] at h
    split at h
    · rename_i y l2 h1 h2
      obtain rfl := Option.some.inj h
      obtain ⟨h3, h4⟩ := cArgs_rel hr h2
      refine ⟨by simp [h3], fun i d hd => ?_⟩
      rcases i with _ | i
      · simp at hd; subst hd
        rw [getD_toList _ 0 (a.eval x) (by simp)]
        exact hr.ev h1
      · have hd' : (l2.map (Opd.ev E st))[i]? = some d := by simpa using hd
        have := h4 i d hd'
        have hi : i < l.length := by rw [h3]; simpa using (List.getElem?_eq_some_iff.1 hd').1
        rw [getD_toList _ i (a.eval l[i]) (by simp [hi])] at this
        rw [getD_toList _ (i + 1) (a.eval l[i]) (by simp [hi])]
        exact this
    · cases h

theorem RelSt.fzd {E : Prg} {C : Ctx} {st : St} {a : Act} {w : World} (h : RelSt E C st a w) (z : Bool) (dst : Option Nat) : RelSt E C (st.fzd z dst) a w := by
  unfold St.fzd
  split
  · exact h.freezes _
  · exact h

/-- An operation that is carried out. -/
theorem opWp_sound {E : Prg} {F : FTab} (hF : FOk E F) {dr : Bool} {n : Nat} {fz : List Nat} {ops : Array Oper} {o : Oper} {r : ROper} (hc : compOper E.P n fz ops o = some r) {C : Ctx} (hn : C.n = n) {st : St} {a : Act} {w : World} {K : St → Prop} (hr : RelSt E C st a w) (h : opWp E F dr r K st)
    {next : Act → World → Prop} {Q : Exit → Act → World → Prop} (hnext : ∀ st' a' w', K st' → RelSt E C st' a' w' → next a' w') : o.wp E.P a w next Q := by
  obtain ⟨hop, hrd, hdst, _⟩ := compOper_inv hc
  have hd : ∀ t, o.dst = some t → t < C.n := fun t ht => by rw [hn]; exact dstOk_lt hdst t ht
  generalize hrop : r.op = rop at hop
  unfold opWp at h
  rw [hrop, hrd] at h
  rcases compOp_ok hop with ⟨c, f, l, ho, rfl, hcal, hargs, hb⟩ | ⟨hok, hnc⟩
  · have h' : CallK E f (l.map (Opd.ev E st)) st.objs fun d T' => K ((({ st with objs := T' } : St).put o.dst d).fzd r.fz o.dst) := by
      simp only [callV] at h
      split at h
      · rename_i s hs
        refine CallK.pure (hF f _ s hs h.1) fun d os ⟨h1, h2⟩ => ?_
        subst h1 h2
        exact h.2
      · split at h
        · exact h.elim
        · exact h
    obtain ⟨T1, R, hl1, hs1, hg, hK⟩ := h'
    obtain ⟨G, hG⟩ := hr
    obtain ⟨hal, hrel⟩ := cArgs_rel hG hargs
    have hrun : (execOp a.eval o).run E.P w = .ok (.enter f (c.args.map a.eval)) w := by
      unfold hasBody at hb
      cases hf : E.P.funcs[f]? with
      | none => rw [hf] at hb; cases hb
      | some fn =>
        rw [hf] at hb
        simp only [Bool.and_eq_true, Bool.not_eq_true'] at hb
        have h4 : fn.body ≠ none := fun e => by simp [e] at hb
        have h3 : ¬ fn.name = "runtime.NumGoroutine" := by simpa using hb.2
        simp [execOp, ho, resolve, hcal, Act.eval, Deferred.ofValue, invoke, callFunc, hf, h3, h4]
    have hcalls := hg G w (c.args.map a.eval) hG.glob (hG.heap.sub hl1 hs1) (by simp; simpa using hal) (by
      have : c.args.map a.eval = (c.args.toList.map a.eval).toArray := by apply Array.ext'; simp
      rw [this]; exact hrel)
    unfold Oper.wp
    rw [hrun, Oper.upon_enter]
    refine hcalls.mono fun e w' ⟨v, rr, T1', G', he, hR, hlen, hrel', hh, hf⟩ => ?_
    subst he
    obtain ⟨T', hm, hk⟩ := hK rr T1' hR hlen
    exact hnext _ _ _ hk (RelSt.fzd ⟨G', (hG.called hm hh hf (by omega)).put hd hrel'⟩ _ _)
  · have h' : bindO (rvl E st rop) fun p => K ((({ st with objs := p.2 } : St).put o.dst p.1).fzd r.fz o.dst) := by
      cases rop <;> first | exact h | cases hnc
    rw [rvl_eq] at h'
    cases hv : rval E st rop with
    | none => rw [hv] at h'; exact h'.elim
    | some x =>
      obtain ⟨d, objs'⟩ := x
      rw [hv] at h'
      obtain ⟨G, hG⟩ := hr
      obtain ⟨nx, v, w', G', h1, h2, h3, h4⟩ := hok C G st a w d objs' hG hv
      unfold Oper.wp
      rw [h1]
      rcases h2 with rfl | ⟨rfl, rfl⟩
      · exact hnext _ _ _ h' (RelSt.fzd ⟨G', h3.put hd h4⟩ _ _)
      · exact hnext _ _ _ h' (RelSt.fzd ⟨G', h3.put hd h4⟩ _ _)

theorem yielded_of {E : Prg} {C : Ctx} {G : Gh} {st : St} {a : Act} {w : World} (hr : RelG E C G st a w) {ops : Array Oper} {j t : Nat} {b : Bool} (hj : (ops[j]?).bind (·.dst) = some t) (hb : st.get t = .bool b) : yielded ops a.tmps j = some b := by
  have r := hr.env t
  rw [hb] at r
  unfold yielded
  rw [hj]
  generalize hu : a.tmps.getD t undef = u at r
  cases r
  rw [Array.getD_eq_getD_getElem?] at hu
  cases hx : a.tmps[t]? with
  | none => rw [hx] at hu; simp [undef] at hu
  | some x => rw [hx] at hu; simp at hu; subst hu; simp [hx]

theorem yielded_not {E : Prg} {C : Ctx} {G : Gh} {st : St} {a : Act} {w : World} (hr : RelG E C G st a w) {ops : Array Oper} {j t : Nat} {v : Value} (hj : (ops[j]?).bind (·.dst) = some t) (hb : st.get t = .lit v) (hv : boolV v = false) : yielded ops a.tmps j = none := by
  have r := hr.env t
  rw [hb] at r
  unfold yielded
  rw [hj]
  generalize hu : a.tmps.getD t undef = u at r
  cases r
  rw [Array.getD_eq_getD_getElem?] at hu
  cases hx : a.tmps[t]? with
  | none => simp [hx]
  | some x =>
    rw [hx] at hu
    simp at hu
    subst hu
    simp only [Option.bind_some, hx]
    cases x <;> first | rfl | cases hv

theorem stepWp_sound {E : Prg} {F : FTab} (hF : FOk E F) {dr : Bool} {n : Nat} {fz : List Nat} {ops : Array Oper} {o : Oper} {r : ROper} (hc : compOper E.P n fz ops o = some r) {C : Ctx} (hn : C.n = n) {st : St} {a : Act} {w : World} {K : St → Prop} (hr : RelSt E C st a w) (h : stepWp E F dr r K st)
    {next : Act → World → Prop} {Q : Exit → Act → World → Prop} (hnext : ∀ st' a' w', K st' → RelSt E C st' a' w' → next a' w') :
    if Region.wanted o (yielded ops a.tmps) then o.wp E.P a w next Q ∨ (o.asks E.P a w ∧ LetsOut Q) else next (a.put o.dst undef) w := by
  obtain ⟨_, hrd, hdst0, hguard⟩ := compOper_inv hc
  have hdst : ∀ t, o.dst = some t → t < C.n := fun t ht => by rw [hn]; exact dstOk_lt hdst0 t ht
  unfold stepWp at h
  rcases hguard with ⟨hg1, hg2⟩ | ⟨j, t, want, hg1, hg2, hj⟩
  · rw [hg1] at h
    rw [if_pos (by simp [Region.wanted, hg2])]
    exact .inl (opWp_sound hF hc hn hr h hnext)
  · rw [hg1] at h
    simp only [bindG] at h
    split at h
    · rename_i b hb
      obtain ⟨G, hG⟩ := hr
      have hy := yielded_of hG hj hb
      unfold cnd at h
      by_cases hw : b = want
      · subst hw
        rw [if_pos (by simp), St.know_self hb] at h
        rw [if_pos (by simp [Region.wanted, hg2, hy])]
        exact .inl (opWp_sound hF hc hn ⟨G, hG⟩ h hnext)
      · have hbw : b = !want := by cases b <;> cases want <;> simp_all
        rw [if_neg (by simpa using hw), St.know_self (by rw [hb, hbw])] at h
        rw [if_neg (by simp [Region.wanted, hg2, hy, hw])]
        refine hnext _ _ _ h ⟨G, ?_⟩
        rw [hrd]
        exact hG.put hdst (.lit _)
    · rename_i v hb
      obtain ⟨G, hG⟩ := hr
      have hy := yielded_not hG hj hb h.1
      rw [if_neg (by simp [Region.wanted, hg2, hy])]
      refine hnext _ _ _ h.2 ⟨G, ?_⟩
      rw [hrd]
      exact hG.put hdst (.lit _)
    · exact h.elim

theorem opsWp_sound {E : Prg} {F : FTab} (hF : FOk E F) {n : Nat} {fz : List Nat} {ops : Array Oper} : ∀ (l : List Oper) (rl : List ROper), compOps E.P n fz ops l = some rl → ∀ {C : Ctx}, C.n = n → ∀ {st : St} {a : Act} {w : World} {K : St → Prop}, RelSt E C st a w → opsWp E F rl K st →
    ∀ {Q : Exit → Act → World → Prop}, (∀ st' a' w', K st' → RelSt E C st' a' w' → Q .normal a' w') → wpList E.P ops Q l a w
  | [], rl, hc, C, hn, st, a, w, K, hr, h, Q, hQ => by
    obtain rfl := Option.some.inj hc
    exact hQ st a w h hr
  | o :: l, rl, hc, C, hn, st, a, w, K, hr, h, Q, hQ => by
    simp only [compOps] at hc
    cases h1 : compOper E.P n fz ops o with
    | none => rw [h1] at hc; cases hc
    | some r =>
      cases h2 : compOps E.P n fz ops l with
      | none => rw [h1, h2] at hc; cases hc
      | some l' =>
        rw [h1, h2] at hc
        obtain rfl := Option.some.inj hc
        simp only [opsWp] at h
        unfold wpList
        exact stepWp_sound hF h1 hn hr h fun st' a' w' hk hr' => opsWp_sound hF l l' h2 hn hr' hk hQ

end Go.Proofs.YteemmpghpdaloaaDoor
