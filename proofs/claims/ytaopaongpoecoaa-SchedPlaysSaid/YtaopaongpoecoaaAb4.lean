/- Each operation does what 'rval' says: those that only reckon. -/
import Derived.Test.YtaopaongpoecoaaAb3
import Derived.Laws.Entries
import Derived.Laws.Cells
import Derived.Laws.Strings
import Derived.Laws.Small
set_option linter.unusedVariables false
set_option linter.unusedSimpArgs false
namespace Go.Proofs.Ytaopaongpoecoaa
open Go.RowKit

/-- A constant's abstract value; of one cell. -/
def dvOf1 : Value → Option DV
  | .int k n => some (.int k n)
  | .bool b => some (.bool b)
  | .string s => some (.str s.data.toList)
  | .slice none 0 0 => some (.sl 0 [] .nil)
  | .pointer none => some (.lit (.pointer none))
  | .map none => some (.lit (.map none))
  | .nilIface => some (.lit .nilIface)
  | .nilFunc => some (.lit .nilFunc)
  | .func f a b => some (.lit (.func f a b))
  | _ => none
def dvOfs : List Value → Option (List DV)
  | [] => some []
  | v :: l => match dvOf1 v, dvOfs l with
    | some d, some ds => some (d :: ds)
    | _, _ => none
def dvOf : Value → Option DV
  | .agg cs => (dvOfs cs.toList).map .agg
  | v => dvOf1 v

theorem dvOf1_rel {G : Gh} {v : Value} {d : DV} (h : dvOf1 v = some d) : Rel G d v := by
  unfold dvOf1 at h
  split at h <;> first
    | (cases h; done)
    | (obtain rfl := Option.some.inj h; first
        | exact .int _ _ | exact .bool _ | exact .str _ | exact .lit _
        | exact .sl 0 [] .nil none 0 0 0 0 (fun _ _ => undef) rfl ⟨rfl, rfl⟩ (Nat.le_refl _) (fun h => absurd rfl h) (by simp) (by simp) (by simp))
theorem dvOf1_one {v : Value} {d : DV} (h : dvOf1 v = some d) : d.one = true ∧ v.oneCell' = true := by
  unfold dvOf1 at h
  split at h <;> first
    | (cases h; done)
    | (obtain rfl := Option.some.inj h; exact ⟨rfl, rfl⟩)
theorem dvOfs_rel {G : Gh} : ∀ {l : List Value} {ds : List DV}, dvOfs l = some ds → ds.length = l.length ∧ ∀ (i : Nat) d v, ds[i]? = some d → l[i]? = some v → Rel G d v ∧ d.one = true ∧ v.oneCell' = true
  | [], ds, h => by
    obtain rfl := Option.some.inj h
    exact ⟨rfl, by simp⟩
  | v :: l, ds, h => by
    unfold dvOfs at h
    split at h
    · rename_i d ds' h1 h2
      obtain rfl := Option.some.inj h
      obtain ⟨h3, h4⟩ := dvOfs_rel (G := G) h2
      refine ⟨by simp [h3], fun i d' v' hd hv => ?_⟩
      rcases i with _ | i
      · simp at hd hv; subst hd hv
        exact ⟨dvOf1_rel h1, dvOf1_one h1⟩
      · exact h4 i d' v' (by simpa using hd) (by simpa using hv)
    · cases h
theorem getD_toList (vs : Array Value) (i : Nat) (v : Value) (h : vs.toList[i]? = some v) : vs.getD i undef = v := by
  rw [Array.getElem?_toList] at h
  simp [Array.getD_eq_getD_getElem?, h]
theorem dvOf_rel {G : Gh} {v : Value} {d : DV} (h : dvOf v = some d) : Rel G d v := by
  unfold dvOf at h
  split at h
  · rename_i cs
    obtain ⟨ds, hds, rfl⟩ := Option.map_eq_some_iff.1 h
    obtain ⟨h1, h2⟩ := dvOfs_rel (G := G) hds
    refine .agg ds cs (by simpa using h1.symm) (fun i c hc => ?_)
    have hi : i < cs.toList.length := by rw [← h1]; exact (List.getElem?_eq_some_iff.1 hc).1
    have hv : cs.toList[i]? = some cs.toList[i] := List.getElem?_eq_getElem hi
    rw [getD_toList cs i _ hv]
    exact (h2 i c _ hc hv).1
  · exact dvOf1_rel h

def copd : Operand → Option Opd
  | .tmp t => some (.t t)
  | .const v => (dvOf v).map .c
  | .global g => some (.g g)
  | .func f => some (.c (.lit (.func (.func f) #[] #[])))

theorem RelG.ev {E : Prg} {C : Ctx} {G : Gh} {st : St} {a : Act} {w : World} (h : RelG E C G st a w) {x : Operand} {y : Opd} (hx : copd x = some y) : Rel G (y.ev E st) (a.eval x) := by
  cases x with
  | tmp t => obtain rfl := Option.some.inj hx; exact h.env t
  | const v =>
    obtain ⟨d, hd, rfl⟩ := Option.map_eq_some_iff.1 hx
    exact dvOf_rel hd
  | global g =>
    obtain rfl := Option.some.inj hx
    simp only [Opd.ev]
    split
    · exact h.glob g _ (by assumption)
    · exact .undef _
  | func f => obtain rfl := Option.some.inj hx; exact .lit _

theorem Rel.oneCell {G : Gh} {d : DV} {v : Value} (r : Rel G d v) (h : d.one = true) : v.oneCell' = true := by
  cases r <;> simp_all [DV.one, Value.oneCell']

theorem Rel.cells {G : Gh} {d : DV} {v : Value} {cs : List DV} (r : Rel G d v) (h : d.cells = some cs) :
    v.cells.size = cs.length ∧ ∀ (i : Nat) c, cs[i]? = some c → Rel G c (v.cells.getD i Go.undef) := by
  unfold DV.cells at h
  split at h
  · obtain rfl := Option.some.inj h
    cases r with
    | agg _ vs hs hc => exact ⟨hs, hc⟩
  · split at h
    · obtain rfl := Option.some.inj h
      have h1 : v.cells = #[v] := by
        have := r.oneCell (by assumption)
        cases v <;> first | rfl | simp [Value.oneCell'] at this
      rw [h1]
      refine ⟨rfl, fun i c hc => ?_⟩
      rcases i with _ | i
      · simp at hc; subst hc; exact r
      · simp at hc
    · cases h

/-- An operation that makes no block and writes none. -/
structure Quiet (E : Prg) (s : Sem Next) (w : World) (G : Gh) (d : DV) : Prop where
  run : ∃ v, s.run E.P w = .ok (.value v) w ∧ Rel G d v

theorem runs_pure {E : Prg} {w : World} {G : Gh} {d : DV} {v : Value} (r : Rel G d v) : ∃ x, (Sem.run E.P (pure (Next.value v) : Sem Next) w) = .ok (.value x) w ∧ Rel G d x := ⟨v, rfl, r⟩

theorem fstr (s : ByteArray) : (⟨s.data.toList.toArray⟩ : ByteArray) = s := by cases s; simp

theorem binInt_run (P : Program) (w : World) (op : BinOp) (k : IntKind) (t : TypeId) (a b : Int) (d : DV) (h : binOf op k a b = some d) (h1 : op ≠ .shl) (h2 : op ≠ .shr) :
    ∃ v, (binOp op t (.int k a) (.int k b)).run P w = .ok v w ∧ ∀ G, Rel G d v := by
  cases op <;> simp only [binOf, ne_eq, not_true_eq_false, reduceCtorEq, Option.some.injEq] at h h1 h2 <;> first
    | (subst h; exact ⟨_, by simp only [binOp, ne_eq, not_true_eq_false, if_false]; rfl, fun _ => .int _ _⟩)
    | (subst h; exact ⟨_, by simp only [binOp, ne_eq, not_true_eq_false, if_false]; rfl, fun _ => .bool _⟩)
    | (split at h
       · cases h
       · rename_i hb
         obtain rfl := Option.some.inj h
         exact ⟨_, by simp only [binOp, ne_eq, not_true_eq_false, if_false, Op.intDiv, if_neg hb]; rfl, fun _ => .int _ _⟩)

theorem shift_run (P : Program) (w : World) (op : BinOp) (k k' : IntKind) (t : TypeId) (a b : Int) (d : DV) (h : shiftOf op k a b = some d) :
    ∃ v, (binOp op t (.int k a) (.int k' b)).run P w = .ok v w ∧ ∀ G, Rel G d v := by
  cases op <;> simp only [shiftOf, reduceCtorEq] at h <;>
    (split at h
     · cases h
     · rename_i hb
       obtain rfl := Option.some.inj h
       exact ⟨_, by simp only [binOp, Op.shift, if_neg hb]; rfl, fun _ => .int _ _⟩)


/-- An operation does what 'rval' says. -/
def OpOk (E : Prg) (o : Oper) (r : ROp) : Prop := ∀ (C : Ctx) (G : Gh) (st : St) (a : Act) (w : World) (d : DV) (objs' : Objs), RelG E C G st a w → rval E st r = some (d, objs') →
  ∃ nx v w' G', (execOp a.eval o).run E.P w = .ok nx w' ∧ (nx = .value v ∨ (nx = .skip ∧ v = Go.undef)) ∧ RelG E C G' { st with objs := objs' } a w' ∧ Rel G' d v

theorem OpOk.quiet {E : Prg} {o : Oper} {r : ROp} (h : ∀ (C : Ctx) (G : Gh) (st : St) (a : Act) (w : World) (d : DV) (objs' : Objs), RelG E C G st a w → rval E st r = some (d, objs') →
    objs' = st.objs ∧ ∃ v, (execOp a.eval o).run E.P w = .ok (.value v) w ∧ Rel G d v) : OpOk E o r := by
  intro C G st a w d objs' hr hv
  obtain ⟨rfl, v, h1, h2⟩ := h C G st a w d objs' hr hv
  exact ⟨_, v, w, G, h1, .inl rfl, hr, h2⟩

theorem ok_mov {E : Prg} {o : Oper} {x : Operand} {y : Opd} (ho : o.op = .move x ∨ o.op = .assign x) (hx : copd x = some y) : OpOk E o (.mov y) := by
  refine OpOk.quiet fun C G st a w d objs' hr hv => ?_
  simp only [rval, Option.some.injEq, Prod.mk.injEq] at hv
  obtain ⟨rfl, rfl⟩ := hv
  refine ⟨rfl, a.eval x, ?_, hr.ev hx⟩
  rcases ho with ho | ho <;> simp [execOp, ho]

theorem ok_pick {E : Prg} {o : Oper} {x1 x2 x3 : Operand} {y1 y2 y3 : Opd} (ho : o.op = .pick x1 x2 x3) (h1 : copd x1 = some y1) (h2 : copd x2 = some y2) (h3 : copd x3 = some y3) : OpOk E o (.pick y1 y2 y3) := by
  refine OpOk.quiet fun C G st a w d objs' hr hv => ?_
  simp only [rval] at hv
  have r1 := hr.ev h1
  split at hv
  · rename_i t ht
    rw [ht] at r1
    simp only [Option.some.injEq, Prod.mk.injEq] at hv
    obtain ⟨rfl, rfl⟩ := hv
    generalize hu : a.eval x1 = u at r1
    cases r1
    refine ⟨rfl, if t then a.eval x2 else a.eval x3, by simp [execOp, ho, hu, asBool], ?_⟩
    cases t
    · exact hr.ev h3
    · exact hr.ev h2
  · cases hv

theorem ok_nilck {E : Prg} {o : Oper} {x : Operand} {y : Opd} (ho : o.op = .nilCheck x) (hx : copd x = some y) : OpOk E o (.nilck y) := by
  refine OpOk.quiet fun C G st a w d objs' hr hv => ?_
  simp only [rval] at hv
  have r1 := hr.ev hx
  split at hv
  · rename_i t i j ht
    rw [ht] at r1
    simp only [Option.some.injEq, Prod.mk.injEq] at hv
    obtain ⟨rfl, rfl⟩ := hv
    refine ⟨rfl, a.eval x, ?_, r1⟩
    generalize hu : a.eval x = u at r1
    cases r1
    simp [execOp, ho, hu]
  · rename_i row j ht
    rw [ht] at r1
    simp only [Option.some.injEq, Prod.mk.injEq] at hv
    obtain ⟨rfl, rfl⟩ := hv
    refine ⟨rfl, a.eval x, ?_, r1⟩
    generalize hu : a.eval x = u at r1
    cases r1
    simp [execOp, ho, hu]
  · cases hv

theorem strOf_run (P : Program) (w : World) (op : BinOp) (t : TypeId) (a b : List UInt8) (d : DV) (h : strOf op a b = some d) :
    ∃ v, (binOp op t (.string ⟨a.toArray⟩) (.string ⟨b.toArray⟩)).run P w = .ok v w ∧ ∀ G, Rel G d v := by
  have ha : (⟨a.toArray⟩ : ByteArray).toList = a := ByteArray.toList_mk a
  have hb : (⟨b.toArray⟩ : ByteArray).toList = b := ByteArray.toList_mk b
  have e : ∀ op, binOp op t (.string ⟨a.toArray⟩) (.string ⟨b.toArray⟩) = Op.stringOp op ⟨a.toArray⟩ ⟨b.toArray⟩ := fun op => by cases op <;> rfl
  rw [e]
  cases op <;> simp only [strOf, reduceCtorEq, Option.some.injEq] at h <;> first
    | (subst h; exact ⟨_, by simp only [Op.stringOp, ha, hb]; rfl, fun _ => .bool _⟩)
    | (split at h
       · rename_i hle
         obtain rfl := Option.some.inj h
         refine ⟨.string ⟨(a ++ b).toArray⟩, ?_, fun _ => .str _⟩
         have hn : ¬ ((((⟨a.toArray⟩ : ByteArray).size + (⟨b.toArray⟩ : ByteArray).size : Nat) : Int) > IntKind.i64.max) := by
           simp [ByteArray.size]; omega
         simp only [Op.stringOp, if_neg hn]
         have : (⟨a.toArray⟩ : ByteArray) ++ ⟨b.toArray⟩ = ⟨(a ++ b).toArray⟩ := by
           apply ByteArray.ext; simp
         rw [this]; rfl
       · cases h)

theorem ok_bin {E : Prg} {o : Oper} {op : BinOp} {t t' : TypeId} {x1 x2 : Operand} {y1 y2 : Opd} (ho : o.op = .binOp op t x1 x2 t') (h1 : copd x1 = some y1) (h2 : copd x2 = some y2) : OpOk E o (.bin op y1 y2) := by
  refine OpOk.quiet fun C G st a w d objs' hr hv => ?_
  simp only [rval] at hv
  have r1 := hr.ev h1
  have r2 := hr.ev h2
  split at hv
  · rename_i k n k' m e1 e2
    rw [e1] at r1; rw [e2] at r2
    generalize hu : a.eval x1 = u at r1
    generalize hu' : a.eval x2 = u' at r2
    cases r1; cases r2
    obtain ⟨d', hd, he⟩ := Option.map_eq_some_iff.1 hv
    obtain ⟨rfl, rfl⟩ := Prod.mk.inj he
    refine ⟨rfl, ?_⟩
    have key : ∃ v, (binOp op t (.int k n) (.int k' m)).run E.P w = .ok v w ∧ ∀ G, Rel G d' v := by
      split at hd
      · exact shift_run _ _ _ _ _ _ _ _ _ hd
      · exact shift_run _ _ _ _ _ _ _ _ _ hd
      · rename_i hs1 hs2
        split at hd
        · subst k'
          exact binInt_run _ _ _ _ _ _ _ _ hd (fun e => hs1 e) (fun e => hs2 e)
        · cases hd
    obtain ⟨v, hv, hr'⟩ := key
    exact ⟨v, by simp [execOp, ho, hu, hu', eqGuard_at_int, hv], hr' G⟩
  · rename_i s s' e1 e2
    rw [e1] at r1; rw [e2] at r2
    generalize hu : a.eval x1 = u at r1
    generalize hu' : a.eval x2 = u' at r2
    cases r1; cases r2
    obtain ⟨d', hd, he⟩ := Option.map_eq_some_iff.1 hv
    obtain ⟨rfl, rfl⟩ := Prod.mk.inj he
    obtain ⟨v, hv, hr'⟩ := strOf_run E.P w op t s s' d' hd
    exact ⟨rfl, v, by simp [execOp, ho, hu, hu', eqGuard_at_string, hv], hr' G⟩
  · cases hv

theorem ok_eqB {E : Prg} {o : Oper} {neg : Bool} {t t' : TypeId} {x1 x2 : Operand} {y1 y2 : Opd} (ho : o.op = .binOp (if neg then .neq else .eql) t x1 x2 t') (ht : E.P.underlying t = some .bool)
    (h1 : copd x1 = some y1) (h2 : copd x2 = some y2) : OpOk E o (.eqB neg y1 y2) := by
  refine OpOk.quiet fun C G st a w d objs' hr hv => ?_
  simp only [rval] at hv
  have r1 := hr.ev h1
  have r2 := hr.ev h2
  split at hv
  · rename_i b b' e1 e2
    rw [e1] at r1; rw [e2] at r2
    generalize hu : a.eval x1 = u at r1
    generalize hu' : a.eval x2 = u' at r2
    cases r1; cases r2
    simp only [Option.some.injEq, Prod.mk.injEq] at hv
    obtain ⟨rfl, rfl⟩ := hv
    have heq := run_equal_bool (P := E.P) w t b b' ht
    have hbe : (b == b') = decide (b = b') := by cases b <;> cases b' <;> rfl
    refine ⟨rfl, .bool (if neg then !decide (b = b') else decide (b = b')), ?_, .bool _⟩
    cases neg
    · simp only [Bool.false_eq_true, if_false] at ho ⊢
      have : binOp .eql t (.bool b) (.bool b') = (do pure (.bool (← Op.equal t (.bool b) (.bool b')))) := rfl
      simp [execOp, ho, hu, hu', eqGuard_at_bool, this, heq, hbe]
    · simp only [if_true] at ho ⊢
      have : binOp .neq t (.bool b) (.bool b') = (do pure (.bool (!(← Op.equal t (.bool b) (.bool b'))))) := rfl
      simp [execOp, ho, hu, hu', eqGuard_at_bool, this, heq, hbe]
  · cases hv

theorem run_equalIn_nil {P : Program} (w : World) (d : Nat) (t e : TypeId) (p : Option Addr) (n m c : Nat) (h : P.underlying t = some (.slice e)) : (Op.equalIn (d + 1) t (.slice p n c) (.slice none m 0)).run P w = .ok p.isNone w := by
  cases p <;> simp [Op.equalIn, run_underlying h]
theorem run_equal_nil {P : Program} (w : World) (t e : TypeId) (p : Option Addr) (n m c : Nat) (h : P.underlying t = some (.slice e)) : (Op.equal t (.slice p n c) (.slice none m 0)).run P w = .ok p.isNone w :=
  run_equalIn_nil w 9999 t e p n m c h

theorem ok_eqNil {E : Prg} {o : Oper} {neg : Bool} {t t' e : TypeId} {x1 x2 : Operand} {y1 y2 : Opd} (ho : o.op = .binOp (if neg then .neq else .eql) t x1 x2 t') (ht : E.P.underlying t = some (.slice e))
    (h1 : copd x1 = some y1) (h2 : copd x2 = some y2) : OpOk E o (.eqNil neg y1 y2) := by
  refine OpOk.quiet fun C G st a w d objs' hr hv => ?_
  simp only [rval] at hv
  have r1 := hr.ev h1
  have r2 := hr.ev h2
  split at hv
  · rename_i sz rows k sz' rows' e1 e2
    rw [e1] at r1; rw [e2] at r2
    generalize hu : a.eval x1 = u at r1
    generalize hu' : a.eval x2 = u' at r2
    cases r1 with
    | sl _ _ _ p len cap _ _ _ _ hk =>
      cases r2 with
      | sl _ _ _ p' len' cap' _ _ _ _ hk' =>
        obtain ⟨rfl, rfl⟩ := hk'
        obtain ⟨b, hb, he⟩ := Option.map_eq_some_iff.1 hv
        obtain ⟨rfl, rfl⟩ := Prod.mk.inj he
        have hp : p.isNone = b := by
          cases k <;> simp only [reduceCtorEq, Option.some.injEq] at hb
          · subst hb; simp [hk.1]
          · subst hb; simpa [SK.ok] using hk
        have heq : (Op.equal t (.slice p len cap) (.slice none len' 0)).run E.P w = .ok b w := by
          exact (run_equal_nil w t e p len len' cap ht).trans (by rw [hp])
        refine ⟨rfl, .bool (if neg then !b else b), ?_, .bool _⟩
        cases neg
        · simp only [Bool.false_eq_true, if_false] at ho ⊢
          have : binOp .eql t (.slice p len cap) (.slice none len' 0) = (do pure (.bool (← Op.equal t (.slice p len cap) (.slice none len' 0)))) := rfl
          simp [execOp, ho, hu, hu', eqGuard_at_slice, this, heq]
        · simp only [if_true] at ho ⊢
          have : binOp .neq t (.slice p len cap) (.slice none len' 0) = (do pure (.bool (!(← Op.equal t (.slice p len cap) (.slice none len' 0))))) := rfl
          simp [execOp, ho, hu, hu', eqGuard_at_slice, this, heq]
  · cases hv

theorem run_equalIn_ptr {P : Program} (w : World) (d : Nat) (t e : TypeId) (p : Option Addr) (h : P.underlying t = some (.pointer e)) : (Op.equalIn (d + 1) t (.pointer p) (.pointer none)).run P w = .ok p.isNone w := by
  cases p <;> simp [Op.equalIn, run_underlying h]
theorem run_equal_ptr {P : Program} (w : World) (t e : TypeId) (p : Option Addr) (h : P.underlying t = some (.pointer e)) : (Op.equal t (.pointer p) (.pointer none)).run P w = .ok p.isNone w := run_equalIn_ptr w 9999 t e p h
theorem ok_eqP {E : Prg} {o : Oper} {neg : Bool} {t t' e : TypeId} {x1 x2 : Operand} {y1 y2 : Opd} (ho : o.op = .binOp (if neg then .neq else .eql) t x1 x2 t') (ht : E.P.underlying t = some (.pointer e))
    (h1 : copd x1 = some y1) (h2 : copd x2 = some y2) : OpOk E o (.eqP neg y1 y2) := by
  refine OpOk.quiet fun C G st a w d objs' hr hv => ?_
  simp only [rval] at hv
  have r1 := hr.ev h1
  have r2 := hr.ev h2
  obtain ⟨b, hb, he⟩ := Option.map_eq_some_iff.1 hv
  obtain ⟨rfl, rfl⟩ := Prod.mk.inj he
  have key : ∃ p : Option Addr, a.eval x1 = .pointer p ∧ a.eval x2 = .pointer none ∧ p.isNone = b := by
    generalize hu : a.eval x1 = u at r1
    generalize hu' : a.eval x2 = u' at r2
    unfold nilP at hb
    split at hb
    · rename_i e1 e2
      rw [e1] at r1; rw [e2] at r2
      obtain rfl := Option.some.inj hb
      cases r1; cases r2; exact ⟨_, rfl, rfl, rfl⟩
    · rename_i e1 e2
      rw [e1] at r1; rw [e2] at r2
      obtain rfl := Option.some.inj hb
      cases r1; cases r2; exact ⟨_, rfl, rfl, rfl⟩
    · rename_i e1 e2
      rw [e1] at r1; rw [e2] at r2
      obtain rfl := Option.some.inj hb
      cases r1; cases r2; exact ⟨_, rfl, rfl, rfl⟩
    · cases hb
  obtain ⟨p, hu, hu', hp⟩ := key
  have heq : (Op.equal t (.pointer p) (.pointer none)).run E.P w = .ok b w := (run_equal_ptr w t e p ht).trans (by rw [hp])
  refine ⟨rfl, .bool (if neg then !b else b), ?_, .bool _⟩
  cases neg
  · simp only [Bool.false_eq_true, if_false] at ho ⊢
    have : binOp .eql t (.pointer p) (.pointer none) = (do pure (.bool (← Op.equal t (.pointer p) (.pointer none)))) := by cases p <;> rfl
    simp [execOp, ho, hu, hu', eqGuard_at_pointer, this, heq]
  · simp only [if_true] at ho ⊢
    have : binOp .neq t (.pointer p) (.pointer none) = (do pure (.bool (!(← Op.equal t (.pointer p) (.pointer none))))) := by cases p <;> rfl
    simp [execOp, ho, hu, hu', eqGuard_at_pointer, this, heq]

theorem ok_un {E : Prg} {o : Oper} {op : UnOp} {t : TypeId} {x : Operand} {y : Opd} (ho : o.op = .unOp op t x) (hx : copd x = some y) : OpOk E o (.un op y) := by
  refine OpOk.quiet fun C G st a w d objs' hr hv => ?_
  simp only [rval] at hv
  have r1 := hr.ev hx
  obtain ⟨d', hd, he⟩ := Option.map_eq_some_iff.1 hv
  obtain ⟨rfl, rfl⟩ := Prod.mk.inj he
  refine ⟨rfl, ?_⟩
  generalize hu : a.eval x = u at r1
  unfold unOf at hd
  split at hd
  · rename_i k n e1
    rw [e1] at r1; cases r1
    obtain rfl := Option.some.inj hd
    exact ⟨.int k (k.wrap (0 - n)), by simp [execOp, ho, hu, Op.unary, Op.intArith], .int _ _⟩
  · rename_i k n e1
    rw [e1] at r1; cases r1
    obtain rfl := Option.some.inj hd
    exact ⟨_, by simp only [execOp, ho, hu, Op.unary, Op.intBits, Sem.run_bind, Sem.run_pure, Result.andThen_ok], .int _ _⟩
  · rename_i b e1
    rw [e1] at r1; cases r1
    obtain rfl := Option.some.inj hd
    exact ⟨.bool (!b), by simp [execOp, ho, hu, Op.unary], .bool _⟩
  · cases hd

theorem ok_ext {E : Prg} {o : Oper} {x : Operand} {i : Nat} {y : Opd} (ho : o.op = .extract x i) (hx : copd x = some y) : OpOk E o (.ext y i) := by
  refine OpOk.quiet fun C G st a w d objs' hr hv => ?_
  simp only [rval] at hv
  have r1 := hr.ev hx
  split at hv
  · rename_i cs e1
    rw [e1] at r1
    generalize hu : a.eval x = u at r1
    cases r1 with
    | tup _ vs hs hc =>
      split at hv
      · rename_i d' hd
        simp only [Option.some.injEq, Prod.mk.injEq] at hv
        obtain ⟨rfl, rfl⟩ := hv
        have hi : i < vs.size := by rw [hs]; exact (List.getElem?_eq_some_iff.1 hd).1
        have := hc i d' hd
        rw [Array.getD_eq_getD_getElem?] at this
        simp only [hi, Array.getElem?_eq_getElem, Option.getD_some] at this
        exact ⟨rfl, vs[i], by simp [execOp, ho, hu, Instr.extract, hi], this⟩
      · cases hv
  · cases hv

end Go.Proofs.Ytaopaongpoecoaa
