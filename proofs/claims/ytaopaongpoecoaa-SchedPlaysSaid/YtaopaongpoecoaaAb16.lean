/- Regions whose order is drawn: one order for all. -/
import Derived.Test.YtaopaongpoecoaaAb15
set_option linter.unusedVariables false
set_option linter.unusedSimpArgs false
namespace Go.Proofs.Ytaopaongpoecoaa
open Go.RowKit

theorem St.fzd_false (dst : Option Nat) (st : St) : st.fzd false dst = st := by cases dst <;> rfl
theorem St.put_objs (st : St) (a : Option Nat) (d : DV) (o : Objs) : ({ (st.put a d) with objs := o } : St) = ({ st with objs := o } : St).put a d := by cases a <;> rfl
theorem St.objs_put (st : St) (a : Option Nat) (d : DV) : (st.put a d).objs = st.objs := by cases a <;> rfl
theorem get_put_ne {st : St} {dst : Option Nat} {d : DV} {t : Nat} (h : ∀ u, dst = some u → u ≠ t) : (st.put dst d).get t = st.get t := by
  cases dst with
  | none => rfl
  | some u => rw [St.get_put, if_neg (h u rfl)]

/-- The operation comes to this value, now and whenever. -/
structure Stay (E : Prg) (r : ROper) (ps : List Opd) (d : DV) (st : St) : Prop where
  run : match r.guard with
    | none => rval E st r.op = some (d, st.objs)
    | some (t, want) => (∃ b, st.get t = .bool b ∧ (b = want → rval E st r.op = some (d, st.objs)) ∧ (b ≠ want → d = .no)) ∨ ((∃ v, st.get t = .lit v ∧ boolV v = false) ∧ d = .no)
  clr : r.op.blind = true ∨ ∀ p ∈ ps, clearOf E st r.op p

theorem quiet_notCall {r : ROp} (h : r.quiet = true) : r.isCall = false := by cases r <;> first | rfl | cases h

theorem opWp_rval {E : Prg} {F : FTab} {dr : Bool} {r : ROper} {K : St → Prop} {st : St} (hn : r.op.isCall = false) :
    opWp E F dr r K st ↔ bindO (rval E st r.op) fun p => K ((({ st with objs := p.2 } : St).put r.dst p.1).fzd r.fz r.dst) := by
  unfold opWp
  rw [← rvl_eq]
  generalize r.op = op at hn ⊢
  cases op <;> first | exact Iff.rfl | cases hn

theorem Stay.of {E : Prg} {F : FTab} {dr : Bool} {r : ROper} {ps : List Opd} {K : St → Prop} {st : St} (hq : r.op.quiet = true) (hz : r.fz = false) (hc : r.op.blind = true ∨ ∀ p ∈ ps, clearOf E st r.op p) (h : stepWp E F dr r K st) :
    ∃ d, Stay E r ps d st ∧ K (st.put r.dst d) := by
  have run : opWp E F dr r K st → ∃ d, rval E st r.op = some (d, st.objs) ∧ K (st.put r.dst d) := by
    intro h
    rw [opWp_rval (quiet_notCall hq)] at h
    cases hv : rval E st r.op with
    | none => rw [hv] at h; exact h.elim
    | some p =>
      obtain ⟨d, o⟩ := p
      obtain ⟨_, rfl⟩ := rval_stay (st' := st) hq (fun _ _ => rfl) (fun _ x hx k z hk hz => hz) hv
      rw [hv, hz] at h
      simp only [bindO, St.fzd_false] at h
      exact ⟨d, rfl, h⟩
  unfold stepWp at h
  cases hg : r.guard with
  | none =>
    rw [hg] at h
    obtain ⟨d, h1, h2⟩ := run h
    exact ⟨d, ⟨by rw [hg]; exact h1, hc⟩, h2⟩
  | some x =>
    obtain ⟨t, want⟩ := x
    rw [hg] at h
    simp only [bindG] at h
    split at h
    · rename_i b hb
      unfold cnd at h
      by_cases hw : b = want
      · rw [if_pos (by simpa using hw), ← hw, St.know_self hb] at h
        obtain ⟨d, h1, h2⟩ := run h
        exact ⟨d, ⟨by rw [hg]; exact .inl ⟨b, hb, fun _ => h1, fun h => absurd hw h⟩, hc⟩, h2⟩
      · have hbw : b = !want := by cases b <;> cases want <;> simp_all
        rw [if_neg (by simpa using hw), ← hbw, St.know_self hb] at h
        exact ⟨.no, ⟨by rw [hg]; exact .inl ⟨b, hb, fun h => absurd h hw, fun _ => rfl⟩, hc⟩, h⟩
    · rename_i v hb
      exact ⟨.no, ⟨by rw [hg]; exact .inr ⟨⟨v, hb, h.1⟩, rfl⟩, hc⟩, h.2⟩
    · exact h.elim

theorem Stay.step {E : Prg} {F : FTab} {dr : Bool} {r : ROper} {ps : List Opd} {K : St → Prop} {st : St} {d : DV} (hq : r.op.quiet = true) (hz : r.fz = false) (hs : Stay E r ps d st) (h : K (st.put r.dst d)) : stepWp E F dr r K st := by
  have run : rval E st r.op = some (d, st.objs) → opWp E F dr r K st := fun hv => by
    rw [opWp_rval (quiet_notCall hq), hv, hz]
    simp only [bindO, St.fzd_false]
    exact h
  have h1 := hs.run
  unfold stepWp
  cases hg : r.guard with
  | none => rw [hg] at h1; exact run h1
  | some x =>
    obtain ⟨t, want⟩ := x
    rw [hg] at h1
    rcases h1 with ⟨b, hb, h2, h3⟩ | ⟨⟨v, hb, hv⟩, h3⟩
    · simp only [hb, bindG]
      unfold cnd
      by_cases hw : b = want
      · rw [if_pos (by simpa using hw), ← hw, St.know_self hb]; exact run (h2 hw)
      · have hbw : b = !want := by cases b <;> cases want <;> simp_all
        rw [if_neg (by simpa using hw), ← hbw, St.know_self hb, ← h3 hw]
        exact h
    · simp only [hb, bindG]
      exact ⟨hv, by rw [← h3]; exact h⟩

/-- It stays so behind any step that sets nothing of what it looks at and writes nothing that it reads. -/
theorem Stay.keep {E : Prg} {r : ROper} {ps : List Opd} {st : St} {d : DV} (hq : r.op.quiet = true) (hs : Stay E r ps d st) {dst : Option Nat} {x : DV} {o : Objs} (hset : ∀ t, dst = some t → t ∉ r.looks) (hps : r.op.blind = true ∨ ∀ p ∈ ps, ∀ t, dst = some t → t ∉ p.tm)
    (ho : r.op.blind = false → ∀ y ∈ r.op.opds, ∀ k z, (y.ev E st).id = some k → st.objs[k]? = some z → o[k]? = some z) : Stay E r ps d (({ st with objs := o } : St).put dst x) := by
  have hev : EvEq E r.op st (({ st with objs := o } : St).put dst x) := fun y hy => by
    rw [ev_put, ev_objs]
    intro t ht hm
    exact hset t ht (by simp only [ROper.looks, ROp.tms, List.mem_append, List.mem_flatMap]; exact .inl ⟨y, hy, hm⟩)
  have hrun : rval E st r.op = some (d, st.objs) → rval E (({ st with objs := o } : St).put dst x) r.op = some (d, (({ st with objs := o } : St).put dst x).objs) := fun hv =>
    (rval_stay hq hev (fun hb y hy k z hk hz => by rw [St.objs_put]; exact ho hb y hy k z hk hz) hv).1
  refine ⟨?_, ?_⟩
  · have h1 := hs.run
    cases hg : r.guard with
    | none => rw [hg] at h1; exact hrun h1
    | some q =>
      obtain ⟨t, want⟩ := q
      rw [hg] at h1
      have hgt : (({ st with objs := o } : St).put dst x).get t = st.get t := get_put_ne (st := { st with objs := o }) (fun u hu e => hset u hu (by subst e; simp [ROper.looks, hg]))
      rcases h1 with ⟨b, hb, h2, h3⟩ | ⟨⟨v, hb, hv⟩, h3⟩
      · exact .inl ⟨b, hgt.trans hb, fun h => hrun (h2 h), h3⟩
      · exact .inr ⟨⟨v, hgt.trans hb, hv⟩, h3⟩
  · rcases hs.clr with hb | hc
    · exact .inl hb
    · rcases hps with hb | hps
      · exact .inl hb
      · refine .inr fun p hp => ?_
        intro y hy k hk
        rw [hev y hy] at hk
        rw [ev_put (fun t ht => hps p hp t ht), ev_objs]
        exact hc p hp y hy k hk

/-- What the tables of rivals told. -/
structure Rival (r : ROper) (ps : List Opd) (y : ROper) : Prop where
  apart : apartR r y = true
  fz : y.fz = false
  wr : r.op.blind = true ∨ (∀ p ∈ y.op.wr, p ∈ ps) ∧ ∀ p ∈ ps, listApart p.tm y.sets = true

theorem stepWp_put {E : Prg} {F : FTab} {r y : ROper} {ps : List Opd} {st : St} {d : DV} {K : St → Prop} (hq : r.op.quiet = true) (hy : Rival r ps y) (hs : Stay E r ps d st) (h : stepWp E F true y K (st.put r.dst d)) :
    stepWp E F true y (fun st' => Stay E r ps d st' ∧ K (st'.put r.dst d)) st := by
  have ha := hy.apart
  simp only [apartR, Bool.and_eq_true] at ha
  obtain ⟨ha1, ha2⟩ := ha
  have hry : ∀ t, r.dst = some t → t ∉ y.looks ∧ ∀ u, y.dst = some u → t ≠ u := fun t ht => by
    have := listApart_spec ha1 (x := t) (by simp [ROper.sets, ht])
    simp only [List.mem_append, not_or] at this
    exact ⟨this.1, fun u hu e => this.2 (by subst e; simp [ROper.sets, hu])⟩
  have hyr : ∀ t, y.dst = some t → t ∉ r.looks := fun t ht => listApart_spec ha2 (x := t) (by simp [ROper.sets, ht])
  have hyp : r.op.blind = true ∨ ∀ p ∈ ps, ∀ t, y.dst = some t → t ∉ p.tm := hy.wr.imp id fun h p hp t ht hm => listApart_spec (h.2 p hp) hm (by simp [ROper.sets, ht])
  have hev : ∀ x ∈ y.op.opds, x.ev E (st.put r.dst d) = x.ev E st := fun x hx => ev_put fun t ht hm => (hry t ht).1 (by simp only [ROper.looks, ROp.tms, List.mem_append, List.mem_flatMap]; exact .inl ⟨x, hx, hm⟩)
  have hcomm : ∀ (st : St) (u : DV), (st.put r.dst d).put y.dst u = (st.put y.dst u).put r.dst d := fun st u => St.put_comm st _ _ _ _ fun t ht hu => (hry t ht).2 t hu rfl
  have op : ∀ {K : St → Prop}, opWp E F true y K (st.put r.dst d) → opWp E F true y (fun st' => Stay E r ps d st' ∧ K (st'.put r.dst d)) st := by
    intro K h
    by_cases hc : ∃ f l, y.op = .call f l
    · obtain ⟨f, l, hop⟩ := hc
      unfold opWp at h ⊢
      rw [hop] at h ⊢
      simp only at h ⊢
      have hl : l.map (Opd.ev E (st.put r.dst d)) = l.map (Opd.ev E st) := List.map_congr_left fun x hx => hev x (by rw [hop]; exact hx)
      rw [hl, St.objs_put] at h
      unfold callV at h ⊢
      split at h
      · rename_i s hs'
        simp only [hy.fz, St.fzd_false, St.put_objs] at h ⊢
        rw [hcomm] at h
        exact ⟨h.1, hs.keep hq hyr hyp (fun hb x hx k z hk hz => by rw [List.getElem?_append_left (List.getElem?_eq_some_iff.1 hz).1]; exact hz), h.2⟩
      · exact h.elim
      · exact h.elim
    · by_cases hcd : ∃ q l, y.op = .calld q l
      · obtain ⟨q, l, hop⟩ := hcd
        unfold opWp at h
        rw [hop] at h
        exact (calldV_drawn h).elim
      by_cases hci : ∃ q nm l, y.op = .inv q nm l
      · obtain ⟨q, nm, l, hop⟩ := hci
        unfold opWp at h
        rw [hop] at h
        exact (invV_drawn h).elim
      have hn : y.op.isCall = false := by
        cases hy2 : y.op <;> first | rfl | exact (hcd ⟨_, _, hy2⟩).elim | exact (hc ⟨_, _, hy2⟩).elim | exact (hcd ⟨_, _, rfl⟩).elim | exact (hc ⟨_, _, rfl⟩).elim | exact (hci ⟨_, _, _, hy2⟩).elim | exact (hci ⟨_, _, _, rfl⟩).elim
      rw [opWp_rval hn] at h ⊢
      cases hv : rval E (st.put r.dst d) y.op with
      | none => rw [hv] at h; exact h.elim
      | some p =>
        have hv2 := rval_env (st' := st) (fun x hx => (hev x hx).symm) (St.objs_put st r.dst d).symm hv
        rw [hv] at h
        rw [hv2]
        obtain ⟨u, o⟩ := p
        simp only [bindO, hy.fz, St.fzd_false, St.put_objs] at h ⊢
        rw [hcomm] at h
        refine ⟨hs.keep hq hyr hyp (fun hb x hx k z hk hz => rval_eff hv2 hz fun p hp e => ?_), h⟩
        rcases hy.wr with hb' | ⟨hw, _⟩
        · rw [hb] at hb'; cases hb'
        · rcases hs.clr with hb' | hclr
          · rw [hb] at hb'; cases hb'
          · exact hclr p (hw p hp) x hx k hk e
  unfold stepWp at h ⊢
  cases hg : y.guard with
  | none => rw [hg] at h; exact op h
  | some q =>
    obtain ⟨t, want⟩ := q
    rw [hg] at h
    simp only at h ⊢
    have hgt : (st.put r.dst d).get t = st.get t := get_put_ne fun u hu e => (hry u hu).1 (by subst e; simp [ROper.looks, hg])
    simp only [bindG] at h ⊢
    cases hb : st.get t <;> rw [hgt, hb] at h <;> first | exact h.elim | skip
    · rename_i b
      simp only at h ⊢
      unfold cnd at h ⊢
      by_cases hw : b = want
      · rw [if_pos (by simpa using hw), ← hw, St.know_self (by rw [hgt, hb])] at h
        rw [if_pos (by simpa using hw), ← hw, St.know_self hb]
        exact op h
      · have hbw : b = !want := by cases b <;> cases want <;> simp_all
        rw [if_neg (by simpa using hw), ← hbw, St.know_self (by rw [hgt, hb]), hcomm] at h
        rw [if_neg (by simpa using hw), ← hbw, St.know_self hb]
        exact ⟨hs.keep hq hyr hyp (o := st.objs) (fun hb x hx k z hk hz => hz), h⟩
    · simp only at h ⊢
      rw [hcomm] at h
      exact ⟨h.1, hs.keep hq hyr hyp (o := st.objs) (fun hb x hx k z hk hz => hz), h.2⟩

/-- Whichever of the operations that are ready comes next. -/
def anyA (E : Prg) (F : FTab) (ops : Array Oper) (rl : List ROper) (en : Option Nat) : Nat → Array Bool → (St → Prop) → St → Prop
  | 0, listed, K, st => Region.ready .any ops listed = [] ∧ K st
  | fuel + 1, listed, K, st => (Region.ready .any ops listed = [] → K st) ∧
    ∀ i ∈ Region.ready .any ops listed, ∀ r, rl[i]? = some r → stepWp E F (!decide (en = some i)) r (anyA E F ops rl en fuel (listed.setIfInBounds i true) K) st

theorem anyA_sound {E : Prg} {F : FTab} (hF : FOk E F) {n : Nat} {fz : List Nat} {ops : Array Oper} {rl : List ROper} {en : Option Nat} (hc : compOps E.P n fz ops ops.toList = some rl) {C : Ctx} (hn : C.n = n) {K : St → Prop} {Q : Exit → Act → World → Prop}
    (hQ : ∀ st' a' w', K st' → RelSt E C st' a' w' → Q .normal a' w') : ∀ (fuel : Nat) (listed : Array Bool) (st : St) (a : Act) (w : World), RelSt E C st a w → anyA E F ops rl en fuel listed K st → wpAny E.P .any ops Q fuel listed a w
  | 0, listed, st, a, w, hr, h => ⟨h.1, hQ _ _ _ h.2 hr⟩
  | fuel + 1, listed, st, a, w, hr, h => by
    refine ⟨fun h0 => hQ _ _ _ (h.1 h0) hr, fun i hi => ?_⟩
    obtain ⟨hun, o, ho, _⟩ := mem_ready.1 hi
    obtain ⟨hlen, hget⟩ := compOps_get hc
    have hlt : i < rl.length := by rw [hlen]; simpa using (Array.getElem?_eq_some_iff.1 ho).1
    have hr2 := List.getElem?_eq_getElem hlt
    have hco := hget i o _ (by rw [Array.getElem?_toList]; exact ho) hr2
    unfold wpOp
    rw [ho]
    exact stepWp_sound hF hco hn hr (h.2 i hi _ hr2) fun st' a' w' hk hr' => anyA_sound hF hc hn hQ fuel _ st' a' w' hr' hk

/-- Whatever is listed, so is what comes ahead of it. -/
def Closed (ops : Array Oper) (listed : Array Bool) : Prop := ∀ j, listed.getD j false = true → ∀ k ∈ depsOf ops j, listed.getD k false = true
theorem mem_depsOf {ops : Array Oper} {j k : Nat} (h : k ∈ depsOf ops j) : ∃ o e, ops[j]? = some o ∧ e ∈ o.after ∧ Region.binds .any e = true ∧ e.on = k := by
  unfold depsOf at h
  split at h
  · rename_i o ho
    obtain ⟨e, he, hk⟩ := List.mem_map.1 h
    obtain ⟨h1, h2⟩ := List.mem_filter.1 he
    exact ⟨o, e, ho, by simpa using h1, h2, hk⟩
  · cases h
theorem getD_true {l : Array Bool} {k : Nat} (h : l.getD k true = false) : l.getD k false = false := by
  rcases Nat.lt_or_ge k l.size with h' | h'
  · simp [h'] at h ⊢; exact h
  · simp [Array.getElem?_eq_none h'] at h
theorem ready_deps {ops : Array Oper} {listed : Array Bool} {j : Nat} (h : j ∈ Region.ready .any ops listed) : ∀ k ∈ depsOf ops j, listed.getD k false = true := fun k hk => by
  obtain ⟨o, e, ho, he, hb, rfl⟩ := mem_depsOf hk
  obtain ⟨_, o', ho', hall⟩ := mem_ready.1 h
  obtain rfl := Option.some.inj (ho.symm.trans ho')
  exact hall e he hb
theorem getD_set_or {l : Array Bool} {i k : Nat} : (l.setIfInBounds i true).getD k false = true ↔ l.getD k false = true ∨ (k = i ∧ i < l.size) := by
  rcases Nat.lt_or_ge k l.size with h' | h'
  · by_cases e : k = i
    · subst e; simp [h']
    · have e' : ¬ i = k := fun h => e h.symm
      simp [h', Array.getElem_setIfInBounds, e, e']
  · simp [h', Nat.not_lt.2 h']
    intro h; omega
theorem Closed.step {ops : Array Oper} {listed : Array Bool} {j : Nat} (hc : Closed ops listed) (h : j ∈ Region.ready .any ops listed) : Closed ops (listed.setIfInBounds j true) := fun i hi k hk => by
  rw [getD_set_or] at hi ⊢
  rcases hi with hi | ⟨rfl, _⟩
  · exact .inl (hc i hi k hk)
  · exact .inl (ready_deps h k hk)
theorem mem_addNew {x : Nat} : ∀ {l S : List Nat}, x ∈ addNew l S → x ∈ l ∨ x ∈ S
  | [], S, h => .inr h
  | y :: l, S, h => by
    simp only [addNew] at h
    split at h
    · rcases mem_addNew h with h1 | h1
      · exact .inl (List.mem_cons_of_mem _ h1)
      · exact .inr h1
    · rcases mem_addNew h with h1 | h1
      · exact .inl (List.mem_cons_of_mem _ h1)
      · rcases List.mem_cons.1 h1 with rfl | h1
        · exact .inl (by simp)
        · exact .inr h1
theorem aheadOf_listed {ops : Array Oper} {listed : Array Bool} (hc : Closed ops listed) : ∀ (n : Nat) (S : List Nat), (∀ k ∈ S, listed.getD k false = true) → ∀ k ∈ aheadOf ops n S, listed.getD k false = true
  | 0, S, h, k, hk => h k hk
  | n + 1, S, h, k, hk => aheadOf_listed hc n _ (fun i hi => by
    rcases mem_addNew hi with h1 | h1
    · obtain ⟨j, hj, hij⟩ := List.mem_flatMap.1 h1
      exact hc j (h j hj) i hij
    · exact h i h1) k hk
theorem endOk_all {ops : Array Oper} {listed : Array Bool} {e i : Nat} (he : endOk ops e = true) (hc : Closed ops listed) (hr : e ∈ Region.ready .any ops listed) (hi : i < ops.size) (hne : i ≠ e) : listed.getD i false = true := by
  unfold endOk at he
  have := List.all_eq_true.1 he i (List.mem_range.2 hi)
  simp only [Bool.or_eq_true, beq_iff_eq, hne, false_or] at this
  exact aheadOf_listed hc _ _ (ready_deps hr) i (by simpa using this)
theorem endOf_ok {ops : Array Oper} {rl : List ROper} {e : Nat} (h : endOf ops rl = some e) : endOk ops e = true := by
  unfold endOf at h
  split at h
  · split at h
    · rename_i hc
      obtain rfl := Option.some.inj h
      simp only [Bool.and_eq_true] at hc
      exact hc.2
    · cases h
  · cases h
theorem Closed.none (ops : Array Oper) (n : Nat) : Closed ops (Array.replicate n false) := fun j hj => by
  rcases Nat.lt_or_ge j n with h' | h'
  · simp [h'] at hj
  · simp [Nat.not_lt.2 h'] at hj

theorem mem_rivals {ops : Array Oper} {rl : List ROper} {listed : Array Bool} {i j : Nat} {o : Oper} {y : ROper} (hj : ops[j]? = some o) (hy : rl[j]? = some y) (hne : j ≠ i) (hun : listed.getD j true = false)
    (hno : ∀ e ∈ o.after, Region.binds .any e = true → e.on ≠ i) : y ∈ rivals ops rl listed i := by
  unfold rivals
  refine List.mem_filterMap.2 ⟨j, List.mem_filter.2 ⟨List.mem_range.2 (Array.getElem?_eq_some_iff.1 hj).1, ?_⟩, hy⟩
  simp only [hj, hun, Bool.not_false, Bool.and_true, Bool.and_eq_true, bne_iff_ne, ne_eq, hne, not_false_eq_true, true_and, Bool.not_eq_true']
  rw [Array.any_eq_false']
  intro e he hb
  simp only [Bool.and_eq_true, beq_iff_eq] at hb
  exact hno e he hb.1 hb.2

/-- What may be taken first is taken first. -/
theorem anyA_first {E : Prg} {F : FTab} {ops : Array Oper} {rl : List ROper} {en : Option Nat} (hen : ∀ e, en = some e → endOk ops e = true) {i : Nat} {r : ROper} {ps : List Opd} {d : DV} {K : St → Prop} (hr : rl[i]? = some r) (hq : r.op.quiet = true) (hz : r.fz = false) :
    ∀ (fuel : Nat) (listed : Array Bool) (st : St), Closed ops listed →
      (∀ j o y, ops[j]? = some o → rl[j]? = some y → j ≠ i → listed.getD j true = false → (∀ e ∈ o.after, Region.binds .any e = true → e.on ≠ i) → Rival r ps y) →
      i ∈ Region.ready .any ops listed → Stay E r ps d st →
      anyA E F ops rl en fuel (listed.setIfInBounds i true) K (st.put r.dst d) → anyA E F ops rl en (fuel + 1) listed K st := by
  intro fuel
  induction fuel with
  | zero =>
    intro listed st hcl _ hi hs H
    refine ⟨fun h => (by rw [h] at hi; cases hi), fun j hj y hy => ?_⟩
    by_cases hji : j = i
    · subst hji
      obtain rfl := Option.some.inj (hr.symm.trans hy)
      exact hs.step hq hz H
    · have := ready_mono hj hji
      rw [H.1] at this
      cases this
  | succ fuel ih =>
    intro listed st hcl hfree hi hs H
    refine ⟨fun h => (by rw [h] at hi; cases hi), fun j hj y hy => ?_⟩
    by_cases hji : j = i
    · subst hji
      obtain rfl := Option.some.inj (hr.symm.trans hy)
      exact hs.step hq hz H
    · have h1 := H.2 j (ready_mono hj hji) y hy
      obtain ⟨hjun, oj, hoj, hall⟩ := mem_ready.1 hj
      have hnot : ∀ e ∈ oj.after, Region.binds .any e = true → e.on ≠ i := fun e he hb heq => by
        have h1 := hall e he hb
        have h0 := (mem_ready.1 hi).1
        rw [heq] at h1
        rcases Nat.lt_or_ge i listed.size with h' | h'
        · simp [h'] at h0 h1; rw [h0] at h1; cases h1
        · simp [Array.getElem?_eq_none h'] at h1
      have hdr : (!decide (en = some j)) = true := by
        simp only [Bool.not_eq_true', decide_eq_false_iff_not]
        intro he
        obtain ⟨hiun, oi, hoi, _⟩ := mem_ready.1 hi
        have := endOk_all (hen j he) hcl hj (Array.getElem?_eq_some_iff.1 hoi).1 (Ne.symm hji)
        rw [getD_true hiun] at this
        cases this
      rw [hdr] at h1 ⊢
      have h2 := stepWp_put hq (hfree j oj y hoj hy hji hjun hnot) hs h1
      have hfree' : ∀ k o z, ops[k]? = some o → rl[k]? = some z → k ≠ i → (listed.setIfInBounds j true).getD k true = false →
          (∀ e ∈ o.after, Region.binds .any e = true → e.on ≠ i) → Rival r ps z := fun k o z hk hz hki hun hno => by
        refine hfree k o z hk hz hki ?_ hno
        by_cases hjk : j = k
        · subst hjk; exact hjun
        · rw [getD_set_ne true hjk] at hun; exact hun
      refine stepWp_mono h2 fun st' h3 => ih (listed.setIfInBounds j true) st' (hcl.step hj) hfree' (ready_mono hi (Ne.symm hji)) h3.1 ?_
      rw [Array.setIfInBounds_comm _ _ hji]
      exact h3.2

theorem takeable_spec {ops : Array Oper} {rl : List ROper} {listed : Array Bool} {i : Nat} {r : ROper} {ps : List Opd} (h : takeable ops rl listed i = some (r, ps)) : rl[i]? = some r ∧ r.op.quiet = true ∧ r.fz = false ∧
    ∀ y ∈ rivals ops rl listed i, Rival r ps y := by
  unfold takeable at h
  split at h
  · rename_i r' hr'
    simp only at h
    split at h
    · rename_i hc
      simp only [Bool.and_eq_true, Bool.not_eq_true', List.all_eq_true] at hc
      obtain ⟨⟨h1, h2⟩, h3⟩ := hc
      split at h
      · rename_i hb
        obtain ⟨rfl, rfl⟩ := Prod.mk.inj (Option.some.inj h)
        exact ⟨hr', h1, h2, fun y hy => ⟨(h3 y hy).1, (h3 y hy).2, .inl hb⟩⟩
      · split at h
        · rename_i hp
          obtain ⟨rfl, rfl⟩ := Prod.mk.inj (Option.some.inj h)
          simp only [List.all_eq_true] at hp
          exact ⟨hr', h1, h2, fun y hy => ⟨(h3 y hy).1, (h3 y hy).2, .inr ⟨fun p hp' => List.mem_flatMap.2 ⟨y, hy, hp'⟩, fun p hp' => hp p hp' y hy⟩⟩⟩
        · cases h
    · cases h
  · cases h

theorem firstSome_spec {α β : Type} {f : α → Option β} : ∀ {l : List α} {x : α} {y : β}, firstSome f l = some (x, y) → x ∈ l ∧ f x = some y
  | [], x, y, h => by cases h
  | a :: l, x, y, h => by
    simp only [firstSome] at h
    split at h
    · rename_i z hz
      obtain ⟨rfl, rfl⟩ := Prod.mk.inj (Option.some.inj h)
      exact ⟨by simp, hz⟩
    · obtain ⟨h1, h2⟩ := firstSome_spec h
      exact ⟨by simp [h1], h2⟩

theorem altAll_spec {E : Prg} {F : FTab} {g : Nat → Option OT} {K : St → Prop} {st : St} : ∀ {l : List Nat} {t : OT}, altAll g l = some t → t.wp E F K st → ∀ i ∈ l, ∃ t', g i = some t' ∧ t'.wp E F K st
  | [], t, h, _ => by cases h
  | [i], t, h, hw => by
    simp only [altAll] at h
    intro j hj
    simp at hj; subst hj
    exact ⟨t, h, hw⟩
  | i :: k :: l, t, h, hw => by
    simp only [altAll] at h
    split at h
    · rename_i a b ha hb
      obtain rfl := Option.some.inj h
      intro j hj
      rcases List.mem_cons.1 hj with rfl | hj
      · exact ⟨a, ha, hw.1⟩
      · exact altAll_spec (l := k :: l) hb hw.2 j hj
    · cases h

theorem compD_sound {E : Prg} {F : FTab} {ops : Array Oper} {rl : List ROper} {en : Option Nat} (hen : ∀ e, en = some e → endOk ops e = true) {K : St → Prop} : ∀ (fuel : Nat) (listed : Array Bool) (t : OT) (st : St), Closed ops listed → compD ops rl en fuel listed = some t → t.wp E F K st → anyA E F ops rl en fuel listed K st
  | 0, listed, t, st, hcl, hc, h => by
    simp only [compD] at hc
    split at hc
    · rename_i h0
      obtain rfl := Option.some.inj hc
      exact ⟨h0, h⟩
    · cases hc
  | fuel + 1, listed, t, st, hcl, hc, h => by
    simp only [compD] at hc
    split at hc
    · rename_i h0
      obtain rfl := Option.some.inj hc
      exact ⟨fun _ => h, fun i hi => by rw [h0] at hi; cases hi⟩
    · rename_i hne
      split at hc
      · rename_i i r ps hfs
        obtain ⟨hi, htk⟩ := firstSome_spec hfs
        obtain ⟨hr, hq, hz, hrv⟩ := takeable_spec htk
        obtain ⟨t', ht', rfl⟩ := Option.map_eq_some_iff.1 hc
        obtain ⟨hclr, hst⟩ := h
        obtain ⟨d, hs, hk⟩ := Stay.of hq hz (.inr hclr) hst
        exact anyA_first hen hr hq hz fuel listed st hcl (fun j o y hj hy hne hun hno => hrv y (mem_rivals hj hy hne hun hno)) hi hs (compD_sound hen fuel _ t' _ (hcl.step hi) ht' hk)
      · refine ⟨fun h0 => (hne h0).elim, fun i hi r hr => ?_⟩
        obtain ⟨t', ht', hw⟩ := altAll_spec hc h i hi
        rw [hr] at ht'
        simp only at ht'
        split at ht'
        · rename_i he
          split at ht'
          · rename_i hd
            obtain rfl := Option.some.inj ht'
            rw [decide_eq_true he]
            exact stepWp_mono hw fun st' hh => compD_sound hen fuel _ .done st' (hcl.step hi) hd hh
          · cases ht'
        · rename_i he
          obtain ⟨t2, ht2, rfl⟩ := Option.map_eq_some_iff.1 ht'
          rw [decide_eq_false he]
          exact stepWp_mono hw fun st' hh => compD_sound hen fuel _ t2 st' (hcl.step hi) ht2 hh

end Go.Proofs.Ytaopaongpoecoaa
