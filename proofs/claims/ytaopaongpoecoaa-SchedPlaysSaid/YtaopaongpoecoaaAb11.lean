/- Calls over abstract values, and what a call does to its caller's state. -/
import Derived.Test.YtaopaongpoecoaaAb10
set_option linter.unusedVariables false
set_option linter.unusedSimpArgs false
namespace Go.Proofs.Ytaopaongpoecoaa
open Go.RowKit

/-- The cells of what lives. -/
def cellsOf (G : Gh) (T : Objs) (x : Addr) : Prop := ∃ k ob p m, T[k]? = some (some ob) ∧ G.pl k = some p ∧ m < p.cap * p.sz ∧ x = p.cellAt m

/-- A call, over abstract arguments and a table of objects: it returns, R tells what and with which objects; nothing else has turned. -/
def GCalls (E : Prg) (f : Nat) (args : List DV) (T : Objs) (R : DV → Objs → Prop) : Prop :=
  ∀ (G : Gh) (w : World) (vs : Array Value), GlobOk E G → Heap G T w → vs.size = args.length → (∀ (i : Nat) d, args[i]? = some d → Rel G d (vs.getD i undef)) →
    Calls E.P f vs w fun e w' => ∃ v r T' G', e = .returned v ∧ R r T' ∧ T.length ≤ T'.length ∧ Rel G' r v ∧ Heap G' T' w' ∧ Frm ⟨w, G, cellsOf G T, 0⟩ G' T' w'

theorem GCalls.mono {E : Prg} {f : Nat} {args : List DV} {T : Objs} {R R' : DV → Objs → Prop} (h : GCalls E f args T R) (hR : ∀ r T', R r T' → R' r T') : GCalls E f args T R' :=
  fun G w vs h1 h2 h3 h4 => Calls.mono (h G w vs h1 h2 h3 h4) fun e w' ⟨v, r, T', G', a, b, c⟩ => ⟨v, r, T', G', a, hR _ _ b, c⟩

/-- A call that takes nothing over and writes nothing: it may make objects. -/
def PCalls (E : Prg) (f : Nat) (args : List DV) (R : Nat → DV → Objs → Prop) : Prop :=
  ∀ n, GCalls E f args (List.replicate n none) fun r T' => ∃ os, T' = List.replicate n none ++ os ∧ R n r os

/-- The caller's table behind a call: what was handed over is as the callee left it, the rest as it was, new ones behind. -/
structure Merged (T T1 T1' T' : Objs) : Prop where
  len : T'.length = T1'.length
  len1 : T1.length = T.length
  sub : ∀ (k : Nat) (ob : Ob), T1[k]? = some (some ob) → T[k]? = some (some ob)
  over : ∀ (k : Nat) (ob ob' : Ob), T1[k]? = some (some ob) → T'[k]? = some (some ob') → T1'[k]? = some (some ob')
  kept : ∀ (k : Nat) (ob' : Ob), k < T.length → (∀ ob, T1[k]? ≠ some (some ob)) → T'[k]? = some (some ob') → T[k]? = some (some ob') ∨ T1'[k]? = some (some ob')
  new : ∀ (k : Nat) (ob' : Ob), T.length ≤ k → T'[k]? = some (some ob') → T1'[k]? = some (some ob')

theorem RelG.called {E : Prg} {C : Ctx} {G G' : Gh} {st : St} {a : Act} {w w' : World} {T1 T1' T' : Objs} (h : RelG E C G st a w) (hm : Merged st.objs T1 T1' T') (hh : Heap G' T1' w') (hf : Frm ⟨w, G, cellsOf G T1, 0⟩ G' T1' w') (hlen : st.objs.length ≤ T1'.length) :
    RelG E C G' { st with objs := T' } a w' := by
  have hle : G.le G' := hf.le
  have hsz := h.frm.size
  have hsz' := hf.size
  -- an old object that was not handed over
  have hold : ∀ k ob p, st.objs[k]? = some (some ob) → (∀ ob, T1[k]? ≠ some (some ob)) → G.pl k = some p → ∀ m, m < p.cap * p.sz → p.block < w.heap.size ∧ ¬ cellsOf G T1 (p.cellAt m) := by
    intro k ob p hk hn hp m hm'
    obtain ⟨q, hq, hl⟩ := h.heap.live k ob hk
    obtain rfl : q = p := Option.some.inj (hq.symm.trans hp)
    refine ⟨hl.block_lt hm', fun ⟨k2, ob2, p2, m2, h1, h2, h3, h4⟩ => ?_⟩
    exact h.heap.sep k k2 ob ob2 q p2 m m2 hk (hm.sub k2 ob2 h1) (fun e => by subst e; exact hn _ h1) hp h2 hm' h3 h4
  have hcase : ∀ (k : Nat) (ob' : Ob), T'[k]? = some (some ob') → (T1'[k]? = some (some ob') ∧ True) ∨ (k < st.objs.length ∧ (∀ ob, T1[k]? ≠ some (some ob)) ∧ st.objs[k]? = some (some ob')) := by
    intro k ob' hk
    by_cases hlt : k < st.objs.length
    · by_cases hal : ∃ ob, T1[k]? = some (some ob)
      · obtain ⟨ob, hob⟩ := hal
        exact .inl ⟨hm.over k ob ob' hob hk, trivial⟩
      · have hal' : ∀ ob, T1[k]? ≠ some (some ob) := fun ob hob => hal ⟨ob, hob⟩
        rcases hm.kept k ob' hlt hal' hk with h5 | h5
        · exact .inr ⟨hlt, hal', h5⟩
        · exact .inl ⟨h5, trivial⟩
    · exact .inl ⟨hm.new k ob' (by omega) hk, trivial⟩
  -- the places of what the callee has
  have hmine : ∀ k ob p m, T1'[k]? = some (some ob) → G'.pl k = some p → m < p.cap * p.sz → w.heap.size ≤ p.block ∨ cellsOf G T1 (p.cellAt m) := hf.mine
  have hpl : ∀ k ob p, st.objs[k]? = some (some ob) → G'.pl k = some p → G.pl k = some p := fun k ob p hk hp => by
    obtain ⟨q, hq, _⟩ := h.heap.live k ob hk
    rw [hle.pl k q hq] at hp
    rw [hq, hp]
  refine ⟨fun t => (h.env t).mono hle, h.num, h.defs, ⟨?_, ?_, ?_, hh.rdv, ?_⟩, ⟨hf.os.trans h.frm.os, hf.tape.trans h.frm.tape, hf.output.trans h.frm.output, Nat.le_trans hsz hsz', ?_, ?_, ?_, ?_, ?_, h.frm.le.trans hle, fun b hb h1 => hf.mko b (by simp only; omega) (h.frm.mko b hb h1)⟩, fun g row hg => (h.glob g row hg).mono hle⟩
  · intro k p hp
    have := hh.pls k p hp
    simp only
    rw [hm.len]; exact this
  · intro k ob' hk
    rcases hcase k ob' hk with ⟨h1, _⟩ | ⟨hlt, hn, h1⟩
    · exact hh.live k ob' h1
    · obtain ⟨p, hp, hl⟩ := h.heap.live k ob' h1
      refine ⟨p, hle.pl _ _ hp, hl.mono hle (fun m hm' => ?_) (fun m hm' => ?_) (fun h0 h2 => hf.mko _ (hl.block_lt h0) h2)⟩
      · obtain ⟨h2, h3⟩ := hold k ob' p h1 hn hp m hm'
        exact hf.cell _ h2 h3
      · obtain ⟨h2, h3⟩ := hold k ob' p h1 hn hp m hm'
        obtain ⟨v, hv, _⟩ := hl.there m hm'
        exact hf.frz _ v hv h3
  · intro k k' r r' p p' m m' hk hk' hne hp hp' hm1 hm2 e
    rcases hcase k r hk with ⟨h1, _⟩ | ⟨hlt, hn, h1⟩ <;> rcases hcase k' r' hk' with ⟨h1', _⟩ | ⟨hlt', hn', h1'⟩
    · exact hh.sep k k' r r' p p' m m' h1 h1' hne hp hp' hm1 hm2 e
    · obtain ⟨h2, h3⟩ := hold k' r' p' h1' hn' (hpl k' r' p' h1' hp') m' hm2
      rcases hmine k r p m h1 hp hm1 with h4 | h4
      · have : p.block = p'.block := congrArg Addr.block e
        omega
      · rw [e] at h4; exact h3 h4
    · obtain ⟨h2, h3⟩ := hold k r p h1 hn (hpl k r p h1 hp) m hm1
      rcases hmine k' r' p' m' h1' hp' hm2 with h4 | h4
      · have : p.block = p'.block := congrArg Addr.block e
        omega
      · rw [← e] at h4; exact h3 h4
    · exact h.heap.sep k k' r r' p p' m m' h1 h1' hne (hpl k r p h1 hp) (hpl k' r' p' h1' hp') hm1 hm2 e
  · intro k r p m hk hp hm1
    rcases hcase k r hk with ⟨h1, _⟩ | ⟨hlt, hn, h1⟩
    · exact hh.rds k r p m h1 hp hm1
    · have hp0 := hpl k r p h1 hp
      obtain ⟨h2, h3⟩ := hold k r p h1 hn hp0 m hm1
      cases hrd : G'.rd (p.cellAt m) with
      | none => rfl
      | some v =>
        rcases hf.rdn _ v hrd with h4 | h4 | h4
        · rw [h.heap.rds k r p m h1 hp0 hm1] at h4; cases h4
        · have : (p.cellAt m).block = p.block := rfl
          simp only at h4
          omega
        · exact absurd h4 h3
  · intro b hb hn
    rw [← h.frm.blk b hb hn]
    refine hf.blk b (by simp only; omega) (fun o ⟨k, ob, p, m, h1, h2, h3, h4⟩ => ?_)
    rcases h.frm.mine k ob p m (hm.sub k ob h1) h2 h3 with h5 | h5
    · have : b = p.block := congrArg Addr.block h4
      omega
    · exact hn o (h4 ▸ h5)
  · intro x hx hn
    rw [← h.frm.cell x hx hn]
    refine hf.cell x (by simp only; omega) (fun ⟨k, ob, p, m, h1, h2, h3, h4⟩ => ?_)
    rcases h.frm.mine k ob p m (hm.sub k ob h1) h2 h3 with h5 | h5
    · have : x.block = p.block := congrArg Addr.block h4
      omega
    · exact hn (h4 ▸ h5)
  · intro x v hx hn
    have hxb := World.block_lt_of_cell? _ _ hx
    rw [← h.frm.frz x v hx hn]
    refine hf.frz x v ((h.frm.cell x hxb hn).trans hx) (fun ⟨k, ob, p, m, h1, h2, h3, h4⟩ => ?_)
    rcases h.frm.mine k ob p m (hm.sub k ob h1) h2 h3 with h5 | h5
    · have : x.block = p.block := congrArg Addr.block h4
      omega
    · exact hn (h4 ▸ h5)
  · intro k r p m hk hp hm1
    rcases hcase k r hk with ⟨h1, _⟩ | ⟨hlt, hn, h1⟩
    · rcases hmine k r p m h1 hp hm1 with h4 | ⟨k2, ob2, p2, m2, h5, h6, h7, h8⟩
      · left; omega
      · rcases h.frm.mine k2 ob2 p2 m2 (hm.sub k2 ob2 h5) h6 h7 with h9 | h9
        · left
          have : p.block = p2.block := congrArg Addr.block h8
          omega
        · right; rw [h8]; exact h9
    · exact h.frm.mine k r p m h1 (hpl k r p h1 hp) hm1
  · intro x v hx
    rcases hf.rdn x v hx with h4 | h4 | ⟨k2, ob2, p2, m2, h5, h6, h7, h8⟩
    · exact h.frm.rdn x v h4
    · right; left; simp only at h4; omega
    · rcases h.frm.mine k2 ob2 p2 m2 (hm.sub k2 ob2 h5) h6 h7 with h9 | h9
      · right; left
        have : x.block = p2.block := congrArg Addr.block h8
        omega
      · right; right; rw [h8]; exact h9

/-- What is handed to the callee: a part of the caller's table. -/
theorem Heap.sub {G : Gh} {T T1 : Objs} {w : World} (h : Heap G T w) (hl : T1.length = T.length) (hs : ∀ (k : Nat) (ob : Ob), T1[k]? = some (some ob) → T[k]? = some (some ob)) : Heap G T1 w :=
  ⟨fun k p hp => by rw [hl]; exact h.pls k p hp, fun k ob hk => h.live k ob (hs k ob hk), fun k k' r r' p p' m m' hk hk' => h.sep k k' r r' p p' m m' (hs k r hk) (hs k' r' hk'), h.rdv, fun k r p m hk => h.rds k r p m (hs k r hk)⟩

theorem getElem?_rep {n k : Nat} {ob : Ob} (h : (List.replicate n (none : Option Ob))[k]? = some (some ob)) : False := by
  rw [List.getElem?_replicate] at h
  split at h <;> simp at h

theorem Merged.pure (T os : Objs) : Merged T (List.replicate T.length none) (List.replicate T.length none ++ os) (T ++ os) := by
  refine ⟨by simp, by simp, fun k ob h => (getElem?_rep h).elim, fun k ob ob' h => (getElem?_rep h).elim, fun k ob' hk _ h => ?_, fun k ob' hk h => ?_⟩
  · rw [List.getElem?_append_left hk] at h; exact .inl h
  · rw [List.getElem?_append_right hk] at h
    rw [List.getElem?_append_right (by simpa using hk)]
    simpa using h

/-- One object is handed over. -/
theorem Merged.one (T os : Objs) (k : Nat) (ob : Ob) (x : Option Ob) (hk : T[k]? = some (some ob)) :
    Merged T ((List.replicate T.length none).set k (some ob)) ((List.replicate T.length none).set k x ++ os) (T.set k x ++ os) := by
  have hlt : k < T.length := (List.getElem?_eq_some_iff.1 hk).1
  have hT1 : ∀ (j : Nat) (o : Ob), ((List.replicate T.length (none : Option Ob)).set k (some ob))[j]? = some (some o) → j = k ∧ o = ob := fun j o h => by
    rw [getElem?_set] at h
    by_cases e : k = j
    · subst e
      rw [if_pos rfl, if_pos (by simpa using hlt)] at h
      exact ⟨rfl, by simpa using h.symm⟩
    · rw [if_neg e] at h; exact (getElem?_rep h).elim
  refine ⟨by simp, by simp, fun j o h => ?_, fun j o o' h h' => ?_, fun j o' hj hn h => ?_, fun j o' hj h => ?_⟩
  · obtain ⟨rfl, rfl⟩ := hT1 j o h; exact hk
  · obtain ⟨rfl, rfl⟩ := hT1 j o h
    rw [List.getElem?_append_left (by simpa using hlt), getElem?_set, if_pos rfl, if_pos hlt] at h'
    rw [List.getElem?_append_left (by simpa using hlt), getElem?_set, if_pos rfl, if_pos (by simpa using hlt)]
    exact h'
  · rw [List.getElem?_append_left (by simpa using hj), getElem?_set] at h
    by_cases e : k = j
    · subst e
      exact absurd (by rw [getElem?_set, if_pos rfl, if_pos (by simpa using hlt)]) (hn ob)
    · rw [if_neg e] at h; exact .inl h
  · rw [List.getElem?_append_right (by simpa using hj)] at h
    rw [List.getElem?_append_right (by simpa using hj)]
    simpa using h
/-- All is handed over. -/
theorem Merged.all {T T1' : Objs} : Merged T T T1' T1' := ⟨rfl, rfl, fun _ _ h => h, fun _ _ _ _ h => h, fun _ _ _ _ h => .inr h, fun _ _ _ h => h⟩

/-! ### A function's results -/
inductive Res where
  | t (n : Nat)
  | c (n : Nat) (ag : Bool) (sz : Nat)

def Res.ev (st : St) : Res → Option DV
  | .t n => some (st.get n)
  | .c n ag sz => match st.get n with
    | .ptr o i j => match st.objs[o]? with
      | some (some ob) => match ob.rows[i]? with
        | some row => rowAt ag sz row j
        | none => none
      | _ => none
    | .rp row j => rowAt ag sz row j
    | _ => none

def ress (st : St) : List Res → Option (List DV)
  | [] => some []
  | r :: l => match r.ev st, ress st l with
    | some d, some ds => some (d :: ds)
    | _, _ => none
def resOf (st : St) (l : List Res) : Option DV :=
  match ress st l with
  | some [d] => some d
  | some ds => some (.tup ds)
  | none => none

def resOk (P : Program) : List ResultVar → List Res → Prop
  | [], [] => True
  | .tmp t :: l, .t n :: l' => t = n ∧ resOk P l l'
  | .cell t ty :: l, .c n ag sz :: l' => t = n ∧ tyAgg P ty = some ag ∧ tySize P ty = some sz ∧ resOk P l l'
  | _, _ => False

theorem ress_run {E : Prg} {C : Ctx} {G : Gh} {st : St} {a : Act} {w : World} (hr : RelG E C G st a w) : ∀ (l : List ResultVar) (l' : List Res) (ds : List DV), resOk E.P l l' → ress st l' = some ds →
    ∃ vs : List Value, ((l.mapM fun
    | .tmp t => pure (a.tmps.getD t undef)
    | .cell x t => do loadVar t (← asAddr (a.tmps.getD x undef))) : Sem (List Value)).run E.P w = .ok vs w ∧ vs.length = ds.length ∧ ∀ (i : Nat) d v, ds[i]? = some d → vs[i]? = some v → Rel G d v
  | [], [], ds, _, h => by
    obtain rfl := Option.some.inj h
    exact ⟨[], rfl, rfl, by simp⟩
  | r :: l, r' :: l', ds, hok, h => by
    simp only [ress] at h
    split at h
    · rename_i d ds' hd hds
      obtain rfl := Option.some.inj h
      have key : resOk E.P l l' ∧ ∃ v, ((match r with
          | .tmp t => pure (a.tmps.getD t undef)
          | .cell x t => do loadVar t (← asAddr (a.tmps.getD x undef))) : Sem Value).run E.P w = .ok v w ∧ Rel G d v := by
        cases r with
        | tmp t =>
          cases r' with
          | t n =>
            obtain ⟨rfl, hok2⟩ := hok
            obtain rfl := Option.some.inj hd
            exact ⟨hok2, _, rfl, hr.env t⟩
          | c n ag sz => exact hok.elim
        | cell x ty =>
          cases r' with
          | t n => exact hok.elim
          | c n ag sz =>
            obtain ⟨rfl, h1, h2, hok2⟩ := hok
            refine ⟨hok2, ?_⟩
            have r1 := hr.env x
            generalize hu : a.tmps.getD x undef = u at r1
            simp only [Res.ev] at hd
            split at hd
            · rename_i ob i j e1
              rw [e1] at r1
              split at hd
              · rename_i b hb
                split at hd
                · rename_i row hrow
                  obtain ⟨p, _, _, rfl, hA⟩ := ptr_cells hr.heap hb hrow r1
                  obtain ⟨v, hv1, hv2⟩ := load_row h1 h2 hA hd
                  exact ⟨v, by simp only [hu, asAddr, Sem.run_bind, Sem.run_pure, Result.andThen_ok, hv1], hv2⟩
                · cases hd
              · cases hd
            · rename_i row j e1
              rw [e1] at r1
              obtain ⟨A, rfl, _, hA⟩ := rp_cells hr.heap r1
              obtain ⟨v, hv1, hv2⟩ := load_row h1 h2 hA hd
              exact ⟨v, by simp only [hu, asAddr, Sem.run_bind, Sem.run_pure, Result.andThen_ok, hv1], hv2⟩
            · cases hd
      obtain ⟨hok2, v, hv1, hv2⟩ := key
      obtain ⟨vs, hvs, hl, hrel⟩ := ress_run hr l l' ds' hok2 hds
      refine ⟨v :: vs, ?_, by simp [hl], fun i d' v' hd' hv' => ?_⟩
      · simp only [List.mapM_cons, Sem.run_bind, hvs, Result.andThen_ok, Sem.run_pure]
        erw [hv1]
        simp only [Result.andThen_ok]
        erw [hvs]
        rfl
      · rcases i with _ | i
        · simp at hd' hv'; subst hd' hv'; exact hv2
        · exact hrel i d' v' (by simpa using hd') (by simpa using hv')
    · cases h
  | [], _ :: _, _, hok, _ => hok.elim
  | r :: _, [], _, hok, _ => by cases r <;> exact hok.elim

theorem resOf_run {E : Prg} {C : Ctx} {G : Gh} {st : St} {a : Act} {w : World} (hr : RelG E C G st a w) {fn : Func} {l' : List Res} {d : DV} (hok : resOk E.P fn.results.toList l') (h : resOf st l' = some d) :
    ∃ v, (results fn a.tmps).run E.P w = .ok v w ∧ Rel G d v := by
  unfold resOf at h
  have main : ∀ ds, ress st l' = some ds → ∃ vs : Array Value, (results fn a.tmps).run E.P w = .ok (if h : vs.size = 1 then vs[0] else .tuple vs) w ∧ vs.size = ds.length ∧ ∀ (i : Nat) d, ds[i]? = some d → Rel G d (vs.getD i undef) := by
    intro ds hds
    obtain ⟨vs, hvs, hl, hrel⟩ := ress_run hr fn.results.toList l' ds hok hds
    refine ⟨vs.toArray, ?_, by simpa using hl, fun i d hd => ?_⟩
    · unfold results
      rw [← Array.toArray_toList (xs := fn.results), List.mapM_toArray]
      simp only [Sem.run_bind, Sem.run_map, Result.andThen_ok, Sem.run_pure]
      erw [hvs]
      rfl
    · have hi : i < vs.length := by rw [hl]; exact (List.getElem?_eq_some_iff.1 hd).1
      rw [getD_toList _ i vs[i] (by simp [hi])]
      exact hrel i d _ hd (List.getElem?_eq_getElem hi)
  split at h
  · rename_i d0 hds
    obtain rfl := Option.some.inj h
    obtain ⟨vs, h1, h2, h3⟩ := main _ hds
    have hs : vs.size = 1 := by simpa using h2
    refine ⟨vs[0], by rw [h1, dif_pos hs], ?_⟩
    have := h3 0 d0 rfl
    rw [Array.getD_eq_getD_getElem?, Array.getElem?_eq_getElem (by omega)] at this
    exact this
  · rename_i ds hne hds
    obtain rfl := Option.some.inj h
    obtain ⟨vs, h1, h2, h3⟩ := main _ hds
    have hs : vs.size ≠ 1 := fun hs => by
      rw [hs] at h2
      match ds, h2 with
      | [d], _ => exact hne d rfl
    exact ⟨.tuple vs, by rw [h1, dif_neg hs], .tup ds vs h2 h3⟩
  · cases h

end Go.Proofs.Ytaopaongpoecoaa
