/- Texts Ab11, Ab12, Ab13, Ab14, Ab15, Ab16, Ab17, Ab18 in one. -/
import Derived.Test.YtdimdjcnkmkbjaaDoorM1
set_option linter.unusedVariables false
set_option linter.unusedSimpArgs false
set_option maxRecDepth 10000
namespace Go.Proofs.YtdimdjcnkmkbjaaDoor
open Go.RowKit
def cellsOf (G : Gh) (T : Objs) (x : Addr) : Prop := ∃ k ob p m, T[k]? = some (some ob) ∧ G.pl k = some p ∧ m < p.cap * p.sz ∧ x = p.cellAt m
def GCalls (E : Prg) (f : Nat) (args : List DV) (T : Objs) (R : DV → Objs → Prop) : Prop :=
  ∀ (G : Gh) (w : World) (vs : Array Value), GlobOk E G → Heap G T w → vs.size = args.length → (∀ (i : Nat) d, args[i]? = some d → Rel G d (vs.getD i undef)) →
    Calls E.P f vs w fun e w' => ∃ v r T' G', e = .returned v ∧ R r T' ∧ T.length ≤ T'.length ∧ Rel G' r v ∧ Heap G' T' w' ∧ Frm ⟨w, G, cellsOf G T, 0⟩ G' T' w'
theorem GCalls.mono {E : Prg} {f : Nat} {args : List DV} {T : Objs} {R R' : DV → Objs → Prop} (h : GCalls E f args T R) (hR : ∀ r T', R r T' → R' r T') : GCalls E f args T R' :=
  fun G w vs h1 h2 h3 h4 => Calls.mono (h G w vs h1 h2 h3 h4) fun e w' ⟨v, r, T', G', a, b, c⟩ => ⟨v, r, T', G', a, hR _ _ b, c⟩
def PCalls (E : Prg) (f : Nat) (args : List DV) (R : Nat → DV → Objs → Prop) : Prop :=
  ∀ n, GCalls E f args (List.replicate n none) fun r T' => ∃ os, T' = List.replicate n none ++ os ∧ R n r os
structure Merged (T T1 T1' T' : Objs) : Prop where
  len : T'.length = T1'.length
  len1 : T1.length = T.length
  sub : ∀ (k : Nat) (ob : Ob), T1[k]? = some (some ob) → T[k]? = some (some ob)
  over : ∀ (k : Nat) (ob ob' : Ob), T1[k]? = some (some ob) → T'[k]? = some (some ob') → T1'[k]? = some (some ob')
  kept : ∀ (k : Nat) (ob' : Ob), k < T.length → (∀ ob, T1[k]? ≠ some (some ob)) → T'[k]? = some (some ob') → T[k]? = some (some ob') ∨ T1'[k]? = some (some ob')
  new : ∀ (k : Nat) (ob' : Ob), T.length ≤ k → T'[k]? = some (some ob') → T1'[k]? = some (some ob')
theorem RelG.called {E : Prg} {C : Ctx} {G G' : Gh} {st : St} {a : Act} {w w' : World} {T1 T1' T' : Objs} (h : RelG E C G st a w) (hm : Merged st.objs T1 T1' T') (hh : Heap G' T1' w') (hf : Frm ⟨w, G, cellsOf G T1, 0⟩ G' T1' w') (hlen : st.objs.length ≤ T1'.length) :
    RelG E C G' { st with objs := T' } a w' := by
  have hle : G.le G' := hf.le
  have hsz := h.frm.size
  have hsz' := hf.size
  have hold : ∀ k ob p, st.objs[k]? = some (some ob) → (∀ ob, T1[k]? ≠ some (some ob)) → G.pl k = some p → ∀ m, m < p.cap * p.sz → p.block < w.heap.size ∧ ¬ cellsOf G T1 (p.cellAt m) := by
    intro k ob p hk hn hp m hm'
    obtain ⟨q, hq, hl⟩ := h.heap.live k ob hk
    obtain rfl : q = p := sj (hq.symm.trans hp)
    refine ⟨hl.block_lt hm', fun ⟨k2, ob2, p2, m2, h1, h2, h3, h4⟩ => ?_⟩
    exact h.heap.sep k k2 ob ob2 q p2 m m2 hk (hm.sub k2 ob2 h1) (fun e => by subst e; exact hn _ h1) hp h2 hm' h3 h4
  have hcase : ∀ (k : Nat) (ob' : Ob), T'[k]? = some (some ob') → (T1'[k]? = some (some ob') ∧ True) ∨ (k < st.objs.length ∧ (∀ ob, T1[k]? ≠ some (some ob)) ∧ st.objs[k]? = some (some ob')) := by
    intro k ob' hk
    by_cases hlt : k < st.objs.length
    · by_cases hal : ∃ ob, T1[k]? = some (some ob)
      · obtain ⟨ob, hob⟩ := hal
        exact .inl ⟨hm.over k ob ob' hob hk, trivial⟩
      · have hal' : ∀ ob, T1[k]? ≠ some (some ob) := fun ob hob => hal ⟨ob, hob⟩
        rcases hm.kept k ob' hlt hal' hk with h5 | h5
        · exact .inr ⟨hlt, hal', h5⟩
        · exact .inl ⟨h5, trivial⟩
    · exact .inl ⟨hm.new k ob' (by omega) hk, trivial⟩
  have hmine : ∀ k ob p m, T1'[k]? = some (some ob) → G'.pl k = some p → m < p.cap * p.sz → w.heap.size ≤ p.block ∨ cellsOf G T1 (p.cellAt m) := hf.mine
  have hpl : ∀ k ob p, st.objs[k]? = some (some ob) → G'.pl k = some p → G.pl k = some p := fun k ob p hk hp => by
    obtain ⟨q, hq, _⟩ := h.heap.live k ob hk
    rw [hle.pl k q hq] at hp
    rw [hq, hp]
  refine ⟨fun t => (h.env t).mono hle, h.num, h.defs, ⟨?_, ?_, ?_, hh.rdv, ?_⟩, ⟨hf.os.trans h.frm.os, hf.tape.trans h.frm.tape, hf.output.trans h.frm.output, Nat.le_trans hsz hsz', ?_, ?_, ?_, ?_, ?_, h.frm.le.trans hle, fun b hb h1 => hf.mko b (by simp only; omega) (h.frm.mko b hb h1)⟩, fun g row hg => (h.glob g row hg).mono hle⟩
  · intro k p hp
    have := hh.pls k p hp
    simp only
    rw [hm.len]; exact this
  · intro k ob' hk
    rcases hcase k ob' hk with ⟨h1, _⟩ | ⟨hlt, hn, h1⟩
    · exact hh.live k ob' h1
    · obtain ⟨p, hp, hl⟩ := h.heap.live k ob' h1
      refine ⟨p, hle.pl _ _ hp, hl.mono hle (fun hx a c e => ?_) (fun m hm' => ?_) (fun hx m hm' => ?_) (fun h0 h2 => hf.mko _ (hl.block_lt h0) h2)⟩
      · cases ob' with
        | box => exact absurd trivial hx
        | arr => exact absurd trivial hx
        | map es =>
          rw [← e]
          refine hf.blk _ (hl.mp es rfl).lt fun o ⟨k2, ob2, p2, m2, g1, g2, g3, g4⟩ => ?_
          exact h.heap.mapBlk h1 (hm.sub k2 ob2 g1) (fun e => by subst e; exact hn _ g1) hp g2 g3 (congrArg Addr.block g4).symm
      · obtain ⟨h2, h3⟩ := hold k ob' p h1 hn hp m hm'
        exact hf.cell _ h2 h3
      · obtain ⟨h2, h3⟩ := hold k ob' p h1 hn hp m hm'
        obtain ⟨v, hv, _⟩ := hl.there hx m hm'
        exact hf.frz _ v hv h3
  · intro k k' r r' p p' m m' hk hk' hne hp hp' hm1 hm2 e
    rcases hcase k r hk with ⟨h1, _⟩ | ⟨hlt, hn, h1⟩ <;> rcases hcase k' r' hk' with ⟨h1', _⟩ | ⟨hlt', hn', h1'⟩
    · exact hh.sep k k' r r' p p' m m' h1 h1' hne hp hp' hm1 hm2 e
    · obtain ⟨h2, h3⟩ := hold k' r' p' h1' hn' (hpl k' r' p' h1' hp') m' hm2
      rcases hmine k r p m h1 hp hm1 with h4 | h4
      · have : p.block = p'.block := congrArg Addr.block e
        omega
      · rw [e] at h4; exact h3 h4
    · obtain ⟨h2, h3⟩ := hold k r p h1 hn (hpl k r p h1 hp) m hm1
      rcases hmine k' r' p' m' h1' hp' hm2 with h4 | h4
      · have : p.block = p'.block := congrArg Addr.block e
        omega
      · rw [← e] at h4; exact h3 h4
    · exact h.heap.sep k k' r r' p p' m m' h1 h1' hne (hpl k r p h1 hp) (hpl k' r' p' h1' hp') hm1 hm2 e
  · intro k r p m hk hp hm1
    rcases hcase k r hk with ⟨h1, _⟩ | ⟨hlt, hn, h1⟩
    · exact hh.rds k r p m h1 hp hm1
    · have hp0 := hpl k r p h1 hp
      obtain ⟨h2, h3⟩ := hold k r p h1 hn hp0 m hm1
      cases hrd : G'.rd (p.cellAt m) with
      | none => rfl
      | some v =>
        rcases hf.rdn _ v hrd with h4 | h4 | h4
        · rw [h.heap.rds k r p m h1 hp0 hm1] at h4; cases h4
        · have : (p.cellAt m).block = p.block := rfl
          simp only at h4
          omega
        · exact absurd h4 h3
  · intro b hb hn
    rw [← h.frm.blk b hb hn]
    refine hf.blk b (by simp only; omega) (fun o ⟨k, ob, p, m, h1, h2, h3, h4⟩ => ?_)
    rcases h.frm.mine k ob p m (hm.sub k ob h1) h2 h3 with h5 | h5
    · have : b = p.block := congrArg Addr.block h4
      omega
    · exact hn o (h4 ▸ h5)
  · intro x hx hn
    rw [← h.frm.cell x hx hn]
    refine hf.cell x (by simp only; omega) (fun ⟨k, ob, p, m, h1, h2, h3, h4⟩ => ?_)
    rcases h.frm.mine k ob p m (hm.sub k ob h1) h2 h3 with h5 | h5
    · have : x.block = p.block := congrArg Addr.block h4
      omega
    · exact hn (h4 ▸ h5)
  · intro x v hx hn
    have hxb := World.block_lt_of_cell? _ _ hx
    rw [← h.frm.frz x v hx hn]
    refine hf.frz x v ((h.frm.cell x hxb hn).trans hx) (fun ⟨k, ob, p, m, h1, h2, h3, h4⟩ => ?_)
    rcases h.frm.mine k ob p m (hm.sub k ob h1) h2 h3 with h5 | h5
    · have : x.block = p.block := congrArg Addr.block h4
      omega
    · exact hn (h4 ▸ h5)
  · intro k r p m hk hp hm1
    rcases hcase k r hk with ⟨h1, _⟩ | ⟨hlt, hn, h1⟩
    · rcases hmine k r p m h1 hp hm1 with h4 | ⟨k2, ob2, p2, m2, h5, h6, h7, h8⟩
      · left; omega
      · rcases h.frm.mine k2 ob2 p2 m2 (hm.sub k2 ob2 h5) h6 h7 with h9 | h9
        · left
          have : p.block = p2.block := congrArg Addr.block h8
          omega
        · right; rw [h8]; exact h9
    · exact h.frm.mine k r p m h1 (hpl k r p h1 hp) hm1
  · intro x v hx
    rcases hf.rdn x v hx with h4 | h4 | ⟨k2, ob2, p2, m2, h5, h6, h7, h8⟩
    · exact h.frm.rdn x v h4
    · right; left; simp only at h4; omega
    · rcases h.frm.mine k2 ob2 p2 m2 (hm.sub k2 ob2 h5) h6 h7 with h9 | h9
      · right; left
        have : x.block = p2.block := congrArg Addr.block h8
        omega
      · right; right; rw [h8]; exact h9
theorem Heap.sub {G : Gh} {T T1 : Objs} {w : World} (h : Heap G T w) (hl : T1.length = T.length) (hs : ∀ (k : Nat) (ob : Ob), T1[k]? = some (some ob) → T[k]? = some (some ob)) : Heap G T1 w :=
  ⟨fun k p hp => by rw [hl]; exact h.pls k p hp, fun k ob hk => h.live k ob (hs k ob hk), fun k k' r r' p p' m m' hk hk' => h.sep k k' r r' p p' m m' (hs k r hk) (hs k' r' hk'), h.rdv, fun k r p m hk => h.rds k r p m (hs k r hk)⟩
theorem getElem?_rep {n k : Nat} {ob : Ob} (h : (List.replicate n (none : Option Ob))[k]? = some (some ob)) : False := by
  rw [List.getElem?_replicate] at h
  split at h <;> simp at h
theorem Merged.pure (T os : Objs) : Merged T (List.replicate T.length none) (List.replicate T.length none ++ os) (T ++ os) := by
  refine ⟨by simp, by simp, fun k ob h => (getElem?_rep h).elim, fun k ob ob' h => (getElem?_rep h).elim, fun k ob' hk _ h => ?_, fun k ob' hk h => ?_⟩
  · rw [List.getElem?_append_left hk] at h; exact .inl h
  · rw [List.getElem?_append_right hk] at h
    rw [List.getElem?_append_right (by simpa using hk)]
    simpa using h
theorem Merged.one (T os : Objs) (k : Nat) (ob : Ob) (x : Option Ob) (hk : T[k]? = some (some ob)) :
    Merged T ((List.replicate T.length none).set k (some ob)) ((List.replicate T.length none).set k x ++ os) (T.set k x ++ os) := by
  have hlt : k < T.length := (List.getElem?_eq_some_iff.1 hk).1
  have hT1 : ∀ (j : Nat) (o : Ob), ((List.replicate T.length (none : Option Ob)).set k (some ob))[j]? = some (some o) → j = k ∧ o = ob := fun j o h => by
    rw [getElem?_set] at h
    by_cases e : k = j
    · subst e
      rw [if_pos rfl, if_pos (by simpa using hlt)] at h
      exact ⟨rfl, by simpa using h.symm⟩
    · rw [if_neg e] at h; exact (getElem?_rep h).elim
  refine ⟨by simp, by simp, fun j o h => ?_, fun j o o' h h' => ?_, fun j o' hj hn h => ?_, fun j o' hj h => ?_⟩
  · obtain ⟨rfl, rfl⟩ := hT1 j o h; exact hk
  · obtain ⟨rfl, rfl⟩ := hT1 j o h
    rw [List.getElem?_append_left (by simpa using hlt), getElem?_set, if_pos rfl, if_pos hlt] at h'
    rw [List.getElem?_append_left (by simpa using hlt), getElem?_set, if_pos rfl, if_pos (by simpa using hlt)]
    exact h'
  · rw [List.getElem?_append_left (by simpa using hj), getElem?_set] at h
    by_cases e : k = j
    · subst e
      exact absurd (by rw [getElem?_set, if_pos rfl, if_pos (by simpa using hlt)]) (hn ob)
    · rw [if_neg e] at h; exact .inl h
  · rw [List.getElem?_append_right (by simpa using hj)] at h
    rw [List.getElem?_append_right (by simpa using hj)]
    simpa using h
theorem Merged.all {T T1' : Objs} : Merged T T T1' T1' := ⟨rfl, rfl, fun _ _ h => h, fun _ _ _ _ h => h, fun _ _ _ _ h => .inr h, fun _ _ _ h => h⟩
inductive Res where
  | t (n : Nat)
  | c (n : Nat) (ag : Bool) (sz : Nat)
def Res.ev (st : St) : Res → Option DV
  | .t n => some (st.get n)
  | .c n ag sz => match st.get n with
    | .ptr o i j => match st.objs[o]? with
      | some (some ob) => match ob.rows[i]? with
        | some row => rowAt ag sz row j
        | none => none
      | _ => none
    | .rp row j => rowAt ag sz row j
    | _ => none
def ress (st : St) : List Res → Option (List DV)
  | [] => some []
  | r :: l => match r.ev st, ress st l with
    | some d, some ds => some (d :: ds)
    | _, _ => none
def resOf (st : St) (l : List Res) : Option DV :=
  match ress st l with
  | some [d] => some d
  | some ds => some (.tup ds)
  | none => none
def resOk (P : Program) : List ResultVar → List Res → Prop
  | [], [] => True
  | .tmp t :: l, .t n :: l' => t = n ∧ resOk P l l'
  | .cell t ty :: l, .c n ag sz :: l' => t = n ∧ tyAgg P ty = some ag ∧ tySize P ty = some sz ∧ resOk P l l'
  | _, _ => False
theorem ress_run {E : Prg} {C : Ctx} {G : Gh} {st : St} {a : Act} {w : World} (hr : RelG E C G st a w) : ∀ (l : List ResultVar) (l' : List Res) (ds : List DV), resOk E.P l l' → ress st l' = some ds →
    ∃ vs : List Value, ((l.mapM fun
    | .tmp t => pure (a.tmps.getD t undef)
    | .cell x t => do loadVar t (← asAddr (a.tmps.getD x undef))) : Sem (List Value)).run E.P w = .ok vs w ∧ vs.length = ds.length ∧ ∀ (i : Nat) d v, ds[i]? = some d → vs[i]? = some v → Rel G d v
  | [], [], ds, _, h => by
    obtain rfl := sj h
    exact ⟨[], rfl, rfl, by simp⟩
  | r :: l, r' :: l', ds, hok, h => by
    simp only [ress] at h
    split at h
    · rename_i d ds' hd hds
      obtain rfl := sj h
      have key : resOk E.P l l' ∧ ∃ v, ((match r with
          | .tmp t => pure (a.tmps.getD t undef)
          | .cell x t => do loadVar t (← asAddr (a.tmps.getD x undef))) : Sem Value).run E.P w = .ok v w ∧ Rel G d v := by
        cases r with
        | tmp t =>
          cases r' with
          | t n =>
            obtain ⟨rfl, hok2⟩ := hok
            obtain rfl := sj hd
            exact ⟨hok2, _, rfl, hr.env t⟩
          | c n ag sz => exact hok.elim
        | cell x ty =>
          cases r' with
          | t n => exact hok.elim
          | c n ag sz =>
            obtain ⟨rfl, h1, h2, hok2⟩ := hok
            refine ⟨hok2, ?_⟩
            have r1 := hr.env x
            generalize hu : a.tmps.getD x undef = u at r1
            simp only [Res.ev] at hd
            split at hd
            · rename_i ob i j e1
              rw [e1] at r1
              split at hd
              · rename_i b hb
                split at hd
                · rename_i row hrow
                  obtain ⟨p, _, _, rfl, hA⟩ := ptr_cells hr.heap hb hrow r1
                  obtain ⟨v, hv1, hv2⟩ := load_row h1 h2 hA hd
                  exact ⟨v, by simp only [hu, asAddr, Sem.run_bind, Sem.run_pure, Result.andThen_ok, hv1], hv2⟩
                · cases hd
              · cases hd
            · rename_i row j e1
              rw [e1] at r1
              obtain ⟨A, rfl, _, hA⟩ := rp_cells hr.heap r1
              obtain ⟨v, hv1, hv2⟩ := load_row h1 h2 hA hd
              exact ⟨v, by simp only [hu, asAddr, Sem.run_bind, Sem.run_pure, Result.andThen_ok, hv1], hv2⟩
            · cases hd
      obtain ⟨hok2, v, hv1, hv2⟩ := key
      obtain ⟨vs, hvs, hl, hrel⟩ := ress_run hr l l' ds' hok2 hds
      refine ⟨v :: vs, ?_, by simp [hl], fun i d' v' hd' hv' => ?_⟩
      · simp only [List.mapM_cons, Sem.run_bind, hvs, Result.andThen_ok, Sem.run_pure]
        erw [hv1]
        simp only [Result.andThen_ok]
        erw [hvs]
        rfl
      · rcases i with _ | i
        · simp at hd' hv'; subst hd' hv'; exact hv2
        · exact hrel i d' v' (by simpa using hd') (by simpa using hv')
    · cases h
  | [], _ :: _, _, hok, _ => hok.elim
  | r :: _, [], _, hok, _ => by cases r <;> exact hok.elim
theorem resOf_run {E : Prg} {C : Ctx} {G : Gh} {st : St} {a : Act} {w : World} (hr : RelG E C G st a w) {fn : Func} {l' : List Res} {d : DV} (hok : resOk E.P fn.results.toList l') (h : resOf st l' = some d) :
    ∃ v, (results fn a.tmps).run E.P w = .ok v w ∧ Rel G d v := by
  unfold resOf at h
  have main : ∀ ds, ress st l' = some ds → ∃ vs : Array Value, (results fn a.tmps).run E.P w = .ok (if h : vs.size = 1 then vs[0] else .tuple vs) w ∧ vs.size = ds.length ∧ ∀ (i : Nat) d, ds[i]? = some d → Rel G d (vs.getD i undef) := by
    intro ds hds
    obtain ⟨vs, hvs, hl, hrel⟩ := ress_run hr fn.results.toList l' ds hok hds
    refine ⟨vs.toArray, ?_, by simpa using hl, fun i d hd => ?_⟩
    · unfold results
      rw [← Array.toArray_toList (xs := fn.results), List.mapM_toArray]
      simp only [Sem.run_bind, Sem.run_map, Result.andThen_ok, Sem.run_pure]
      erw [hvs]
      rfl
    · have hi : i < vs.length := by rw [hl]; exact (List.getElem?_eq_some_iff.1 hd).1
      rw [getD_toList _ i vs[i] (by simp [hi])]
      exact hrel i d _ hd (List.getElem?_eq_getElem hi)
  split at h
  · rename_i d0 hds
    obtain rfl := sj h
    obtain ⟨vs, h1, h2, h3⟩ := main _ hds
    have hs : vs.size = 1 := by simpa using h2
    refine ⟨vs[0], by rw [h1, dif_pos hs], ?_⟩
    have := h3 0 d0 rfl
    rw [Array.getD_eq_getD_getElem?, Array.getElem?_eq_getElem (by omega)] at this
    exact this
  · rename_i ds hne hds
    obtain rfl := sj h
    obtain ⟨vs, h1, h2, h3⟩ := main _ hds
    have hs : vs.size ≠ 1 := fun hs => by
      rw [hs] at h2
      match ds, h2 with
      | [d], _ => exact hne d rfl
    exact ⟨.tuple vs, by rw [h1, dif_neg hs], .tup ds vs h2 h3⟩
  · cases h
structure ROper where
  dst : Option Nat
  op : ROp
  guard : Option (Nat × Bool)
  fz : Bool
inductive OT where
  | done
  | mid (o : ROper) (k : OT)
  | op (o : ROper) (k : OT)
  | take (o : ROper) (ps : List Opd) (k : OT)
  | alt (a b : OT)
inductive RC where
  | skip
  | reg (ops : List ROper) (lo : Nat) (keep : List Nat)
  | regD (t : OT) (lo : Nat) (keep : List Nat)
  | seq (a b : RC)
  | cond (c : Opd) (t e : RC)
  | blk (id : Nat) (b : RC)
  | loop (b : RC)
  | ext (id : Nat)
  | ret
def cParts (P : Program) (fs : Array Field) : List (Nat × Operand) → Option (List (Nat × Nat × Opd))
  | [] => some []
  | (i, x) :: l => match fs[i]?, copd x, cParts P fs l with
    | some f, some y, some l' => some ((f.offset, P.cellsOf f.type, y) :: l')
    | _, _, _ => none
def cPartsA (sz : Nat) : List (Nat × Operand) → Option (List (Nat × Nat × Opd))
  | [] => some []
  | (i, x) :: l => match copd x, cPartsA sz l with
    | some y, some l' => some ((i * sz, sz, y) :: l')
    | _, _ => none
def cParts2 : List (Nat × Operand) → Option (List (Nat × Opd))
  | [] => some []
  | (i, x) :: l => match copd x, cParts2 l with
    | some y, some l' => some ((i, y) :: l')
    | _, _ => none
def cArgs : List Operand → Option (List Opd)
  | [] => some []
  | x :: l => match copd x, cArgs l with
    | some y, some l' => some (y :: l')
    | _, _ => none
theorem cArgs_rel {E : Prg} {C : Ctx} {G : Gh} {st : St} {a : Act} {w : World} (hr : RelG E C G st a w) : ∀ {l : List Operand} {l' : List Opd}, cArgs l = some l' → l.length = l'.length ∧ ∀ (i : Nat) d, (l'.map (Opd.ev E st))[i]? = some d → Rel G d ((l.map a.eval).toArray.getD i undef)
  | [], l', h => by
    obtain rfl := sj h
    exact ⟨rfl, by simp⟩
  | x :: l, l', h => by
    simp only [cArgs] at h
    split at h
    · rename_i y l2 h1 h2
      obtain rfl := sj h
      obtain ⟨h3, h4⟩ := cArgs_rel hr h2
      refine ⟨by simp [h3], fun i d hd => ?_⟩
      rcases i with _ | i
      · simp at hd; subst hd
        rw [getD_toList _ 0 (a.eval x) (by simp)]
        exact hr.ev h1
      · have hd' : (l2.map (Opd.ev E st))[i]? = some d := by simpa using hd
        have := h4 i d hd'
        have hi : i < l.length := by rw [h3]; simpa using (List.getElem?_eq_some_iff.1 hd').1
        rw [getD_toList _ i (a.eval l[i]) (by simp [hi])] at this
        rw [getD_toList _ (i + 1) (a.eval l[i]) (by simp [hi])]
        exact this
    · cases h
def uslice (P : Program) (t : TypeId) : Option TypeId := match P.underlying t with | some (.slice e) => some e | _ => none
def isSlice (P : Program) (t : TypeId) : Bool := (uslice P t).isSome
def isStr (P : Program) (t : TypeId) : Bool := match P.underlying t with | some .string => true | _ => false
def isU8 (P : Program) (t : TypeId) : Bool := match P.underlying t with | some (.int .u8) => true | _ => false
def ustruct (P : Program) (t : TypeId) : Option (Array Field) := match P.underlying t with | some (.struct fs) => some fs | _ => none
def uarray (P : Program) (t : TypeId) : Option (Nat × TypeId) := match P.underlying t with | some (.array n e) => some (n, e) | _ => none
def compBin (P : Program) (op : BinOp) (t : TypeId) (y1 y2 : Opd) : Option ROp :=
  match P.underlying t with
  | some (.int _) | some .string => some (.bin op y1 y2)
  | some .bool => (match op with | .eql => some (.eqB false y1 y2) | .neq => some (.eqB true y1 y2) | _ => none)
  | some (.slice _) => (match op with | .eql => some (.eqNil false y1 y2) | .neq => some (.eqNil true y1 y2) | _ => none)
  | some (.pointer _) => (match op with | .eql => some (.eqP false y1 y2) | .neq => some (.eqP true y1 y2) | _ => none)
  | some (.struct _) => (match flatKinds P t with
    | some ks => (match op with | .eql => some (.eqS false ks y1 y2) | .neq => some (.eqS true ks y1 y2) | _ => none)
    | none => none)
  | _ => none
def compConv (P : Program) (s d : TypeId) (y : Opd) : Option ROp :=
  match P.underlying s, P.underlying d with
  | some (.int _), some (.int k) => some (.conv (.i2i k) y)
  | some (.slice e), some .string => if isU8 P e then some (.conv .b2s y) else none
  | some .string, some (.slice e) => if isU8 P e then some (.conv .s2b y) else none
  | some .string, some .string => some (.conv .s2s y)
  | some (.slice _), some (.slice e) => if s = d ∧ isU8 P e then some (.conv .lit y) else none
  | _, _ => none
def isConc (P : Program) (t : TypeId) : Bool := match P.underlying t with
  | some (.interface _) => false
  | some _ => true
  | none => false
theorem isConc_ok {P : Program} {t : TypeId} (h : isConc P t = true) : ∃ k, P.underlying t = some k ∧ ∀ ms, k ≠ .interface ms := by
  unfold isConc at h
  split at h
  · cases h
  · rename_i k hn hk; exact ⟨k, hk, fun ms e => hn ms e⟩
  · cases h
def hasBody (P : Program) (f : FuncId) : Bool := match P.funcs[f]? with
  | some fn => fn.body.isSome && !(fn.name == "runtime.NumGoroutine")
  | none => false
def ROp.isCall : ROp → Bool
  | .call .. => true
  | .calld .. => true
  | .inv .. => true
  | _ => false
def compCall (P : Program) (c : Call) : Option ROp :=
  match c.callee with
  | .value (.func f) => if hasBody P f then (cArgs c.args.toList).map (.call f) else none
  | .value (.tmp t) => (cArgs c.args.toList).map (.calld (.t t))
  | .invoke x name => (match copd x with
    | some y => (cArgs c.args.toList).map (.inv y name)
    | none => none)
  | .builtin .len => (match c.args.toList, c.argTypes.toList with
    | [x], [t] => (match copd x with
      | some y => if isSlice P t then some (.len y) else if isStr P t then some (.lenS y) else none
      | none => none)
    | _, _ => none)
  | .builtin .append => (match c.args.toList, c.argTypes.toList with
    | [x1, x2], [t, t2] => (match copd x1, copd x2, uslice P t with
      | some y1, some y2, some e => (match tySize P e, tyBytes P e, tyZero P e with
        | some sz, some by_, some z => if z.length = sz ∧ (isSlice P t2 = true ∨ isStr P t2 = true) then some (.append sz by_ y1 y2) else none
        | _, _, _ => none)
      | _, _, _ => none)
    | _, _ => none)
  | .builtin .copy => (match c.args.toList, c.argTypes.toList with
    | [x1, x2], [t, t2] => (match copd x1, copd x2, uslice P t with
      | some y1, some y2, some e => (tySize P e).map fun sz => .copy sz y1 y2
      | _, _, _ => none)
    | _, _ => none)
  | .builtin .min => (match c.args.toList with
    | [x1, x2] => (match copd x1, copd x2 with
      | some y1, some y2 => some (.mm false y1 y2)
      | _, _ => none)
    | _ => none)
  | .builtin .max => (match c.args.toList with
    | [x1, x2] => (match copd x1, copd x2 with
      | some y1, some y2 => some (.mm true y1 y2)
      | _, _ => none)
    | _ => none)
  | _ => none
def compSet (P : Program) (t : TypeId) (m k x : Operand) : Option ROp :=
  match umap P t, copd m, copd k, copd x with
  | some (kt, et), some ym, some yk, some yx => (keyT P kt).map fun kd => .mset kd ym yk yx
  | _, _, _, _ => none
theorem compSet_ok {E : Prg} {o : Oper} {t : TypeId} {m k x : Operand} {r : ROp} (ho : o.op = .mapUpdate t m k x ∨ o.op = .insert t m k x) (h : compSet E.P t m k x = some r) : OpOk E o r ∧ r.isCall = false := by
  unfold compSet at h
  split at h
  · rename_i kt et ym yk yx h1 h2 h3 h4
    obtain ⟨kd, hk, rfl⟩ := Option.map_eq_some_iff.1 h
    exact ⟨ok_mset ho (umap_eq h1) hk h2 h3 h4, rfl⟩
  · cases h
def compOp (P : Program) (o : Op) : Option ROp :=
  match o with
  | .move x => (copd x).map .mov
  | .assign x => (copd x).map .mov
  | .pick c a b => (match copd c, copd a, copd b with
    | some c, some a, some b => some (.pick c a b)
    | _, _, _ => none)
  | .alloc t => (tyZero P t).map .alloc
  | .box t x => (match tySize P t, copd x with
    | some sz, some y => some (.box sz y)
    | _, _ => none)
  | .build t parts => (match ustruct P t, tyZero P t with
    | some fs, some z => if fs.toList.all (fun f => (P.info? f.type).isSome) then (cParts P fs parts.toList).map (.build z) else none
    | none, some z => (match uarray P t with
      | some (_, e) => (match tySize P e with
        | some sz => (cPartsA sz parts.toList).map (.build z)
        | none => none)
      | none => none)
    | _, _ => none)
  | .buildSlice t len parts => (match uslice P t with
    | some e => (match tySize P e, tyZero P e, cParts2 parts.toList with
      | some sz, some z, some ps => if z.length = sz ∧ len * sz ≤ 16777216 then some (.mkrow sz z len ps) else none
      | _, _, _ => none)
    | none => none)
  | .load t x => (match tyAgg P t, tySize P t, copd x with
    | some ag, some sz, some y => some (.load ag sz y)
    | _, _, _ => none)
  | .store t p x => (match tySize P t, copd p, copd x with
    | some sz, some y1, some y2 => some (.store sz y1 y2)
    | _, _, _ => none)
  | .nilCheck x => (copd x).map .nilck
  | .binOp op t x y _ => (match copd x, copd y with
    | some y1, some y2 => compBin P op t y1 y2
    | _, _ => none)
  | .unOp op _ x => (copd x).map (.un op)
  | .convert s d x => (match copd x with
    | some y => compConv P s d y
    | none => none)
  | .slice t x lo hi mx => (match copd x, copdO lo, copdO hi, copdO mx with
    | some y, some lo', some hi', some mx' => (match uslice P t with
      | some e => (match tySize P e with
        | some sz => if mx.isSome = true → hi.isSome = true then some (.slice sz y lo' hi' mx') else none
        | none => none)
      | none => if isStr P t = true ∧ mx.isNone = true then some (.sliceS y lo' hi') else none)
    | _, _, _, _ => none)
  | .fieldAddr t x f => (match ustruct P t, copd x with
    | some fs, some y => (match fs[f]? with
      | some fd => (match tySize P fd.type with
        | some n => if n = 0 then none else some (.faddr fd.offset y)
        | none => none)
      | none => none)
    | _, _ => none)
  | .field t x f => (match ustruct P t, copd x with
    | some fs, some y => (match fs[f]? with
      | some fd => (match tyAgg P fd.type, tySize P fd.type with
        | some ag, some n => some (.fld ag fd.offset n y)
        | _, _ => none)
      | none => none)
    | _, _ => none)
  | .indexAddr t x i => (match copd x, copd i with
    | some y1, some y2 => (match uslice P t with
      | some e => (tySize P e).map fun sz => .iaddr sz y1 y2
      | none => (match uarray P t with
        | some (len, e) => (tySize P e).map fun sz => .iaddrA len sz y1 y2
        | none => none))
    | _, _ => none)
  | .index t x i => (match copd x, copd i with
    | some y1, some y2 => if isStr P t then some (.idxS y1 y2) else none
    | _, _ => none)
  | .extract x i => (copd x).map fun y => .ext y i
  | .makeSlice t n c => (match copd n, copd c, uslice P t with
    | some y1, some y2, some e => (match tySize P e, tyBytes P e, tyZero P e with
      | some sz, some b, some z => some (.mkslice sz b z y1 y2)
      | _, _, _ => none)
    | _, _, _ => none)
  | .call c => compCall P c
  | .makeFunc (.func f) first captured => if first.size = 0 then (cArgs captured.toList).map (.mkfn f) else none
  | .makeInterface t x => if isConc P t then (copd x).map (.mkIfc t) else none
  | .typeAssert x _ t false => if isConc P t then (copd x).map (.asrt t) else none
  | .makeMap _ none => some .mkmap
  | .mapUpdate t m k x => compSet P t m k x
  | .insert t m k x => compSet P t m k x
  | .lookup t m k ok => (match umap P t, copd m, copd k with
    | some (kt, et), some ym, some yk => (match keyT P kt, zeroDV P et with
      | some kd, some z => some (.mget kd ok z ym yk)
      | _, _ => none)
    | _, _, _ => none)
  | _ => none
def dstOk (n : Nat) : Option Nat → Bool
  | some t => decide (t < n)
  | none => true
def compOper (P : Program) (n : Nat) (fz : List Nat) (ops : Array Oper) (o : Oper) : Option ROper :=
  match compOp P o.op with
  | some r => if dstOk n o.dst = true then
      (match o.guard with
      | none => some ⟨o.dst, r, none, (match o.dst with | some t => fz.contains t | none => false)⟩
      | some (j, want) => (match (ops[j]?).bind (·.dst) with
        | some t => some ⟨o.dst, r, some (t, want), (match o.dst with | some t => fz.contains t | none => false)⟩
        | none => none)) else none
  | none => none
def compOps (P : Program) (n : Nat) (fz : List Nat) (ops : Array Oper) : List Oper → Option (List ROper)
  | [] => some []
  | o :: l => match compOper P n fz ops o, compOps P n fz ops l with
    | some r, some l' => some (r :: l')
    | _, _ => none
def Opd.tm : Opd → List Nat
  | .t n => [n]
  | _ => []
def optOpd : Option Opd → List Opd
  | some x => [x]
  | none => []
def ROp.opds : ROp → List Opd
  | .mov x | .box _ x | .load _ _ x | .nilck x | .un _ x | .conv _ x | .faddr _ x | .fld _ _ _ x | .ext x _ | .len x | .lenS x => [x]
  | .pick c a b => [c, a, b]
  | .alloc _ => []
  | .build _ parts => parts.map (·.2.2)
  | .mkrow _ _ _ parts => parts.map (·.2)
  | .store _ p x => [p, x]
  | .bin _ x y | .eqB _ x y | .eqNil _ x y | .eqP _ x y | .eqS _ _ x y | .iaddr _ x y | .iaddrA _ _ x y | .idxS x y | .append _ _ x y | .copy _ x y | .mm _ x y => [x, y]
  | .slice _ x lo hi mx => x :: (optOpd lo ++ optOpd hi ++ optOpd mx)
  | .sliceS x lo hi => x :: (optOpd lo ++ optOpd hi)
  | .mkslice _ _ _ n c => [n, c]
  | .call _ l => l
  | .calld y l => y :: l
  | .mkfn _ l => l
  | .mkIfc _ x | .asrt _ x => [x]
  | .inv x _ l => x :: l
  | .mkmap => []
  | .mset _ m k x => [m, k, x]
  | .mget _ _ _ m k => [m, k]
def ROp.tms (op : ROp) : List Nat := op.opds.flatMap Opd.tm
def ROp.quiet : ROp → Bool
  | .box .. | .alloc .. | .mkrow .. | .store .. | .append .. | .copy .. | .mkslice .. | .call .. | .calld .. | .inv .. | .mkmap | .mset .. | .conv .s2b _ | .conv .lit _ => false
  | _ => true
def ROp.blind : ROp → Bool
  | .mov _ | .pick .. | .nilck _ | .bin .. | .eqB .. | .eqNil .. | .eqP .. | .eqS .. | .un .. | .build .. | .conv (.i2i _) _ | .conv .s2s _ | .sliceS .. | .faddr .. | .fld .. | .iaddrA .. | .idxS .. | .ext .. | .len _ | .lenS _ | .mm .. | .mkfn .. | .mkIfc .. | .asrt .. => true
  | _ => false
def ROp.wr : ROp → List Opd
  | .store _ p _ => [p]
  | .append _ _ x _ => [x]
  | .copy _ x _ => [x]
  | .mset _ m _ _ => [m]
  | _ => []
def ROper.looks (o : ROper) : List Nat := o.op.tms ++ (match o.guard with | some (t, _) => [t] | none => [])
def ROper.sets (o : ROper) : List Nat := match o.dst with | some d => [d] | none => []
def listApart (a b : List Nat) : Bool := a.all fun x => !b.contains x
def apartR (x y : ROper) : Bool := listApart x.sets (y.looks ++ y.sets) && listApart y.sets x.looks
def depsOf (ops : Array Oper) (i : Nat) : List Nat :=
  match ops[i]? with
  | some o => (o.after.toList.filter fun e => Region.binds .any e).map (·.on)
  | none => []
def maskOf (acc : List Nat) : List Nat → Nat → Nat
  | [], m => m
  | k :: l, m => maskOf acc l (m ||| (1 <<< k) ||| acc.getD k 0)
def ancs (ops : Array Oper) : Nat → List Nat
  | 0 => []
  | n + 1 => ancs ops n ++ [maskOf (ancs ops n) (depsOf ops n) 0]
def rivals (ops : Array Oper) (anc : List Nat) (rl : List ROper) (listed : Array Bool) (i : Nat) : List ROper :=
  ((List.range ops.size).filter fun j => j != i && !listed.getD j true && !(anc.getD j 0).testBit i).filterMap (rl[·]?)
def takeable (ops : Array Oper) (anc : List Nat) (rl : List ROper) (listed : Array Bool) (i : Nat) : Option (ROper × List Opd) :=
  match rl[i]? with
  | some r =>
    let rv := rivals ops anc rl listed i
    if r.op.quiet && !r.fz && rv.all (fun y => apartR r y && !y.fz) then
      (if r.op.blind then some (r, []) else
        let ps := rv.flatMap fun y => y.op.wr
        if ps.all (fun p => rv.all fun y => listApart p.tm y.sets) then some (r, ps) else none)
    else none
  | none => none
def firstSome {α β : Type} (f : α → Option β) : List α → Option (α × β)
  | [] => none
  | x :: l => match f x with
    | some y => some (x, y)
    | none => firstSome f l
def altAll (g : Nat → Option OT) : List Nat → Option OT
  | [] => none
  | [i] => g i
  | i :: l => match g i, altAll g l with
    | some a, some b => some (.alt a b)
    | _, _ => none
def midOk (ops : Array Oper) (anc : List Nat) (rl : List ROper) (e : Nat) : Bool := (List.range ops.size).all fun i => i == e || (anc.getD e 0).testBit i || (anc.getD i 0).testBit e || (match rl[i]? with
  | some r => r.op.blind
  | none => false)
def midsOf (ops : Array Oper) (anc : List Nat) (rl : List ROper) : List Nat :=
  (List.range ops.size).filter fun e => (match rl[e]? with
  | some r => r.op.isCall
  | none => false) && midOk ops anc rl e
def compD (ops : Array Oper) (anc : List Nat) (rl : List ROper) (en : List Nat) : Nat → Array Bool → Option OT
  | 0, listed => match Region.ready .any ops listed with
    | [] => some .done
    | _ => none
  | fuel + 1, listed => match Region.ready .any ops listed with
    | [] => some .done
    | rs => match firstSome (takeable ops anc rl listed) rs with
      | some (i, r, ps) => (compD ops anc rl en fuel (listed.setIfInBounds i true)).map (.take r ps)
      | none => altAll (fun i => match rl[i]? with
        | some r => if en.contains i = true then (compD ops anc rl en fuel (listed.setIfInBounds i true)).map (.mid r) else (compD ops anc rl en fuel (listed.setIfInBounds i true)).map (.op r)
        | none => none) rs
structure Ann where
  id : Nat
  lo : Nat
  keep : List Nat
  fz : List Nat
def annOf (ann : List Ann) (id : Nat) : Ann := (ann.find? fun a => a.id == id).getD ⟨id, 1000000, [], []⟩
def comp (P : Program) (n : Nat) (ann : List Ann) : Code → Option RC
  | .skip => some .skip
  | .region id ops draw => match compOps P n (annOf ann id).fz ops ops.toList with
    | some l => if draw then (if P.follows .mixedOrders = true then (compD ops (ancs ops ops.size) l (midsOf ops (ancs ops ops.size) l) ops.size (Array.replicate ops.size false)).map fun t => .regD t (annOf ann id).lo (annOf ann id).keep else none)
      else some (.reg l (annOf ann id).lo (annOf ann id).keep)
    | none => none
  | .seq a b => match comp P n ann a, comp P n ann b with
    | some a', some b' => some (.seq a' b')
    | _, _ => none
  | .cond c a b => match copd c, comp P n ann a, comp P n ann b with
    | some y, some a', some b' => some (.cond y a' b')
    | _, _, _ => none
  | .block id b => (comp P n ann b).map (.blk id)
  | .loop b => (comp P n ann b).map .loop
  | .exit id => some (.ext id)
  | .ret => some .ret
  | _ => none
theorem compOper_inv {P : Program} {n : Nat} {fz : List Nat} {ops : Array Oper} {o : Oper} {r : ROper} (h : compOper P n fz ops o = some r) :
    compOp P o.op = some r.op ∧ r.dst = o.dst ∧ dstOk n o.dst = true ∧ ((r.guard = none ∧ o.guard = none) ∨ ∃ j t want, r.guard = some (t, want) ∧ o.guard = some (j, want) ∧ (ops[j]?).bind (·.dst) = some t) := by
  unfold compOper at h
  cases hop : compOp P o.op with
  | none => rw [hop] at h; cases h
  | some rop =>
    rw [hop] at h
    simp only at h
    by_cases hd : dstOk n o.dst = true
    · rw [if_pos hd] at h
      cases hg : o.guard with
      | none => rw [hg] at h; obtain rfl := sj h; exact ⟨rfl, rfl, hd, .inl ⟨rfl, rfl⟩⟩
      | some x =>
        obtain ⟨j, want⟩ := x
        rw [hg] at h
        simp only at h
        cases hj : (ops[j]?).bind (·.dst) with
        | none => rw [hj] at h; cases h
        | some t => rw [hj] at h; obtain rfl := sj h; exact ⟨rfl, rfl, hd, .inr ⟨j, t, want, rfl, rfl, hj⟩⟩
    · rw [if_neg hd] at h; cases h
theorem dstOk_lt {n : Nat} {d : Option Nat} (h : dstOk n d = true) : ∀ t, d = some t → t < n := fun t e => by subst e; exact of_decide_eq_true h
theorem compOps_get {P : Program} {n : Nat} {fz : List Nat} {ops : Array Oper} : ∀ {l : List Oper} {rl : List ROper}, compOps P n fz ops l = some rl → rl.length = l.length ∧ ∀ (i : Nat) o r, l[i]? = some o → rl[i]? = some r → compOper P n fz ops o = some r
  | [], rl, h => by obtain rfl := sj h; simp
  | o :: l, rl, h => by
    simp only [compOps] at h
    split at h
    · rename_i r l' h1 h2
      obtain rfl := sj h
      obtain ⟨h3, h4⟩ := compOps_get h2
      refine ⟨by simp [h3], fun i o' r' ho hr => ?_⟩
      rcases i with _ | i
      · simp at ho hr; subst ho hr; exact h1
      · exact h4 i o' r' (by simpa using ho) (by simpa using hr)
    · cases h
theorem uslice_eq {P : Program} {t e : TypeId} (h : uslice P t = some e) : P.underlying t = some (.slice e) := by
  unfold uslice at h; split at h
  · rename_i e' he; obtain rfl := sj h; exact he
  · cases h
theorem ustruct_eq {P : Program} {t : TypeId} {fs : Array Field} (h : ustruct P t = some fs) : P.underlying t = some (.struct fs) := by
  unfold ustruct at h; split at h
  · rename_i e' he; obtain rfl := sj h; exact he
  · cases h
theorem uarray_eq {P : Program} {t e : TypeId} {n : Nat} (h : uarray P t = some (n, e)) : P.underlying t = some (.array n e) := by
  unfold uarray at h; split at h
  · rename_i he; obtain ⟨rfl, rfl⟩ := Prod.mk.inj (sj h); exact he
  · cases h
theorem isStr_eq {P : Program} {t : TypeId} (h : isStr P t = true) : P.underlying t = some .string := by
  unfold isStr at h; split at h
  · assumption
  · cases h
theorem isU8_eq {P : Program} {t : TypeId} (h : isU8 P t = true) : P.underlying t = some (.int .u8) := by
  unfold isU8 at h; split at h
  · assumption
  · cases h
theorem isSlice_eq {P : Program} {t : TypeId} (h : isSlice P t = true) : ∃ e, P.underlying t = some (.slice e) := by
  obtain ⟨e, he⟩ := Option.isSome_iff_exists.1 h
  exact ⟨e, uslice_eq he⟩
theorem cParts_ok {P : Program} {fs : Array Field} : ∀ {l : List (Nat × Operand)} {l' : List (Nat × Nat × Opd)}, cParts P fs l = some l' → partsOk (fun i => (fs[i]?).map fun f => (f.offset, P.cellsOf f.type)) l l'
  | [], l', h => by obtain rfl := sj h; trivial
  | (i, x) :: l, l', h => by
    simp only [cParts] at h
    split at h
    · rename_i f y l2 h1 h2 h3
      obtain rfl := sj h
      exact ⟨by simp [h1], h2, cParts_ok h3⟩
    · cases h
theorem cPartsA_ok {sz : Nat} : ∀ {l : List (Nat × Operand)} {l' : List (Nat × Nat × Opd)}, cPartsA sz l = some l' → partsOk (fun i => some (i * sz, sz)) l l'
  | [], l', h => by obtain rfl := sj h; trivial
  | (i, x) :: l, l', h => by
    simp only [cPartsA] at h
    split at h
    · rename_i y l2 h2 h3
      obtain rfl := sj h
      exact ⟨rfl, h2, cPartsA_ok h3⟩
    · cases h
theorem cParts2_ok : ∀ {l : List (Nat × Operand)} {l' : List (Nat × Opd)}, cParts2 l = some l' → partsOk2 l l'
  | [], l', h => by obtain rfl := sj h; trivial
  | (i, x) :: l, l', h => by
    simp only [cParts2] at h
    split at h
    · rename_i y l2 h2 h3
      obtain rfl := sj h
      exact ⟨rfl, h2, cParts2_ok h3⟩
    · cases h
theorem arr_of_toList {α : Type} {a : Array α} {l : List α} (h : a.toList = l) : a = l.toArray := by
  rw [← h]
theorem ok_mkfn {E : Prg} {o : Oper} {f : FuncId} {captured : Array Operand} {l : List Opd} (ho : o.op = .makeFunc (.func f) #[] captured) (hl : cArgs captured.toList = some l) : OpOk E o (.mkfn f l) := by
  refine OpOk.quiet fun C G st a w d objs' hr hv => ?_
  simp only [rval] at hv
  obtain ⟨rfl, rfl⟩ := Prod.mk.inj (sj hv)
  obtain ⟨h1, h2⟩ := cArgs_rel hr hl
  refine ⟨rfl, .func (.func f) #[] (captured.map a.eval), by simp [execOp, ho, Instr.makeFunc], .clo f _ _ (by simp; simpa using h1) ?_⟩
  have : captured.map a.eval = (captured.toList.map a.eval).toArray := by apply Array.ext'; simp
  rw [this]; exact h2
theorem compCall_ok {E : Prg} {o : Oper} {c : Call} {r : ROp} (ho : o.op = .call c) (h : compCall E.P c = some r) : (∃ f l, r = .call f l ∧ c.callee = .value (.func f) ∧ cArgs c.args.toList = some l ∧ hasBody E.P f = true) ∨ (∃ t l, r = .calld (.t t) l ∧ c.callee = .value (.tmp t) ∧ cArgs c.args.toList = some l) ∨ (OpOk E o r ∧ r.isCall = false) ∨ (∃ x y name l, r = .inv y name l ∧ c.callee = .invoke x name ∧ copd x = some y ∧ cArgs c.args.toList = some l) := by
  unfold compCall at h
  split at h
  · rename_i f hc
    split at h
    · rename_i hb
      obtain ⟨l, hl, rfl⟩ := Option.map_eq_some_iff.1 h
      exact .inl ⟨f, l, rfl, hc, hl, hb⟩
    · cases h
  · rename_i t hc
    obtain ⟨l, hl, rfl⟩ := Option.map_eq_some_iff.1 h
    exact .inr (.inl ⟨t, l, rfl, hc, hl⟩)
  · rename_i x name hc
    split at h
    · rename_i y hy
      obtain ⟨l, hl, rfl⟩ := Option.map_eq_some_iff.1 h
      exact .inr (.inr (.inr ⟨x, y, name, l, rfl, hc, hy, hl⟩))
    · cases h
  · rename_i hc
    split at h
    · rename_i x t hx ht
      split at h
      · rename_i y hy
        split at h
        · rename_i hs
          obtain rfl := sj h
          obtain ⟨e, he⟩ := isSlice_eq hs
          exact .inr (.inr (.inl ⟨ok_len ho hc (arr_of_toList hx) (arr_of_toList ht) he hy, rfl⟩))
        · split at h
          · rename_i hs
            obtain rfl := sj h
            exact .inr (.inr (.inl ⟨ok_lenS ho hc (arr_of_toList hx) (arr_of_toList ht) (isStr_eq hs) hy, rfl⟩))
          · cases h
      · cases h
    · cases h
  · rename_i hc
    split at h
    · rename_i x1 x2 t t2 hx ht
      split at h
      · rename_i y1 y2 e h1 h2 he
        split at h
        · rename_i sz by_ z hsz hby hz
          split at h
          · rename_i hcond
            obtain rfl := sj h
            exact .inr (.inr (.inl ⟨ok_append ho hc (arr_of_toList hx) (arr_of_toList ht) (uslice_eq he) (hcond.2.imp isSlice_eq isStr_eq) hsz hby hz hcond.1 h1 h2, rfl⟩))
          · cases h
        · cases h
      · cases h
    · cases h
  · rename_i hc
    split at h
    · rename_i x1 x2 t t2 hx ht
      split at h
      · rename_i y1 y2 e h1 h2 he
        obtain ⟨sz, hsz, rfl⟩ := Option.map_eq_some_iff.1 h
        exact .inr (.inr (.inl ⟨ok_copy ho hc (arr_of_toList hx) (arr_of_toList ht) (uslice_eq he) hsz h1 h2, rfl⟩))
      · cases h
    · cases h
  · rename_i hc
    split at h
    · rename_i x1 x2 hx
      split at h
      · rename_i y1 y2 h1 h2
        obtain rfl := sj h
        exact .inr (.inr (.inl ⟨ok_mm (isMax := false) ho hc (arr_of_toList hx) h1 h2, rfl⟩))
      · cases h
    · cases h
  · rename_i hc
    split at h
    · rename_i x1 x2 hx
      split at h
      · rename_i y1 y2 h1 h2
        obtain rfl := sj h
        exact .inr (.inr (.inl ⟨ok_mm (isMax := true) ho hc (arr_of_toList hx) h1 h2, rfl⟩))
      · cases h
    · cases h
  · cases h
theorem compOp_ok {E : Prg} {o : Oper} {r : ROp} (h : compOp E.P o.op = some r) : (∃ c f l, o.op = .call c ∧ r = .call f l ∧ c.callee = .value (.func f) ∧ cArgs c.args.toList = some l ∧ hasBody E.P f = true) ∨ (∃ c t l, o.op = .call c ∧ r = .calld (.t t) l ∧ c.callee = .value (.tmp t) ∧ cArgs c.args.toList = some l) ∨ (OpOk E o r ∧ r.isCall = false) ∨ (∃ c x y name l, o.op = .call c ∧ r = .inv y name l ∧ c.callee = .invoke x name ∧ copd x = some y ∧ cArgs c.args.toList = some l) := by
  generalize hop : o.op = op at h
  unfold compOp at h
  split at h
  · obtain ⟨y, hy, rfl⟩ := Option.map_eq_some_iff.1 h
    exact .inr (.inr (.inl ⟨ok_mov (.inl hop) hy, rfl⟩))
  · obtain ⟨y, hy, rfl⟩ := Option.map_eq_some_iff.1 h
    exact .inr (.inr (.inl ⟨ok_mov (.inr hop) hy, rfl⟩))
  · split at h
    · obtain rfl := sj h
      exact .inr (.inr (.inl ⟨ok_pick hop ‹_› ‹_› ‹_›, rfl⟩))
    · cases h
  · obtain ⟨z, hz, rfl⟩ := Option.map_eq_some_iff.1 h
    exact .inr (.inr (.inl ⟨ok_alloc hop hz, rfl⟩))
  · split at h
    · obtain rfl := sj h
      exact .inr (.inr (.inl ⟨ok_box hop ‹_›, rfl⟩))
    · cases h
  · split at h
    · rename_i fs z hfs hz
      split at h
      · rename_i hall
        obtain ⟨ps, hps, rfl⟩ := Option.map_eq_some_iff.1 h
        exact .inr (.inr (.inl ⟨ok_build hop (ustruct_eq hfs) hz (fun f hf => List.all_eq_true.1 hall f hf) (cParts_ok hps), rfl⟩))
      · cases h
    · rename_i z hfs hz
      split at h
      · rename_i n e hu
        split at h
        · rename_i sz hsz
          obtain ⟨ps, hps, rfl⟩ := Option.map_eq_some_iff.1 h
          exact .inr (.inr (.inl ⟨ok_buildA hop (uarray_eq hu) hz hsz (cPartsA_ok hps), rfl⟩))
        · cases h
      · cases h
    · cases h
  · split at h
    · rename_i e he
      split at h
      · rename_i sz z ps hsz hz hps
        split at h
        · rename_i hc
          obtain rfl := sj h
          exact .inr (.inr (.inl ⟨ok_mkrow hop (uslice_eq he) hsz hz hc.1 hc.2 (cParts2_ok hps), rfl⟩))
        · cases h
      · cases h
    · cases h
  · split at h
    · obtain rfl := sj h
      exact .inr (.inr (.inl ⟨ok_load hop ‹_› ‹_› ‹_›, rfl⟩))
    · cases h
  · split at h
    · obtain rfl := sj h
      exact .inr (.inr (.inl ⟨ok_store hop ‹_› ‹_› ‹_›, rfl⟩))
    · cases h
  · obtain ⟨y, hy, rfl⟩ := Option.map_eq_some_iff.1 h
    exact .inr (.inr (.inl ⟨ok_nilck hop hy, rfl⟩))
  · split at h
    · rename_i y1 y2 h1 h2
      unfold compBin at h
      split at h
      · obtain rfl := sj h; exact .inr (.inr (.inl ⟨ok_bin hop h1 h2, rfl⟩))
      · obtain rfl := sj h; exact .inr (.inr (.inl ⟨ok_bin hop h1 h2, rfl⟩))
      · rename_i hb
        split at h
        · obtain rfl := sj h; exact .inr (.inr (.inl ⟨ok_eqB (neg := false) hop hb h1 h2, rfl⟩))
        · obtain rfl := sj h; exact .inr (.inr (.inl ⟨ok_eqB (neg := true) hop hb h1 h2, rfl⟩))
        · cases h
      · rename_i hb
        split at h
        · obtain rfl := sj h; exact .inr (.inr (.inl ⟨ok_eqNil (neg := false) hop hb h1 h2, rfl⟩))
        · obtain rfl := sj h; exact .inr (.inr (.inl ⟨ok_eqNil (neg := true) hop hb h1 h2, rfl⟩))
        · cases h
      · rename_i hb
        split at h
        · obtain rfl := sj h; exact .inr (.inr (.inl ⟨ok_eqP (neg := false) hop hb h1 h2, rfl⟩))
        · obtain rfl := sj h; exact .inr (.inr (.inl ⟨ok_eqP (neg := true) hop hb h1 h2, rfl⟩))
        · cases h
      · rename_i hb
        split at h
        · rename_i ks hks
          split at h
          · obtain rfl := sj h; exact .inr (.inr (.inl ⟨ok_eqS (neg := false) hop hks h1 h2, rfl⟩))
          · obtain rfl := sj h; exact .inr (.inr (.inl ⟨ok_eqS (neg := true) hop hks h1 h2, rfl⟩))
          · cases h
        · cases h
      · cases h
    · cases h
  · obtain ⟨y, hy, rfl⟩ := Option.map_eq_some_iff.1 h
    exact .inr (.inr (.inl ⟨ok_un hop hy, rfl⟩))
  · split at h
    · rename_i y hy
      unfold compConv at h
      split at h
      · rename_i h1 h2
        obtain rfl := sj h; exact .inr (.inr (.inl ⟨ok_i2i hop (by simp [h1]) h2 hy, rfl⟩))
      · rename_i h1 h2
        split at h
        · obtain rfl := sj h; exact .inr (.inr (.inl ⟨ok_b2s hop h1 (isU8_eq ‹_›) h2 hy, rfl⟩))
        · cases h
      · rename_i h1 h2
        split at h
        · obtain rfl := sj h; exact .inr (.inr (.inl ⟨ok_s2b hop h1 h2 (isU8_eq ‹_›) hy, rfl⟩))
        · cases h
      · rename_i h1 h2
        obtain rfl := sj h; exact .inr (.inr (.inl ⟨ok_s2s hop h1 h2 hy, rfl⟩))
      · rename_i h1 h2
        split at h
        · rename_i hc
          obtain rfl := sj h; exact .inr (.inr (.inl ⟨ok_lit hop hc.1 h2 (isU8_eq hc.2) hy, rfl⟩))
        · cases h
      · cases h
    · cases h
  · split at h
    · rename_i y lo' hi' mx' h1 h2 h3 h4
      split at h
      · rename_i e he
        split at h
        · rename_i sz hsz
          split at h
          · rename_i hc
            obtain rfl := sj h
            exact .inr (.inr (.inl ⟨ok_slice hop (uslice_eq he) hsz h1 h2 h3 h4 hc, rfl⟩))
          · cases h
        · cases h
      · split at h
        · rename_i hc
          obtain rfl := sj h
          obtain ⟨hs, hm⟩ := hc
          have := Option.isNone_iff_eq_none.1 hm
          subst this
          exact .inr (.inr (.inl ⟨ok_sliceS hop (isStr_eq hs) h1 h2 h3, rfl⟩))
        · cases h
    · cases h
  · split at h
    · rename_i fs y hfs hy
      split at h
      · rename_i fd hfd
        split at h
        · rename_i n hn
          split at h
          · cases h
          · rename_i hn0
            obtain rfl := sj h
            exact .inr (.inr (.inl ⟨ok_faddr hop (ustruct_eq hfs) hfd rfl hn hn0 hy, rfl⟩))
        · cases h
      · cases h
    · cases h
  · split at h
    · rename_i fs y hfs hy
      split at h
      · rename_i fd hfd
        split at h
        · obtain rfl := sj h
          exact .inr (.inr (.inl ⟨ok_fld hop (ustruct_eq hfs) hfd rfl ‹_› ‹_› hy, rfl⟩))
        · cases h
      · cases h
    · cases h
  · split at h
    · rename_i y1 y2 h1 h2
      split at h
      · rename_i e he
        obtain ⟨sz, hsz, rfl⟩ := Option.map_eq_some_iff.1 h
        exact .inr (.inr (.inl ⟨ok_iaddr hop (uslice_eq he) hsz h1 h2, rfl⟩))
      · split at h
        · rename_i len e he
          obtain ⟨sz, hsz, rfl⟩ := Option.map_eq_some_iff.1 h
          exact .inr (.inr (.inl ⟨ok_iaddrA hop (uarray_eq he) hsz h1 h2, rfl⟩))
        · cases h
    · cases h
  · split at h
    · rename_i y1 y2 h1 h2
      split at h
      · obtain rfl := sj h
        exact .inr (.inr (.inl ⟨ok_idxS hop (isStr_eq ‹_›) h1 h2, rfl⟩))
      · cases h
    · cases h
  · obtain ⟨y, hy, rfl⟩ := Option.map_eq_some_iff.1 h
    exact .inr (.inr (.inl ⟨ok_ext hop hy, rfl⟩))
  · split at h
    · rename_i y1 y2 e h1 h2 he
      split at h
      · obtain rfl := sj h
        exact .inr (.inr (.inl ⟨ok_mkslice hop (uslice_eq he) ‹_› ‹_› ‹_› h1 h2, rfl⟩))
      · cases h
    · cases h
  · rename_i c
    rcases compCall_ok hop h with ⟨f, l, h1, h2, h3⟩ | ⟨t, l, h1, h2, h3⟩ | h1 | ⟨x, y, name, l, h1, h2, h3⟩
    · exact .inl ⟨c, f, l, rfl, h1, h2, h3⟩
    · exact .inr (.inl ⟨c, t, l, rfl, h1, h2, h3⟩)
    · exact .inr (.inr (.inl h1))
    · exact .inr (.inr (.inr ⟨c, x, y, name, l, rfl, h1, h2, h3⟩))
  · rename_i f first captured
    split at h
    · rename_i hf
      obtain ⟨l, hl, rfl⟩ := Option.map_eq_some_iff.1 h
      have hf0 : first = #[] := Array.eq_empty_of_size_eq_zero hf
      subst hf0
      exact .inr (.inr (.inl ⟨ok_mkfn hop hl, rfl⟩))
    · cases h
  · split at h
    · rename_i hc
      obtain ⟨k, hk1, hk2⟩ := isConc_ok hc
      obtain ⟨y, hy, rfl⟩ := Option.map_eq_some_iff.1 h
      exact .inr (.inr (.inl ⟨ok_mkIfc hop hk1 hk2 hy, rfl⟩))
    · cases h
  · split at h
    · rename_i hc
      obtain ⟨k, hk1, hk2⟩ := isConc_ok hc
      obtain ⟨y, hy, rfl⟩ := Option.map_eq_some_iff.1 h
      exact .inr (.inr (.inl ⟨ok_asrt hop hk1 hk2 hy, rfl⟩))
    · cases h
  · obtain rfl := sj h
    exact .inr (.inr (.inl ⟨ok_mkmap hop, rfl⟩))
  · exact .inr (.inr (.inl (compSet_ok (.inl hop) h)))
  · exact .inr (.inr (.inl (compSet_ok (.inr hop) h)))
  · split at h
    · rename_i kt et ym yk h1 h2 h3
      split at h
      · rename_i kd z hk hz
        obtain rfl := sj h
        exact .inr (.inr (.inl ⟨ok_mget hop (umap_eq h1) hk (run_zeroDV hz) h2 h3, rfl⟩))
      · cases h
    · cases h
  · cases h
class Tg {α : Sort _} (a : α) : Type where
  z : Unit
instance tg_inst {α : Sort _} (a : α) : Tg a := ⟨()⟩
def bindO {α : Type} (x : Option α) (f : α → Prop) [Tg f] (_ : True := trivial) : Prop :=
  match (generalizing := false) x with
  | some y => f y
  | none => False
theorem bindO_some {α : Type} (y : α) (f : α → Prop) : bindO (some y) f = f y := rfl
theorem bindO_none {α : Type} (f : α → Prop) : bindO none f = False := rfl
theorem bindO_ite {α : Type} (c : Prop) [Decidable c] (x : Option α) (f : α → Prop) : bindO (if c then x else none) f = (c ∧ bindO x f) := by
  by_cases h : c <;> simp [h, bindO]
theorem bindO_map {α β : Type} (x : Option α) (g : α → β) (f : β → Prop) : bindO (x.map g) f = bindO x fun a => f (g a) := by cases x <;> rfl
theorem bindO_bind {α β : Type} (x : Option α) (g : α → Option β) (f : β → Prop) : bindO (x.bind g) f = bindO x fun a => bindO (g a) f := by cases x <;> rfl
def cnd (b : Bool) (p q : Prop) : Prop := if b = true then p else q
@[congr] theorem cnd_congr {b : Bool} {c : Unit → Bool} {p q : Prop} (h : ∀ u, b = c u) : cnd b p q = cnd (c ()) p q := by rw [← h ()]
theorem cnd_true (p q : Prop) : cnd true p q = p := if_pos rfl
theorem cnd_false (p q : Prop) : cnd false p q = q := if_neg (by simp)
theorem cnd_dec (c : Prop) [Decidable c] (p q : Prop) : cnd (decide c) p q = ((c → p) ∧ (¬ c → q)) := by
  by_cases h : c <;> simp [h, cnd]
theorem cnd_not (b : Bool) (p q : Prop) : cnd (!b) p q = cnd b q p := by cases b <;> simp [cnd]
theorem cnd_gen (b : Bool) (p q : Prop) : cnd b p q = ((b = true → p) ∧ (b = false → q)) := by cases b <;> simp [cnd]
def natO (st : St) (E : Prg) (dflt : Nat) : Option Opd → Option Nat
  | none => some dflt
  | some x => match x.ev E st with
    | .int _ n => if 0 ≤ n then some n.toNat else none
    | _ => none
theorem natO_eq (st : St) (E : Prg) (dflt : Nat) (x : Option Opd) : natO st E dflt x = natOf st E dflt x := by cases x <;> rfl
def rvl (E : Prg) (st : St) : ROp → Option (DV × Objs)
  | .load ag sz x => match x.ev E st with
    | .ptr o i j => (st.objs[o]?).bind fun x => x.bind fun ob => (ob.rows[i]?).bind fun row => (rowAt ag sz row j).map (·, st.objs)
    | .rp row j => (rowAt ag sz row j).map (·, st.objs)
    | _ => none
  | .store sz p x => match p.ev E st with
    | .ptr o i j => ((x.ev E st).cells).bind fun cs => (st.objs[o]?).bind fun x => x.bind fun ob => (ob.rows[i]?).bind fun row =>
      if cs.length = sz ∧ cs.all DV.one = true ∧ j + sz ≤ row.length then some (.undef, st.objs.set o (some (ob.setRow i (rowSet row j cs)))) else none
    | _ => none
  | .conv .b2s x => match x.ev E st with
    | .str _ => none
    | d => (rowsOf st d).bind fun y => if y.1 = 1 ∨ y.2 = [] then (rowsBytes y.2).map fun s => (.str s, st.objs) else none
  | .slice sz x lo hi mx => match x.ev E st with
    | .sl s rows k => (natO st E 0 lo).bind fun l => (natO st E rows.length hi).bind fun h => if l ≤ h ∧ h ≤ rows.length ∧ (s = sz ∨ rows = []) then (match mx with
        | none => some (.sl s ((rows.drop l).take (h - l)) k, st.objs)
        | some m => (natO st E 0 (some m)).bind fun m => if m = h then some (.sl s ((rows.drop l).take (h - l)) (if m = l then (if k = .nil then .nil else .zero) else (if k = .nil then .nil else .any)), st.objs) else none) else none
    | .own o off n => match mx with
      | none => (natO st E 0 lo).bind fun l => (natO st E n hi).bind fun h => (st.objs[o]?).bind fun x => x.bind fun ob => match ob with
        | .arr s rows => if l ≤ h ∧ h ≤ n ∧ s = sz then some (.own o (off + l) (h - l), st.objs) else none
        | _ => none
      | some m => (natO st E 0 lo).bind fun l => (natO st E n hi).bind fun h => (natO st E 0 (some m)).bind fun m => if m = h ∧ h = l ∧ l ≤ n then some (.sl sz [] .zero, st.objs) else none
    | _ => none
  | .sliceS x lo hi => match x.ev E st with
    | .str s => (natO st E 0 lo).bind fun l => (natO st E s.length hi).bind fun h => if l ≤ h ∧ h ≤ s.length then some (.str ((s.drop l).take (h - l)), st.objs) else none
    | _ => none
  | .iaddr sz x i => match x.ev E st, i.ev E st with
    | .sl s rows _, .int _ n => if 0 ≤ n ∧ n < (rows.length : Int) ∧ s = sz then (rows[n.toNat]?).map fun row => (.rp row 0, st.objs) else none
    | .own o off m, .int _ n => if 0 ≤ n ∧ n < (m : Int) then (st.objs[o]?).bind fun x => x.bind fun ob => match ob with
        | .arr s _ => if s = sz then some (.ptr o (off + n.toNat) 0, st.objs) else none
        | _ => none
      else none
    | _, _ => none
  | .idxS x i => match x.ev E st, i.ev E st with
    | .str s, .int _ n => if 0 ≤ n then (s[n.toNat]?).map fun b => (.int .u8 b.toNat, st.objs) else none
    | _, _ => none
  | .append sz bytes x y => match x.ev E st with
    | .sl _ [] k => (rowsOf st (y.ev E st)).bind fun a => if (k = .nil ∨ k = .zero) ∧ (a.1 = sz ∨ a.2 = []) ∧ a.2.length * bytes ≤ 140737488355328 ∧ a.2.length ≤ 4611686018427387904 then
        some (.own st.objs.length 0 a.2.length, st.objs ++ [some (.arr sz a.2)]) else none
    | .own o off n => (rowsOf st (y.ev E st)).bind fun a => (st.objs[o]?).bind fun x => x.bind fun ob => match ob with
      | .arr s rows => if off + n = rows.length ∧ s = sz ∧ (a.1 = sz ∨ a.2 = []) ∧ (n + a.2.length) * bytes ≤ 140737488355328 ∧ n + a.2.length ≤ 4611686018427387904 then
          some (.own st.objs.length 0 (n + a.2.length), st.objs.set o none ++ [some (.arr sz (rows.drop off ++ a.2))]) else none
      | _ => none
    | _ => none
  | op => rval E st op
theorem rvl_eq (E : Prg) (st : St) (op : ROp) : rvl E st op = rval E st op := by
  cases op <;> try rfl
  case load ag sz x =>
    simp only [rvl, rval]
    cases x.ev E st <;> try rfl
    rename_i o i j
    dsimp only
    generalize st.objs[o]? = z
    rcases z with _ | _ | ob <;> try rfl
    simp only [Option.bind]
    generalize ob.rows[i]? = y
    cases y <;> rfl
  case store sz p x =>
    simp only [rvl, rval]
    cases p.ev E st <;> try rfl
    rename_i o i j
    cases (x.ev E st).cells <;> try rfl
    rename_i cs
    simp only [Option.bind]
    generalize st.objs[o]? = z
    rcases z with _ | _ | ob <;> try rfl
    dsimp only
    generalize ob.rows[i]? = y
    cases y <;> rfl
  case conv k x =>
    cases k <;> try rfl
    simp only [rvl, rval]
    cases hx : x.ev E st <;> try rfl
    · rename_i o off n
      dsimp only
      generalize rowsOf st (.own o off n) = z
      rcases z with _ | ⟨a, b⟩ <;> rfl
  case slice sz x lo hi mx =>
    simp only [rvl, rval, natO_eq]
    cases hx : x.ev E st <;> try rfl
    · rename_i s rows k
      dsimp only
      generalize natOf st E 0 lo = l
      generalize natOf st E rows.length hi = h
      cases l <;> cases h <;> try rfl
      simp only [Option.bind]
      cases mx with
      | none => rfl
      | some m =>
        dsimp only
        generalize natOf st E 0 (some m) = y
        cases y <;> rfl
    · rename_i o off n
      dsimp only
      generalize natOf st E 0 lo = l
      generalize natOf st E n hi = h
      cases mx with
      | some m =>
        cases l <;> cases h <;> try rfl
        simp only [Option.bind]
        generalize natOf st E 0 (some m) = y
        cases y <;> rfl
      | none =>
        cases l <;> cases h <;> try rfl
        simp only [Option.bind]
        generalize st.objs[o]? = z
        rcases z with _ | _ | ob <;> try rfl
        cases ob <;> rfl
  case sliceS x lo hi =>
    simp only [rvl, rval, natO_eq]
    cases hx : x.ev E st <;> try rfl
    rename_i s
    dsimp only
    generalize natOf st E 0 lo = l
    generalize natOf st E s.length hi = h
    cases l <;> cases h <;> rfl
  case iaddr sz x i =>
    simp only [rvl, rval]
    cases hx : x.ev E st <;> cases hi : i.ev E st <;> try rfl
    · rename_i s rows k k' n
      dsimp only
      generalize rows[n.toNat]? = y
      cases y <;> rfl
    · rename_i o off m k' n
      dsimp only
      generalize st.objs[o]? = z
      rcases z with _ | _ | ob <;> try rfl
      cases ob <;> rfl
  case idxS x i =>
    simp only [rvl, rval]
    cases hx : x.ev E st <;> cases hi : i.ev E st <;> try rfl
    rename_i s k' n
    dsimp only
    generalize s[n.toNat]? = y
    cases y <;> rfl
  case append sz bytes x y =>
    simp only [rvl, rval]
    cases hx : x.ev E st <;> try rfl
    · rename_i s rows k
      cases rows with
      | nil =>
        dsimp only
        generalize rowsOf st (y.ev E st) = z
        cases z <;> rfl
      | cons a l => rfl
    · rename_i o off n
      dsimp only
      generalize rowsOf st (y.ev E st) = z
      cases z <;> try rfl
      simp only [Option.bind]
      generalize st.objs[o]? = z
      rcases z with _ | _ | ob <;> try rfl
      cases ob <;> rfl
def wk0 : DV → DV → Prop
  | .sl sz rows k, .sl sz2 rows2 k2 => rows = rows2 ∧ (k2 = .any ∨ k = k2) ∧ (sz = sz2 ∨ rows = [])
  | d, d2 => d = d2
def wkL (p : DV → DV → Prop) : List DV → List DV → Prop
  | [], [] => True
  | a :: l, b :: m => p a b ∧ wkL p l m
  | _, _ => False
def wkA : DV → DV → Prop
  | .agg a, .agg b => wkL wk0 a b
  | d, d2 => wk0 d d2
def wkT : DV → DV → Prop
  | .tup a, .tup b => wkL wkA a b
  | d, d2 => wkA d d2
theorem SK.ok_any (k : SK) (p : Option Addr) (c : Nat) (h : k.ok p c) : SK.ok .any p c := fun hp => by
  subst hp
  cases k with
  | any => exact h rfl
  | nil => exact h.2
  | nonnil => cases h
  | zero => exact h
theorem wk0_rel {d d2 : DV} (h : wk0 d d2) {G : Gh} {v : Value} (r : Rel G d v) : Rel G d2 v := by
  unfold wk0 at h
  split at h
  · rename_i sz rows k sz2 rows2 k2
    obtain ⟨rfl, h2, h3⟩ := h
    cases r with
    | sl sz rows k p len cap b o vals a1 a2 a3 a4 a5 a6 a7 =>
      have hk : k2.ok p cap := by
        rcases h2 with rfl | rfl
        · exact SK.ok_any _ _ _ a2
        · exact a2
      rcases h3 with rfl | rfl
      · exact .sl _ rows k2 p len cap b o vals a1 hk a3 a4 a5 a6 a7
      · exact .sl sz2 [] k2 p len cap b o vals a1 hk a3 a4 (by simp) (by simp) (by simp)
  · subst h; exact r
theorem wkL_get {p : DV → DV → Prop} : ∀ {a b : List DV}, wkL p a b → a.length = b.length ∧ ∀ (i : Nat) d, b[i]? = some d → ∃ c, a[i]? = some c ∧ p c d
  | [], [], _ => ⟨rfl, by simp⟩
  | x :: a, y :: b, h => by
    obtain ⟨h1, h2⟩ := wkL_get h.2
    refine ⟨by simp [h1], fun i d hd => ?_⟩
    rcases i with _ | i
    · simp at hd; subst hd; exact ⟨x, rfl, h.1⟩
    · simpa using h2 i d (by simpa using hd)
  | [], _ :: _, h => h.elim
  | _ :: _, [], h => h.elim
theorem wkA_rel {d d2 : DV} (h : wkA d d2) {G : Gh} {v : Value} (r : Rel G d v) : Rel G d2 v := by
  unfold wkA at h
  split at h
  · obtain ⟨h1, h2⟩ := wkL_get h
    cases r with
    | agg cs vs a1 a2 => exact .agg _ vs (a1.trans h1) fun i d hd => let ⟨c, hc, hw⟩ := h2 i d hd; wk0_rel hw (a2 i c hc)
  · exact wk0_rel h r
theorem wkT_rel {d d2 : DV} (h : wkT d d2) {G : Gh} {v : Value} (r : Rel G d v) : Rel G d2 v := by
  unfold wkT at h
  split at h
  · obtain ⟨h1, h2⟩ := wkL_get h
    cases r with
    | tup cs vs a1 a2 => exact .tup _ vs (a1.trans h1) fun i d hd => let ⟨c, hc, hw⟩ := h2 i d hd; wkA_rel hw (a2 i c hc)
  · exact wkA_rel h r
theorem wk0_refl (d : DV) : wk0 d d := by
  cases d <;> first | exact rfl | exact ⟨rfl, .inr rfl, .inl rfl⟩
theorem wkL_refl {p : DV → DV → Prop} (hp : ∀ d, p d d) : ∀ l : List DV, wkL p l l
  | [] => trivial
  | c :: l => ⟨hp c, wkL_refl hp l⟩
theorem wkA_refl (d : DV) : wkA d d := by
  cases d <;> first | exact rfl | exact ⟨rfl, .inr rfl, .inl rfl⟩ | exact wkL_refl wk0_refl _
theorem wkT_refl (d : DV) : wkT d d := by
  cases d <;> first | exact rfl | exact ⟨rfl, .inr rfl, .inl rfl⟩ | exact wkL_refl wk0_refl _ | exact wkL_refl wkA_refl _
def CallK (E : Prg) (f : Nat) (vals : List DV) (T : Objs) (K : DV → Objs → Prop) : Prop :=
  ∃ T1 R, T1.length = T.length ∧ (∀ (k : Nat) (ob : Ob), T1[k]? = some (some ob) → T[k]? = some (some ob)) ∧ GCalls E f vals T1 R ∧
    ∀ r T1', R r T1' → T1.length ≤ T1'.length → ∃ T', Merged T T1 T1' T' ∧ K r T'
theorem CallK.pure {E : Prg} {f : Nat} {vals : List DV} {T : Objs} {K : DV → Objs → Prop} {R : Nat → DV → Objs → Prop} (h : PCalls E f vals R) (hK : ∀ r os, R T.length r os → K r (T ++ os)) : CallK E f vals T K :=
  ⟨_, _, by simp, fun k ob hk => (getElem?_rep hk).elim, h T.length, fun r T1' ⟨os, hT, hR⟩ _ => ⟨T ++ os, by subst hT; exact Merged.pure _ _, hK r os hR⟩⟩
theorem CallK.all {E : Prg} {f : Nat} {vals : List DV} {T : Objs} {K : DV → Objs → Prop} (h : GCalls E f vals T K) : CallK E f vals T K :=
  ⟨T, K, rfl, fun _ _ h => h, h, fun r T1' hr _ => ⟨T1', Merged.all, hr⟩⟩
def MCalls (E : Prg) (f : Nat) (args : Nat → List DV) (ob : Ob) (R : Nat → Nat → DV → Option Ob → Objs → Prop) : Prop :=
  ∀ n k, k < n → GCalls E f (args k) ((List.replicate n none).set k (some ob)) fun r T' => ∃ x os, T' = (List.replicate n none).set k x ++ os ∧ R n k r x os
theorem CallK.one {E : Prg} {f : Nat} {args : Nat → List DV} {T : Objs} {K : DV → Objs → Prop} {ob : Ob} {R : Nat → Nat → DV → Option Ob → Objs → Prop} (h : MCalls E f args ob R) (k : Nat) (hk : T[k]? = some (some ob))
    (hK : ∀ r x os, R T.length k r x os → K r (T.set k x ++ os)) : CallK E f (args k) T K := by
  have hlt : k < T.length := (List.getElem?_eq_some_iff.1 hk).1
  refine ⟨_, _, by simp, fun j o hj => ?_, h T.length k hlt, fun r T1' ⟨x, os, hT, hR⟩ _ => ⟨T.set k x ++ os, by subst hT; exact Merged.one _ _ _ _ _ hk, hK r x os hR⟩⟩
  rw [getElem?_set] at hj
  by_cases e : k = j
  · subst e
    rw [if_pos rfl, if_pos (by simpa using hlt)] at hj
    rw [hk]; simpa using hj
  · rw [if_neg e] at hj; exact (getElem?_rep hj).elim
theorem CallK.mono {E : Prg} {f : Nat} {vals : List DV} {T : Objs} {K K' : DV → Objs → Prop} (h : CallK E f vals T K) (hk : ∀ d T', K d T' → K' d T') : CallK E f vals T K' := by
  obtain ⟨T1, R, h1, h2, h3, h4⟩ := h
  exact ⟨T1, R, h1, h2, h3, fun r T1' hR hl => let ⟨T', hm, hK⟩ := h4 r T1' hR hl; ⟨T', hm, hk _ _ hK⟩⟩
structure FSpec where
  pre : Prop
  res : Nat → DV × Objs
structure HSpec where
  pre : Objs → Prop
  res : Objs → DV × Objs
structure PSpec where
  wp : Objs → (DV → Objs → Prop) → Prop
  mono : ∀ T K K', wp T K → (∀ d T', K d T' → K' d T') → wp T K'
def HSpec.toP (s : HSpec) : PSpec := ⟨fun T K => s.pre T ∧ K (s.res T).1 (s.res T).2, fun T K K' h hk => ⟨h.1, hk _ _ h.2⟩⟩
inductive FS where
  | o (s : FSpec)
  | p (s : PSpec)
def FS.h (s : HSpec) : FS := .p s.toP
abbrev FTab := Nat → List DV → Option FS
def FOk (E : Prg) (F : FTab) : Prop := (∀ f args s, F f args = some (.o s) → s.pre → PCalls E f args fun n r os => r = (s.res n).1 ∧ os = (s.res n).2) ∧ ∀ f args s, F f args = some (.p s) → ∀ (T : Objs) (K : DV → Objs → Prop), s.wp T K → CallK E f args T K
def callV (E : Prg) (x : Option FS) (dr : Bool) (f : Nat) (args : List DV) (T : Objs) (K : DV → Objs → Prop) [Tg K] (_ : True := trivial) : Prop :=
  match (generalizing := false) x with
  | some (.o s) => s.pre ∧ K (s.res T.length).1 (T ++ (s.res T.length).2)
  | some (.p s) => if dr = true then False else s.wp T K
  | none => if dr = true then False else CallK E f args T K
def DV.id : DV → Option Nat
  | .own o _ _ => some o
  | .ptr o _ _ => some o
  | .mp o => some o
  | _ => none
def ownIds : DV → List Nat
  | .own o _ _ => [o]
  | .agg cs => cs.filterMap fun
    | .own o _ _ => some o
    | _ => none
  | _ => []
def St.freezes : List Nat → St → St
  | [], st => st
  | o :: l, st => St.freezes l (st.freeze o)
def St.fzd (z : Bool) (dst : Option Nat) (st : St) : St :=
  match z, dst with
  | true, some t => st.freezes (ownIds (st.get t))
  | _, _ => st
def St.rep (t : Nat) (d : DV) : List (Nat × DV) → List (Nat × DV)
  | [] => []
  | (k, x) :: l => if k = t then (t, d) :: l else (k, x) :: St.rep t d l
def St.know (t : Nat) (b : Bool) (st : St) : St := { st with env := St.rep t (.bool b) st.env }
def St.knows (c : Opd) (b : Bool) (st : St) : St :=
  match c with
  | .t n => st.know n b
  | _ => st
def calldV (E : Prg) (F : FTab) (dr : Bool) (d : DV) (args : List DV) (T : Objs) (K : DV → Objs → Prop) [Tg K] (_ : True := trivial) : Prop :=
  match (generalizing := false) dr, d with
  | false, .lit (.func (.func f) a b) => a.size = 0 ∧ b.size = 0 ∧ hasBody E.P f = true ∧ callV E (F f args) false f args T K
  | false, .wrap (.clo f) cs => hasBody E.P f = true ∧ callV E (F f (args ++ cs)) false f (args ++ cs) T K
  | _, _ => False
theorem calldV_drawn {E : Prg} {F : FTab} {d : DV} {args : List DV} {T : Objs} {K : DV → Objs → Prop} (h : calldV E F true d args T K) : False := by simp [calldV] at h
def methRow (P : Program) (t : TypeId) (name : String) : Option (FuncId × Option (Bool × Nat)) :=
  match P.info? t with
  | none => none
  | some inf => match inf.methods.find? (·.name == name) with
    | none => none
    | some m => if m.path.size = 0 then (match m.func with
      | none => none
      | some (f, pr) => (match P.underlying t with
        | none => none
        | some (.pointer e) => if pr = true then some (f, none) else (match tyAgg P e, tySize P e with
          | some ag, some sz => some (f, some (ag, sz))
          | _, _ => none)
        | some _ => if pr = true then none else some (f, none))) else none
def invRecv (T : Objs) (way : Option (Bool × Nat)) (d : DV) : Option DV :=
  match way with
  | none => some d
  | some (ag, sz) => (match d with
    | .ptr o i j => (match T[o]? with
      | some (some ob) => (match ob.rows[i]? with
        | some row => rowAt ag sz row j
        | none => none)
      | _ => none)
    | .rp row j => rowAt ag sz row j
    | _ => none)
def invRow (T : Objs) (d : DV) : Option (FuncId × Option (Bool × Nat)) → Option (FuncId × DV)
  | some (f, way) => (invRecv T way d).map fun x => (f, x)
  | none => none
def invOf (E : Prg) (T : Objs) (d : DV) (name : String) : Option (FuncId × DV) :=
  match d with
  | .wrap (.ifc t) [x] => invRow T x (methRow E.P t name)
  | .wrap (.ifa t) cs => invRow T (.agg cs) (methRow E.P t name)
  | _ => none
def invV (E : Prg) (F : FTab) (dr : Bool) (r : Option (FuncId × DV)) (args : List DV) (T : Objs) (K : DV → Objs → Prop) [Tg K] (_ : True := trivial) : Prop :=
  match (generalizing := false) dr, r with
  | false, some (f, d) => hasBody E.P f = true ∧ callV E (F f (d :: args)) false f (d :: args) T K
  | _, _ => False
theorem invV_drawn {E : Prg} {F : FTab} {r : Option (FuncId × DV)} {args : List DV} {T : Objs} {K : DV → Objs → Prop} (h : invV E F true r args T K) : False := by simp [invV] at h
def opWp (E : Prg) (F : FTab) (dr : Bool) (o : ROper) (K : St → Prop) (st : St) : Prop :=
  match o.op with
  | .call f l => callV E (F f (l.map (Opd.ev E st))) dr f (l.map (Opd.ev E st)) st.objs fun d T' => K ((({ st with objs := T' } : St).put o.dst d).fzd o.fz o.dst)
  | .calld y l => calldV E F dr (Opd.ev E st y) (l.map (Opd.ev E st)) st.objs fun d T' => K ((({ st with objs := T' } : St).put o.dst d).fzd o.fz o.dst)
  | .inv y name l => invV E F dr (invOf E st.objs (Opd.ev E st y) name) (l.map (Opd.ev E st)) st.objs fun d T' => K ((({ st with objs := T' } : St).put o.dst d).fzd o.fz o.dst)
  | op => bindO (rvl E st op) fun p => K ((({ st with objs := p.2 } : St).put o.dst p.1).fzd o.fz o.dst)
def boolV : Value → Bool
  | .bool _ => true
  | _ => false
def DV.no : DV := .lit Go.undef
def bindG (d : DV) (f : Bool → Prop) (g : Prop) [Tg f] [Tg g] (_ : True := trivial) : Prop :=
  match (generalizing := false) d with
  | .bool b => f b
  | .lit v => boolV v = false ∧ g
  | _ => False
def stepWp (E : Prg) (F : FTab) (dr : Bool) (o : ROper) (K : St → Prop) (st : St) : Prop :=
  match o.guard with
  | none => opWp E F dr o K st
  | some (t, want) => bindG (st.get t) (fun b => cnd (b == want) (opWp E F dr o K (st.know t want)) (K ((st.know t (!want)).put o.dst .no))) (K (st.put o.dst .no))
def opsWp (E : Prg) (F : FTab) : List ROper → (St → Prop) → St → Prop
  | [], K, st => K st
  | o :: l, K, st => stepWp E F false o (opsWp E F l K) st
def clearOf (E : Prg) (st : St) (op : ROp) (p : Opd) : Prop := ∀ x ∈ op.opds, ∀ o, DV.id (x.ev E st) = some o → DV.id (p.ev E st) ≠ some o
def OT.wp (E : Prg) (F : FTab) : OT → (St → Prop) → St → Prop
  | .done, K, st => K st
  | .mid o k, K, st => stepWp E F false o (k.wp E F K) st
  | .op o k, K, st => stepWp E F true o (k.wp E F K) st
  | .take o ps k, K, st => (∀ p ∈ ps, clearOf E st o.op p) ∧ stepWp E F true o (k.wp E F K) st
  | .alt a b, K, st => a.wp E F K st ∧ b.wp E F K st
def St.cut (lo : Nat) (keep : List Nat) (st : St) : St := { st with env := st.env.filter fun x => x.1 < lo || keep.contains x.1 }
def thenQ (K : St → Prop) (Q : Exit → St → Prop) : Exit → St → Prop
  | .normal, st => K st
  | e, st => Q e st
def inBlk (id : Nat) (Q : Exit → St → Prop) : Exit → St → Prop
  | .exit id', st => if id' = id then Q .normal st else Q (.exit id') st
  | e, st => Q e st
def AWp (E : Prg) (n : Nat) (c : Code) (Q : Exit → St → Prop) (st : St) : Prop :=
  ∀ C a w, C.n = n → RelSt E C st a w → c.wp E.P (fun e a' w' => ∃ st', Q e st' ∧ RelSt E C st' a' w') a w
def LoopWp (E : Prg) (n : Nat) (b : RC) (Q : Exit → St → Prop) (st : St) [Tg Q] [Tg b] (_ : True := trivial) : Prop := ∀ c ann, comp E.P n ann c = some b → AWp E n (.loop c) Q st
def RC.wp (E : Prg) (F : FTab) (n : Nat) : RC → (Exit → St → Prop) → St → Prop
  | .skip, Q, st => Q .normal st
  | .reg ops lo keep, Q, st => opsWp E F ops (fun st' => Q .normal (st'.cut lo keep)) st
  | .regD t lo keep, Q, st => t.wp E F (fun st' => Q .normal (st'.cut lo keep)) st
  | .seq a b, Q, st => a.wp E F n (thenQ (b.wp E F n Q) Q) st
  | .cond c t e, Q, st => match c.ev E st with
    | .bool b => cnd b (t.wp E F n Q (st.knows c true)) (e.wp E F n Q (st.knows c false))
    | _ => False
  | .blk id b, Q, st => b.wp E F n (inBlk id Q) st
  | .loop b, Q, st => LoopWp E n b Q st
  | .ext id, Q, st => Q (.exit id) st
  | .ret, Q, st => Q .ret st
theorem St.rep_self (t : Nat) (d : DV) : ∀ l : List (Nat × DV), St.look t l = d → St.rep t d l = l
  | [], _ => rfl
  | (k, x) :: l, h => by
    simp only [St.look] at h
    simp only [St.rep]
    by_cases e : k = t
    · rw [if_pos e] at h ⊢; subst e h; rfl
    · rw [if_neg e] at h ⊢; rw [St.rep_self t d l h]
theorem St.know_self {st : St} {t : Nat} {b : Bool} (h : st.get t = .bool b) : st.know t b = st := by
  unfold St.know
  rw [St.rep_self t _ st.env h]
theorem St.knows_self {E : Prg} {st : St} {c : Opd} {b : Bool} (h : c.ev E st = .bool b) : st.knows c b = st := by
  cases c with
  | t n => exact St.know_self h
  | _ => rfl
theorem St.look_filter (p : Nat → Bool) (t : Nat) : ∀ l : List (Nat × DV), St.look t (l.filter fun x => p x.1) = if p t then St.look t l else .undef
  | [] => by simp [St.look]
  | (k, d) :: l => by
    have ih := St.look_filter p t l
    simp only [List.filter_cons]
    by_cases hp : p k = true
    · simp only [hp, if_true, St.look]
      by_cases he : k = t
      · subst he; simp [hp]
      · simp [he, ih]
    · simp only [hp, if_false, St.look]
      by_cases he : k = t
      · subst he
        rw [if_pos rfl]
        simp only [Bool.false_eq_true, if_false, ih, hp]
      · rw [if_neg he]
        exact ih
theorem RelG.less {E : Prg} {C : Ctx} {G : Gh} {st st' : St} {a : Act} {w : World} (h : RelG E C G st a w) (he : ∀ t, st'.get t = .undef ∨ st'.get t = st.get t) (hl : st'.objs.length = st.objs.length)
    (ho : ∀ (k : Nat) (ob : Ob), st'.objs[k]? = some (some ob) → st.objs[k]? = some (some ob)) : RelG E C G st' a w :=
  ⟨fun t => by
    rcases he t with h1 | h1
    · rw [h1]; exact .undef _
    · rw [h1]; exact h.env t, h.num, h.defs, h.heap.sub hl ho,
   ⟨h.frm.os, h.frm.tape, h.frm.output, h.frm.size, h.frm.blk, h.frm.cell, h.frm.frz, fun k r q m hk => h.frm.mine k r q m (ho k r hk), h.frm.rdn, h.frm.le, h.frm.mko⟩, h.glob⟩
theorem RelSt.cut {E : Prg} {C : Ctx} {st : St} {a : Act} {w : World} (h : RelSt E C st a w) (lo : Nat) (keep : List Nat) : RelSt E C (st.cut lo keep) a w := by
  obtain ⟨G, h⟩ := h
  refine ⟨G, h.less (fun t => ?_) rfl (fun k ob hk => hk)⟩
  simp only [St.get, St.cut]
  rw [St.look_filter (fun k => decide (k < lo) || keep.contains k)]
  split
  · exact .inr rfl
  · exact .inl rfl
theorem RelSt.freezes {E : Prg} {C : Ctx} {a : Act} {w : World} : ∀ (L : List Nat) {st : St}, RelSt E C st a w → RelSt E C (st.freezes L) a w
  | [], _, h => h
  | o :: L, st, h => by
    obtain ⟨G, h⟩ := h
    exact RelSt.freezes L (h.freeze o)
theorem RelSt.fzd {E : Prg} {C : Ctx} {st : St} {a : Act} {w : World} (h : RelSt E C st a w) (z : Bool) (dst : Option Nat) : RelSt E C (st.fzd z dst) a w := by
  unfold St.fzd
  split
  · exact h.freezes _
  · exact h
theorem enter_sound {E : Prg} {F : FTab} (hF : FOk E F) {dr : Bool} {o : Oper} {f : Nat} {args : List DV} {vals : Array Value} {C : Ctx} {st : St} {G : Gh} {a : Act} {w : World} {K : St → Prop} {z : Bool} (hd : ∀ t, o.dst = some t → t < C.n) (hG : RelG E C G st a w)
    (hal : vals.size = args.length) (hrel : ∀ (i : Nat) d, args[i]? = some d → Rel G d (vals.getD i undef)) (hrun : (execOp a.eval o).run E.P w = .ok (.enter f vals) w)
    (h : callV E (F f args) dr f args st.objs fun d T' => K ((({ st with objs := T' } : St).put o.dst d).fzd z o.dst))
    {next : Act → World → Prop} {Q : Exit → Act → World → Prop} (hnext : ∀ st' a' w', K st' → RelSt E C st' a' w' → next a' w') : o.wp E.P a w next Q := by
  have h' : CallK E f args st.objs fun d T' => K ((({ st with objs := T' } : St).put o.dst d).fzd z o.dst) := by
    simp only [callV] at h
    split at h
    · rename_i s hs
      refine CallK.pure (hF.1 f _ s hs h.1) fun d os ⟨h1, h2⟩ => ?_
      subst h1 h2
      exact h.2
    · rename_i s hs
      split at h
      · exact h.elim
      · exact hF.2 f _ s hs _ _ h
    · split at h
      · exact h.elim
      · exact h
  obtain ⟨T1, R, hl1, hs1, hg, hK⟩ := h'
  have hcalls := hg G w vals hG.glob (hG.heap.sub hl1 hs1) hal hrel
  unfold Oper.wp
  rw [hrun, Oper.upon_enter]
  refine hcalls.mono fun e w' ⟨v, rr, T1', G', he, hR, hlen, hrel', hh, hf⟩ => ?_
  subst he
  obtain ⟨T', hm, hk⟩ := hK rr T1' hR hlen
  exact hnext _ _ _ hk (RelSt.fzd ⟨G', (hG.called hm hh hf (by omega)).put hd hrel'⟩ _ _)
theorem run_callFunc_body {P : Program} {f : Nat} {vals : Array Value} {w : World} (hb : hasBody P f = true) : (callFunc f vals).run P w = .ok (.enter f vals) w := by
  unfold hasBody at hb
  cases hf : P.funcs[f]? with
  | none => rw [hf] at hb; cases hb
  | some fn =>
    rw [hf] at hb
    simp only [Bool.and_eq_true, Bool.not_eq_true'] at hb
    have h4 : fn.body ≠ none := fun e => by simp [e] at hb
    have h3 : ¬ fn.name = "runtime.NumGoroutine" := by simpa using hb.2
    simp [callFunc, hf, h3, h4]
theorem depth_pos (P : Program) : ∃ n, P.types.size + Made.depth = n + 1 := by
  have h : 0 < Made.depth := by decide
  exact ⟨P.types.size + Made.depth - 1, by omega⟩
theorem wrapNilChk_some (xt : TypeId) (A : Addr) (a b : ByteArray) : Builtin.ssaWrapNilChk_ #[xt] xt #[.pointer (some A), .string a, .string b] = pure (.pointer (some A)) := rfl
theorem run_method {P : Program} {G : Gh} {T : Objs} {w : World} (hh : Heap G T w) {t : TypeId} {name : String} {f : FuncId} {way : Option (Bool × Nat)} {x d : DV} {v : Value} (hm : methRow P t name = some (f, way)) (hx : invRecv T way x = some d) (hr : Rel G x v) :
    ∃ u, (method (P.types.size + Made.depth) t v name).run P w = .ok (f, u) w ∧ Rel G d u := by
  obtain ⟨n, hn⟩ := depth_pos P
  rw [hn]
  unfold methRow at hm
  split at hm
  · cases hm
  rename_i inf hinf
  split at hm
  · cases hm
  rename_i m hfind
  split at hm
  rotate_left
  · cases hm
  rename_i hpath
  have hp : m.path = #[] := Array.eq_empty_of_size_eq_zero hpath
  split at hm
  · cases hm
  rename_i f' pr hfunc
  have hti : (typeInfo t).run P w = .ok inf w := by simp [typeInfo, hinf]
  split at hm
  · cases hm
  · rename_i e hu
    split at hm
    · rename_i hpr
      subst hpr
      obtain ⟨rfl, rfl⟩ := Prod.mk.inj (sj hm)
      obtain rfl := sj hx
      exact ⟨v, by simp [method, hti, hfind, hp, follow, hfunc, receiverAt, run_underlying hu, Go.Place.get], hr⟩
    · rename_i hpr
      have hpr : pr = false := by simpa using hpr
      subst hpr
      split at hm
      rotate_left
      · cases hm
      rename_i ag sz hag hsz
      obtain ⟨rfl, rfl⟩ := Prod.mk.inj (sj hm)
      have fin : ∀ A u, v = .pointer (some A) → (loadVar e A).run P w = .ok u w → (method (n + 1) t v name).run P w = .ok (f', u) w := fun A u hv hl => by
        subst hv
        simp [method, hti, hfind, hp, follow, hfunc, receiverAt, run_underlying hu, Go.Place.get, strVal, wrapNilChk_some, asAddr, hl]
      simp only [invRecv] at hx
      split at hx
      · rename_i o i j
        split at hx
        · rename_i ob hob
          split at hx
          · rename_i row hrow
            obtain ⟨p, _, _, rfl, hA⟩ := ptr_cells hh hob hrow hr
            obtain ⟨u, hu1, hu2⟩ := load_row hag hsz hA hx
            exact ⟨u, fin _ u rfl hu1, hu2⟩
          · cases hx
        · cases hx
      · rename_i row j
        obtain ⟨A, rfl, _, hA⟩ := rp_cells hh hr
        obtain ⟨u, hu1, hu2⟩ := load_row hag hsz hA hx
        exact ⟨u, fin _ u rfl hu1, hu2⟩
      · cases hx
  · rename_i k hk hu
    split at hm
    · cases hm
    · rename_i hpr
      have hpr : pr = false := by simpa using hpr
      subst hpr
      obtain ⟨rfl, rfl⟩ := Prod.mk.inj (sj hm)
      obtain rfl := sj hx
      refine ⟨v, ?_, hr⟩
      cases k <;> first | exact (hk _ rfl).elim | simp [method, hti, hfind, hp, follow, hfunc, receiverAt, run_underlying hu, Go.Place.get]
theorem run_invOf {E : Prg} {G : Gh} {T : Objs} {w : World} (hh : Heap G T w) {name : String} {f : FuncId} {y d : DV} {v : Value} (h : invOf E T y name = some (f, d)) (hr : Rel G y v) (hb : hasBody E.P f = true) (args : Array Value) :
    ∃ u, (callMethod v name args).run E.P w = .ok (.enter f (#[u] ++ args)) w ∧ Rel G d u := by
  have fin : ∀ t x x' way, methRow E.P t name = some (f, way) → invRecv T way x' = some d → v = .iface t x → Rel G x' x → ∃ u, (callMethod v name args).run E.P w = .ok (.enter f (#[u] ++ args)) w ∧ Rel G d u := fun t x x' way hm hx hv hrx => by
    subst hv
    obtain ⟨u, h1, h2⟩ := run_method hh hm hx hrx
    exact ⟨u, by simp [callMethod, h1, run_callFunc_body hb], h2⟩
  have row : ∀ t x', invRow T x' (methRow E.P t name) = some (f, d) → ∃ way, methRow E.P t name = some (f, way) ∧ invRecv T way x' = some d := fun t x' h => by
    cases hm : methRow E.P t name with
    | none => rw [hm] at h; cases h
    | some p =>
      obtain ⟨f', way⟩ := p
      rw [hm] at h
      simp only [invRow] at h
      obtain ⟨d', h1, h2⟩ := Option.map_eq_some_iff.1 h
      obtain ⟨rfl, rfl⟩ := Prod.mk.inj h2
      exact ⟨way, rfl, h1⟩
  unfold invOf at h
  split at h
  · rename_i t x
    obtain ⟨way, h1, h2⟩ := row t _ h
    cases hr with
    | ifc _ _ u hu => exact fin t u _ way h1 h2 rfl hu
  · rename_i t cs
    obtain ⟨way, h1, h2⟩ := row t _ h
    cases hr with
    | ifa _ _ vs hs hv => exact fin t _ _ way h1 h2 rfl (.agg cs vs hs hv)
  · cases h
theorem opWp_sound {E : Prg} {F : FTab} (hF : FOk E F) {dr : Bool} {n : Nat} {fz : List Nat} {ops : Array Oper} {o : Oper} {r : ROper} (hc : compOper E.P n fz ops o = some r) {C : Ctx} (hn : C.n = n) {st : St} {a : Act} {w : World} {K : St → Prop} (hr : RelSt E C st a w) (h : opWp E F dr r K st)
    {next : Act → World → Prop} {Q : Exit → Act → World → Prop} (hnext : ∀ st' a' w', K st' → RelSt E C st' a' w' → next a' w') : o.wp E.P a w next Q := by
  obtain ⟨hop, hrd, hdst, _⟩ := compOper_inv hc
  have hd : ∀ t, o.dst = some t → t < C.n := fun t ht => by rw [hn]; exact dstOk_lt hdst t ht
  generalize hrop : r.op = rop at hop
  unfold opWp at h
  rw [hrop, hrd] at h
  have harr : ∀ c : Call, c.args.map a.eval = (c.args.toList.map a.eval).toArray := fun c => by apply Array.ext'; simp
  rcases compOp_ok hop with ⟨c, f, l, ho, rfl, hcal, hargs, hb⟩ | ⟨c, t, l, ho, rfl, hcal, hargs⟩ | ⟨hok, hnc⟩ | ⟨c, x, y, name, l, ho, rfl, hcal, hy, hargs⟩
  · obtain ⟨G, hG⟩ := hr
    obtain ⟨hal, hrel⟩ := cArgs_rel hG hargs
    exact enter_sound hF hd hG (vals := c.args.map a.eval) (by simp; simpa using hal) (by rw [harr]; exact hrel) (by
      simp [execOp, ho, resolve, hcal, Act.eval, Deferred.ofValue, invoke, run_callFunc_body hb]) h hnext
  · obtain ⟨G, hG⟩ := hr
    obtain ⟨hal, hrel⟩ := cArgs_rel hG hargs
    have hev := hG.ev (x := .tmp t) rfl
    simp only [calldV] at h
    split at h
    · rename_i f a0 b0 hy
      obtain ⟨ha0, hb0, hb, h⟩ := h
      have hla : a0 = #[] := Array.eq_empty_of_size_eq_zero ha0
      have hlb : b0 = #[] := Array.eq_empty_of_size_eq_zero hb0
      subst hla hlb
      have hev' : a.eval (.tmp t) = .func (.func f) #[] #[] := by
        rw [hy] at hev
        generalize a.eval (.tmp t) = v at hev ⊢
        cases hev
        rfl
      exact enter_sound hF hd hG (vals := c.args.map a.eval) (by simp; simpa using hal) (by rw [harr]; exact hrel) (by
        simp [execOp, ho, resolve, hcal, hev', Deferred.ofValue, invoke, run_callFunc_body hb]) h hnext
    · rename_i f cs hy
      obtain ⟨hb, h⟩ := h
      rw [hy] at hev
      generalize hu : a.eval (.tmp t) = v at hev
      cases hev with
      | clo _ _ vs hs hv =>
        refine enter_sound hF hd hG (vals := c.args.map a.eval ++ vs) (by simp [hs]; simpa using hal) (fun i d hi => ?_) (by
          simp [execOp, ho, resolve, hcal, hu, Deferred.ofValue, invoke, run_callFunc_body hb]) h hnext
        have hsz : (c.args.map a.eval).size = l.length := by simp; simpa using hal
        rw [Array.getD_eq_getD_getElem?]
        by_cases hlt : i < l.length
        · rw [List.getElem?_append_left (by simpa using hlt)] at hi
          rw [Array.getElem?_append_left (by omega), ← Array.getD_eq_getD_getElem?, harr]
          exact hrel i d hi
        · rw [List.getElem?_append_right (by simp; omega)] at hi
          rw [Array.getElem?_append_right (by omega), ← Array.getD_eq_getD_getElem?, hsz]
          simp only [List.length_map] at hi
          exact hv _ d hi
    · exact h.elim
  · have h' : bindO (rvl E st rop) fun p => K ((({ st with objs := p.2 } : St).put o.dst p.1).fzd r.fz o.dst) := by
      cases rop <;> first | exact h | cases hnc
    rw [rvl_eq] at h'
    cases hv : rval E st rop with
    | none => rw [hv] at h'; exact h'.elim
    | some x =>
      obtain ⟨d, objs'⟩ := x
      rw [hv] at h'
      obtain ⟨G, hG⟩ := hr
      obtain ⟨nx, v, w', G', h1, h2, h3, h4⟩ := hok C G st a w d objs' hG hv
      unfold Oper.wp
      rw [h1]
      rcases h2 with rfl | ⟨rfl, rfl⟩
      · exact hnext _ _ _ h' (RelSt.fzd ⟨G', h3.put hd h4⟩ _ _)
      · exact hnext _ _ _ h' (RelSt.fzd ⟨G', h3.put hd h4⟩ _ _)
  · obtain ⟨G, hG⟩ := hr
    obtain ⟨hal, hrel⟩ := cArgs_rel hG hargs
    simp only [invV] at h
    split at h
    rotate_left
    · exact h.elim
    rename_i f d hio
    obtain ⟨hb, h⟩ := h
    obtain ⟨u, h1, h2⟩ := run_invOf hG.heap hio (hG.ev hy) hb (c.args.map a.eval)
    refine enter_sound hF hd hG (vals := #[u] ++ c.args.map a.eval) (by simp; simpa [Nat.add_comm] using hal) (fun i d' hi => ?_) ?_ h hnext
    · rcases i with _ | i
      · simp at hi; subst hi
        rw [Array.getD_eq_getD_getElem?, Array.getElem?_append_left (by simp)]
        exact h2
      · have := hrel i d' (by simpa using hi)
        rw [Array.getD_eq_getD_getElem?, Array.getElem?_append_right (by simp)]
        simp only [List.size_toArray, List.length_cons, List.length_nil, Nat.zero_add, Nat.add_sub_cancel]
        rw [← Array.getD_eq_getD_getElem?, harr]
        exact this
    · have e : (#[a.eval x] ++ c.args.map a.eval).extract 1 (#[a.eval x] ++ c.args.map a.eval).size = c.args.map a.eval := by
        apply Array.ext'; simp [List.take_of_length_le]
      have e0 : (#[a.eval x] ++ c.args.map a.eval)[0]? = some (a.eval x) := by
        rw [Array.getElem?_append_left (by simp)]
        rfl
      simp only [execOp, ho, resolve, hcal, Sem.run_bind, Sem.run_pure, Result.andThen_ok, invoke, e, e0]
      exact h1
theorem yielded_of {E : Prg} {C : Ctx} {G : Gh} {st : St} {a : Act} {w : World} (hr : RelG E C G st a w) {ops : Array Oper} {j t : Nat} {b : Bool} (hj : (ops[j]?).bind (·.dst) = some t) (hb : st.get t = .bool b) : yielded ops a.tmps j = some b := by
  have r := hr.env t
  rw [hb] at r
  unfold yielded
  rw [hj]
  generalize hu : a.tmps.getD t undef = u at r
  cases r
  rw [Array.getD_eq_getD_getElem?] at hu
  cases hx : a.tmps[t]? with
  | none => rw [hx] at hu; simp [undef] at hu
  | some x => rw [hx] at hu; simp at hu; subst hu; simp [hx]
theorem yielded_not {E : Prg} {C : Ctx} {G : Gh} {st : St} {a : Act} {w : World} (hr : RelG E C G st a w) {ops : Array Oper} {j t : Nat} {v : Value} (hj : (ops[j]?).bind (·.dst) = some t) (hb : st.get t = .lit v) (hv : boolV v = false) : yielded ops a.tmps j = none := by
  have r := hr.env t
  rw [hb] at r
  unfold yielded
  rw [hj]
  generalize hu : a.tmps.getD t undef = u at r
  cases r
  rw [Array.getD_eq_getD_getElem?] at hu
  cases hx : a.tmps[t]? with
  | none => simp [hx]
  | some x =>
    rw [hx] at hu
    simp at hu
    subst hu
    simp only [Option.bind_some, hx]
    cases x <;> first | rfl | cases hv
theorem stepWp_sound {E : Prg} {F : FTab} (hF : FOk E F) {dr : Bool} {n : Nat} {fz : List Nat} {ops : Array Oper} {o : Oper} {r : ROper} (hc : compOper E.P n fz ops o = some r) {C : Ctx} (hn : C.n = n) {st : St} {a : Act} {w : World} {K : St → Prop} (hr : RelSt E C st a w) (h : stepWp E F dr r K st)
    {next : Act → World → Prop} {Q : Exit → Act → World → Prop} (hnext : ∀ st' a' w', K st' → RelSt E C st' a' w' → next a' w') :
    if Region.wanted o (yielded ops a.tmps) then o.wp E.P a w next Q ∨ (o.asks E.P a w ∧ LetsOut Q) else next (a.put o.dst undef) w := by
  obtain ⟨_, hrd, hdst0, hguard⟩ := compOper_inv hc
  have hdst : ∀ t, o.dst = some t → t < C.n := fun t ht => by rw [hn]; exact dstOk_lt hdst0 t ht
  unfold stepWp at h
  rcases hguard with ⟨hg1, hg2⟩ | ⟨j, t, want, hg1, hg2, hj⟩
  · rw [hg1] at h
    rw [if_pos (by simp [Region.wanted, hg2])]
    exact .inl (opWp_sound hF hc hn hr h hnext)
  · rw [hg1] at h
    simp only [bindG] at h
    split at h
    · rename_i b hb
      obtain ⟨G, hG⟩ := hr
      have hy := yielded_of hG hj hb
      unfold cnd at h
      by_cases hw : b = want
      · subst hw
        rw [if_pos (by simp), St.know_self hb] at h
        rw [if_pos (by simp [Region.wanted, hg2, hy])]
        exact .inl (opWp_sound hF hc hn ⟨G, hG⟩ h hnext)
      · have hbw : b = !want := by cases b <;> cases want <;> simp_all
        rw [if_neg (by simpa using hw), St.know_self (by rw [hb, hbw])] at h
        rw [if_neg (by simp [Region.wanted, hg2, hy, hw])]
        refine hnext _ _ _ h ⟨G, ?_⟩
        rw [hrd]
        exact hG.put hdst (.lit _)
    · rename_i v hb
      obtain ⟨G, hG⟩ := hr
      have hy := yielded_not hG hj hb h.1
      rw [if_neg (by simp [Region.wanted, hg2, hy])]
      refine hnext _ _ _ h.2 ⟨G, ?_⟩
      rw [hrd]
      exact hG.put hdst (.lit _)
    · exact h.elim
theorem opsWp_sound {E : Prg} {F : FTab} (hF : FOk E F) {n : Nat} {fz : List Nat} {ops : Array Oper} : ∀ (l : List Oper) (rl : List ROper), compOps E.P n fz ops l = some rl → ∀ {C : Ctx}, C.n = n → ∀ {st : St} {a : Act} {w : World} {K : St → Prop}, RelSt E C st a w → opsWp E F rl K st →
    ∀ {Q : Exit → Act → World → Prop}, (∀ st' a' w', K st' → RelSt E C st' a' w' → Q .normal a' w') → wpList E.P ops Q l a w
  | [], rl, hc, C, hn, st, a, w, K, hr, h, Q, hQ => by
    obtain rfl := sj hc
    exact hQ st a w h hr
  | o :: l, rl, hc, C, hn, st, a, w, K, hr, h, Q, hQ => by
    simp only [compOps] at hc
    cases h1 : compOper E.P n fz ops o with
    | none => rw [h1] at hc; cases hc
    | some r =>
      cases h2 : compOps E.P n fz ops l with
      | none => rw [h1, h2] at hc; cases hc
      | some l' =>
        rw [h1, h2] at hc
        obtain rfl := sj hc
        simp only [opsWp] at h
        unfold wpList
        exact stepWp_sound hF h1 hn hr h fun st' a' w' hk hr' => opsWp_sound hF l l' h2 hn hr' hk hQ
theorem St.ins_lt {t k : Nat} (d y : DV) (l : List (Nat × DV)) (h : t < k) : St.ins t d ((k, y) :: l) = (t, d) :: (k, y) :: l := by simp only [St.ins, if_pos h]
theorem St.ins_eq {t k : Nat} (d y : DV) (l : List (Nat × DV)) (h : t = k) : St.ins t d ((k, y) :: l) = (t, d) :: l := by subst h; simp [St.ins]
theorem St.ins_gt {t k : Nat} (d y : DV) (l : List (Nat × DV)) (h : k < t) : St.ins t d ((k, y) :: l) = (k, y) :: St.ins t d l := by simp only [St.ins, if_neg (show ¬ t < k by omega), if_neg (show ¬ k = t by omega)]
theorem St.ins_comm (t u : Nat) (d x : DV) (h : t ≠ u) : ∀ l : List (Nat × DV), St.ins t d (St.ins u x l) = St.ins u x (St.ins t d l)
  | [] => by
    simp only [St.ins]
    by_cases h1 : t < u
    · rw [if_pos h1, if_neg (by omega), if_neg (by omega)]
    · rw [if_neg h1, if_neg (by omega), if_pos (by omega)]
  | (k, y) :: l => by
    have ih := St.ins_comm t u d x h l
    rcases Nat.lt_trichotomy t k with a | a | a <;> rcases Nat.lt_trichotomy u k with b | b | b <;> rcases Nat.lt_trichotomy t u with c | c | c <;>
      first
        | omega
        | (repeat (first
            | rw [ih]
            | (rw [St.ins_lt (h := (by omega : t < u))]) | (rw [St.ins_lt (h := (by omega : u < t))])
            | (rw [St.ins_lt (h := (by omega : t < k))]) | (rw [St.ins_lt (h := (by omega : u < k))])
            | (rw [St.ins_eq (h := (by omega : t = k))]) | (rw [St.ins_eq (h := (by omega : u = k))])
            | (rw [St.ins_gt (h := (by omega : u < t))]) | (rw [St.ins_gt (h := (by omega : t < u))])
            | (rw [St.ins_gt (h := (by omega : k < t))]) | (rw [St.ins_gt (h := (by omega : k < u))])))
theorem St.put_comm (st : St) (a b : Option Nat) (d x : DV) (h : ∀ t, a = some t → b ≠ some t) : (st.put a d).put b x = (st.put b x).put a d := by
  cases a with
  | none => rfl
  | some t => cases b with
    | none => rfl
    | some u =>
      have : t ≠ u := fun e => h t rfl (by rw [e])
      simp only [St.put]
      rw [St.ins_comm u t x d (fun e => this e.symm)]
theorem callV_mono {E : Prg} {x : Option FS} {dr : Bool} {f : Nat} {args : List DV} {T : Objs} {K K' : DV → Objs → Prop} (h : callV E x dr f args T K) (hk : ∀ d T', K d T' → K' d T') : callV E x dr f args T K' := by
  unfold callV at h ⊢
  split at h
  · exact ⟨h.1, hk _ _ h.2⟩
  · split at h
    · exact h.elim
    · rename_i s hd; rw [if_neg hd]; exact s.mono _ _ _ h hk
  · split at h
    · exact h.elim
    · rename_i hd; rw [if_neg hd]; exact h.mono hk
theorem bindO_mono {α : Type} {x : Option α} {f g : α → Prop} (h : bindO x f) (hk : ∀ a, f a → g a) : bindO x g := by
  cases x with
  | none => exact h.elim
  | some y => exact hk y h
theorem calldV_mono {E : Prg} {F : FTab} {dr : Bool} {d : DV} {args : List DV} {T : Objs} {K K' : DV → Objs → Prop} (h : calldV E F dr d args T K) (hk : ∀ d T, K d T → K' d T) : calldV E F dr d args T K' := by
  unfold calldV at h ⊢
  split at h
  · exact ⟨h.1, h.2.1, h.2.2.1, callV_mono h.2.2.2 hk⟩
  · exact ⟨h.1, callV_mono h.2 hk⟩
  · exact h.elim
theorem invV_mono {E : Prg} {F : FTab} {dr : Bool} {r : Option (FuncId × DV)} {args : List DV} {T : Objs} {K K' : DV → Objs → Prop} (h : invV E F dr r args T K) (hk : ∀ d T, K d T → K' d T) : invV E F dr r args T K' := by
  unfold invV at h ⊢
  split at h
  · exact ⟨h.1, callV_mono h.2 hk⟩
  · exact h.elim
theorem opWp_mono {E : Prg} {F : FTab} {dr : Bool} {o : ROper} {K K' : St → Prop} {st : St} (h : opWp E F dr o K st) (hk : ∀ st, K st → K' st) : opWp E F dr o K' st := by
  unfold opWp at h ⊢
  split at h
  · exact callV_mono h fun d T' hh => hk _ hh
  · exact calldV_mono h fun d T' hh => hk _ hh
  · exact invV_mono h fun d T' hh => hk _ hh
  · exact bindO_mono h fun p hh => hk _ hh
theorem stepWp_mono {E : Prg} {F : FTab} {dr : Bool} {o : ROper} {K K' : St → Prop} {st : St} (h : stepWp E F dr o K st) (hk : ∀ st, K st → K' st) : stepWp E F dr o K' st := by
  unfold stepWp at h ⊢
  split at h
  · exact opWp_mono h hk
  · simp only [bindG] at h ⊢
    split at h
    · unfold cnd at h ⊢
      split at h
      · rename_i hb; rw [if_pos hb]; exact opWp_mono h hk
      · rename_i hb; rw [if_neg hb]; exact hk _ h
    · exact ⟨h.1, hk _ h.2⟩
    · exact h.elim
theorem opsWp_mono {E : Prg} {F : FTab} : ∀ (l : List ROper) {K K' : St → Prop} {st : St}, opsWp E F l K st → (∀ st, K st → K' st) → opsWp E F l K' st
  | [], K, K', st, h, hk => hk _ h
  | o :: l, K, K', st, h, hk => stepWp_mono h fun st hh => opsWp_mono l hh hk
theorem OT.wp_mono {E : Prg} {F : FTab} : ∀ (t : OT) {K K' : St → Prop} {st : St}, t.wp E F K st → (∀ st, K st → K' st) → t.wp E F K' st
  | .done, K, K', st, h, hk => hk _ h
  | .mid o k, K, K', st, h, hk => stepWp_mono h fun st hh => OT.wp_mono k hh hk
  | .op o k, K, K', st, h, hk => stepWp_mono h fun st hh => OT.wp_mono k hh hk
  | .take o ps k, K, K', st, h, hk => ⟨h.1, stepWp_mono h.2 fun st hh => OT.wp_mono k hh hk⟩
  | .alt a b, K, K', st, h, hk => ⟨OT.wp_mono a h.1 hk, OT.wp_mono b h.2 hk⟩
def EvEq (E : Prg) (op : ROp) (st st' : St) : Prop := ∀ x ∈ op.opds, x.ev E st' = x.ev E st
theorem ev_put {E : Prg} {st : St} {x : Opd} {dst : Option Nat} {d : DV} (h : ∀ t, dst = some t → t ∉ x.tm) : x.ev E (st.put dst d) = x.ev E st := by
  cases dst with
  | none => rfl
  | some t => cases x with
    | t n =>
      simp only [Opd.ev, St.get_put]
      rw [if_neg (fun e => h t rfl (by subst e; simp [Opd.tm]))]
    | c d => rfl
    | g n => rfl
theorem ev_objs {E : Prg} {st : St} {x : Opd} (o : Objs) : x.ev E { st with objs := o } = x.ev E st := by cases x <;> rfl
theorem listApart_spec {a b : List Nat} (h : listApart a b = true) {x : Nat} (hx : x ∈ a) : x ∉ b := by
  have := List.all_eq_true.1 h x hx
  simpa using this
theorem natOf_congr {E : Prg} {st st' : St} {n : Nat} : ∀ {x : Option Opd}, (∀ y ∈ optOpd x, y.ev E st' = y.ev E st) → natOf st' E n x = natOf st E n x
  | none, _ => rfl
  | some y, h => by simp only [natOf, h y (by simp [optOpd])]
theorem foldl_congr' {α β : Type} {f g : β → α → β} : ∀ (l : List α) (b : β), (∀ x ∈ l, ∀ b, f b x = g b x) → l.foldl f b = l.foldl g b
  | [], _, _ => rfl
  | x :: l, b, h => by
    simp only [List.foldl_cons]
    rw [h x (by simp) b]
    exact foldl_congr' l _ fun y hy => h y (by simp [hy])
theorem rval_stay {E : Prg} {op : ROp} {st st' : St} (hq : op.quiet = true) (he : EvEq E op st st')
    (ho : op.blind = false → ∀ x ∈ op.opds, ∀ k z, (x.ev E st).id = some k → st.objs[k]? = some z → st'.objs[k]? = some z) {d : DV} {o : Objs} (h : rval E st op = some (d, o)) :
    rval E st' op = some (d, st'.objs) ∧ o = st.objs := by
  have rows : op.blind = false → ∀ x ∈ op.opds, ∀ r, rowsOf st (x.ev E st) = some r → rowsOf st' (x.ev E st) = some r := by
    intro hb x hx r hr
    have := ho hb x hx
    cases hv : x.ev E st <;> rw [hv] at hr this <;> try exact hr
    rename_i k off n
    simp only [rowsOf] at hr ⊢
    split at hr
    · rename_i sz rows hk
      rw [this k _ rfl hk]
      exact hr
    · cases hr
  cases op <;> first | cases hq | skip
  case mov x =>
    simp only [rval] at h ⊢
    obtain ⟨rfl, rfl⟩ := Prod.mk.inj (sj h)
    rw [he x (by simp [ROp.opds])]; exact ⟨rfl, rfl⟩
  case pick c a b =>
    simp only [rval] at h ⊢
    rw [he c (by simp [ROp.opds]), he a (by simp [ROp.opds]), he b (by simp [ROp.opds])]
    split at h
    · obtain ⟨rfl, rfl⟩ := Prod.mk.inj (sj h); exact ⟨rfl, rfl⟩
    · cases h
  case build zero parts =>
    simp only [rval] at h ⊢
    obtain ⟨y, hy, h2⟩ := Option.map_eq_some_iff.1 h
    obtain ⟨rfl, rfl⟩ := Prod.mk.inj h2
    exact ⟨Option.map_eq_some_iff.2 ⟨y, (foldl_congr' _ _ fun x hx b => by
      have : x.2.2.ev E st' = x.2.2.ev E st := he x.2.2 (by simp only [ROp.opds, List.mem_map]; exact ⟨x, hx, rfl⟩)
      rw [this]).trans hy, rfl⟩, rfl⟩
  case load ag sz x =>
    simp only [rval] at h ⊢
    rw [he x (by simp [ROp.opds])]
    have := ho rfl x (by simp [ROp.opds])
    split at h
    · rename_i k i j hx
      rw [hx] at this
      split at h
      · rename_i ob hk
        rw [this k _ rfl hk]
        split at h
        · rename_i row hrow
          simp only [hrow]
          obtain ⟨y, hy, h2⟩ := Option.map_eq_some_iff.1 h
          obtain ⟨rfl, rfl⟩ := Prod.mk.inj h2
          exact ⟨by rw [hy]; rfl, rfl⟩
        · cases h
      · cases h
    · rename_i row j hx
      obtain ⟨y, hy, h2⟩ := Option.map_eq_some_iff.1 h
      obtain ⟨rfl, rfl⟩ := Prod.mk.inj h2
      exact ⟨by simp only [hy, Option.map], rfl⟩
    · cases h
  case nilck x =>
    simp only [rval] at h ⊢
    rw [he x (by simp [ROp.opds])]
    split at h <;> first | (obtain ⟨rfl, rfl⟩ := Prod.mk.inj (sj h); exact ⟨rfl, rfl⟩) | cases h
  case bin op x y =>
    simp only [rval] at h ⊢
    rw [he x (by simp [ROp.opds]), he y (by simp [ROp.opds])]
    split at h
    · rename_i k a k' b h1 h2
      obtain ⟨z, hz, h2⟩ := Option.map_eq_some_iff.1 h
      obtain ⟨rfl, rfl⟩ := Prod.mk.inj h2
      exact ⟨by rw [hz]; rfl, rfl⟩
    · obtain ⟨z, hz, h2⟩ := Option.map_eq_some_iff.1 h
      obtain ⟨rfl, rfl⟩ := Prod.mk.inj h2
      exact ⟨by rw [hz]; rfl, rfl⟩
    · cases h
  case eqB neg x y =>
    simp only [rval] at h ⊢
    rw [he x (by simp [ROp.opds]), he y (by simp [ROp.opds])]
    split at h
    · obtain ⟨rfl, rfl⟩ := Prod.mk.inj (sj h); exact ⟨rfl, rfl⟩
    · cases h
  case eqNil neg x y =>
    simp only [rval] at h ⊢
    rw [he x (by simp [ROp.opds]), he y (by simp [ROp.opds])]
    split at h
    · obtain ⟨z, hz, h2⟩ := Option.map_eq_some_iff.1 h
      obtain ⟨rfl, rfl⟩ := Prod.mk.inj h2
      exact ⟨by rw [hz]; rfl, rfl⟩
    · split at h
      · rename_i hn
        obtain ⟨rfl, rfl⟩ := Prod.mk.inj (sj h)
        exact ⟨by simp only [if_pos hn], rfl⟩
      · cases h
    · cases h
  case eqP neg x y =>
    simp only [rval] at h ⊢
    rw [he x (by simp [ROp.opds]), he y (by simp [ROp.opds])]
    obtain ⟨z, hz, h2⟩ := Option.map_eq_some_iff.1 h
    obtain ⟨rfl, rfl⟩ := Prod.mk.inj h2
    exact ⟨by rw [hz]; rfl, rfl⟩
  case eqS neg ks x y =>
    simp only [rval] at h ⊢
    rw [he x (by simp [ROp.opds]), he y (by simp [ROp.opds])]
    split at h
    · obtain ⟨z, hz, h2⟩ := Option.map_eq_some_iff.1 h
      obtain ⟨rfl, rfl⟩ := Prod.mk.inj h2
      exact ⟨by rw [hz]; rfl, rfl⟩
    · cases h
  case un op x =>
    simp only [rval] at h ⊢
    rw [he x (by simp [ROp.opds])]
    obtain ⟨z, hz, h2⟩ := Option.map_eq_some_iff.1 h
    obtain ⟨rfl, rfl⟩ := Prod.mk.inj h2
    exact ⟨by rw [hz]; rfl, rfl⟩
  case conv k x =>
    simp only [rval] at h ⊢
    rw [he x (by simp [ROp.opds])]
    split at h
    · obtain ⟨rfl, rfl⟩ := Prod.mk.inj (sj h); exact ⟨rfl, rfl⟩
    · cases h
    · split at h
      · rename_i sz rws hrows
        rw [rows rfl x (by simp [ROp.opds]) _ hrows]
        simp only
        split at h
        · rename_i hc
          rw [if_pos hc]
          obtain ⟨z, hz, h2⟩ := Option.map_eq_some_iff.1 h
          obtain ⟨rfl, rfl⟩ := Prod.mk.inj h2
          exact ⟨by rw [hz]; rfl, rfl⟩
        · cases h
      · cases h
    · cases hq
    · obtain ⟨rfl, rfl⟩ := Prod.mk.inj (sj h); exact ⟨rfl, rfl⟩
    · cases hq
    · cases h
  case slice sz x lo hi mx =>
    simp only [rval] at h ⊢
    rw [he x (by simp [ROp.opds])]
    have hlo : ∀ n, natOf st' E n lo = natOf st E n lo := fun n => natOf_congr fun y hy => he y (by simp [ROp.opds, hy])
    have hhi : ∀ n, natOf st' E n hi = natOf st E n hi := fun n => natOf_congr fun y hy => he y (by simp [ROp.opds, hy])
    have hmx : ∀ n, natOf st' E n mx = natOf st E n mx := fun n => natOf_congr fun y hy => he y (by simp [ROp.opds, hy])
    have := ho rfl x (by simp [ROp.opds])
    simp only [hlo, hhi]
    split at h
    · split at h
      · split at h
        · rename_i hc
          rw [if_pos hc]
          split at h
          · obtain ⟨rfl, rfl⟩ := Prod.mk.inj (sj h); exact ⟨rfl, rfl⟩
          · rename_i m
            simp only [hmx]
            split at h
            · split at h
              · rename_i hm; rw [if_pos hm]; obtain ⟨rfl, rfl⟩ := Prod.mk.inj (sj h); exact ⟨rfl, rfl⟩
              · cases h
            · cases h
        · cases h
      · cases h
    · rename_i k off n hx
      rw [hx] at this
      split at h
      · split at h
        · rename_i s rows hk
          rw [this k _ rfl hk]
          simp only
          split at h
          · rename_i hc; rw [if_pos hc]; obtain ⟨rfl, rfl⟩ := Prod.mk.inj (sj h); exact ⟨rfl, rfl⟩
          · cases h
        · cases h
      · simp only [hmx]
        split at h
        · split at h
          · rename_i hm; rw [if_pos hm]; obtain ⟨rfl, rfl⟩ := Prod.mk.inj (sj h); exact ⟨rfl, rfl⟩
          · cases h
        · cases h
      · cases h
    · cases h
  case sliceS x lo hi =>
    simp only [rval] at h ⊢
    rw [he x (by simp [ROp.opds])]
    have hlo : ∀ n, natOf st' E n lo = natOf st E n lo := fun n => natOf_congr fun y hy => he y (by simp [ROp.opds, hy])
    have hhi : ∀ n, natOf st' E n hi = natOf st E n hi := fun n => natOf_congr fun y hy => he y (by simp [ROp.opds, hy])
    simp only [hlo, hhi]
    split at h
    · split at h
      · split at h
        · rename_i hc; rw [if_pos hc]; obtain ⟨rfl, rfl⟩ := Prod.mk.inj (sj h); exact ⟨rfl, rfl⟩
        · cases h
      · cases h
    · cases h
  case faddr off x =>
    simp only [rval] at h ⊢
    rw [he x (by simp [ROp.opds])]
    split at h <;> first | (obtain ⟨rfl, rfl⟩ := Prod.mk.inj (sj h); exact ⟨rfl, rfl⟩) | cases h
  case fld ag off sz x =>
    simp only [rval] at h ⊢
    rw [he x (by simp [ROp.opds])]
    split at h
    · obtain ⟨z, hz, h2⟩ := Option.map_eq_some_iff.1 h
      obtain ⟨rfl, rfl⟩ := Prod.mk.inj h2
      exact ⟨by simp only [hz, Option.map], rfl⟩
    · cases h
  case iaddr sz x i =>
    simp only [rval] at h ⊢
    rw [he x (by simp [ROp.opds]), he i (by simp [ROp.opds])]
    have := ho rfl x (by simp [ROp.opds])
    split at h
    · split at h
      · rename_i hc
        rw [if_pos hc]
        split at h
        · obtain ⟨rfl, rfl⟩ := Prod.mk.inj (sj h); exact ⟨rfl, rfl⟩
        · cases h
      · cases h
    · rename_i k off m k' n hx hi
      rw [hx] at this
      split at h
      · rename_i hc
        rw [if_pos hc]
        split at h
        · rename_i s rows hk
          rw [this k _ rfl hk]
          simp only
          split at h
          · rename_i hs; rw [if_pos hs]; obtain ⟨rfl, rfl⟩ := Prod.mk.inj (sj h); exact ⟨rfl, rfl⟩
          · cases h
        · cases h
      · cases h
    · cases h
  case iaddrA len sz x i =>
    simp only [rval] at h ⊢
    rw [he x (by simp [ROp.opds]), he i (by simp [ROp.opds])]
    split at h <;> first | cases h | skip
    all_goals
      split at h
      · rename_i hc; rw [if_pos hc]; obtain ⟨rfl, rfl⟩ := Prod.mk.inj (sj h); exact ⟨rfl, rfl⟩
      · cases h
  case idxS x i =>
    simp only [rval] at h ⊢
    rw [he x (by simp [ROp.opds]), he i (by simp [ROp.opds])]
    split at h
    · split at h
      · rename_i hc
        rw [if_pos hc]
        split at h
        · obtain ⟨rfl, rfl⟩ := Prod.mk.inj (sj h); exact ⟨rfl, rfl⟩
        · cases h
      · cases h
    · cases h
  case ext x i =>
    simp only [rval] at h ⊢
    rw [he x (by simp [ROp.opds])]
    split at h
    · split at h
      · obtain ⟨rfl, rfl⟩ := Prod.mk.inj (sj h); exact ⟨rfl, rfl⟩
      · cases h
    · cases h
  case len x =>
    simp only [rval] at h ⊢
    rw [he x (by simp [ROp.opds])]
    split at h <;> first | (obtain ⟨rfl, rfl⟩ := Prod.mk.inj (sj h); exact ⟨rfl, rfl⟩) | cases h
  case lenS x =>
    simp only [rval] at h ⊢
    rw [he x (by simp [ROp.opds])]
    split at h <;> first | (obtain ⟨rfl, rfl⟩ := Prod.mk.inj (sj h); exact ⟨rfl, rfl⟩) | cases h
  case mm isMax x y =>
    simp only [rval] at h ⊢
    rw [he x (by simp [ROp.opds]), he y (by simp [ROp.opds])]
    split at h
    · obtain ⟨rfl, rfl⟩ := Prod.mk.inj (sj h); exact ⟨rfl, rfl⟩
    · cases h
  case mkfn f l =>
    simp only [rval] at h ⊢
    have hl : l.map (Opd.ev E st') = l.map (Opd.ev E st) := List.map_congr_left fun x hx => he x (by simpa [ROp.opds] using hx)
    rw [hl]
    obtain ⟨rfl, rfl⟩ := Prod.mk.inj (sj h); exact ⟨rfl, rfl⟩
  case mkIfc t x =>
    simp only [rval] at h ⊢
    rw [he x (by simp [ROp.opds])]
    split at h <;> (obtain ⟨rfl, rfl⟩ := Prod.mk.inj (sj h); exact ⟨rfl, rfl⟩)
  case asrt t x =>
    simp only [rval] at h ⊢
    rw [he x (by simp [ROp.opds])]
    split at h
    · split at h
      · rename_i hc; rw [if_pos hc]; obtain ⟨rfl, rfl⟩ := Prod.mk.inj (sj h); exact ⟨rfl, rfl⟩
      · cases h
    · split at h
      · rename_i hc; rw [if_pos hc]; obtain ⟨rfl, rfl⟩ := Prod.mk.inj (sj h); exact ⟨rfl, rfl⟩
      · cases h
    · cases h
  case mget kd ok z m k =>
    simp only [rval] at h ⊢
    rw [he m (by simp [ROp.opds]), he k (by simp [ROp.opds])]
    have := ho rfl m (by simp [ROp.opds])
    split at h
    · rename_i b hx
      rw [hx] at this
      split at h
      · rename_i es hb
        rw [this b _ rfl hb]
        split at h
        · rename_i hc
          obtain ⟨r, hr, h2⟩ := Option.map_eq_some_iff.1 h
          obtain ⟨rfl, rfl⟩ := Prod.mk.inj h2
          exact ⟨by simp only [if_pos hc, hr]; rfl, rfl⟩
        · cases h
      · cases h
    · cases h
theorem rowsOf_objs {st st' : St} (h : st'.objs = st.objs) (d : DV) : rowsOf st' d = rowsOf st d := by cases d <;> simp only [rowsOf, h]
theorem rval_env {E : Prg} {op : ROp} {st st' : St} (he : EvEq E op st st') (ho : st'.objs = st.objs) {p : DV × Objs} (h : rval E st op = some p) : rval E st' op = some p := by
  by_cases hq : op.quiet = true
  · obtain ⟨d, o⟩ := p
    obtain ⟨h1, h2⟩ := rval_stay hq he (fun _ x hx k z hk hz => by rw [ho]; exact hz) h
    rw [h1, h2, ho]
  · cases op <;> first | exact absurd rfl hq | skip
    case box sz x => simp only [rval] at h ⊢; rw [he x (by simp [ROp.opds]), ho]; exact h
    case alloc zero => simp only [rval] at h ⊢; rw [ho]; exact h
    case mkrow sz zero len parts =>
      simp only [rval] at h ⊢
      obtain ⟨y, hy, h2⟩ := Option.map_eq_some_iff.1 h
      rw [ho]
      exact Option.map_eq_some_iff.2 ⟨y, (foldl_congr' _ _ fun x hx b => by
        have : x.2.ev E st' = x.2.ev E st := he x.2 (by simp only [ROp.opds, List.mem_map]; exact ⟨x, hx, rfl⟩)
        rw [this]).trans hy, h2⟩
    case store sz q x => simp only [rval] at h ⊢; rw [he q (by simp [ROp.opds]), he x (by simp [ROp.opds]), ho]; exact h
    case append sz by_ x y => simp only [rval] at h ⊢; rw [he x (by simp [ROp.opds]), he y (by simp [ROp.opds]), ho, rowsOf_objs ho]; exact h
    case copy sz x y => simp only [rval] at h ⊢; rw [he x (by simp [ROp.opds]), he y (by simp [ROp.opds]), ho, rowsOf_objs ho]; exact h
    case mkslice sz by_ zero n c => simp only [rval] at h ⊢; rw [he n (by simp [ROp.opds]), he c (by simp [ROp.opds]), ho]; exact h
    case conv k x => simp only [rval] at h ⊢; rw [he x (by simp [ROp.opds]), ho]; simp only [rowsOf_objs ho]; exact h
    case call f l => cases h
    case calld y l => cases h
    case inv x name l => cases h
    case mkmap => simp only [rval] at h ⊢; rw [ho]; exact h
    case mset kd m k x => simp only [rval] at h ⊢; rw [he m (by simp [ROp.opds]), he k (by simp [ROp.opds]), he x (by simp [ROp.opds]), ho]; exact h
theorem rval_eff {E : Prg} {op : ROp} {st : St} {d : DV} {o : Objs} (h : rval E st op = some (d, o)) {k : Nat} {z : Option Ob} (hz : st.objs[k]? = some z) (hk : ∀ p ∈ op.wr, (p.ev E st).id ≠ some k) : o[k]? = some z := by
  have hlt : k < st.objs.length := (List.getElem?_eq_some_iff.1 hz).1
  by_cases hq : op.quiet = true
  · obtain ⟨_, h2⟩ := rval_stay (st' := st) hq (fun _ _ => rfl) (fun _ x hx k z hk hz => hz) h
    rw [h2]; exact hz
  · cases op <;> first | exact absurd rfl hq | skip
    case box sz x =>
      simp only [rval] at h
      split at h
      · split at h
        · obtain ⟨rfl, rfl⟩ := Prod.mk.inj (sj h); rw [List.getElem?_append_left hlt]; exact hz
        · cases h
      · cases h
    case alloc zero => simp only [rval] at h; obtain ⟨rfl, rfl⟩ := Prod.mk.inj (sj h); rw [List.getElem?_append_left hlt]; exact hz
    case mkrow sz zero len parts =>
      simp only [rval] at h
      obtain ⟨y, hy, h2⟩ := Option.map_eq_some_iff.1 h
      obtain ⟨rfl, rfl⟩ := Prod.mk.inj h2
      rw [List.getElem?_append_left hlt]; exact hz
    case store sz q x =>
      simp only [rval] at h
      have := hk q (by simp [ROp.wr])
      split at h
      · rename_i o' i j cs hq' hx
        rw [hq'] at this
        split at h
        · split at h
          · split at h
            · obtain ⟨rfl, rfl⟩ := Prod.mk.inj (sj h)
              rw [List.getElem?_set_ne (fun e => this (by rw [e]; rfl))]; exact hz
            · cases h
          · cases h
        · cases h
      · cases h
    case mkmap => simp only [rval] at h; obtain ⟨rfl, rfl⟩ := Prod.mk.inj (sj h); rw [List.getElem?_append_left hlt]; exact hz
    case mset kd m q x =>
      simp only [rval] at h
      have := hk m (by simp [ROp.wr])
      split at h
      · rename_i o' hq'
        rw [hq'] at this
        split at h
        · split at h
          · obtain ⟨es', _, h2⟩ := Option.map_eq_some_iff.1 h
            obtain ⟨rfl, rfl⟩ := Prod.mk.inj h2
            rw [List.getElem?_set_ne (fun e => this (by rw [e]; rfl))]; exact hz
          · cases h
        · cases h
      · cases h
    case append sz by_ x y =>
      simp only [rval] at h
      have := hk x (by simp [ROp.wr])
      split at h
      · split at h
        · obtain ⟨rfl, rfl⟩ := Prod.mk.inj (sj h); rw [List.getElem?_append_left hlt]; exact hz
        · cases h
      · rename_i o' off n s2 new hx hy
        rw [hx] at this
        split at h
        · split at h
          · obtain ⟨rfl, rfl⟩ := Prod.mk.inj (sj h)
            rw [List.getElem?_append_left (by simpa using hlt), List.getElem?_set_ne (fun e => this (by rw [e]; rfl))]; exact hz
          · cases h
        · cases h
      · cases h
    case copy sz x y =>
      simp only [rval] at h
      have := hk x (by simp [ROp.wr])
      split at h
      · rename_i o' off n s2 new hx hy
        rw [hx] at this
        split at h
        · split at h
          · obtain ⟨rfl, rfl⟩ := Prod.mk.inj (sj h)
            rw [List.getElem?_set_ne (fun e => this (by rw [e]; rfl))]; exact hz
          · cases h
        · cases h
      · cases h
    case mkslice sz by_ zero n c =>
      simp only [rval] at h
      split at h
      · split at h
        · obtain ⟨rfl, rfl⟩ := Prod.mk.inj (sj h); rw [List.getElem?_append_left hlt]; exact hz
        · cases h
      · cases h
    case conv k x =>
      simp only [rval] at h
      split at h
      · obtain ⟨rfl, rfl⟩ := Prod.mk.inj (sj h); exact hz
      · cases h
      · split at h
        · split at h
          · obtain ⟨z', hz', h2⟩ := Option.map_eq_some_iff.1 h
            obtain ⟨rfl, rfl⟩ := Prod.mk.inj h2
            exact hz
          · cases h
        · cases h
      · split at h
        · obtain ⟨rfl, rfl⟩ := Prod.mk.inj (sj h); rw [List.getElem?_append_left hlt]; exact hz
        · cases h
      · obtain ⟨rfl, rfl⟩ := Prod.mk.inj (sj h); exact hz
      · split at h
        · split at h
          · obtain ⟨rfl, rfl⟩ := Prod.mk.inj (sj h); exact hz
          · cases h
        · cases h
      · cases h
    case call f l => cases h
    case calld y l => cases h
    case inv x name l => cases h
theorem St.fzd_false (dst : Option Nat) (st : St) : st.fzd false dst = st := by cases dst <;> rfl
theorem St.put_objs (st : St) (a : Option Nat) (d : DV) (o : Objs) : ({ (st.put a d) with objs := o } : St) = ({ st with objs := o } : St).put a d := by cases a <;> rfl
theorem St.objs_put (st : St) (a : Option Nat) (d : DV) : (st.put a d).objs = st.objs := by cases a <;> rfl
theorem get_put_ne {st : St} {dst : Option Nat} {d : DV} {t : Nat} (h : ∀ u, dst = some u → u ≠ t) : (st.put dst d).get t = st.get t := by
  cases dst with
  | none => rfl
  | some u => rw [St.get_put, if_neg (h u rfl)]
structure Stay (E : Prg) (r : ROper) (ps : List Opd) (d : DV) (st : St) : Prop where
  run : match r.guard with
    | none => rval E st r.op = some (d, st.objs)
    | some (t, want) => (∃ b, st.get t = .bool b ∧ (b = want → rval E st r.op = some (d, st.objs)) ∧ (b ≠ want → d = .no)) ∨ ((∃ v, st.get t = .lit v ∧ boolV v = false) ∧ d = .no)
  clr : r.op.blind = true ∨ ∀ p ∈ ps, clearOf E st r.op p
theorem quiet_notCall {r : ROp} (h : r.quiet = true) : r.isCall = false := by cases r <;> first | rfl | cases h
theorem opWp_rval {E : Prg} {F : FTab} {dr : Bool} {r : ROper} {K : St → Prop} {st : St} (hn : r.op.isCall = false) :
    opWp E F dr r K st ↔ bindO (rval E st r.op) fun p => K ((({ st with objs := p.2 } : St).put r.dst p.1).fzd r.fz r.dst) := by
  unfold opWp
  rw [← rvl_eq]
  generalize r.op = op at hn ⊢
  cases op <;> first | exact Iff.rfl | cases hn
theorem Stay.of {E : Prg} {F : FTab} {dr : Bool} {r : ROper} {ps : List Opd} {K : St → Prop} {st : St} (hq : r.op.quiet = true) (hz : r.fz = false) (hc : r.op.blind = true ∨ ∀ p ∈ ps, clearOf E st r.op p) (h : stepWp E F dr r K st) :
    ∃ d, Stay E r ps d st ∧ K (st.put r.dst d) := by
  have run : opWp E F dr r K st → ∃ d, rval E st r.op = some (d, st.objs) ∧ K (st.put r.dst d) := by
    intro h
    rw [opWp_rval (quiet_notCall hq)] at h
    cases hv : rval E st r.op with
    | none => rw [hv] at h; exact h.elim
    | some p =>
      obtain ⟨d, o⟩ := p
      obtain ⟨_, rfl⟩ := rval_stay (st' := st) hq (fun _ _ => rfl) (fun _ x hx k z hk hz => hz) hv
      rw [hv, hz] at h
      simp only [bindO, St.fzd_false] at h
      exact ⟨d, rfl, h⟩
  unfold stepWp at h
  cases hg : r.guard with
  | none =>
    rw [hg] at h
    obtain ⟨d, h1, h2⟩ := run h
    exact ⟨d, ⟨by rw [hg]; exact h1, hc⟩, h2⟩
  | some x =>
    obtain ⟨t, want⟩ := x
    rw [hg] at h
    simp only [bindG] at h
    split at h
    · rename_i b hb
      unfold cnd at h
      by_cases hw : b = want
      · rw [if_pos (by simpa using hw), ← hw, St.know_self hb] at h
        obtain ⟨d, h1, h2⟩ := run h
        exact ⟨d, ⟨by rw [hg]; exact .inl ⟨b, hb, fun _ => h1, fun h => absurd hw h⟩, hc⟩, h2⟩
      · have hbw : b = !want := by cases b <;> cases want <;> simp_all
        rw [if_neg (by simpa using hw), ← hbw, St.know_self hb] at h
        exact ⟨.no, ⟨by rw [hg]; exact .inl ⟨b, hb, fun h => absurd h hw, fun _ => rfl⟩, hc⟩, h⟩
    · rename_i v hb
      exact ⟨.no, ⟨by rw [hg]; exact .inr ⟨⟨v, hb, h.1⟩, rfl⟩, hc⟩, h.2⟩
    · exact h.elim
theorem Stay.step {E : Prg} {F : FTab} {dr : Bool} {r : ROper} {ps : List Opd} {K : St → Prop} {st : St} {d : DV} (hq : r.op.quiet = true) (hz : r.fz = false) (hs : Stay E r ps d st) (h : K (st.put r.dst d)) : stepWp E F dr r K st := by
  have run : rval E st r.op = some (d, st.objs) → opWp E F dr r K st := fun hv => by
    rw [opWp_rval (quiet_notCall hq), hv, hz]
    simp only [bindO, St.fzd_false]
    exact h
  have h1 := hs.run
  unfold stepWp
  cases hg : r.guard with
  | none => rw [hg] at h1; exact run h1
  | some x =>
    obtain ⟨t, want⟩ := x
    rw [hg] at h1
    rcases h1 with ⟨b, hb, h2, h3⟩ | ⟨⟨v, hb, hv⟩, h3⟩
    · simp only [hb, bindG]
      unfold cnd
      by_cases hw : b = want
      · rw [if_pos (by simpa using hw), ← hw, St.know_self hb]; exact run (h2 hw)
      · have hbw : b = !want := by cases b <;> cases want <;> simp_all
        rw [if_neg (by simpa using hw), ← hbw, St.know_self hb, ← h3 hw]
        exact h
    · simp only [hb, bindG]
      exact ⟨hv, by rw [← h3]; exact h⟩
theorem Stay.keep {E : Prg} {r : ROper} {ps : List Opd} {st : St} {d : DV} (hq : r.op.quiet = true) (hs : Stay E r ps d st) {dst : Option Nat} {x : DV} {o : Objs} (hset : ∀ t, dst = some t → t ∉ r.looks) (hps : r.op.blind = true ∨ ∀ p ∈ ps, ∀ t, dst = some t → t ∉ p.tm)
    (ho : r.op.blind = false → ∀ y ∈ r.op.opds, ∀ k z, (y.ev E st).id = some k → st.objs[k]? = some z → o[k]? = some z) : Stay E r ps d (({ st with objs := o } : St).put dst x) := by
  have hev : EvEq E r.op st (({ st with objs := o } : St).put dst x) := fun y hy => by
    rw [ev_put, ev_objs]
    intro t ht hm
    exact hset t ht (by simp only [ROper.looks, ROp.tms, List.mem_append, List.mem_flatMap]; exact .inl ⟨y, hy, hm⟩)
  have hrun : rval E st r.op = some (d, st.objs) → rval E (({ st with objs := o } : St).put dst x) r.op = some (d, (({ st with objs := o } : St).put dst x).objs) := fun hv =>
    (rval_stay hq hev (fun hb y hy k z hk hz => by rw [St.objs_put]; exact ho hb y hy k z hk hz) hv).1
  refine ⟨?_, ?_⟩
  · have h1 := hs.run
    cases hg : r.guard with
    | none => rw [hg] at h1; exact hrun h1
    | some q =>
      obtain ⟨t, want⟩ := q
      rw [hg] at h1
      have hgt : (({ st with objs := o } : St).put dst x).get t = st.get t := get_put_ne (st := { st with objs := o }) (fun u hu e => hset u hu (by subst e; simp [ROper.looks, hg]))
      rcases h1 with ⟨b, hb, h2, h3⟩ | ⟨⟨v, hb, hv⟩, h3⟩
      · exact .inl ⟨b, hgt.trans hb, fun h => hrun (h2 h), h3⟩
      · exact .inr ⟨⟨v, hgt.trans hb, hv⟩, h3⟩
  · rcases hs.clr with hb | hc
    · exact .inl hb
    · rcases hps with hb | hps
      · exact .inl hb
      · refine .inr fun p hp => ?_
        intro y hy k hk
        rw [hev y hy] at hk
        rw [ev_put (fun t ht => hps p hp t ht), ev_objs]
        exact hc p hp y hy k hk
structure Rival (r : ROper) (ps : List Opd) (y : ROper) : Prop where
  apart : apartR r y = true
  fz : y.fz = false
  wr : r.op.blind = true ∨ (∀ p ∈ y.op.wr, p ∈ ps) ∧ ∀ p ∈ ps, listApart p.tm y.sets = true
theorem stepWp_put {E : Prg} {F : FTab} {dr : Bool} {r y : ROper} {ps : List Opd} {st : St} {d : DV} {K : St → Prop} (hdr : dr = false → r.op.blind = true) (hq : r.op.quiet = true) (hy : Rival r ps y) (hs : Stay E r ps d st) (h : stepWp E F dr y K (st.put r.dst d)) :
    stepWp E F dr y (fun st' => Stay E r ps d st' ∧ K (st'.put r.dst d)) st := by
  have ha := hy.apart
  simp only [apartR, Bool.and_eq_true] at ha
  obtain ⟨ha1, ha2⟩ := ha
  have hry : ∀ t, r.dst = some t → t ∉ y.looks ∧ ∀ u, y.dst = some u → t ≠ u := fun t ht => by
    have := listApart_spec ha1 (x := t) (by simp [ROper.sets, ht])
    simp only [List.mem_append, not_or] at this
    exact ⟨this.1, fun u hu e => this.2 (by subst e; simp [ROper.sets, hu])⟩
  have hyr : ∀ t, y.dst = some t → t ∉ r.looks := fun t ht => listApart_spec ha2 (x := t) (by simp [ROper.sets, ht])
  have hyp : r.op.blind = true ∨ ∀ p ∈ ps, ∀ t, y.dst = some t → t ∉ p.tm := hy.wr.imp id fun h p hp t ht hm => listApart_spec (h.2 p hp) hm (by simp [ROper.sets, ht])
  have hev : ∀ x ∈ y.op.opds, x.ev E (st.put r.dst d) = x.ev E st := fun x hx => ev_put fun t ht hm => (hry t ht).1 (by simp only [ROper.looks, ROp.tms, List.mem_append, List.mem_flatMap]; exact .inl ⟨x, hx, hm⟩)
  have hcomm : ∀ (st : St) (u : DV), (st.put r.dst d).put y.dst u = (st.put y.dst u).put r.dst d := fun st u => St.put_comm st _ _ _ _ fun t ht hu => (hry t ht).2 t hu rfl
  have anyT : dr = false → ∀ (K : St → Prop) (u : DV) (T' : Objs), K ((({ (st.put r.dst d) with objs := T' } : St).put y.dst u).fzd y.fz y.dst) →
      Stay E r ps d ((({ st with objs := T' } : St).put y.dst u).fzd y.fz y.dst) ∧ K (((({ st with objs := T' } : St).put y.dst u).fzd y.fz y.dst).put r.dst d) := fun hd K u T' h => by
    simp only [hy.fz, St.fzd_false, St.put_objs] at h ⊢
    rw [hcomm] at h
    exact ⟨hs.keep hq hyr hyp (fun hb => by rw [hdr hd] at hb; cases hb), h⟩
  have op : ∀ {K : St → Prop}, opWp E F dr y K (st.put r.dst d) → opWp E F dr y (fun st' => Stay E r ps d st' ∧ K (st'.put r.dst d)) st := by
    intro K h
    by_cases hc : ∃ f l, y.op = .call f l
    · obtain ⟨f, l, hop⟩ := hc
      unfold opWp at h ⊢
      rw [hop] at h ⊢
      simp only at h ⊢
      have hl : l.map (Opd.ev E (st.put r.dst d)) = l.map (Opd.ev E st) := List.map_congr_left fun x hx => hev x (by rw [hop]; exact hx)
      rw [hl, St.objs_put] at h
      unfold callV at h ⊢
      split at h
      · rename_i s hs'
        simp only [hy.fz, St.fzd_false, St.put_objs] at h ⊢
        rw [hcomm] at h
        exact ⟨h.1, hs.keep hq hyr hyp (fun hb x hx k z hk hz => by rw [List.getElem?_append_left (List.getElem?_eq_some_iff.1 hz).1]; exact hz), h.2⟩
      · rename_i s hs'
        cases dr with
        | true => exact h.elim
        | false => exact s.mono _ _ _ h fun u T' hh => anyT rfl K u T' hh
      · cases dr with
        | true => exact h.elim
        | false => exact CallK.mono h fun u T' hh => anyT rfl K u T' hh
    · by_cases hcd : ∃ q l, y.op = .calld q l
      · obtain ⟨q, l, hop⟩ := hcd
        unfold opWp at h ⊢
        rw [hop] at h ⊢
        cases dr with
        | true => exact (calldV_drawn h).elim
        | false =>
          simp only at h ⊢
          have hl : l.map (Opd.ev E (st.put r.dst d)) = l.map (Opd.ev E st) := List.map_congr_left fun x hx => hev x (by rw [hop]; exact List.mem_cons_of_mem _ hx)
          rw [hl, St.objs_put, hev q (by rw [hop]; exact List.mem_cons_self ..)] at h
          exact calldV_mono h fun u T' hh => anyT rfl K u T' hh
      by_cases hci : ∃ q nm l, y.op = .inv q nm l
      · obtain ⟨q, nm, l, hop⟩ := hci
        unfold opWp at h ⊢
        rw [hop] at h ⊢
        cases dr with
        | true => exact (invV_drawn h).elim
        | false =>
          simp only at h ⊢
          have hl : l.map (Opd.ev E (st.put r.dst d)) = l.map (Opd.ev E st) := List.map_congr_left fun x hx => hev x (by rw [hop]; exact List.mem_cons_of_mem _ hx)
          rw [hl, St.objs_put, hev q (by rw [hop]; exact List.mem_cons_self ..)] at h
          exact invV_mono h fun u T' hh => anyT rfl K u T' hh
      have hn : y.op.isCall = false := by
        cases hy2 : y.op <;> first | rfl | exact (hcd ⟨_, _, hy2⟩).elim | exact (hc ⟨_, _, hy2⟩).elim | exact (hcd ⟨_, _, rfl⟩).elim | exact (hc ⟨_, _, rfl⟩).elim | exact (hci ⟨_, _, _, hy2⟩).elim | exact (hci ⟨_, _, _, rfl⟩).elim
      rw [opWp_rval hn] at h ⊢
      cases hv : rval E (st.put r.dst d) y.op with
      | none => rw [hv] at h; exact h.elim
      | some p =>
        have hv2 := rval_env (st' := st) (fun x hx => (hev x hx).symm) (St.objs_put st r.dst d).symm hv
        rw [hv] at h
        rw [hv2]
        obtain ⟨u, o⟩ := p
        simp only [bindO, hy.fz, St.fzd_false, St.put_objs] at h ⊢
        rw [hcomm] at h
        refine ⟨hs.keep hq hyr hyp (fun hb x hx k z hk hz => rval_eff hv2 hz fun p hp e => ?_), h⟩
        rcases hy.wr with hb' | ⟨hw, _⟩
        · rw [hb] at hb'; cases hb'
        · rcases hs.clr with hb' | hclr
          · rw [hb] at hb'; cases hb'
          · exact hclr p (hw p hp) x hx k hk e
  unfold stepWp at h ⊢
  cases hg : y.guard with
  | none => rw [hg] at h; exact op h
  | some q =>
    obtain ⟨t, want⟩ := q
    rw [hg] at h
    simp only at h ⊢
    have hgt : (st.put r.dst d).get t = st.get t := get_put_ne fun u hu e => (hry u hu).1 (by subst e; simp [ROper.looks, hg])
    simp only [bindG] at h ⊢
    cases hb : st.get t <;> rw [hgt, hb] at h <;> first | exact h.elim | skip
    · rename_i b
      simp only at h ⊢
      unfold cnd at h ⊢
      by_cases hw : b = want
      · rw [if_pos (by simpa using hw), ← hw, St.know_self (by rw [hgt, hb])] at h
        rw [if_pos (by simpa using hw), ← hw, St.know_self hb]
        exact op h
      · have hbw : b = !want := by cases b <;> cases want <;> simp_all
        rw [if_neg (by simpa using hw), ← hbw, St.know_self (by rw [hgt, hb]), hcomm] at h
        rw [if_neg (by simpa using hw), ← hbw, St.know_self hb]
        exact ⟨hs.keep hq hyr hyp (o := st.objs) (fun hb x hx k z hk hz => hz), h⟩
    · simp only at h ⊢
      rw [hcomm] at h
      exact ⟨h.1, hs.keep hq hyr hyp (o := st.objs) (fun hb x hx k z hk hz => hz), h.2⟩
def anyA (E : Prg) (F : FTab) (ops : Array Oper) (rl : List ROper) (en : List Nat) : Nat → Array Bool → (St → Prop) → St → Prop
  | 0, listed, K, st => Region.ready .any ops listed = [] ∧ K st
  | fuel + 1, listed, K, st => (Region.ready .any ops listed = [] → K st) ∧
    ∀ i ∈ Region.ready .any ops listed, ∀ r, rl[i]? = some r → stepWp E F (!en.contains i) r (anyA E F ops rl en fuel (listed.setIfInBounds i true) K) st
theorem anyA_sound {E : Prg} {F : FTab} (hF : FOk E F) {n : Nat} {fz : List Nat} {ops : Array Oper} {rl : List ROper} {en : List Nat} (hc : compOps E.P n fz ops ops.toList = some rl) {C : Ctx} (hn : C.n = n) {K : St → Prop} {Q : Exit → Act → World → Prop}
    (hQ : ∀ st' a' w', K st' → RelSt E C st' a' w' → Q .normal a' w') : ∀ (fuel : Nat) (listed : Array Bool) (st : St) (a : Act) (w : World), RelSt E C st a w → anyA E F ops rl en fuel listed K st → wpAny E.P .any ops Q fuel listed a w
  | 0, listed, st, a, w, hr, h => ⟨h.1, hQ _ _ _ h.2 hr⟩
  | fuel + 1, listed, st, a, w, hr, h => by
    refine ⟨fun h0 => hQ _ _ _ (h.1 h0) hr, fun i hi => ?_⟩
    obtain ⟨hun, o, ho, _⟩ := mem_ready.1 hi
    obtain ⟨hlen, hget⟩ := compOps_get hc
    have hlt : i < rl.length := by rw [hlen]; simpa using (Array.getElem?_eq_some_iff.1 ho).1
    have hr2 := List.getElem?_eq_getElem hlt
    have hco := hget i o _ (by rw [Array.getElem?_toList]; exact ho) hr2
    unfold wpOp
    rw [ho]
    exact stepWp_sound hF hco hn hr (h.2 i hi _ hr2) fun st' a' w' hk hr' => anyA_sound hF hc hn hQ fuel _ st' a' w' hr' hk
def Closed (ops : Array Oper) (listed : Array Bool) : Prop := ∀ j, listed.getD j false = true → ∀ k ∈ depsOf ops j, listed.getD k false = true
theorem mem_depsOf {ops : Array Oper} {j k : Nat} (h : k ∈ depsOf ops j) : ∃ o e, ops[j]? = some o ∧ e ∈ o.after ∧ Region.binds .any e = true ∧ e.on = k := by
  unfold depsOf at h
  split at h
  · rename_i o ho
    obtain ⟨e, he, hk⟩ := List.mem_map.1 h
    obtain ⟨h1, h2⟩ := List.mem_filter.1 he
    exact ⟨o, e, ho, by simpa using h1, h2, hk⟩
  · cases h
theorem getD_true {l : Array Bool} {k : Nat} (h : l.getD k true = false) : l.getD k false = false := by
  rcases Nat.lt_or_ge k l.size with h' | h'
  · simp [h'] at h ⊢; exact h
  · simp [Array.getElem?_eq_none h'] at h
theorem ready_deps {ops : Array Oper} {listed : Array Bool} {j : Nat} (h : j ∈ Region.ready .any ops listed) : ∀ k ∈ depsOf ops j, listed.getD k false = true := fun k hk => by
  obtain ⟨o, e, ho, he, hb, rfl⟩ := mem_depsOf hk
  obtain ⟨_, o', ho', hall⟩ := mem_ready.1 h
  obtain rfl := sj (ho.symm.trans ho')
  exact hall e he hb
theorem getD_set_or {l : Array Bool} {i k : Nat} : (l.setIfInBounds i true).getD k false = true ↔ l.getD k false = true ∨ (k = i ∧ i < l.size) := by
  rcases Nat.lt_or_ge k l.size with h' | h'
  · by_cases e : k = i
    · subst e; simp [h']
    · have e' : ¬ i = k := fun h => e h.symm
      simp [h', Array.getElem_setIfInBounds, e, e']
  · simp [h', Nat.not_lt.2 h']
    intro h; omega
theorem Closed.step {ops : Array Oper} {listed : Array Bool} {j : Nat} (hc : Closed ops listed) (h : j ∈ Region.ready .any ops listed) : Closed ops (listed.setIfInBounds j true) := fun i hi k hk => by
  rw [getD_set_or] at hi ⊢
  rcases hi with hi | ⟨rfl, _⟩
  · exact .inl (hc i hi k hk)
  · exact .inl (ready_deps h k hk)
theorem Closed.none (ops : Array Oper) (n : Nat) : Closed ops (Array.replicate n false) := fun j hj => by
  rcases Nat.lt_or_ge j n with h' | h'
  · simp [h'] at hj
  · simp [Nat.not_lt.2 h'] at hj
theorem testBit_maskOf {acc : List Nat} {i : Nat} : ∀ {l : List Nat} {m : Nat}, (maskOf acc l m).testBit i = true → m.testBit i = true ∨ ∃ k ∈ l, k = i ∨ (acc.getD k 0).testBit i = true
  | [], m, h => .inl h
  | k :: l, m, h => by
    rcases testBit_maskOf (l := l) h with h1 | ⟨k', h1, h2⟩
    · rw [Nat.testBit_or, Nat.testBit_or, Bool.or_eq_true, Bool.or_eq_true] at h1
      rcases h1 with (h1 | h1) | h1
      · exact .inl h1
      · refine .inr ⟨k, by simp, .inl ?_⟩
        rw [Nat.one_shiftLeft, Nat.testBit_two_pow] at h1
        simpa using h1
      · exact .inr ⟨k, by simp, .inr h1⟩
    · exact .inr ⟨k', List.mem_cons_of_mem _ h1, h2⟩
theorem ancs_len (ops : Array Oper) : ∀ n, (ancs ops n).length = n
  | 0 => rfl
  | n + 1 => by simp [ancs, ancs_len ops n]
theorem ancs_listed {ops : Array Oper} {listed : Array Bool} (hc : Closed ops listed) {i : Nat} : ∀ (n j : Nat), ((ancs ops n).getD j 0).testBit i = true → (∀ k ∈ depsOf ops j, listed.getD k false = true) → listed.getD i false = true
  | 0, j, h, _ => by simp [ancs] at h
  | n + 1, j, h, hd => by
    rw [ancs] at h
    rcases Nat.lt_or_ge j n with h1 | h1
    · rw [List.getD_eq_getElem?_getD, List.getElem?_append_left (by rw [ancs_len]; exact h1), ← List.getD_eq_getElem?_getD] at h
      exact ancs_listed hc n j h hd
    · rw [List.getD_eq_getElem?_getD, List.getElem?_append_right (by rw [ancs_len]; exact h1), ancs_len] at h
      rcases Nat.eq_or_lt_of_le h1 with h2 | h2
      · subst h2
        simp at h
        rcases testBit_maskOf h with h3 | ⟨k, h3, h4⟩
        · simp at h3
        · rcases h4 with rfl | h4
          · exact hd _ h3
          · exact ancs_listed hc n k h4 (hc k (hd k h3))
      · have : j - n ≠ 0 := by omega
        obtain ⟨m, hm⟩ := Nat.exists_eq_succ_of_ne_zero this
        rw [hm] at h
        simp at h
theorem mem_rivals {ops : Array Oper} {anc : List Nat} {rl : List ROper} {listed : Array Bool} {i j : Nat} {o : Oper} {y : ROper} (hj : ops[j]? = some o) (hy : rl[j]? = some y) (hne : j ≠ i) (hun : listed.getD j true = false)
    (hno : (anc.getD j 0).testBit i = false) : y ∈ rivals ops anc rl listed i := by
  unfold rivals
  refine List.mem_filterMap.2 ⟨j, List.mem_filter.2 ⟨List.mem_range.2 (Array.getElem?_eq_some_iff.1 hj).1, ?_⟩, hy⟩
  simp only [hun, hno, Bool.not_false, Bool.and_true, bne_iff_ne, ne_eq, hne, not_false_eq_true]
theorem midsOf_ok {ops : Array Oper} {anc : List Nat} {rl : List ROper} (e : Nat) (h : (midsOf ops anc rl).contains e = true) : midOk ops anc rl e = true := by
  have h1 := (List.mem_filter.1 (List.contains_iff_mem.1 h)).2
  rw [Bool.and_eq_true] at h1
  exact h1.2
theorem anyA_first {E : Prg} {F : FTab} {ops : Array Oper} {rl : List ROper} {en : List Nat} (hen : ∀ e, en.contains e = true → midOk ops (ancs ops ops.size) rl e = true) {i : Nat} {r : ROper} {ps : List Opd} {d : DV} {K : St → Prop} (hr : rl[i]? = some r) (hq : r.op.quiet = true) (hz : r.fz = false) (N : Nat) :
    ∀ (fuel : Nat) (listed : Array Bool) (st : St), Closed ops listed →
      (∀ j o y, ops[j]? = some o → rl[j]? = some y → j ≠ i → listed.getD j true = false → ((ancs ops N).getD j 0).testBit i = false → Rival r ps y) →
      i ∈ Region.ready .any ops listed → Stay E r ps d st →
      anyA E F ops rl en fuel (listed.setIfInBounds i true) K (st.put r.dst d) → anyA E F ops rl en (fuel + 1) listed K st := by
  intro fuel
  induction fuel with
  | zero =>
    intro listed st hcl _ hi hs H
    refine ⟨fun h => (by rw [h] at hi; cases hi), fun j hj y hy => ?_⟩
    by_cases hji : j = i
    · subst hji
      obtain rfl := sj (hr.symm.trans hy)
      exact hs.step hq hz H
    · have := ready_mono hj hji
      rw [H.1] at this
      cases this
  | succ fuel ih =>
    intro listed st hcl hfree hi hs H
    refine ⟨fun h => (by rw [h] at hi; cases hi), fun j hj y hy => ?_⟩
    by_cases hji : j = i
    · subst hji
      obtain rfl := sj (hr.symm.trans hy)
      exact hs.step hq hz H
    · have h1 := H.2 j (ready_mono hj hji) y hy
      obtain ⟨hjun, oj, hoj, hall⟩ := mem_ready.1 hj
      have hnot : ((ancs ops N).getD j 0).testBit i = false := by
        cases hb : ((ancs ops N).getD j 0).testBit i with
        | false => rfl
        | true =>
          have h1 := ancs_listed hcl N j hb (ready_deps hj)
          have h0 := (mem_ready.1 hi).1
          rw [getD_true h0] at h1
          cases h1
      have hdr : (!en.contains j) = false → r.op.blind = true := by
        intro he
        rw [Bool.not_eq_false'] at he
        obtain ⟨hiun, oi, hoi, _⟩ := mem_ready.1 hi
        have hm := hen j he
        unfold midOk at hm
        have := List.all_eq_true.1 hm i (List.mem_range.2 (Array.getElem?_eq_some_iff.1 hoi).1)
        simp only [Bool.or_eq_true, beq_iff_eq, Ne.symm hji, false_or, hr] at this
        rcases this with (h2 | h2) | h2
        · have h3 := ancs_listed hcl _ j h2 (ready_deps hj)
          rw [getD_true hiun] at h3
          cases h3
        · have h3 := ancs_listed hcl _ i h2 (ready_deps hi)
          rw [getD_true hjun] at h3
          cases h3
        · exact h2
      have h2 := stepWp_put hdr hq (hfree j oj y hoj hy hji hjun hnot) hs h1
      have hfree' : ∀ k o z, ops[k]? = some o → rl[k]? = some z → k ≠ i → (listed.setIfInBounds j true).getD k true = false →
          ((ancs ops N).getD k 0).testBit i = false → Rival r ps z := fun k o z hk hz hki hun hno => by
        refine hfree k o z hk hz hki ?_ hno
        by_cases hjk : j = k
        · subst hjk; exact hjun
        · rw [getD_set_ne true hjk] at hun; exact hun
      refine stepWp_mono h2 fun st' h3 => ih (listed.setIfInBounds j true) st' (hcl.step hj) hfree' (ready_mono hi (Ne.symm hji)) h3.1 ?_
      rw [Array.setIfInBounds_comm _ _ hji]
      exact h3.2
theorem takeable_spec {ops : Array Oper} {anc : List Nat} {rl : List ROper} {listed : Array Bool} {i : Nat} {r : ROper} {ps : List Opd} (h : takeable ops anc rl listed i = some (r, ps)) : rl[i]? = some r ∧ r.op.quiet = true ∧ r.fz = false ∧
    ∀ y ∈ rivals ops anc rl listed i, Rival r ps y := by
  unfold takeable at h
  split at h
  · rename_i r' hr'
    simp only at h
    split at h
    · rename_i hc
      simp only [Bool.and_eq_true, Bool.not_eq_true', List.all_eq_true] at hc
      obtain ⟨⟨h1, h2⟩, h3⟩ := hc
      split at h
      · rename_i hb
        obtain ⟨rfl, rfl⟩ := Prod.mk.inj (sj h)
        exact ⟨hr', h1, h2, fun y hy => ⟨(h3 y hy).1, (h3 y hy).2, .inl hb⟩⟩
      · split at h
        · rename_i hp
          obtain ⟨rfl, rfl⟩ := Prod.mk.inj (sj h)
          simp only [List.all_eq_true] at hp
          exact ⟨hr', h1, h2, fun y hy => ⟨(h3 y hy).1, (h3 y hy).2, .inr ⟨fun p hp' => List.mem_flatMap.2 ⟨y, hy, hp'⟩, fun p hp' => hp p hp' y hy⟩⟩⟩
        · cases h
    · cases h
  · cases h
theorem firstSome_spec {α β : Type} {f : α → Option β} : ∀ {l : List α} {x : α} {y : β}, firstSome f l = some (x, y) → x ∈ l ∧ f x = some y
  | [], x, y, h => by cases h
  | a :: l, x, y, h => by
    simp only [firstSome] at h
    split at h
    · rename_i z hz
      obtain ⟨rfl, rfl⟩ := Prod.mk.inj (sj h)
      exact ⟨by simp, hz⟩
    · obtain ⟨h1, h2⟩ := firstSome_spec h
      exact ⟨by simp [h1], h2⟩
theorem altAll_spec {E : Prg} {F : FTab} {g : Nat → Option OT} {K : St → Prop} {st : St} : ∀ {l : List Nat} {t : OT}, altAll g l = some t → t.wp E F K st → ∀ i ∈ l, ∃ t', g i = some t' ∧ t'.wp E F K st
  | [], t, h, _ => by cases h
  | [i], t, h, hw => by
    simp only [altAll] at h
    intro j hj
    simp at hj; subst hj
    exact ⟨t, h, hw⟩
  | i :: k :: l, t, h, hw => by
    simp only [altAll] at h
    split at h
    · rename_i a b ha hb
      obtain rfl := sj h
      intro j hj
      rcases List.mem_cons.1 hj with rfl | hj
      · exact ⟨a, ha, hw.1⟩
      · exact altAll_spec (l := k :: l) hb hw.2 j hj
    · cases h
theorem compD_sound {E : Prg} {F : FTab} {ops : Array Oper} {rl : List ROper} {en : List Nat} (hen : ∀ e, en.contains e = true → midOk ops (ancs ops ops.size) rl e = true) {K : St → Prop} : ∀ (fuel : Nat) (listed : Array Bool) (t : OT) (st : St), Closed ops listed → compD ops (ancs ops ops.size) rl en fuel listed = some t → t.wp E F K st → anyA E F ops rl en fuel listed K st
  | 0, listed, t, st, hcl, hc, h => by
    simp only [compD] at hc
    split at hc
    · rename_i h0
      obtain rfl := sj hc
      exact ⟨h0, h⟩
    · cases hc
  | fuel + 1, listed, t, st, hcl, hc, h => by
    simp only [compD] at hc
    split at hc
    · rename_i h0
      obtain rfl := sj hc
      exact ⟨fun _ => h, fun i hi => by rw [h0] at hi; cases hi⟩
    · rename_i hne
      split at hc
      · rename_i i r ps hfs
        obtain ⟨hi, htk⟩ := firstSome_spec hfs
        obtain ⟨hr, hq, hz, hrv⟩ := takeable_spec htk
        obtain ⟨t', ht', rfl⟩ := Option.map_eq_some_iff.1 hc
        obtain ⟨hclr, hst⟩ := h
        obtain ⟨d, hs, hk⟩ := Stay.of hq hz (.inr hclr) hst
        exact anyA_first hen hr hq hz ops.size fuel listed st hcl (fun j o y hj hy hne hun hno => hrv y (mem_rivals hj hy hne hun hno)) hi hs (compD_sound hen fuel _ t' _ (hcl.step hi) ht' hk)
      · refine ⟨fun h0 => (hne h0).elim, fun i hi r hr => ?_⟩
        obtain ⟨t', ht', hw⟩ := altAll_spec hc h i hi
        rw [hr] at ht'
        simp only at ht'
        split at ht'
        · rename_i he
          obtain ⟨t2, ht2, rfl⟩ := Option.map_eq_some_iff.1 ht'
          rw [he]
          exact stepWp_mono hw fun st' hh => compD_sound hen fuel _ t2 st' (hcl.step hi) ht2 hh
        · rename_i he
          obtain ⟨t2, ht2, rfl⟩ := Option.map_eq_some_iff.1 ht'
          rw [Bool.eq_false_iff.2 he]
          exact stepWp_mono hw fun st' hh => compD_sound hen fuel _ t2 st' (hcl.step hi) ht2 hh
theorem AWp.mono {E : Prg} {n : Nat} {c : Code} {Q Q' : Exit → St → Prop} {st : St} (h : AWp E n c Q st) (hQ : ∀ e st, Q e st → Q' e st) : AWp E n c Q' st :=
  fun C a w hn hr => Code.wp_mono (fun e a' w' ⟨st', h1, h2⟩ => ⟨st', hQ _ _ h1, h2⟩) (h C a w hn hr)
theorem RC.sound {E : Prg} {F : FTab} (hF : FOk E F) {n : Nat} : ∀ (c : Code) (ann : List Ann) (rc : RC) (Q : Exit → St → Prop) (st : St), comp E.P n ann c = some rc → rc.wp E F n Q st → AWp E n c Q st
  | .skip, ann, rc, Q, st, hc, h => by
    obtain rfl := sj hc
    exact fun C a w hn hr => wp_skip ⟨st, h, hr⟩
  | .region id ops draw, ann, rc, Q, st, hc, h => by
    simp only [comp] at hc
    cases hl : compOps E.P n (annOf ann id).fz ops ops.toList with
    | none => rw [hl] at hc; cases hc
    | some l =>
      rw [hl] at hc
      simp only at hc
      cases draw with
      | true =>
        simp only [if_true] at hc
        split at hc
        · rename_i hm
          obtain ⟨t, ht, rfl⟩ := Option.map_eq_some_iff.1 hc
          intro C a w hn hr
          refine wp_region_any hm (anyA_sound hF hl hn (K := fun st' => Q .normal (st'.cut (annOf ann id).lo (annOf ann id).keep)) (fun st' a' w' hk hr' => ⟨_, hk, hr'.cut _ _⟩) _ _ st a _ ?_ (compD_sound midsOf_ok _ _ t st (Closed.none _ _) ht h))
          obtain ⟨G, hG⟩ := hr
          exact ⟨G, hG.drew⟩
        · cases hc
      | false =>
        simp only [Bool.false_eq_true, if_false] at hc
        obtain rfl := sj hc
        intro C a w hn hr
        exact wp_region_list (opsWp_sound hF _ _ hl hn hr h fun st' a' w' hk hr' => ⟨_, hk, hr'.cut _ _⟩)
  | .seq x y, ann, rc, Q, st, hc, h => by
    simp only [comp] at hc
    cases hx : comp E.P n ann x with
    | none => rw [hx] at hc; cases hc
    | some x' =>
      cases hy : comp E.P n ann y with
      | none => rw [hx, hy] at hc; cases hc
      | some y' =>
        rw [hx, hy] at hc
        obtain rfl := sj hc
        intro C a w hn hr
        refine wp_seq (Code.wp_mono ?_ (RC.sound hF x ann x' _ st hx h C a w hn hr))
        rintro e a' w' ⟨st', h1, h2⟩
        cases e with
        | normal => exact RC.sound hF y ann y' Q st' hy h1 C a' w' hn h2
        | _ => exact ⟨st', h1, h2⟩
  | .cond c x y, ann, rc, Q, st, hc, h => by
    simp only [comp] at hc
    cases hcc : copd c with
    | none => rw [hcc] at hc; cases hc
    | some c' =>
      cases hx : comp E.P n ann x with
      | none => rw [hcc, hx] at hc; cases hc
      | some x' =>
        cases hy : comp E.P n ann y with
        | none => rw [hcc, hx, hy] at hc; cases hc
        | some y' =>
          rw [hcc, hx, hy] at hc
          obtain rfl := sj hc
          intro C a w hn hr
          simp only [RC.wp] at h
          split at h
          · rename_i b hb
            obtain ⟨G, hG⟩ := hr
            have r := hG.ev hcc
            rw [hb] at r
            generalize hu : a.eval c = u at r
            cases r
            unfold cnd at h
            cases b with
            | true => rw [if_pos rfl, St.knows_self hb] at h; exact wp_cond_true hu (RC.sound hF x ann x' Q st hx h C a w hn ⟨G, hG⟩)
            | false => rw [if_neg (by simp), St.knows_self hb] at h; exact wp_cond_false hu (RC.sound hF y ann y' Q st hy h C a w hn ⟨G, hG⟩)
          · exact h.elim
  | .block id b, ann, rc, Q, st, hc, h => by
    simp only [comp] at hc
    obtain ⟨b', hb, rfl⟩ := Option.map_eq_some_iff.1 hc
    intro C a w hn hr
    refine wp_block (Code.wp_mono ?_ (RC.sound hF b ann b' _ st hb h C a w hn hr))
    rintro e a' w' ⟨st', h1, h2⟩
    cases e with
    | exit id' =>
      simp only [inBlk] at h1
      simp only [Exit.inBlock]
      by_cases hid : id' = id
      · rw [if_pos hid] at h1 ⊢; exact ⟨st', h1, h2⟩
      · rw [if_neg hid] at h1 ⊢; exact ⟨st', h1, h2⟩
    | _ => exact ⟨st', h1, h2⟩
  | .loop b, ann, rc, Q, st, hc, h => by
    simp only [comp] at hc
    obtain ⟨b', hb, rfl⟩ := Option.map_eq_some_iff.1 hc
    exact h b ann hb
  | .exit id, ann, rc, Q, st, hc, h => by
    obtain rfl := sj hc
    exact fun C a w hn hr => wp_exit ⟨st, h, hr⟩
  | .ret, ann, rc, Q, st, hc, h => by
    obtain rfl := sj hc
    exact fun C a w hn hr => wp_ret ⟨st, h, hr⟩
  | .rangeFunc .., ann, rc, Q, st, hc, h => by cases hc
  | .scope .., ann, rc, Q, st, hc, h => by cases hc
  | .label .., ann, rc, Q, st, hc, h => by cases hc
  | .goto .., ann, rc, Q, st, hc, h => by cases hc
  | .refuse .., ann, rc, Q, st, hc, h => by cases hc
theorem RC.wp_mono {E : Prg} {F : FTab} {n : Nat} : ∀ (c : RC) {Q Q' : Exit → St → Prop} {st : St}, c.wp E F n Q st → (∀ e st, Q e st → Q' e st) → c.wp E F n Q' st
  | .skip, Q, Q', st, h, hq => hq _ _ h
  | .reg ops lo keep, Q, Q', st, h, hq => opsWp_mono ops h fun st hh => hq _ _ hh
  | .regD t lo keep, Q, Q', st, h, hq => OT.wp_mono t h fun st hh => hq _ _ hh
  | .seq a b, Q, Q', st, h, hq => RC.wp_mono a h fun e st hh => by
    cases e with
    | normal => exact RC.wp_mono b hh hq
    | _ => exact hq _ _ hh
  | .cond c a b, Q, Q', st, h, hq => by
    simp only [RC.wp] at h ⊢
    split at h
    · unfold cnd at h ⊢
      split at h
      · rename_i hb; rw [if_pos hb]; exact RC.wp_mono a h hq
      · rename_i hb; rw [if_neg hb]; exact RC.wp_mono b h hq
    · exact h.elim
  | .blk id b, Q, Q', st, h, hq => RC.wp_mono b h fun e st hh => by
    cases e with
    | exit id' =>
      simp only [inBlk] at hh ⊢
      split at hh
      · rename_i hb; rw [if_pos hb]; exact hq _ _ hh
      · rename_i hb; rw [if_neg hb]; exact hq _ _ hh
    | _ => exact hq _ _ hh
  | .loop b, Q, Q', st, h, hq => fun c ann hc => (h c ann hc).mono hq
  | .ext id, Q, Q', st, h, hq => hq _ _ h
  | .ret, Q, Q', st, h, hq => hq _ _ h
def envWk (e e' : List (Nat × DV)) : Prop := ∀ x, x ∈ e' → x.2 = .undef ∨ wkT (St.look x.1 e) x.2
def objsWk : Objs → Objs → Prop
  | [], [] => True
  | a :: l, b :: l' => (b = none ∨ a = b) ∧ objsWk l l'
  | _, _ => False
def St.wk (s s' : St) : Prop := envWk s.env s'.env ∧ objsWk s.objs s'.objs
theorem look_mem (t : Nat) : ∀ l : List (Nat × DV), St.look t l = .undef ∨ (t, St.look t l) ∈ l
  | [] => .inl rfl
  | (k, d) :: l => by
    simp only [St.look]
    by_cases h : k = t
    · subst h; simp
    · rw [if_neg h]
      rcases look_mem t l with h1 | h1
      · exact .inl h1
      · exact .inr (List.mem_cons_of_mem _ h1)
theorem objsWk_len : ∀ {a b : Objs}, objsWk a b → b.length = a.length ∧ ∀ (k : Nat) (ob : Ob), b[k]? = some (some ob) → a[k]? = some (some ob)
  | [], [], _ => ⟨rfl, fun _ _ h => h⟩
  | a :: l, b :: l', ⟨h1, h2⟩ => by
    obtain ⟨h3, h4⟩ := objsWk_len h2
    refine ⟨by simp [h3], fun k ob hk => ?_⟩
    rcases k with _ | k
    · simp at hk ⊢
      rcases h1 with h1 | h1
      · rw [h1] at hk; cases hk
      · rw [h1]; exact hk
    · simpa using h4 k ob (by simpa using hk)
  | [], _ :: _, h => h.elim
  | _ :: _, [], h => h.elim
theorem objsWk_refl : ∀ a : Objs, objsWk a a
  | [] => trivial
  | _ :: l => ⟨.inr rfl, objsWk_refl l⟩
theorem RelSt.wk {E : Prg} {C : Ctx} {st st' : St} {a : Act} {w : World} (h : RelSt E C st a w) (hw : st.wk st') : RelSt E C st' a w := by
  obtain ⟨G, h⟩ := h
  obtain ⟨h1, h2⟩ := hw
  obtain ⟨h3, h4⟩ := objsWk_len h2
  refine ⟨G, fun t => ?_, h.num, h.defs, h.heap.sub h3 h4,
   ⟨h.frm.os, h.frm.tape, h.frm.output, h.frm.size, h.frm.blk, h.frm.cell, h.frm.frz, fun k r q m hk => h.frm.mine k r q m (h4 k r hk), h.frm.rdn, h.frm.le, h.frm.mko⟩, h.glob⟩
  show Rel G (St.look t st'.env) _
  rcases look_mem t st'.env with h5 | h5
  · rw [h5]; exact .undef _
  · rcases h1 _ h5 with h6 | h6
    · simp only at h6; rw [h6]; exact .undef _
    · exact wkT_rel h6 (h.env t)
theorem exists_least (p : Nat → Prop) : ∀ n, p n → ∃ m, p m ∧ ∀ k, p k → m ≤ k := by
  intro n
  induction n using Nat.strongRecOn with
  | _ n ih =>
    intro hn
    by_cases h : ∃ k, k < n ∧ p k
    · obtain ⟨k, hk, hp⟩ := h
      exact ih k hk hp
    · exact ⟨n, hn, fun k hk => by
        rcases Nat.lt_or_ge k n with h1 | h1
        · exact absurd ⟨k, h1, hk⟩ h
        · exact h1⟩
theorem LoopWp.inv {E : Prg} {F : FTab} (hF : FOk E F) {n : Nat} {b : RC} {Q : Exit → St → Prop} {st : St} {σ : Type} (S : σ → St) (I : σ → Prop) (μ : σ → Nat) (s0 : σ) (h0 : I s0) (hw : st.wk (S s0))
    (round : ∀ s, I s → b.wp E F n (fun e st' => match e with
      | .normal => ∃ s', st'.wk (S s') ∧ I s' ∧ μ s' < μ s
      | e => Q e st') (S s)) : LoopWp E n b Q st := by
  intro c ann hc C a w hn hr
  let J : Act → World → Nat → Prop := fun a w m => ∃ s, I s ∧ RelSt E C (S s) a w ∧ μ s = m
  have hex : ∀ a w, (∃ m, J a w m) → ∃ m, J a w m ∧ ∀ k, J a w k → m ≤ k := fun a w ⟨m, hm⟩ => exists_least _ m hm
  open Classical in
  let f : Act → World → Nat := fun a w => if h : ∃ m, J a w m then Classical.choose (hex a w h) else 0
  have hf : ∀ a w, (∃ m, J a w m) → J a w (f a w) ∧ ∀ k, J a w k → f a w ≤ k := fun a w h => by
    simp only [f, dif_pos h]
    exact Classical.choose_spec (hex a w h)
  refine wp_loop (fun a w => ∃ m, J a w m) f ⟨μ s0, s0, h0, hr.wk hw, rfl⟩ (fun a w hJ => ?_)
  obtain ⟨⟨s, hI, hrs, hm⟩, hmin⟩ := hf a w hJ
  refine Code.wp_mono ?_ (RC.sound hF c ann b _ (S s) hc (round s hI) C a w hn hrs)
  rintro e a' w' ⟨st', h1, h2⟩
  cases e with
  | normal =>
    obtain ⟨s', hw', hI', hlt⟩ := h1
    have hJ' : J a' w' (μ s') := ⟨s', hI', h2.wk hw', rfl⟩
    refine ⟨⟨_, hJ'⟩, ?_⟩
    have := (hf a' w' ⟨_, hJ'⟩).2 _ hJ'
    omega
  | _ => exact ⟨st', h1, h2⟩
def initEnv : Nat → List DV → List (Nat × DV)
  | _, [] => []
  | k, d :: l => (k, d) :: initEnv (k + 1) l
theorem look_init (t : Nat) : ∀ (k : Nat) (l : List DV), St.look t (initEnv k l) = if k ≤ t then (l[t - k]?).getD .undef else .undef
  | k, [] => by simp [initEnv, St.look]
  | k, d :: l => by
    simp only [initEnv, St.look, look_init t (k + 1) l]
    by_cases h : k = t
    · subst h; simp
    · rw [if_neg h]
      by_cases h2 : k ≤ t
      · rw [if_pos h2, if_pos (by omega), show t - k = (t - (k + 1)) + 1 by omega, List.getElem?_cons_succ]
      · rw [if_neg h2, if_neg (by omega)]
def finQ (rs : List Res) (R : DV → Objs → Prop) : Exit → St → Prop
  | .normal, st => match resOf st rs with
    | some d => R d st.objs
    | none => False
  | .ret, st => match resOf st rs with
    | some d => R d st.objs
    | none => False
  | _, _ => False
def cRes (P : Program) : List ResultVar → Option (List Res)
  | [] => some []
  | .tmp t :: l => (cRes P l).map (.t t :: ·)
  | .cell t ty :: l => match tyAgg P ty, tySize P ty, cRes P l with
    | some ag, some sz, some l' => some (.c t ag sz :: l')
    | _, _, _ => none
theorem cRes_ok {P : Program} : ∀ {l : List ResultVar} {l' : List Res}, cRes P l = some l' → resOk P l l'
  | [], l', h => by obtain rfl := sj h; trivial
  | .tmp t :: l, l', h => by
    obtain ⟨l2, h2, rfl⟩ := Option.map_eq_some_iff.1 h
    exact ⟨rfl, cRes_ok h2⟩
  | .cell t ty :: l, l', h => by
    simp only [cRes] at h
    split at h
    · rename_i ag sz l2 h1 h2 h3
      obtain rfl := sj h
      exact ⟨rfl, h1, h2, cRes_ok h3⟩
    · cases h
structure RFn where
  np : Nat
  n : Nat
  code : RC
  res : List Res
def compFn (P : Program) (ann : List Ann) (f : FuncId) : Option RFn :=
  match P.funcs[f]? with
  | some fn => (match fn.body with
    | some c => (match comp P fn.ntmps ann c, cRes P fn.results.toList with
      | some rc, some rs => some ⟨fn.params.size, fn.ntmps, rc, rs⟩
      | _, _ => none)
    | none => none)
  | none => none
theorem Frm.start {E : Prg} {G : Gh} {T : Objs} {w : World} (hh : Heap G T w) (n : Nat) : Frm ⟨w, G, cellsOf G T, n⟩ G T w :=
  ⟨rfl, rfl, rfl, Nat.le_refl _, fun _ _ _ => rfl, fun _ _ _ => rfl, fun _ _ _ _ => rfl, fun k ob p m h1 h2 h3 => .inr ⟨k, ob, p, m, h1, h2, h3, rfl⟩, fun _ _ h => .inl h, .refl _, fun _ _ h => h⟩
theorem Frm.ctx {w0 : World} {G0 : Gh} {W : Addr → Prop} {n m : Nat} {G : Gh} {T : Objs} {w : World} (h : Frm ⟨w0, G0, W, n⟩ G T w) : Frm ⟨w0, G0, W, m⟩ G T w :=
  ⟨h.os, h.tape, h.output, h.size, h.blk, h.cell, h.frz, h.mine, h.rdn, h.le, h.mko⟩
theorem GCalls.of_fn {E : Prg} {F : FTab} (hF : FOk E F) {f : Nat} {ann : List Ann} {rf : RFn} {args : List DV} {T : Objs} {R : DV → Objs → Prop} (hc : compFn E.P ann f = some rf) (hargs : args.length ≤ rf.n)
    (h : rf.code.wp E F rf.n (finQ rf.res fun d T' => T.length ≤ T'.length ∧ R d T') ⟨initEnv 0 args, T⟩) : GCalls E f args T R := by
  unfold compFn at hc
  cases hf : E.P.funcs[f]? with
  | none => rw [hf] at hc; cases hc
  | some fn =>
    rw [hf] at hc
    simp only at hc
    cases hb : fn.body with
    | none => rw [hb] at hc; cases hc
    | some c =>
      rw [hb] at hc
      simp only at hc
      cases h1 : comp E.P fn.ntmps ann c with
      | none => rw [h1] at hc; cases hc
      | some rc =>
        cases h2 : cRes E.P fn.results.toList with
        | none => rw [h1, h2] at hc; cases hc
        | some rs =>
          rw [h1, h2] at hc
          obtain rfl := sj hc
          intro G w vs hglob hh hvs hrel
          refine calls_of_wp hf hb ?_
          have hsize : (vs ++ Array.replicate (fn.ntmps - vs.size) undef).size = fn.ntmps := by simp; simp at hargs; omega
          have hr : RelSt E ⟨w, G, cellsOf G T, fn.ntmps⟩ ⟨initEnv 0 args, T⟩ { tmps := vs ++ Array.replicate (fn.ntmps - vs.size) undef, defers := [] } w := by
            refine ⟨G, ⟨fun t => ?_, hsize, rfl, hh, Frm.start (E := E) hh _, hglob⟩⟩
            show Rel G (St.look t (initEnv 0 args)) _
            rw [look_init]
            simp only [Nat.zero_le, if_true, Nat.sub_zero]
            cases ht : args[t]? with
            | none => exact .undef _
            | some d =>
              have hlt : t < vs.size := by rw [hvs]; exact (List.getElem?_eq_some_iff.1 ht).1
              have := hrel t d ht
              rw [Array.getD_eq_getD_getElem?] at this ⊢
              rw [Array.getElem?_append_left hlt]
              exact this
          refine Code.wp_mono ?_ (RC.sound hF c ann rc _ _ h1 h ⟨w, G, cellsOf G T, fn.ntmps⟩ _ w rfl hr)
          rintro e a' w' ⟨st', h3, G', hG'⟩
          have fin : (match resOf st' rs with
              | some d => T.length ≤ st'.objs.length ∧ R d st'.objs
              | none => False) → a'.defers = [] ∧ ∃ v, (results fn a'.tmps).run E.P w' = .ok v w' ∧ (∃ v' r T' G'', Ending.returned v = .returned v' ∧ R r T' ∧ T.length ≤ T'.length ∧ Rel G'' r v' ∧ Heap G'' T' w' ∧ Frm ⟨w, G, cellsOf G T, 0⟩ G'' T' w') := by
            intro h3
            cases hres : resOf st' rs with
            | none => rw [hres] at h3; exact h3.elim
            | some d =>
              rw [hres] at h3
              obtain ⟨v, hv1, hv2⟩ := resOf_run hG' (cRes_ok h2) hres
              exact ⟨hG'.defs, v, hv1, v, d, st'.objs, G', rfl, h3.2, h3.1, hv2, hG'.heap, hG'.frm.ctx⟩
          cases e with
          | normal => exact fin h3
          | ret => exact fin h3
          | _ => exact h3.elim
theorem CallK.of_fn {E : Prg} {F : FTab} (hF : FOk E F) {f : Nat} {ann : List Ann} {rf : RFn} {args : List DV} {T : Objs} {K : DV → Objs → Prop} (hc : compFn E.P ann f = some rf) (hargs : args.length ≤ rf.n)
    (h : rf.code.wp E F rf.n (finQ rf.res fun d T' => T.length ≤ T'.length ∧ K d T') ⟨initEnv 0 args, T⟩) : CallK E f args T K := CallK.all (GCalls.of_fn hF hc hargs h)
theorem finQ_mono {rs : List Res} {R R' : DV → Objs → Prop} (h : ∀ d T, R d T → R' d T) (e : Exit) (st : St) (hq : finQ rs R e st) : finQ rs R' e st := by
  have key : ∀ st : St, (match resOf st rs with
      | some d => R d st.objs
      | none => False) → (match resOf st rs with
      | some d => R' d st.objs
      | none => False) := fun st hh => by
    cases hres : resOf st rs with
    | none => rw [hres] at hh; exact hh
    | some d => rw [hres] at hh; exact h _ _ hh
  cases e with
  | normal => exact key st hq
  | ret => exact key st hq
  | _ => exact hq
def RFn.spec (E : Prg) (F : FTab) (rf : RFn) (args : List DV) : PSpec :=
  ⟨fun T K => rf.code.wp E F rf.n (finQ rf.res fun d T' => T.length ≤ T'.length ∧ K d T') ⟨initEnv 0 args, T⟩, fun T K K' h hk => RC.wp_mono _ h fun e st hq => finQ_mono (fun d T' hh => ⟨hh.1, hk _ _ hh.2⟩) e st hq⟩
theorem PCalls.of_fn {E : Prg} {F : FTab} (hF : FOk E F) {f : Nat} {ann : List Ann} {rf : RFn} {args : List DV} {R : Nat → DV → Objs → Prop} (hc : compFn E.P ann f = some rf) (hargs : args.length ≤ rf.n)
    (h : ∀ n, rf.code.wp E F rf.n (finQ rf.res fun d T' => ∃ os, T' = List.replicate n none ++ os ∧ R n d os) ⟨initEnv 0 args, List.replicate n none⟩) : PCalls E f args R := by
  intro n
  refine GCalls.of_fn hF hc hargs (RC.wp_mono _ (h n) fun e st hh => ?_)
  have key : ∀ st : St, (match resOf st rf.res with
      | some d => ∃ os, st.objs = List.replicate n none ++ os ∧ R n d os
      | none => False) → (match resOf st rf.res with
      | some d => (List.replicate n (none : Option Ob)).length ≤ st.objs.length ∧ ∃ os, st.objs = List.replicate n none ++ os ∧ R n d os
      | none => False) := fun st hh => by
    cases hres : resOf st rf.res with
    | none => rw [hres] at hh; exact hh
    | some d =>
      rw [hres] at hh
      obtain ⟨os, ho, hR⟩ := hh
      exact ⟨by rw [ho]; simp, os, ho, hR⟩
  cases e with
  | normal => exact key st hh
  | ret => exact key st hh
  | _ => exact hh
theorem PCalls.mono {E : Prg} {f : Nat} {args : List DV} {R R' : Nat → DV → Objs → Prop} (h : PCalls E f args R) (hR : ∀ n r os, R n r os → R' n r os) : PCalls E f args R' :=
  fun n => (h n).mono fun r T' ⟨os, h1, h2⟩ => ⟨os, h1, hR _ _ _ h2⟩
inductive Ent where
  | o (g : List DV → Option FSpec)
  | h (g : List DV → Option HSpec)
  | p (g : List DV → Option PSpec)
def Ent.app : Ent → List DV → Option FS
  | .o g, a => (g a).map .o
  | .h g, a => (g a).map .h
  | .p g, a => (g a).map .p
instance : Coe (List DV → Option FSpec) Ent := ⟨.o⟩
instance : Coe (List DV → Option HSpec) Ent := ⟨.h⟩
instance : Coe (List DV → Option PSpec) Ent := ⟨.p⟩
abbrev FL := List (Nat × Ent)
def tab (l : FL) : FTab := fun f args => match l.lookup f with
  | some g => g.app args
  | none => none
theorem FOk.nil {E : Prg} : FOk E (tab []) := ⟨fun f args s h => (by cases h), fun f args s h => (by cases h)⟩
theorem tab_eq (f : Nat) (g : Ent) (l : FL) (k : Nat) (args : List DV) : tab ((f, g) :: l) k args = if k = f then g.app args else tab l k args := by
  unfold tab
  simp only [List.lookup]
  by_cases e : k = f
  · subst e; simp
  · rw [beq_false_of_ne e, if_neg e]
theorem FOk.cons {E : Prg} {f : Nat} {g : List DV → Option FSpec} {l : FL} (hl : FOk E (tab l)) (h : ∀ args s, g args = some s → s.pre → PCalls E f args fun n r os => r = (s.res n).1 ∧ os = (s.res n).2) : FOk E (tab ((f, .o g) :: l)) := by
  refine ⟨fun k args s hs hp => ?_, fun k args s hs => ?_⟩
  · rw [tab_eq] at hs
    split at hs
    · rename_i e
      subst e
      simp only [Ent.app, Option.map_eq_some_iff] at hs
      obtain ⟨s', h1, h2⟩ := hs
      obtain rfl := FS.o.inj h2
      exact h args s' h1 hp
    · exact hl.1 k args s hs hp
  · rw [tab_eq] at hs
    split at hs
    · simp only [Ent.app, Option.map_eq_some_iff] at hs
      obtain ⟨s', _, h2⟩ := hs
      cases h2
    · exact hl.2 k args s hs
theorem FSpec.of_fn {E : Prg} {F : FTab} (hF : FOk E F) {f : Nat} {ann : List Ann} {rf : RFn} {args : List DV} {s : FSpec} (hc : compFn E.P ann f = some rf) (hargs : args.length ≤ rf.n)
    (h : ∀ n, rf.code.wp E F rf.n (finQ rf.res fun d T' => d = (s.res n).1 ∧ T' = List.replicate n none ++ (s.res n).2) ⟨initEnv 0 args, List.replicate n none⟩) : PCalls E f args fun n r os => r = (s.res n).1 ∧ os = (s.res n).2 :=
  PCalls.of_fn hF hc hargs fun n => RC.wp_mono _ (h n) fun e st hh => by
    have key : ∀ st : St, (match resOf st rf.res with
        | some d => d = (s.res n).1 ∧ st.objs = List.replicate n none ++ (s.res n).2
        | none => False) → (match resOf st rf.res with
        | some d => ∃ os, st.objs = List.replicate n none ++ os ∧ d = (s.res n).1 ∧ os = (s.res n).2
        | none => False) := fun st hh => by
      cases hres : resOf st rf.res with
      | none => rw [hres] at hh; exact hh
      | some d => rw [hres] at hh; exact ⟨_, hh.2, hh.1, rfl⟩
    cases e with
    | normal => exact key st hh
    | ret => exact key st hh
    | _ => exact hh
section
@[congr] theorem opsWp_congr {E : Prg} {F : FTab} {l : List ROper} {K : St → Prop} {st : St} {st' : Unit → St} (h : ∀ u, st = st' u) : opsWp E F l K st = opsWp E F l K (st' ()) := by rw [← h ()]
@[congr] theorem OT.wp_congr {E : Prg} {F : FTab} {t : OT} {K : St → Prop} {st : St} {st' : Unit → St} (h : ∀ u, st = st' u) : t.wp E F K st = t.wp E F K (st' ()) := by rw [← h ()]
@[congr] theorem RC.wp_congr {E : Prg} {F : FTab} {n : Nat} {c : RC} {Q : Exit → St → Prop} {st : St} {st' : Unit → St} (h : ∀ u, st = st' u) : c.wp E F n Q st = c.wp E F n Q (st' ()) := by rw [← h ()]
theorem nrfl {α : Sort _} (a : α) : a = a := of_eq_true (eq_self a)
def bindB (d : DV) (f : Bool → Prop) [Tg f] (_ : True := trivial) : Prop :=
  match (generalizing := false) d with
  | .bool b => f b
  | _ => False
theorem bindB_bool (b : Bool) (f : Bool → Prop) : bindB (.bool b) f = f b := nrfl _
theorem bindG_bool (b : Bool) (f : Bool → Prop) (g : Prop) : bindG (.bool b) f g = f b := nrfl _
theorem bindG_no (f : Bool → Prop) (g : Prop) : bindG .no f g = g := by simp [bindG, DV.no, boolV, Go.undef]
def nx (st : St) (p : DV × Objs) (z : Bool) (dst : Option Nat) : St := (({ st with objs := p.2 } : St).put dst p.1).fzd z dst
theorem nx_f (env : List (Nat × DV)) (objs : Objs) (d : DV) (o : Objs) (t : Nat) : nx ⟨env, objs⟩ (d, o) false (some t) = ⟨St.ins t d env, o⟩ := nrfl _
theorem nx_n (env : List (Nat × DV)) (objs : Objs) (d : DV) (o : Objs) (z : Bool) : nx ⟨env, objs⟩ (d, o) z none = ⟨env, o⟩ := by cases z <;> rfl
theorem nx_t (env : List (Nat × DV)) (objs : Objs) (d : DV) (o : Objs) (t : Nat) : nx ⟨env, objs⟩ (d, o) true (some t) = St.freezes (ownIds (St.look t (St.ins t d env))) ⟨St.ins t d env, o⟩ := nrfl _
def goSt (st : St) (k : St → Prop) [Tg k] (_ : True := trivial) : Prop := k st
theorem goSt_eq (st : St) (k : St → Prop) : goSt st k = k st := nrfl _
section
variable (E : Prg) (F : FTab) (n : Nat) (K : St → Prop) (Q : Exit → St → Prop) (st : St) (l : List ROper) (dst : Option Nat) (op : ROp) (z : Bool) (f : Nat) (args : List Opd) (t : Nat) (w : Bool)
def stV (E : Prg) (F : FTab) (dr : Bool) (op : ROp) (dst : Option Nat) (z : Bool) (st : St) (k : St → Prop) [Tg k] [Tg op] (_ : True := trivial) : Prop := opWp E F dr ⟨dst, op, none, z⟩ k st
theorem stV_op (dr : Bool) (h : op.isCall = false) : stV E F dr op dst z st K = bindO (rvl E st op) fun p => goSt (nx st p z dst) K := by
  unfold stV opWp
  cases op <;> first | rfl | cases h
theorem stV_call (dr : Bool) : stV E F dr (.call f args) dst z st K = callV E (F f (args.map (Opd.ev E st))) dr f (args.map (Opd.ev E st)) st.objs fun d T' => goSt (nx st (d, T') z dst) K := nrfl _
theorem opsWp_nil : opsWp E F [] K st = K st := nrfl _
theorem opsWp_cons : opsWp E F (⟨dst, op, none, z⟩ :: l) K st = stV E F false op dst z st (opsWp E F l K) := nrfl _
theorem opsWp_guard : opsWp E F (⟨dst, op, some (t, w), z⟩ :: l) K st = bindG (st.get t) (fun b => cnd (b == w) (goSt (st.know t w) fun st => stV E F false op dst z st (opsWp E F l K)) (goSt ((st.know t (!w)).put dst .no) (opsWp E F l K))) (goSt (st.put dst .no) (opsWp E F l K)) := nrfl _
theorem ot_done : OT.done.wp E F K st = K st := nrfl _
theorem ot_alt (a b : OT) : (OT.alt a b).wp E F K st = (a.wp E F K st ∧ b.wp E F K st) := nrfl _
theorem ot_op (k : OT) : (OT.op ⟨dst, op, none, z⟩ k).wp E F K st = stV E F true op dst z st (k.wp E F K) := nrfl _
theorem ot_guard (k : OT) : (OT.op ⟨dst, op, some (t, w), z⟩ k).wp E F K st = bindG (st.get t) (fun b => cnd (b == w) (goSt (st.know t w) fun st => stV E F true op dst z st (k.wp E F K)) (goSt ((st.know t (!w)).put dst .no) (k.wp E F K))) (goSt (st.put dst .no) (k.wp E F K)) := nrfl _
theorem ot_take (p : Opd) (ps : List Opd) (o : ROper) (k : OT) : (OT.take o (p :: ps) k).wp E F K st = (clearOf E st o.op p ∧ (OT.take o ps k).wp E F K st) := by
  simp only [OT.wp, List.forall_mem_cons, and_assoc]
theorem ot_take0 (o : ROper) (k : OT) : (OT.take o [] k).wp E F K st = (OT.op o k).wp E F K st := by simp [OT.wp]
theorem rc_skip : RC.skip.wp E F n Q st = Q .normal st := nrfl _
theorem rc_reg (lo : Nat) (keep : List Nat) : (RC.reg l lo keep).wp E F n Q st = opsWp E F l (fun st' => goSt (st'.cut lo keep) (Q .normal)) st := nrfl _
theorem rc_regD (x : OT) (lo : Nat) (keep : List Nat) : (RC.regD x lo keep).wp E F n Q st = x.wp E F (fun st' => goSt (st'.cut lo keep) (Q .normal)) st := nrfl _
theorem rc_seq (a b : RC) : (RC.seq a b).wp E F n Q st = a.wp E F n (thenQ (b.wp E F n Q) Q) st := nrfl _
theorem rc_cond (c : Opd) (a b : RC) : (RC.cond c a b).wp E F n Q st = bindB (c.ev E st) fun v => cnd v (goSt (st.knows c true) (a.wp E F n Q)) (goSt (st.knows c false) (b.wp E F n Q)) := by
  simp only [RC.wp]
  cases c.ev E st <;> rfl
theorem rc_blk (id : Nat) (b : RC) : (RC.blk id b).wp E F n Q st = b.wp E F n (inBlk id Q) st := nrfl _
theorem rc_loop (b : RC) : (RC.loop b).wp E F n Q st = LoopWp E n b Q st := nrfl _
theorem rc_ext (id : Nat) : (RC.ext id).wp E F n Q st = Q (.exit id) st := nrfl _
theorem rc_ret : RC.ret.wp E F n Q st = Q .ret st := nrfl _
theorem thenQ_n : thenQ K Q .normal st = K st := nrfl _
theorem thenQ_r : thenQ K Q .ret st = Q .ret st := nrfl _
theorem thenQ_e (i : Nat) : thenQ K Q (.exit i) st = Q (.exit i) st := nrfl _
theorem inBlk_n (i : Nat) : inBlk i Q .normal st = Q .normal st := nrfl _
theorem inBlk_r (i : Nat) : inBlk i Q .ret st = Q .ret st := nrfl _
theorem inBlk_e (i j : Nat) : inBlk i Q (.exit j) st = if j = i then Q .normal st else Q (.exit j) st := nrfl _
theorem finQ_n (rs : List Res) (R : DV → Objs → Prop) : finQ rs R .normal st = bindO (resOf st rs) fun d => R d st.objs := by
  simp only [finQ]
  cases resOf st rs <;> rfl
theorem finQ_r (rs : List Res) (R : DV → Objs → Prop) : finQ rs R .ret st = bindO (resOf st rs) fun d => R d st.objs := by
  simp only [finQ]
  cases resOf st rs <;> rfl
@[congr] theorem finQ_congr {rs : List Res} {R : DV → Objs → Prop} {e : Exit} {st : St} {st' : Unit → St} (h : ∀ u, st = st' u) : finQ rs R e st = finQ rs R e (st' ()) := by rw [← h ()]
theorem resOf_1 (r : Res) : resOf st [r] = r.ev st := by
  unfold resOf
  simp only [ress]
  cases r.ev st <;> rfl
theorem resOf_2 (r s : Res) : resOf st [r, s] = (r.ev st).bind fun a => (s.ev st).map fun b => .tup [a, b] := by
  unfold resOf
  simp only [ress]
  cases r.ev st <;> cases s.ev st <;> rfl
theorem resOf_3 (r s q : Res) : resOf st [r, s, q] = (r.ev st).bind fun a => (s.ev st).bind fun b => (q.ev st).map fun c => .tup [a, b, c] := by
  unfold resOf
  simp only [ress]
  cases r.ev st <;> cases s.ev st <;> cases q.ev st <;> rfl
theorem resT (i : Nat) : Res.ev st (.t i) = some (st.get i) := nrfl _
theorem resC (i : Nat) (ag : Bool) (sz : Nat) : Res.ev st (.c i ag sz) = (rvl E st (.load ag sz (.t i))).map (·.1) := by
  simp only [Res.ev, rvl, Opd.ev]
  cases st.get i <;> try rfl
  · dsimp only
    rename_i o r j
    generalize st.objs[o]? = x
    rcases x with _ | _ | ob <;> try rfl
    simp only [Option.bind]
    generalize ob.rows[r]? = y
    cases y with
    | none => rfl
    | some row => simp only; cases rowAt ag sz row j <;> rfl
  · dsimp only
    rename_i row j
    cases rowAt ag sz row j <;> rfl
theorem callV_h (x : HSpec) (l : List DV) (T : Objs) (k : DV → Objs → Prop) : callV E (some (.h x)) false f l T k = (x.pre T ∧ k (x.res T).1 (x.res T).2) := by simp [callV, FS.h, HSpec.toP]
theorem callV_p (x : PSpec) (l : List DV) (T : Objs) (k : DV → Objs → Prop) : callV E (some (.p x)) false f l T k = x.wp T k := by simp [callV]
theorem app_p (g : List DV → Option PSpec) (a : List DV) : Ent.app (.p g) a = (g a).map .p := nrfl _
theorem spec_wp (rf : RFn) (args : List DV) (T : Objs) (K : DV → Objs → Prop) : (rf.spec E F args).wp T K = rf.code.wp E F rf.n (finQ rf.res fun d T' => T.length ≤ T'.length ∧ K d T') ⟨initEnv 0 args, T⟩ := nrfl _
theorem app_o (g : List DV → Option FSpec) (a : List DV) : Ent.app (.o g) a = (g a).map .o := nrfl _
theorem app_h (g : List DV → Option HSpec) (a : List DV) : Ent.app (.h g) a = (g a).map .h := nrfl _
theorem callV_some (x : FSpec) (dr : Bool) (l : List DV) (T : Objs) (k : DV → Objs → Prop) : callV E (some (.o x)) dr f l T k = (x.pre ∧ k (x.res T.length).1 (T ++ (x.res T.length).2)) := nrfl _
theorem ev_t (i : Nat) : Opd.ev E st (.t i) = st.get i := nrfl _
theorem ev_c (d : DV) : Opd.ev E st (.c d) = d := nrfl _
theorem get_mk (env : List (Nat × DV)) (objs : Objs) (i : Nat) : St.get ⟨env, objs⟩ i = St.look i env := nrfl _
theorem put_some (env : List (Nat × DV)) (objs : Objs) (i : Nat) (d : DV) : St.put ⟨env, objs⟩ (some i) d = ⟨St.ins i d env, objs⟩ := nrfl _
theorem put_none (d : DV) : St.put st none d = st := nrfl _
theorem know_mk (env : List (Nat × DV)) (objs : Objs) (i : Nat) (b : Bool) : St.know i b ⟨env, objs⟩ = ⟨St.rep i (.bool b) env, objs⟩ := nrfl _
theorem knows_t (i : Nat) (b : Bool) : st.knows (.t i) b = st.know i b := nrfl _
theorem knows_c (d : DV) (b : Bool) : st.knows (.c d) b = st := nrfl _
def memN (k : Nat) : List Nat → Bool
  | [] => false
  | a :: l => if a = k then true else memN k l
theorem memN_eq (k : Nat) : ∀ l : List Nat, memN k l = l.contains k
  | [] => rfl
  | a :: l => by
    simp only [memN, memN_eq k l, List.contains_cons]
    by_cases h : a = k
    · simp [h]
    · rw [if_neg h, beq_false_of_ne (fun e => h e.symm), Bool.false_or]
def cutE (keep : List Nat) : List (Nat × DV) → List (Nat × DV)
  | [] => []
  | (k, d) :: l => if memN k keep = true then (k, d) :: cutE keep l else cutE keep l
theorem cut_mk (keep : List Nat) (env : List (Nat × DV)) (objs : Objs) : St.cut 0 keep ⟨env, objs⟩ = ⟨cutE keep env, objs⟩ := by
  unfold St.cut
  congr 1
  induction env with
  | nil => rfl
  | cons x l ih =>
    obtain ⟨k, d⟩ := x
    simp only [List.filter_cons, cutE, memN_eq, Nat.not_lt_zero, decide_false, Bool.false_or] at ih ⊢
    rw [ih]
theorem rvl_mov (x : Opd) : rvl E st (.mov x) = some (x.ev E st, st.objs) := nrfl _
theorem rvl_pick (c a b : Opd) : rvl E st (.pick c a b) = match c.ev E st with
    | .bool t => some (if t then a.ev E st else b.ev E st, st.objs)
    | _ => none := nrfl _
theorem rvl_box (sz : Nat) (x : Opd) : rvl E st (.box sz x) = (x.ev E st).cells.bind fun cs => if cs.length = sz ∧ cs.all DV.one = true then some (.ptr st.objs.length 0 0, st.objs ++ [some (.box cs)]) else none := by
  simp only [rvl, rval]
  cases (x.ev E st).cells <;> rfl
theorem rvl_alloc (zero : List DV) : rvl E st (.alloc zero) = some (.ptr st.objs.length 0 0, st.objs ++ [some (.box zero)]) := nrfl _
def buildV (E : Prg) (st : St) : List (Nat × Nat × Opd) → List DV → Option (List DV)
  | [], cs => some cs
  | x :: l, cs => (x.2.2.ev E st).cells.bind fun new => if new.length = x.2.1 ∧ x.1 + new.length ≤ cs.length then buildV E st l (rowSet cs x.1 new) else none
theorem rvl_build (zero : List DV) (parts : List (Nat × Nat × Opd)) : rvl E st (.build zero parts) = (buildV E st parts zero).map fun cs => (.agg cs, st.objs) := by
  simp only [rvl, rval]
  congr 1
  have hn : ∀ l : List (Nat × Nat × Opd), l.foldl (fun (acc : Option (List DV)) x => match acc, (x.2.2.ev E st).cells with
      | some cs, some new => if new.length = x.2.1 ∧ x.1 + new.length ≤ cs.length then some (rowSet cs x.1 new) else none
      | _, _ => none) none = none := fun l => by
    induction l with
    | nil => rfl
    | cons x l ih => exact ih
  induction parts generalizing zero with
  | nil => rfl
  | cons x l ih =>
    simp only [List.foldl_cons, buildV]
    cases (x.2.2.ev E st).cells with
    | none => exact hn l
    | some new =>
      simp only [Option.bind]
      split
      · exact ih _
      · exact hn l
def mkrowV (E : Prg) (st : St) (sz : Nat) : List (Nat × Opd) → List (List DV) → Option (List (List DV))
  | [], rows => some rows
  | x :: l, rows => (x.2.ev E st).cells.bind fun new => if new.length = sz ∧ x.1 < rows.length ∧ new.all DV.one = true then mkrowV E st sz l (rows.set x.1 new) else none
theorem rvl_mkrow (sz : Nat) (zero : List DV) (len : Nat) (parts : List (Nat × Opd)) : rvl E st (.mkrow sz zero len parts) = (mkrowV E st sz parts (List.replicate len zero)).map fun rows => (.own st.objs.length 0 len, st.objs ++ [some (.arr sz rows)]) := by
  simp only [rvl, rval]
  congr 1
  have hn : ∀ l : List (Nat × Opd), l.foldl (fun (acc : Option (List (List DV))) x => match acc, (x.2.ev E st).cells with
      | some rows, some new => if new.length = sz ∧ x.1 < rows.length ∧ new.all DV.one = true then some (rows.set x.1 new) else none
      | _, _ => none) none = none := fun l => by
    induction l with
    | nil => rfl
    | cons x l ih => exact ih
  generalize List.replicate len zero = rows
  induction parts generalizing rows with
  | nil => rfl
  | cons x l ih =>
    simp only [List.foldl_cons, mkrowV]
    cases (x.2.ev E st).cells with
    | none => exact hn l
    | some new =>
      simp only [Option.bind]
      split
      · exact ih _
      · exact hn l
theorem rvl_load (ag : Bool) (sz : Nat) (x : Opd) : rvl E st (.load ag sz x) = match x.ev E st with
    | .ptr o i j => (st.objs[o]?).bind fun x => x.bind fun ob => (ob.rows[i]?).bind fun row => (rowAt ag sz row j).map (·, st.objs)
    | .rp row j => (rowAt ag sz row j).map (·, st.objs)
    | _ => none := nrfl _
theorem rvl_store (sz : Nat) (p x : Opd) : rvl E st (.store sz p x) = match p.ev E st with
    | .ptr o i j => ((x.ev E st).cells).bind fun cs => (st.objs[o]?).bind fun x => x.bind fun ob => (ob.rows[i]?).bind fun row =>
      if cs.length = sz ∧ cs.all DV.one = true ∧ j + sz ≤ row.length then some (.undef, st.objs.set o (some (ob.setRow i (rowSet row j cs)))) else none
    | _ => none := nrfl _
theorem rvl_nilck (x : Opd) : rvl E st (.nilck x) = match x.ev E st with
    | .ptr o i j => some (.ptr o i j, st.objs)
    | .rp row j => some (.rp row j, st.objs)
    | _ => none := nrfl _
def binV (op : BinOp) : DV → DV → Option DV
  | .int k a, .int k' b => match op with
    | .shl => shiftOf .shl k a b
    | .shr => shiftOf .shr k a b
    | op => if k = k' then binOf op k a b else none
  | .str a, .str b => strOf op a b
  | _, _ => none
theorem rvl_bin (op : BinOp) (x y : Opd) : rvl E st (.bin op x y) = (binV op (x.ev E st) (y.ev E st)).map (·, st.objs) := by
  simp only [rvl, rval]
  cases x.ev E st <;> cases y.ev E st <;> rfl
theorem rvl_eqB (neg : Bool) (x y : Opd) : rvl E st (.eqB neg x y) = match x.ev E st, y.ev E st with
    | .bool a, .bool b => some (.bool (if neg then !decide (a = b) else decide (a = b)), st.objs)
    | _, _ => none := nrfl _
def nilV : SK → Option Bool
  | .nil => some true
  | .nonnil => some false
  | _ => none
theorem rvl_eqNil (neg : Bool) (x y : Opd) : rvl E st (.eqNil neg x y) = match x.ev E st, y.ev E st with
    | .sl _ _ k, .sl _ _ .nil => (nilV k).map fun b => (.bool (if neg then !b else b), st.objs)
    | .own _ _ n, .sl _ _ .nil => if 0 < n then some (.bool neg, st.objs) else none
    | _, _ => none := by
  simp only [rvl, rval]
  cases x.ev E st <;> cases y.ev E st <;> try rfl
theorem rvl_un (op : UnOp) (x : Opd) : rvl E st (.un op x) = (unOf op (x.ev E st)).map (·, st.objs) := nrfl _
theorem rvl_i2i (k : IntKind) (x : Opd) : rvl E st (.conv (.i2i k) x) = match x.ev E st with
    | .int _ n => some (.int k (k.wrap n), st.objs)
    | _ => none := by
  simp only [rvl, rval]
  cases x.ev E st <;> rfl
theorem rvl_b2s (x : Opd) : rvl E st (.conv .b2s x) = match x.ev E st with
    | .str _ => none
    | d => (rowsOf st d).bind fun y => if y.1 = 1 ∨ y.2 = [] then (rowsBytes y.2).map fun s => (.str s, st.objs) else none := nrfl _
theorem rvl_s2b (x : Opd) : rvl E st (.conv .s2b x) = match x.ev E st with
    | .str s => if s.length ≤ 4611686018427387904 then some (.own st.objs.length 0 s.length, st.objs ++ [some (.arr 1 (bytesRows s))]) else none
    | _ => none := by
  simp only [rvl, rval]
  cases x.ev E st <;> rfl
theorem rvl_lit (x : Opd) : rvl E st (.conv .lit x) = match x.ev E st with
    | .own o off n => (st.objs[o]?).bind fun x => x.bind fun ob => match ob with
      | .arr sz rows => if 0 < n ∧ 0 < sz ∧ off + n ≤ rows.length then some (.own o off n, st.objs) else none
      | _ => none
    | _ => none := by
  simp only [rvl, rval]
  cases x.ev E st <;> try rfl
  rename_i o off n
  simp only
  cases st.objs[o]? with
  | none => rfl
  | some x =>
    cases x with
    | none => rfl
    | some ob => cases ob <;> rfl
theorem rvl_s2s (x : Opd) : rvl E st (.conv .s2s x) = match x.ev E st with
    | .str s => some (.str s, st.objs)
    | _ => none := by
  simp only [rvl, rval]
  cases x.ev E st <;> rfl
theorem rvl_slice (sz : Nat) (x : Opd) (lo hi mx : Option Opd) : rvl E st (.slice sz x lo hi mx) = match x.ev E st with
    | .sl s rows k => (natO st E 0 lo).bind fun l => (natO st E rows.length hi).bind fun h => if l ≤ h ∧ h ≤ rows.length ∧ (s = sz ∨ rows = []) then (match mx with
        | none => some (.sl s ((rows.drop l).take (h - l)) k, st.objs)
        | some m => (natO st E 0 (some m)).bind fun m => if m = h then some (.sl s ((rows.drop l).take (h - l)) (if m = l then (if k = .nil then .nil else .zero) else (if k = .nil then .nil else .any)), st.objs) else none) else none
    | .own o off n => match mx with
      | none => (natO st E 0 lo).bind fun l => (natO st E n hi).bind fun h => (st.objs[o]?).bind fun x => x.bind fun ob => match ob with
        | .arr s rows => if l ≤ h ∧ h ≤ n ∧ s = sz then some (.own o (off + l) (h - l), st.objs) else none
        | _ => none
      | some m => (natO st E 0 lo).bind fun l => (natO st E n hi).bind fun h => (natO st E 0 (some m)).bind fun m => if m = h ∧ h = l ∧ l ≤ n then some (.sl sz [] .zero, st.objs) else none
    | _ => none := nrfl _
theorem natO_none (d : Nat) : natO st E d none = some d := nrfl _
theorem natO_some (d : Nat) (x : Opd) : natO st E d (some x) = match x.ev E st with
    | .int _ n => if 0 ≤ n then some n.toNat else none
    | _ => none := nrfl _
theorem rvl_sliceS (x : Opd) (lo hi : Option Opd) : rvl E st (.sliceS x lo hi) = match x.ev E st with
    | .str s => (natO st E 0 lo).bind fun l => (natO st E s.length hi).bind fun h => if l ≤ h ∧ h ≤ s.length then some (.str ((s.drop l).take (h - l)), st.objs) else none
    | _ => none := nrfl _
theorem rvl_faddr (off : Nat) (x : Opd) : rvl E st (.faddr off x) = match x.ev E st with
    | .ptr o i j => some (.ptr o i (j + off), st.objs)
    | .rp row j => some (.rp row (j + off), st.objs)
    | _ => none := nrfl _
theorem rvl_fld (ag : Bool) (off sz : Nat) (x : Opd) : rvl E st (.fld ag off sz x) = match x.ev E st with
    | .agg cs => (rowAt ag sz cs off).map (·, st.objs)
    | _ => none := nrfl _
theorem rvl_iaddr (sz : Nat) (x i : Opd) : rvl E st (.iaddr sz x i) = match x.ev E st, i.ev E st with
    | .sl s rows _, .int _ n => if 0 ≤ n ∧ n < (rows.length : Int) ∧ s = sz then (rows[n.toNat]?).map fun row => (.rp row 0, st.objs) else none
    | .own o off m, .int _ n => if 0 ≤ n ∧ n < (m : Int) then (st.objs[o]?).bind fun x => x.bind fun ob => match ob with
        | .arr s _ => if s = sz then some (.ptr o (off + n.toNat) 0, st.objs) else none
        | _ => none
      else none
    | _, _ => none := nrfl _
theorem rvl_iaddrA (len sz : Nat) (x i : Opd) : rvl E st (.iaddrA len sz x i) = match x.ev E st, i.ev E st with
    | .ptr o r j, .int _ n => if 0 ≤ n ∧ n < (len : Int) then some (.ptr o r (j + n.toNat * sz), st.objs) else none
    | .rp row j, .int _ n => if 0 ≤ n ∧ n < (len : Int) then some (.rp row (j + n.toNat * sz), st.objs) else none
    | _, _ => none := nrfl _
theorem rvl_idxS (x i : Opd) : rvl E st (.idxS x i) = match x.ev E st, i.ev E st with
    | .str s, .int _ n => if 0 ≤ n then (s[n.toNat]?).map fun b => (.int .u8 b.toNat, st.objs) else none
    | _, _ => none := nrfl _
theorem rvl_ext (x : Opd) (i : Nat) : rvl E st (.ext x i) = match x.ev E st with
    | .tup cs => (cs[i]?).map fun d => (d, st.objs)
    | _ => none := by
  simp only [rvl, rval]
  cases x.ev E st <;> try rfl
  dsimp only
  rename_i cs
  cases cs[i]? <;> rfl
theorem rvl_len (x : Opd) : rvl E st (.len x) = match x.ev E st with
    | .sl _ rows _ => some (.int .i64 rows.length, st.objs)
    | .own _ _ n => some (.int .i64 n, st.objs)
    | _ => none := nrfl _
theorem rvl_lenS (x : Opd) : rvl E st (.lenS x) = match x.ev E st with
    | .str s => some (.int .i64 s.length, st.objs)
    | _ => none := nrfl _
theorem rvl_append (sz bytes : Nat) (x y : Opd) : rvl E st (.append sz bytes x y) = match x.ev E st with
    | .sl _ [] k => (rowsOf st (y.ev E st)).bind fun a => if (k = .nil ∨ k = .zero) ∧ (a.1 = sz ∨ a.2 = []) ∧ a.2.length * bytes ≤ 140737488355328 ∧ a.2.length ≤ 4611686018427387904 then
        some (.own st.objs.length 0 a.2.length, st.objs ++ [some (.arr sz a.2)]) else none
    | .own o off n => (rowsOf st (y.ev E st)).bind fun a => (st.objs[o]?).bind fun x => x.bind fun ob => match ob with
      | .arr s rows => if off + n = rows.length ∧ s = sz ∧ (a.1 = sz ∨ a.2 = []) ∧ (n + a.2.length) * bytes ≤ 140737488355328 ∧ n + a.2.length ≤ 4611686018427387904 then
          some (.own st.objs.length 0 (n + a.2.length), st.objs.set o none ++ [some (.arr sz (rows.drop off ++ a.2))]) else none
      | _ => none
    | _ => none := nrfl _
theorem rvl_mm (isMax : Bool) (x y : Opd) : rvl E st (.mm isMax x y) = match x.ev E st, y.ev E st with
    | .int k a, .int _ b => some (.int k (if isMax then max a b else min a b), st.objs)
    | _, _ => none := nrfl _
theorem rvl_mkslice (sz bytes : Nat) (zero : List DV) (a b : Opd) : rvl E st (.mkslice sz bytes zero a b) = match a.ev E st, b.ev E st with
    | .int _ n, .int _ c => if 0 ≤ n ∧ n ≤ c ∧ c * bytes ≤ 140737488355328 ∧ c ≤ 4611686018427387904 ∧ zero.length = sz then
        some (.own st.objs.length 0 n.toNat, st.objs ++ [some (.arr sz (List.replicate n.toNat zero))]) else none
    | _, _ => none := nrfl _
theorem rowsOf_sl (sz : Nat) (rows : List (List DV)) (k : SK) : rowsOf st (.sl sz rows k) = some (sz, rows) := nrfl _
theorem rowsOf_own (o off m : Nat) : rowsOf st (.own o off m) = (st.objs[o]?).bind fun x => x.bind fun ob => match ob with
    | .arr sz rows => if off + m ≤ rows.length then some (sz, (rows.drop off).take m) else none
    | _ => none := by
  simp only [rowsOf]
  generalize st.objs[o]? = x
  rcases x with _ | _ | ob <;> try rfl
  cases ob <;> rfl
theorem rowsOf_str (s : List UInt8) : rowsOf st (.str s) = some (1, bytesRows s) := nrfl _
theorem stV_mov (dr : Bool) (x : Opd) : stV E F dr (.mov x) dst z st K = bindO (rvl E st (.mov x)) fun p => goSt (nx st p z dst) K := stV_op E F K st dst (.mov x) z dr rfl
theorem stV_pick (dr : Bool) (c a b : Opd) : stV E F dr (.pick c a b) dst z st K = bindO (rvl E st (.pick c a b)) fun p => goSt (nx st p z dst) K := stV_op E F K st dst (.pick c a b) z dr rfl
theorem stV_box (dr : Bool) (sz : Nat) (x : Opd) : stV E F dr (.box sz x) dst z st K = bindO (rvl E st (.box sz x)) fun p => goSt (nx st p z dst) K := stV_op E F K st dst (.box sz x) z dr rfl
theorem stV_alloc (dr : Bool) (zero : List DV) : stV E F dr (.alloc zero) dst z st K = bindO (rvl E st (.alloc zero)) fun p => goSt (nx st p z dst) K := stV_op E F K st dst (.alloc zero) z dr rfl
theorem stV_build (dr : Bool) (zero : List DV) (parts : List (Nat × Nat × Opd)) : stV E F dr (.build zero parts) dst z st K = bindO (rvl E st (.build zero parts)) fun p => goSt (nx st p z dst) K := stV_op E F K st dst (.build zero parts) z dr rfl
theorem stV_mkrow (dr : Bool) (sz : Nat) (zero : List DV) (len : Nat) (parts : List (Nat × Opd)) : stV E F dr (.mkrow sz zero len parts) dst z st K = bindO (rvl E st (.mkrow sz zero len parts)) fun p => goSt (nx st p z dst) K := stV_op E F K st dst (.mkrow sz zero len parts) z dr rfl
theorem stV_load (dr : Bool) (ag : Bool) (sz : Nat) (x : Opd) : stV E F dr (.load ag sz x) dst z st K = bindO (rvl E st (.load ag sz x)) fun p => goSt (nx st p z dst) K := stV_op E F K st dst (.load ag sz x) z dr rfl
theorem stV_store (dr : Bool) (sz : Nat) (p x : Opd) : stV E F dr (.store sz p x) dst z st K = bindO (rvl E st (.store sz p x)) fun p => goSt (nx st p z dst) K := stV_op E F K st dst (.store sz p x) z dr rfl
theorem stV_nilck (dr : Bool) (x : Opd) : stV E F dr (.nilck x) dst z st K = bindO (rvl E st (.nilck x)) fun p => goSt (nx st p z dst) K := stV_op E F K st dst (.nilck x) z dr rfl
theorem stV_bin (dr : Bool) (op : BinOp) (x y : Opd) : stV E F dr (.bin op x y) dst z st K = bindO (rvl E st (.bin op x y)) fun p => goSt (nx st p z dst) K := stV_op E F K st dst (.bin op x y) z dr rfl
theorem stV_eqB (dr : Bool) (neg : Bool) (x y : Opd) : stV E F dr (.eqB neg x y) dst z st K = bindO (rvl E st (.eqB neg x y)) fun p => goSt (nx st p z dst) K := stV_op E F K st dst (.eqB neg x y) z dr rfl
theorem stV_eqNil (dr : Bool) (neg : Bool) (x y : Opd) : stV E F dr (.eqNil neg x y) dst z st K = bindO (rvl E st (.eqNil neg x y)) fun p => goSt (nx st p z dst) K := stV_op E F K st dst (.eqNil neg x y) z dr rfl
theorem stV_un (dr : Bool) (op : UnOp) (x : Opd) : stV E F dr (.un op x) dst z st K = bindO (rvl E st (.un op x)) fun p => goSt (nx st p z dst) K := stV_op E F K st dst (.un op x) z dr rfl
theorem stV_i2i (dr : Bool) (k : IntKind) (x : Opd) : stV E F dr (.conv (.i2i k) x) dst z st K = bindO (rvl E st (.conv (.i2i k) x)) fun p => goSt (nx st p z dst) K := stV_op E F K st dst (.conv (.i2i k) x) z dr rfl
theorem stV_b2s (dr : Bool) (x : Opd) : stV E F dr (.conv .b2s x) dst z st K = bindO (rvl E st (.conv .b2s x)) fun p => goSt (nx st p z dst) K := stV_op E F K st dst (.conv .b2s x) z dr rfl
theorem stV_s2b (dr : Bool) (x : Opd) : stV E F dr (.conv .s2b x) dst z st K = bindO (rvl E st (.conv .s2b x)) fun p => goSt (nx st p z dst) K := stV_op E F K st dst (.conv .s2b x) z dr rfl
theorem stV_lit (dr : Bool) (x : Opd) : stV E F dr (.conv .lit x) dst z st K = bindO (rvl E st (.conv .lit x)) fun p => goSt (nx st p z dst) K := stV_op E F K st dst (.conv .lit x) z dr rfl
theorem stV_s2s (dr : Bool) (x : Opd) : stV E F dr (.conv .s2s x) dst z st K = bindO (rvl E st (.conv .s2s x)) fun p => goSt (nx st p z dst) K := stV_op E F K st dst (.conv .s2s x) z dr rfl
theorem stV_slice (dr : Bool) (sz : Nat) (x : Opd) (lo hi mx : Option Opd) : stV E F dr (.slice sz x lo hi mx) dst z st K = bindO (rvl E st (.slice sz x lo hi mx)) fun p => goSt (nx st p z dst) K := stV_op E F K st dst (.slice sz x lo hi mx) z dr rfl
theorem stV_sliceS (dr : Bool) (x : Opd) (lo hi : Option Opd) : stV E F dr (.sliceS x lo hi) dst z st K = bindO (rvl E st (.sliceS x lo hi)) fun p => goSt (nx st p z dst) K := stV_op E F K st dst (.sliceS x lo hi) z dr rfl
theorem stV_faddr (dr : Bool) (off : Nat) (x : Opd) : stV E F dr (.faddr off x) dst z st K = bindO (rvl E st (.faddr off x)) fun p => goSt (nx st p z dst) K := stV_op E F K st dst (.faddr off x) z dr rfl
theorem stV_fld (dr : Bool) (ag : Bool) (off sz : Nat) (x : Opd) : stV E F dr (.fld ag off sz x) dst z st K = bindO (rvl E st (.fld ag off sz x)) fun p => goSt (nx st p z dst) K := stV_op E F K st dst (.fld ag off sz x) z dr rfl
theorem stV_iaddr (dr : Bool) (sz : Nat) (x i : Opd) : stV E F dr (.iaddr sz x i) dst z st K = bindO (rvl E st (.iaddr sz x i)) fun p => goSt (nx st p z dst) K := stV_op E F K st dst (.iaddr sz x i) z dr rfl
theorem stV_iaddrA (dr : Bool) (len sz : Nat) (x i : Opd) : stV E F dr (.iaddrA len sz x i) dst z st K = bindO (rvl E st (.iaddrA len sz x i)) fun p => goSt (nx st p z dst) K := stV_op E F K st dst (.iaddrA len sz x i) z dr rfl
theorem stV_idxS (dr : Bool) (x i : Opd) : stV E F dr (.idxS x i) dst z st K = bindO (rvl E st (.idxS x i)) fun p => goSt (nx st p z dst) K := stV_op E F K st dst (.idxS x i) z dr rfl
theorem stV_ext (dr : Bool) (x : Opd) (i : Nat) : stV E F dr (.ext x i) dst z st K = bindO (rvl E st (.ext x i)) fun p => goSt (nx st p z dst) K := stV_op E F K st dst (.ext x i) z dr rfl
theorem stV_len (dr : Bool) (x : Opd) : stV E F dr (.len x) dst z st K = bindO (rvl E st (.len x)) fun p => goSt (nx st p z dst) K := stV_op E F K st dst (.len x) z dr rfl
theorem stV_lenS (dr : Bool) (x : Opd) : stV E F dr (.lenS x) dst z st K = bindO (rvl E st (.lenS x)) fun p => goSt (nx st p z dst) K := stV_op E F K st dst (.lenS x) z dr rfl
theorem stV_append (dr : Bool) (sz bytes : Nat) (x y : Opd) : stV E F dr (.append sz bytes x y) dst z st K = bindO (rvl E st (.append sz bytes x y)) fun p => goSt (nx st p z dst) K := stV_op E F K st dst (.append sz bytes x y) z dr rfl
theorem stV_mm (dr : Bool) (isMax : Bool) (x y : Opd) : stV E F dr (.mm isMax x y) dst z st K = bindO (rvl E st (.mm isMax x y)) fun p => goSt (nx st p z dst) K := stV_op E F K st dst (.mm isMax x y) z dr rfl
theorem stV_mkslice (dr : Bool) (sz bytes : Nat) (zero : List DV) (a b : Opd) : stV E F dr (.mkslice sz bytes zero a b) dst z st K = bindO (rvl E st (.mkslice sz bytes zero a b)) fun p => goSt (nx st p z dst) K := stV_op E F K st dst (.mkslice sz bytes zero a b) z dr rfl
end
def ownL (cs : List DV) : List Nat := cs.filterMap fun
    | .own o _ _ => some o
    | _ => none
def frzO (x : Option (Option Ob)) (o : Nat) (env : List (Nat × DV)) (objs : Objs) : St :=
  match x with
  | some (some (.arr sz rows)) => if o + 1 = objs.length then ⟨env.map (fun x => (x.1, x.2.frzT o sz rows)), objs.set o none⟩ else ⟨env.map (fun x => (x.1, x.2.frzT o sz rows)), (objs.set o none).map (Option.map (Ob.frz o sz rows))⟩
  | _ => ⟨env, objs⟩
theorem freeze_mk (o : Nat) (env : List (Nat × DV)) (objs : Objs) : St.freeze o ⟨env, objs⟩ = frzO objs[o]? o env objs := nrfl _
theorem frzO_arr (sz : Nat) (rows : List (List DV)) (o : Nat) (env : List (Nat × DV)) (objs : Objs) : frzO (some (some (.arr sz rows))) o env objs = if o + 1 = objs.length then ⟨env.map (fun x => (x.1, x.2.frzT o sz rows)), objs.set o none⟩ else ⟨env.map (fun x => (x.1, x.2.frzT o sz rows)), (objs.set o none).map (Option.map (Ob.frz o sz rows))⟩ := nrfl _
theorem initEnv_nil (k : Nat) : initEnv k [] = [] := nrfl _
theorem initEnv_cons (k : Nat) (d : DV) (l : List DV) : initEnv k (d :: l) = (k, d) :: initEnv (k + 1) l := nrfl _
theorem look_nil (t : Nat) : St.look t [] = .undef := nrfl _
theorem look_cons (t k : Nat) (d : DV) (l : List (Nat × DV)) : St.look t ((k, d) :: l) = if k = t then d else St.look t l := nrfl _
theorem ins_nil (t : Nat) (d : DV) : St.ins t d [] = [(t, d)] := nrfl _
theorem ins_cons (t k : Nat) (d x : DV) (l : List (Nat × DV)) : St.ins t d ((k, x) :: l) = if t < k then (t, d) :: (k, x) :: l else if k = t then (t, d) :: l else (k, x) :: St.ins t d l := nrfl _
theorem rep_nil (t : Nat) (d : DV) : St.rep t d [] = [] := nrfl _
theorem rep_cons (t k : Nat) (d x : DV) (l : List (Nat × DV)) : St.rep t d ((k, x) :: l) = if k = t then (t, d) :: l else (k, x) :: St.rep t d l := nrfl _
theorem memN_nil (k : Nat) : memN k [] = false := nrfl _
theorem memN_cons (k a : Nat) (l : List Nat) : memN k (a :: l) = if a = k then true else memN k l := nrfl _
theorem cutE_nil (keep : List Nat) : cutE keep [] = [] := nrfl _
theorem cutE_cons (keep : List Nat) (k : Nat) (d : DV) (l : List (Nat × DV)) : cutE keep ((k, d) :: l) = if memN k keep = true then (k, d) :: cutE keep l else cutE keep l := nrfl _
theorem buildV_nil (E : Prg) (st : St) (cs : List DV) : buildV E st [] cs = some cs := nrfl _
theorem buildV_cons (E : Prg) (st : St) (x : Nat × Nat × Opd) (l : List (Nat × Nat × Opd)) (cs : List DV) : buildV E st (x :: l) cs = (x.2.2.ev E st).cells.bind fun new => if new.length = x.2.1 ∧ x.1 + new.length ≤ cs.length then buildV E st l (rowSet cs x.1 new) else none := nrfl _
theorem mkrowV_nil (E : Prg) (st : St) (sz : Nat) (cs : List (List DV)) : mkrowV E st sz [] cs = some cs := nrfl _
theorem mkrowV_cons (E : Prg) (st : St) (sz : Nat) (x : Nat × Opd) (l : List (Nat × Opd)) (rows : List (List DV)) : mkrowV E st sz (x :: l) rows = (x.2.ev E st).cells.bind fun new => if new.length = sz ∧ x.1 < rows.length ∧ new.all DV.one = true then mkrowV E st sz l (rows.set x.1 new) else none := nrfl _
theorem binV_add (k : IntKind) (a b : Int) : binV .add (.int k a) (.int k b) = some (.int k (k.wrap (a + b))) := if_pos rfl
theorem binV_sub (k : IntKind) (a b : Int) : binV .sub (.int k a) (.int k b) = some (.int k (k.wrap (a - b))) := if_pos rfl
theorem binV_mul (k : IntKind) (a b : Int) : binV .mul (.int k a) (.int k b) = some (.int k (k.wrap (a * b))) := if_pos rfl
theorem binV_quo (k : IntKind) (a b : Int) : binV .quo (.int k a) (.int k b) = if b = 0 then none else some (.int k (k.wrap (a.tdiv b))) := if_pos rfl
theorem binV_rem (k : IntKind) (a b : Int) : binV .rem (.int k a) (.int k b) = if b = 0 then none else some (.int k (a.tmod b)) := if_pos rfl
theorem binV_and (k : IntKind) (a b : Int) : binV .and (.int k a) (.int k b) = some (.int k (k.wrap (BitVec.ofInt k.bits a &&& BitVec.ofInt k.bits b).toNat)) := if_pos rfl
theorem binV_or (k : IntKind) (a b : Int) : binV .or (.int k a) (.int k b) = some (.int k (k.wrap (BitVec.ofInt k.bits a ||| BitVec.ofInt k.bits b).toNat)) := if_pos rfl
theorem binV_xor (k : IntKind) (a b : Int) : binV .xor (.int k a) (.int k b) = some (.int k (k.wrap (BitVec.ofInt k.bits a ^^^ BitVec.ofInt k.bits b).toNat)) := if_pos rfl
theorem binV_andNot (k : IntKind) (a b : Int) : binV .andNot (.int k a) (.int k b) = some (.int k (k.wrap (BitVec.ofInt k.bits a &&& ~~~ BitVec.ofInt k.bits b).toNat)) := if_pos rfl
theorem binV_eql (k : IntKind) (a b : Int) : binV .eql (.int k a) (.int k b) = some (.bool (decide (a = b))) := if_pos rfl
theorem binV_neq (k : IntKind) (a b : Int) : binV .neq (.int k a) (.int k b) = some (.bool (!decide (a = b))) := if_pos rfl
theorem binV_lss (k : IntKind) (a b : Int) : binV .lss (.int k a) (.int k b) = some (.bool (decide (a < b))) := if_pos rfl
theorem binV_leq (k : IntKind) (a b : Int) : binV .leq (.int k a) (.int k b) = some (.bool (decide (a ≤ b))) := if_pos rfl
theorem binV_gtr (k : IntKind) (a b : Int) : binV .gtr (.int k a) (.int k b) = some (.bool (decide (b < a))) := if_pos rfl
theorem binV_geq (k : IntKind) (a b : Int) : binV .geq (.int k a) (.int k b) = some (.bool (decide (b ≤ a))) := if_pos rfl
theorem binV_shl (k k2 : IntKind) (a b : Int) : binV .shl (.int k a) (.int k2 b) = if b < 0 then none else some (.int k (k.wrap (a * 2 ^ (min b.toNat k.bits)))) := nrfl _
theorem binV_shr (k k2 : IntKind) (a b : Int) : binV .shr (.int k a) (.int k2 b) = if b < 0 then none else some (.int k (a.fdiv (2 ^ (min b.toNat k.bits)))) := nrfl _
theorem binS_add (a b : List UInt8) : binV .add (.str a) (.str b) = if a.length + b.length ≤ 4611686018427387904 then some (.str (a ++ b)) else none := nrfl _
theorem binS_eql (a b : List UInt8) : binV .eql (.str a) (.str b) = some (.bool (a == b)) := nrfl _
theorem binS_neq (a b : List UInt8) : binV .neq (.str a) (.str b) = some (.bool (!(a == b))) := nrfl _
theorem binS_lss (a b : List UInt8) : binV .lss (.str a) (.str b) = some (.bool (Op.bytesLess a b)) := nrfl _
theorem binS_leq (a b : List UInt8) : binV .leq (.str a) (.str b) = some (.bool (Op.bytesLess a b || a == b)) := nrfl _
theorem binS_gtr (a b : List UInt8) : binV .gtr (.str a) (.str b) = some (.bool (!(Op.bytesLess a b || a == b))) := nrfl _
theorem binS_geq (a b : List UInt8) : binV .geq (.str a) (.str b) = some (.bool (!Op.bytesLess a b)) := nrfl _
theorem unOf_neg (k : IntKind) (n : Int) : unOf .neg (.int k n) = some (.int k (k.wrap (0 - n))) := nrfl _
theorem unOf_xor (k : IntKind) (n : Int) : unOf .xor (.int k n) = some (.int k (k.wrap (BitVec.ofInt k.bits (if k.signed then -1 else k.max) ^^^ BitVec.ofInt k.bits n).toNat)) := nrfl _
theorem unOf_not (b : Bool) : unOf .not (.bool b) = some (.bool (!b)) := nrfl _
theorem nilV_nil  : nilV .nil = some true := nrfl _
theorem nilV_nonnil  : nilV .nonnil = some false := nrfl _
theorem nilV_any  : nilV .any = none := nrfl _
theorem nilV_zero  : nilV .zero = none := nrfl _
theorem cells_int (k : IntKind) (n : Int) : DV.cells (.int k n) = some [.int k n] := nrfl _
theorem one_int (k : IntKind) (n : Int) : DV.one (.int k n) = true := nrfl _
theorem cells_bool (b : Bool) : DV.cells (.bool b) = some [.bool b] := nrfl _
theorem one_bool (b : Bool) : DV.one (.bool b) = true := nrfl _
theorem cells_str (s : List UInt8) : DV.cells (.str s) = some [.str s] := nrfl _
theorem one_str (s : List UInt8) : DV.one (.str s) = true := nrfl _
theorem cells_sl (sz : Nat) (rows : List (List DV)) (k : SK) : DV.cells (.sl sz rows k) = some [.sl sz rows k] := nrfl _
theorem one_sl (sz : Nat) (rows : List (List DV)) (k : SK) : DV.one (.sl sz rows k) = true := nrfl _
theorem cells_own (o off n : Nat) : DV.cells (.own o off n) = some [.own o off n] := nrfl _
theorem one_own (o off n : Nat) : DV.one (.own o off n) = true := nrfl _
theorem cells_ptr (o i j : Nat) : DV.cells (.ptr o i j) = some [.ptr o i j] := nrfl _
theorem one_ptr (o i j : Nat) : DV.one (.ptr o i j) = true := nrfl _
theorem cells_rp (row : List DV) (j : Nat) : DV.cells (.rp row j) = some [.rp row j] := nrfl _
theorem one_rp (row : List DV) (j : Nat) : DV.one (.rp row j) = true := nrfl _
theorem cells_agg (cs : List DV) : DV.cells (.agg cs) = some cs := nrfl _
theorem rowAt_f (sz : Nat) (row : List DV) (j : Nat) : rowAt false sz row j = row[j]? := nrfl _
theorem rowAt_t (sz : Nat) (row : List DV) (j : Nat) : rowAt true sz row j = if j + sz ≤ row.length then some (.agg ((row.drop j).take sz)) else none := nrfl _
theorem rowSet_eq (row : List DV) (j : Nat) (cs : List DV) : rowSet row j cs = row.take j ++ cs ++ row.drop (j + cs.length) := nrfl _
theorem rows_box (cs : List DV) : Ob.rows (.box cs) = [cs] := nrfl _
theorem rows_arr (sz : Nat) (rows : List (List DV)) : Ob.rows (.arr sz rows) = rows := nrfl _
theorem setRow_box (cs : List DV) (i : Nat) (row : List DV) : Ob.setRow (.box cs) i row = .box row := nrfl _
theorem setRow_arr (sz : Nat) (rows : List (List DV)) (i : Nat) (row : List DV) : Ob.setRow (.arr sz rows) i row = .arr sz (rows.set i row) := nrfl _
theorem freezes_nil (st : St) : St.freezes [] st = st := nrfl _
theorem freezes_cons (o : Nat) (l : List Nat) (st : St) : St.freezes (o :: l) st = St.freezes l (st.freeze o) := nrfl _
theorem ownIds_own (o off n : Nat) : ownIds (.own o off n) = [o] := nrfl _
theorem ownIds_sl (sz : Nat) (rows : List (List DV)) (k : SK) : ownIds (.sl sz rows k) = [] := nrfl _
theorem ownIds_agg (cs : List DV) : ownIds (.agg cs) = ownL cs := nrfl _
theorem ownL_nil  : ownL [] = [] := nrfl _
theorem ownL_int (k : IntKind) (n : Int) (l : List DV) : ownL (.int k n :: l) = ownL l := nrfl _
theorem frz0_int (o sz : Nat) (rows : List (List DV)) (k : IntKind) (n : Int) : DV.frz0 o sz rows (.int k n) = .int k n := nrfl _
theorem frzT_int (o sz : Nat) (rows : List (List DV)) (k : IntKind) (n : Int) : DV.frzT o sz rows (.int k n) = .int k n := nrfl _
theorem ownL_bool (b : Bool) (l : List DV) : ownL (.bool b :: l) = ownL l := nrfl _
theorem frz0_bool (o sz : Nat) (rows : List (List DV)) (b : Bool) : DV.frz0 o sz rows (.bool b) = .bool b := nrfl _
theorem frzT_bool (o sz : Nat) (rows : List (List DV)) (b : Bool) : DV.frzT o sz rows (.bool b) = .bool b := nrfl _
theorem ownL_str (s : List UInt8) (l : List DV) : ownL (.str s :: l) = ownL l := nrfl _
theorem frz0_str (o sz : Nat) (rows : List (List DV)) (s : List UInt8) : DV.frz0 o sz rows (.str s) = .str s := nrfl _
theorem frzT_str (o sz : Nat) (rows : List (List DV)) (s : List UInt8) : DV.frzT o sz rows (.str s) = .str s := nrfl _
theorem ownL_sl (sz : Nat) (rows : List (List DV)) (k : SK) (l : List DV) : ownL (.sl sz rows k :: l) = ownL l := nrfl _
theorem frz0_sl (o sz : Nat) (rows : List (List DV)) (sz2 : Nat) (rows2 : List (List DV)) (k : SK) : DV.frz0 o sz rows (.sl sz2 rows2 k) = .sl sz2 rows2 k := nrfl _
theorem frzT_sl (o sz : Nat) (rows : List (List DV)) (sz2 : Nat) (rows2 : List (List DV)) (k : SK) : DV.frzT o sz rows (.sl sz2 rows2 k) = .sl sz2 rows2 k := nrfl _
theorem ownL_ptr (o i j : Nat) (l : List DV) : ownL (.ptr o i j :: l) = ownL l := nrfl _
theorem frz0_ptr (o sz : Nat) (rows : List (List DV)) (o2 i j : Nat) : DV.frz0 o sz rows (.ptr o2 i j) = .ptr o2 i j := nrfl _
theorem frzT_ptr (o sz : Nat) (rows : List (List DV)) (o2 i j : Nat) : DV.frzT o sz rows (.ptr o2 i j) = .ptr o2 i j := nrfl _
theorem ownL_rp (row : List DV) (j : Nat) (l : List DV) : ownL (.rp row j :: l) = ownL l := nrfl _
theorem frz0_rp (o sz : Nat) (rows : List (List DV)) (row : List DV) (j : Nat) : DV.frz0 o sz rows (.rp row j) = .rp row j := nrfl _
theorem frzT_rp (o sz : Nat) (rows : List (List DV)) (row : List DV) (j : Nat) : DV.frzT o sz rows (.rp row j) = .rp row j := nrfl _
theorem ownL_own (o off n : Nat) (l : List DV) : ownL (.own o off n :: l) = o :: ownL l := nrfl _
theorem frz0_own (o sz : Nat) (rows : List (List DV)) (o2 off n : Nat) : DV.frz0 o sz rows (.own o2 off n) = if o2 = o ∧ off + n ≤ rows.length then .sl sz ((rows.drop off).take n) .any else .own o2 off n := nrfl _
theorem frzT_own (o sz : Nat) (rows : List (List DV)) (o2 off n : Nat) : DV.frzT o sz rows (.own o2 off n) = if o2 = o ∧ off + n ≤ rows.length then .sl sz ((rows.drop off).take n) .any else .own o2 off n := nrfl _
theorem frzT_undef (o sz : Nat) (rows : List (List DV)) : DV.frzT o sz rows .undef = .undef := nrfl _
theorem frzT_agg (o sz : Nat) (rows : List (List DV)) (cs : List DV) : DV.frzT o sz rows (.agg cs) = .agg (cs.map (DV.frz0 o sz rows)) := nrfl _
theorem frzT_tup (o sz : Nat) (rows : List (List DV)) (cs : List DV) : DV.frzT o sz rows (.tup cs) = .tup (cs.map (DV.frzA o sz rows)) := nrfl _
theorem obfrz_box (o sz : Nat) (rows : List (List DV)) (cs : List DV) : Ob.frz o sz rows (.box cs) = .box (cs.map (DV.frz0 o sz rows)) := nrfl _
theorem obfrz_arr (o sz : Nat) (rows : List (List DV)) (s : Nat) (r : List (List DV)) : Ob.frz o sz rows (.arr s r) = .arr s r := nrfl _
end
end Go.Proofs.YtdimdjcnkmkbjaaDoor
