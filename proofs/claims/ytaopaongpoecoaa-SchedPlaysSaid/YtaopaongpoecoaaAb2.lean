/- What new blocks, writes, drawn orders and what is let go of do to an abstract state's relation to the world. -/
import Derived.Test.YtaopaongpoecoaaAb1
set_option linter.unusedVariables false
set_option linter.unusedSimpArgs false
namespace Go.Proofs.Ytaopaongpoecoaa
open Go.RowKit

theorem cellAt_add (p : Place) (m n : Nat) : (p.cellAt m).add n = p.cellAt (m + n) := by
  unfold Addr.add Place.cellAt
  split
  · subst n; rfl
  · simp [Nat.add_assoc]

theorem LiveAt.idx {G : Gh} {w : World} {p : Place} {ob : Ob} (h : LiveAt G w p ob) {i j : Nat} {row : List DV} {c : DV} (hi : ob.rows[i]? = some row) (hj : row[j]? = some c) :
    i * p.sz + j < p.cap * p.sz := by
  have h1 : i < ob.rows.length := (List.getElem?_eq_some_iff.1 hi).1
  have h2 : j < row.length := (List.getElem?_eq_some_iff.1 hj).1
  have h3 := h.size row (List.mem_of_getElem? hi)
  have h4 := h.fits
  have h5 : (i + 1) * p.sz ≤ p.cap * p.sz := Nat.mul_le_mul_right _ (by omega)
  rw [Nat.add_mul] at h5
  omega

theorem LiveAt.mono {G G' : Gh} {w w' : World} {p : Place} {ob : Ob} (h : LiveAt G w p ob) (hG : G.le G')
    (hc : ∀ m, m < p.cap * p.sz → w'.cell? (p.cellAt m) = w.cell? (p.cellAt m)) (hf : ∀ m, m < p.cap * p.sz → w'.frozen? (p.cellAt m) = w.frozen? (p.cellAt m)) (hk : 0 < p.cap * p.sz → MkOk w p.block → MkOk w' p.block) : LiveAt G' w' p ob := by
  refine ⟨h.psz, h.fits, h.size, fun m hm => ?_, fun i j row c v hi hj hv => ?_, fun h0 => hk h0 (h.mko h0)⟩
  · rw [hc m hm, hf m hm]; exact h.there m hm
  · rw [hc _ (h.idx hi hj)] at hv
    exact (h.holds i j row c v hi hj hv).mono hG

theorem LiveAt.block_lt {G : Gh} {w : World} {p : Place} {ob : Ob} (h : LiveAt G w p ob) {m : Nat} (hm : m < p.cap * p.sz) : p.block < w.heap.size := by
  obtain ⟨v, hv, _⟩ := h.there m hm
  exact World.block_lt_of_cell? _ (p.cellAt m) hv

theorem getElem?_snoc {α : Type} (l : List α) (x : α) (k : Nat) : (l ++ [x])[k]? = if k < l.length then l[k]? else if k = l.length then some x else none := by
  by_cases h : k < l.length
  · rw [if_pos h, List.getElem?_append_left h]
  · rw [if_neg h, List.getElem?_append_right (by omega)]
    by_cases h2 : k = l.length
    · subst h2; simp
    · rw [if_neg h2, List.getElem?_eq_none (by simp; omega)]

/-- A draw. -/
theorem RelG.drew {E : Prg} {C : Ctx} {G : Gh} {st : St} {a : Act} {w : World} (h : RelG E C G st a w) : RelG E C G st a w.drew :=
  ⟨h.env, h.num, h.defs, ⟨h.heap.pls, fun k rows hk => let ⟨p, hp, hl⟩ := h.heap.live k rows hk; ⟨p, hp, hl.mono (.refl _) (fun _ _ => rfl) (fun _ _ => rfl) (fun _ h => h)⟩, h.heap.sep, h.heap.rdv, h.heap.rds⟩,
   ⟨h.frm.os, h.frm.tape, h.frm.output, h.frm.size, h.frm.blk, h.frm.cell, h.frm.frz, h.frm.mine, h.frm.rdn, h.frm.le, h.frm.mko⟩, h.glob⟩

/-- The ghost with one object more. -/
def Gh.more (G : Gh) (k : Nat) (p : Place) : Gh := { rd := G.rd, pl := fun x => if x = k then some p else G.pl x }

theorem Gh.le_more {G : Gh} {objs : Objs} {w : World} (h : Heap G objs w) (p : Place) : G.le (G.more objs.length p) :=
  ⟨fun _ _ x => x, fun k q hk => by
    have := h.pls k q hk
    simp only [Gh.more]
    rw [if_neg (by omega)]; exact hk⟩

/-- A new block: a new object. -/
theorem RelG.new {E : Prg} {C : Ctx} {G : Gh} {st : St} {a : Act} {w : World} (h : RelG E C G st a w) (cs : Array Value) (T : TypeId) (fr : Nat × Nat) (ob : Ob) (sz cap : Nat)
    (hmk : fr.1 = fr.2 ∨ cs.size ≤ fr.1) (hosz : ob.sz = sz) (hsz : cs.size = cap * sz) (hfit : ob.rows.length ≤ cap) (hrow : ∀ row, row ∈ ob.rows → row.length = sz) (hone : ∀ (m : Nat) (v : Value), cs[m]? = some v → v.oneCell' = true)
    (hold : ∀ (i j : Nat) row c v, ob.rows[i]? = some row → row[j]? = some c → cs[i * sz + j]? = some v → Rel G c v) :
    RelG E C (G.more st.objs.length ⟨w.heap.size, 0, sz, cap⟩) { st with objs := st.objs ++ [some ob] } a (w.alloc (.cells cs T fr)) := by
  have hfr : ∀ m, m < cs.size → ¬ (fr.1 ≤ m ∧ m < fr.2) := fun m hm h => by omega
  have hle : G.le (G.more st.objs.length ⟨w.heap.size, 0, sz, cap⟩) := Gh.le_more h.heap _
  have hself : (G.more st.objs.length ⟨w.heap.size, 0, sz, cap⟩).pl st.objs.length = some ⟨w.heap.size, 0, sz, cap⟩ := by simp [Gh.more]
  have hold_pl : ∀ k p, k < st.objs.length → (G.more st.objs.length ⟨w.heap.size, 0, sz, cap⟩).pl k = some p → G.pl k = some p := fun k p hk hp => by
    simp only [Gh.more] at hp; rwa [if_neg (by omega)] at hp
  have hkeep : ∀ p rows', LiveAt G w p rows' → LiveAt (G.more st.objs.length ⟨w.heap.size, 0, sz, cap⟩) (w.alloc (.cells cs T fr)) p rows' := fun p rows' hl =>
    hl.mono hle (fun m hm => World.cell?_alloc_lt _ _ _ (hl.block_lt hm)) (fun m hm => World.frozen?_alloc_old _ _ _ (Nat.ne_of_lt (hl.block_lt hm)))
      (fun h0 h1 => h1.of_eq (by have := hl.block_lt h0; simp only [World.alloc, Array.getElem?_push]; rw [if_neg (by omega)]))
  have hcase : ∀ (k : Nat) (rows' : Ob), (st.objs ++ [some ob])[k]? = some (some rows') → (k < st.objs.length ∧ st.objs[k]? = some (some rows')) ∨ (k = st.objs.length ∧ rows' = ob) := by
    intro k rows' hk
    rw [getElem?_snoc] at hk
    split at hk
    · exact .inl ⟨‹_›, hk⟩
    · split at hk
      · exact .inr ⟨‹_›, by simpa using hk.symm⟩
      · cases hk
  have hcell : ∀ m, (w.alloc (.cells cs T fr)).cell? ((⟨w.heap.size, 0, sz, cap⟩ : Place).cellAt m) = cs[m]? := fun m => by
    simp [Place.cellAt, World.alloc, World.cell?, -World.alloc_eq]
  refine ⟨fun t => (h.env t).mono hle, h.num, h.defs, ⟨?_, ?_, ?_, ?_, ?_⟩, ⟨h.frm.os, h.frm.tape, h.frm.output, by simp; have := h.frm.size; omega, ?_, ?_, ?_, ?_, ?_, h.frm.le.trans hle, fun b hb h1 => (h.frm.mko b hb h1).of_eq (by have := h.frm.size; simp only [World.alloc, Array.getElem?_push]; rw [if_neg (by omega)])⟩, fun g row hg => (h.glob g row hg).mono hle⟩
  · intro k p hp
    simp only [Gh.more] at hp
    split at hp
    · subst k; simp
    · have := h.heap.pls k p hp; simp; omega
  · intro k rows' hk
    rcases hcase k rows' hk with ⟨hlt, hk'⟩ | ⟨rfl, rfl⟩
    · obtain ⟨p, hp, hl⟩ := h.heap.live k rows' hk'
      exact ⟨p, hle.pl _ _ hp, hkeep p rows' hl⟩
    · refine ⟨_, hself, hosz.symm, hfit, hrow, fun m hm => ?_, fun i j row c v hi hj hv => ?_, fun _ cs' T' fr' h1 => ?_⟩
      · have hm' : m < cs.size := by rw [hsz]; exact hm
        refine ⟨cs[m], ?_, hone m _ (by simp [hm']), ?_⟩
        · rw [hcell]; simp [hm']
        · have := hfr m hm'
          obtain ⟨lo, hi⟩ := fr
          simp [Place.cellAt, World.alloc, World.frozen?, -World.alloc_eq]
          simp at this
          omega
      · rw [hcell] at hv
        exact (hold i j row c v hi hj hv).mono hle
      · simp [World.alloc, -World.alloc_eq] at h1
        obtain ⟨rfl, rfl, rfl⟩ := h1
        exact hmk
  · intro k k' r r' p p' m m' hk hk' hne hp hp' hm hm' e
    rcases hcase k r hk with ⟨hlt, hk1⟩ | ⟨rfl, rfl⟩ <;> rcases hcase k' r' hk' with ⟨hlt', hk1'⟩ | ⟨rfl, rfl⟩
    · exact h.heap.sep k k' r r' p p' m m' hk1 hk1' hne (hold_pl _ _ hlt hp) (hold_pl _ _ hlt' hp') hm hm' e
    · obtain ⟨q, hq, hl⟩ := h.heap.live k r hk1
      obtain rfl : q = p := Option.some.inj ((hold_pl _ _ hlt hp ▸ hq.symm : some q = some p))
      rw [hself] at hp'
      obtain rfl := Option.some.inj hp'
      have := hl.block_lt hm
      have e2 : q.block = w.heap.size := congrArg Addr.block e
      omega
    · obtain ⟨q, hq, hl⟩ := h.heap.live k' r' hk1'
      obtain rfl : q = p' := Option.some.inj ((hold_pl _ _ hlt' hp' ▸ hq.symm : some q = some p'))
      rw [hself] at hp
      obtain rfl := Option.some.inj hp
      have := hl.block_lt hm'
      have e2 : w.heap.size = q.block := congrArg Addr.block e
      omega
    · exact hne rfl
  · intro x v hx
    obtain ⟨h1, h2⟩ := h.heap.rdv x v hx
    exact ⟨(World.cell?_alloc_lt _ _ _ (World.block_lt_of_cell? _ _ h1)).trans h1, h2⟩
  · intro k r p m hk hp hm
    rcases hcase k r hk with ⟨hlt, hk1⟩ | ⟨rfl, rfl⟩
    · exact h.heap.rds k r p m hk1 (hold_pl _ _ hlt hp) hm
    · rw [hself] at hp
      obtain rfl := Option.some.inj hp
      show G.rd _ = none
      cases hrd : G.rd ((⟨w.heap.size, 0, sz, cap⟩ : Place).cellAt m) with
      | none => rfl
      | some v =>
        have := World.block_lt_of_cell? _ _ (h.heap.rdv _ v hrd).1
        simp [Place.cellAt] at this
  · intro b hb hn
    rw [← h.frm.blk b hb hn]
    have := h.frm.size
    simp only [World.alloc, Array.getElem?_push]
    rw [if_neg (by omega)]
  · intro x hx hn
    have := h.frm.size
    rw [World.cell?_alloc_lt _ _ _ (by omega)]
    exact h.frm.cell x hx hn
  · intro x v hx hn
    have := h.frm.size
    have := World.block_lt_of_cell? _ _ hx
    rw [World.frozen?_alloc_old _ _ _ (by omega)]
    exact h.frm.frz x v hx hn
  · intro k r p m hk hp hm
    rcases hcase k r hk with ⟨hlt, hk1⟩ | ⟨rfl, rfl⟩
    · exact h.frm.mine k r p m hk1 (hold_pl _ _ hlt hp) hm
    · rw [hself] at hp
      obtain rfl := Option.some.inj hp
      exact .inl h.frm.size
  · exact fun x v hx => h.frm.rdn x v hx

/-- An object without a cell. -/
theorem RelG.newEmpty {E : Prg} {C : Ctx} {G : Gh} {st : St} {a : Act} {w : World} (h : RelG E C G st a w) (sz : Nat) :
    RelG E C (G.more st.objs.length ⟨0, 0, sz, 0⟩) { st with objs := st.objs ++ [some (.arr sz [])] } a w := by
  have hle : G.le (G.more st.objs.length ⟨0, 0, sz, 0⟩) := Gh.le_more h.heap _
  have hself : (G.more st.objs.length ⟨0, 0, sz, 0⟩).pl st.objs.length = some ⟨0, 0, sz, 0⟩ := by simp [Gh.more]
  have hcase : ∀ (k : Nat) (r : Ob) (p : Place) (m : Nat), (st.objs ++ [some (.arr sz [])])[k]? = some (some r) → (G.more st.objs.length ⟨0, 0, sz, 0⟩).pl k = some p → m < p.cap * p.sz → st.objs[k]? = some (some r) ∧ G.pl k = some p := by
    intro k r p m hk hp hm
    rw [getElem?_snoc] at hk
    by_cases h1 : k < st.objs.length
    · rw [if_pos h1] at hk
      refine ⟨hk, ?_⟩
      simp only [Gh.more] at hp; rwa [if_neg (by omega)] at hp
    · rw [if_neg h1] at hk
      by_cases h2 : k = st.objs.length
      · subst h2
        rw [hself] at hp
        obtain rfl := Option.some.inj hp
        simp at hm
      · rw [if_neg h2] at hk; cases hk
  refine ⟨fun t => (h.env t).mono hle, h.num, h.defs, ⟨?_, ?_, ?_, h.heap.rdv, ?_⟩, ⟨h.frm.os, h.frm.tape, h.frm.output, h.frm.size, h.frm.blk, h.frm.cell, h.frm.frz, ?_, h.frm.rdn, h.frm.le.trans hle, h.frm.mko⟩, fun g row hg => (h.glob g row hg).mono hle⟩
  · intro k p hp
    simp only [Gh.more] at hp
    split at hp
    · subst k; simp
    · have := h.heap.pls k p hp; simp; omega
  · intro k r hk
    rw [getElem?_snoc] at hk
    by_cases h1 : k < st.objs.length
    · rw [if_pos h1] at hk
      obtain ⟨p, hp, hl⟩ := h.heap.live k r hk
      exact ⟨p, hle.pl _ _ hp, hl.mono hle (fun _ _ => rfl) (fun _ _ => rfl) (fun _ h => h)⟩
    · rw [if_neg h1] at hk
      by_cases h2 : k = st.objs.length
      · subst h2
        rw [if_pos rfl] at hk
        obtain rfl : Ob.arr sz [] = r := by simpa using hk
        exact ⟨_, hself, rfl, by simp [Ob.rows], by simp [Ob.rows], fun m hm => by simp at hm, fun i j row c v hi => by simp [Ob.rows] at hi, fun h0 => by simp at h0⟩
      · rw [if_neg h2] at hk; cases hk
  · intro k k' r r' p p' m m' hk hk' hne hp hp' hm hm'
    obtain ⟨h1, h2⟩ := hcase k r p m hk hp hm
    obtain ⟨h3, h4⟩ := hcase k' r' p' m' hk' hp' hm'
    exact h.heap.sep k k' r r' p p' m m' h1 h3 hne h2 h4 hm hm'
  · intro k r p m hk hp hm
    obtain ⟨h1, h2⟩ := hcase k r p m hk hp hm
    exact h.heap.rds k r p m h1 h2 hm
  · intro k r p m hk hp hm
    obtain ⟨h1, h2⟩ := hcase k r p m hk hp hm
    exact h.frm.mine k r p m h1 h2 hm

/-- What a row of stores does. -/
structure Wrote (w w' : World) (R : Addr → Prop) : Prop where
  os : w'.os = w.os
  tape : w'.tape = w.tape
  output : w'.output = w.output
  size : w'.heap.size = w.heap.size
  blk : ∀ b, (∀ o, ¬ R ⟨b, o, none⟩) → w'.heap[b]? = w.heap[b]?
  cell : ∀ a, ¬ R a → w'.cell? a = w.cell? a
  frz : ∀ a, w'.frozen? a = w.frozen? a
  mko : ∀ b, MkOk w b → MkOk w' b

theorem Wrote.setCells (b : Nat) : ∀ (vs : List Value) (o : Nat) (w : World), Wrote w (w.setCells b o vs) (fun x => x.block = b ∧ x.spot = none ∧ o ≤ x.off ∧ x.off < o + vs.length)
  | [], o, w => ⟨rfl, rfl, rfl, rfl, fun _ _ => rfl, fun _ _ => rfl, fun _ => rfl, fun _ h => h⟩
  | v :: r, o, w => by
    have ih := Wrote.setCells b r (o + 1) (w.setCell ⟨b, o, none⟩ v)
    refine ⟨ih.os, ih.tape, ih.output, by rw [World.setCells, ih.size]; simp, fun k hk => ?_, fun x hx => ?_, fun x => World.frozen?_setCells _ _ _ _ _, fun k hk => ih.mko k fun cs T fr h1 => ?_⟩
    · have hb : k ≠ b := fun e => hk o ⟨e, rfl, Nat.le_refl _, by simp⟩
      rw [World.setCells, ih.blk k (fun q hq => hb hq.1)]
      simp only [World.setCell, Array.getElem?_modify]
      rw [if_neg (fun e => hb e.symm)]
    · exact World.cell?_setCells_out b (v :: r) o w x (fun h1 h2 => by
        rcases Nat.lt_or_ge x.off o with h3 | h3
        · exact .inl h3
        · rcases Nat.lt_or_ge x.off (o + (v :: r).length) with h4 | h4
          · exact absurd ⟨h1, h2, h3, h4⟩ hx
          · exact .inr h4)
    · simp only [World.setCell, Array.getElem?_modify] at h1
      split at h1
      · rename_i e
        subst e
        cases h2 : w.heap[b]? with
        | none => rw [h2] at h1; cases h1
        | some ob =>
          rw [h2] at h1
          cases ob with
          | cells c T0 f0 =>
            simp at h1
            obtain ⟨rfl, rfl, rfl⟩ := h1
            simpa using hk c T0 f0 h2
          | _ => simp at h1
      · exact hk cs T fr h1

theorem getElem?_set {α : Type} (l : List α) (k i : Nat) (x : α) : (l.set k x)[i]? = if k = i then (if k < l.length then some x else none) else l[i]? := by
  rw [List.getElem?_set]

/-- An object's cells are written. -/
theorem RelG.write {E : Prg} {C : Ctx} {G : Gh} {st : St} {a : Act} {w w' : World} (h : RelG E C G st a w) {o : Nat} {rows rows' : Ob} {p : Place} {R : Addr → Prop}
    (ho : st.objs[o]? = some (some rows)) (hp : G.pl o = some p) (hw : Wrote w w' R) (hR : ∀ x, R x → ∃ m, m < p.cap * p.sz ∧ x = p.cellAt m) (hl : LiveAt G w' p rows') :
    RelG E C G { st with objs := st.objs.set o (some rows') } a w' := by
  have hlen : o < st.objs.length := (List.getElem?_eq_some_iff.1 ho).1
  have hcase : ∀ (k : Nat) (r : Ob), (st.objs.set o (some rows'))[k]? = some (some r) → (k ≠ o ∧ st.objs[k]? = some (some r)) ∨ (k = o ∧ r = rows') := by
    intro k r hk
    rw [getElem?_set] at hk
    by_cases e : o = k
    · subst e; rw [if_pos rfl, if_pos hlen] at hk; exact .inr ⟨rfl, by simpa using hk.symm⟩
    · rw [if_neg e] at hk; exact .inl ⟨fun e' => e e'.symm, hk⟩
  have hany : ∀ (k : Nat) (r : Ob), (List.set st.objs o (some rows'))[k]? = some (some r) → ∃ r', st.objs[k]? = some (some r') := fun k r hk => by
    rcases hcase k r hk with ⟨_, h1⟩ | ⟨rfl, _⟩
    · exact ⟨_, h1⟩
    · exact ⟨_, ho⟩
  have hrd : ∀ x v, G.rd x = some v → ¬ R x := fun x v hx hRx => by
    obtain ⟨m, hm, rfl⟩ := hR x hRx
    rw [h.heap.rds o rows p m ho hp hm] at hx
    cases hx
  refine ⟨h.env, h.num, h.defs, ⟨?_, ?_, ?_, ?_, ?_⟩, ⟨hw.os.trans h.frm.os, hw.tape.trans h.frm.tape, hw.output.trans h.frm.output, by rw [hw.size]; exact h.frm.size, ?_, ?_, ?_, ?_, h.frm.rdn, h.frm.le, fun b hb h1 => hw.mko b (h.frm.mko b hb h1)⟩, h.glob⟩
  · intro k q hq; simpa using h.heap.pls k q hq
  · intro k r hk
    rcases hcase k r hk with ⟨hne, hk'⟩ | ⟨rfl, rfl⟩
    · obtain ⟨q, hq, hlq⟩ := h.heap.live k r hk'
      refine ⟨q, hq, hlq.mono (.refl _) (fun m hm => hw.cell _ (fun hRx => ?_)) (fun m _ => hw.frz _) (fun _ h1 => hw.mko _ h1)⟩
      obtain ⟨m', hm', e⟩ := hR _ hRx
      exact h.heap.sep k o r rows q p m m' hk' ho hne hq hp hm hm' e
    · exact ⟨p, hp, hl⟩
  · intro k k' r r' q q' m m' hk hk' hne hq hq' hm hm'
    obtain ⟨r1, h1⟩ := hany k r hk
    obtain ⟨r1', h1'⟩ := hany k' r' hk'
    exact h.heap.sep k k' r1 r1' q q' m m' h1 h1' hne hq hq' hm hm'
  · intro x v hx
    obtain ⟨h1, h2⟩ := h.heap.rdv x v hx
    exact ⟨(hw.cell x (hrd x v hx)).trans h1, h2⟩
  · intro k r q m hk hq hm
    obtain ⟨r1, h1⟩ := hany k r hk
    exact h.heap.rds k r1 q m h1 hq hm
  · intro b hb hn
    rw [← h.frm.blk b hb hn]
    refine hw.blk b (fun off hRx => ?_)
    obtain ⟨m, hm, e⟩ := hR _ hRx
    rcases h.frm.mine o rows p m ho hp hm with h1 | h1
    · have : b = p.block := congrArg Addr.block e
      omega
    · exact hn off (e ▸ h1)
  · intro x hx hn
    rw [← h.frm.cell x hx hn]
    refine hw.cell x (fun hRx => ?_)
    obtain ⟨m, hm, e⟩ := hR _ hRx
    rcases h.frm.mine o rows p m ho hp hm with h1 | h1
    · have : x.block = p.block := congrArg Addr.block e
      omega
    · exact hn (e ▸ h1)
  · intro x v hx hn; rw [hw.frz]; exact h.frm.frz x v hx hn
  · intro k r q m hk hq hm
    obtain ⟨r1, h1⟩ := hany k r hk
    exact h.frm.mine k r1 q m h1 hq hm

/-- An object is let go of. -/
theorem RelG.kill {E : Prg} {C : Ctx} {G : Gh} {st : St} {a : Act} {w : World} (h : RelG E C G st a w) (o : Nat) : RelG E C G { st with objs := st.objs.set o none } a w := by
  have hcase : ∀ (k : Nat) (r : Ob), (st.objs.set o none)[k]? = some (some r) → st.objs[k]? = some (some r) := by
    intro k r hk
    rw [getElem?_set] at hk
    by_cases e : o = k
    · rw [if_pos e] at hk
      by_cases e2 : o < st.objs.length
      · rw [if_pos e2] at hk; simp at hk
      · rw [if_neg e2] at hk; cases hk
    · rw [if_neg e] at hk; exact hk
  exact ⟨h.env, h.num, h.defs, ⟨fun k q hq => by simpa using h.heap.pls k q hq, fun k r hk => h.heap.live k r (hcase k r hk),
      fun k k' r r' q q' m m' hk hk' => h.heap.sep k k' r r' q q' m m' (hcase k r hk) (hcase k' r' hk'), h.heap.rdv, fun k r q m hk => h.heap.rds k r q m (hcase k r hk)⟩,
    ⟨h.frm.os, h.frm.tape, h.frm.output, h.frm.size, h.frm.blk, h.frm.cell, h.frm.frz, fun k r q m hk => h.frm.mine k r q m (hcase k r hk), h.frm.rdn, h.frm.le, h.frm.mko⟩, h.glob⟩

/-- The rear of an object is a new object; the old one is let go of. -/
theorem RelG.move {E : Prg} {C : Ctx} {G : Gh} {st : St} {a : Act} {w : World} (h : RelG E C G st a w) {o off sz : Nat} {rows : List (List DV)} {p : Place}
    (ho : st.objs[o]? = some (some (.arr sz rows))) (hp : G.pl o = some p) (hoff : off ≤ p.cap) :
    RelG E C (G.more st.objs.length ⟨p.block, p.off + off * p.sz, p.sz, p.cap - off⟩) { st with objs := st.objs.set o none ++ [some (.arr sz (rows.drop off))] } a w := by
  have hlen : o < st.objs.length := (List.getElem?_eq_some_iff.1 ho).1
  have hle := Gh.le_more h.heap ⟨p.block, p.off + off * p.sz, p.sz, p.cap - off⟩
  generalize hN : (⟨p.block, p.off + off * p.sz, p.sz, p.cap - off⟩ : Place) = N at *
  have hself : (G.more st.objs.length N).pl st.objs.length = some N := by simp [Gh.more]
  have hold_pl : ∀ k q, k < st.objs.length → (G.more st.objs.length N).pl k = some q → G.pl k = some q := fun k q hk hq => by
    simp only [Gh.more] at hq; rwa [if_neg (by omega)] at hq
  have hcase : ∀ (k : Nat) (r : Ob), (st.objs.set o none ++ [some (.arr sz (rows.drop off))])[k]? = some (some r) → (k < st.objs.length ∧ k ≠ o ∧ st.objs[k]? = some (some r)) ∨ (k = st.objs.length ∧ r = .arr sz (rows.drop off)) := by
    intro k r hk
    rw [getElem?_snoc] at hk
    simp only [List.length_set] at hk
    split at hk
    · rw [getElem?_set] at hk
      by_cases e : o = k
      · rw [if_pos e, if_pos hlen] at hk; simp at hk
      · rw [if_neg e] at hk; exact .inl ⟨‹_›, fun e' => e e'.symm, hk⟩
    · split at hk
      · exact .inr ⟨‹_›, by simpa using hk.symm⟩
      · cases hk
  have hmul : (p.cap - off) * p.sz + off * p.sz = p.cap * p.sz := by rw [← Nat.add_mul]; congr 1; omega
  have hin : ∀ m, m < N.cap * N.sz → off * p.sz + m < p.cap * p.sz ∧ N.cellAt m = p.cellAt (off * p.sz + m) := fun m hm => by
    subst hN
    simp only at hm
    exact ⟨by omega, by simp [Place.cellAt, Nat.add_assoc]⟩
  obtain ⟨p', hp', hl⟩ := h.heap.live o (.arr sz rows) ho
  obtain rfl : p' = p := Option.some.inj (hp' ▸ hp)
  refine ⟨fun t => (h.env t).mono hle, h.num, h.defs, ⟨?_, ?_, ?_, h.heap.rdv, ?_⟩, ⟨h.frm.os, h.frm.tape, h.frm.output, h.frm.size, h.frm.blk, h.frm.cell, h.frm.frz, ?_, h.frm.rdn, h.frm.le.trans hle, h.frm.mko⟩, fun g row hg => (h.glob g row hg).mono hle⟩
  · intro k q hq
    simp only [Gh.more] at hq
    split at hq
    · subst k; simp
    · have := h.heap.pls k q hq; simp; omega
  · intro k r hk
    rcases hcase k r hk with ⟨hlt, _, hk'⟩ | ⟨rfl, rfl⟩
    · obtain ⟨q, hq, hlq⟩ := h.heap.live k r hk'
      exact ⟨q, hle.pl _ _ hq, hlq.mono hle (fun _ _ => rfl) (fun _ _ => rfl) (fun _ h => h)⟩
    · refine ⟨N, hself, ?_, ?_, ?_, ?_, ?_, ?_⟩
      · have := hl.psz; subst hN; exact this
      · have := hl.fits; subst hN; simp [Ob.rows] at this ⊢; omega
      · intro row hr; have := hl.size row (List.mem_of_mem_drop hr); subst hN; exact this
      · intro m hm
        obtain ⟨h1, h2⟩ := hin m hm
        rw [h2]; exact hl.there _ h1
      · intro i j row c v hi hj hv
        simp only [Ob.rows] at hi
        rw [List.getElem?_drop] at hi
        have e : N.cellAt (i * N.sz + j) = p'.cellAt ((off + i) * p'.sz + j) := by
          subst hN
          simp only [Place.cellAt, Addr.mk.injEq, true_and, and_true]
          rw [Nat.add_mul]; omega
        rw [e] at hv
        exact (hl.holds (off + i) j row c v hi hj hv).mono hle
      · intro h0
        obtain ⟨h1, _⟩ := hin 0 h0
        have := hl.mko (by omega)
        subst hN
        exact this
  · intro k k' r r' q q' m m' hk hk' hne hq hq' hm hm' e
    rcases hcase k r hk with ⟨hlt, hno, hk1⟩ | ⟨rfl, rfl⟩ <;> rcases hcase k' r' hk' with ⟨hlt', hno', hk1'⟩ | ⟨rfl, rfl⟩
    · exact h.heap.sep k k' r r' q q' m m' hk1 hk1' hne (hold_pl _ _ hlt hq) (hold_pl _ _ hlt' hq') hm hm' e
    · rw [hself] at hq'
      obtain rfl := Option.some.inj hq'
      obtain ⟨h1, h2⟩ := hin m' hm'
      exact h.heap.sep k o r (.arr sz rows) q p' m _ hk1 ho hno (hold_pl _ _ hlt hq) hp hm h1 (h2 ▸ e)
    · rw [hself] at hq
      obtain rfl := Option.some.inj hq
      obtain ⟨h1, h2⟩ := hin m hm
      exact h.heap.sep k' o r' (.arr sz rows) q' p' m' _ hk1' ho hno' (hold_pl _ _ hlt' hq') hp hm' h1 (h2 ▸ e.symm)
    · exact hne rfl
  · intro k r q m hk hq hm
    rcases hcase k r hk with ⟨hlt, _, hk1⟩ | ⟨rfl, rfl⟩
    · exact h.heap.rds k r q m hk1 (hold_pl _ _ hlt hq) hm
    · rw [hself] at hq
      obtain rfl := Option.some.inj hq
      obtain ⟨h1, h2⟩ := hin m hm
      rw [h2]
      exact h.heap.rds o (.arr sz rows) p' _ ho hp h1
  · intro k r q m hk hq hm
    rcases hcase k r hk with ⟨hlt, _, hk1⟩ | ⟨rfl, rfl⟩
    · exact h.frm.mine k r q m hk1 (hold_pl _ _ hlt hq) hm
    · rw [hself] at hq
      obtain rfl := Option.some.inj hq
      obtain ⟨h1, h2⟩ := hin m hm
      rw [h2]
      have := h.frm.mine o (.arr sz rows) p' _ ho hp h1
      subst hN
      exact this

/-- What an own slice reads as, where its object is let go of; in cells, in values, in tuples. -/
def DV.frz0 (o sz : Nat) (rows : List (List DV)) : DV → DV
  | .own o' off n => if o' = o ∧ off + n ≤ rows.length then .sl sz ((rows.drop off).take n) .any else .own o' off n
  | d => d
def DV.frzA (o sz : Nat) (rows : List (List DV)) : DV → DV
  | .agg cs => .agg (cs.map (DV.frz0 o sz rows))
  | d => d.frz0 o sz rows
def DV.frzT (o sz : Nat) (rows : List (List DV)) : DV → DV
  | .tup cs => .tup (cs.map (DV.frzA o sz rows))
  | d => d.frzA o sz rows
def Ob.frz (o sz : Nat) (rows : List (List DV)) : Ob → Ob
  | .box cs => .box (cs.map (DV.frz0 o sz rows))
  | .arr s r => .arr s r
/-- From now on an object is only read: own slices of it become plain ones. -/
def St.freeze (o : Nat) (st : St) : St :=
  match st.objs[o]? with
  | some (some (.arr sz rows)) => { env := st.env.map (fun x => (x.1, x.2.frzT o sz rows)), objs := (st.objs.set o none).map (Option.map (Ob.frz o sz rows)) }
  | _ => st

theorem St.look_map (f : DV → DV) (hf : f .undef = .undef) (t : Nat) : ∀ l : List (Nat × DV), St.look t (l.map (fun x => (x.1, f x.2))) = f (St.look t l)
  | [] => hf.symm
  | (k, d) :: l => by
    simp only [List.map_cons, St.look]
    split
    · rfl
    · exact St.look_map f hf t l

open Classical in
noncomputable def Gh.fix (G : Gh) (w : World) (p : Place) (n : Nat) : Gh :=
  { rd := fun x => if ∃ m, m < n * p.sz ∧ x = p.cellAt m then w.cell? x else G.rd x, pl := G.pl }

theorem RelG.freeze {E : Prg} {C : Ctx} {G : Gh} {st : St} {a : Act} {w : World} (h : RelG E C G st a w) (o : Nat) : ∃ G', RelG E C G' (st.freeze o) a w := by
  unfold St.freeze
  split
  · rename_i sz rows ho
    obtain ⟨p, hp, hl⟩ := h.heap.live o _ ho
    have hfits : rows.length ≤ p.cap := hl.fits
    have hpsz : p.sz = sz := hl.psz
    have hlen : o < st.objs.length := (List.getElem?_eq_some_iff.1 ho).1
    have hext : ∀ m, m < rows.length * p.sz → m < p.cap * p.sz := fun m hm => Nat.lt_of_lt_of_le hm (Nat.mul_le_mul_right _ hfits)
    have hle : G.le (G.fix w p rows.length) := ⟨fun x v hx => by
      simp only [Gh.fix]
      split
      · rename_i hex
        obtain ⟨m, hm, rfl⟩ := hex
        rw [h.heap.rds o _ p m ho hp (hext m hm)] at hx
        cases hx
      · exact hx, fun _ _ x => x⟩
    have hin : ∀ m, m < rows.length * p.sz → (G.fix w p rows.length).rd (p.cellAt m) = w.cell? (p.cellAt m) := fun m hm => by
      simp only [Gh.fix]; rw [if_pos ⟨m, hm, rfl⟩]
    have hout : ∀ x v, (G.fix w p rows.length).rd x = some v → G.rd x = some v ∨ ∃ m, m < p.cap * p.sz ∧ x = p.cellAt m ∧ w.cell? x = some v := fun x v hx => by
      simp only [Gh.fix] at hx
      split at hx
      · rename_i hex
        obtain ⟨m, hm, rfl⟩ := hex
        exact .inr ⟨m, hext m hm, rfl, hx⟩
      · exact .inl hx
    have r0 : ∀ d v, Rel G d v → Rel (G.fix w p rows.length) (d.frz0 o sz rows) v := by
      intro d v r
      have r' := r.mono hle
      unfold DV.frz0
      split
      · rename_i o' off n
        split
        · rename_i hc
          obtain ⟨rfl, hfit⟩ := hc
          cases r with
          | own _ _ _ pl q c h1 h2 h3 h4 =>
            obtain rfl : pl = p := Option.some.inj (h1.symm.trans hp)
            have hidx : ∀ (i j : Nat) row c, ((rows.drop off).take n)[i]? = some row → row[j]? = some c → rows[off + i]? = some row ∧ (off + i) * pl.sz + j < rows.length * pl.sz := by
              intro i j row c hi hj
              rw [List.getElem?_take] at hi
              split at hi
              · rw [List.getElem?_drop] at hi
                refine ⟨hi, ?_⟩
                have h5 : off + i < rows.length := (List.getElem?_eq_some_iff.1 hi).1
                have h6 : j < row.length := (List.getElem?_eq_some_iff.1 hj).1
                have h7 := hl.size row (List.mem_of_getElem? hi)
                have h8 : (off + i + 1) * pl.sz ≤ rows.length * pl.sz := Nat.mul_le_mul_right _ (by omega)
                rw [Nat.add_mul] at h8
                omega
              · cases hi
            refine .sl sz _ .any q n c pl.block (pl.off + off * pl.sz) (fun i j => (w.cell? (pl.cellAt ((off + i) * pl.sz + j))).getD undef) (by simp; omega) (fun hq => Nat.eq_zero_of_not_pos fun hc => by rw [h4 hc] at hq; cases hq) (by omega) (fun hne => ?_) (fun i row hi => ?_) (fun i j row c hi hj => ?_) (fun i j row c hi hj => ?_)
            · refine h4 ?_
              have : n ≠ 0 := fun e => hne (by simp [e])
              omega
            · rw [List.getElem?_take] at hi
              split at hi
              · rw [List.getElem?_drop] at hi
                rw [← hpsz]; exact hl.size row (List.mem_of_getElem? hi)
              · cases hi
            · obtain ⟨h5, h6⟩ := hidx i j row c hi hj
              have e : (⟨pl.block, pl.off + off * pl.sz + (i * sz + j), none⟩ : Addr) = pl.cellAt ((off + i) * pl.sz + j) := by
                simp only [Place.cellAt, Addr.mk.injEq, true_and, and_true]
                rw [← hpsz, Nat.add_mul]; omega
              rw [e, hin _ h6]
              obtain ⟨u, hu, _⟩ := hl.there _ (hext _ h6)
              rw [hu]; rfl
            · obtain ⟨h5, h6⟩ := hidx i j row c hi hj
              obtain ⟨u, hu, _⟩ := hl.there _ (hext _ h6)
              simp only [hu, Option.getD_some]
              exact (hl.holds (off + i) j row c u h5 hj hu).mono hle
        · exact r'
      · exact r'
    have rA : ∀ d v, Rel G d v → Rel (G.fix w p rows.length) (d.frzA o sz rows) v := by
      intro d v r
      unfold DV.frzA
      split
      · cases r with
        | agg cs vs hs hc =>
          refine .agg _ vs (by simpa using hs) (fun i c hi => ?_)
          rw [List.getElem?_map] at hi
          obtain ⟨d, hd, rfl⟩ := Option.map_eq_some_iff.1 hi
          exact r0 _ _ (hc i d hd)
      · exact r0 _ _ r
    have rT : ∀ d v, Rel G d v → Rel (G.fix w p rows.length) (d.frzT o sz rows) v := by
      intro d v r
      unfold DV.frzT
      split
      · cases r with
        | tup cs vs hs hc =>
          refine .tup _ vs (by simpa using hs) (fun i c hi => ?_)
          rw [List.getElem?_map] at hi
          obtain ⟨d, hd, rfl⟩ := Option.map_eq_some_iff.1 hi
          exact rA _ _ (hc i d hd)
      · exact rA _ _ r
    have hcase : ∀ (k : Nat) (r : Ob), ((List.set st.objs o none).map (Option.map (Ob.frz o sz rows)))[k]? = some (some r) → ∃ r', k ≠ o ∧ st.objs[k]? = some (some r') ∧ r = r'.frz o sz rows := by
      intro k r hk
      rw [List.getElem?_map, getElem?_set] at hk
      by_cases e : o = k
      · rw [if_pos e, if_pos hlen] at hk; simp at hk
      · rw [if_neg e] at hk
        obtain ⟨x, hx, hx2⟩ := Option.map_eq_some_iff.1 hk
        obtain ⟨y, hy, hy2⟩ := Option.map_eq_some_iff.1 hx2
        exact ⟨y, fun e' => e e'.symm, by rw [hx, hy], hy2.symm⟩
    refine ⟨G.fix w p rows.length, fun t => ?_, h.num, h.defs, ⟨?_, ?_, ?_, ?_, ?_⟩, ⟨h.frm.os, h.frm.tape, h.frm.output, h.frm.size, h.frm.blk, h.frm.cell, h.frm.frz, ?_, ?_, h.frm.le.trans hle, h.frm.mko⟩, fun g row hg => (h.glob g row hg).mono hle⟩
    · show Rel _ (St.look t _) _
      rw [St.look_map (DV.frzT o sz rows) rfl]
      exact rT _ _ (h.env t)
    · intro k q hq
      simpa using h.heap.pls k q hq
    · intro k r hk
      obtain ⟨r', hne, hk', rfl⟩ := hcase k r hk
      obtain ⟨q, hq, hlq⟩ := h.heap.live k r' hk'
      refine ⟨q, hq, ?_⟩
      cases r' with
      | arr s rs => exact hlq.mono hle (fun _ _ => rfl) (fun _ _ => rfl) (fun _ h => h)
      | box cs =>
        refine ⟨by have := hlq.psz; simpa [Ob.frz, Ob.sz] using this, by simpa [Ob.rows, Ob.frz] using hlq.fits, fun row hr => ?_, hlq.there, fun i j row c v hi hj hv => ?_, hlq.mko⟩
        · have := hlq.size cs (by simp [Ob.rows])
          simp [Ob.rows, Ob.frz] at hr; subst hr; simpa using this
        · simp only [Ob.rows, Ob.frz] at hi
          rcases i with _ | i
          · simp at hi; subst hi
            rw [List.getElem?_map] at hj
            obtain ⟨d, hd, rfl⟩ := Option.map_eq_some_iff.1 hj
            exact r0 _ _ (hlq.holds 0 j cs d v (by simp [Ob.rows]) hd hv)
          · simp at hi
    · intro k k' r r' q q' m m' hk hk' hne hq hq' hm hm'
      obtain ⟨s, _, h1, _⟩ := hcase k r hk
      obtain ⟨s', _, h1', _⟩ := hcase k' r' hk'
      exact h.heap.sep k k' s s' q q' m m' h1 h1' hne hq hq' hm hm'
    · intro x v hx
      rcases hout x v hx with h1 | ⟨m, hm, rfl, h1⟩
      · exact h.heap.rdv x v h1
      · obtain ⟨u, hu, hu2, _⟩ := hl.there m hm
        obtain rfl : u = v := Option.some.inj (hu.symm.trans h1)
        exact ⟨h1, hu2⟩
    · intro k r q m hk hq hm
      obtain ⟨s, hne, h1, _⟩ := hcase k r hk
      cases hrd : (G.fix w p rows.length).rd (q.cellAt m) with
      | none => rfl
      | some v =>
        rcases hout _ v hrd with h2 | ⟨m', hm', e, _⟩
        · rw [h.heap.rds k s q m h1 hq hm] at h2; cases h2
        · exact absurd e (h.heap.sep k o s _ q p m m' h1 ho hne hq hp hm hm')
    · intro k r q m hk hq hm
      obtain ⟨s, _, h1, _⟩ := hcase k r hk
      exact h.frm.mine k s q m h1 hq hm
    · intro x v hx
      rcases hout x v hx with h1 | ⟨m, hm, rfl, _⟩
      · exact h.frm.rdn x v h1
      · exact .inr (h.frm.mine o _ p m ho hp hm)
  · exact ⟨G, h⟩

end Go.Proofs.Ytaopaongpoecoaa
