/- Each operation does what 'rval' says: literals of structs and slices, copy, '==' of structs. -/
import Derived.Test.YteemmpghpdaloaaDoorAb9
set_option linter.unusedVariables false
set_option linter.unusedSimpArgs false
namespace Go.Proofs.YteemmpghpdaloaaDoor
open Go.RowKit

theorem seg_list (off : Nat) : ∀ (l : List Value) (k : Nat) (cs : Array Value), ((l.zipIdx k).foldl (fun (cs : Array Value) (x : Value × Nat) => cs.setIfInBounds (off + x.2) x.1) cs).size = cs.size ∧
    ∀ m, ((l.zipIdx k).foldl (fun (cs : Array Value) (x : Value × Nat) => cs.setIfInBounds (off + x.2) x.1) cs)[m]? = if off + k ≤ m ∧ m < off + k + l.length ∧ m < cs.size then l[m - (off + k)]? else cs[m]?
  | [], k, cs => ⟨rfl, fun m => by rw [if_neg (by simp; omega)]; rfl⟩
  | v :: l, k, cs => by
    obtain ⟨h1, h2⟩ := seg_list off l (k + 1) (cs.setIfInBounds (off + k) v)
    refine ⟨by simpa [List.zipIdx_cons] using h1, fun m => ?_⟩
    simp only [List.zipIdx_cons, List.foldl_cons]
    rw [h2]
    simp only [Array.size_setIfInBounds, List.length_cons]
    by_cases hm : off + (k + 1) ≤ m ∧ m < off + (k + 1) + l.length ∧ m < cs.size
    · rw [if_pos hm, if_pos (by omega)]
      rw [show m - (off + k) = (m - (off + (k + 1))) + 1 by omega, List.getElem?_cons_succ]
    · rw [if_neg hm, Array.getElem?_setIfInBounds]
      by_cases he : off + k = m
      · rw [if_pos he]
        by_cases hs : m < cs.size
        · rw [if_pos (by omega), if_pos (by omega), show m - (off + k) = 0 by omega]; rfl
        · rw [if_neg (by omega), if_neg (by omega)]
          exact (Array.getElem?_eq_none (by omega)).symm
      · rw [if_neg he, if_neg (by omega)]

def putSeg (cs : Array Value) (off : Nat) (vs : Array Value) : Array Value := vs.zipIdx.foldl (fun (cs : Array Value) (x : Value × Nat) => cs.setIfInBounds (off + x.2) x.1) cs
theorem putSeg_eq (cs : Array Value) (off : Nat) (vs : Array Value) : putSeg cs off vs = ((vs.toList.zipIdx 0).foldl (fun (cs : Array Value) (x : Value × Nat) => cs.setIfInBounds (off + x.2) x.1) cs) := by
  unfold putSeg
  rw [← Array.foldl_toList, Array.toList_zipIdx]
theorem putSeg_size (cs : Array Value) (off : Nat) (vs : Array Value) : (putSeg cs off vs).size = cs.size := by
  rw [putSeg_eq]; exact (seg_list off vs.toList 0 cs).1
theorem putSeg_get (cs : Array Value) (off : Nat) (vs : Array Value) (h : off + vs.size ≤ cs.size) (m : Nat) : (putSeg cs off vs)[m]? = if off ≤ m ∧ m < off + vs.size then vs[m - off]? else cs[m]? := by
  rw [putSeg_eq, (seg_list off vs.toList 0 cs).2 m]
  simp only [Nat.add_zero, Array.length_toList]
  by_cases hm : off ≤ m ∧ m < off + vs.size
  · rw [if_pos hm, if_pos (by omega), Array.getElem?_toList]
  · rw [if_neg hm, if_neg (by omega)]

theorem fill_cons (place : Nat → Option (Nat × Nat)) (cells : Array Value) (i : Nat) (v : Value) (rest : List (Nat × Value)) (off size : Nat) (hp : place i = some (off, size)) (h1 : v.cells.size = size) (h2 : off + v.cells.size ≤ cells.size) :
    Instr.fill place cells ((i, v) :: rest) = Instr.fill place (putSeg cells off v.cells) rest := by
  have : (decide (v.cells.size ≠ size) || decide (off + v.cells.size > cells.size)) = false := by simp; omega
  rw [Instr.fill]
  simp only [hp, this, Bool.false_eq_true, if_false]
  rfl

/-- How the parts of a literal stand to their abstract form. -/
def partsOk (place : Nat → Option (Nat × Nat)) : List (Nat × Operand) → List (Nat × Nat × Opd) → Prop
  | [], [] => True
  | (i, x) :: l, (off, sz, y) :: l' => place i = some (off, sz) ∧ copd x = some y ∧ partsOk place l l'
  | _, _ => False

def bstep (E : Prg) (st : St) (acc : Option (List DV)) (x : Nat × Nat × Opd) : Option (List DV) := match acc, (x.2.2.ev E st).cells with
      | some cs, some new => if new.length = x.2.1 ∧ x.1 + new.length ≤ cs.length then some (rowSet cs x.1 new) else none
      | _, _ => none
theorem bstep_none (E : Prg) (st : St) : ∀ l : List (Nat × Nat × Opd), l.foldl (bstep E st) none = none
  | [] => rfl
  | x :: l => by simp only [List.foldl_cons]; rw [show bstep E st none x = none from rfl]; exact bstep_none E st l

theorem fill_build {E : Prg} {C : Ctx} {G : Gh} {st : St} {a : Act} {w : World} (hr : RelG E C G st a w) (place : Nat → Option (Nat × Nat)) : ∀ (parts : List (Nat × Operand)) (parts' : List (Nat × Nat × Opd)) (cur : Array Value) (ds cs : List DV),
    partsOk place parts parts' → cur.size = ds.length → (∀ (i : Nat) c, ds[i]? = some c → Rel G c (cur.getD i undef)) → parts'.foldl (bstep E st) (some ds) = some cs →
    ∃ cur', Instr.fill place cur (parts.map fun x => (x.1, a.eval x.2)) = some cur' ∧ cur'.size = cs.length ∧ ∀ (i : Nat) c, cs[i]? = some c → Rel G c (cur'.getD i undef)
  | [], [], cur, ds, cs, _, hs, hrel, h => by
    obtain rfl := Option.some.inj h
    exact ⟨cur, rfl, hs, hrel⟩
  | (i, x) :: l, (off, sz, y) :: l', cur, ds, cs, hp, hs, hrel, h => by
    obtain ⟨hp1, hp2, hp3⟩ := hp
    simp only [List.foldl_cons] at h
    cases hc : (y.ev E st).cells with
    | none =>
      rw [show bstep E st (some ds) (off, sz, y) = none by simp [bstep, hc], bstep_none] at h
      cases h
    | some new =>
      by_cases hcond : new.length = sz ∧ off + new.length ≤ ds.length
      · rw [show bstep E st (some ds) (off, sz, y) = some (rowSet ds off new) by simp only [bstep, hc]; rw [if_pos hcond]] at h
        obtain ⟨hvs, hvr⟩ := (hr.ev hp2).cells hc
        have hle : off + (a.eval x).cells.size ≤ cur.size := by omega
        obtain ⟨cur', h1, h2, h3⟩ := fill_build hr place l l' (putSeg cur off (a.eval x).cells) (rowSet ds off new) cs hp3 (by rw [putSeg_size, rowSet_length _ _ _ hcond.2, hs]) (fun m c hm => by
          rw [rowSet_get _ _ _ hcond.2] at hm
          rw [Array.getD_eq_getD_getElem?, putSeg_get _ _ _ hle]
          by_cases hin : off ≤ m ∧ m < off + (a.eval x).cells.size
          · rw [if_pos hin, ← Array.getD_eq_getD_getElem?]
            rw [if_neg (by omega), if_pos (by omega)] at hm
            exact hvr _ c hm
          · rw [if_neg hin, ← Array.getD_eq_getD_getElem?]
            have hm' : ds[m]? = some c := by
              split at hm
              · exact hm
              · rw [if_neg (by omega)] at hm; exact hm
            exact hrel m c hm') h
        refine ⟨cur', ?_, h2, h3⟩
        simp only [List.map_cons]
        rw [fill_cons place cur i _ _ off sz hp1 (by omega) hle]
        exact h1
      · rw [show bstep E st (some ds) (off, sz, y) = none by simp only [bstep, hc]; rw [if_neg hcond], bstep_none] at h
        cases h
  | [], _ :: _, _, _, _, hp, _, _, _ => hp.elim
  | _ :: _, [], _, _, _, hp, _, _, _ => hp.elim

theorem run_places {P : Program} {w : World} : ∀ (l : List Field), (∀ f, f ∈ l → (P.info? f.type).isSome = true) →
    ((l.mapM fun f => do pure (f.offset, ← sizeOf f.type)) : Sem (List (Nat × Nat))).run P w = .ok (l.map fun f => (f.offset, P.cellsOf f.type)) w
  | [], _ => by simp
  | f :: l, h => by
    have ih := run_places (w := w) l (fun x hx => h x (by simp [hx]))
    obtain ⟨i, hi⟩ := Option.isSome_iff_exists.1 (h f (by simp))
    have hs : (sizeOf f.type).run P w = .ok i.size w := by simp [sizeOf, typeInfo, hi]
    have hc : P.cellsOf f.type = i.size := by simp [Program.cellsOf, hi]
    simp only [List.mapM_cons, Sem.run_bind, hs, Result.andThen_ok, Sem.run_pure, ih, List.map_cons, hc]

theorem ok_build {E : Prg} {o : Oper} {t : TypeId} {parts : Array (Nat × Operand)} {parts' : List (Nat × Nat × Opd)} {fs : Array Field} {zero : List DV} (ho : o.op = .build t parts) (ht : E.P.underlying t = some (.struct fs)) (hz : tyZero E.P t = some zero)
    (hall : ∀ f, f ∈ fs.toList → (E.P.info? f.type).isSome = true) (hp : partsOk (fun i => (fs[i]?).map fun f => (f.offset, E.P.cellsOf f.type)) parts.toList parts') : OpOk E o (.build zero parts') := by
  refine OpOk.quiet fun C G st a w d objs' hr hv => ?_
  simp only [rval] at hv
  obtain ⟨cs, hcs, he⟩ := Option.map_eq_some_iff.1 hv
  obtain ⟨rfl, rfl⟩ := Prod.mk.inj he
  obtain ⟨v, hv1, hv2⟩ := run_zeroValue hz w
  obtain ⟨hs, hone, hrel⟩ := dvOfs_cells (G := G) hv2
  have hpl : ((fs.mapM fun f => do pure (f.offset, ← sizeOf f.type)) : Sem (Array (Nat × Nat))).run E.P w = .ok (fs.map fun f => (f.offset, E.P.cellsOf f.type)) w := by
    have := run_places (P := E.P) (w := w) fs.toList hall
    rw [← Array.toArray_toList (xs := fs)]
    rw [List.mapM_toArray]
    simp only [Sem.run_map, this, Result.andThen_ok]
    congr 1
    apply Array.ext'
    simp
  obtain ⟨cur', h1, h2, h3⟩ := fill_build hr (fun i => (fs.map fun f => (f.offset, E.P.cellsOf f.type))[i]?) parts.toList parts' v.cells zero cs (by simpa using hp) hs hrel hcs
  refine ⟨rfl, .agg cur', ?_, .agg cs cur' h2 h3⟩
  have hm : (parts.map fun x => (x.1, a.eval x.2)).toList = parts.toList.map fun x => (x.1, a.eval x.2) := by simp
  have h1' : Instr.fill (fun i => (fs.map fun f => (f.offset, E.P.cellsOf f.type))[i]?) v.cells (parts.map fun x => (x.1, a.eval x.2)).toList = some cur' := by rw [hm]; exact h1
  simp only [execOp, ho, Instr.build, Sem.run_bind, hv1, Result.andThen_ok, run_underlying ht, hpl, Sem.run_pure]
  rw [h1']
  rfl

def mstep (E : Prg) (st : St) (sz : Nat) (acc : Option (List (List DV))) (x : Nat × Opd) : Option (List (List DV)) := match acc, (x.2.ev E st).cells with
      | some rows, some new => if new.length = sz ∧ x.1 < rows.length ∧ new.all DV.one = true then some (rows.set x.1 new) else none
      | _, _ => none
theorem mstep_none (E : Prg) (st : St) (sz : Nat) : ∀ l : List (Nat × Opd), l.foldl (mstep E st sz) none = none
  | [] => rfl
  | x :: l => by simp only [List.foldl_cons]; rw [show mstep E st sz none x = none from rfl]; exact mstep_none E st sz l

def partsOk2 : List (Nat × Operand) → List (Nat × Opd) → Prop
  | [], [] => True
  | (i, x) :: l, (j, y) :: l' => i = j ∧ copd x = some y ∧ partsOk2 l l'
  | _, _ => False

structure RowsIn (G : Gh) (cur : Array Value) (rows : List (List DV)) (sz : Nat) : Prop where
  size : cur.size = rows.length * sz
  ok : rowsOk sz rows
  one : ∀ (m : Nat) v, cur[m]? = some v → v.oneCell' = true
  rel : ∀ (i j : Nat) row c, rows[i]? = some row → row[j]? = some c → Rel G c (cur.getD (i * sz + j) undef)

theorem fill_mkrow {E : Prg} {C : Ctx} {G : Gh} {st : St} {a : Act} {w : World} (hr : RelG E C G st a w) (sz : Nat) : ∀ (parts : List (Nat × Operand)) (parts' : List (Nat × Opd)) (cur : Array Value) (rows rows' : List (List DV)),
    partsOk2 parts parts' → RowsIn G cur rows sz → parts'.foldl (mstep E st sz) (some rows) = some rows' →
    ∃ cur', Instr.fill (fun i => some (i * sz, sz)) cur (parts.map fun x => (x.1, a.eval x.2)) = some cur' ∧ RowsIn G cur' rows' sz ∧ rows'.length = rows.length
  | [], [], cur, rows, rows', _, hin, h => by
    obtain rfl := Option.some.inj h
    exact ⟨cur, rfl, hin, rfl⟩
  | (i, x) :: l, (j, y) :: l', cur, rows, rows', hp, hin, h => by
    obtain ⟨rfl, hp2, hp3⟩ := hp
    simp only [List.foldl_cons] at h
    cases hc : (y.ev E st).cells with
    | none =>
      rw [show mstep E st sz (some rows) (i, y) = none by simp [mstep, hc], mstep_none] at h
      cases h
    | some new =>
      by_cases hcond : new.length = sz ∧ i < rows.length ∧ new.all DV.one = true
      · rw [show mstep E st sz (some rows) (i, y) = some (rows.set i new) by simp only [mstep, hc]; rw [if_pos hcond]] at h
        obtain ⟨hvs, hvr⟩ := (hr.ev hp2).cells hc
        have h5 : (i + 1) * sz ≤ rows.length * sz := Nat.mul_le_mul_right _ hcond.2.1
        rw [Nat.add_mul] at h5
        have hsz := hin.size
        have hle : i * sz + (a.eval x).cells.size ≤ cur.size := by omega
        obtain ⟨cur', h1, h2, h3⟩ := fill_mkrow hr sz l l' (putSeg cur (i * sz) (a.eval x).cells) (rows.set i new) rows' hp3 ⟨by rw [putSeg_size, List.length_set]; exact hin.size, fun row hrow => by
            rcases List.mem_or_eq_of_mem_set hrow with h | h
            · exact hin.ok row h
            · subst h; exact hcond.1, fun m v hm => by
            rw [putSeg_get _ _ _ hle] at hm
            split at hm
            · rename_i hmm
              have hlt : m - i * sz < new.length := by omega
              have h6 := hvr (m - i * sz) new[m - i * sz] (List.getElem?_eq_getElem hlt)
              rw [Array.getD_eq_getD_getElem?, hm] at h6
              exact h6.oneCell (List.all_eq_true.1 hcond.2.2 _ (List.getElem_mem hlt))
            · exact hin.one m v hm, fun i' j' row c hi' hj' => by
            rw [Array.getD_eq_getD_getElem?, putSeg_get _ _ _ hle]
            rw [List.getElem?_set] at hi'
            by_cases he : i = i'
            · subst he
              rw [if_pos rfl, if_pos hcond.2.1] at hi'
              obtain rfl := Option.some.inj hi'
              have hlt : j' < new.length := (List.getElem?_eq_some_iff.1 hj').1
              rw [if_pos (by omega), Nat.add_sub_cancel_left, ← Array.getD_eq_getD_getElem?]
              exact hvr j' c hj'
            · rw [if_neg he] at hi'
              have hlt : j' < row.length := (List.getElem?_eq_some_iff.1 hj').1
              have h7 := hin.ok row (List.mem_of_getElem? hi')
              have hno : ¬ (i * sz ≤ i' * sz + j' ∧ i' * sz + j' < i * sz + (a.eval x).cells.size) := by
                rcases Nat.lt_or_gt_of_ne he with h8 | h8
                · have : (i + 1) * sz ≤ i' * sz := Nat.mul_le_mul_right _ h8
                  rw [Nat.add_mul] at this
                  omega
                · have : (i' + 1) * sz ≤ i * sz := Nat.mul_le_mul_right _ h8
                  rw [Nat.add_mul] at this
                  omega
              rw [if_neg hno, ← Array.getD_eq_getD_getElem?]
              exact hin.rel i' j' row c hi' hj'⟩ h
        refine ⟨cur', ?_, h2, by rw [h3, List.length_set]⟩
        simp only [List.map_cons]
        rw [fill_cons _ cur i _ _ (i * sz) sz rfl (by omega) hle]
        exact h1
      · rw [show mstep E st sz (some rows) (i, y) = none by simp only [mstep, hc]; rw [if_neg hcond], mstep_none] at h
        cases h
  | [], _ :: _, _, _, _, hp, _, _ => hp.elim
  | _ :: _, [], _, _, _, hp, _, _ => hp.elim

theorem ok_mkrow {E : Prg} {o : Oper} {t e : TypeId} {len sz : Nat} {parts : Array (Nat × Operand)} {parts' : List (Nat × Opd)} {zero : List DV} (ho : o.op = .buildSlice t len parts) (ht : E.P.underlying t = some (.slice e)) (hsz : tySize E.P e = some sz) (hz : tyZero E.P e = some zero)
    (hzl : zero.length = sz) (hmax : len * sz ≤ 16777216) (hp : partsOk2 parts.toList parts') : OpOk E o (.mkrow sz zero len parts') := by
  intro C G st a w d objs' hr hv
  simp only [rval] at hv
  obtain ⟨rows', hcs, he⟩ := Option.map_eq_some_iff.1 hv
  obtain ⟨rfl, rfl⟩ := Prod.mk.inj he
  obtain ⟨v, hv1, hv2⟩ := run_zeroValue hz w
  obtain ⟨hs, hone, hrel⟩ := dvOfs_cells (G := G) hv2
  have hzz : v.cells.size = sz := by rw [hs, hzl]
  -- the zero cells
  obtain ⟨z0, hz0⟩ : ∃ z0 : Array Value, z0 = if len * sz = 0 then #[] else v.cells := ⟨_, rfl⟩
  have hz1 : len * sz ≠ 0 → z0 = v.cells := fun h => by rw [hz0, if_neg h]
  have hget : ∀ m, m < len * sz → 0 < sz ∧ z0[m % z0.size]! = v.cells.getD (m % sz) undef := fun m hm => by
    have hne : len * sz ≠ 0 := by omega
    have hpos : 0 < sz := by
      rcases Nat.eq_zero_or_pos sz with h | h
      · subst h; simp at hm
      · exact h
    refine ⟨hpos, ?_⟩
    rw [hz1 hne]
    have hlt : m % sz < v.cells.size := by rw [hzz]; exact Nat.mod_lt _ hpos
    rw [hzz, getElem!_pos v.cells (m % sz) hlt]
    simp [Array.getD_eq_getD_getElem?, hlt]
  have hin : RowsIn G ((Array.range (len * sz)).map (z0[· % z0.size]!)) (List.replicate len zero) sz := by
    refine ⟨by simp, fun row hrow => by rw [(List.mem_replicate.1 hrow).2, hzl], fun m x hm => ?_, fun i j row c hi hj => ?_⟩
    · have hlt : m < len * sz := by simpa using (Array.getElem?_eq_some_iff.1 hm).1
      obtain ⟨hpos, he⟩ := hget m hlt
      rw [Array.getElem?_map, Array.getElem?_range, if_pos hlt] at hm
      simp only [Option.map_some, Option.some.injEq] at hm
      subst hm
      rw [he]
      have hlt2 : m % sz < v.cells.size := by rw [hzz]; exact Nat.mod_lt _ hpos
      rw [Array.getD_eq_getD_getElem?, Array.getElem?_eq_getElem hlt2]
      exact hone (m % sz) _ (by simp [hlt2])
    · rw [List.getElem?_replicate] at hi
      split at hi
      · rename_i hlt
        obtain rfl := Option.some.inj hi
        have hjl : j < sz := by rw [← hzl]; exact (List.getElem?_eq_some_iff.1 hj).1
        have h5 : (i + 1) * sz ≤ len * sz := Nat.mul_le_mul_right _ hlt
        rw [Nat.add_mul] at h5
        have hm : i * sz + j < len * sz := by omega
        obtain ⟨hpos, he⟩ := hget _ hm
        rw [Array.getD_eq_getD_getElem?, Array.getElem?_map, Array.getElem?_range, if_pos hm]
        simp only [Option.map_some, Option.getD_some]
        rw [he, show (i * sz + j) % sz = j by rw [Nat.mul_comm, Nat.mul_add_mod, Nat.mod_eq_of_lt hjl]]
        exact hrel j c hj
      · cases hi
  obtain ⟨cur', h1, h2, h3⟩ := fill_mkrow hr sz parts.toList parts' _ _ rows' hp hin hcs
  have hm : (parts.map fun x => (x.1, a.eval x.2)).toList = parts.toList.map fun x => (x.1, a.eval x.2) := by simp
  rw [← hm] at h1
  have hlen : rows'.length = len := by simpa using h3
  obtain ⟨G', g1, g2⟩ := hr.newRows e (0, 0) rows' sz len cur'.toList [] (.inl rfl) h2.ok (by simpa using h2.size) (by simp [hlen]) (by omega)
    (fun x hx => by
      obtain ⟨m, hmm⟩ := List.getElem?_of_mem hx
      exact h2.one m x (by simpa using hmm)) (by simp) (fun i j row c hi hj => by
      have hlt := idx_lt h2.ok hi hj
      have hr' := h2.rel i j row c hi hj
      rw [← h2.size] at hlt
      rw [Array.getD_eq_getD_getElem?, Array.getElem?_eq_getElem hlt] at hr'
      exact ⟨cur'[i * sz + j], by simp [hlt], hr'⟩)
  simp only [List.append_nil, Array.toArray_toList] at g1
  have hno : ¬ (16777216 < len * sz) := by omega
  refine ⟨_, _, _, G', ?_, .inl rfl, g1, g2 len (Nat.le_refl _)⟩
  have hfin : (Instr.buildSlice t len (parts.map fun x => (x.1, a.eval x.2))).run E.P w = .ok (.slice (some ⟨w.heap.size, 0, none⟩) len len) (w.alloc (.cells cur' e)) := by
    simp only [Instr.buildSlice, Sem.run_bind, run_underlying ht, Result.andThen_ok, run_sizeOf hsz]
    rw [if_neg (by simpa using hno)]
    by_cases h0 : len * sz = 0
    · rw [if_pos h0] at hz0 ⊢
      subst hz0
      simp only [Sem.run_bind, Sem.run_pure, Result.andThen_ok, h1, newRow, run_newObj]
      rfl
    · rw [if_neg h0] at hz0 ⊢
      subst hz0
      simp only [Sem.run_bind, Sem.run_pure, Result.andThen_ok, hv1, h1, newRow, run_newObj]
      rfl
  simp only [execOp, ho, Sem.run_bind, hfin, Result.andThen_ok, Sem.run_pure]

end Go.Proofs.YteemmpghpdaloaaDoor
