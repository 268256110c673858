/- Each operation does what 'rval' says: literals of structs and slices, copy, '==' of structs. -/
import Derived.Test.YtaopaongpoecoaaAb9
import Derived.Laws.StructEq
import Derived.ChangeKeysEq
set_option linter.unusedVariables false
set_option linter.unusedSimpArgs false
namespace Go.Proofs.Ytaopaongpoecoaa
open Go.RowKit

theorem seg_list (off : Nat) : ∀ (l : List Value) (k : Nat) (cs : Array Value), ((l.zipIdx k).foldl (fun (cs : Array Value) (x : Value × Nat) => cs.setIfInBounds (off + x.2) x.1) cs).size = cs.size ∧
    ∀ m, ((l.zipIdx k).foldl (fun (cs : Array Value) (x : Value × Nat) => cs.setIfInBounds (off + x.2) x.1) cs)[m]? = if off + k ≤ m ∧ m < off + k + l.length ∧ m < cs.size then l[m - (off + k)]? else cs[m]?
  | [], k, cs => ⟨rfl, fun m => by rw [if_neg (by simp; omega)]; rfl⟩
  | v :: l, k, cs => by
    obtain ⟨h1, h2⟩ := seg_list off l (k + 1) (cs.setIfInBounds (off + k) v)
    refine ⟨by simpa [List.zipIdx_cons] using h1, fun m => ?_⟩
    simp only [List.zipIdx_cons, List.foldl_cons]
    rw [h2]
    simp only [Array.size_setIfInBounds, List.length_cons]
    by_cases hm : off + (k + 1) ≤ m ∧ m < off + (k + 1) + l.length ∧ m < cs.size
    · rw [if_pos hm, if_pos (by omega)]
      rw [show m - (off + k) = (m - (off + (k + 1))) + 1 by omega, List.getElem?_cons_succ]
    · rw [if_neg hm, Array.getElem?_setIfInBounds]
      by_cases he : off + k = m
      · rw [if_pos he]
        by_cases hs : m < cs.size
        · rw [if_pos (by omega), if_pos (by omega), show m - (off + k) = 0 by omega]; rfl
        · rw [if_neg (by omega), if_neg (by omega)]
          exact (Array.getElem?_eq_none (by omega)).symm
      · rw [if_neg he, if_neg (by omega)]

def putSeg (cs : Array Value) (off : Nat) (vs : Array Value) : Array Value := vs.zipIdx.foldl (fun (cs : Array Value) (x : Value × Nat) => cs.setIfInBounds (off + x.2) x.1) cs
theorem putSeg_eq (cs : Array Value) (off : Nat) (vs : Array Value) : putSeg cs off vs = ((vs.toList.zipIdx 0).foldl (fun (cs : Array Value) (x : Value × Nat) => cs.setIfInBounds (off + x.2) x.1) cs) := by
  unfold putSeg
  rw [← Array.foldl_toList, Array.toList_zipIdx]
theorem putSeg_size (cs : Array Value) (off : Nat) (vs : Array Value) : (putSeg cs off vs).size = cs.size := by
  rw [putSeg_eq]; exact (seg_list off vs.toList 0 cs).1
theorem putSeg_get (cs : Array Value) (off : Nat) (vs : Array Value) (h : off + vs.size ≤ cs.size) (m : Nat) : (putSeg cs off vs)[m]? = if off ≤ m ∧ m < off + vs.size then vs[m - off]? else cs[m]? := by
  rw [putSeg_eq, (seg_list off vs.toList 0 cs).2 m]
  simp only [Nat.add_zero, Array.length_toList]
  by_cases hm : off ≤ m ∧ m < off + vs.size
  · rw [if_pos hm, if_pos (by omega), Array.getElem?_toList]
  · rw [if_neg hm, if_neg (by omega)]

theorem fill_cons (place : Nat → Option (Nat × Nat)) (cells : Array Value) (i : Nat) (v : Value) (rest : List (Nat × Value)) (off size : Nat) (hp : place i = some (off, size)) (h1 : v.cells.size = size) (h2 : off + v.cells.size ≤ cells.size) :
    Instr.fill place cells ((i, v) :: rest) = Instr.fill place (putSeg cells off v.cells) rest := by
  have : (decide (v.cells.size ≠ size) || decide (off + v.cells.size > cells.size)) = false := by simp; omega
  rw [Instr.fill]
  simp only [hp, this, Bool.false_eq_true, if_false]
  rfl

/-- How the parts of a literal stand to their abstract form. -/
def partsOk (place : Nat → Option (Nat × Nat)) : List (Nat × Operand) → List (Nat × Nat × Opd) → Prop
  | [], [] => True
  | (i, x) :: l, (off, sz, y) :: l' => place i = some (off, sz) ∧ copd x = some y ∧ partsOk place l l'
  | _, _ => False

def bstep (E : Prg) (st : St) (acc : Option (List DV)) (x : Nat × Nat × Opd) : Option (List DV) := match acc, (x.2.2.ev E st).cells with
      | some cs, some new => if new.length = x.2.1 ∧ x.1 + new.length ≤ cs.length then some (rowSet cs x.1 new) else none
      | _, _ => none
theorem bstep_none (E : Prg) (st : St) : ∀ l : List (Nat × Nat × Opd), l.foldl (bstep E st) none = none
  | [] => rfl
  | x :: l => by simp only [List.foldl_cons]; rw [show bstep E st none x = none from rfl]; exact bstep_none E st l

theorem fill_build {E : Prg} {C : Ctx} {G : Gh} {st : St} {a : Act} {w : World} (hr : RelG E C G st a w) (place : Nat → Option (Nat × Nat)) : ∀ (parts : List (Nat × Operand)) (parts' : List (Nat × Nat × Opd)) (cur : Array Value) (ds cs : List DV),
    partsOk place parts parts' → cur.size = ds.length → (∀ (i : Nat) c, ds[i]? = some c → Rel G c (cur.getD i undef)) → parts'.foldl (bstep E st) (some ds) = some cs →
    ∃ cur', Instr.fill place cur (parts.map fun x => (x.1, a.eval x.2)) = some cur' ∧ cur'.size = cs.length ∧ ∀ (i : Nat) c, cs[i]? = some c → Rel G c (cur'.getD i undef)
  | [], [], cur, ds, cs, _, hs, hrel, h => by
    obtain rfl := Option.some.inj h
    exact ⟨cur, rfl, hs, hrel⟩
  | (i, x) :: l, (off, sz, y) :: l', cur, ds, cs, hp, hs, hrel, h => by
    obtain ⟨hp1, hp2, hp3⟩ := hp
    simp only [List.foldl_cons] at h
    cases hc : (y.ev E st).cells with
    | none =>
      rw [show bstep E st (some ds) (off, sz, y) = none by simp [bstep, hc], bstep_none] at h
      cases h
    | some new =>
      by_cases hcond : new.length = sz ∧ off + new.length ≤ ds.length
      · rw [show bstep E st (some ds) (off, sz, y) = some (rowSet ds off new) by simp only [bstep, hc]; rw [if_pos hcond]] at h
        obtain ⟨hvs, hvr⟩ := (hr.ev hp2).cells hc
        have hle : off + (a.eval x).cells.size ≤ cur.size := by omega
        obtain ⟨cur', h1, h2, h3⟩ := fill_build hr place l l' (putSeg cur off (a.eval x).cells) (rowSet ds off new) cs hp3 (by rw [putSeg_size, rowSet_length _ _ _ hcond.2, hs]) (fun m c hm => by
          rw [rowSet_get _ _ _ hcond.2] at hm
          rw [Array.getD_eq_getD_getElem?, putSeg_get _ _ _ hle]
          by_cases hin : off ≤ m ∧ m < off + (a.eval x).cells.size
          · rw [if_pos hin, ← Array.getD_eq_getD_getElem?]
            rw [if_neg (by omega), if_pos (by omega)] at hm
            exact hvr _ c hm
          · rw [if_neg hin, ← Array.getD_eq_getD_getElem?]
            have hm' : ds[m]? = some c := by
              split at hm
              · exact hm
              · rw [if_neg (by omega)] at hm; exact hm
            exact hrel m c hm') h
        refine ⟨cur', ?_, h2, h3⟩
        simp only [List.map_cons]
        rw [fill_cons place cur i _ _ off sz hp1 (by omega) hle]
        exact h1
      · rw [show bstep E st (some ds) (off, sz, y) = none by simp only [bstep, hc]; rw [if_neg hcond], bstep_none] at h
        cases h
  | [], _ :: _, _, _, _, hp, _, _, _ => hp.elim
  | _ :: _, [], _, _, _, hp, _, _, _ => hp.elim

theorem run_places {P : Program} {w : World} : ∀ (l : List Field), (∀ f, f ∈ l → (P.info? f.type).isSome = true) →
    ((l.mapM fun f => do pure (f.offset, ← sizeOf f.type)) : Sem (List (Nat × Nat))).run P w = .ok (l.map fun f => (f.offset, P.cellsOf f.type)) w
  | [], _ => by simp
  | f :: l, h => by
    have ih := run_places (w := w) l (fun x hx => h x (by simp [hx]))
    obtain ⟨i, hi⟩ := Option.isSome_iff_exists.1 (h f (by simp))
    have hs : (sizeOf f.type).run P w = .ok i.size w := by simp [sizeOf, typeInfo, hi]
    have hc : P.cellsOf f.type = i.size := by simp [Program.cellsOf, hi]
    simp only [List.mapM_cons, Sem.run_bind, hs, Result.andThen_ok, Sem.run_pure, ih, List.map_cons, hc]

theorem ok_build {E : Prg} {o : Oper} {t : TypeId} {parts : Array (Nat × Operand)} {parts' : List (Nat × Nat × Opd)} {fs : Array Field} {zero : List DV} (ho : o.op = .build t parts) (ht : E.P.underlying t = some (.struct fs)) (hz : tyZero E.P t = some zero)
    (hall : ∀ f, f ∈ fs.toList → (E.P.info? f.type).isSome = true) (hp : partsOk (fun i => (fs[i]?).map fun f => (f.offset, E.P.cellsOf f.type)) parts.toList parts') : OpOk E o (.build zero parts') := by
  refine OpOk.quiet fun C G st a w d objs' hr hv => ?_
  simp only [rval] at hv
  obtain ⟨cs, hcs, he⟩ := Option.map_eq_some_iff.1 hv
  obtain ⟨rfl, rfl⟩ := Prod.mk.inj he
  obtain ⟨v, hv1, hv2⟩ := run_zeroValue hz w
  obtain ⟨hs, hone, hrel⟩ := dvOfs_cells (G := G) hv2
  have hpl : ((fs.mapM fun f => do pure (f.offset, ← sizeOf f.type)) : Sem (Array (Nat × Nat))).run E.P w = .ok (fs.map fun f => (f.offset, E.P.cellsOf f.type)) w := by
    have := run_places (P := E.P) (w := w) fs.toList hall
    rw [← Array.toArray_toList (xs := fs)]
    rw [List.mapM_toArray]
    simp only [Sem.run_map, this, Result.andThen_ok]
    congr 1
    apply Array.ext'
    simp
  obtain ⟨cur', h1, h2, h3⟩ := fill_build hr (fun i => (fs.map fun f => (f.offset, E.P.cellsOf f.type))[i]?) parts.toList parts' v.cells zero cs (by simpa using hp) hs hrel hcs
  refine ⟨rfl, .agg cur', ?_, .agg cs cur' h2 h3⟩
  have hm : (parts.map fun x => (x.1, a.eval x.2)).toList = parts.toList.map fun x => (x.1, a.eval x.2) := by simp
  have h1' : Instr.fill (fun i => (fs.map fun f => (f.offset, E.P.cellsOf f.type))[i]?) v.cells (parts.map fun x => (x.1, a.eval x.2)).toList = some cur' := by rw [hm]; exact h1
  simp only [execOp, ho, Instr.build, Sem.run_bind, hv1, Result.andThen_ok, run_underlying ht, hpl, Sem.run_pure]
  rw [h1']
  rfl

def mstep (E : Prg) (st : St) (sz : Nat) (acc : Option (List (List DV))) (x : Nat × Opd) : Option (List (List DV)) := match acc, (x.2.ev E st).cells with
      | some rows, some new => if new.length = sz ∧ x.1 < rows.length ∧ new.all DV.one = true then some (rows.set x.1 new) else none
      | _, _ => none
theorem mstep_none (E : Prg) (st : St) (sz : Nat) : ∀ l : List (Nat × Opd), l.foldl (mstep E st sz) none = none
  | [] => rfl
  | x :: l => by simp only [List.foldl_cons]; rw [show mstep E st sz none x = none from rfl]; exact mstep_none E st sz l

def partsOk2 : List (Nat × Operand) → List (Nat × Opd) → Prop
  | [], [] => True
  | (i, x) :: l, (j, y) :: l' => i = j ∧ copd x = some y ∧ partsOk2 l l'
  | _, _ => False

structure RowsIn (G : Gh) (cur : Array Value) (rows : List (List DV)) (sz : Nat) : Prop where
  size : cur.size = rows.length * sz
  ok : rowsOk sz rows
  one : ∀ (m : Nat) v, cur[m]? = some v → v.oneCell' = true
  rel : ∀ (i j : Nat) row c, rows[i]? = some row → row[j]? = some c → Rel G c (cur.getD (i * sz + j) undef)

theorem fill_mkrow {E : Prg} {C : Ctx} {G : Gh} {st : St} {a : Act} {w : World} (hr : RelG E C G st a w) (sz : Nat) : ∀ (parts : List (Nat × Operand)) (parts' : List (Nat × Opd)) (cur : Array Value) (rows rows' : List (List DV)),
    partsOk2 parts parts' → RowsIn G cur rows sz → parts'.foldl (mstep E st sz) (some rows) = some rows' →
    ∃ cur', Instr.fill (fun i => some (i * sz, sz)) cur (parts.map fun x => (x.1, a.eval x.2)) = some cur' ∧ RowsIn G cur' rows' sz ∧ rows'.length = rows.length
  | [], [], cur, rows, rows', _, hin, h => by
    obtain rfl := Option.some.inj h
    exact ⟨cur, rfl, hin, rfl⟩
  | (i, x) :: l, (j, y) :: l', cur, rows, rows', hp, hin, h => by
    obtain ⟨rfl, hp2, hp3⟩ := hp
    simp only [List.foldl_cons] at h
    cases hc : (y.ev E st).cells with
    | none =>
      rw [show mstep E st sz (some rows) (i, y) = none by simp [mstep, hc], mstep_none] at h
      cases h
    | some new =>
      by_cases hcond : new.length = sz ∧ i < rows.length ∧ new.all DV.one = true
      · rw [show mstep E st sz (some rows) (i, y) = some (rows.set i new) by simp only [mstep, hc]; rw [if_pos hcond]] at h
        obtain ⟨hvs, hvr⟩ := (hr.ev hp2).cells hc
        have h5 : (i + 1) * sz ≤ rows.length * sz := Nat.mul_le_mul_right _ hcond.2.1
        rw [Nat.add_mul] at h5
        have hsz := hin.size
        have hle : i * sz + (a.eval x).cells.size ≤ cur.size := by omega
        obtain ⟨cur', h1, h2, h3⟩ := fill_mkrow hr sz l l' (putSeg cur (i * sz) (a.eval x).cells) (rows.set i new) rows' hp3 ⟨by rw [putSeg_size, List.length_set]; exact hin.size, fun row hrow => by
            rcases List.mem_or_eq_of_mem_set hrow with h | h
            · exact hin.ok row h
            · subst h; exact hcond.1, fun m v hm => by
            rw [putSeg_get _ _ _ hle] at hm
            split at hm
            · rename_i hmm
              have hlt : m - i * sz < new.length := by omega
              have h6 := hvr (m - i * sz) new[m - i * sz] (List.getElem?_eq_getElem hlt)
              rw [Array.getD_eq_getD_getElem?, hm] at h6
              exact h6.oneCell (List.all_eq_true.1 hcond.2.2 _ (List.getElem_mem hlt))
            · exact hin.one m v hm, fun i' j' row c hi' hj' => by
            rw [Array.getD_eq_getD_getElem?, putSeg_get _ _ _ hle]
            rw [List.getElem?_set] at hi'
            by_cases he : i = i'
            · subst he
              rw [if_pos rfl, if_pos hcond.2.1] at hi'
              obtain rfl := Option.some.inj hi'
              have hlt : j' < new.length := (List.getElem?_eq_some_iff.1 hj').1
              rw [if_pos (by omega), Nat.add_sub_cancel_left, ← Array.getD_eq_getD_getElem?]
              exact hvr j' c hj'
            · rw [if_neg he] at hi'
              have hlt : j' < row.length := (List.getElem?_eq_some_iff.1 hj').1
              have h7 := hin.ok row (List.mem_of_getElem? hi')
              have hno : ¬ (i * sz ≤ i' * sz + j' ∧ i' * sz + j' < i * sz + (a.eval x).cells.size) := by
                rcases Nat.lt_or_gt_of_ne he with h8 | h8
                · have : (i + 1) * sz ≤ i' * sz := Nat.mul_le_mul_right _ h8
                  rw [Nat.add_mul] at this
                  omega
                · have : (i' + 1) * sz ≤ i * sz := Nat.mul_le_mul_right _ h8
                  rw [Nat.add_mul] at this
                  omega
              rw [if_neg hno, ← Array.getD_eq_getD_getElem?]
              exact hin.rel i' j' row c hi' hj'⟩ h
        refine ⟨cur', ?_, h2, by rw [h3, List.length_set]⟩
        simp only [List.map_cons]
        rw [fill_cons _ cur i _ _ (i * sz) sz rfl (by omega) hle]
        exact h1
      · rw [show mstep E st sz (some rows) (i, y) = none by simp only [mstep, hc]; rw [if_neg hcond], mstep_none] at h
        cases h
  | [], _ :: _, _, _, _, hp, _, _ => hp.elim
  | _ :: _, [], _, _, _, hp, _, _ => hp.elim

theorem ok_mkrow {E : Prg} {o : Oper} {t e : TypeId} {len sz : Nat} {parts : Array (Nat × Operand)} {parts' : List (Nat × Opd)} {zero : List DV} (ho : o.op = .buildSlice t len parts) (ht : E.P.underlying t = some (.slice e)) (hsz : tySize E.P e = some sz) (hz : tyZero E.P e = some zero)
    (hzl : zero.length = sz) (hmax : len * sz ≤ 16777216) (hp : partsOk2 parts.toList parts') : OpOk E o (.mkrow sz zero len parts') := by
  intro C G st a w d objs' hr hv
  simp only [rval] at hv
  obtain ⟨rows', hcs, he⟩ := Option.map_eq_some_iff.1 hv
  obtain ⟨rfl, rfl⟩ := Prod.mk.inj he
  obtain ⟨v, hv1, hv2⟩ := run_zeroValue hz w
  obtain ⟨hs, hone, hrel⟩ := dvOfs_cells (G := G) hv2
  have hzz : v.cells.size = sz := by rw [hs, hzl]
  -- the zero cells
  obtain ⟨z0, hz0⟩ : ∃ z0 : Array Value, z0 = if len * sz = 0 then #[] else v.cells := ⟨_, rfl⟩
  have hz1 : len * sz ≠ 0 → z0 = v.cells := fun h => by rw [hz0, if_neg h]
  have hget : ∀ m, m < len * sz → 0 < sz ∧ z0[m % z0.size]! = v.cells.getD (m % sz) undef := fun m hm => by
    have hne : len * sz ≠ 0 := by omega
    have hpos : 0 < sz := by
      rcases Nat.eq_zero_or_pos sz with h | h
      · subst h; simp at hm
      · exact h
    refine ⟨hpos, ?_⟩
    rw [hz1 hne]
    have hlt : m % sz < v.cells.size := by rw [hzz]; exact Nat.mod_lt _ hpos
    rw [hzz, getElem!_pos v.cells (m % sz) hlt]
    simp [Array.getD_eq_getD_getElem?, hlt]
  have hin : RowsIn G ((Array.range (len * sz)).map (z0[· % z0.size]!)) (List.replicate len zero) sz := by
    refine ⟨by simp, fun row hrow => by rw [(List.mem_replicate.1 hrow).2, hzl], fun m x hm => ?_, fun i j row c hi hj => ?_⟩
    · have hlt : m < len * sz := by simpa using (Array.getElem?_eq_some_iff.1 hm).1
      obtain ⟨hpos, he⟩ := hget m hlt
      rw [Array.getElem?_map, Array.getElem?_range, if_pos hlt] at hm
      simp only [Option.map_some, Option.some.injEq] at hm
      subst hm
      rw [he]
      have hlt2 : m % sz < v.cells.size := by rw [hzz]; exact Nat.mod_lt _ hpos
      rw [Array.getD_eq_getD_getElem?, Array.getElem?_eq_getElem hlt2]
      exact hone (m % sz) _ (by simp [hlt2])
    · rw [List.getElem?_replicate] at hi
      split at hi
      · rename_i hlt
        obtain rfl := Option.some.inj hi
        have hjl : j < sz := by rw [← hzl]; exact (List.getElem?_eq_some_iff.1 hj).1
        have h5 : (i + 1) * sz ≤ len * sz := Nat.mul_le_mul_right _ hlt
        rw [Nat.add_mul] at h5
        have hm : i * sz + j < len * sz := by omega
        obtain ⟨hpos, he⟩ := hget _ hm
        rw [Array.getD_eq_getD_getElem?, Array.getElem?_map, Array.getElem?_range, if_pos hm]
        simp only [Option.map_some, Option.getD_some]
        rw [he, show (i * sz + j) % sz = j by rw [Nat.mul_comm, Nat.mul_add_mod, Nat.mod_eq_of_lt hjl]]
        exact hrel j c hj
      · cases hi
  obtain ⟨cur', h1, h2, h3⟩ := fill_mkrow hr sz parts.toList parts' _ _ rows' hp hin hcs
  have hm : (parts.map fun x => (x.1, a.eval x.2)).toList = parts.toList.map fun x => (x.1, a.eval x.2) := by simp
  rw [← hm] at h1
  have hlen : rows'.length = len := by simpa using h3
  obtain ⟨G', g1, g2⟩ := hr.newRows e (0, 0) rows' sz len cur'.toList [] (.inl rfl) h2.ok (by simpa using h2.size) (by simp [hlen]) (by omega)
    (fun x hx => by
      obtain ⟨m, hmm⟩ := List.getElem?_of_mem hx
      exact h2.one m x (by simpa using hmm)) (by simp) (fun i j row c hi hj => by
      have hlt := idx_lt h2.ok hi hj
      have hr' := h2.rel i j row c hi hj
      rw [← h2.size] at hlt
      rw [Array.getD_eq_getD_getElem?, Array.getElem?_eq_getElem hlt] at hr'
      exact ⟨cur'[i * sz + j], by simp [hlt], hr'⟩)
  simp only [List.append_nil, Array.toArray_toList] at g1
  have hno : ¬ (16777216 < len * sz) := by omega
  refine ⟨_, _, _, G', ?_, .inl rfl, g1, g2 len (Nat.le_refl _)⟩
  have hfin : (Instr.buildSlice t len (parts.map fun x => (x.1, a.eval x.2))).run E.P w = .ok (.slice (some ⟨w.heap.size, 0, none⟩) len len) (w.alloc (.cells cur' e)) := by
    simp only [Instr.buildSlice, Sem.run_bind, run_underlying ht, Result.andThen_ok, run_sizeOf hsz]
    rw [if_neg (by simpa using hno)]
    by_cases h0 : len * sz = 0
    · rw [if_pos h0] at hz0 ⊢
      subst hz0
      simp only [Sem.run_bind, Sem.run_pure, Result.andThen_ok, h1, newRow, run_newObj]
      rfl
    · rw [if_neg h0] at hz0 ⊢
      subst hz0
      simp only [Sem.run_bind, Sem.run_pure, Result.andThen_ok, hv1, h1, newRow, run_newObj]
      rfl
  simp only [execOp, ho, Sem.run_bind, hfin, Result.andThen_ok, Sem.run_pure]

/-! ### copy -/
theorem splice_get {α : Type} (rows new : List α) (off k i : Nat) (h : off + k ≤ rows.length) (hk : k ≤ new.length) :
    (rows.take off ++ new.take k ++ rows.drop (off + k))[i]? = if i < off then rows[i]? else if i < off + k then new[i - off]? else rows[i]? := by
  have h1 : (rows.take off).length = off := by rw [List.length_take]; omega
  have h2 : (new.take k).length = k := by rw [List.length_take]; omega
  by_cases c1 : i < off
  · rw [if_pos c1, List.append_assoc, List.getElem?_append_left (by omega), List.getElem?_take_of_lt c1]
  · rw [if_neg c1]
    by_cases c2 : i < off + k
    · rw [if_pos c2, List.getElem?_append_left (by simp; omega), List.getElem?_append_right (by omega), h1, List.getElem?_take_of_lt (by omega)]
    · rw [if_neg c2, List.getElem?_append_right (by simp; omega), List.length_append, h1, h2, List.getElem?_drop]
      congr 1; omega
theorem run_copy_ab {P : Program} {w : World} {t t2 ty e : TypeId} {sz n sLen dLen dCap : Nat} {p : Option Addr} {x : Value} {news : List Value} (ht : P.underlying t = some (.slice e)) (hsz : tySize P e = some sz)
    (hl : (Builtin.lenOf x).run P w = .ok sLen w) (hn : n = Nat.min sLen dLen) (hf : (Builtin.firstCells sz n x).run P w = .ok news.toArray w) :
    (Builtin.copy_ #[t, t2] ty #[.slice p dLen dCap, x]).run P w = (match p with
      | some A => (storeCells A news).run P w
      | none => .ok () w).andThen fun _ w' => .ok (goInt n) w' := by
  subst hn
  cases p <;> simp [Builtin.copy_, run_underlying ht, run_sizeOf hsz, hl, hf]
theorem ok_copy {E : Prg} {o : Oper} {c : Call} {t t2 e : TypeId} {sz : Nat} {x1 x2 : Operand} {y1 y2 : Opd} (ho : o.op = .call c) (hc : c.callee = .builtin .copy) (hargs : c.args = #[x1, x2]) (hty : c.argTypes = #[t, t2]) (ht' : E.P.underlying t = some (.slice e))
    (hsz : tySize E.P e = some sz) (h1 : copd x1 = some y1) (h2 : copd x2 = some y2) : OpOk E o (.copy sz y1 y2) := by
  intro C G st a w d objs' hr hv
  simp only [rval] at hv
  have r1 := hr.ev h1
  have r2 := hr.ev h2
  generalize hu : a.eval x1 = u at r1
  generalize hu2 : a.eval x2 = u2 at r2
  have hex : ∀ v w', (Builtin.copy_ #[t, t2] o.type #[u, u2]).run E.P w = .ok v w' → (execOp a.eval o).run E.P w = .ok (.value v) w' := fun v w' h => by
    simp [execOp, ho, resolve, hc, hargs, hty, hu, hu2, invoke, builtin, h]
  split at hv
  rotate_left
  · cases hv
  rename_i ob off n s2 new e1 e2
  rw [e1] at r1
  split at hv
  rotate_left
  · cases hv
  rename_i s rows hob
  split at hv
  rotate_left
  · cases hv
  rename_i hcond
  obtain ⟨hfit, hs, hss⟩ := hcond
  subst hs
  simp only [Option.some.injEq, Prod.mk.injEq] at hv
  obtain ⟨rfl, rfl⟩ := hv
  obtain ⟨hok, cs, hcs⟩ := src_cells hr r2 e2 hss
  obtain ⟨p, hp, hl⟩ := hr.heap.live ob _ hob
  have hpsz : p.sz = s := hl.psz
  have hfits : rows.length ≤ p.cap := hl.fits
  have hobl : ob < st.objs.length := (List.getElem?_eq_some_iff.1 hob).1
  generalize hk : min new.length n = k
  have hkn : k ≤ new.length := by omega
  have hkn2 : off + k ≤ rows.length := by omega
  cases r1 with
  | own _ _ _ q A c2 hq hcap hfit2 hA =>
    obtain rfl : q = p := Option.some.inj (hq.symm.trans hp)
    have hf := hcs.run k hkn w (fun _ _ h => h)
    have hrun := run_copy_ab (P := E.P) (w := w) (t2 := t2) (ty := o.type) (p := A) (dLen := n) (dCap := c2) ht' hsz (hcs.lenOf w) (n := k) hk.symm hf
    have hint : ∀ G0 : Gh, Rel G0 (.int .i64 (k : Nat)) (goInt k) := fun G0 => .int _ _
    by_cases hk0 : k = 0
    · subst hk0
      have hst0 : st.objs.set ob (some (.arr s (rows.take off ++ new.take 0 ++ rows.drop (off + 0)))) = st.objs := by
        simp only [List.take_zero, List.append_nil, Nat.add_zero, List.take_append_drop]
        apply List.ext_getElem?
        intro i
        rw [getElem?_set]
        split
        · rename_i h; subst h; first | (rw [if_pos hobl, hob]; done) | exact hob.symm
        · rfl
      refine ⟨_, _, w, G, hex _ w (by rw [hrun]; cases A <;> simp [storeCells]), .inl rfl, ?_, hint G⟩
      simp only [hst0]
      exact hr
    · have hn0 : 0 < n := by omega
      obtain rfl := hA (by omega)
      have hcl : (cs.take (k * s)).length = k * s := by
        rw [List.length_take, hcs.len]
        have : k * s ≤ new.length * s := Nat.mul_le_mul_right _ hkn
        omega
      have hcap2 : (off + k) * s ≤ q.cap * s := Nat.mul_le_mul_right _ (by omega)
      rw [Nat.add_mul] at hcap2
      have hin : ∀ m, m < (cs.take (k * s)).length → off * s + m < q.cap * q.sz := fun m hm => by
        rw [hcl] at hm; rw [hpsz]; omega
      have hone : ∀ u, u ∈ cs.take (k * s) → u.oneCell' = true := fun u h => hcs.one u (List.mem_of_mem_take h)
      have hst := run_storeCells_cells (P := E.P) q.block (q.off + off * s) (cs.take (k * s)) 0 w
        (fun m hm => by
          obtain ⟨v, hv, _⟩ := hl.there _ (hin m hm)
          have : (⟨q.block, q.off + off * s + 0 + m, none⟩ : Addr) = q.cellAt (off * s + m) := by simp [Place.cellAt]; omega
          rw [this, hv]; rfl)
        (fun m hm => by
          obtain ⟨v, _, _, hv⟩ := hl.there _ (hin m hm)
          have : (⟨q.block, q.off + off * s + 0 + m, none⟩ : Addr) = q.cellAt (off * s + m) := by simp [Place.cellAt]; omega
          rw [this, hv]) hone
      have hw := Wrote.setCells q.block (cs.take (k * s)) (q.off + off * s) w
      rw [Nat.add_zero] at hst
      have hins := World.cell?_setCells_in q.block (cs.take (k * s)) (q.off + off * s) w (fun m hm => by
          obtain ⟨v, hv, _⟩ := hl.there _ (hin m hm)
          have : (⟨q.block, q.off + off * s + m, none⟩ : Addr) = q.cellAt (off * s + m) := by simp [Place.cellAt]; omega
          rw [this, hv]; rfl)
      have hins' : ∀ m (hm : m < (cs.take (k * s)).length), (w.setCells q.block (q.off + off * s) (cs.take (k * s))).cell? (q.cellAt (off * s + m)) = some (cs.take (k * s))[m] := fun m hm => by
        have : (⟨q.block, q.off + off * s + m, none⟩ : Addr) = q.cellAt (off * s + m) := by simp [Place.cellAt]; omega
        rw [← this]; exact hins m hm
      have houts : ∀ m, (m < off * s ∨ off * s + k * s ≤ m) → (w.setCells q.block (q.off + off * s) (cs.take (k * s))).cell? (q.cellAt m) = w.cell? (q.cellAt m) := fun m hm => by
        refine hw.cell _ (fun hx => ?_)
        obtain ⟨_, _, h1, h2⟩ := hx
        simp only [hcl] at h2
        simp [Place.cellAt] at h1 h2
        omega
      have hlive : LiveAt G (w.setCells q.block (q.off + off * s) (cs.take (k * s))) q (.arr s (rows.take off ++ new.take k ++ rows.drop (off + k))) := by
        refine ⟨hpsz, by simp [Ob.rows]; omega, fun row hrow => ?_, fun m hm => ?_, fun i' j' row c' v hi' hj' hv' => ?_, fun h0 => hw.mko _ (hl.mko h0)⟩
        · obtain ⟨i, hi⟩ := List.getElem?_of_mem hrow
          simp only [Ob.rows] at hi
          rw [splice_get _ _ _ _ _ hkn2 hkn] at hi
          split at hi
          · exact hl.size row (List.mem_of_getElem? hi)
          · split at hi
            · rw [hpsz]; exact hok row (List.mem_of_getElem? hi)
            · exact hl.size row (List.mem_of_getElem? hi)
        · obtain ⟨v, hv, hv1, hv2⟩ := hl.there m hm
          by_cases hR : off * s ≤ m ∧ m < off * s + k * s
          · have := hins' (m - off * s) (by omega)
            rw [show off * s + (m - off * s) = m by omega] at this
            exact ⟨_, this, hone _ (List.getElem_mem _), by rw [hw.frz]; exact hv2⟩
          · exact ⟨v, by rw [houts m (by omega)]; exact hv, hv1, by rw [hw.frz]; exact hv2⟩
        · simp only [Ob.rows] at hi'
          rw [splice_get _ _ _ _ _ hkn2 hkn] at hi'
          have old : rows[i']? = some row → (i' < off ∨ off + k ≤ i') → Rel G c' v := fun hi2 hlt => by
            have h3 := hl.size row (List.mem_of_getElem? hi2)
            have h4 : j' < row.length := (List.getElem?_eq_some_iff.1 hj').1
            have hcase : i' * q.sz + j' < off * s ∨ off * s + k * s ≤ i' * q.sz + j' := by
              rw [hpsz] at h3 ⊢
              rcases hlt with h5 | h5
              · left
                have : (i' + 1) * s ≤ off * s := Nat.mul_le_mul_right _ h5
                rw [Nat.add_mul] at this; omega
              · right
                have : (off + k) * s ≤ i' * s := Nat.mul_le_mul_right _ h5
                rw [Nat.add_mul] at this; omega
            rw [houts _ hcase] at hv'
            exact hl.holds i' j' row c' v hi2 hj' hv'
          by_cases c1 : i' < off
          · rw [if_pos c1] at hi'; exact old hi' (.inl c1)
          · rw [if_neg c1] at hi'
            by_cases c2' : i' < off + k
            · rw [if_pos c2'] at hi'
              obtain ⟨u, hu, hur⟩ := hcs.rel _ j' row c' hi' hj'
              have h3 := hok row (List.mem_of_getElem? hi')
              have h4 : j' < row.length := (List.getElem?_eq_some_iff.1 hj').1
              have h6 : (i' - off + 1) * s ≤ k * s := Nat.mul_le_mul_right _ (by omega)
              rw [Nat.add_mul] at h6
              have hlt2 : (i' - off) * s + j' < (cs.take (k * s)).length := by rw [hcl]; omega
              have := hins' _ hlt2
              have e : off * s + ((i' - off) * s + j') = i' * q.sz + j' := by
                rw [hpsz, ← Nat.add_assoc, ← Nat.add_mul]; congr 2; omega
              rw [e, hv'] at this
              have h5 : (cs.take (k * s))[(i' - off) * s + j'] = u := by
                rw [List.getElem_take]; exact (List.getElem?_eq_some_iff.1 hu).2
              rw [h5] at this
              obtain rfl := Option.some.inj this
              exact hur
            · rw [if_neg c2'] at hi'; exact old hi' (.inr (by omega))
      have hwr := hr.write hob hp hw (fun x hx => by
        obtain ⟨hx1, hx2, hx3, hx4⟩ := hx
        rw [hcl] at hx4
        refine ⟨x.off - q.off, ?_, ?_⟩
        · have := hin (x.off - (q.off + off * s)) (by rw [hcl]; omega); omega
        · obtain ⟨xb, xo, xs⟩ := x
          simp at hx1 hx2 hx3 hx4 ⊢
          subst hx1 hx2
          simp [Place.cellAt]; omega) hlive
      have hbase : (q.cellAt (off * q.sz)) = ⟨q.block, q.off + off * s, none⟩ := by rw [hpsz]; rfl
      refine ⟨_, _, _, G, hex _ (w.setCells q.block (q.off + off * s) (cs.take (k * s))) (by rw [hrun]; simp only [hbase, hst, Result.andThen_ok]), .inl rfl, hwr, hint G⟩

/-! ### Interfaces -/
theorem ok_mkIfc {E : Prg} {o : Oper} {t : TypeId} {x : Operand} {y : Opd} {k : TypeDesc} (ho : o.op = .makeInterface t x) (ht : E.P.underlying t = some k) (hk : ∀ ms, k ≠ .interface ms) (hx : copd x = some y) : OpOk E o (.mkIfc t y) := by
  refine OpOk.quiet fun C G st a w d objs' hr hv => ?_
  simp only [rval] at hv
  have r1 := hr.ev hx
  generalize hu : a.eval x = u at r1
  have hrun : (execOp a.eval o).run E.P w = .ok (.value (.iface t u)) w := by
    cases k <;> first | exact absurd rfl (hk _) | simp [execOp, ho, hu, Instr.makeInterface, run_underlying ht]
  split at hv
  · rename_i cs e1
    obtain ⟨rfl, rfl⟩ := Prod.mk.inj (Option.some.inj hv)
    rw [e1] at r1
    cases r1 with
    | agg _ vs h1 h2 => exact ⟨rfl, _, hrun, .ifa t cs vs h1 h2⟩
  · obtain ⟨rfl, rfl⟩ := Prod.mk.inj (Option.some.inj hv)
    exact ⟨rfl, _, hrun, .ifc t _ u r1⟩
theorem ok_asrt {E : Prg} {o : Oper} {xt t : TypeId} {x : Operand} {y : Opd} {k : TypeDesc} (ho : o.op = .typeAssert x xt t false) (ht : E.P.underlying t = some k) (hk : ∀ ms, k ≠ .interface ms) (hx : copd x = some y) : OpOk E o (.asrt t y) := by
  refine OpOk.quiet fun C G st a w d objs' hr hv => ?_
  simp only [rval] at hv
  have r1 := hr.ev hx
  generalize hu : a.eval x = u at r1
  have hrun : ∀ v, u = .iface t v → (execOp a.eval o).run E.P w = .ok (.value v) w := fun v h => by
    subst h
    cases k <;> first | exact absurd rfl (hk _) | simp [execOp, ho, hu, Instr.typeAssert, run_underlying ht]
  split at hv
  · rename_i t' d' e1
    split at hv
    · rename_i htt
      subst htt
      obtain ⟨rfl, rfl⟩ := Prod.mk.inj (Option.some.inj hv)
      rw [e1] at r1
      cases r1 with
      | ifc _ _ v h1 => exact ⟨rfl, _, hrun v rfl, h1⟩
    · cases hv
  · rename_i t' cs e1
    split at hv
    · rename_i htt
      subst htt
      obtain ⟨rfl, rfl⟩ := Prod.mk.inj (Option.some.inj hv)
      rw [e1] at r1
      cases r1 with
      | ifa _ _ vs h1 h2 => exact ⟨rfl, _, hrun _ rfl, .agg cs vs h1 h2⟩
    · cases hv
  · cases hv

/-! ### Structs that are compared -/
def goKinds (P : Program) : List Field → Nat → Option (List CK)
  | [], _ => some []
  | f :: fs, off => if f.name ≠ "_" ∧ f.offset = off then (match P.underlying f.type with
    | some (.int _) => (goKinds P fs (off + 1)).map (.i :: ·)
    | some .bool => (goKinds P fs (off + 1)).map (.b :: ·)
    | _ => none) else none
def flatKinds (P : Program) (t : TypeId) : Option (List CK) := match P.underlying t with
  | some (.struct fs) => if P.stoodInHeld t = false ∧ P.eqGuardType P.depth t = false then goKinds P fs.toList 0 else none
  | _ => none
theorem rel_at {G : Gh} {xs : Array Value} {off : Nat} {d : DV} {v : Value} (h : Rel G d (xs.getD off undef)) (hv : ∀ u, Rel G d u → u = v) (hn : v ≠ undef) : xs[off]? = some v := by
  have := hv _ h
  rw [Array.getD_eq_getD_getElem?] at this
  cases hx : xs[off]? with
  | none => rw [hx] at this; exact absurd this.symm hn
  | some u => rw [hx] at this; simp at this; rw [this]
theorem eqFields_flat {P : Program} {G : Gh} {w : World} (d : Nat) (xs ys : Array Value) : ∀ (fs : List Field) (off : Nat) (ks : List CK) (cs ds : List DV) (r : Bool), goKinds P fs off = some ks → eqCells ks cs ds = some r →
    (∀ (i : Nat) c, cs[i]? = some c → Rel G c (xs.getD (off + i) undef)) → (∀ (i : Nat) c, ds[i]? = some c → Rel G c (ys.getD (off + i) undef)) → (Op.eqFields (d + 1) xs ys fs).run P w = .ok r w := by
  intro fs
  induction fs with
  | nil =>
    intro off ks cs ds r hk he _ _
    obtain rfl := Option.some.inj hk
    match cs, ds, he with
    | [], [], he => obtain rfl := Option.some.inj he; simp [Op.eqFields]
  | cons f fs ih =>
    intro off ks cs ds r hk he hc hd
    simp only [goKinds] at hk
    split at hk
    rotate_left
    · cases hk
    rename_i hn
    obtain ⟨hn, ho⟩ := hn
    split at hk
    · rename_i kk hu
      obtain ⟨ks', hk', rfl⟩ := Option.map_eq_some_iff.1 hk
      match cs, ds, he with
      | .int k a :: cs, .int k' b :: ds, he =>
        simp only [eqCells] at he
        split at he
        rotate_left
        · cases he
        rename_i hkk
        subst hkk
        obtain ⟨r', hr', rfl⟩ := Option.map_eq_some_iff.1 he
        have ha := rel_at (hc 0 _ rfl) (v := .int k a) (fun u hu => by cases hu; rfl) (by simp [undef])
        have hb := rel_at (hd 0 _ rfl) (v := .int k b) (fun u hu => by cases hu; rfl) (by simp [undef])
        have hp : P.plainKey f.type = true := by unfold Program.plainKey; rw [hu]
        have p1 := run_part_plain (w := w) hp ha
        have p2 := run_part_plain (w := w) hp hb
        have p3 := run_equalIn_int (P := P) w d f.type k kk a b hu
        have hrec := ih (off + 1) ks' cs ds r' hk' hr' (fun i c h => by have := hc (i + 1) c (by simpa using h); rwa [show off + 1 + i = off + (i + 1) by omega]) (fun i c h => by have := hd (i + 1) c (by simpa using h); rwa [show off + 1 + i = off + (i + 1) by omega])
        subst ho
        simp only [Op.eqFields, hn, ne_eq, not_false_eq_true, if_true, Sem.run_bind, Nat.add_zero] at p1 p2 ⊢
        simp only [p1, p2, p3, Result.andThen_ok]
        by_cases hab : a = b
        · subst hab; simp [hrec]
        · simp [hab]
    · rename_i hu
      obtain ⟨ks', hk', rfl⟩ := Option.map_eq_some_iff.1 hk
      match cs, ds, he with
      | .bool a :: cs, .bool b :: ds, he =>
        simp only [eqCells] at he
        obtain ⟨r', hr', rfl⟩ := Option.map_eq_some_iff.1 he
        have ha := rel_at (hc 0 _ rfl) (v := .bool a) (fun u hu => by cases hu; rfl) (by simp [undef])
        have hb := rel_at (hd 0 _ rfl) (v := .bool b) (fun u hu => by cases hu; rfl) (by simp [undef])
        have hp : P.plainKey f.type = true := by unfold Program.plainKey; rw [hu]
        have p1 := run_part_plain (w := w) hp ha
        have p2 := run_part_plain (w := w) hp hb
        have p3 := run_equalIn_bool (P := P) w d f.type a b hu
        have hrec := ih (off + 1) ks' cs ds r' hk' hr' (fun i c h => by have := hc (i + 1) c (by simpa using h); rwa [show off + 1 + i = off + (i + 1) by omega]) (fun i c h => by have := hd (i + 1) c (by simpa using h); rwa [show off + 1 + i = off + (i + 1) by omega])
        subst ho
        simp only [Op.eqFields, hn, ne_eq, not_false_eq_true, if_true, Sem.run_bind, Nat.add_zero] at p1 p2 ⊢
        simp only [p1, p2, p3, Result.andThen_ok]
        by_cases hab : a = b
        · subst hab; simp [hrec]
        · simp [hab]
    · cases hk
theorem ok_eqS {E : Prg} {o : Oper} {neg : Bool} {t t' : TypeId} {ks : List CK} {x1 x2 : Operand} {y1 y2 : Opd} (ho : o.op = .binOp (if neg then .neq else .eql) t x1 x2 t') (ht : flatKinds E.P t = some ks)
    (h1 : copd x1 = some y1) (h2 : copd x2 = some y2) : OpOk E o (.eqS neg ks y1 y2) := by
  refine OpOk.quiet fun C G st a w d objs' hr hv => ?_
  simp only [rval] at hv
  have r1 := hr.ev h1
  have r2 := hr.ev h2
  split at hv
  · rename_i cs ds e1 e2
    rw [e1] at r1; rw [e2] at r2
    generalize hu : a.eval x1 = u at r1
    generalize hu' : a.eval x2 = u' at r2
    cases r1 with
    | agg _ xs hx1 hx2 =>
      cases r2 with
      | agg _ ys hy1 hy2 =>
        obtain ⟨b, hb, he⟩ := Option.map_eq_some_iff.1 hv
        obtain ⟨rfl, rfl⟩ := Prod.mk.inj he
        unfold flatKinds at ht
        split at ht
        · rename_i fs hfs
          split at ht
          · rename_i hc
            have hF : E.P.fieldsOf t = fs := by simp [Program.fieldsOf, hfs]
            have heq : (Op.equal t (.agg xs) (.agg ys)).run E.P w = .ok b w := by
              have := run_equalIn_struct (P := E.P) w 9999 t xs ys (by rw [hF]; exact hfs) hc.1
              exact this.trans (by rw [hF]; exact eqFields_flat 9998 xs ys fs.toList 0 ks cs ds b ht hb (fun i c h => by rw [Nat.zero_add]; exact hx2 i c h) (fun i c h => by rw [Nat.zero_add]; exact hy2 i c h))
            have hg : ∀ op, (eqGuard op t x1 x2 (.agg xs) (.agg ys)).run E.P w = .ok () w := fun op => run_eqGuard_agg w op t x1 x2 xs ys hc.2
            refine ⟨rfl, .bool (if neg then !b else b), ?_, .bool _⟩
            cases neg
            · simp only [Bool.false_eq_true, if_false] at ho ⊢
              have : binOp .eql t (.agg xs) (.agg ys) = (do pure (.bool (← Op.equal t (.agg xs) (.agg ys)))) := rfl
              simp [execOp, ho, hu, hu', hg, this, heq]
            · simp only [if_true] at ho ⊢
              have : binOp .neq t (.agg xs) (.agg ys) = (do pure (.bool (!(← Op.equal t (.agg xs) (.agg ys))))) := rfl
              simp [execOp, ho, hu, hu', hg, this, heq]
          · cases ht
        · cases ht
  · cases hv

end Go.Proofs.Ytaopaongpoecoaa
