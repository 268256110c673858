/- Each operation does what 'rval' says: memory. -/
import Derived.Test.YtaopaongpoecoaaAb4
import Derived.Laws.Append
import Derived.Laws.MakeOwn
set_option linter.unusedVariables false
set_option linter.unusedSimpArgs false
namespace Go.Proofs.Ytaopaongpoecoaa
open Go.RowKit

def tySize (P : Program) (t : TypeId) : Option Nat := (P.info? t).map (·.size)
def tyBytes (P : Program) (t : TypeId) : Option Nat := (P.info? t).map (·.bytes)
def tyAgg (P : Program) (t : TypeId) : Option Bool :=
  match P.underlying t with
  | some (.struct _) => some true
  | some (.array _ _) => some true
  | some _ => some false
  | none => none
def tyZero (P : Program) (t : TypeId) : Option (List DV) := ((P.info? t).bind (·.zero)).bind fun v => dvOfs v.cells.toList

theorem run_sizeOf {P : Program} {t : TypeId} {n : Nat} (h : tySize P t = some n) (w : World) : (sizeOf t).run P w = .ok n w := by
  obtain ⟨i, hi, rfl⟩ := Option.map_eq_some_iff.1 h
  simp [sizeOf, typeInfo, hi]
theorem run_isAgg {P : Program} {t : TypeId} {b : Bool} (h : tyAgg P t = some b) (w : World) : (isAgg t).run P w = .ok b w := by
  unfold tyAgg at h
  split at h <;> first
    | (cases h; done)
    | (rename_i hu; obtain rfl := Option.some.inj h; simp [isAgg, run_underlying hu]; done)
    | (rename_i d h1 h2 hu
       obtain rfl := Option.some.inj h
       rename_i d
       simp only [isAgg, Sem.run_bind, run_underlying hu, Result.andThen_ok]
       cases d <;> first | rfl | exact absurd rfl (h1 _) | exact absurd rfl (h2 _ _))
theorem run_zeroValue {P : Program} {t : TypeId} {ds : List DV} (h : tyZero P t = some ds) (w : World) : ∃ v, (zeroValue t).run P w = .ok v w ∧ dvOfs v.cells.toList = some ds := by
  obtain ⟨v, hv, h2⟩ := Option.bind_eq_some_iff.1 h
  obtain ⟨i, hi, h3⟩ := Option.bind_eq_some_iff.1 hv
  exact ⟨v, by simp [zeroValue, typeInfo, hi, h3], h2⟩

/-- What a row reads as from a place on. -/
theorem load_row {P : Program} {G : Gh} {w : World} {A : Addr} {ag : Bool} {sz j : Nat} {t : TypeId} {row : List DV} {d : DV} (h1 : tyAgg P t = some ag) (h2 : tySize P t = some sz)
    (hA : ∀ (m : Nat) c, row[j + m]? = some c → ∃ v, w.cell? (A.add m) = some v ∧ Rel G c v) (hd : rowAt ag sz row j = some d) :
    ∃ v, (loadVar t A).run P w = .ok v w ∧ Rel G d v := by
  unfold rowAt at hd
  cases ag with
  | true =>
    simp only [if_true] at hd
    split at hd
    · rename_i hle
      obtain rfl := Option.some.inj hd
      have hget : ∀ m, m < sz → ∃ c, row[j + m]? = some c := fun m hm => ⟨row[j + m], by rw [List.getElem?_eq_getElem]⟩
      have hrun := run_loadCells (P := P) w A sz (fun m => (w.cell? (A.add m)).getD undef) (fun m hm => by
        obtain ⟨c, hc⟩ := hget m hm
        obtain ⟨v, hv, _⟩ := hA m c hc
        rw [hv]; rfl)
      refine ⟨.agg ((List.range sz).map fun m => (w.cell? (A.add m)).getD undef).toArray, ?_, .agg _ _ (by simp; omega) (fun i c hc => ?_)⟩
      · simp [loadVar, run_isAgg h1, run_sizeOf h2, hrun]
      · rw [List.getElem?_take] at hc
        split at hc
        · rename_i hi
          rw [List.getElem?_drop] at hc
          obtain ⟨v, hv, hr⟩ := hA i c hc
          have : (((List.range sz).map fun m => (w.cell? (A.add m)).getD undef).toArray).getD i undef = v := by
            rw [getD_toList _ i v]
            simp [hi, hv]
          rw [this]; exact hr
        · cases hc
    · cases hd
  | false =>
    simp only [Bool.false_eq_true, if_false] at hd
    obtain ⟨v, hv, hr⟩ := hA 0 d (by simpa using hd)
    have hv' : w.cell? A = some v := by simpa [Addr.add] using hv
    exact ⟨v, by simp [loadVar, run_isAgg h1, hv'], hr⟩

theorem Ob.rows_setRow (ob : Ob) (i : Nat) (row0 row : List DV) (h : ob.rows[i]? = some row0) : (ob.setRow i row).rows = ob.rows.set i row := by
  cases ob with
  | box cs =>
    rcases i with _ | i
    · rfl
    · simp [Ob.rows] at h
  | arr sz rows => rfl

theorem rp_cells {G : Gh} {w : World} {row : List DV} {j : Nat} {v : Value} {objs : Objs} (hh : Heap G objs w) (r : Rel G (.rp row j) v) :
    ∃ A, v = .pointer (some A) ∧ A.spot = none ∧ ∀ (m : Nat) c, row[j + m]? = some c → ∃ u, w.cell? (A.add m) = some u ∧ Rel G c u := by
  cases r with
  | rp _ _ b o vals h1 h2 =>
    refine ⟨_, rfl, rfl, fun m c hc => ⟨vals (j + m), ?_, h2 _ c hc⟩⟩
    rw [Addr.add_lit]
    have := (hh.rdv _ _ (h1 _ c hc)).1
    rwa [← Nat.add_assoc] at this

theorem ptr_cells {G : Gh} {w : World} {o i j : Nat} {v : Value} {objs : Objs} {ob : Ob} {row : List DV} (hh : Heap G objs w) (ho : objs[o]? = some (some ob)) (hi : ob.rows[i]? = some row) (r : Rel G (.ptr o i j) v) :
    ∃ p, G.pl o = some p ∧ LiveAt G w p ob ∧ v = .pointer (some (p.cellAt (i * p.sz + j))) ∧ ∀ (m : Nat) c, row[j + m]? = some c → ∃ u, w.cell? ((p.cellAt (i * p.sz + j)).add m) = some u ∧ Rel G c u := by
  obtain ⟨p, hp, hl⟩ := hh.live o ob ho
  cases r with
  | ptr _ _ _ q hq =>
    obtain rfl : q = p := Option.some.inj (hq.symm.trans hp)
    refine ⟨q, hp, hl, rfl, fun m c hc => ?_⟩
    have hlt := hl.idx hi hc
    obtain ⟨u, hu, _⟩ := hl.there _ hlt
    refine ⟨u, ?_, hl.holds i (j + m) row c u hi hc hu⟩
    rw [cellAt_add, Nat.add_assoc]; exact hu

theorem ok_load {E : Prg} {o : Oper} {t : TypeId} {ag : Bool} {sz : Nat} {x : Operand} {y : Opd} (ho : o.op = .load t x) (h1 : tyAgg E.P t = some ag) (h2 : tySize E.P t = some sz) (hx : copd x = some y) :
    OpOk E o (.load ag sz y) := by
  refine OpOk.quiet fun C G st a w d objs' hr hv => ?_
  simp only [rval] at hv
  have r1 := hr.ev hx
  generalize hu : a.eval x = u at r1
  split at hv
  · rename_i ob i j e1
    rw [e1] at r1
    split at hv
    · rename_i b hb
      split at hv
      · rename_i row hrow
        obtain ⟨d', hd, he⟩ := Option.map_eq_some_iff.1 hv
        obtain ⟨rfl, rfl⟩ := Prod.mk.inj he
        obtain ⟨p, _, _, rfl, hA⟩ := ptr_cells hr.heap hb hrow r1
        obtain ⟨v, hv1, hv2⟩ := load_row h1 h2 hA hd
        exact ⟨rfl, v, by simp [execOp, ho, hu, Instr.loadAt, Instr.sureAddr, hv1], hv2⟩
      · cases hv
    · cases hv
  · rename_i row j e1
    rw [e1] at r1
    obtain ⟨d', hd, he⟩ := Option.map_eq_some_iff.1 hv
    obtain ⟨rfl, rfl⟩ := Prod.mk.inj he
    obtain ⟨A, rfl, _, hA⟩ := rp_cells hr.heap r1
    obtain ⟨v, hv1, hv2⟩ := load_row h1 h2 hA hd
    exact ⟨rfl, v, by simp [execOp, ho, hu, Instr.loadAt, Instr.sureAddr, hv1], hv2⟩
  · cases hv

theorem rowSet_length (row : List DV) (j : Nat) (cs : List DV) (h : j + cs.length ≤ row.length) : (rowSet row j cs).length = row.length := by
  simp [rowSet]; omega
theorem rowSet_get (row : List DV) (j : Nat) (cs : List DV) (h : j + cs.length ≤ row.length) (i : Nat) :
    (rowSet row j cs)[i]? = if i < j then row[i]? else if i < j + cs.length then cs[i - j]? else row[i]? := by
  unfold rowSet
  rw [List.append_assoc]
  split
  · rename_i hi
    rw [List.getElem?_append_left (by simp; omega), List.getElem?_take, if_pos hi]
  · rename_i hi
    rw [List.getElem?_append_right (by simp; omega)]
    have e : (row.take j).length = j := by simp; omega
    rw [e]
    split
    · rename_i h2
      rw [List.getElem?_append_left (by omega)]
    · rename_i h2
      rw [List.getElem?_append_right (by omega), List.getElem?_drop]
      congr 1; omega

theorem ok_store {E : Prg} {o : Oper} {t : TypeId} {sz : Nat} {x1 x2 : Operand} {y1 y2 : Opd} (ho : o.op = .store t x1 x2) (h2 : tySize E.P t = some sz) (hx1 : copd x1 = some y1) (hx2 : copd x2 = some y2) :
    OpOk E o (.store sz y1 y2) := by
  intro C G st a w d objs' hr hv
  simp only [rval] at hv
  have r1 := hr.ev hx1
  have r2 := hr.ev hx2
  generalize hu : a.eval x1 = u at r1
  generalize hu2 : a.eval x2 = u2 at r2
  split at hv
  · rename_i k i j cs e1 e2
    rw [e1] at r1
    split at hv
    · rename_i ob hb
      split at hv
      · rename_i row hrow
        split at hv
        · rename_i hc
          obtain ⟨hlen, hall, hle⟩ := hc
          simp only [Option.some.injEq, Prod.mk.injEq] at hv
          obtain ⟨rfl, rfl⟩ := hv
          obtain ⟨p, hp, hl, rfl, _⟩ := ptr_cells hr.heap hb hrow r1
          obtain ⟨hs, hcs⟩ := r2.cells e2
          have hrl : row.length = p.sz := hl.size row (List.mem_of_getElem? hrow)
          have hin : ∀ m, m < sz → i * p.sz + j + m < p.cap * p.sz := fun m hm => by
            have := hl.idx hrow (j := j + m) (c := row[j + m]) (List.getElem?_eq_getElem (by omega))
            omega
          have hvs : ∀ (m : Nat) v, u2.cells.toList[m]? = some v → v.oneCell' = true := fun m v hm => by
            have hm' : m < cs.length := by rw [← hs]; simpa using (List.getElem?_eq_some_iff.1 hm).1
            have h3 := hcs m cs[m] (List.getElem?_eq_getElem hm')
            rw [getD_toList _ _ _ hm] at h3
            exact h3.oneCell (List.all_eq_true.1 hall _ (List.getElem_mem hm'))
          have hst := run_storeCells_cells (P := E.P) p.block (p.off + (i * p.sz + j)) u2.cells.toList 0 w
            (fun m hm => by
              obtain ⟨v, hv, _⟩ := hl.there _ (hin m (by simp at hm; omega))
              have : (⟨p.block, p.off + (i * p.sz + j) + 0 + m, none⟩ : Addr) = p.cellAt (i * p.sz + j + m) := by simp [Place.cellAt]; omega
              rw [this, hv]; rfl)
            (fun m hm => by
              obtain ⟨v, _, _, hv⟩ := hl.there _ (hin m (by simp at hm; omega))
              have : (⟨p.block, p.off + (i * p.sz + j) + 0 + m, none⟩ : Addr) = p.cellAt (i * p.sz + j + m) := by simp [Place.cellAt]; omega
              rw [this, hv])
            (fun v hv => by
              obtain ⟨m, hm⟩ := List.getElem?_of_mem hv
              exact hvs m v hm)
          have hw := Wrote.setCells p.block u2.cells.toList (p.off + (i * p.sz + j)) w
          rw [Nat.add_zero] at hst
          refine ⟨.skip, undef, _, G, ?_, .inr ⟨rfl, rfl⟩, hr.write hb hp hw ?_ ?_, .undef _⟩
          · have hne : ¬ (u2.cells.size ≠ sz) := by omega
            simp only [execOp, ho, hu, hu2, Instr.storeAt, Instr.sureAddr, storeVar, Sem.run_bind, Sem.run_pure, Result.andThen_ok, run_sizeOf h2, hne, if_false]
            simp only [Place.cellAt, hst, Result.andThen_ok, Sem.run_pure]
          · intro x hx
            obtain ⟨hx1, hx2, hx3, hx4⟩ := hx
            simp at hx4
            refine ⟨x.off - p.off, ?_, ?_⟩
            · have := hin (x.off - (p.off + (i * p.sz + j))) (by omega); omega
            · obtain ⟨xb, xo, xs⟩ := x
              simp at hx1 hx2 hx3 hx4 ⊢
              subst hx1 hx2
              simp [Place.cellAt]; omega
          · have hrs := Ob.rows_setRow ob i row (rowSet row j cs) hrow
            have hos : (ob.setRow i (rowSet row j cs)).sz = ob.sz := by
              cases ob with
              | box cs0 =>
                rcases i with _ | i
                · simp [Ob.rows] at hrow; subst hrow
                  exact rowSet_length _ _ _ (by omega)
                · simp [Ob.rows] at hrow
              | arr s rows => rfl
            refine ⟨hos ▸ hl.psz, by rw [hrs]; simpa using hl.fits, fun r hrr => ?_, fun m hm => ?_, fun i' j' r c v hi' hj' hv' => ?_, fun h0 => hw.mko _ (hl.mko h0)⟩
            · rw [hrs] at hrr
              rcases List.mem_or_eq_of_mem_set hrr with h | h
              · exact hl.size r h
              · subst h; rw [rowSet_length _ _ _ (by omega)]; exact hrl
            · obtain ⟨v, hv, hv1, hv2⟩ := hl.there m hm
              by_cases hR : i * p.sz + j ≤ m ∧ m < i * p.sz + j + sz
              · have hm' : m - (i * p.sz + j) < u2.cells.toList.length := by simp; omega
                have := World.cell?_setCells_in p.block u2.cells.toList (p.off + (i * p.sz + j)) w (fun q hq => by
                  obtain ⟨v, hv, _⟩ := hl.there _ (hin q (by simp at hq; omega))
                  have : (⟨p.block, p.off + (i * p.sz + j) + q, none⟩ : Addr) = p.cellAt (i * p.sz + j + q) := by simp [Place.cellAt]; omega
                  rw [this, hv]; rfl) (m - (i * p.sz + j)) hm'
                have e : (⟨p.block, p.off + (i * p.sz + j) + (m - (i * p.sz + j)), none⟩ : Addr) = p.cellAt m := by simp [Place.cellAt]; omega
                rw [e] at this
                exact ⟨_, this, hvs _ _ (List.getElem?_eq_getElem hm'), by rw [hw.frz]; exact hv2⟩
              · refine ⟨v, ?_, hv1, by rw [hw.frz]; exact hv2⟩
                rw [hw.cell]
                · exact hv
                · intro hx
                  obtain ⟨_, _, hx3, hx4⟩ := hx
                  simp [Place.cellAt] at hx3 hx4
                  omega
            · rw [hrs, List.getElem?_set] at hi'
              by_cases hii : i = i'
              · subst hii
                rw [if_pos rfl] at hi'
                split at hi'
                · obtain rfl := Option.some.inj hi'
                  rw [rowSet_get _ _ _ (by omega)] at hj'
                  by_cases hR : j ≤ j' ∧ j' < j + cs.length
                  · rw [if_neg (by omega), if_pos hR.2] at hj'
                    have hm' : j' - j < u2.cells.toList.length := by simp; omega
                    have := World.cell?_setCells_in p.block u2.cells.toList (p.off + (i * p.sz + j)) w (fun q hq => by
                      obtain ⟨v, hv, _⟩ := hl.there _ (hin q (by simp at hq; omega))
                      have : (⟨p.block, p.off + (i * p.sz + j) + q, none⟩ : Addr) = p.cellAt (i * p.sz + j + q) := by simp [Place.cellAt]; omega
                      rw [this, hv]; rfl) (j' - j) hm'
                    have e : (⟨p.block, p.off + (i * p.sz + j) + (j' - j), none⟩ : Addr) = p.cellAt (i * p.sz + j') := by simp [Place.cellAt]; omega
                    rw [e, hv'] at this
                    obtain rfl := Option.some.inj this
                    have h3 := hcs (j' - j) c hj'
                    rwa [getD_toList _ _ _ (List.getElem?_eq_getElem hm')] at h3
                  · have hj2 : row[j']? = some c := by
                      split at hj'
                      · exact hj'
                      · rw [if_neg (by omega)] at hj'; exact hj'
                    rw [hw.cell] at hv'
                    · exact hl.holds i j' row c v hrow hj2 hv'
                    · intro hx
                      obtain ⟨_, _, hx3, hx4⟩ := hx
                      simp [Place.cellAt] at hx3 hx4
                      omega
                · cases hi'
              · rw [if_neg hii] at hi'
                have hlt := hl.idx hi' hj'
                have hj3 : j' < p.sz := by
                  have := hl.size r (List.mem_of_getElem? hi')
                  have := (List.getElem?_eq_some_iff.1 hj').1
                  omega
                rw [hw.cell] at hv'
                · exact hl.holds i' j' r c v hi' hj' hv'
                · intro hx
                  obtain ⟨_, _, hx3, hx4⟩ := hx
                  simp [Place.cellAt] at hx3 hx4
                  rcases Nat.lt_or_gt_of_ne hii with h | h
                  · have : (i + 1) * p.sz ≤ i' * p.sz := Nat.mul_le_mul_right _ h
                    rw [Nat.add_mul] at this
                    omega
                  · have : (i' + 1) * p.sz ≤ i * p.sz := Nat.mul_le_mul_right _ h
                    rw [Nat.add_mul] at this
                    omega
        · cases hv
      · cases hv
    · cases hv
  · cases hv

end Go.Proofs.Ytaopaongpoecoaa
