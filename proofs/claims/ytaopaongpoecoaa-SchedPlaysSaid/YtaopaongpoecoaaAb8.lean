/- Each operation does what 'rval' says: append, copy. -/
import Derived.Test.YtaopaongpoecoaaAb7
set_option linter.unusedVariables false
set_option linter.unusedSimpArgs false
namespace Go.Proofs.Ytaopaongpoecoaa
open Go.RowKit

/-- Each row has so many cells. -/
def rowsOk (sz : Nat) (rows : List (List DV)) : Prop := ∀ r, r ∈ rows → r.length = sz

/-- The cells of what a slice (a string) reads as, in a row. -/
structure SrcCells (P : Program) (G : Gh) (w : World) (v : Value) (new : List (List DV)) (sz : Nat) (cs : List Value) : Prop where
  len : cs.length = new.length * sz
  lenOf : ∀ w', (Builtin.lenOf v).run P w' = .ok new.length w'
  run : ∀ n, n ≤ new.length → ∀ w', (∀ a u, w.cell? a = some u → w'.cell? a = some u) → (Builtin.firstCells sz n v).run P w' = .ok (cs.take (n * sz)).toArray w'
  rel : ∀ (i j : Nat) row c, new[i]? = some row → row[j]? = some c → ∃ u, cs[i * sz + j]? = some u ∧ Rel G c u
  one : ∀ u, u ∈ cs → u.oneCell' = true

theorem idx_lt {new : List (List DV)} {sz i j : Nat} {row : List DV} {c : DV} (hok : rowsOk sz new) (hi : new[i]? = some row) (hj : row[j]? = some c) : i * sz + j < new.length * sz := by
  have h1 : i < new.length := (List.getElem?_eq_some_iff.1 hi).1
  have h2 : j < row.length := (List.getElem?_eq_some_iff.1 hj).1
  have h3 := hok row (List.mem_of_getElem? hi)
  have h5 : (i + 1) * sz ≤ new.length * sz := Nat.mul_le_mul_right _ (by omega)
  rw [Nat.add_mul] at h5
  omega

theorem idx_get {new : List (List DV)} {sz m : Nat} (hok : rowsOk sz new) (hm : m < new.length * sz) : ∃ i j row c, m = i * sz + j ∧ i < new.length ∧ new[i]? = some row ∧ row[j]? = some c := by
  have hs : 0 < sz := by
    rcases Nat.eq_zero_or_pos sz with h | h
    · subst h; simp at hm
    · exact h
  have h1 : m / sz < new.length := by rw [Nat.div_lt_iff_lt_mul hs]; exact hm
  have h2 := hok new[m / sz] (List.getElem_mem h1)
  have h3 : m % sz < new[m / sz].length := by rw [h2]; exact Nat.mod_lt _ hs
  exact ⟨m / sz, m % sz, new[m / sz], new[m / sz][m % sz], by have := Nat.div_add_mod m sz; rw [Nat.mul_comm]; omega, h1, List.getElem?_eq_getElem h1, List.getElem?_eq_getElem h3⟩

theorem SrcCells.base {P : Program} {G : Gh} {w : World} {new : List (List DV)} {sz b o : Nat} {p : Option Addr} {len cap : Nat} (hlen : len = new.length) (hok : rowsOk sz new) (hp : new ≠ [] → p = some ⟨b, o, none⟩)
    (h : ∀ (i j : Nat) row c, new[i]? = some row → row[j]? = some c → ∃ u, w.cell? ⟨b, o + (i * sz + j), none⟩ = some u ∧ Rel G c u ∧ u.oneCell' = true) :
    ∃ cs, SrcCells P G w (.slice p len cap) new sz cs := by
  have hall : ∀ m, m < new.length * sz → ∃ u, w.cell? ⟨b, o + m, none⟩ = some u ∧ u.oneCell' = true := fun m hm => by
    obtain ⟨i, j, row, c, rfl, _, hi, hj⟩ := idx_get hok hm
    obtain ⟨u, hu, _, h1⟩ := h i j row c hi hj
    exact ⟨u, hu, h1⟩
  refine ⟨(List.range (new.length * sz)).map (fun m => (w.cell? ⟨b, o + m, none⟩).getD undef), by simp, fun w' => by simp [Builtin.lenOf, hlen], fun n hn w' hw => ?_, fun i j row c hi hj => ?_, fun u hu => ?_⟩
  · have hnm : n * sz ≤ new.length * sz := Nat.mul_le_mul_right _ hn
    cases p with
    | none =>
      have : new = [] := Classical.byContradiction fun hne => by cases hp hne
      subst this
      obtain rfl : n = 0 := by simpa using hn
      simp [Builtin.firstCells]
    | some A =>
      have hl := run_loadCells (P := P) w' A (n * sz) (fun m => (w.cell? ⟨b, o + m, none⟩).getD undef) (fun m hm => by
        have hne : new ≠ [] := fun e => by subst e; simp at hnm; omega
        obtain rfl := Option.some.inj (hp hne)
        obtain ⟨u, hu, _⟩ := hall m (by omega)
        rw [Addr.add_lit, hw _ _ hu, hu]; rfl)
      simp only [Builtin.firstCells, hl]
      congr 2
      rw [← List.map_take, List.take_range]
      congr 2
      omega
  · obtain ⟨u, hu, hr, _⟩ := h i j row c hi hj
    exact ⟨u, by simp [idx_lt hok hi hj, hu], hr⟩
  · obtain ⟨m, hm, rfl⟩ := List.mem_map.1 hu
    obtain ⟨u, hu, h1⟩ := hall m (by simpa using hm)
    rw [hu]; exact h1

theorem src_cells {E : Prg} {C : Ctx} {G : Gh} {st : St} {a : Act} {w : World} (hr : RelG E C G st a w) {d : DV} {v : Value} (r : Rel G d v) {s2 sz : Nat} {new : List (List DV)} (h : rowsOf st d = some (s2, new)) (hs : s2 = sz ∨ new = []) :
    rowsOk sz new ∧ ∃ cs, SrcCells E.P G w v new sz cs := by
  have hfix : rowsOk s2 new → rowsOk sz new := fun hok row hrow => by
    rcases hs with rfl | rfl
    · exact hok row hrow
    · cases hrow
  unfold rowsOf at h
  split at h
  · rename_i s2 new _
    obtain ⟨rfl, rfl⟩ := Prod.mk.inj (Option.some.inj h)
    cases r with
    | sl _ _ _ p len cap b o vals hl hk hlc hp hrl hrd hrel =>
      have hok : rowsOk s2 new := fun row hrow => by
        obtain ⟨i, hi⟩ := List.getElem?_of_mem hrow
        exact hrl i row hi
      refine ⟨hfix hok, SrcCells.base hl (hfix hok) hp (fun i j row c hi hj => ?_)⟩
      have h1 := hrd i j row c hi hj
      obtain ⟨h2, h3⟩ := hr.heap.rdv _ _ h1
      rw [← show s2 = sz by rw [← hok row (List.mem_of_getElem? hi), hfix hok row (List.mem_of_getElem? hi)]]
      exact ⟨_, h2, hrel i j row c hi hj, h3⟩
  · rename_i o off n
    split at h
    · rename_i s rows ho
      split at h
      · rename_i hfit
        obtain ⟨rfl, rfl⟩ := Prod.mk.inj (Option.some.inj h)
        obtain ⟨p, hp, hl⟩ := hr.heap.live o _ ho
        have hpsz : p.sz = s := hl.psz
        have hget : ∀ (i : Nat) row, ((rows.drop off).take n)[i]? = some row → rows[off + i]? = some row := fun i row hi => by
          rw [List.getElem?_take] at hi
          split at hi
          · rwa [List.getElem?_drop] at hi
          · cases hi
        have hok : rowsOk s ((rows.drop off).take n) := fun row hrow => by
          obtain ⟨i, hi⟩ := List.getElem?_of_mem hrow
          rw [← hpsz]; exact hl.size row (List.mem_of_getElem? (hget i row hi))
        refine ⟨hfix hok, ?_⟩
        cases r with
        | own _ _ _ q A c hq hcap hfit2 hA =>
          obtain rfl : q = p := Option.some.inj (hq.symm.trans hp)
          refine SrcCells.base (b := q.block) (o := q.off + off * q.sz) (by simp; omega) (hfix hok) (fun hne => ?_) (fun i j row c hi hj => ?_)
          · refine hA ?_
            have : n ≠ 0 := fun e => hne (by simp [e])
            omega
          · have h1 := hget i row hi
            have hlt := hl.idx h1 hj
            obtain ⟨u, hu, hone, _⟩ := hl.there _ hlt
            have e : (⟨q.block, q.off + off * q.sz + (i * sz + j), none⟩ : Addr) = q.cellAt ((off + i) * q.sz + j) := by
              rw [show sz = q.sz by rw [← hl.size row (List.mem_of_getElem? h1), hfix hok row (List.mem_of_getElem? hi)]]
              simp only [Place.cellAt, Addr.mk.injEq, true_and, and_true]
              rw [Nat.add_mul]; omega
            exact ⟨u, by rw [e]; exact hu, hl.holds _ j row c u h1 hj hu, hone⟩
      · cases h
    · cases h
  · rename_i s
    obtain ⟨rfl, rfl⟩ := Prod.mk.inj (Option.some.inj h)
    cases r
    have hok : rowsOk 1 (bytesRows s) := fun row hrow => by
      obtain ⟨x, _, rfl⟩ := List.mem_map.1 hrow
      rfl
    refine ⟨hfix hok, ?_⟩
    have hsz : s ≠ [] → sz = 1 := fun hne => by
      rcases hs with rfl | hs
      · rfl
      · exact absurd (List.map_eq_nil_iff.1 hs) hne
    have hsize : (⟨s.toArray⟩ : ByteArray).size = s.length := by simp [ByteArray.size]
    have hlen2 : (bytesRows s).length = s.length := by simp [bytesRows]
    refine ⟨s.map fun b => .int .u8 b.toNat, ?_, fun w' => by simp [Builtin.lenOf, hsize, hlen2, - ByteArray.size_data], fun n hn w' _ => ?_, fun i j row c hi hj => ?_, fun u hu => ?_⟩
    · by_cases hne : s = []
      · subst hne; simp [bytesRows]
      · rw [hsz hne]; simp [bytesRows]
    · have hx : ((⟨s.toArray⟩ : ByteArray).extract 0 n).data = (s.take n).toArray := by
        apply Array.ext'
        simp [ByteArray.data_extract]
      by_cases hne : s = []
      · subst hne
        obtain rfl : n = 0 := by simpa [bytesRows] using hn
        simp [Builtin.firstCells, hx]
      · simp [Builtin.firstCells, hx, hsz hne, List.map_take]
    · simp only [bytesRows, List.getElem?_map] at hi
      obtain ⟨x, hx, rfl⟩ := Option.map_eq_some_iff.1 hi
      have hne : s ≠ [] := fun e => by subst e; simp at hx
      rw [hsz hne]
      rcases j with _ | j
      · simp at hj; subst hj
        exact ⟨.int .u8 x.toNat, by simp [hx], .int _ _⟩
      · simp at hj
    · obtain ⟨x, _, rfl⟩ := List.mem_map.1 hu
      rfl
  · cases h

theorem cells_zero {z : Array Value} (h : ∀ (i : Nat) x, z[i]? = some x → x.oneCell' = true) (n : Nat) : ∀ u, u ∈ (Builtin.zeroCells z n).toList → u.oneCell' = true := by
  intro u hu
  simp only [Builtin.zeroCells, Array.toList_map, Array.toList_range, List.mem_map, List.mem_range] at hu
  obtain ⟨m, hm, rfl⟩ := hu
  have hz : 0 < z.size := by
    rcases Nat.eq_zero_or_pos z.size with h0 | h0
    · rw [h0] at hm; simp at hm
    · exact h0
  have hlt := Nat.mod_lt m hz
  have : z[m % z.size]! = z[m % z.size] := by simp [hlt]
  rw [this]
  exact h (m % z.size) _ (by simp [hlt])

/-- What 'append' comes to where there is room. -/
theorem run_append_in {P : Program} {w : World} {t t2 ty e : TypeId} {sz n sLen sCap : Nat} {p : Option Addr} {x : Value} {news : List Value} (ht : P.underlying t = some (.slice e)) (hsz : tySize P e = some sz)
    (ht2 : (∃ e2, P.underlying t2 = some (.slice e2)) ∨ P.underlying t2 = some .string) (hl : (Builtin.lenOf x).run P w = .ok n w) (hf : (Builtin.firstCells sz n x).run P w = .ok news.toArray w) (hle : sLen + n ≤ sCap) :
    (Builtin.append_ #[t, t2] ty #[.slice p sLen sCap, x]).run P w = (match p with
      | some A => (storeCells (A.add (sLen * sz)) news).run P w
      | none => .ok () w).andThen fun _ w' => .ok (.slice p (sLen + n) sCap) w' := by
  rcases ht2 with ⟨e2, ht2⟩ | ht2 <;> cases p <;> simp [Builtin.append_, run_underlying ht, run_underlying ht2, run_sizeOf hsz, hl, hf, hle]

theorem run_append_out {P : Program} {w : World} {t t2 ty e : TypeId} {i : TypeInfo} {z : Value} {sz n sLen sCap : Nat} {p : Option Addr} {x : Value} {olds news : List Value} (ht : P.underlying t = some (.slice e)) (hi : P.info? e = some i) (hsz : i.size = sz) (hz : i.zero = some z)
    (ht2 : (∃ e2, P.underlying t2 = some (.slice e2)) ∨ P.underlying t2 = some .string) (hl : (Builtin.lenOf x).run P w = .ok n w) (hf : (Builtin.firstCells sz n x).run P w.drew = .ok news.toArray w.drew)
    (hfo : (Builtin.firstCells sz sLen (.slice p sLen sCap)).run P w.drew = .ok olds.toArray w.drew) (hg : sCap < sLen + n) (h63 : ((sLen + n : Nat) : Int) ≤ 9223372036854775807) (hfit : Builtin.nextslicecap (sLen + n) sCap * i.bytes ≤ 281474976710656) :
    (Builtin.append_ #[t, t2] ty #[.slice p sLen sCap, x]).run P w = .ok (.slice (some ⟨w.heap.size, 0, none⟩) (sLen + n) (grownCap w (sLen + n) sCap e))
        (w.drew.alloc (.cells (olds ++ news ++ (Builtin.zeroCells z.cells (grownCap w (sLen + n) sCap e - (sLen + n))).toList).toArray e)) := by
  have hn : ¬ (sLen + n ≤ sCap) := by omega
  have h63' : ¬ (9223372036854775807 < ((sLen : Int) + (n : Int))) := by omega
  have h48' : ¬ (281474976710656 < Builtin.nextslicecap (sLen + n) sCap * i.bytes) := by omega
  subst hsz
  rcases ht2 with ⟨e2, ht2⟩ | ht2
  · simp [Builtin.append_, run_underlying ht, run_underlying ht2, sizeOf, typeInfo, zeroValue, hi, hz, hl, hn, h63', h48', Question.forced, hf, hfo, newRow, grownCap]
    congr 2
    apply Array.ext'
    simp [List.append_assoc]
  · simp [Builtin.append_, run_underlying ht, run_underlying ht2, sizeOf, typeInfo, zeroValue, hi, hz, hl, hn, h63', h48', Question.forced, hf, hfo, newRow, grownCap]
    congr 2
    apply Array.ext'
    simp [List.append_assoc]

/-- A new block that begins with the cells of known rows. -/
theorem RelG.newRows {E : Prg} {C : Ctx} {G : Gh} {st : St} {a : Act} {w : World} (h : RelG E C G st a w) (T : TypeId) (fr : Nat × Nat) (rows : List (List DV)) (sz cap : Nat) (cs rest : List Value) (hfr : fr.1 = fr.2 ∨ cs.length + rest.length ≤ fr.1)
    (hok : rowsOk sz rows) (hlen : cs.length = rows.length * sz) (hrest : rest.length = (cap - rows.length) * sz) (hcap : rows.length ≤ cap) (hone : ∀ u, u ∈ cs → u.oneCell' = true) (hone2 : ∀ u, u ∈ rest → u.oneCell' = true)
    (hrel : ∀ (i j : Nat) row c, rows[i]? = some row → row[j]? = some c → ∃ u, cs[i * sz + j]? = some u ∧ Rel G c u) :
    ∃ G', RelG E C G' { st with objs := st.objs ++ [some (.arr sz rows)] } a (w.alloc (.cells (cs ++ rest).toArray T fr)) ∧ ∀ n, n ≤ cap → Rel G' (.own st.objs.length 0 n) (.slice (some ⟨w.heap.size, 0, none⟩) n cap) := by
  have hmul : rows.length * sz + (cap - rows.length) * sz = cap * sz := by rw [← Nat.add_mul]; congr 1; omega
  refine ⟨_, h.new (cs ++ rest).toArray T fr (.arr sz rows) sz cap (by simpa using hfr) rfl (by simp; omega) hcap hok (fun m v hm => ?_) (fun i j row c v hi hj hv => ?_), fun n hn => ?_⟩
  · simp only [List.getElem?_toArray] at hm
    rcases List.mem_append.1 (List.mem_of_getElem? hm) with h1 | h1
    · exact hone v h1
    · exact hone2 v h1
  · simp only [Ob.rows] at hi
    obtain ⟨u, hu, hr⟩ := hrel i j row c hi hj
    have hlt : i * sz + j < cs.length := (List.getElem?_eq_some_iff.1 hu).1
    simp only [List.getElem?_toArray] at hv
    rw [List.getElem?_append_left hlt, hu] at hv
    obtain rfl := Option.some.inj hv
    exact hr
  · exact .own st.objs.length 0 n ⟨w.heap.size, 0, sz, cap⟩ _ _ (by simp [Gh.more]) (by simp) (by simp; omega) (fun _ => by simp [Place.cellAt])

theorem nextcap_fits {n m bytes : Nat} (hg : n < m) (h : m * bytes ≤ 140737488355328) : Builtin.nextslicecap m n * bytes ≤ 281474976710656 := growslice_fits hg h

theorem ok_append {E : Prg} {o : Oper} {t t2 e : TypeId} {sz bytes : Nat} {zero : List DV} {x1 x2 : Operand} {y1 y2 : Opd} {c : Call} (ho : o.op = .call c) (hc : c.callee = .builtin .append) (ha : c.args = #[x1, x2]) (hat : c.argTypes = #[t, t2])
    (ht : E.P.underlying t = some (.slice e)) (ht2 : (∃ e2, E.P.underlying t2 = some (.slice e2)) ∨ E.P.underlying t2 = some .string) (hsz : tySize E.P e = some sz) (hby : tyBytes E.P e = some bytes) (hz : tyZero E.P e = some zero) (hzl : zero.length = sz)
    (hx1 : copd x1 = some y1) (hx2 : copd x2 = some y2) : OpOk E o (.append sz bytes y1 y2) := by
  intro C G st a w d objs' hr hv
  simp only [rval] at hv
  have r1 := hr.ev hx1
  have r2 := hr.ev hx2
  generalize hu : a.eval x1 = u at r1
  generalize hu2 : a.eval x2 = u2 at r2
  obtain ⟨i, hi, hisz⟩ := Option.map_eq_some_iff.1 hsz
  obtain ⟨i', hi', hiby⟩ := Option.map_eq_some_iff.1 hby
  obtain rfl : i = i' := Option.some.inj (hi.symm.trans hi')
  obtain ⟨z, hz1, hz2⟩ := Option.bind_eq_some_iff.1 hz
  have hz1 : i.zero = some z := by simpa [hi] using hz1
  obtain ⟨hzs, hzone, _⟩ := dvOfs_cells (G := G) hz2
  have hex : ∀ r w', (Builtin.append_ #[t, t2] o.type #[u, u2]).run E.P w = .ok r w' → (execOp a.eval o).run E.P w = .ok (.value r) w' := fun r w' h => by
    simp [execOp, ho, hc, ha, hat, resolve, invoke, builtin, hu, hu2, h]
  split at hv
  · rename_i s1 k s2 new e1 e2
    rw [e1] at r1
    split at hv
    · rename_i hcond
      obtain ⟨hk, hss, hb, h63⟩ := hcond
      simp only [Option.some.injEq, Prod.mk.injEq] at hv
      obtain ⟨rfl, rfl⟩ := hv
      obtain ⟨hok, cs, hcs⟩ := src_cells hr r2 e2 hss
      obtain ⟨p, rfl⟩ : ∃ p, u = .slice p 0 0 := by
        cases r1 with
        | sl _ _ _ p len cap _ _ _ hl hkk _ =>
          refine ⟨p, ?_⟩
          rcases hk with rfl | rfl
          · obtain ⟨_, rfl⟩ := hkk; simp at hl; subst hl; rfl
          · simp only [SK.ok] at hkk; subst hkk; simp at hl; subst hl; rfl
      by_cases hn : new.length = 0
      · have hnil : new = [] := List.eq_nil_of_length_eq_zero hn
        subst hnil
        have hcs0 : cs = [] := List.eq_nil_of_length_eq_zero (by simpa using hcs.len)
        subst hcs0
        have hrun := run_append_in (P := E.P) (w := w) (ty := o.type) (p := p) (sLen := 0) (sCap := 0) ht hsz ht2 (hcs.lenOf w) (hcs.run 0 (Nat.le_refl _) w (fun _ _ h => h)) (by simp)
        refine ⟨.value (.slice p 0 0), .slice p 0 0, w, _, hex _ _ ?_, .inl rfl, hr.newEmpty sz, .own st.objs.length 0 0 ⟨0, 0, sz, 0⟩ p 0 (by simp [Gh.more]) (by simp) (by simp) (fun h => by omega)⟩
        rw [hrun]
        cases p <;> simp [storeCells]
      · have hpos : 0 < new.length := Nat.pos_of_ne_zero hn
        have hf := hcs.run new.length (Nat.le_refl _) w.drew (fun _ _ h => h)
        rw [← hcs.len, List.take_length] at hf
        have hrun := run_append_out (P := E.P) (w := w) (ty := o.type) (p := p) (sLen := 0) (sCap := 0) (olds := []) ht hi hisz hz1 ht2 (hcs.lenOf w) hf (by cases p <;> simp [Builtin.firstCells, loadCells, loadCellsFrom]) (by omega) (by omega) (by rw [hiby]; exact nextcap_fits (by omega) (by rw [Nat.zero_add]; exact hb))
        have hgc := grownCap_ge w (0 + new.length) 0 e
        obtain ⟨G', h1, h2⟩ := hr.drew.newRows e (0, 0) new sz (grownCap w (0 + new.length) 0 e) cs (Builtin.zeroCells z.cells (grownCap w (0 + new.length) 0 e - (0 + new.length))).toList (.inl rfl) hok hcs.len
          (by simp [Builtin.zeroCells]; rw [hzs, hzl]) (by omega) hcs.one (cells_zero hzone _) hcs.rel
        refine ⟨_, _, _, G', hex _ _ hrun, .inl rfl, ?_, ?_⟩
        · simpa using h1
        · have := h2 new.length (by omega)
          simpa using this
    · cases hv
  · rename_i ob off n s2 new e1 e2
    rw [e1] at r1
    split at hv
    · rename_i s rows hob
      split at hv
      · rename_i hcond
        obtain ⟨hfit, hs, hss, hb, h63⟩ := hcond
        subst hs
        simp only [Option.some.injEq, Prod.mk.injEq] at hv
        obtain ⟨rfl, rfl⟩ := hv
        obtain ⟨hok, cs, hcs⟩ := src_cells hr r2 e2 hss
        obtain ⟨p, hp, hl⟩ := hr.heap.live ob _ hob
        have hpsz : p.sz = s := hl.psz
        have hfits : rows.length ≤ p.cap := hl.fits
        have hobl : ob < st.objs.length := (List.getElem?_eq_some_iff.1 hob).1
        have r1' := r1
        cases r1 with
        | own _ _ _ q A c hq hcap hfit2 hA =>
          obtain rfl : q = p := Option.some.inj (hq.symm.trans hp)
          by_cases hroom : n + new.length ≤ c
          · -- in place
            have hf := hcs.run new.length (Nat.le_refl _) w (fun _ _ h => h)
            rw [← hcs.len, List.take_length] at hf
            have hrun := run_append_in (P := E.P) (w := w) (ty := o.type) (p := A) (sLen := n) (sCap := c) ht hsz ht2 (hcs.lenOf w) hf hroom
            have hlast : ∀ G0 : Gh, Rel (G0.more st.objs.length ⟨q.block, q.off + off * q.sz, q.sz, q.cap - off⟩) (.own st.objs.length 0 (n + new.length)) (.slice A (n + new.length) c) := fun G0 =>
              .own st.objs.length 0 (n + new.length) ⟨q.block, q.off + off * q.sz, q.sz, q.cap - off⟩ A c (by simp [Gh.more]) (by simp; omega) (by simp; omega) (fun hpos => by rw [hA hpos]; simp [Place.cellAt])
            by_cases hnew : new.length = 0
            · have hnil : new = [] := List.eq_nil_of_length_eq_zero hnew
              subst hnil
              have hcs0 : cs = [] := List.eq_nil_of_length_eq_zero (by simpa using hcs.len)
              subst hcs0
              have hmv := hr.move hob hp (off := off) (by omega)
              have hrun' : (Builtin.append_ #[t, t2] o.type #[.slice A n c, u2]).run E.P w = .ok (.slice A (n + 0) c) w := by
                simp only [List.length_nil] at hrun
                rw [hrun]; cases A <;> simp [storeCells]
              exact ⟨_, _, w, _, hex _ _ hrun', .inl rfl, by simpa using hmv, hlast G⟩
            · obtain rfl := hA (by omega)
              have hmul : ∀ x y : Nat, (x + y) * s = x * s + y * s := fun x y => Nat.add_mul x y s
              have hcap2 : (rows.length + new.length) * s ≤ q.cap * s := Nat.mul_le_mul_right _ (by omega)
              have hfit' : rows.length * s = off * s + n * s := by rw [← hfit, Nat.add_mul]
              have hin : ∀ m, m < cs.length → rows.length * s + m < q.cap * q.sz := fun m hm => by
                rw [hcs.len] at hm
                rw [Nat.add_mul] at hcap2
                rw [hpsz]; omega
              have haddr : (q.cellAt (off * q.sz)).add (n * s) = ⟨q.block, q.off + rows.length * s, none⟩ := by
                rw [cellAt_add, hpsz, hfit']; rfl
              have hst := run_storeCells_cells (P := E.P) q.block (q.off + rows.length * s) cs 0 w
                (fun m hm => by
                  obtain ⟨v, hv, _⟩ := hl.there _ (hin m hm)
                  have : (⟨q.block, q.off + rows.length * s + 0 + m, none⟩ : Addr) = q.cellAt (rows.length * s + m) := by simp [Place.cellAt]; omega
                  rw [this, hv]; rfl)
                (fun m hm => by
                  obtain ⟨v, _, _, hv⟩ := hl.there _ (hin m hm)
                  have : (⟨q.block, q.off + rows.length * s + 0 + m, none⟩ : Addr) = q.cellAt (rows.length * s + m) := by simp [Place.cellAt]; omega
                  rw [this, hv])
                hcs.one
              have hw := Wrote.setCells q.block cs (q.off + rows.length * s) w
              rw [Nat.add_zero] at hst
              have hins := World.cell?_setCells_in q.block cs (q.off + rows.length * s) w (fun m hm => by
                  obtain ⟨v, hv, _⟩ := hl.there _ (hin m hm)
                  have : (⟨q.block, q.off + rows.length * s + m, none⟩ : Addr) = q.cellAt (rows.length * s + m) := by simp [Place.cellAt]; omega
                  rw [this, hv]; rfl)
              have hins' : ∀ m (hm : m < cs.length), (w.setCells q.block (q.off + rows.length * s) cs).cell? (q.cellAt (rows.length * s + m)) = some cs[m] := fun m hm => by
                have : (⟨q.block, q.off + rows.length * s + m, none⟩ : Addr) = q.cellAt (rows.length * s + m) := by simp [Place.cellAt]; omega
                rw [← this]; exact hins m hm
              have houts : ∀ m, (m < rows.length * s ∨ rows.length * s + cs.length ≤ m) → (w.setCells q.block (q.off + rows.length * s) cs).cell? (q.cellAt m) = w.cell? (q.cellAt m) := fun m hm => by
                refine hw.cell _ (fun hx => ?_)
                obtain ⟨_, _, h1, h2⟩ := hx
                simp [Place.cellAt] at h1 h2
                omega
              have hlive : LiveAt G (w.setCells q.block (q.off + rows.length * s) cs) q (.arr s (rows ++ new)) := by
                refine ⟨hpsz, by simp [Ob.rows]; omega, fun row hrow => ?_, fun m hm => ?_, fun i' j' row c' v hi' hj' hv' => ?_, fun h0 => hw.mko _ (hl.mko h0)⟩
                · rcases List.mem_append.1 hrow with h1 | h1
                  · exact hl.size row h1
                  · rw [hpsz]; exact hok row h1
                · obtain ⟨v, hv, hv1, hv2⟩ := hl.there m hm
                  by_cases hR : rows.length * s ≤ m ∧ m < rows.length * s + cs.length
                  · have := hins' (m - rows.length * s) (by omega)
                    rw [show rows.length * s + (m - rows.length * s) = m by omega] at this
                    exact ⟨_, this, hcs.one _ (List.getElem_mem _), by rw [hw.frz]; exact hv2⟩
                  · exact ⟨v, by rw [houts m (by omega)]; exact hv, hv1, by rw [hw.frz]; exact hv2⟩
                · simp only [Ob.rows] at hi'
                  by_cases hlt : i' < rows.length
                  · rw [List.getElem?_append_left hlt] at hi'
                    have hidx := hl.idx hi' hj'
                    have : (i' + 1) * q.sz ≤ rows.length * q.sz := Nat.mul_le_mul_right _ hlt
                    rw [Nat.add_mul] at this
                    have h3 := hl.size row (List.mem_of_getElem? hi')
                    have h4 : j' < row.length := (List.getElem?_eq_some_iff.1 hj').1
                    rw [houts _ (.inl (by rw [← hpsz]; omega))] at hv'
                    exact hl.holds i' j' row c' v hi' hj' hv'
                  · rw [List.getElem?_append_right (by omega)] at hi'
                    obtain ⟨u, hu, hur⟩ := hcs.rel _ j' row c' hi' hj'
                    have hlt2 : (i' - rows.length) * s + j' < cs.length := (List.getElem?_eq_some_iff.1 hu).1
                    have := hins' _ hlt2
                    have e : rows.length * s + ((i' - rows.length) * s + j') = i' * q.sz + j' := by
                      rw [hpsz, ← Nat.add_assoc, ← Nat.add_mul]; congr 2; omega
                    rw [e, hv'] at this
                    have h5 : cs[(i' - rows.length) * s + j'] = u := (List.getElem?_eq_some_iff.1 hu).2
                    rw [h5] at this
                    obtain rfl := Option.some.inj this
                    exact hur
              have hwr := hr.write hob hp hw (fun x hx => by
                obtain ⟨hx1, hx2, hx3, hx4⟩ := hx
                refine ⟨x.off - q.off, ?_, ?_⟩
                · have := hin (x.off - (q.off + rows.length * s)) (by omega); omega
                · obtain ⟨xb, xo, xs⟩ := x
                  simp at hx1 hx2 hx3 hx4 ⊢
                  subst hx1 hx2
                  simp [Place.cellAt]; omega) hlive
              have hmv := hwr.move (o := ob) (off := off) (sz := s) (rows := rows ++ new) (p := q) (by simp [getElem?_set, hobl]) hp (by omega)
              have hrun' : (Builtin.append_ #[t, t2] o.type #[.slice (some (q.cellAt (off * q.sz))) n c, u2]).run E.P w = .ok (.slice (some (q.cellAt (off * q.sz))) (n + new.length) c) (w.setCells q.block (q.off + rows.length * s) cs) := by
                rw [hrun]; simp only [haddr, hst, Result.andThen_ok]
              refine ⟨_, _, _, _, hex _ _ hrun', .inl rfl, ?_, hlast G⟩
              simp only [List.length_set, List.set_set] at hmv
              rw [List.drop_append_of_le_length (by omega)] at hmv
              exact hmv
          · have hg : c < n + new.length := by omega
            have htk : (rows.drop off).take n = rows.drop off := List.take_of_length_le (by simp; omega)
            obtain ⟨hoko, ocs, hocs⟩ := src_cells hr r1' (s2 := s) (sz := s) (new := rows.drop off) (by simp only [rowsOf, hob]; rw [if_pos (by omega), htk]) (.inl rfl)
            have hlo : (rows.drop off).length = n := by simp; omega
            have hf := hcs.run new.length (Nat.le_refl _) w.drew (fun _ _ h => h)
            rw [← hcs.len, List.take_length] at hf
            have hfo := hocs.run n (by omega) w.drew (fun _ _ h => h)
            rw [show n * s = ocs.length by rw [hocs.len, hlo], List.take_length] at hfo
            have hrun := run_append_out (P := E.P) (w := w) (ty := o.type) ht hi hisz hz1 ht2 (hcs.lenOf w) hf hfo hg (by omega) (by rw [hiby]; exact nextcap_fits hg hb)
            have hgc := grownCap_ge w (n + new.length) c e
            have hk := (hr.kill ob).drew
            obtain ⟨G', h1, h2⟩ := hk.newRows e (0, 0) (rows.drop off ++ new) s (grownCap w (n + new.length) c e) (ocs ++ cs) (Builtin.zeroCells z.cells (grownCap w (n + new.length) c e - (n + new.length))).toList (.inl rfl)
              (fun row hrow => by
                rcases List.mem_append.1 hrow with h | h
                · exact hoko row h
                · exact hok row h)
              (by simp only [List.length_append, hocs.len, hcs.len, Nat.add_mul])
              (by simp only [List.length_append, hlo]; simp [Builtin.zeroCells]; rw [hzs, hzl]) (by simp only [List.length_append, hlo]; omega)
              (fun x hx => by
                rcases List.mem_append.1 hx with h | h
                · exact hocs.one x h
                · exact hcs.one x h)
              (cells_zero hzone _)
              (fun i j row c' hi hj => by
                by_cases hlt : i < (rows.drop off).length
                · rw [List.getElem?_append_left hlt] at hi
                  obtain ⟨x, hx, hxr⟩ := hocs.rel i j row c' hi hj
                  exact ⟨x, by rw [List.getElem?_append_left (List.getElem?_eq_some_iff.1 hx).1]; exact hx, hxr⟩
                · rw [List.getElem?_append_right (by omega)] at hi
                  obtain ⟨x, hx, hxr⟩ := hcs.rel _ j row c' hi hj
                  refine ⟨x, ?_, hxr⟩
                  have e : i * s + j = ocs.length + ((i - (rows.drop off).length) * s + j) := by
                    rw [hocs.len, ← Nat.add_assoc, ← Nat.add_mul]; congr 2; omega
                  rw [e, List.getElem?_append_right (by omega), Nat.add_sub_cancel_left]
                  exact hx)
            refine ⟨_, _, _, G', hex _ _ hrun, .inl rfl, ?_, ?_⟩
            · simpa using h1
            · have := h2 (n + new.length) hgc
              simpa using this
      · cases hv
    · cases hv
  · cases hv

end Go.Proofs.Ytaopaongpoecoaa
