/- Each operation does what 'rval' says: new variables, addresses, slices, conversions. -/
import Derived.Test.YtaopaongpoecoaaAb5
import Derived.Laws.BytesArg
set_option linter.unusedVariables false
set_option linter.unusedSimpArgs false
namespace Go.Proofs.Ytaopaongpoecoaa
open Go.RowKit

theorem RelG.newBox {E : Prg} {C : Ctx} {G : Gh} {st : St} {a : Act} {w : World} (h : RelG E C G st a w) (vs : Array Value) (T : TypeId) (cs : List DV)
    (hsz : vs.size = cs.length) (hone : ∀ (i : Nat) v, vs[i]? = some v → v.oneCell' = true) (hrel : ∀ (i : Nat) c, cs[i]? = some c → Rel G c (vs.getD i undef)) :
    ∃ G', RelG E C G' { st with objs := st.objs ++ [some (.box cs)] } a (w.alloc (.cells vs T)) ∧ Rel G' (.ptr st.objs.length 0 0) (.pointer (some ⟨w.heap.size, 0, none⟩)) := by
  refine ⟨_, h.new vs T (0, 0) (.box cs) cs.length 1 (.inl rfl) rfl (by omega) (by simp [Ob.rows]) (by simp [Ob.rows]) hone (fun i j row c v hi hj hv => ?_), ?_⟩
  · rcases i with _ | i
    · simp [Ob.rows] at hi; subst hi
      have := hrel j c hj
      rw [Array.getD_eq_getD_getElem?] at this
      simp at hv
      rwa [hv] at this
    · simp [Ob.rows] at hi
  · have := Rel.ptr (G := G.more st.objs.length ⟨w.heap.size, 0, cs.length, 1⟩) st.objs.length 0 0 ⟨w.heap.size, 0, cs.length, 1⟩ (by simp [Gh.more])
    simpa [Place.cellAt] using this

theorem ok_box {E : Prg} {o : Oper} {t : TypeId} {sz : Nat} {x : Operand} {y : Opd} (ho : o.op = .box t x) (hx : copd x = some y) : OpOk E o (.box sz y) := by
  intro C G st a w d objs' hr hv
  simp only [rval] at hv
  have r1 := hr.ev hx
  generalize hu : a.eval x = u at r1
  split at hv
  · rename_i cs hcs
    split at hv
    · rename_i hc
      simp only [Option.some.injEq, Prod.mk.injEq] at hv
      obtain ⟨rfl, rfl⟩ := hv
      obtain ⟨hs, hrel⟩ := r1.cells hcs
      obtain ⟨G', h1, h2⟩ := hr.newBox u.cells t cs hs (fun i v hi => by
        have hi' : i < cs.length := by rw [← hs]; exact (Array.getElem?_eq_some_iff.1 hi).1
        have h3 := hrel i cs[i] (List.getElem?_eq_getElem hi')
        rw [Array.getD_eq_getD_getElem?, hi] at h3
        exact h3.oneCell (List.all_eq_true.1 hc.2 _ (List.getElem_mem hi'))) hrel
      exact ⟨_, _, _, G', by simp [execOp, ho, hu, Instr.box, newVar, newRow], .inl rfl, h1, h2⟩
    · cases hv
  · cases hv

theorem dvOfs_cells {G : Gh} {v : Value} {zero : List DV} (h : dvOfs v.cells.toList = some zero) :
    v.cells.size = zero.length ∧ (∀ (i : Nat) x, v.cells[i]? = some x → x.oneCell' = true) ∧ ∀ (i : Nat) c, zero[i]? = some c → Rel G c (v.cells.getD i undef) := by
  obtain ⟨h1, h2⟩ := dvOfs_rel (G := G) h
  have hs : v.cells.size = zero.length := by simpa using h1.symm
  refine ⟨hs, fun i x hx => ?_, fun i c hc => ?_⟩
  · have hi : i < zero.length := by rw [← hs]; exact (Array.getElem?_eq_some_iff.1 hx).1
    exact (h2 i zero[i] x (List.getElem?_eq_getElem hi) (by simpa using hx)).2.2
  · have hi : i < v.cells.toList.length := by rw [← h1]; exact (List.getElem?_eq_some_iff.1 hc).1
    have hv := List.getElem?_eq_getElem hi
    rw [getD_toList _ i _ hv]
    exact (h2 i c _ hc hv).1

theorem ok_alloc {E : Prg} {o : Oper} {t : TypeId} {zero : List DV} (ho : o.op = .alloc t) (hz : tyZero E.P t = some zero) : OpOk E o (.alloc zero) := by
  intro C G st a w d objs' hr hv
  simp only [rval, Option.some.injEq, Prod.mk.injEq] at hv
  obtain ⟨rfl, rfl⟩ := hv
  obtain ⟨v, hv1, hv2⟩ := run_zeroValue hz w
  obtain ⟨hs, hone, hrel⟩ := dvOfs_cells (G := G) hv2
  obtain ⟨G', h1, h2⟩ := hr.newBox v.cells t zero hs hone hrel
  exact ⟨_, _, _, G', by simp [execOp, ho, Instr.alloc, hv1, newVar, newRow], .inl rfl, h1, h2⟩

theorem ok_faddr {E : Prg} {o : Oper} {t : TypeId} {f off : Nat} {x : Operand} {y : Opd} {fs : Array Field} {fd : Field} {n : Nat} (ho : o.op = .fieldAddr t x f) (ht : E.P.underlying t = some (.struct fs)) (hf : fs[f]? = some fd)
    (hoff : fd.offset = off) (hsz : tySize E.P fd.type = some n) (hn : n ≠ 0) (hx : copd x = some y) : OpOk E o (.faddr off y) := by
  refine OpOk.quiet fun C G st a w d objs' hr hv => ?_
  simp only [rval] at hv
  have r1 := hr.ev hx
  generalize hu : a.eval x = u at r1
  have key : ∀ A : Addr, (execOp a.eval o).run E.P w = .ok (.value (.pointer (some (A.add off)))) w ∨ u ≠ .pointer (some A) := fun A => by
    by_cases h : u = .pointer (some A)
    · left
      have hn' : (n = 0) = False := by simp [hn]
      simp [execOp, ho, hu, h, Instr.fieldAt, run_underlying ht, hf, Instr.sureAddr, fieldPlace, run_sizeOf hsz, hn', hoff]
    · exact .inr h
  split at hv
  · rename_i k i j e1
    rw [e1] at r1
    simp only [Option.some.injEq, Prod.mk.injEq] at hv
    obtain ⟨rfl, rfl⟩ := hv
    cases r1 with
    | ptr _ _ _ p hp =>
      refine ⟨rfl, _, (key (p.cellAt (i * p.sz + j))).resolve_right (fun h => h rfl), ?_⟩
      rw [cellAt_add, Nat.add_assoc]
      exact .ptr k i (j + off) p hp
  · rename_i row j e1
    rw [e1] at r1
    simp only [Option.some.injEq, Prod.mk.injEq] at hv
    obtain ⟨rfl, rfl⟩ := hv
    cases r1 with
    | rp _ _ b ob vals h1 h2 =>
      refine ⟨rfl, _, (key ⟨b, ob + j, none⟩).resolve_right (fun h => h rfl), ?_⟩
      rw [Addr.add_lit, Nat.add_assoc]
      exact .rp row (j + off) b ob vals h1 h2
  · cases hv

theorem part_row {P : Program} {G : Gh} {w : World} {ag : Bool} {sz off : Nat} {t : TypeId} {cs : List DV} {vs : Array Value} {d : DV} (h1 : tyAgg P t = some ag) (h2 : tySize P t = some sz)
    (hs : vs.size = cs.length) (hrel : ∀ (i : Nat) c, cs[i]? = some c → Rel G c (vs.getD i undef)) (hd : rowAt ag sz cs off = some d) : ∃ v, (part t vs off).run P w = .ok v w ∧ Rel G d v := by
  unfold rowAt at hd
  cases ag with
  | true =>
    simp only [if_true] at hd
    split at hd
    · rename_i hle
      obtain rfl := Option.some.inj hd
      refine ⟨.agg (vs.extract off (off + sz)), by simp [part, run_isAgg h1, run_sizeOf h2], .agg _ _ (by simp; omega) (fun i c hc => ?_)⟩
      rw [List.getElem?_take] at hc
      split at hc
      · rename_i hi
        rw [List.getElem?_drop] at hc
        have h3 := hrel _ c hc
        rw [Array.getD_eq_getD_getElem?] at h3 ⊢
        rw [Array.getElem?_extract]
        have : i < min (off + sz) vs.size - off := by omega
        rw [if_pos this]; exact h3
      · cases hc
    · cases hd
  | false =>
    simp only [Bool.false_eq_true, if_false] at hd
    have hi : off < vs.size := by rw [hs]; exact (List.getElem?_eq_some_iff.1 hd).1
    have h3 := hrel off d hd
    rw [Array.getD_eq_getD_getElem?, Array.getElem?_eq_getElem hi] at h3
    exact ⟨vs[off], by simp [part, run_isAgg h1, hi], h3⟩

theorem ok_fld {E : Prg} {o : Oper} {t : TypeId} {f off sz : Nat} {ag : Bool} {x : Operand} {y : Opd} {fs : Array Field} {fd : Field} (ho : o.op = .field t x f) (ht : E.P.underlying t = some (.struct fs)) (hf : fs[f]? = some fd)
    (hoff : fd.offset = off) (h1 : tyAgg E.P fd.type = some ag) (h2 : tySize E.P fd.type = some sz) (hx : copd x = some y) : OpOk E o (.fld ag off sz y) := by
  refine OpOk.quiet fun C G st a w d objs' hr hv => ?_
  simp only [rval] at hv
  have r1 := hr.ev hx
  generalize hu : a.eval x = u at r1
  split at hv
  · rename_i cs e1
    rw [e1] at r1
    obtain ⟨d', hd, he⟩ := Option.map_eq_some_iff.1 hv
    obtain ⟨rfl, rfl⟩ := Prod.mk.inj he
    cases r1 with
    | agg _ vs hs hrel =>
      obtain ⟨v, hv1, hv2⟩ := part_row (w := w) h1 h2 hs hrel hd
      subst hoff
      exact ⟨rfl, v, by simp [execOp, ho, hu, Instr.field, run_underlying ht, hf, asAgg, hv1], hv2⟩
  · cases hv

theorem ok_iaddr {E : Prg} {o : Oper} {t e : TypeId} {sz : Nat} {x1 x2 : Operand} {y1 y2 : Opd} (ho : o.op = .indexAddr t x1 x2) (ht : E.P.underlying t = some (.slice e)) (hsz : tySize E.P e = some sz)
    (h1 : copd x1 = some y1) (h2 : copd x2 = some y2) : OpOk E o (.iaddr sz y1 y2) := by
  refine OpOk.quiet fun C G st a w d objs' hr hv => ?_
  simp only [rval] at hv
  have r1 := hr.ev h1
  have r2 := hr.ev h2
  generalize hu : a.eval x1 = u at r1
  generalize hu2 : a.eval x2 = u2 at r2
  have key : ∀ (A : Addr) (k : IntKind) (n : Int) (len cap : Nat), u = .slice (some A) len cap → u2 = .int k n → 0 ≤ n → n < (len : Int) → (execOp a.eval o).run E.P w = .ok (.value (.pointer (some (A.add (n.toNat * sz))))) w := by
    intro A k n len cap hA hn h0 hl
    simp [execOp, ho, hu, hu2, hA, hn, Instr.indexAt, asIntOf, run_underlying ht, h0, hl, run_sizeOf hsz]
  split at hv
  · rename_i s rows kk k n e1 e2
    rw [e1] at r1; rw [e2] at r2
    split at hv
    · rename_i hc
      split at hv
      · rename_i row hrow
        simp only [Option.some.injEq, Prod.mk.injEq] at hv
        obtain ⟨rfl, rfl⟩ := hv
        cases r2
        cases r1 with
        | sl _ _ _ p len cap b off vals hl _ _ hp hrl hrd hrel =>
          have hne : rows ≠ [] := fun h => by subst h; simp at hrow
          obtain rfl := hp hne
          refine ⟨rfl, _, key _ _ n _ _ rfl rfl hc.1 (by rw [hl]; exact hc.2.1), ?_⟩
          rw [Addr.add_lit]
          have h3 := Rel.rp (G := G) row 0 b (off + n.toNat * sz) (fun m => vals n.toNat m) (fun m c hm => by
            have := hrd n.toNat m row c hrow hm
            rw [← Nat.add_assoc, hc.2.2] at this
            exact this) (fun m c hm => hrel n.toNat m row c hrow hm)
          simpa using h3
      · cases hv
    · cases hv
  · rename_i ob off m k n e1 e2
    rw [e1] at r1; rw [e2] at r2
    split at hv
    · rename_i hc
      split at hv
      · rename_i s rows hob
        split at hv
        · rename_i hs
          simp only [Option.some.injEq, Prod.mk.injEq] at hv
          obtain ⟨rfl, rfl⟩ := hv
          obtain ⟨p, hp, hl⟩ := hr.heap.live ob _ hob
          cases r2
          cases r1 with
          | own _ _ _ q A c hq hcap hfit hA =>
            obtain rfl : q = p := Option.some.inj (hq.symm.trans hp)
            have hsz2 : q.sz = s := hl.psz
            obtain rfl := hA (by omega)
            refine ⟨rfl, _, key _ _ n _ _ rfl rfl hc.1 hc.2, ?_⟩
            rw [cellAt_add]
            have h3 := Rel.ptr (G := G) ob (off + n.toNat) 0 q hp
            have e : off * q.sz + n.toNat * sz = (off + n.toNat) * q.sz + 0 := by rw [Nat.add_mul, show sz = q.sz by omega]; rfl
            rw [e]; exact h3
        · cases hv
      · cases hv
    · cases hv
  · cases hv

theorem ok_iaddrA {E : Prg} {o : Oper} {t e : TypeId} {len sz : Nat} {x1 x2 : Operand} {y1 y2 : Opd} (ho : o.op = .indexAddr t x1 x2) (ht : E.P.underlying t = some (.array len e)) (hsz : tySize E.P e = some sz)
    (h1 : copd x1 = some y1) (h2 : copd x2 = some y2) : OpOk E o (.iaddrA len sz y1 y2) := by
  refine OpOk.quiet fun C G st a w d objs' hr hv => ?_
  simp only [rval] at hv
  have r1 := hr.ev h1
  have r2 := hr.ev h2
  generalize hu : a.eval x1 = u at r1
  generalize hu2 : a.eval x2 = u2 at r2
  have key : ∀ (A : Addr) (k : IntKind) (n : Int), u = .pointer (some A) → u2 = .int k n → 0 ≤ n → n < (len : Int) → (execOp a.eval o).run E.P w = .ok (.value (.pointer (some (A.add (n.toNat * sz))))) w := by
    intro A k n hA hn h0 hl
    simp [execOp, ho, hu, hu2, hA, hn, Instr.indexAt, asIntOf, run_underlying ht, h0, hl, run_sizeOf hsz, Instr.sureAddr]
  split at hv
  · rename_i ob i j k n e1 e2
    rw [e1] at r1; rw [e2] at r2
    split at hv
    · rename_i hc
      simp only [Option.some.injEq, Prod.mk.injEq] at hv
      obtain ⟨rfl, rfl⟩ := hv
      cases r2
      cases r1 with
      | ptr _ _ _ p hp =>
        refine ⟨rfl, _, key _ _ n rfl rfl hc.1 hc.2, ?_⟩
        rw [cellAt_add, Nat.add_assoc]
        exact .ptr ob i _ p hp
    · cases hv
  · rename_i row j k n e1 e2
    rw [e1] at r1; rw [e2] at r2
    split at hv
    · rename_i hc
      simp only [Option.some.injEq, Prod.mk.injEq] at hv
      obtain ⟨rfl, rfl⟩ := hv
      cases r2
      cases r1 with
      | rp _ _ b ob vals h1 h2 =>
        refine ⟨rfl, _, key _ _ n rfl rfl hc.1 hc.2, ?_⟩
        rw [Addr.add_lit, Nat.add_assoc]
        exact .rp row _ b ob vals h1 h2
    · cases hv
  · cases hv

theorem ok_idxS {E : Prg} {o : Oper} {t : TypeId} {x1 x2 : Operand} {y1 y2 : Opd} (ho : o.op = .index t x1 x2) (ht : E.P.underlying t = some .string)
    (h1 : copd x1 = some y1) (h2 : copd x2 = some y2) : OpOk E o (.idxS y1 y2) := by
  refine OpOk.quiet fun C G st a w d objs' hr hv => ?_
  simp only [rval] at hv
  have r1 := hr.ev h1
  have r2 := hr.ev h2
  generalize hu : a.eval x1 = u at r1
  generalize hu2 : a.eval x2 = u2 at r2
  split at hv
  · rename_i s k n e1 e2
    rw [e1] at r1; rw [e2] at r2
    cases r1; cases r2
    split at hv
    · rename_i h0
      split at hv
      · rename_i b hb
        simp only [Option.some.injEq, Prod.mk.injEq] at hv
        obtain ⟨rfl, rfl⟩ := hv
        refine ⟨rfl, .int .u8 b.toNat, ?_, .int _ _⟩
        have hlt : n.toNat < s.length := (List.getElem?_eq_some_iff.1 hb).1
        have hbb : s[n.toNat] = b := (List.getElem?_eq_some_iff.1 hb).2
        have hget : (⟨s.toArray⟩ : ByteArray)[n.toNat]? = some b := by
          rw [getElem?_pos (⟨s.toArray⟩ : ByteArray) n.toNat (by simpa [ByteArray.size] using hlt)]
          show some (s.toArray[n.toNat]'_) = some b
          simp [hbb]
        simp [execOp, ho, hu, hu2, Instr.index, asIntOf, run_underlying ht, h0, hget]
      · cases hv
    · cases hv
  · cases hv

theorem ok_len {E : Prg} {o : Oper} {t e : TypeId} {x : Operand} {y : Opd} {c : Call} (ho : o.op = .call c) (hc : c.callee = .builtin .len) (ha : c.args = #[x]) (hat : c.argTypes = #[t])
    (ht : E.P.underlying t = some (.slice e)) (hx : copd x = some y) : OpOk E o (.len y) := by
  refine OpOk.quiet fun C G st a w d objs' hr hv => ?_
  simp only [rval] at hv
  have r1 := hr.ev hx
  generalize hu : a.eval x = u at r1
  have key : ∀ p (n c : Nat), u = .slice p n c → (execOp a.eval o).run E.P w = .ok (.value (.int .i64 n)) w := fun p n c h => by
    subst h
    simp [execOp, ho, hc, ha, hat, resolve, invoke, builtin, Builtin.len_, run_underlying ht, hu, goInt]
  split at hv
  · rename_i s rows k e1
    rw [e1] at r1
    simp only [Option.some.injEq, Prod.mk.injEq] at hv
    obtain ⟨rfl, rfl⟩ := hv
    cases r1 with
    | sl _ _ _ p len cap _ _ _ hl =>
      subst hl
      exact ⟨rfl, _, key _ _ _ rfl, .int _ _⟩
  · rename_i k off n e1
    rw [e1] at r1
    simp only [Option.some.injEq, Prod.mk.injEq] at hv
    obtain ⟨rfl, rfl⟩ := hv
    cases r1
    exact ⟨rfl, _, key _ _ _ rfl, .int _ _⟩
  · cases hv

theorem ok_lenS {E : Prg} {o : Oper} {t : TypeId} {x : Operand} {y : Opd} {c : Call} (ho : o.op = .call c) (hc : c.callee = .builtin .len) (ha : c.args = #[x]) (hat : c.argTypes = #[t])
    (ht : E.P.underlying t = some .string) (hx : copd x = some y) : OpOk E o (.lenS y) := by
  refine OpOk.quiet fun C G st a w d objs' hr hv => ?_
  simp only [rval] at hv
  have r1 := hr.ev hx
  generalize hu : a.eval x = u at r1
  split at hv
  · rename_i s e1
    rw [e1] at r1
    simp only [Option.some.injEq, Prod.mk.injEq] at hv
    obtain ⟨rfl, rfl⟩ := hv
    cases r1
    refine ⟨rfl, .int .i64 s.length, ?_, .int _ _⟩
    have hs : ((⟨s.toArray⟩ : ByteArray).size : Int) = s.length := by simp [ByteArray.size]
    simp [execOp, ho, hc, ha, hat, resolve, invoke, builtin, Builtin.len_, run_underlying ht, hu, goInt, - ByteArray.size_data]
    exact hs
  · cases hv

end Go.Proofs.Ytaopaongpoecoaa
