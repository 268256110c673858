/- Each operation does what 'rval' says: copy, conversions of bytes, min and max, make, literals. -/
import Derived.Test.YtaopaongpoecoaaAb8
import Derived.Laws.BytesString
set_option linter.unusedVariables false
set_option linter.unusedSimpArgs false
namespace Go.Proofs.Ytaopaongpoecoaa
open Go.RowKit

theorem ok_mm {E : Prg} {o : Oper} {isMax : Bool} {x1 x2 : Operand} {y1 y2 : Opd} {c : Call} (ho : o.op = .call c) (hc : c.callee = .builtin (if isMax then .max else .min)) (ha : c.args = #[x1, x2])
    (hx1 : copd x1 = some y1) (hx2 : copd x2 = some y2) : OpOk E o (.mm isMax y1 y2) := by
  refine OpOk.quiet fun C G st a w d objs' hr hv => ?_
  simp only [rval] at hv
  have r1 := hr.ev hx1
  have r2 := hr.ev hx2
  generalize hu : a.eval x1 = u at r1
  generalize hu2 : a.eval x2 = u2 at r2
  split at hv
  · rename_i k n k' m e1 e2
    rw [e1] at r1; rw [e2] at r2
    cases r1; cases r2
    simp only [Option.some.injEq, Prod.mk.injEq] at hv
    obtain ⟨rfl, rfl⟩ := hv
    refine ⟨rfl, _, ?_, .int k _⟩
    cases isMax
    · simp only [Bool.false_eq_true, if_false] at hc ⊢
      have : min n m = if m < n then m else n := by omega
      simp [execOp, ho, hc, ha, resolve, invoke, builtin, Builtin.min_, Builtin.min2, hu, hu2, this]
    · simp only [if_true] at hc ⊢
      have : max n m = if m > n then m else n := by omega
      simp [execOp, ho, hc, ha, resolve, invoke, builtin, Builtin.max_, Builtin.max2, hu, hu2, this]
  · cases hv

theorem rowsBytes_spec : ∀ {rows : List (List DV)} {s : List UInt8}, rowsBytes rows = some s → ∃ ns : List Int, rows = ns.map (fun n => [DV.int .u8 n]) ∧ s = ns.map fun n => UInt8.ofNat n.toNat
  | [], s, h => by
    obtain rfl := Option.some.inj h
    exact ⟨[], rfl, rfl⟩
  | row :: l, s, h => by
    unfold rowsBytes at h
    split at h
    · cases ‹_ :: _ = []›
    · rename_i n l' e
      obtain ⟨rfl, rfl⟩ := List.cons.inj e
      obtain ⟨s', hs', rfl⟩ := Option.map_eq_some_iff.1 h
      obtain ⟨ns, rfl, rfl⟩ := rowsBytes_spec hs'
      exact ⟨n :: ns, rfl, rfl⟩
    · cases h

theorem ok_b2s {E : Prg} {o : Oper} {src dst e : TypeId} {x : Operand} {y : Opd} (ho : o.op = .convert src dst x) (hs : E.P.underlying src = some (.slice e)) (he : E.P.underlying e = some (.int .u8)) (hd : E.P.underlying dst = some .string)
    (hx : copd x = some y) : OpOk E o (.conv .b2s y) := by
  refine OpOk.quiet fun C G st a w d objs' hr hv => ?_
  simp only [rval] at hv
  have r1 := hr.ev hx
  generalize hu : a.eval x = u at r1
  split at hv
  · cases ‹Cv.b2s = Cv.i2i _›
  · cases hv
  · rename_i d0 hns
    split at hv
    · rename_i s2 rows hrows
      split at hv
      · rename_i hss
        obtain ⟨s, hsb, he2⟩ := Option.map_eq_some_iff.1 hv
        obtain ⟨rfl, rfl⟩ := Prod.mk.inj he2
        obtain ⟨hok, cs, hcs⟩ := src_cells hr r1 hrows hss
        obtain ⟨ns, rfl, rfl⟩ := rowsBytes_spec hsb
        have hcs' : cs = ns.map (Value.int .u8) := by
          apply List.ext_getElem?
          intro i
          by_cases hi : i < ns.length
          · obtain ⟨u', hu', hr'⟩ := hcs.rel i 0 [DV.int .u8 ns[i]] (DV.int .u8 ns[i]) (by simp [hi]) rfl
            cases hr'
            simp only [Nat.mul_one, Nat.add_zero] at hu'
            rw [hu']; simp [hi]
          · have := hcs.len
            simp at this
            rw [List.getElem?_eq_none (by omega), List.getElem?_eq_none (by simp; omega)]
        have hsl : ∃ p len cap, u = .slice p len cap := by
          generalize hg : y.ev E st = dd at r1 hrows hns
          cases r1 with
          | sl => exact ⟨_, _, _, rfl⟩
          | own => exact ⟨_, _, _, rfl⟩
          | str s0 => exact absurd rfl (hns s0)
          | _ => simp [rowsOf] at hrows
        obtain ⟨p, len, cap, rfl⟩ := hsl
        refine ⟨rfl, .string ⟨(ns.map fun n => UInt8.ofNat n.toNat).toArray⟩, ?_, .str _⟩
        have hlen : len = ns.length := by
          have := hcs.lenOf w
          simp [Builtin.lenOf] at this
          exact this
        cases p with
        | none =>
          have h0 := hcs.run ns.length (by simp) w (fun _ _ h => h)
          simp [Builtin.firstCells, hcs'] at h0
          have hnil : ns = [] := by
            cases ns with
            | nil => rfl
            | cons n ns => simp at h0
          subst hnil
          have := run_convert_bytes_nil (P := E.P) w src e hs he len cap dst hd
          simp only [execOp, ho, hu, Sem.run_bind, this, Result.andThen_ok, Sem.run_pure]
          rfl
        | some A =>
          have h0 := hcs.run ns.length (by simp) w (fun _ _ h => h)
          rw [hcs'] at h0
          have h1 : (loadCells A len).run E.P w = .ok (ns.map (Value.int .u8)).toArray w := by
            have : (ns.map (Value.int .u8)).take (ns.length * 1) = ns.map (Value.int .u8) := List.take_of_length_le (by simp)
            rw [this] at h0
            simpa [Builtin.firstCells, hlen] using h0
          have h2 := run_convert_bytes_string (P := E.P) w src dst e (some A) len cap hs he hd
          rw [run_bytesToString w A len cap ns h1, foldl_push_bytes] at h2
          simp only [execOp, ho, hu, Sem.run_bind, h2, Result.andThen_ok, Sem.run_pure]
          congr 3
          apply ByteArray.ext
          simp [ByteArray.empty, ByteArray.emptyWithCapacity]
          rfl
      · cases hv
    · cases hv
  all_goals first | (cases hv; done) | contradiction

theorem ok_i2i {E : Prg} {o : Oper} {src dst : TypeId} {k : IntKind} {x : Operand} {y : Opd} (ho : o.op = .convert src dst x) (hs : (E.P.underlying src).isSome = true) (hd : E.P.underlying dst = some (.int k))
    (hx : copd x = some y) : OpOk E o (.conv (.i2i k) y) := by
  refine OpOk.quiet fun C G st a w d objs' hr hv => ?_
  have r1 := hr.ev hx
  generalize hu : a.eval x = u at r1
  generalize hg : y.ev E st = dd at r1
  cases r1 with
  | int k' n =>
    simp only [rval, hg] at hv
    simp only [Option.some.injEq, Prod.mk.injEq] at hv
    obtain ⟨rfl, rfl⟩ := hv
    refine ⟨rfl, .int k (k.wrap n), ?_, .int _ _⟩
    have hk : E.P.intKind dst = k := by simp [Program.intKind, hd]
    have := run_convert_int (P := E.P) w src dst k' n hs (by rw [hk]; exact hd)
    rw [hk] at this
    simp [execOp, ho, hu, this]
  | _ => simp [rval, hg] at hv

theorem ok_s2b {E : Prg} {o : Oper} {src dst e : TypeId} {u0 : TypeDesc} {x : Operand} {y : Opd} (ho : o.op = .convert src dst x) (hs : E.P.underlying src = some u0) (hd : E.P.underlying dst = some (.slice e)) (he : E.P.underlying e = some (.int .u8))
    (hx : copd x = some y) : OpOk E o (.conv .s2b y) := by
  intro C G st a w d objs' hr hv
  have r1 := hr.ev hx
  generalize hu : a.eval x = u at r1
  generalize hg : y.ev E st = dd at r1
  cases r1 with
  | str s =>
    simp only [rval, hg] at hv
    split at hv
    · rename_i hle
      simp only [Option.some.injEq, Prod.mk.injEq] at hv
      obtain ⟨rfl, rfl⟩ := hv
      have hrun := Lib.run_convert_string_bytes (P := E.P) w src dst e ⟨s.toArray⟩ hs hd he
      have hsize : (⟨s.toArray⟩ : ByteArray).size = s.length := by simp [ByteArray.size]
      have hgc := grownCap_ge w s.length 0 e
      have hcells : Lib.bytesCells w e ⟨s.toArray⟩ = (s.map (fun b => Value.int .u8 b.toNat) ++ List.replicate (grownCap w s.length 0 e - s.length) (Value.int .u8 0)).toArray := by
        apply Array.ext'
        simp [Lib.bytesCells, hsize, - ByteArray.size_data]
      have hlen : (Lib.bytesCells w e ⟨s.toArray⟩).size = grownCap w s.length 0 e := by rw [hcells]; simp; omega
      have hworld : Lib.bytesWorld w e ⟨s.toArray⟩ = w.drew.alloc (.cells (s.map (fun b => Value.int .u8 b.toNat) ++ List.replicate (grownCap w s.length 0 e - s.length) (Value.int .u8 0)).toArray e (grownCap w s.length 0 e, grownCap w s.length 0 e + 1)) := by
        unfold Lib.bytesWorld World.freeze World.alloc
        rw [if_neg (by omega), hlen, hcells]
        congr 1
        apply Array.ext
        · simp
        · intro i h1 h2
          simp only [Array.getElem_modify, Array.getElem_push, World.size_drew]
          simp at h1
          by_cases hi : i < w.heap.size
          · have : ¬ (w.heap.size = i) := by omega
            simp [hi, this]
          · have : w.heap.size = i := by omega
            subst this
            simp
      rw [hworld, hsize] at hrun
      obtain ⟨G', h1, h2⟩ := hr.drew.newRows e (grownCap w s.length 0 e, grownCap w s.length 0 e + 1) (bytesRows s) 1 (grownCap w s.length 0 e) (s.map fun b => .int .u8 b.toNat) (List.replicate (grownCap w s.length 0 e - s.length) (.int .u8 0))
        (.inr (by simp; omega)) (fun row hrow => by obtain ⟨x, _, rfl⟩ := List.mem_map.1 hrow; rfl) (by simp [bytesRows]) (by simp [bytesRows]) (by simp [bytesRows]; omega)
        (fun v hv => by obtain ⟨x, _, rfl⟩ := List.mem_map.1 hv; rfl) (fun v hv => by rw [(List.mem_replicate.1 hv).2]; rfl)
        (fun i j row c hi hj => by
          simp only [bytesRows, List.getElem?_map] at hi
          obtain ⟨b, hb, rfl⟩ := Option.map_eq_some_iff.1 hi
          rcases j with _ | j
          · simp at hj; subst hj
            exact ⟨.int .u8 b.toNat, by simp [hb], .int _ _⟩
          · simp at hj)
      refine ⟨_, _, _, G', by simp only [execOp, ho, hu, Sem.run_bind, hrun, Result.andThen_ok, Sem.run_pure]; rfl, .inl rfl, h1, h2 s.length hgc⟩
    · cases hv
  | _ => simp [rval, hg] at hv

theorem ok_s2s {E : Prg} {o : Oper} {src dst : TypeId} {u0 : TypeDesc} {x : Operand} {y : Opd} (ho : o.op = .convert src dst x) (hs : E.P.underlying src = some u0) (hd : E.P.underlying dst = some .string)
    (hx : copd x = some y) : OpOk E o (.conv .s2s y) := by
  refine OpOk.quiet fun C G st a w d objs' hr hv => ?_
  have r1 := hr.ev hx
  generalize hu : a.eval x = u at r1
  generalize hg : y.ev E st = dd at r1
  cases r1 with
  | str s =>
    simp only [rval, hg] at hv
    simp only [Option.some.injEq, Prod.mk.injEq] at hv
    obtain ⟨rfl, rfl⟩ := hv
    exact ⟨rfl, .string ⟨s.toArray⟩, by cases u0 <;> simp [execOp, ho, hu, convert, run_underlying hs, run_underlying hd], .str s⟩
  | _ => simp [rval, hg] at hv

theorem frozen_mark {w : World} {b : Nat} {c : Array Value} {T : TypeId} {fr : Nat × Nat} (hb : w.heap[b]? = some (.cells c T fr)) (hk : MkOk w b) :
    (∀ x, (w.freeze ⟨b, c.size, none⟩ 1).cell? x = w.cell? x) ∧ (∀ x v, w.cell? x = some v → (w.freeze ⟨b, c.size, none⟩ 1).frozen? x = w.frozen? x) ∧ (∀ b', b' ≠ b → (w.freeze ⟨b, c.size, none⟩ 1).heap[b']? = w.heap[b']?) ∧
    (∀ b', MkOk w b' → MkOk (w.freeze ⟨b, c.size, none⟩ 1) b') ∧ (w.freeze ⟨b, c.size, none⟩ 1).heap.size = w.heap.size := by
  have hlt : b < w.heap.size := (Array.getElem?_eq_some_iff.1 hb).1
  have hk1 := hk c T fr hb
  obtain ⟨lo, hi⟩ := fr
  simp only at hk1
  have hw : (w.freeze ⟨b, c.size, none⟩ 1).heap[b]? = some (.cells c T (if lo == hi then (c.size, c.size + 1) else (min lo c.size, max hi (c.size + 1)))) := by
    unfold World.freeze
    rw [if_neg (by decide)]
    simp only [Array.getElem?_modify, if_true, hb, Option.map_some]
  have ho : ∀ b', b' ≠ b → (w.freeze ⟨b, c.size, none⟩ 1).heap[b']? = w.heap[b']? := fun b' hne => by
    unfold World.freeze
    rw [if_neg (by decide)]
    simp only [Array.getElem?_modify]
    rw [if_neg (fun e => hne e.symm)]
  refine ⟨fun x => ?_, fun x v hx => ?_, ho, fun b' h1 => ?_, ?_⟩
  · unfold World.cell?
    by_cases e : x.block = b
    · rw [e, hw, hb]
    · rw [ho _ e]
  · by_cases e : x.block = b
    · have hx2 : x.spot = none ∧ x.off < c.size := by
        unfold World.cell? at hx
        rw [e, hb] at hx
        simp only at hx
        split at hx
        · cases hx
        · rename_i hs
          refine ⟨by cases h : x.spot with | none => rfl | some y => rw [h] at hs; simp at hs, (Array.getElem?_eq_some_iff.1 hx).1⟩
      unfold World.frozen?
      rw [e, hw, hb]
      by_cases h : lo = hi
      · subst h
        simp
        rw [decide_eq_false (show ¬ c.size ≤ x.off by omega), Bool.false_and]
        by_cases h5 : lo ≤ x.off
        · rw [decide_eq_false (show ¬ x.off < lo by omega), Bool.and_false]
        · rw [decide_eq_false h5, Bool.false_and]
      · simp [h]
        rw [decide_eq_false (show ¬ min lo c.size ≤ x.off by omega), decide_eq_false (show ¬ lo ≤ x.off by omega), Bool.false_and, Bool.false_and]
    · unfold World.frozen?
      rw [ho _ e]
  · by_cases e : b' = b
    · subst e
      intro cs T' fr' h2
      rw [hw] at h2
      obtain ⟨rfl, rfl, rfl⟩ := Obj.cells.injEq .. ▸ Option.some.inj h2
      by_cases h : lo = hi
      · subst h; simp
      · simp [h]; omega
    · exact h1.of_eq (ho b' e)
  · unfold World.freeze
    rw [if_neg (by decide)]
    simp
theorem ok_lit {E : Prg} {o : Oper} {src dst e : TypeId} {x : Operand} {y : Opd} (ho : o.op = .convert src dst x) (hsd : src = dst) (hd : E.P.underlying dst = some (.slice e)) (he : E.P.underlying e = some (.int .u8))
    (hx : copd x = some y) : OpOk E o (.conv .lit y) := by
  intro C G st a w d objs' hr hv
  subst hsd
  have r1 := hr.ev hx
  generalize hu : a.eval x = u at r1
  generalize hg : y.ev E st = dd at r1
  cases r1 with
  | own k off n pl p c h1 h2 h3 h4 =>
    simp only [rval, hg] at hv
    split at hv
    · rename_i sz rows hob
      split at hv
      · rename_i hc
        simp only [Option.some.injEq, Prod.mk.injEq] at hv
        obtain ⟨rfl, rfl⟩ := hv
        obtain ⟨q, hq, hl⟩ := hr.heap.live k _ hob
        obtain rfl : pl = q := Option.some.inj (h1.symm.trans hq)
        have hpsz : pl.sz = sz := hl.psz
        have hcap : off + n ≤ pl.cap := h3
        have hc0 : 0 < c := by omega
        have hp := h4 hc0
        have h0 : 0 < pl.cap * pl.sz := Nat.mul_pos (by omega) (by omega)
        obtain ⟨v0, hv0, _⟩ := hl.there 0 h0
        have hblk : ∃ cs T fr, w.heap[pl.block]? = some (.cells cs T fr) := by
          unfold World.cell? at hv0
          split at hv0
          · rename_i cs T fr h; exact ⟨cs, T, fr, h⟩
          · cases hv0
        obtain ⟨cs, T, fr, hb⟩ := hblk
        obtain ⟨f1, f2, f3, f4, f5⟩ := frozen_mark hb (hl.mko h0)
        subst hp
        refine ⟨.value (.slice (some (pl.cellAt (off * pl.sz))) n c), _, w.freeze ⟨pl.block, cs.size, none⟩ 1, G, ?_, .inl rfl, ?_, .own k off n pl _ c h1 h2 h3 h4⟩
        · simp [execOp, ho, hu, convert, run_underlying hd, run_underlying he, markStringish, World.shape?, hb, Place.cellAt]
        · refine ⟨hr.env, hr.num, hr.defs, ⟨hr.heap.pls, fun k' ob' hk' => ?_, hr.heap.sep, fun x v hx => ?_, hr.heap.rds⟩, ⟨?_, ?_, ?_, ?_, ?_, ?_, ?_, hr.frm.mine, hr.frm.rdn, hr.frm.le, fun b' hb' h5 => f4 _ (hr.frm.mko b' hb' h5)⟩, hr.glob⟩
          · obtain ⟨p', hp', hl'⟩ := hr.heap.live k' ob' hk'
            refine ⟨p', hp', hl'.mono (.refl _) (fun m _ => f1 _) (fun m hm => ?_) (fun _ h5 => f4 _ h5)⟩
            obtain ⟨v, hv, _⟩ := hl'.there m hm
            exact f2 _ v hv
          · rw [f1]; exact hr.heap.rdv x v hx
          · rw [← hr.frm.os]; unfold World.freeze; rw [if_neg (by decide)]
          · rw [← hr.frm.tape]; unfold World.freeze; rw [if_neg (by decide)]
          · rw [← hr.frm.output]; unfold World.freeze; rw [if_neg (by decide)]
          · rw [f5]; exact hr.frm.size
          · intro b' hb' hn'
            rw [← hr.frm.blk b' hb' hn']
            refine f3 b' (fun e5 => ?_)
            subst e5
            rcases hr.frm.mine k _ pl 0 hob h1 h0 with h6 | h6
            · omega
            · exact hn' _ h6
          · intro x hx' hn'
            rw [f1]; exact hr.frm.cell x hx' hn'
          · intro x v hx' hn'
            have hxb := World.block_lt_of_cell? _ _ hx'
            rw [f2 x v ((hr.frm.cell x hxb hn').trans hx')]
            exact hr.frm.frz x v hx' hn'
      · cases hv
    · cases hv
  | _ => simp [rval, hg] at hv
theorem ok_mkslice {E : Prg} {o : Oper} {t e : TypeId} {sz bytes : Nat} {zero : List DV} {x1 x2 : Operand} {y1 y2 : Opd} (ho : o.op = .makeSlice t x1 x2) (ht : E.P.underlying t = some (.slice e)) (hsz : tySize E.P e = some sz) (hby : tyBytes E.P e = some bytes) (hz : tyZero E.P e = some zero)
    (hx1 : copd x1 = some y1) (hx2 : copd x2 = some y2) : OpOk E o (.mkslice sz bytes zero y1 y2) := by
  intro C G st a w d objs' hr hv
  have r1 := hr.ev hx1
  have r2 := hr.ev hx2
  generalize hu : a.eval x1 = u at r1
  generalize hu2 : a.eval x2 = u2 at r2
  generalize hg : y1.ev E st = d1 at r1
  generalize hg2 : y2.ev E st = d2 at r2
  simp only [rval, hg, hg2] at hv
  split at hv
  · rename_i k n k' c
    split at hv
    · rename_i hc
      obtain ⟨h0, hnc, hb, h63, hzl⟩ := hc
      simp only [Option.some.injEq, Prod.mk.injEq] at hv
      obtain ⟨rfl, rfl⟩ := hv
      cases r1; cases r2
      obtain ⟨i, hi, hisz⟩ := Option.map_eq_some_iff.1 hsz
      obtain ⟨i', hi', hiby⟩ := Option.map_eq_some_iff.1 hby
      obtain rfl : i = i' := Option.some.inj (hi.symm.trans hi')
      obtain ⟨z, hz1, hz2⟩ := Option.bind_eq_some_iff.1 hz
      have hz1 : i.zero = some z := by simpa [hi] using hz1
      obtain ⟨hzs, hzone, hzrel⟩ := dvOfs_cells (G := G) hz2
      have hrun := run_make (P := E.P) w t e i z ht hi hz1 k k' n c h0 hnc (by rw [hiby, Int.mul_comm]; omega) (by omega)
      have hcn : n.toNat ≤ c.toNat := by omega
      have hzz : z.cells.size = sz := by rw [hzs, hzl]
      have hget : ∀ m, m < c.toNat * sz → 0 < sz ∧ z.cells[m % z.cells.size]! = z.cells.getD (m % sz) undef := fun m hm => by
        have hpos : 0 < sz := by
          rcases Nat.eq_zero_or_pos sz with h | h
          · subst h; simp at hm
          · exact h
        refine ⟨hpos, ?_⟩
        have hlt : m % sz < z.cells.size := by rw [hzz]; exact Nat.mod_lt _ hpos
        rw [hzz, getElem!_pos z.cells (m % sz) hlt]
        simp [Array.getD_eq_getD_getElem?, hlt]
      have hall : ∀ x, x ∈ (madeCells z.cells (c.toNat * sz)).toList → x.oneCell' = true := fun x hx => by
        simp only [madeCells, Array.toList_map, Array.toList_range, List.mem_map, List.mem_range] at hx
        obtain ⟨m, hm, rfl⟩ := hx
        obtain ⟨hpos, he⟩ := hget m hm
        rw [he]
        have hlt : m % sz < z.cells.size := by rw [hzz]; exact Nat.mod_lt _ hpos
        rw [Array.getD_eq_getD_getElem?, Array.getElem?_eq_getElem hlt]
        exact hzone (m % sz) _ (by simp [hlt])
      have hnsz : n.toNat * sz ≤ c.toNat * sz := Nat.mul_le_mul_right _ hcn
      have hsplit : (madeCells z.cells (c.toNat * sz)) = ((madeCells z.cells (c.toNat * sz)).toList.take (n.toNat * sz) ++ (madeCells z.cells (c.toNat * sz)).toList.drop (n.toNat * sz)).toArray := by
        rw [List.take_append_drop]
      have hml : (madeCells z.cells (c.toNat * sz)).toList.length = c.toNat * sz := by simp [madeCells]
      rw [hisz, hsplit] at hrun
      obtain ⟨G', h1, h2⟩ := hr.newRows e (0, 0) (List.replicate n.toNat zero) sz c.toNat ((madeCells z.cells (c.toNat * sz)).toList.take (n.toNat * sz)) ((madeCells z.cells (c.toNat * sz)).toList.drop (n.toNat * sz)) (.inl rfl) (fun row hrow => by rw [(List.mem_replicate.1 hrow).2, hzl])
        (by rw [List.length_take, hml, List.length_replicate]; exact Nat.min_eq_left hnsz) (by rw [List.length_drop, hml, List.length_replicate, Nat.sub_mul]) (by simpa using hcn)
        (fun x hx => hall x (List.mem_of_mem_take hx)) (fun x hx => hall x (List.mem_of_mem_drop hx))
        (fun i' j row cc hi' hj => by
          rw [List.getElem?_replicate] at hi'
          split at hi'
          · rename_i hlt
            obtain rfl := Option.some.inj hi'
            have hjl : j < sz := by rw [← hzl]; exact (List.getElem?_eq_some_iff.1 hj).1
            have h5 : (i' + 1) * sz ≤ n.toNat * sz := Nat.mul_le_mul_right _ hlt
            rw [Nat.add_mul] at h5
            have hm : i' * sz + j < c.toNat * sz := by omega
            obtain ⟨hpos, he⟩ := hget _ hm
            refine ⟨z.cells.getD j undef, ?_, hzrel j cc hj⟩
            rw [List.getElem?_take, if_pos (by omega)]
            simp only [madeCells, Array.toList_map, Array.toList_range, List.getElem?_map]
            rw [List.getElem?_range hm]
            simp only [Option.map_some]
            rw [he]
            congr 2
            rw [Nat.mul_comm, Nat.mul_add_mod, Nat.mod_eq_of_lt hjl]
          · cases hi')
      refine ⟨_, _, _, G', by simp only [execOp, ho, hu, hu2, Sem.run_bind, hrun, Result.andThen_ok, Sem.run_pure], .inl rfl, h1, h2 n.toNat hcn⟩
    · cases hv
  · cases hv

end Go.Proofs.Ytaopaongpoecoaa
