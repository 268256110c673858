/- Objects whose last rows are let go of. -/
import Derived.Test.YtaopaongpoecoaaAb30
set_option linter.unusedVariables false
set_option linter.unusedSimpArgs false
namespace Go.Proofs.Ytaopaongpoecoaa
open Go.RowKit

/-- The same objects, some with fewer rows, some let go of. -/
def Trims (T T2 : Objs) : Prop := T2.length = T.length ∧ ∀ (k : Nat) (ob2 : Ob), T2[k]? = some (some ob2) → ∃ ob, T[k]? = some (some ob) ∧ ob2.sz = ob.sz ∧ ∃ m, ob2.rows = ob.rows.take m
theorem Trims.refl (T : Objs) : Trims T T := ⟨rfl, fun k ob h => ⟨ob, h, rfl, ob.rows.length, by rw [List.take_length]⟩⟩
theorem Trims.arr {T : Objs} {q s : Nat} {rows : List (List DV)} (m : Nat) (h : T[q]? = some (some (.arr s rows))) : Trims T (T.set q (some (.arr s (rows.take m)))) := by
  have hlt : q < T.length := (List.getElem?_eq_some_iff.1 h).1
  refine ⟨by simp, fun k ob2 hk => ?_⟩
  by_cases e : q = k
  · subst e
    rw [List.getElem?_set_self hlt] at hk
    obtain rfl := Option.some.inj (Option.some.inj hk)
    exact ⟨_, h, rfl, m, rfl⟩
  · rw [List.getElem?_set_ne e] at hk
    exact ⟨ob2, hk, rfl, ob2.rows.length, by rw [List.take_length]⟩
theorem LiveAt.trims {G : Gh} {w : World} {p : Place} {ob ob2 : Ob} (h : LiveAt G w p ob) (hs : ob2.sz = ob.sz) {m : Nat} (hr : ob2.rows = ob.rows.take m) : LiveAt G w p ob2 := by
  refine ⟨by rw [hs]; exact h.psz, ?_, fun row hrow => ?_, h.there, fun i j row c v hi hj hv => ?_, h.mko⟩
  · rw [hr, List.length_take]
    have := h.fits
    omega
  · rw [hr] at hrow
    exact h.size row (List.mem_of_mem_take hrow)
  · rw [hr, List.getElem?_take] at hi
    split at hi
    · exact h.holds i j row c v hi hj hv
    · cases hi
theorem Heap.trims {G : Gh} {T T2 : Objs} {w : World} (h : Heap G T w) (ht : Trims T T2) : Heap G T2 w := by
  obtain ⟨hl, ht⟩ := ht
  refine ⟨fun k p hk => by rw [hl]; exact h.pls k p hk, fun k ob hk => ?_, fun k k' r r' p p' m m' hk hk' => ?_, h.rdv, fun k r p m hk => ?_⟩
  · obtain ⟨ob', h1, h2, m, h3⟩ := ht k ob hk
    obtain ⟨p, hp, hv⟩ := h.live k ob' h1
    exact ⟨p, hp, hv.trims h2 h3⟩
  · obtain ⟨ob', h1, _⟩ := ht k r hk
    obtain ⟨ob2, h2, _⟩ := ht k' r' hk'
    exact h.sep k k' ob' ob2 p p' m m' h1 h2
  · obtain ⟨ob', h1, _⟩ := ht k r hk
    exact h.rds k ob' p m h1
theorem Frm.trims {C : Ctx} {G : Gh} {T T2 : Objs} {w : World} (h : Frm C G T w) (ht : Trims T T2) : Frm C G T2 w :=
  ⟨h.os, h.tape, h.output, h.size, h.blk, h.cell, h.frz, fun k r p m hk => let ⟨ob', h1, _⟩ := ht.2 k r hk; h.mine k ob' p m h1, h.rdn, h.le, h.mko⟩
theorem GCalls.trims {E : Prg} {f : Nat} {args : List DV} {T : Objs} {R : DV → Objs → Prop} (h : GCalls E f args T fun d T' => ∃ T2, Trims T' T2 ∧ R d T2) : GCalls E f args T R :=
  fun G w vs h1 h2 h3 h4 => Calls.mono (h G w vs h1 h2 h3 h4) fun e w' ⟨v, r, T', G', a, ⟨T2, ht, hR⟩, hlen, hrel, hh, hf⟩ => ⟨v, r, T2, G', a, hR, by rw [ht.1]; exact hlen, hrel, hh.trims ht, hf.trims ht⟩
/-- A function's call; behind it objects may be told with fewer rows. -/
theorem CallK.of_fnT {E : Prg} {F : FTab} (hF : FOk E F) {f : Nat} {ann : List Ann} {rf : RFn} {args : List DV} {T : Objs} {K : DV → Objs → Prop} (hc : compFn E.P ann f = some rf) (hargs : args.length ≤ rf.n)
    (h : rf.code.wp E F rf.n (finQ rf.res fun d T' => T.length ≤ T'.length ∧ ∃ T2, Trims T' T2 ∧ K d T2) ⟨initEnv 0 args, T⟩) : CallK E f args T K := CallK.all (GCalls.trims (GCalls.of_fn hF hc hargs h))
end Go.Proofs.Ytaopaongpoecoaa
