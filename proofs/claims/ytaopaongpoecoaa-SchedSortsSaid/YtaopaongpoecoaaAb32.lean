/- A nil slice in a variable, seen as an object without a row. -/
import Derived.Test.YtaopaongpoecoaaAb31
set_option linter.unusedVariables false
set_option linter.unusedSimpArgs false
namespace Go.Proofs.Ytaopaongpoecoaa
open Go.RowKit

theorem Heap.reRel {G : Gh} {T : Objs} {w : World} {k : Nat} {ob ob2 : Ob} (h : Heap G T w) (hk : T[k]? = some (some ob)) (hs : ob2.sz = ob.sz) (hl : ob2.rows.length ≤ ob.rows.length) (hrow : ∀ row ∈ ob2.rows, row.length = ob.sz)
    (hc : ∀ (i j : Nat) row c, ob2.rows[i]? = some row → row[j]? = some c → ∃ row' c', ob.rows[i]? = some row' ∧ row'[j]? = some c' ∧ ∀ v, Rel G c' v → Rel G c v) : Heap G (T.set k (some ob2)) w := by
  have hlt : k < T.length := (List.getElem?_eq_some_iff.1 hk).1
  have old : ∀ j o, (T.set k (some ob2))[j]? = some (some o) → ∃ o', T[j]? = some (some o') := fun j o hj => by
    by_cases e : k = j
    · subst e; exact ⟨ob, hk⟩
    · rw [List.getElem?_set_ne e] at hj; exact ⟨o, hj⟩
  refine ⟨fun j p hj => by rw [List.length_set]; exact h.pls j p hj, fun j o hj => ?_, fun j j' r r' p p' m m' hj hj' => ?_, h.rdv, fun j r p m hj => ?_⟩
  · by_cases e : k = j
    · subst e
      rw [List.getElem?_set_self hlt] at hj
      obtain rfl := Option.some.inj (Option.some.inj hj)
      obtain ⟨p, hp, hv⟩ := h.live k ob hk
      refine ⟨p, hp, by rw [hs]; exact hv.psz, Nat.le_trans hl hv.fits, fun row hr => by rw [hv.psz]; exact hrow row hr, hv.there, fun i j row c v hi hj hv' => ?_, hv.mko⟩
      obtain ⟨row', c', h1, h2, h3⟩ := hc i j row c hi hj
      exact h3 v (hv.holds i j row' c' v h1 h2 hv')
    · rw [List.getElem?_set_ne e] at hj; exact h.live j o hj
  · obtain ⟨o1, h1⟩ := old j r hj
    obtain ⟨o2, h2⟩ := old j' r' hj'
    exact h.sep j j' o1 o2 p p' m m' h1 h2
  · obtain ⟨o1, h1⟩ := old j r hj
    exact h.rds j o1 p m h1
theorem Frm.reRel {C : Ctx} {G : Gh} {T : Objs} {w : World} {k : Nat} {ob ob2 : Ob} (h : Frm C G T w) (hk : T[k]? = some (some ob)) : Frm C G (T.set k (some ob2)) w :=
  ⟨h.os, h.tape, h.output, h.size, h.blk, h.cell, h.frz, fun j r p m hj => by
    by_cases e : k = j
    · subst e; exact h.mine k ob p m hk
    · rw [List.getElem?_set_ne e] at hj; exact h.mine j r p m hj, h.rdn, h.le, h.mko⟩
/-- Behind a call, a nil slice in a variable's first cell may be seen as an object without a row. -/
theorem GCalls.nilbox {E : Prg} {f : Nat} {args : List DV} {T : Objs} {R : DV → Objs → Prop} (h : GCalls E f args T fun d T' => ∃ (k s sz : Nat) (l : List DV), T'[k]? = some (some (.box (.sl s [] .nil :: l))) ∧ R d (T'.set k (some (.box (.own T'.length 0 0 :: l))) ++ [some (.arr sz [])])) : GCalls E f args T R := by
  intro G w vs g1 g2 g3 g4
  refine Calls.mono (h G w vs g1 g2 g3 g4) fun e w' ⟨v, r, T', G', a, ⟨k, s, sz, l, hk, hR⟩, hlen, hrel, hh, hf⟩ => ?_
  have hlt : k < T'.length := (List.getElem?_eq_some_iff.1 hk).1
  have hr : RelG E ⟨w, G, cellsOf G T, 1⟩ G' ⟨[(0, r)], T'⟩ ⟨#[v], []⟩ w' := by
    refine ⟨fun t => ?_, rfl, rfl, hh, hf.ctx, fun g row hg => (g1 g row hg).mono hf.le⟩
    by_cases e : t = 0
    · subst e; exact hrel
    · have : St.get ⟨[(0, r)], T'⟩ t = .undef := by
        simp only [St.get, St.look]
        rw [if_neg (fun h => e h.symm)]
      rw [this]; exact .undef _
  have h2 := hr.newEmpty sz
  have hk2 : (T' ++ [some (Ob.arr sz [])])[k]? = some (some (.box (.sl s [] .nil :: l))) := by rw [List.getElem?_append_left hlt]; exact hk
  have hset : (T' ++ [some (Ob.arr sz [])]).set k (some (.box (.own T'.length 0 0 :: l))) = T'.set k (some (.box (.own T'.length 0 0 :: l))) ++ [some (.arr sz [])] := List.set_append_left _ _ hlt
  refine ⟨v, r, _, G'.more T'.length ⟨0, 0, sz, 0⟩, a, hR, by simp; omega, ?_, ?_, ?_⟩
  · exact h2.env 0
  · rw [← hset]
    refine Heap.reRel h2.heap hk2 rfl (by simp [Ob.rows]) (fun row hr => by simp [Ob.rows] at hr; subst hr; simp [Ob.sz]) fun i j row c hi hj => ?_
    rcases i with _ | i
    · simp [Ob.rows] at hi; subst hi
      rcases j with _ | j
      · simp at hj; subst hj
        refine ⟨_, .sl s [] .nil, rfl, rfl, fun v hv => ?_⟩
        cases hv with
        | sl _ _ _ p len cap b' o vals h5 h6 h7 h8 _ _ _ =>
          have hl : len = 0 := by simpa using h5
          subst hl
          have hc0 : cap = 0 := h6.2
          subst hc0
          exact .own _ 0 0 ⟨0, 0, sz, 0⟩ p 0 (by simp [Gh.more]) rfl (Nat.le_refl _) (fun h => by omega)
      · exact ⟨_, c, rfl, by simpa using hj, fun v hv => hv⟩
    · simp [Ob.rows] at hi
  · rw [← hset]
    exact Frm.reRel (h2.frm.ctx (m := 0)) hk2
end Go.Proofs.Ytaopaongpoecoaa
